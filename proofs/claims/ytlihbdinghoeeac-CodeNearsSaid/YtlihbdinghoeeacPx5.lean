/- For each Go function a Lean function, and the proof that a call comes to what it tells: made by program out of the translation (the kit's print, with texts by hand put in). No condition. -/
import Derived.Test.YtlihbdinghoeeacPx0
import Derived.Test.YtlihbdinghoeeacPx4
namespace Go.Proofs.Ytlihbdinghoeeac.P
open Go.RowKit Go.Proofs.Ytlihbdinghoeeac.HRows Go.Proofs.YtlihbdinghoeeacW.PrintWords Go.Proofs.YtlihbdinghoeeacW.PrintLast Go.Proofs.YtlihbdinghoeeacW.PrintMore
attribute [local go_sem] max2_int min2_int max_two min_two max_three min_three max_four min_four   -- for this text's walks alone
set_option linter.unusedVariables false
set_option linter.unusedSimpArgs false

/-! ### code_Near: function 15, by hand (code.Near.lean.tpl) -/
def code_Near.f (k : Nat) (a0 : Int) : Option Int := (slices_BinarySearch_int_int.f k CdTable.vals a0).bind fun t => some ((mx (if t.2 = true then t.1 else wrap64 (t.1 - 1)) 0) % 256)
theorem code_Near.mono : ∀ a0 k, LeO (code_Near.f k a0) (code_Near.f (k + 1) a0) := by
  intro a0 k
  unfold code_Near.f
  exact LeO.bind (slices_BinarySearch_int_int.mono _ _ _) (fun _ => LeO.refl _)
theorem near_a {r1 r : Int} {r2 : Bool} (h : (mx (if r2 = true then r1 else wrap64 (r1 - 1)) 0) % 256 = r) (h2 : (!r2) = true) (h3 : wrap64 (r1 - 1) < 0) : (0 : Int) = r := by
  cases r2 with
  | true => simp at h2
  | false => rw [if_neg (by simp), mx, if_pos h3] at h; exact h
theorem near_b {r1 r : Int} {r2 : Bool} (h : (mx (if r2 = true then r1 else wrap64 (r1 - 1)) 0) % 256 = r) (h2 : (!r2) = true) (h3 : 0 ≤ wrap64 (r1 - 1)) : wrap64 (r1 - 1) % 256 = r := by
  cases r2 with
  | true => simp at h2
  | false => rw [if_neg (by simp), mx, if_neg (by omega)] at h; exact h
theorem near_c {r1 r : Int} {r2 : Bool} (h : (mx (if r2 = true then r1 else wrap64 (r1 - 1)) 0) % 256 = r) (h2 : (!r2) = false) (h3 : r1 < 0) : (0 : Int) = r := by
  cases r2 with
  | false => simp at h2
  | true => rw [if_pos rfl, mx, if_pos h3] at h; exact h
theorem near_d {r1 r : Int} {r2 : Bool} (h : (mx (if r2 = true then r1 else wrap64 (r1 - 1)) 0) % 256 = r) (h2 : (!r2) = false) (h3 : 0 ≤ r1) : r1 % 256 = r := by
  cases r2 with
  | false => simp at h2
  | true => rw [if_pos rfl, mx, if_neg (by omega)] at h; exact h
set_option maxRecDepth 100000 in
set_option maxHeartbeats 4000000 in
theorem code_Near.calls (k : Nat) (a0 : Int) (r : Int) (w : World) (h : code_Near.f k a0 = some r) : Calls Try.prog 15 #[.int .i64 a0] w fun e w' => e = .returned (.int .u8 r) ∧ Below w.heap.size w w' := by
  unfold code_Near.f at h
  obtain ⟨⟨r1, r2⟩, hs, hr⟩ := Option.bind_eq_some_iff.mp h
  clear h
  have hr' := Option.some.inj hr
  clear hr
  have hV := CdValues.values_calls w.heap.size w.heap.size (w.alloc (CdTable.tableRow (.slice none 0 0) 0 0)) (Nat.le_refl _) (by simp) (blk_new _ _)
  have HV := Aside0.mk hV
  have HS := Aside0.mk hs
  have HR := Aside0.mk hr'
  clear hV hs hr'
  go_enter Try.func15, Try.ntmps15
  go_wp2_with (first
    | (go_at_call 17; refine HV.out.mono ?_; rintro e w' ⟨v, rfl, h1, h2⟩; obtain ⟨A1, c1, hv, hle, hC⟩ := Kd.R_reads h1; subst hv; have H2 := Aside0.mk h2; have H3 := Aside0.mk hC; have H4 := Aside0.mk hle; clear h1 h2 hC hle)
    | (go_at_call 18; refine (slices_BinarySearch_int_int.calls k _ _ _ _ r1 r2 _ H3.out H4.out HS.out).mono ?_; rintro e w2 ⟨rfl, hd⟩; have H5 := Aside0.mk hd; clear hd))
  all_goals
    have hbel := Below.trans (below_alloc (Below.refl w.heap.size w) _) H2.out
    have hend := below_then hbel hbel.size H5.out.below
    go_ret
    refine ⟨?_, hend⟩
    first
      | exact congrArg (fun z => Ending.returned (.int .u8 z)) (near_a HR.out (by assumption) (by assumption))
      | exact congrArg (fun z => Ending.returned (.int .u8 z)) (near_b HR.out (by assumption) (by assumption))
      | exact congrArg (fun z => Ending.returned (.int .u8 z)) (near_c HR.out (by assumption) (by assumption))
      | exact congrArg (fun z => Ending.returned (.int .u8 z)) (near_d HR.out (by assumption) (by assumption))

end Go.Proofs.Ytlihbdinghoeeac.P

/- For each Go function a Lean function, and the proof that a call comes to what it tells: made by program out of the translation (the kit's print, with texts by hand put in). No condition. -/
import Derived.Test.YtlihbdinghoeeabPx0
namespace Go.Proofs.Ytlihbdinghoeeab.P
open Go.RowKit Go.Proofs.Ytlihbdinghoeeab.HRows Go.Proofs.YtlihbdinghoeeabW.PrintWords Go.Proofs.YtlihbdinghoeeabW.PrintLast Go.Proofs.YtlihbdinghoeeabW.PrintMore
attribute [local go_sem] max2_int min2_int max_two min_two max_three min_three max_four min_four   -- for this text's walks alone
set_option linter.unusedVariables false
set_option linter.unusedSimpArgs false

/-! ### heap_copied: function 24, by hand (heap.copied.lean.tpl) -/
def heap_copied.f (l0 : List (S24)) (a1 : Int) : Option (List (S24)) := if 0 ≤ a1 ∧ (l0.length : Int) + a1 ≤ 8796093022208 then some l0 else none
theorem k_item_M {w : World} {base : Nat} {ok : Nat → Prop} {x : S24} {cs : List Value} (h : k24.K w x cs) : k24.M w base ok x cs := by
  obtain rfl := k24_open h
  exact k24_mkM w base ok x
set_option maxHeartbeats 2000000 in
theorem heap_copied.calls (A0 : Option Addr) (c0 : Nat) (l0 : List (S24)) (a1 : Int) (r : List (S24)) (w : World) (hr0 : Kd.C k24 w A0 l0.length l0) (hc0 : l0.length ≤ c0) (h : heap_copied.f l0 a1 = some r) :
    Calls Try.prog 24 #[.slice A0 l0.length c0, .int .i64 a1] w fun e w' => ∃ v0_ : Value, e = .returned (v0_) ∧ Kd.R k24 24 w' w.heap.size (fun _ => True) v0_ r ∧ Below w.heap.size w w' := by
  unfold heap_copied.f at h
  split at h
  case isFalse => cases h
  case isTrue hb =>
  obtain rfl := Option.some.inj h
  clear h
  obtain ⟨hb0, hb1⟩ := hb
  obtain ⟨m, rfl⟩ := Int.eq_ofNat_of_zero_le hb0
  clear hb0
  obtain ⟨i0, hi0, hz0⟩ := Option.map_eq_some_iff.1 info24
  simp only [Prod.mk.injEq] at hz0
  obtain ⟨hz, hsz, hby⟩ := hz0
  have hmk : (Instr.makeSlice 22 (.int .i64 (l0.length : Int)) (.int .i64 ((l0.length : Int) + (m : Int)))).run Try.prog w = .ok (.slice (some ⟨w.heap.size, 0, none⟩) l0.length (l0.length + m)) (w.alloc (.cells (madeCells #[.int .i64 0, .int .i64 0] ((l0.length + m) * 2)) 24)) := by
    have := run_make w 22 24 i0 _ Try.underlying22 hi0 hz .i64 .i64 (l0.length : Int) ((l0.length : Int) + (m : Int)) (by omega) (by omega) (by rw [hby]; omega) (by omega)
    rw [hsz, show ((l0.length : Int)).toNat = l0.length from by omega, show ((l0.length : Int) + (m : Int)).toNat = l0.length + m from by omega] at this
    exact this
  obtain ⟨inner, hin, hre, hcell⟩ := C_cells hr0
  have hin2 : inner.length = l0.length * 2 := hin
  have hone := reps_one hre
  have hcp : ∀ ty, ∃ cur : Array Value, (Builtin.copy_ #[22, 22] ty #[.slice (some ⟨w.heap.size, 0, none⟩) l0.length (l0.length + m), .slice A0 l0.length c0]).run Try.prog (w.alloc (.cells (madeCells #[.int .i64 0, .int .i64 0] ((l0.length + m) * 2)) 24)) =
      .ok (goInt l0.length) ((w.alloc (.cells (madeCells #[.int .i64 0, .int .i64 0] ((l0.length + m) * 2)) 24)).setRow w.heap.size cur) ∧ cur.size = (l0.length + m) * 2 ∧ cur.toList.take (l0.length * 2) = inner := by
    intro ty
    have hg := heap_alloc_new w (.cells (madeCells #[.int .i64 0, .int .i64 0] ((l0.length + m) * 2)) 24)
    rcases Nat.eq_zero_or_pos l0.length with h0 | h0
    · refine ⟨madeCells #[.int .i64 0, .int .i64 0] ((l0.length + m) * 2), ?_, size_madeCells _ _, ?_⟩
      · rw [setRow_self _ _ _ _ _ hg, h0]
        exact run_copy_zero _ _ _ _ _ _ _ _ _ _ _ Try.underlying22 (by rw [hi0]; exact congrArg some hsz)
      · rw [h0, Nat.zero_mul, List.take_zero]
        exact (List.eq_nil_of_length_eq_zero (by rw [hin2, h0])).symm
    · obtain ⟨ad, rfl, hsrc⟩ := hcell h0
      have hs := size_madeCells #[.int .i64 0, .int .i64 0] ((l0.length + m) * 2)
      refine ⟨((madeCells #[.int .i64 0, .int .i64 0] ((l0.length + m) * 2)).toList.take 0 ++ inner ++ (madeCells #[.int .i64 0, .int .i64 0] ((l0.length + m) * 2)).toList.drop (0 + inner.length)).toArray, ?_, ?_, ?_⟩
      · have := run_copy_rows (P := Try.prog) (w.alloc (.cells (madeCells #[.int .i64 0, .int .i64 0] ((l0.length + m) * 2)) 24)) 22 22 ty 24 w.heap.size 0 l0.length (l0.length + m) ad l0.length c0 2 _ _ inner
          Try.underlying22 (by rw [hi0]; exact congrArg some hsz) hg (by rw [show Nat.min l0.length l0.length = l0.length from Nat.min_self _]; exact hin2)
          (fun j v hv => (World.cell?_alloc_lt w _ _ (World.block_lt_of_cell? w _ (hsrc j v hv))).trans (hsrc j v hv)) (by rw [hs]; omega) hone
        rw [show Nat.min l0.length l0.length = l0.length from Nat.min_self _] at this
        exact this
      · simp only [List.size_toArray, List.length_append, List.length_take, List.length_drop, Array.length_toList, hs]
        omega
      · simp only [List.take_zero, List.nil_append, List.toList_toArray]
        rw [List.take_append_of_le_length (by omega), List.take_of_length_le (by omega)]
  obtain ⟨cur, hcp, hcs, hct⟩ := hcp 3
  have HH := Aside0.mk hcs
  have HT := Aside0.mk hct
  have HR := Aside0.mk hre
  clear hcell hr0 hin hin2 hone hre hcs hct hi0 hz hsz hby
  have hlen : l0.length ≤ 8796093022208 := by omega
  go_enter Try.func24, Try.ntmps24
  go_wp2
  go_ret
  refine ⟨_, rfl, R_new_row (d := k24) (e := 24) (cur := cur) (fun x cs h => k_item_M h) (HR.out.imp_ (fun _ _ h => k24.K_below ?_ h)) (setRow_heap _ _ _ _ _ _ (heap_alloc_new _ _)) (Nat.le_refl _) (by omega) (by simp only [maxLen]; omega) HH.out HT.out, ?_⟩
  · exact below_setRow (below_alloc (Below.refl _ _) _) (Nat.le_refl _) _
  · exact below_setRow (below_alloc (Below.refl _ _) _) (Nat.le_refl _) _

end Go.Proofs.Ytlihbdinghoeeab.P

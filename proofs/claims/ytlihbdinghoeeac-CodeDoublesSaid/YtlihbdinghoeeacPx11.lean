/- For each Go function a Lean function, and the proof that a call comes to what it tells: made by program out of the translation (the kit's print, with texts by hand put in). No condition. -/
import Derived.Test.YtlihbdinghoeeacPx0
import Derived.Test.YtlihbdinghoeeacPx2
import Derived.Test.YtlihbdinghoeeacPx6
namespace Go.Proofs.Ytlihbdinghoeeac.P
open Go.RowKit Go.Proofs.Ytlihbdinghoeeac.HRows Go.Proofs.YtlihbdinghoeeacW.PrintWords Go.Proofs.YtlihbdinghoeeacW.PrintLast Go.Proofs.YtlihbdinghoeeacW.PrintMore
attribute [local go_sem] max2_int min2_int max_two min_two max_three min_three max_four min_four   -- for this text's walks alone
set_option linter.unusedVariables false
set_option linter.unusedSimpArgs false

/-! ### stolonlaw03_CodeDoubles: function 7 -/
def stolonlaw03_CodeDoubles.j0 : Nat → Int → Bool → Bool → Option (Bool)
  | 0, _, _, _ => none
  | k + 1, x0, x3, x12 => if x12 = true then (some x3) else ((code_Value.f x0).bind fun t154 => ((code_Value.f ((x0 - (Int.tmod x0 16)) % 256)).bind fun t155 => (if x3 = true then ((code_Value.f ((x0 + 16) % 256)).bind fun t156 => (if t156 = (wrap64 (2 * t154)) then ((code_Value.f ((x0 + 1) % 256)).bind fun t157 => (some ((wrap64 ((wrap64 (t157 - t154)) * 16)) == t155))) else (some false))) else (some false))))
def stolonlaw03_CodeDoubles.f (k : Nat) (a0 : Int) : Option (Bool) := (stolonlaw03_shown.f k).bind fun t153 => (if a0 < 128 then (stolonlaw03_CodeDoubles.j0 k a0 t153 true) else (stolonlaw03_CodeDoubles.j0 k a0 t153 (decide (a0 > 239))))
theorem stolonlaw03_CodeDoubles.mono_l : ∀ k, (∀ y0 y1 y2, LeO (stolonlaw03_CodeDoubles.j0 k y0 y1 y2) (stolonlaw03_CodeDoubles.j0 (k + 1) y0 y1 y2))
  | 0 => fun _ _ _ r h => by simp [stolonlaw03_CodeDoubles.j0] at h
  | k + 1 => by
    have ih0 := stolonlaw03_CodeDoubles.mono_l k
    · intro y0 y1 y2
      unfold stolonlaw03_CodeDoubles.j0
      repeat' first
      | (with_reducible exact ih0 _ _ _)
      | (with_reducible exact stolonlaw03_shown.mono _)
      | (with_reducible exact LeO.refl _)
      | (with_reducible exact LeO.none _)
      | (with_reducible refine LeO.ite ?_ ?_)
      | (with_reducible refine LeO.bind ?_ (fun _ => ?_))
      | exact ih0 _ _ _
      | exact stolonlaw03_shown.mono _
      | exact LeO.none _
      | refine LeO.ite ?_ ?_
      | refine LeO.bind ?_ (fun _ => ?_)
theorem stolonlaw03_CodeDoubles.mono : ∀ a0 k, LeO (stolonlaw03_CodeDoubles.f k a0) (stolonlaw03_CodeDoubles.f (k + 1) a0) := by
  intro a0 k
  have ih0 := stolonlaw03_CodeDoubles.mono_l k
  unfold stolonlaw03_CodeDoubles.f
  repeat' first
      | (with_reducible exact ih0 _ _ _)
      | (with_reducible exact stolonlaw03_shown.mono _)
      | (with_reducible exact LeO.refl _)
      | (with_reducible exact LeO.none _)
      | (with_reducible refine LeO.ite ?_ ?_)
      | (with_reducible refine LeO.bind ?_ (fun _ => ?_))
      | exact ih0 _ _ _
      | exact stolonlaw03_shown.mono _
      | exact LeO.none _
      | refine LeO.ite ?_ ?_
      | refine LeO.bind ?_ (fun _ => ?_)
set_option maxHeartbeats 8000000 in
set_option maxRecDepth 100000 in
theorem stolonlaw03_CodeDoubles.calls (k : Nat) (a0 : Int) (r : Bool) (w : World) (hTrue : Aside0 (r = true)) (h : stolonlaw03_CodeDoubles.f k a0 = some r) :
    Calls Try.prog 7 #[.int .u8 a0] w fun e w' => e = .returned (.bool r) ∧ Below w.heap.size w w' := by
  have HB := Aside0.mk (Below.refl w.heap.size w)
  have H : ((stolonlaw03_shown.f k).bind fun t153 => (if a0 < 128 then (stolonlaw03_CodeDoubles.j0 k a0 t153 true) else (stolonlaw03_CodeDoubles.j0 k a0 t153 (decide (a0 > 239))))) = some r := h
  clear h
  replace H := Option.bind_eq_some_iff.mp H
  obtain ⟨t153, A20, H⟩ := H
  replace H : (if a0 < 128 then (stolonlaw03_CodeDoubles.j0 k a0 t153 true) else (stolonlaw03_CodeDoubles.j0 k a0 t153 (decide (a0 > 239)))) = some r := H
  have A2 := Aside0.mk A20
  clear A20
  have HC3 := Aside0.mk H
  clear H
  go_enter Try.func7, Try.ntmps7
  go_upto_region 2 with (first | ((with_reducible refine gate_callee (f := 9) rfl ?_); refine goesL_ (some 6) rfl rfl Try.func9 (by kernel_rfl) rfl #[] rfl (by (try simp only [List.map_toArray, List.map_cons, List.map_nil]); first | done | rfl | (simp only [List.length_drop, List.length_take]; rfl)) ?_; (with_reducible refine (stolonlaw03_shown.calls k  t153 _ A2.out).mono ?_); rintro e w4 ⟨rfl, hb⟩; refine ⟨_, rfl, ?_⟩; have n0_ := Aside0.mk (below_step (by repeat (first | (with_reducible first | exact HB.out | apply below_alloc | apply pw_below_drewN | apply below_drew1) | exact HB.out)) hb); clear HB; have HB := n0_; clear n0_; (try clear hb); (try clear hb2); (try clear hk); (try clear hi)))
  (try simp only [Act.put, List.setIfInBounds_toArray, List.set_cons_zero, List.set_cons_succ])
  go_cut [12] (fun v12 wc => ∃ (kq : Nat) (x12_2 : Bool), v12 = .bool x12_2 ∧ Aside0 (stolonlaw03_CodeDoubles.j0 kq a0 t153 x12_2 = some r) ∧ Aside0 (kq ≤ k) ∧ Aside0 (Below w.heap.size w wc))
  case first =>
    have H := HC3.out
    clear HC3
    by_cases c5 : a0 < 128
    · rw [if_pos c5] at H
      have c5b0 : decide (a0 < 128) = true := decide_eq_true c5
      clear c5
      (first | rw [c5b0] | (simp only [i64_w, i32_w]; rw [c5b0]) | skip)
      have H' := Aside0.mk H
      clear H
      go_wp2
      go_meet
      case rel => exact ⟨_, (true), (by first | rfl | (simp; done) | (simp [*]; done)), H', ⟨by first | omega | exact Nat.le_refl _⟩, ⟨by repeat (first | (with_reducible first | exact HB.out | apply below_alloc | apply pw_below_drewN | apply below_drew1) | exact HB.out)⟩⟩
    · rw [if_neg c5] at H
      have c5b0 : decide (a0 < 128) = false := decide_eq_false c5
      clear c5
      (first | rw [c5b0] | (simp only [i64_w, i32_w]; rw [c5b0]) | skip)
      have H' := Aside0.mk H
      clear H
      go_wp2
      go_meet
      case rel => exact ⟨_, (decide (a0 > 239)), (by first | rfl | (simp; done) | (simp [*]; done)), H', ⟨by first | omega | exact Nat.le_refl _⟩, ⟨by repeat (first | (with_reducible first | exact HB.out | apply below_alloc | apply pw_below_drewN | apply below_drew1) | exact HB.out)⟩⟩
  case rest =>
    clear HC3
    try clear p2
    try clear c5
    try clear c5b0
    obtain ⟨kq, x12_2, rfl, HA, HJ2, HB⟩ := hcut
    cases kq with
    | zero => exact absurd HA.out (by simp [stolonlaw03_CodeDoubles.j0])
    | succ kj2 =>
      have H := HA.out
      clear HA
      simp only [stolonlaw03_CodeDoubles.j0] at H
      by_cases c6 : x12_2 = true
      · subst c6
        have H1 : (some t153) = some r := by rw [if_pos rfl] at H; exact H
        clear H
        have H := H1
        clear H1
        obtain rfl := Option.some.inj H
        go_wp2
        go_ret
        exact ⟨by first | rfl | (simp [errW_none, errW_some] <;> rfl) | (simp [*, errW_none, errW_some] <;> rfl), by repeat (first | (with_reducible first | exact HB.out | apply below_alloc | apply pw_below_drewN | apply below_drew1) | exact HB.out)⟩
      · replace c6 := Bool.eq_false_iff.mpr c6
        subst c6
        have H1 : ((code_Value.f a0).bind fun t154 => ((code_Value.f ((a0 - (Int.tmod a0 16)) % 256)).bind fun t155 => (if t153 = true then ((code_Value.f ((a0 + 16) % 256)).bind fun t156 => (if t156 = (wrap64 (2 * t154)) then ((code_Value.f ((a0 + 1) % 256)).bind fun t157 => (some ((wrap64 ((wrap64 (t157 - t154)) * 16)) == t155))) else (some false))) else (some false)))) = some r := by rw [if_neg (show ¬ (false = true) by decide)] at H; exact H
        clear H
        have H := H1
        clear H1
        replace H := Option.bind_eq_some_iff.mp H
        obtain ⟨t154, A70, H⟩ := H
        replace H : ((code_Value.f ((a0 - (Int.tmod a0 16)) % 256)).bind fun t155 => (if t153 = true then ((code_Value.f ((a0 + 16) % 256)).bind fun t156 => (if t156 = (wrap64 (2 * t154)) then ((code_Value.f ((a0 + 1) % 256)).bind fun t157 => (some ((wrap64 ((wrap64 (t157 - t154)) * 16)) == t155))) else (some false))) else (some false))) = some r := H
        have A7 := Aside0.mk A70
        clear A70
        replace H := Option.bind_eq_some_iff.mp H
        obtain ⟨t155, A80, H⟩ := H
        replace H : (if t153 = true then ((code_Value.f ((a0 + 16) % 256)).bind fun t156 => (if t156 = (wrap64 (2 * t154)) then ((code_Value.f ((a0 + 1) % 256)).bind fun t157 => (some ((wrap64 ((wrap64 (t157 - t154)) * 16)) == t155))) else (some false))) else (some false)) = some r := H
        have A8 := Aside0.mk A80
        clear A80
        by_cases c9 : t153 = true
        · subst c9
          have H1 : ((code_Value.f ((a0 + 16) % 256)).bind fun t156 => (if t156 = (wrap64 (2 * t154)) then ((code_Value.f ((a0 + 1) % 256)).bind fun t157 => (some ((wrap64 ((wrap64 (t157 - t154)) * 16)) == t155))) else (some false))) = some r := by rw [if_pos rfl] at H; exact H
          clear H
          have H := H1
          clear H1
          replace H := Option.bind_eq_some_iff.mp H
          obtain ⟨t156, A100, H⟩ := H
          replace H : (if t156 = (wrap64 (2 * t154)) then ((code_Value.f ((a0 + 1) % 256)).bind fun t157 => (some ((wrap64 ((wrap64 (t157 - t154)) * 16)) == t155))) else (some false)) = some r := H
          have A10 := Aside0.mk A100
          clear A100
          by_cases c11 : t156 = (wrap64 (2 * t154))
          · rw [if_pos c11] at H
            have c11b0 : (t156 == (wrap64 (2 * t154))) = true := beq_iff_eq.mpr c11
            have c11b1 : (t156 != (wrap64 (2 * t154))) = false := bne_eq_false_iff_eq.mpr c11
            clear c11
            replace H := Option.bind_eq_some_iff.mp H
            obtain ⟨t157, A120, H⟩ := H
            replace H : (some ((wrap64 ((wrap64 (t157 - t154)) * 16)) == t155)) = some r := H
            have A12 := Aside0.mk A120
            clear A120
            obtain rfl := Option.some.inj H
            go_wp2_with (first | ((with_reducible refine gate_callee (f := 12) rfl ?_); refine goesL_ (some 15) rfl rfl Try.func12 (by kernel_rfl) rfl #[.int .u8 a0] rfl (by (try simp only [List.map_toArray, List.map_cons, List.map_nil]); first | done | rfl | (simp only [List.length_drop, List.length_take]; rfl)) ?_; (with_reducible refine (code_Value.calls a0 t154 _ A7.out).mono ?_); rintro e w13 ⟨rfl, hb⟩; refine ⟨_, rfl, ?_⟩; have n0_ := Aside0.mk (below_step (by repeat (first | (with_reducible first | exact HB.out | apply below_alloc | apply pw_below_drewN | apply below_drew1) | exact HB.out)) hb); clear HB; have HB := n0_; clear n0_; (try clear hb); (try clear hb2); (try clear hk); (try clear hi)) | ((with_reducible refine gate_callee (f := 12) rfl ?_); refine goesL_ (some 20) rfl rfl Try.func12 (by kernel_rfl) rfl #[.int .u8 ((a0 - (Int.tmod a0 16)) % 256)] rfl (by (try simp only [List.map_toArray, List.map_cons, List.map_nil]); first | done | rfl | (simp only [List.length_drop, List.length_take]; rfl)) ?_; (with_reducible refine (code_Value.calls ((a0 - (Int.tmod a0 16)) % 256) t155 _ A8.out).mono ?_); rintro e w14 ⟨rfl, hb⟩; refine ⟨_, rfl, ?_⟩; have n0_ := Aside0.mk (below_step (by repeat (first | (with_reducible first | exact HB.out | apply below_alloc | apply pw_below_drewN | apply below_drew1) | exact HB.out)) hb); clear HB; have HB := n0_; clear n0_; (try clear hb); (try clear hb2); (try clear hk); (try clear hi)) | (go_at_call 12; (with_reducible refine (code_Value.calls ((a0 + 16) % 256) t156 _ A10.out).mono ?_); rintro e w15 ⟨rfl, hb⟩; have n0_ := Aside0.mk (below_step (by repeat (first | (with_reducible first | exact HB.out | apply below_alloc | apply pw_below_drewN | apply below_drew1) | exact HB.out)) hb); clear HB; have HB := n0_; clear n0_; (try clear hb); (try clear hb2); (try clear hk); (try clear hi)) | (go_at_call 12; (with_reducible refine (code_Value.calls ((a0 + 1) % 256) t157 _ A12.out).mono ?_); rintro e w16 ⟨rfl, hb⟩; have n0_ := Aside0.mk (below_step (by repeat (first | (with_reducible first | exact HB.out | apply below_alloc | apply pw_below_drewN | apply below_drew1) | exact HB.out)) hb); clear HB; have HB := n0_; clear n0_; (try clear hb); (try clear hb2); (try clear hk); (try clear hi)))
            go_ret
            exact ⟨by first | rfl | (simp [errW_none, errW_some] <;> rfl) | (simp [*, errW_none, errW_some] <;> rfl), by repeat (first | (with_reducible first | exact HB.out | apply below_alloc | apply pw_below_drewN | apply below_drew1) | exact HB.out)⟩
          · rw [if_neg c11] at H
            have c11b0 : (t156 == (wrap64 (2 * t154))) = false := beq_eq_false_iff_ne.mpr c11
            have c11b1 : (t156 != (wrap64 (2 * t154))) = true := bne_iff_ne.mpr c11
            exact absurd ((Option.some.inj H).trans hTrue.out) (by simp)
        · replace c9 := Bool.eq_false_iff.mpr c9
          subst c9
          have H1 : (some false) = some r := by rw [if_neg (show ¬ (false = true) by decide)] at H; exact H
          clear H
          have H := H1
          clear H1
          exact absurd ((Option.some.inj H).trans hTrue.out) (by simp)

end Go.Proofs.Ytlihbdinghoeeac.P

/- For each Go function a Lean function, and the proof that a call comes to what it tells: made by program out of the translation (the kit's print, with texts by hand put in). No condition. -/
import Derived.Test.YtlihbdinghoeeacPx0
import Derived.Test.YtlihbdinghoeeacPx5
import Derived.Test.YtlihbdinghoeeacPx6
namespace Go.Proofs.Ytlihbdinghoeeac.P
open Go.RowKit Go.Proofs.Ytlihbdinghoeeac.HRows Go.Proofs.YtlihbdinghoeeacW.PrintWords Go.Proofs.YtlihbdinghoeeacW.PrintLast Go.Proofs.YtlihbdinghoeeacW.PrintMore
attribute [local go_sem] max2_int min2_int max_two min_two max_three min_three max_four min_four   -- for this text's walks alone
set_option linter.unusedVariables false
set_option linter.unusedSimpArgs false

/-! ### stolonlaw03_CodeLess: function 8 -/
def stolonlaw03_CodeLess.f (k : Nat) (a0 : Int) (a1 : Int) : Option (Bool) := (stolonlaw03_shown.f k).bind fun t158 => (if t158 = true then (if a0 > a1 then (if a0 > 0 then (if a0 < 31744 then (some true) else ((code_Near.f k a0).bind fun t159 => (some (t159 == 255)))) else ((code_Near.f k a0).bind fun t160 => (if t160 = 0 then (if a0 < 31744 then (some true) else ((code_Near.f k a0).bind fun t161 => (some (t161 == 255)))) else (some false)))) else ((code_Near.f k a0).bind fun t162 => ((code_Near.f k a1).bind fun t163 => (if t162 ≤ t163 then (if a0 > 0 then (if a0 < 31744 then (some true) else ((code_Near.f k a0).bind fun t164 => (some (t164 == 255)))) else ((code_Near.f k a0).bind fun t165 => (if t165 = 0 then (if a0 < 31744 then (some true) else ((code_Near.f k a0).bind fun t166 => (some (t166 == 255)))) else (some false)))) else (some false))))) else (some false))
theorem stolonlaw03_CodeLess.mono : ∀ a0 a1 k, LeO (stolonlaw03_CodeLess.f k a0 a1) (stolonlaw03_CodeLess.f (k + 1) a0 a1) := by
  intro a0 a1 k
  unfold stolonlaw03_CodeLess.f
  repeat' first
      | (with_reducible exact code_Near.mono _ _)
      | (with_reducible exact stolonlaw03_shown.mono _)
      | (with_reducible exact LeO.refl _)
      | (with_reducible exact LeO.none _)
      | (with_reducible refine LeO.ite ?_ ?_)
      | (with_reducible refine LeO.bind ?_ (fun _ => ?_))
      | exact code_Near.mono _ _
      | exact stolonlaw03_shown.mono _
      | exact LeO.none _
      | refine LeO.ite ?_ ?_
      | refine LeO.bind ?_ (fun _ => ?_)
set_option maxHeartbeats 8000000 in
set_option maxRecDepth 100000 in
theorem stolonlaw03_CodeLess.calls (k : Nat) (a0 : Int) (a1 : Int) (r : Bool) (w : World) (hTrue : Aside0 (r = true)) (h : stolonlaw03_CodeLess.f k a0 a1 = some r) :
    Calls Try.prog 8 #[.int .i64 a0, .int .i64 a1] w fun e w' => e = .returned (.bool r) ∧ Below w.heap.size w w' := by
  have HB := Aside0.mk (Below.refl w.heap.size w)
  have H : ((stolonlaw03_shown.f k).bind fun t158 => (if t158 = true then (if a0 > a1 then (if a0 > 0 then (if a0 < 31744 then (some true) else ((code_Near.f k a0).bind fun t159 => (some (t159 == 255)))) else ((code_Near.f k a0).bind fun t160 => (if t160 = 0 then (if a0 < 31744 then (some true) else ((code_Near.f k a0).bind fun t161 => (some (t161 == 255)))) else (some false)))) else ((code_Near.f k a0).bind fun t162 => ((code_Near.f k a1).bind fun t163 => (if t162 ≤ t163 then (if a0 > 0 then (if a0 < 31744 then (some true) else ((code_Near.f k a0).bind fun t164 => (some (t164 == 255)))) else ((code_Near.f k a0).bind fun t165 => (if t165 = 0 then (if a0 < 31744 then (some true) else ((code_Near.f k a0).bind fun t166 => (some (t166 == 255)))) else (some false)))) else (some false))))) else (some false))) = some r := h
  clear h
  replace H := Option.bind_eq_some_iff.mp H
  obtain ⟨t158, A30, H⟩ := H
  replace H : (if t158 = true then (if a0 > a1 then (if a0 > 0 then (if a0 < 31744 then (some true) else ((code_Near.f k a0).bind fun t159 => (some (t159 == 255)))) else ((code_Near.f k a0).bind fun t160 => (if t160 = 0 then (if a0 < 31744 then (some true) else ((code_Near.f k a0).bind fun t161 => (some (t161 == 255)))) else (some false)))) else ((code_Near.f k a0).bind fun t162 => ((code_Near.f k a1).bind fun t163 => (if t162 ≤ t163 then (if a0 > 0 then (if a0 < 31744 then (some true) else ((code_Near.f k a0).bind fun t164 => (some (t164 == 255)))) else ((code_Near.f k a0).bind fun t165 => (if t165 = 0 then (if a0 < 31744 then (some true) else ((code_Near.f k a0).bind fun t166 => (some (t166 == 255)))) else (some false)))) else (some false))))) else (some false)) = some r := H
  have A3 := Aside0.mk A30
  clear A30
  by_cases c4 : t158 = true
  · subst c4
    have H1 : (if a0 > a1 then (if a0 > 0 then (if a0 < 31744 then (some true) else ((code_Near.f k a0).bind fun t159 => (some (t159 == 255)))) else ((code_Near.f k a0).bind fun t160 => (if t160 = 0 then (if a0 < 31744 then (some true) else ((code_Near.f k a0).bind fun t161 => (some (t161 == 255)))) else (some false)))) else ((code_Near.f k a0).bind fun t162 => ((code_Near.f k a1).bind fun t163 => (if t162 ≤ t163 then (if a0 > 0 then (if a0 < 31744 then (some true) else ((code_Near.f k a0).bind fun t164 => (some (t164 == 255)))) else ((code_Near.f k a0).bind fun t165 => (if t165 = 0 then (if a0 < 31744 then (some true) else ((code_Near.f k a0).bind fun t166 => (some (t166 == 255)))) else (some false)))) else (some false))))) = some r := by rw [if_pos rfl] at H; exact H
    clear H
    have H := H1
    clear H1
    by_cases c5 : a0 > a1
    · rw [if_pos c5] at H
      have c5b0 : decide (a1 < a0) = true := decide_eq_true c5
      clear c5
      by_cases c6 : a0 > 0
      · rw [if_pos c6] at H
        have c6b0 : decide (0 < a0) = true := decide_eq_true c6
        clear c6
        by_cases c7 : a0 < 31744
        · rw [if_pos c7] at H
          have c7b0 : decide (a0 < 31744) = true := decide_eq_true c7
          clear c7
          obtain rfl := Option.some.inj H
          go_enter Try.func8, Try.ntmps8
          go_wp2_with (first | ((with_reducible refine gate_callee (f := 9) rfl ?_); refine goesL_ (some 6) rfl rfl Try.func9 (by kernel_rfl) rfl #[] rfl (by (try simp only [List.map_toArray, List.map_cons, List.map_nil]); first | done | rfl | (simp only [List.length_drop, List.length_take]; rfl)) ?_; (with_reducible refine (stolonlaw03_shown.calls k  true _ A3.out).mono ?_); rintro e w8 ⟨rfl, hb⟩; refine ⟨_, rfl, ?_⟩; have n0_ := Aside0.mk (below_step (by repeat (first | (with_reducible first | exact HB.out | apply below_alloc | apply pw_below_drewN | apply below_drew1) | exact HB.out)) hb); clear HB; have HB := n0_; clear n0_; (try clear hb); (try clear hb2); (try clear hk); (try clear hi)))
          go_ret
          exact ⟨by first | rfl | (simp [errW_none, errW_some] <;> rfl) | (simp [*, errW_none, errW_some] <;> rfl), by repeat (first | (with_reducible first | exact HB.out | apply below_alloc | apply pw_below_drewN | apply below_drew1) | exact HB.out)⟩
        · rw [if_neg c7] at H
          have c7b0 : decide (a0 < 31744) = false := decide_eq_false c7
          clear c7
          replace H := Option.bind_eq_some_iff.mp H
          obtain ⟨t159, A90, H⟩ := H
          replace H : (some (t159 == 255)) = some r := H
          have A9 := Aside0.mk A90
          clear A90
          obtain rfl := Option.some.inj H
          go_enter Try.func8, Try.ntmps8
          go_wp2_with (first | ((with_reducible refine gate_callee (f := 9) rfl ?_); refine goesL_ (some 6) rfl rfl Try.func9 (by kernel_rfl) rfl #[] rfl (by (try simp only [List.map_toArray, List.map_cons, List.map_nil]); first | done | rfl | (simp only [List.length_drop, List.length_take]; rfl)) ?_; (with_reducible refine (stolonlaw03_shown.calls k  true _ A3.out).mono ?_); rintro e w10 ⟨rfl, hb⟩; refine ⟨_, rfl, ?_⟩; have n0_ := Aside0.mk (below_step (by repeat (first | (with_reducible first | exact HB.out | apply below_alloc | apply pw_below_drewN | apply below_drew1) | exact HB.out)) hb); clear HB; have HB := n0_; clear n0_; (try clear hb); (try clear hb2); (try clear hk); (try clear hi)) | (go_at_call 15; (with_reducible refine (code_Near.calls k a0 t159 _ A9.out).mono ?_); rintro e w11 ⟨rfl, hb⟩; have n0_ := Aside0.mk (below_step (by repeat (first | (with_reducible first | exact HB.out | apply below_alloc | apply pw_below_drewN | apply below_drew1) | exact HB.out)) hb); clear HB; have HB := n0_; clear n0_; (try clear hb); (try clear hb2); (try clear hk); (try clear hi)))
          go_ret
          exact ⟨by first | rfl | (simp [errW_none, errW_some] <;> rfl) | (simp [*, errW_none, errW_some] <;> rfl), by repeat (first | (with_reducible first | exact HB.out | apply below_alloc | apply pw_below_drewN | apply below_drew1) | exact HB.out)⟩
      · rw [if_neg c6] at H
        have c6b0 : decide (0 < a0) = false := decide_eq_false c6
        clear c6
        replace H := Option.bind_eq_some_iff.mp H
        obtain ⟨t160, A120, H⟩ := H
        replace H : (if t160 = 0 then (if a0 < 31744 then (some true) else ((code_Near.f k a0).bind fun t161 => (some (t161 == 255)))) else (some false)) = some r := H
        have A12 := Aside0.mk A120
        clear A120
        by_cases c13 : t160 = 0
        · rw [if_pos c13] at H
          have c13b0 : (t160 == 0) = true := beq_iff_eq.mpr c13
          have c13b1 : (t160 != 0) = false := bne_eq_false_iff_eq.mpr c13
          clear c13
          by_cases c14 : a0 < 31744
          · rw [if_pos c14] at H
            have c14b0 : decide (a0 < 31744) = true := decide_eq_true c14
            clear c14
            obtain rfl := Option.some.inj H
            go_enter Try.func8, Try.ntmps8
            go_wp2_with (first | ((with_reducible refine gate_callee (f := 9) rfl ?_); refine goesL_ (some 6) rfl rfl Try.func9 (by kernel_rfl) rfl #[] rfl (by (try simp only [List.map_toArray, List.map_cons, List.map_nil]); first | done | rfl | (simp only [List.length_drop, List.length_take]; rfl)) ?_; (with_reducible refine (stolonlaw03_shown.calls k  true _ A3.out).mono ?_); rintro e w15 ⟨rfl, hb⟩; refine ⟨_, rfl, ?_⟩; have n0_ := Aside0.mk (below_step (by repeat (first | (with_reducible first | exact HB.out | apply below_alloc | apply pw_below_drewN | apply below_drew1) | exact HB.out)) hb); clear HB; have HB := n0_; clear n0_; (try clear hb); (try clear hb2); (try clear hk); (try clear hi)) | (go_at_call 15; (with_reducible refine (code_Near.calls k a0 t160 _ A12.out).mono ?_); rintro e w16 ⟨rfl, hb⟩; have n0_ := Aside0.mk (below_step (by repeat (first | (with_reducible first | exact HB.out | apply below_alloc | apply pw_below_drewN | apply below_drew1) | exact HB.out)) hb); clear HB; have HB := n0_; clear n0_; (try clear hb); (try clear hb2); (try clear hk); (try clear hi)))
            go_ret
            exact ⟨by first | rfl | (simp [errW_none, errW_some] <;> rfl) | (simp [*, errW_none, errW_some] <;> rfl), by repeat (first | (with_reducible first | exact HB.out | apply below_alloc | apply pw_below_drewN | apply below_drew1) | exact HB.out)⟩
          · rw [if_neg c14] at H
            have c14b0 : decide (a0 < 31744) = false := decide_eq_false c14
            clear c14
            replace H := Option.bind_eq_some_iff.mp H
            obtain ⟨t161, A170, H⟩ := H
            replace H : (some (t161 == 255)) = some r := H
            have A17 := Aside0.mk A170
            clear A170
            have z_ := Option.some.inj (A12.out.symm.trans A17.out)
            subst z_
            obtain rfl := Option.some.inj H
            go_enter Try.func8, Try.ntmps8
            go_wp2_with (first | ((with_reducible refine gate_callee (f := 9) rfl ?_); refine goesL_ (some 6) rfl rfl Try.func9 (by kernel_rfl) rfl #[] rfl (by (try simp only [List.map_toArray, List.map_cons, List.map_nil]); first | done | rfl | (simp only [List.length_drop, List.length_take]; rfl)) ?_; (with_reducible refine (stolonlaw03_shown.calls k  true _ A3.out).mono ?_); rintro e w18 ⟨rfl, hb⟩; refine ⟨_, rfl, ?_⟩; have n0_ := Aside0.mk (below_step (by repeat (first | (with_reducible first | exact HB.out | apply below_alloc | apply pw_below_drewN | apply below_drew1) | exact HB.out)) hb); clear HB; have HB := n0_; clear n0_; (try clear hb); (try clear hb2); (try clear hk); (try clear hi)) | (go_at_call 15; (with_reducible refine (code_Near.calls k a0 t160 _ A12.out).mono ?_); rintro e w19 ⟨rfl, hb⟩; have n0_ := Aside0.mk (below_step (by repeat (first | (with_reducible first | exact HB.out | apply below_alloc | apply pw_below_drewN | apply below_drew1) | exact HB.out)) hb); clear HB; have HB := n0_; clear n0_; (try clear hb); (try clear hb2); (try clear hk); (try clear hi)) | (go_at_call 15; (with_reducible refine (code_Near.calls k a0 t160 _ A17.out).mono ?_); rintro e w20 ⟨rfl, hb⟩; have n0_ := Aside0.mk (below_step (by repeat (first | (with_reducible first | exact HB.out | apply below_alloc | apply pw_below_drewN | apply below_drew1) | exact HB.out)) hb); clear HB; have HB := n0_; clear n0_; (try clear hb); (try clear hb2); (try clear hk); (try clear hi)))
            go_ret
            exact ⟨by first | rfl | (simp [errW_none, errW_some] <;> rfl) | (simp [*, errW_none, errW_some] <;> rfl), by repeat (first | (with_reducible first | exact HB.out | apply below_alloc | apply pw_below_drewN | apply below_drew1) | exact HB.out)⟩
        · rw [if_neg c13] at H
          have c13b0 : (t160 == 0) = false := beq_eq_false_iff_ne.mpr c13
          have c13b1 : (t160 != 0) = true := bne_iff_ne.mpr c13
          exact absurd ((Option.some.inj H).trans hTrue.out) (by simp)
    · rw [if_neg c5] at H
      have c5b0 : decide (a1 < a0) = false := decide_eq_false c5
      clear c5
      replace H := Option.bind_eq_some_iff.mp H
      obtain ⟨t162, A210, H⟩ := H
      replace H : ((code_Near.f k a1).bind fun t163 => (if t162 ≤ t163 then (if a0 > 0 then (if a0 < 31744 then (some true) else ((code_Near.f k a0).bind fun t164 => (some (t164 == 255)))) else ((code_Near.f k a0).bind fun t165 => (if t165 = 0 then (if a0 < 31744 then (some true) else ((code_Near.f k a0).bind fun t166 => (some (t166 == 255)))) else (some false)))) else (some false))) = some r := H
      have A21 := Aside0.mk A210
      clear A210
      replace H := Option.bind_eq_some_iff.mp H
      obtain ⟨t163, A220, H⟩ := H
      replace H : (if t162 ≤ t163 then (if a0 > 0 then (if a0 < 31744 then (some true) else ((code_Near.f k a0).bind fun t164 => (some (t164 == 255)))) else ((code_Near.f k a0).bind fun t165 => (if t165 = 0 then (if a0 < 31744 then (some true) else ((code_Near.f k a0).bind fun t166 => (some (t166 == 255)))) else (some false)))) else (some false)) = some r := H
      have A22 := Aside0.mk A220
      clear A220
      by_cases c23 : t162 ≤ t163
      · rw [if_pos c23] at H
        have c23b0 : decide (t162 ≤ t163) = true := decide_eq_true c23
        clear c23
        by_cases c24 : a0 > 0
        · rw [if_pos c24] at H
          have c24b0 : decide (0 < a0) = true := decide_eq_true c24
          clear c24
          by_cases c25 : a0 < 31744
          · rw [if_pos c25] at H
            have c25b0 : decide (a0 < 31744) = true := decide_eq_true c25
            clear c25
            obtain rfl := Option.some.inj H
            go_enter Try.func8, Try.ntmps8
            go_wp2_with (first | ((with_reducible refine gate_callee (f := 9) rfl ?_); refine goesL_ (some 6) rfl rfl Try.func9 (by kernel_rfl) rfl #[] rfl (by (try simp only [List.map_toArray, List.map_cons, List.map_nil]); first | done | rfl | (simp only [List.length_drop, List.length_take]; rfl)) ?_; (with_reducible refine (stolonlaw03_shown.calls k  true _ A3.out).mono ?_); rintro e w26 ⟨rfl, hb⟩; refine ⟨_, rfl, ?_⟩; have n0_ := Aside0.mk (below_step (by repeat (first | (with_reducible first | exact HB.out | apply below_alloc | apply pw_below_drewN | apply below_drew1) | exact HB.out)) hb); clear HB; have HB := n0_; clear n0_; (try clear hb); (try clear hb2); (try clear hk); (try clear hi)) | (go_at_call 15; (with_reducible refine (code_Near.calls k a0 t162 _ A21.out).mono ?_); rintro e w27 ⟨rfl, hb⟩; have n0_ := Aside0.mk (below_step (by repeat (first | (with_reducible first | exact HB.out | apply below_alloc | apply pw_below_drewN | apply below_drew1) | exact HB.out)) hb); clear HB; have HB := n0_; clear n0_; (try clear hb); (try clear hb2); (try clear hk); (try clear hi)) | (go_at_call 15; (with_reducible refine (code_Near.calls k a1 t163 _ A22.out).mono ?_); rintro e w28 ⟨rfl, hb⟩; have n0_ := Aside0.mk (below_step (by repeat (first | (with_reducible first | exact HB.out | apply below_alloc | apply pw_below_drewN | apply below_drew1) | exact HB.out)) hb); clear HB; have HB := n0_; clear n0_; (try clear hb); (try clear hb2); (try clear hk); (try clear hi)))
            go_ret
            exact ⟨by first | rfl | (simp [errW_none, errW_some] <;> rfl) | (simp [*, errW_none, errW_some] <;> rfl), by repeat (first | (with_reducible first | exact HB.out | apply below_alloc | apply pw_below_drewN | apply below_drew1) | exact HB.out)⟩
          · rw [if_neg c25] at H
            have c25b0 : decide (a0 < 31744) = false := decide_eq_false c25
            clear c25
            replace H := Option.bind_eq_some_iff.mp H
            obtain ⟨t164, A290, H⟩ := H
            replace H : (some (t164 == 255)) = some r := H
            have A29 := Aside0.mk A290
            clear A290
            have z_ := Option.some.inj (A21.out.symm.trans A29.out)
            subst z_
            obtain rfl := Option.some.inj H
            go_enter Try.func8, Try.ntmps8
            go_wp2_with (first | ((with_reducible refine gate_callee (f := 9) rfl ?_); refine goesL_ (some 6) rfl rfl Try.func9 (by kernel_rfl) rfl #[] rfl (by (try simp only [List.map_toArray, List.map_cons, List.map_nil]); first | done | rfl | (simp only [List.length_drop, List.length_take]; rfl)) ?_; (with_reducible refine (stolonlaw03_shown.calls k  true _ A3.out).mono ?_); rintro e w30 ⟨rfl, hb⟩; refine ⟨_, rfl, ?_⟩; have n0_ := Aside0.mk (below_step (by repeat (first | (with_reducible first | exact HB.out | apply below_alloc | apply pw_below_drewN | apply below_drew1) | exact HB.out)) hb); clear HB; have HB := n0_; clear n0_; (try clear hb); (try clear hb2); (try clear hk); (try clear hi)) | (go_at_call 15; (with_reducible refine (code_Near.calls k a0 t162 _ A21.out).mono ?_); rintro e w31 ⟨rfl, hb⟩; have n0_ := Aside0.mk (below_step (by repeat (first | (with_reducible first | exact HB.out | apply below_alloc | apply pw_below_drewN | apply below_drew1) | exact HB.out)) hb); clear HB; have HB := n0_; clear n0_; (try clear hb); (try clear hb2); (try clear hk); (try clear hi)) | (go_at_call 15; (with_reducible refine (code_Near.calls k a1 t163 _ A22.out).mono ?_); rintro e w32 ⟨rfl, hb⟩; have n0_ := Aside0.mk (below_step (by repeat (first | (with_reducible first | exact HB.out | apply below_alloc | apply pw_below_drewN | apply below_drew1) | exact HB.out)) hb); clear HB; have HB := n0_; clear n0_; (try clear hb); (try clear hb2); (try clear hk); (try clear hi)) | (go_at_call 15; (with_reducible refine (code_Near.calls k a0 t162 _ A29.out).mono ?_); rintro e w33 ⟨rfl, hb⟩; have n0_ := Aside0.mk (below_step (by repeat (first | (with_reducible first | exact HB.out | apply below_alloc | apply pw_below_drewN | apply below_drew1) | exact HB.out)) hb); clear HB; have HB := n0_; clear n0_; (try clear hb); (try clear hb2); (try clear hk); (try clear hi)))
            go_ret
            exact ⟨by first | rfl | (simp [errW_none, errW_some] <;> rfl) | (simp [*, errW_none, errW_some] <;> rfl), by repeat (first | (with_reducible first | exact HB.out | apply below_alloc | apply pw_below_drewN | apply below_drew1) | exact HB.out)⟩
        · rw [if_neg c24] at H
          have c24b0 : decide (0 < a0) = false := decide_eq_false c24
          clear c24
          replace H := Option.bind_eq_some_iff.mp H
          obtain ⟨t165, A340, H⟩ := H
          replace H : (if t165 = 0 then (if a0 < 31744 then (some true) else ((code_Near.f k a0).bind fun t166 => (some (t166 == 255)))) else (some false)) = some r := H
          have A34 := Aside0.mk A340
          clear A340
          have z_ := Option.some.inj (A21.out.symm.trans A34.out)
          subst z_
          by_cases c35 : t162 = 0
          · rw [if_pos c35] at H
            have c35b0 : (t162 == 0) = true := beq_iff_eq.mpr c35
            have c35b1 : (t162 != 0) = false := bne_eq_false_iff_eq.mpr c35
            clear c35
            by_cases c36 : a0 < 31744
            · rw [if_pos c36] at H
              have c36b0 : decide (a0 < 31744) = true := decide_eq_true c36
              clear c36
              obtain rfl := Option.some.inj H
              go_enter Try.func8, Try.ntmps8
              go_wp2_with (first | ((with_reducible refine gate_callee (f := 9) rfl ?_); refine goesL_ (some 6) rfl rfl Try.func9 (by kernel_rfl) rfl #[] rfl (by (try simp only [List.map_toArray, List.map_cons, List.map_nil]); first | done | rfl | (simp only [List.length_drop, List.length_take]; rfl)) ?_; (with_reducible refine (stolonlaw03_shown.calls k  true _ A3.out).mono ?_); rintro e w37 ⟨rfl, hb⟩; refine ⟨_, rfl, ?_⟩; have n0_ := Aside0.mk (below_step (by repeat (first | (with_reducible first | exact HB.out | apply below_alloc | apply pw_below_drewN | apply below_drew1) | exact HB.out)) hb); clear HB; have HB := n0_; clear n0_; (try clear hb); (try clear hb2); (try clear hk); (try clear hi)) | (go_at_call 15; (with_reducible refine (code_Near.calls k a0 t162 _ A21.out).mono ?_); rintro e w38 ⟨rfl, hb⟩; have n0_ := Aside0.mk (below_step (by repeat (first | (with_reducible first | exact HB.out | apply below_alloc | apply pw_below_drewN | apply below_drew1) | exact HB.out)) hb); clear HB; have HB := n0_; clear n0_; (try clear hb); (try clear hb2); (try clear hk); (try clear hi)) | (go_at_call 15; (with_reducible refine (code_Near.calls k a1 t163 _ A22.out).mono ?_); rintro e w39 ⟨rfl, hb⟩; have n0_ := Aside0.mk (below_step (by repeat (first | (with_reducible first | exact HB.out | apply below_alloc | apply pw_below_drewN | apply below_drew1) | exact HB.out)) hb); clear HB; have HB := n0_; clear n0_; (try clear hb); (try clear hb2); (try clear hk); (try clear hi)) | (go_at_call 15; (with_reducible refine (code_Near.calls k a0 t162 _ A34.out).mono ?_); rintro e w40 ⟨rfl, hb⟩; have n0_ := Aside0.mk (below_step (by repeat (first | (with_reducible first | exact HB.out | apply below_alloc | apply pw_below_drewN | apply below_drew1) | exact HB.out)) hb); clear HB; have HB := n0_; clear n0_; (try clear hb); (try clear hb2); (try clear hk); (try clear hi)))
              go_ret
              exact ⟨by first | rfl | (simp [errW_none, errW_some] <;> rfl) | (simp [*, errW_none, errW_some] <;> rfl), by repeat (first | (with_reducible first | exact HB.out | apply below_alloc | apply pw_below_drewN | apply below_drew1) | exact HB.out)⟩
            · rw [if_neg c36] at H
              have c36b0 : decide (a0 < 31744) = false := decide_eq_false c36
              clear c36
              replace H := Option.bind_eq_some_iff.mp H
              obtain ⟨t166, A410, H⟩ := H
              replace H : (some (t166 == 255)) = some r := H
              have A41 := Aside0.mk A410
              clear A410
              have z_ := Option.some.inj (A21.out.symm.trans A41.out)
              subst z_
              obtain rfl := Option.some.inj H
              go_enter Try.func8, Try.ntmps8
              go_wp2_with (first | ((with_reducible refine gate_callee (f := 9) rfl ?_); refine goesL_ (some 6) rfl rfl Try.func9 (by kernel_rfl) rfl #[] rfl (by (try simp only [List.map_toArray, List.map_cons, List.map_nil]); first | done | rfl | (simp only [List.length_drop, List.length_take]; rfl)) ?_; (with_reducible refine (stolonlaw03_shown.calls k  true _ A3.out).mono ?_); rintro e w42 ⟨rfl, hb⟩; refine ⟨_, rfl, ?_⟩; have n0_ := Aside0.mk (below_step (by repeat (first | (with_reducible first | exact HB.out | apply below_alloc | apply pw_below_drewN | apply below_drew1) | exact HB.out)) hb); clear HB; have HB := n0_; clear n0_; (try clear hb); (try clear hb2); (try clear hk); (try clear hi)) | (go_at_call 15; (with_reducible refine (code_Near.calls k a0 t162 _ A21.out).mono ?_); rintro e w43 ⟨rfl, hb⟩; have n0_ := Aside0.mk (below_step (by repeat (first | (with_reducible first | exact HB.out | apply below_alloc | apply pw_below_drewN | apply below_drew1) | exact HB.out)) hb); clear HB; have HB := n0_; clear n0_; (try clear hb); (try clear hb2); (try clear hk); (try clear hi)) | (go_at_call 15; (with_reducible refine (code_Near.calls k a1 t163 _ A22.out).mono ?_); rintro e w44 ⟨rfl, hb⟩; have n0_ := Aside0.mk (below_step (by repeat (first | (with_reducible first | exact HB.out | apply below_alloc | apply pw_below_drewN | apply below_drew1) | exact HB.out)) hb); clear HB; have HB := n0_; clear n0_; (try clear hb); (try clear hb2); (try clear hk); (try clear hi)) | (go_at_call 15; (with_reducible refine (code_Near.calls k a0 t162 _ A34.out).mono ?_); rintro e w45 ⟨rfl, hb⟩; have n0_ := Aside0.mk (below_step (by repeat (first | (with_reducible first | exact HB.out | apply below_alloc | apply pw_below_drewN | apply below_drew1) | exact HB.out)) hb); clear HB; have HB := n0_; clear n0_; (try clear hb); (try clear hb2); (try clear hk); (try clear hi)) | (go_at_call 15; (with_reducible refine (code_Near.calls k a0 t162 _ A41.out).mono ?_); rintro e w46 ⟨rfl, hb⟩; have n0_ := Aside0.mk (below_step (by repeat (first | (with_reducible first | exact HB.out | apply below_alloc | apply pw_below_drewN | apply below_drew1) | exact HB.out)) hb); clear HB; have HB := n0_; clear n0_; (try clear hb); (try clear hb2); (try clear hk); (try clear hi)))
              go_ret
              exact ⟨by first | rfl | (simp [errW_none, errW_some] <;> rfl) | (simp [*, errW_none, errW_some] <;> rfl), by repeat (first | (with_reducible first | exact HB.out | apply below_alloc | apply pw_below_drewN | apply below_drew1) | exact HB.out)⟩
          · rw [if_neg c35] at H
            have c35b0 : (t162 == 0) = false := beq_eq_false_iff_ne.mpr c35
            have c35b1 : (t162 != 0) = true := bne_iff_ne.mpr c35
            exact absurd ((Option.some.inj H).trans hTrue.out) (by simp)
      · rw [if_neg c23] at H
        have c23b0 : decide (t162 ≤ t163) = false := decide_eq_false c23
        clear c23
        exact absurd ((Option.some.inj H).trans hTrue.out) (by simp)
  · replace c4 := Bool.eq_false_iff.mpr c4
    subst c4
    have H1 : (some false) = some r := by rw [if_neg (show ¬ (false = true) by decide)] at H; exact H
    clear H
    have H := H1
    clear H1
    exact absurd ((Option.some.inj H).trans hTrue.out) (by simp)

end Go.Proofs.Ytlihbdinghoeeac.P

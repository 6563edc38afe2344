/- For each Go function a Lean function, and the proof that a call comes to what it tells: made by program out of the translation (the kit's print, with texts by hand put in). No condition. -/
import Derived.Test.YtlihbdinghoeeacPx0
import Derived.Test.YtlihbdinghoeeacPx2
import Derived.Test.YtlihbdinghoeeacPx5
import Derived.Test.YtlihbdinghoeeacPx6
namespace Go.Proofs.Ytlihbdinghoeeac.P
open Go.RowKit Go.Proofs.Ytlihbdinghoeeac.HRows Go.Proofs.YtlihbdinghoeeacW.PrintWords Go.Proofs.YtlihbdinghoeeacW.PrintLast Go.Proofs.YtlihbdinghoeeacW.PrintMore
attribute [local go_sem] max2_int min2_int max_two min_two max_three min_three max_four min_four   -- for this text's walks alone
set_option linter.unusedVariables false
set_option linter.unusedSimpArgs false

/-! ### stolonlaw03_CodePlain: function 6 -/
def stolonlaw03_CodePlain.f (k : Nat) (a0 : Int) (a1 : Int) : Option (Bool) := (stolonlaw03_shown.f k).bind fun t144 => ((code_Code.f k (wrap64 (Int.tmod a0 128))).bind fun bt145 => ((code_Near.f k (wrap64 (a1))).bind fun t147 => ((code_Value.f t147).bind fun t148 => (if t144 = true then (if bt145.2 = 0 then (if (wrap64 (bt145.1)) = (wrap64 (Int.tmod a0 128)) then ((code_Value.f ((wrap64 (Int.tmod a0 128)) % 256)).bind fun t149 => (if t149 = (wrap64 (Int.tmod a0 128)) then ((code_Exact.f k (wrap64 (Int.tmod a0 128))).bind fun t150 => (if t150 = true then (if t148 ≤ (wrap64 (a1)) then ((code_Exact.f k t148).bind fun t151 => (if t151 = true then ((code_Exact.f k (wrap64 (a1))).bind fun t152 => (some (t152 == (t148 == (wrap64 (a1)))))) else (some false))) else (some false)) else (some false))) else (some false))) else (some false)) else (some false)) else (some false)))))
theorem stolonlaw03_CodePlain.mono : ∀ a0 a1 k, LeO (stolonlaw03_CodePlain.f k a0 a1) (stolonlaw03_CodePlain.f (k + 1) a0 a1) := by
  intro a0 a1 k
  unfold stolonlaw03_CodePlain.f
  repeat' first
      | (with_reducible exact code_Code.mono _ _)
      | (with_reducible exact code_Exact.mono _ _)
      | (with_reducible exact code_Near.mono _ _)
      | (with_reducible exact stolonlaw03_shown.mono _)
      | (with_reducible exact LeO.refl _)
      | (with_reducible exact LeO.none _)
      | (with_reducible refine LeO.ite ?_ ?_)
      | (with_reducible refine LeO.bind ?_ (fun _ => ?_))
      | exact code_Code.mono _ _
      | exact code_Exact.mono _ _
      | exact code_Near.mono _ _
      | exact stolonlaw03_shown.mono _
      | exact LeO.none _
      | refine LeO.ite ?_ ?_
      | refine LeO.bind ?_ (fun _ => ?_)
set_option maxHeartbeats 8000000 in
set_option maxRecDepth 100000 in
theorem stolonlaw03_CodePlain.calls (k : Nat) (a0 : Int) (a1 : Int) (r : Bool) (w : World) (hTrue : Aside0 (r = true)) (h : stolonlaw03_CodePlain.f k a0 a1 = some r) :
    Calls Try.prog 6 #[.int .u8 a0, .int .u16 a1] w fun e w' => e = .returned (.bool r) ∧ Below w.heap.size w w' := by
  have HB := Aside0.mk (Below.refl w.heap.size w)
  have H : ((stolonlaw03_shown.f k).bind fun t144 => ((code_Code.f k (wrap64 (Int.tmod a0 128))).bind fun bt145 => ((code_Near.f k (wrap64 (a1))).bind fun t147 => ((code_Value.f t147).bind fun t148 => (if t144 = true then (if bt145.2 = 0 then (if (wrap64 (bt145.1)) = (wrap64 (Int.tmod a0 128)) then ((code_Value.f ((wrap64 (Int.tmod a0 128)) % 256)).bind fun t149 => (if t149 = (wrap64 (Int.tmod a0 128)) then ((code_Exact.f k (wrap64 (Int.tmod a0 128))).bind fun t150 => (if t150 = true then (if t148 ≤ (wrap64 (a1)) then ((code_Exact.f k t148).bind fun t151 => (if t151 = true then ((code_Exact.f k (wrap64 (a1))).bind fun t152 => (some (t152 == (t148 == (wrap64 (a1)))))) else (some false))) else (some false)) else (some false))) else (some false))) else (some false)) else (some false)) else (some false)))))) = some r := h
  clear h
  replace H := Option.bind_eq_some_iff.mp H
  obtain ⟨t144, A30, H⟩ := H
  replace H : ((code_Code.f k (wrap64 (Int.tmod a0 128))).bind fun bt145 => ((code_Near.f k (wrap64 (a1))).bind fun t147 => ((code_Value.f t147).bind fun t148 => (if t144 = true then (if bt145.2 = 0 then (if (wrap64 (bt145.1)) = (wrap64 (Int.tmod a0 128)) then ((code_Value.f ((wrap64 (Int.tmod a0 128)) % 256)).bind fun t149 => (if t149 = (wrap64 (Int.tmod a0 128)) then ((code_Exact.f k (wrap64 (Int.tmod a0 128))).bind fun t150 => (if t150 = true then (if t148 ≤ (wrap64 (a1)) then ((code_Exact.f k t148).bind fun t151 => (if t151 = true then ((code_Exact.f k (wrap64 (a1))).bind fun t152 => (some (t152 == (t148 == (wrap64 (a1)))))) else (some false))) else (some false)) else (some false))) else (some false))) else (some false)) else (some false)) else (some false))))) = some r := H
  have A3 := Aside0.mk A30
  clear A30
  replace H := Option.bind_eq_some_iff.mp H
  obtain ⟨⟨t145, t146⟩, A40, H⟩ := H
  replace H : ((code_Near.f k (wrap64 (a1))).bind fun t147 => ((code_Value.f t147).bind fun t148 => (if t144 = true then (if t146 = 0 then (if (wrap64 (t145)) = (wrap64 (Int.tmod a0 128)) then ((code_Value.f ((wrap64 (Int.tmod a0 128)) % 256)).bind fun t149 => (if t149 = (wrap64 (Int.tmod a0 128)) then ((code_Exact.f k (wrap64 (Int.tmod a0 128))).bind fun t150 => (if t150 = true then (if t148 ≤ (wrap64 (a1)) then ((code_Exact.f k t148).bind fun t151 => (if t151 = true then ((code_Exact.f k (wrap64 (a1))).bind fun t152 => (some (t152 == (t148 == (wrap64 (a1)))))) else (some false))) else (some false)) else (some false))) else (some false))) else (some false)) else (some false)) else (some false)))) = some r := H
  have A4 := Aside0.mk A40
  clear A40
  replace H := Option.bind_eq_some_iff.mp H
  obtain ⟨t147, A50, H⟩ := H
  replace H : ((code_Value.f t147).bind fun t148 => (if t144 = true then (if t146 = 0 then (if (wrap64 (t145)) = (wrap64 (Int.tmod a0 128)) then ((code_Value.f ((wrap64 (Int.tmod a0 128)) % 256)).bind fun t149 => (if t149 = (wrap64 (Int.tmod a0 128)) then ((code_Exact.f k (wrap64 (Int.tmod a0 128))).bind fun t150 => (if t150 = true then (if t148 ≤ (wrap64 (a1)) then ((code_Exact.f k t148).bind fun t151 => (if t151 = true then ((code_Exact.f k (wrap64 (a1))).bind fun t152 => (some (t152 == (t148 == (wrap64 (a1)))))) else (some false))) else (some false)) else (some false))) else (some false))) else (some false)) else (some false)) else (some false))) = some r := H
  have A5 := Aside0.mk A50
  clear A50
  replace H := Option.bind_eq_some_iff.mp H
  obtain ⟨t148, A60, H⟩ := H
  replace H : (if t144 = true then (if t146 = 0 then (if (wrap64 (t145)) = (wrap64 (Int.tmod a0 128)) then ((code_Value.f ((wrap64 (Int.tmod a0 128)) % 256)).bind fun t149 => (if t149 = (wrap64 (Int.tmod a0 128)) then ((code_Exact.f k (wrap64 (Int.tmod a0 128))).bind fun t150 => (if t150 = true then (if t148 ≤ (wrap64 (a1)) then ((code_Exact.f k t148).bind fun t151 => (if t151 = true then ((code_Exact.f k (wrap64 (a1))).bind fun t152 => (some (t152 == (t148 == (wrap64 (a1)))))) else (some false))) else (some false)) else (some false))) else (some false))) else (some false)) else (some false)) else (some false)) = some r := H
  have A6 := Aside0.mk A60
  clear A60
  by_cases c7 : t144 = true
  · subst c7
    have H1 : (if t146 = 0 then (if (wrap64 (t145)) = (wrap64 (Int.tmod a0 128)) then ((code_Value.f ((wrap64 (Int.tmod a0 128)) % 256)).bind fun t149 => (if t149 = (wrap64 (Int.tmod a0 128)) then ((code_Exact.f k (wrap64 (Int.tmod a0 128))).bind fun t150 => (if t150 = true then (if t148 ≤ (wrap64 (a1)) then ((code_Exact.f k t148).bind fun t151 => (if t151 = true then ((code_Exact.f k (wrap64 (a1))).bind fun t152 => (some (t152 == (t148 == (wrap64 (a1)))))) else (some false))) else (some false)) else (some false))) else (some false))) else (some false)) else (some false)) = some r := by rw [if_pos rfl] at H; exact H
    clear H
    have H := H1
    clear H1
    by_cases c8 : t146 = 0
    · rw [if_pos c8] at H
      have c8b0 : (t146 == 0) = true := beq_iff_eq.mpr c8
      have c8b1 : (t146 != 0) = false := bne_eq_false_iff_eq.mpr c8
      clear c8
      by_cases c9 : (wrap64 (t145)) = (wrap64 (Int.tmod a0 128))
      · rw [if_pos c9] at H
        have c9b0 : ((wrap64 (t145)) == (wrap64 (Int.tmod a0 128))) = true := beq_iff_eq.mpr c9
        have c9b1 : ((wrap64 (t145)) != (wrap64 (Int.tmod a0 128))) = false := bne_eq_false_iff_eq.mpr c9
        clear c9
        replace H := Option.bind_eq_some_iff.mp H
        obtain ⟨t149, A100, H⟩ := H
        replace H : (if t149 = (wrap64 (Int.tmod a0 128)) then ((code_Exact.f k (wrap64 (Int.tmod a0 128))).bind fun t150 => (if t150 = true then (if t148 ≤ (wrap64 (a1)) then ((code_Exact.f k t148).bind fun t151 => (if t151 = true then ((code_Exact.f k (wrap64 (a1))).bind fun t152 => (some (t152 == (t148 == (wrap64 (a1)))))) else (some false))) else (some false)) else (some false))) else (some false)) = some r := H
        have A10 := Aside0.mk A100
        clear A100
        by_cases c11 : t149 = (wrap64 (Int.tmod a0 128))
        · rw [if_pos c11] at H
          have c11b0 : (t149 == (wrap64 (Int.tmod a0 128))) = true := beq_iff_eq.mpr c11
          have c11b1 : (t149 != (wrap64 (Int.tmod a0 128))) = false := bne_eq_false_iff_eq.mpr c11
          clear c11
          replace H := Option.bind_eq_some_iff.mp H
          obtain ⟨t150, A120, H⟩ := H
          replace H : (if t150 = true then (if t148 ≤ (wrap64 (a1)) then ((code_Exact.f k t148).bind fun t151 => (if t151 = true then ((code_Exact.f k (wrap64 (a1))).bind fun t152 => (some (t152 == (t148 == (wrap64 (a1)))))) else (some false))) else (some false)) else (some false)) = some r := H
          have A12 := Aside0.mk A120
          clear A120
          by_cases c13 : t150 = true
          · subst c13
            have H1 : (if t148 ≤ (wrap64 (a1)) then ((code_Exact.f k t148).bind fun t151 => (if t151 = true then ((code_Exact.f k (wrap64 (a1))).bind fun t152 => (some (t152 == (t148 == (wrap64 (a1)))))) else (some false))) else (some false)) = some r := by rw [if_pos rfl] at H; exact H
            clear H
            have H := H1
            clear H1
            by_cases c14 : t148 ≤ (wrap64 (a1))
            · rw [if_pos c14] at H
              have c14b0 : decide (t148 ≤ (wrap64 (a1))) = true := decide_eq_true c14
              clear c14
              replace H := Option.bind_eq_some_iff.mp H
              obtain ⟨t151, A150, H⟩ := H
              replace H : (if t151 = true then ((code_Exact.f k (wrap64 (a1))).bind fun t152 => (some (t152 == (t148 == (wrap64 (a1)))))) else (some false)) = some r := H
              have A15 := Aside0.mk A150
              clear A150
              by_cases c16 : t151 = true
              · subst c16
                have H1 : ((code_Exact.f k (wrap64 (a1))).bind fun t152 => (some (t152 == (t148 == (wrap64 (a1)))))) = some r := by rw [if_pos rfl] at H; exact H
                clear H
                have H := H1
                clear H1
                replace H := Option.bind_eq_some_iff.mp H
                obtain ⟨t152, A170, H⟩ := H
                replace H : (some (t152 == (t148 == (wrap64 (a1))))) = some r := H
                have A17 := Aside0.mk A170
                clear A170
                obtain rfl := Option.some.inj H
                go_enter Try.func6, Try.ntmps6
                go_wp2_with (first | ((with_reducible refine gate_callee (f := 9) rfl ?_); refine goesL_ (some 10) rfl rfl Try.func9 (by kernel_rfl) rfl #[] rfl (by (try simp only [List.map_toArray, List.map_cons, List.map_nil]); first | done | rfl | (simp only [List.length_drop, List.length_take]; rfl)) ?_; (with_reducible refine (stolonlaw03_shown.calls k  true _ A3.out).mono ?_); rintro e w18 ⟨rfl, hb⟩; refine ⟨_, rfl, ?_⟩; have n0_ := Aside0.mk (below_step (by repeat (first | (with_reducible first | exact HB.out | apply below_alloc | apply pw_below_drewN | apply below_drew1) | exact HB.out)) hb); clear HB; have HB := n0_; clear n0_; (try clear hb); (try clear hb2); (try clear hk); (try clear hi)) | ((with_reducible refine gate_callee (f := 10) rfl ?_); refine goesL_ (some 16) rfl rfl Try.func10 (by kernel_rfl) rfl #[.int .i64 (wrap64 (Int.tmod a0 128))] rfl (by (try simp only [List.map_toArray, List.map_cons, List.map_nil]); first | done | rfl | (simp only [List.length_drop, List.length_take]; rfl)) ?_; (with_reducible refine (code_Code.calls k (wrap64 (Int.tmod a0 128)) t145 t146 _ A4.out).mono ?_); rintro e w19 ⟨rfl, hb⟩; refine ⟨_, rfl, ?_⟩; have n0_ := Aside0.mk (below_step (by repeat (first | (with_reducible first | exact HB.out | apply below_alloc | apply pw_below_drewN | apply below_drew1) | exact HB.out)) hb); clear HB; have HB := n0_; clear n0_; (try clear hb); (try clear hb2); (try clear hk); (try clear hi)) | ((with_reducible refine gate_callee (f := 15) rfl ?_); refine goesL_ (some 21) rfl rfl Try.func15 (by kernel_rfl) rfl #[.int .i64 (wrap64 (a1))] rfl (by (try simp only [List.map_toArray, List.map_cons, List.map_nil]); first | done | rfl | (simp only [List.length_drop, List.length_take]; rfl)) ?_; (with_reducible refine (code_Near.calls k (wrap64 (a1)) t147 _ A5.out).mono ?_); rintro e w20 ⟨rfl, hb⟩; refine ⟨_, rfl, ?_⟩; have n0_ := Aside0.mk (below_step (by repeat (first | (with_reducible first | exact HB.out | apply below_alloc | apply pw_below_drewN | apply below_drew1) | exact HB.out)) hb); clear HB; have HB := n0_; clear n0_; (try clear hb); (try clear hb2); (try clear hk); (try clear hi)) | ((with_reducible refine gate_callee (f := 12) rfl ?_); refine goesL_ (some 22) rfl rfl Try.func12 (by kernel_rfl) rfl #[.int .u8 t147] rfl (by (try simp only [List.map_toArray, List.map_cons, List.map_nil]); first | done | rfl | (simp only [List.length_drop, List.length_take]; rfl)) ?_; (with_reducible refine (code_Value.calls t147 t148 _ A6.out).mono ?_); rintro e w21 ⟨rfl, hb⟩; refine ⟨_, rfl, ?_⟩; have n0_ := Aside0.mk (below_step (by repeat (first | (with_reducible first | exact HB.out | apply below_alloc | apply pw_below_drewN | apply below_drew1) | exact HB.out)) hb); clear HB; have HB := n0_; clear n0_; (try clear hb); (try clear hb2); (try clear hk); (try clear hi)) | (go_at_call 12; (with_reducible refine (code_Value.calls ((wrap64 (Int.tmod a0 128)) % 256) t149 _ A10.out).mono ?_); rintro e w22 ⟨rfl, hb⟩; have n0_ := Aside0.mk (below_step (by repeat (first | (with_reducible first | exact HB.out | apply below_alloc | apply pw_below_drewN | apply below_drew1) | exact HB.out)) hb); clear HB; have HB := n0_; clear n0_; (try clear hb); (try clear hb2); (try clear hk); (try clear hi)) | (go_at_call 14; (with_reducible refine (code_Exact.calls k (wrap64 (Int.tmod a0 128)) true _ A12.out).mono ?_); rintro e w23 ⟨rfl, hb⟩; have n0_ := Aside0.mk (below_step (by repeat (first | (with_reducible first | exact HB.out | apply below_alloc | apply pw_below_drewN | apply below_drew1) | exact HB.out)) hb); clear HB; have HB := n0_; clear n0_; (try clear hb); (try clear hb2); (try clear hk); (try clear hi)) | (go_at_call 14; (with_reducible refine (code_Exact.calls k t148 true _ A15.out).mono ?_); rintro e w24 ⟨rfl, hb⟩; have n0_ := Aside0.mk (below_step (by repeat (first | (with_reducible first | exact HB.out | apply below_alloc | apply pw_below_drewN | apply below_drew1) | exact HB.out)) hb); clear HB; have HB := n0_; clear n0_; (try clear hb); (try clear hb2); (try clear hk); (try clear hi)) | (go_at_call 14; (with_reducible refine (code_Exact.calls k (wrap64 (a1)) t152 _ A17.out).mono ?_); rintro e w25 ⟨rfl, hb⟩; have n0_ := Aside0.mk (below_step (by repeat (first | (with_reducible first | exact HB.out | apply below_alloc | apply pw_below_drewN | apply below_drew1) | exact HB.out)) hb); clear HB; have HB := n0_; clear n0_; (try clear hb); (try clear hb2); (try clear hk); (try clear hi)))
                go_ret
                exact ⟨by first | rfl | (simp [errW_none, errW_some] <;> rfl) | (simp [*, errW_none, errW_some] <;> rfl), by repeat (first | (with_reducible first | exact HB.out | apply below_alloc | apply pw_below_drewN | apply below_drew1) | exact HB.out)⟩
              · replace c16 := Bool.eq_false_iff.mpr c16
                subst c16
                have H1 : (some false) = some r := by rw [if_neg (show ¬ (false = true) by decide)] at H; exact H
                clear H
                have H := H1
                clear H1
                exact absurd ((Option.some.inj H).trans hTrue.out) (by simp)
            · rw [if_neg c14] at H
              have c14b0 : decide (t148 ≤ (wrap64 (a1))) = false := decide_eq_false c14
              clear c14
              exact absurd ((Option.some.inj H).trans hTrue.out) (by simp)
          · replace c13 := Bool.eq_false_iff.mpr c13
            subst c13
            have H1 : (some false) = some r := by rw [if_neg (show ¬ (false = true) by decide)] at H; exact H
            clear H
            have H := H1
            clear H1
            exact absurd ((Option.some.inj H).trans hTrue.out) (by simp)
        · rw [if_neg c11] at H
          have c11b0 : (t149 == (wrap64 (Int.tmod a0 128))) = false := beq_eq_false_iff_ne.mpr c11
          have c11b1 : (t149 != (wrap64 (Int.tmod a0 128))) = true := bne_iff_ne.mpr c11
          exact absurd ((Option.some.inj H).trans hTrue.out) (by simp)
      · rw [if_neg c9] at H
        have c9b0 : ((wrap64 (t145)) == (wrap64 (Int.tmod a0 128))) = false := beq_eq_false_iff_ne.mpr c9
        have c9b1 : ((wrap64 (t145)) != (wrap64 (Int.tmod a0 128))) = true := bne_iff_ne.mpr c9
        exact absurd ((Option.some.inj H).trans hTrue.out) (by simp)
    · rw [if_neg c8] at H
      have c8b0 : (t146 == 0) = false := beq_eq_false_iff_ne.mpr c8
      have c8b1 : (t146 != 0) = true := bne_iff_ne.mpr c8
      exact absurd ((Option.some.inj H).trans hTrue.out) (by simp)
  · replace c7 := Bool.eq_false_iff.mpr c7
    subst c7
    have H1 : (some false) = some r := by rw [if_neg (show ¬ (false = true) by decide)] at H; exact H
    clear H
    have H := H1
    clear H1
    exact absurd ((Option.some.inj H).trans hTrue.out) (by simp)

end Go.Proofs.Ytlihbdinghoeeac.P

/- For each Go function a Lean function, and the proof that a call comes to what it tells: made by program out of the translation (the kit's print, with texts by hand put in). No condition. -/
import Derived.Test.YtboonfidioombaaSq
import Derived.Test.YtboonfidioombaaPx0
import Derived.Test.YtboonfidioombaaPx9
import Derived.Test.YtboonfidioombaaPx19
namespace Go.Proofs.Ytboonfidioombaa.P
open Go.RowKit Go.Proofs.Ytboonfidioombaa.HRows Go.Proofs.YtboonfidioombaaW.PrintWords Go.Proofs.YtboonfidioombaaW.PrintLast Go.Proofs.YtboonfidioombaaW.PrintMore
attribute [local go_sem] max2_int min2_int max_two min_two max_three min_three max_four min_four   -- for this text's walks alone
set_option linter.unusedVariables false
set_option linter.unusedSimpArgs false

/-! ### stolonlaw16_OfmsgKinds: function 9 -/
def stolonlaw16_OfmsgKinds.f (k : Nat) (a0 : Int) (a1 : Int) : Option (Bool) := (stolonlaw16_shown.f k).bind fun t790 => ((ofmsg_Right.f k a0 a1 0 0 0 0 0 ([] : List (S59)) 0 false ([] : List Int)).bind fun t791 => (if a0 ≥ 3 then (if t790 = true then (if (t791 == (decide (a0 ≤ 7))) = true then (if a0 = 8 then ((ofmsg_Right.f k a0 a1 0 0 0 0 0 ([] : List (S59)) 64 false ([] : List Int)).bind fun t792 => (some t792)) else (if a0 = 9 then ((ofmsg_Right.f k a0 a1 0 0 0 0 0 ([] : List (S59)) 64 false ([] : List Int)).bind fun t793 => (some t793)) else (some true))) else (some false)) else (some false)) else (if t790 = true then (if (t791 == false) = true then (if a0 = 8 then ((ofmsg_Right.f k a0 a1 0 0 0 0 0 ([] : List (S59)) 64 false ([] : List Int)).bind fun t794 => (some t794)) else (if a0 = 9 then ((ofmsg_Right.f k a0 a1 0 0 0 0 0 ([] : List (S59)) 64 false ([] : List Int)).bind fun t795 => (some t795)) else (some true))) else (some false)) else (some false))))
theorem stolonlaw16_OfmsgKinds.mono : ∀ a0 a1 k, LeO (stolonlaw16_OfmsgKinds.f k a0 a1) (stolonlaw16_OfmsgKinds.f (k + 1) a0 a1) := by
 intro a0 a1 k
 unfold stolonlaw16_OfmsgKinds.f
 repeat' first
   | (with_reducible exact ofmsg_Right.mono _ _ _ _ _ _ _ _ _ _ _ _)
   | (with_reducible exact stolonlaw16_shown.mono _)
   | (with_reducible exact LeO.refl _)
   | (with_reducible exact LeO.none _)
   | (with_reducible refine LeO.ite ?_ ?_)
   | (with_reducible refine LeO.bind ?_ (fun _ => ?_))
   | exact ofmsg_Right.mono _ _ _ _ _ _ _ _ _ _ _ _
   | exact stolonlaw16_shown.mono _
   | exact LeO.none _
   | refine LeO.ite ?_ ?_
   | refine LeO.bind ?_ (fun _ => ?_)
set_option maxHeartbeats 8000000 in
set_option maxRecDepth 100000 in
theorem stolonlaw16_OfmsgKinds.calls (k : Nat) (a0 : Int) (a1 : Int) (r : Bool) (w : World) (hTrue : Aside0 (r = true)) (h : stolonlaw16_OfmsgKinds.f k a0 a1 = some r) :
  Calls Try.prog 9 #[.int .u8 a0, .int .u32 a1] w fun e w' => e = .returned (.bool r) ∧ Below w.heap.size w w' := by
 have hu29 := Try.underlying29
 have HB := m_ (Below.refl w.heap.size w)
 have H : ((stolonlaw16_shown.f k).bind fun t790 => ((ofmsg_Right.f k a0 a1 0 0 0 0 0 ([] : List (S59)) 0 false ([] : List Int)).bind fun t791 => (if a0 ≥ 3 then (if t790 = true then (if (t791 == (decide (a0 ≤ 7))) = true then (if a0 = 8 then ((ofmsg_Right.f k a0 a1 0 0 0 0 0 ([] : List (S59)) 64 false ([] : List Int)).bind fun t792 => (some t792)) else (if a0 = 9 then ((ofmsg_Right.f k a0 a1 0 0 0 0 0 ([] : List (S59)) 64 false ([] : List Int)).bind fun t793 => (some t793)) else (some true))) else (some false)) else (some false)) else (if t790 = true then (if (t791 == false) = true then (if a0 = 8 then ((ofmsg_Right.f k a0 a1 0 0 0 0 0 ([] : List (S59)) 64 false ([] : List Int)).bind fun t794 => (some t794)) else (if a0 = 9 then ((ofmsg_Right.f k a0 a1 0 0 0 0 0 ([] : List (S59)) 64 false ([] : List Int)).bind fun t795 => (some t795)) else (some true))) else (some false)) else (some false))))) = some r := h
 clear h
 replace H := Option.bind_eq_some_iff.mp H
 obtain ⟨t790, A30, H⟩ := H
 replace H : ((ofmsg_Right.f k a0 a1 0 0 0 0 0 ([] : List (S59)) 0 false ([] : List Int)).bind fun t791 => (if a0 ≥ 3 then (if t790 = true then (if (t791 == (decide (a0 ≤ 7))) = true then (if a0 = 8 then ((ofmsg_Right.f k a0 a1 0 0 0 0 0 ([] : List (S59)) 64 false ([] : List Int)).bind fun t792 => (some t792)) else (if a0 = 9 then ((ofmsg_Right.f k a0 a1 0 0 0 0 0 ([] : List (S59)) 64 false ([] : List Int)).bind fun t793 => (some t793)) else (some true))) else (some false)) else (some false)) else (if t790 = true then (if (t791 == false) = true then (if a0 = 8 then ((ofmsg_Right.f k a0 a1 0 0 0 0 0 ([] : List (S59)) 64 false ([] : List Int)).bind fun t794 => (some t794)) else (if a0 = 9 then ((ofmsg_Right.f k a0 a1 0 0 0 0 0 ([] : List (S59)) 64 false ([] : List Int)).bind fun t795 => (some t795)) else (some true))) else (some false)) else (some false)))) = some r := H
 have A3 := m_ A30
 clear A30
 replace H := Option.bind_eq_some_iff.mp H
 obtain ⟨t791, A40, H⟩ := H
 replace H : (if a0 ≥ 3 then (if t790 = true then (if (t791 == (decide (a0 ≤ 7))) = true then (if a0 = 8 then ((ofmsg_Right.f k a0 a1 0 0 0 0 0 ([] : List (S59)) 64 false ([] : List Int)).bind fun t792 => (some t792)) else (if a0 = 9 then ((ofmsg_Right.f k a0 a1 0 0 0 0 0 ([] : List (S59)) 64 false ([] : List Int)).bind fun t793 => (some t793)) else (some true))) else (some false)) else (some false)) else (if t790 = true then (if (t791 == false) = true then (if a0 = 8 then ((ofmsg_Right.f k a0 a1 0 0 0 0 0 ([] : List (S59)) 64 false ([] : List Int)).bind fun t794 => (some t794)) else (if a0 = 9 then ((ofmsg_Right.f k a0 a1 0 0 0 0 0 ([] : List (S59)) 64 false ([] : List Int)).bind fun t795 => (some t795)) else (some true))) else (some false)) else (some false))) = some r := H
 have A4 := m_ A40
 clear A40
 by_cases c5 : a0 ≥ 3
 ·rw [if_pos c5] at H
  have c5b0 : decide (3 ≤ a0) = true := decide_eq_true c5
  clear c5
  by_cases c6 : t790 = true
  ·subst c6
   have H1 : (if (t791 == (decide (a0 ≤ 7))) = true then (if a0 = 8 then ((ofmsg_Right.f k a0 a1 0 0 0 0 0 ([] : List (S59)) 64 false ([] : List Int)).bind fun t792 => (some t792)) else (if a0 = 9 then ((ofmsg_Right.f k a0 a1 0 0 0 0 0 ([] : List (S59)) 64 false ([] : List Int)).bind fun t793 => (some t793)) else (some true))) else (some false)) = some r := by rw [if_pos rfl] at H; exact H
   clear H
   have H := H1
   clear H1
   by_cases c7 : (t791 == (decide (a0 ≤ 7))) = true
   ·rw [if_pos c7] at H
    have c7b0 : (t791 == (decide (a0 ≤ 7))) = true := c7
    (try (have c7b1 : decide (t791 = (decide (a0 ≤ 7))) = true := by simpa using c7))
    (try (have c7b2 : (t791 == (decide (a0 ≤ 7))) = true := by simpa using c7))
    clear c7
    by_cases c8 : a0 = 8
    ·rw [if_pos c8] at H
     have c8b0 : (a0 == 8) = true := beq_iff_eq.mpr c8
     have c8b1 : (a0 != 8) = false := bne_eq_false_iff_eq.mpr c8
     clear c8
     replace H := Option.bind_eq_some_iff.mp H
     obtain ⟨t792, A90, H⟩ := H
     replace H : (some t792) = some r := H
     have A9 := m_ A90
     clear A90
     obtain rfl := Option.some.inj H
     go_enter Try.func9, Try.ntmps9
     go_wp2_with (first | ((with_reducible refine gate_callee (f := 11) rfl ?_); refine gL_ (some 8) Try.func11 #[] ?_; (with_reducible refine (stolonlaw16_shown.calls k  true _ A3.out).mono ?_); rintro e w10 ⟨rfl, hb⟩; refine ⟨_, rfl, ?_⟩; replace HB := m_ (below_step bz_ hb); (try clear hb); (try clear hb2); (try clear hk); (try clear hi)) | ((with_reducible refine gate_callee (f := 14) rfl ?_); refine gL_ (some 12) Try.func14 #[.agg #[.int .u8 a0, .int .u32 a1, .int .u32 0, .int .u32 0, .int .u32 0, .int .i64 0, .int .u32 0, .slice none 0 0, .int .i64 0, .bool false, .slice none 0 0]] ?_; (refine (ofmsg_Right.calls k a0 a1 0 0 0 0 0 _ _ ([] : List (S59)) 0 false _ _ ([] : List Int) t791 _ ?side1 ?side2 ?side3 ?side4 A4.out).mono ?_); (case side1 => exact Kd.C_nil _ _); (case side2 => exact Nat.le_refl _); (case side3 => exact Kd.C_nil _ _); (case side4 => exact Nat.le_refl _); rintro e w11 ⟨rfl, hb⟩; refine ⟨_, rfl, ?_⟩; replace HB := m_ (below_step bz_ hb); (try clear hb); (try clear hb2); (try clear hk); (try clear hi)) | (go_at_call 14; (refine (ofmsg_Right.calls k a0 a1 0 0 0 0 0 _ _ ([] : List (S59)) 64 false _ _ ([] : List Int) t792 _ ?side1 ?side2 ?side3 ?side4 A9.out).mono ?_); (case side1 => exact Kd.C_nil _ _); (case side2 => exact Nat.le_refl _); (case side3 => exact Kd.C_nil _ _); (case side4 => exact Nat.le_refl _); rintro e w12 ⟨rfl, hb⟩; replace HB := m_ (below_step bz_ hb); (try clear hb); (try clear hb2); (try clear hk); (try clear hi)))
     go_ret
     exact ⟨by first | rfl | (simp [errW_none, errW_some] <;> rfl) | (simp [*, errW_none, errW_some] <;> rfl), by repeat (first | (with_reducible first | exact HB.out | apply below_alloc | apply pw_below_drewN | apply below_drew1) | exact HB.out)⟩
    ·rw [if_neg c8] at H
     have c8b0 : (a0 == 8) = false := beq_eq_false_iff_ne.mpr c8
     have c8b1 : (a0 != 8) = true := bne_iff_ne.mpr c8
     by_cases c13 : a0 = 9
     ·rw [if_pos c13] at H
      have c13b0 : (a0 == 9) = true := beq_iff_eq.mpr c13
      have c13b1 : (a0 != 9) = false := bne_eq_false_iff_eq.mpr c13
      clear c13
      replace H := Option.bind_eq_some_iff.mp H
      obtain ⟨t793, A140, H⟩ := H
      replace H : (some t793) = some r := H
      have A14 := m_ A140
      clear A140
      obtain rfl := Option.some.inj H
      go_enter Try.func9, Try.ntmps9
      go_wp2_with (first | ((with_reducible refine gate_callee (f := 11) rfl ?_); refine gL_ (some 8) Try.func11 #[] ?_; (with_reducible refine (stolonlaw16_shown.calls k  true _ A3.out).mono ?_); rintro e w15 ⟨rfl, hb⟩; refine ⟨_, rfl, ?_⟩; replace HB := m_ (below_step bz_ hb); (try clear hb); (try clear hb2); (try clear hk); (try clear hi)) | ((with_reducible refine gate_callee (f := 14) rfl ?_); refine gL_ (some 12) Try.func14 #[.agg #[.int .u8 a0, .int .u32 a1, .int .u32 0, .int .u32 0, .int .u32 0, .int .i64 0, .int .u32 0, .slice none 0 0, .int .i64 0, .bool false, .slice none 0 0]] ?_; (refine (ofmsg_Right.calls k a0 a1 0 0 0 0 0 _ _ ([] : List (S59)) 0 false _ _ ([] : List Int) t791 _ ?side1 ?side2 ?side3 ?side4 A4.out).mono ?_); (case side1 => exact Kd.C_nil _ _); (case side2 => exact Nat.le_refl _); (case side3 => exact Kd.C_nil _ _); (case side4 => exact Nat.le_refl _); rintro e w16 ⟨rfl, hb⟩; refine ⟨_, rfl, ?_⟩; replace HB := m_ (below_step bz_ hb); (try clear hb); (try clear hb2); (try clear hk); (try clear hi)) | (go_at_call 14; (refine (ofmsg_Right.calls k a0 a1 0 0 0 0 0 _ _ ([] : List (S59)) 64 false _ _ ([] : List Int) t793 _ ?side1 ?side2 ?side3 ?side4 A14.out).mono ?_); (case side1 => exact Kd.C_nil _ _); (case side2 => exact Nat.le_refl _); (case side3 => exact Kd.C_nil _ _); (case side4 => exact Nat.le_refl _); rintro e w17 ⟨rfl, hb⟩; replace HB := m_ (below_step bz_ hb); (try clear hb); (try clear hb2); (try clear hk); (try clear hi)))
      go_ret
      exact ⟨by first | rfl | (simp [errW_none, errW_some] <;> rfl) | (simp [*, errW_none, errW_some] <;> rfl), by repeat (first | (with_reducible first | exact HB.out | apply below_alloc | apply pw_below_drewN | apply below_drew1) | exact HB.out)⟩
     ·rw [if_neg c13] at H
      have c13b0 : (a0 == 9) = false := beq_eq_false_iff_ne.mpr c13
      have c13b1 : (a0 != 9) = true := bne_iff_ne.mpr c13
      obtain rfl := Option.some.inj H
      go_enter Try.func9, Try.ntmps9
      go_wp2_with (first | ((with_reducible refine gate_callee (f := 11) rfl ?_); refine gL_ (some 8) Try.func11 #[] ?_; (with_reducible refine (stolonlaw16_shown.calls k  true _ A3.out).mono ?_); rintro e w18 ⟨rfl, hb⟩; refine ⟨_, rfl, ?_⟩; replace HB := m_ (below_step bz_ hb); (try clear hb); (try clear hb2); (try clear hk); (try clear hi)) | ((with_reducible refine gate_callee (f := 14) rfl ?_); refine gL_ (some 12) Try.func14 #[.agg #[.int .u8 a0, .int .u32 a1, .int .u32 0, .int .u32 0, .int .u32 0, .int .i64 0, .int .u32 0, .slice none 0 0, .int .i64 0, .bool false, .slice none 0 0]] ?_; (refine (ofmsg_Right.calls k a0 a1 0 0 0 0 0 _ _ ([] : List (S59)) 0 false _ _ ([] : List Int) t791 _ ?side1 ?side2 ?side3 ?side4 A4.out).mono ?_); (case side1 => exact Kd.C_nil _ _); (case side2 => exact Nat.le_refl _); (case side3 => exact Kd.C_nil _ _); (case side4 => exact Nat.le_refl _); rintro e w19 ⟨rfl, hb⟩; refine ⟨_, rfl, ?_⟩; replace HB := m_ (below_step bz_ hb); (try clear hb); (try clear hb2); (try clear hk); (try clear hi)))
      go_ret
      exact ⟨by first | rfl | (simp [errW_none, errW_some] <;> rfl) | (simp [*, errW_none, errW_some] <;> rfl), by repeat (first | (with_reducible first | exact HB.out | apply below_alloc | apply pw_below_drewN | apply below_drew1) | exact HB.out)⟩
   ·rw [if_neg c7] at H
    have c7b0 : (t791 == (decide (a0 ≤ 7))) = false := by simpa using c7
    (try (have c7b1 : decide (t791 = (decide (a0 ≤ 7))) = false := by simpa using c7))
    (try (have c7b2 : (t791 == (decide (a0 ≤ 7))) = false := by simpa using c7))
    (try (have c7b3 : ¬ (t791 = (decide (a0 ≤ 7))) := by simpa using c7))
    clear c7
    exact absurd ((Option.some.inj H).trans hTrue.out) (by simp)
  ·replace c6 := Bool.eq_false_iff.mpr c6
   subst c6
   have H1 : (some false) = some r := by rw [if_neg (show ¬ (false = true) by decide)] at H; exact H
   clear H
   have H := H1
   clear H1
   exact absurd ((Option.some.inj H).trans hTrue.out) (by simp)
 ·rw [if_neg c5] at H
  have c5b0 : decide (3 ≤ a0) = false := decide_eq_false c5
  clear c5
  by_cases c20 : t790 = true
  ·subst c20
   have H1 : (if (t791 == false) = true then (if a0 = 8 then ((ofmsg_Right.f k a0 a1 0 0 0 0 0 ([] : List (S59)) 64 false ([] : List Int)).bind fun t794 => (some t794)) else (if a0 = 9 then ((ofmsg_Right.f k a0 a1 0 0 0 0 0 ([] : List (S59)) 64 false ([] : List Int)).bind fun t795 => (some t795)) else (some true))) else (some false)) = some r := by rw [if_pos rfl] at H; exact H
   clear H
   have H := H1
   clear H1
   by_cases c21 : (t791 == false) = true
   ·rw [if_pos c21] at H
    have c21b0 : (t791 == false) = true := c21
    (try (have c21b1 : decide (t791 = false) = true := by simpa using c21))
    (try (have c21b2 : (t791 == false) = true := by simpa using c21))
    clear c21
    by_cases c22 : a0 = 8
    ·rw [if_pos c22] at H
     have c22b0 : (a0 == 8) = true := beq_iff_eq.mpr c22
     have c22b1 : (a0 != 8) = false := bne_eq_false_iff_eq.mpr c22
     clear c22
     replace H := Option.bind_eq_some_iff.mp H
     obtain ⟨t794, A230, H⟩ := H
     replace H : (some t794) = some r := H
     have A23 := m_ A230
     clear A230
     obtain rfl := Option.some.inj H
     go_enter Try.func9, Try.ntmps9
     go_wp2_with (first | ((with_reducible refine gate_callee (f := 11) rfl ?_); refine gL_ (some 8) Try.func11 #[] ?_; (with_reducible refine (stolonlaw16_shown.calls k  true _ A3.out).mono ?_); rintro e w24 ⟨rfl, hb⟩; refine ⟨_, rfl, ?_⟩; replace HB := m_ (below_step bz_ hb); (try clear hb); (try clear hb2); (try clear hk); (try clear hi)) | ((with_reducible refine gate_callee (f := 14) rfl ?_); refine gL_ (some 12) Try.func14 #[.agg #[.int .u8 a0, .int .u32 a1, .int .u32 0, .int .u32 0, .int .u32 0, .int .i64 0, .int .u32 0, .slice none 0 0, .int .i64 0, .bool false, .slice none 0 0]] ?_; (refine (ofmsg_Right.calls k a0 a1 0 0 0 0 0 _ _ ([] : List (S59)) 0 false _ _ ([] : List Int) t791 _ ?side1 ?side2 ?side3 ?side4 A4.out).mono ?_); (case side1 => exact Kd.C_nil _ _); (case side2 => exact Nat.le_refl _); (case side3 => exact Kd.C_nil _ _); (case side4 => exact Nat.le_refl _); rintro e w25 ⟨rfl, hb⟩; refine ⟨_, rfl, ?_⟩; replace HB := m_ (below_step bz_ hb); (try clear hb); (try clear hb2); (try clear hk); (try clear hi)) | (go_at_call 14; (refine (ofmsg_Right.calls k a0 a1 0 0 0 0 0 _ _ ([] : List (S59)) 64 false _ _ ([] : List Int) t794 _ ?side1 ?side2 ?side3 ?side4 A23.out).mono ?_); (case side1 => exact Kd.C_nil _ _); (case side2 => exact Nat.le_refl _); (case side3 => exact Kd.C_nil _ _); (case side4 => exact Nat.le_refl _); rintro e w26 ⟨rfl, hb⟩; replace HB := m_ (below_step bz_ hb); (try clear hb); (try clear hb2); (try clear hk); (try clear hi)))
     go_ret
     exact ⟨by first | rfl | (simp [errW_none, errW_some] <;> rfl) | (simp [*, errW_none, errW_some] <;> rfl), by repeat (first | (with_reducible first | exact HB.out | apply below_alloc | apply pw_below_drewN | apply below_drew1) | exact HB.out)⟩
    ·rw [if_neg c22] at H
     have c22b0 : (a0 == 8) = false := beq_eq_false_iff_ne.mpr c22
     have c22b1 : (a0 != 8) = true := bne_iff_ne.mpr c22
     by_cases c27 : a0 = 9
     ·rw [if_pos c27] at H
      have c27b0 : (a0 == 9) = true := beq_iff_eq.mpr c27
      have c27b1 : (a0 != 9) = false := bne_eq_false_iff_eq.mpr c27
      clear c27
      replace H := Option.bind_eq_some_iff.mp H
      obtain ⟨t795, A280, H⟩ := H
      replace H : (some t795) = some r := H
      have A28 := m_ A280
      clear A280
      obtain rfl := Option.some.inj H
      go_enter Try.func9, Try.ntmps9
      go_wp2_with (first | ((with_reducible refine gate_callee (f := 11) rfl ?_); refine gL_ (some 8) Try.func11 #[] ?_; (with_reducible refine (stolonlaw16_shown.calls k  true _ A3.out).mono ?_); rintro e w29 ⟨rfl, hb⟩; refine ⟨_, rfl, ?_⟩; replace HB := m_ (below_step bz_ hb); (try clear hb); (try clear hb2); (try clear hk); (try clear hi)) | ((with_reducible refine gate_callee (f := 14) rfl ?_); refine gL_ (some 12) Try.func14 #[.agg #[.int .u8 a0, .int .u32 a1, .int .u32 0, .int .u32 0, .int .u32 0, .int .i64 0, .int .u32 0, .slice none 0 0, .int .i64 0, .bool false, .slice none 0 0]] ?_; (refine (ofmsg_Right.calls k a0 a1 0 0 0 0 0 _ _ ([] : List (S59)) 0 false _ _ ([] : List Int) t791 _ ?side1 ?side2 ?side3 ?side4 A4.out).mono ?_); (case side1 => exact Kd.C_nil _ _); (case side2 => exact Nat.le_refl _); (case side3 => exact Kd.C_nil _ _); (case side4 => exact Nat.le_refl _); rintro e w30 ⟨rfl, hb⟩; refine ⟨_, rfl, ?_⟩; replace HB := m_ (below_step bz_ hb); (try clear hb); (try clear hb2); (try clear hk); (try clear hi)) | (go_at_call 14; (refine (ofmsg_Right.calls k a0 a1 0 0 0 0 0 _ _ ([] : List (S59)) 64 false _ _ ([] : List Int) t795 _ ?side1 ?side2 ?side3 ?side4 A28.out).mono ?_); (case side1 => exact Kd.C_nil _ _); (case side2 => exact Nat.le_refl _); (case side3 => exact Kd.C_nil _ _); (case side4 => exact Nat.le_refl _); rintro e w31 ⟨rfl, hb⟩; replace HB := m_ (below_step bz_ hb); (try clear hb); (try clear hb2); (try clear hk); (try clear hi)))
      go_ret
      exact ⟨by first | rfl | (simp [errW_none, errW_some] <;> rfl) | (simp [*, errW_none, errW_some] <;> rfl), by repeat (first | (with_reducible first | exact HB.out | apply below_alloc | apply pw_below_drewN | apply below_drew1) | exact HB.out)⟩
     ·rw [if_neg c27] at H
      have c27b0 : (a0 == 9) = false := beq_eq_false_iff_ne.mpr c27
      have c27b1 : (a0 != 9) = true := bne_iff_ne.mpr c27
      obtain rfl := Option.some.inj H
      go_enter Try.func9, Try.ntmps9
      go_wp2_with (first | ((with_reducible refine gate_callee (f := 11) rfl ?_); refine gL_ (some 8) Try.func11 #[] ?_; (with_reducible refine (stolonlaw16_shown.calls k  true _ A3.out).mono ?_); rintro e w32 ⟨rfl, hb⟩; refine ⟨_, rfl, ?_⟩; replace HB := m_ (below_step bz_ hb); (try clear hb); (try clear hb2); (try clear hk); (try clear hi)) | ((with_reducible refine gate_callee (f := 14) rfl ?_); refine gL_ (some 12) Try.func14 #[.agg #[.int .u8 a0, .int .u32 a1, .int .u32 0, .int .u32 0, .int .u32 0, .int .i64 0, .int .u32 0, .slice none 0 0, .int .i64 0, .bool false, .slice none 0 0]] ?_; (refine (ofmsg_Right.calls k a0 a1 0 0 0 0 0 _ _ ([] : List (S59)) 0 false _ _ ([] : List Int) t791 _ ?side1 ?side2 ?side3 ?side4 A4.out).mono ?_); (case side1 => exact Kd.C_nil _ _); (case side2 => exact Nat.le_refl _); (case side3 => exact Kd.C_nil _ _); (case side4 => exact Nat.le_refl _); rintro e w33 ⟨rfl, hb⟩; refine ⟨_, rfl, ?_⟩; replace HB := m_ (below_step bz_ hb); (try clear hb); (try clear hb2); (try clear hk); (try clear hi)))
      go_ret
      exact ⟨by first | rfl | (simp [errW_none, errW_some] <;> rfl) | (simp [*, errW_none, errW_some] <;> rfl), by repeat (first | (with_reducible first | exact HB.out | apply below_alloc | apply pw_below_drewN | apply below_drew1) | exact HB.out)⟩
   ·rw [if_neg c21] at H
    have c21b0 : (t791 == false) = false := by simpa using c21
    (try (have c21b1 : decide (t791 = false) = false := by simpa using c21))
    (try (have c21b2 : (t791 == false) = false := by simpa using c21))
    (try (have c21b3 : ¬ (t791 = false) := by simpa using c21))
    clear c21
    exact absurd ((Option.some.inj H).trans hTrue.out) (by simp)
  ·replace c20 := Bool.eq_false_iff.mpr c20
   subst c20
   have H1 : (some false) = some r := by rw [if_neg (show ¬ (false = true) by decide)] at H; exact H
   clear H
   have H := H1
   clear H1
   exact absurd ((Option.some.inj H).trans hTrue.out) (by simp)

end Go.Proofs.Ytboonfidioombaa.P

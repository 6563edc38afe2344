/- For each Go function a Lean function, and the proof that a call comes to what it tells: made by program out of the translation (the kit's print, with texts by hand put in). No condition. -/
import Derived.Test.YtplkfpfgnccffaaDoorSq
import Derived.Test.YtplkfpfgnccffaaDoorPx0
import Derived.Test.YtplkfpfgnccffaaDoorPx1
import Derived.Test.YtplkfpfgnccffaaDoorPx8
namespace Go.Proofs.YtplkfpfgnccffaaDoor.P
open Go.RowKit Go.Proofs.YtplkfpfgnccffaaDoor.HRows Go.Proofs.YtplkfpfgnccffaaDoorW.PrintWords Go.Proofs.YtplkfpfgnccffaaDoorW.PrintLast Go.Proofs.YtplkfpfgnccffaaDoorW.PrintMore
attribute [local go_sem] max2_int min2_int max_two min_two max_three min_three max_four min_four   -- for this text's walks alone
set_option linter.unusedVariables false
set_option linter.unusedSimpArgs false

/-! ### stolonlaw01_AddrCuts: function 6 -/
def stolonlaw01_AddrCuts.f (k : Nat) (l0 : List Int) : Option (Bool) := (stolonlaw01_shown.f k).bind fun t181 => (if (l0.length : Int) > 100 then (some t181) else ((addr_Of.f k l0).bind fun bt182 => (if (l0.length : Int) < 4 then (if t181 = true then (if bt182.2 = 3 then (some (bt182.1 == 0)) else (some false)) else (some false)) else (if (l0.length : Int) > 4 then (if t181 = true then (if bt182.2 = 2 then (some (bt182.1 == 0)) else (some false)) else (some false)) else (if t181 = true then (if bt182.2 = 0 then ((addr_Bytes.f bt182.1).bind fun t184 => ((stolonref01_Same.f k t184 l0).bind fun t187 => (some t187))) else (some false)) else (some false))))))
theorem stolonlaw01_AddrCuts.mono : ∀ a0 k, LeO (stolonlaw01_AddrCuts.f k a0) (stolonlaw01_AddrCuts.f (k + 1) a0) := by
 intro a0 k
 unfold stolonlaw01_AddrCuts.f
 repeat' first
   | (with_reducible exact addr_Of.mono _ _)
   | (with_reducible exact stolonlaw01_shown.mono _)
   | (with_reducible exact stolonref01_Same.mono _ _ _)
   | (with_reducible exact LeO.refl _)
   | (with_reducible exact LeO.none _)
   | (with_reducible refine LeO.ite ?_ ?_)
   | (with_reducible refine LeO.bind ?_ (fun _ => ?_))
   | exact addr_Of.mono _ _
   | exact stolonlaw01_shown.mono _
   | exact stolonref01_Same.mono _ _ _
   | exact LeO.none _
   | refine LeO.ite ?_ ?_
   | refine LeO.bind ?_ (fun _ => ?_)
set_option maxHeartbeats 8000000 in
set_option maxRecDepth 100000 in
theorem stolonlaw01_AddrCuts.calls (k : Nat) (A0 : Option Addr) (c0 : Nat) (l0 : List Int) (r : Bool) (w : World) (hr0 : Kd.C (Kd.int .u8) w A0 l0.length l0) (hc0 : l0.length ≤ c0) (hTrue : Aside0 (r = true)) (hL : LaidW w) (h : stolonlaw01_AddrCuts.f k l0 = some r) :
  Calls Tryd.prog 6 #[.slice A0 l0.length c0] w fun e w' => e = .returned (.bool r) ∧ Below w.heap.size w w' := by
 have HLW := m_ hL
 clear hL
 have HR0 := m_ hr0
 have HC0 := m_ hc0
 clear hr0 hc0
 have HB := m_ (Below.refl w.heap.size w)
 have H : ((stolonlaw01_shown.f k).bind fun t181 => (if (l0.length : Int) > 100 then (some t181) else ((addr_Of.f k l0).bind fun bt182 => (if (l0.length : Int) < 4 then (if t181 = true then (if bt182.2 = 3 then (some (bt182.1 == 0)) else (some false)) else (some false)) else (if (l0.length : Int) > 4 then (if t181 = true then (if bt182.2 = 2 then (some (bt182.1 == 0)) else (some false)) else (some false)) else (if t181 = true then (if bt182.2 = 0 then ((addr_Bytes.f bt182.1).bind fun t184 => ((stolonref01_Same.f k t184 l0).bind fun t187 => (some t187))) else (some false)) else (some false))))))) = some r := h
 clear h
 replace H := Option.bind_eq_some_iff.mp H
 obtain ⟨t181, A20, H⟩ := H
 replace H : (if (l0.length : Int) > 100 then (some t181) else ((addr_Of.f k l0).bind fun bt182 => (if (l0.length : Int) < 4 then (if t181 = true then (if bt182.2 = 3 then (some (bt182.1 == 0)) else (some false)) else (some false)) else (if (l0.length : Int) > 4 then (if t181 = true then (if bt182.2 = 2 then (some (bt182.1 == 0)) else (some false)) else (some false)) else (if t181 = true then (if bt182.2 = 0 then ((addr_Bytes.f bt182.1).bind fun t184 => ((stolonref01_Same.f k t184 l0).bind fun t187 => (some t187))) else (some false)) else (some false)))))) = some r := H
 have A2 := m_ A20
 clear A20
 by_cases c3 : (l0.length : Int) > 100
 ·rw [if_pos c3] at H
  have c3b0 : decide (100 < (l0.length : Int)) = true := decide_eq_true c3
  have c3b1 : decide (100 < l0.length) = true := decide_eq_true (by omega)
  clear c3
  obtain rfl := Option.some.inj H
  go_enter Tryd.func6, Tryd.ntmps6
  go_wp2_with (first | ((with_reducible refine gate_callee (f := 9) rfl ?_); refine gL_ (some 6) Tryd.func9 #[] ?_; (with_reducible refine (stolonlaw01_shown.calls k  t181 _ (LaidW.below HLW.out bz_) A2.out).mono ?_); rintro e w4 ⟨rfl, hb⟩; refine ⟨_, rfl, ?_⟩; replace HB := m_ (below_step bz_ hb); (try clear hb); (try clear hb2); (try clear hk); (try clear hi)))
  go_ret
  exact ⟨ew_, bz_⟩
 ·rw [if_neg c3] at H
  have c3b0 : decide (100 < (l0.length : Int)) = false := decide_eq_false c3
  have c3b1 : decide (100 < l0.length) = false := decide_eq_false (by omega)
  clear c3
  replace H := Option.bind_eq_some_iff.mp H
  obtain ⟨⟨t182, t183⟩, A50, H⟩ := H
  replace H : (if (l0.length : Int) < 4 then (if t181 = true then (if t183 = 3 then (some (t182 == 0)) else (some false)) else (some false)) else (if (l0.length : Int) > 4 then (if t181 = true then (if t183 = 2 then (some (t182 == 0)) else (some false)) else (some false)) else (if t181 = true then (if t183 = 0 then ((addr_Bytes.f t182).bind fun t184 => ((stolonref01_Same.f k t184 l0).bind fun t187 => (some t187))) else (some false)) else (some false)))) = some r := H
  have A5 := m_ A50
  clear A50
  by_cases c6 : (l0.length : Int) < 4
  ·rw [if_pos c6] at H
   have c6b0 : decide ((l0.length : Int) < 4) = true := decide_eq_true c6
   have c6b1 : decide (l0.length < 4) = true := decide_eq_true (by omega)
   clear c6
   by_cases c7 : t181 = true
   ·subst c7
    have H1 : (if t183 = 3 then (some (t182 == 0)) else (some false)) = some r := by rw [if_pos rfl] at H; exact H
    clear H
    have H := H1
    clear H1
    by_cases c8 : t183 = 3
    ·rw [if_pos c8] at H
     have c8b0 : (t183 == 3) = true := beq_iff_eq.mpr c8
     have c8b1 : (t183 != 3) = false := bne_eq_false_iff_eq.mpr c8
     clear c8
     obtain rfl := Option.some.inj H
     go_enter Tryd.func6, Tryd.ntmps6
     go_wp2_with (first | ((with_reducible refine gate_callee (f := 9) rfl ?_); refine gL_ (some 6) Tryd.func9 #[] ?_; (with_reducible refine (stolonlaw01_shown.calls k  true _ (LaidW.below HLW.out bz_) A2.out).mono ?_); rintro e w9 ⟨rfl, hb⟩; refine ⟨_, rfl, ?_⟩; replace HB := m_ (below_step bz_ hb); (try clear hb); (try clear hb2); (try clear hk); (try clear hi)) | ((with_reducible refine gate_callee (f := 12) rfl ?_); refine gL_ (some 13) Tryd.func12 #[.slice A0 l0.length c0] ?_; (with_reducible refine (addr_Of.calls k _ _ l0 t182 t183 _ ?side1 ?side2 A5.out).mono ?_); (case side1 => exact Cd_ (Kd.C_below HR0.out HB.out)); (case side2 => exact HC0.out); rintro e w' ⟨rfl, ⟨nd, rfl⟩⟩; refine ⟨_, rfl, ?_⟩))
     go_ret
     exact ⟨ew_, bz_⟩
    ·rw [if_neg c8] at H
     have c8b0 : (t183 == 3) = false := beq_eq_false_iff_ne.mpr c8
     have c8b1 : (t183 != 3) = true := bne_iff_ne.mpr c8
     exact absurd ((Option.some.inj H).trans hTrue.out) (by simp)
   ·replace c7 := Bool.eq_false_iff.mpr c7
    subst c7
    have H1 : (some false) = some r := by rw [if_neg (show ¬ (false = true) by decide)] at H; exact H
    clear H
    have H := H1
    clear H1
    exact absurd ((Option.some.inj H).trans hTrue.out) (by simp)
  ·rw [if_neg c6] at H
   have c6b0 : decide ((l0.length : Int) < 4) = false := decide_eq_false c6
   have c6b1 : decide (l0.length < 4) = false := decide_eq_false (by omega)
   clear c6
   by_cases c10 : (l0.length : Int) > 4
   ·rw [if_pos c10] at H
    have c10b0 : decide (4 < (l0.length : Int)) = true := decide_eq_true c10
    have c10b1 : decide (4 < l0.length) = true := decide_eq_true (by omega)
    clear c10
    by_cases c11 : t181 = true
    ·subst c11
     have H1 : (if t183 = 2 then (some (t182 == 0)) else (some false)) = some r := by rw [if_pos rfl] at H; exact H
     clear H
     have H := H1
     clear H1
     by_cases c12 : t183 = 2
     ·rw [if_pos c12] at H
      have c12b0 : (t183 == 2) = true := beq_iff_eq.mpr c12
      have c12b1 : (t183 != 2) = false := bne_eq_false_iff_eq.mpr c12
      clear c12
      obtain rfl := Option.some.inj H
      go_enter Tryd.func6, Tryd.ntmps6
      go_wp2_with (first | ((with_reducible refine gate_callee (f := 9) rfl ?_); refine gL_ (some 6) Tryd.func9 #[] ?_; (with_reducible refine (stolonlaw01_shown.calls k  true _ (LaidW.below HLW.out bz_) A2.out).mono ?_); rintro e w13 ⟨rfl, hb⟩; refine ⟨_, rfl, ?_⟩; replace HB := m_ (below_step bz_ hb); (try clear hb); (try clear hb2); (try clear hk); (try clear hi)) | ((with_reducible refine gate_callee (f := 12) rfl ?_); refine gL_ (some 13) Tryd.func12 #[.slice A0 l0.length c0] ?_; (with_reducible refine (addr_Of.calls k _ _ l0 t182 t183 _ ?side1 ?side2 A5.out).mono ?_); (case side1 => exact Cd_ (Kd.C_below HR0.out HB.out)); (case side2 => exact HC0.out); rintro e w' ⟨rfl, ⟨nd, rfl⟩⟩; refine ⟨_, rfl, ?_⟩))
      go_ret
      exact ⟨ew_, bz_⟩
     ·rw [if_neg c12] at H
      have c12b0 : (t183 == 2) = false := beq_eq_false_iff_ne.mpr c12
      have c12b1 : (t183 != 2) = true := bne_iff_ne.mpr c12
      exact absurd ((Option.some.inj H).trans hTrue.out) (by simp)
    ·replace c11 := Bool.eq_false_iff.mpr c11
     subst c11
     have H1 : (some false) = some r := by rw [if_neg (show ¬ (false = true) by decide)] at H; exact H
     clear H
     have H := H1
     clear H1
     exact absurd ((Option.some.inj H).trans hTrue.out) (by simp)
   ·rw [if_neg c10] at H
    have c10b0 : decide (4 < (l0.length : Int)) = false := decide_eq_false c10
    have c10b1 : decide (4 < l0.length) = false := decide_eq_false (by omega)
    clear c10
    by_cases c14 : t181 = true
    ·subst c14
     have H1 : (if t183 = 0 then ((addr_Bytes.f t182).bind fun t184 => ((stolonref01_Same.f k t184 l0).bind fun t187 => (some t187))) else (some false)) = some r := by rw [if_pos rfl] at H; exact H
     clear H
     have H := H1
     clear H1
     by_cases c15 : t183 = 0
     ·rw [if_pos c15] at H
      have c15b0 : (t183 == 0) = true := beq_iff_eq.mpr c15
      have c15b1 : (t183 != 0) = false := bne_eq_false_iff_eq.mpr c15
      clear c15
      replace H := Option.bind_eq_some_iff.mp H
      obtain ⟨t184, A160, H⟩ := H
      replace H : ((stolonref01_Same.f k t184 l0).bind fun t187 => (some t187)) = some r := H
      have A16 := m_ A160
      clear A160
      replace H := Option.bind_eq_some_iff.mp H
      obtain ⟨t187, A170, H⟩ := H
      replace H : (some t187) = some r := H
      have A17 := m_ A170
      clear A170
      obtain rfl := Option.some.inj H
      go_enter Tryd.func6, Tryd.ntmps6
      go_wp2_with (first | ((with_reducible refine gate_callee (f := 9) rfl ?_); refine gL_ (some 6) Tryd.func9 #[] ?_; (with_reducible refine (stolonlaw01_shown.calls k  true _ (LaidW.below HLW.out bz_) A2.out).mono ?_); rintro e w18 ⟨rfl, hb⟩; refine ⟨_, rfl, ?_⟩; replace HB := m_ (below_step bz_ hb); (try clear hb); (try clear hb2); (try clear hk); (try clear hi)) | ((with_reducible refine gate_callee (f := 12) rfl ?_); refine gL_ (some 13) Tryd.func12 #[.slice A0 l0.length c0] ?_; (with_reducible refine (addr_Of.calls k _ _ l0 t182 t183 _ ?side1 ?side2 A5.out).mono ?_); (case side1 => exact Cd_ (Kd.C_below HR0.out HB.out)); (case side2 => exact HC0.out); rintro e w' ⟨rfl, ⟨nd, rfl⟩⟩; refine ⟨_, rfl, ?_⟩) | (go_at_call 15; (with_reducible refine (addr_Bytes.calls t182 t184 _ A16.out).mono ?_); rintro e w19 ⟨v185, rfl, ho0, hb⟩; have HO186 := m_ (Kd.R_lower ho0 (below_size bz_)); replace HB := m_ (below_step bz_ hb); (try clear hb); (try clear hb2); (try clear hk); (try clear hi); (try clear ho0); obtain ⟨Ao20, co20, eo20⟩ := Kd.R_slice HO186.out; subst eo20) | (go_at_call 16; (with_reducible refine (stolonref01_Same.calls k _ _ t184 _ _ l0 t187 _ ?side1 ?side2 ?side3 ?side4 A17.out).mono ?_); (case side1 => exact Cd_ (Kd.R_reads' HO186.out).2.2); (case side2 => exact (Kd.R_reads' HO186.out).2.1); (case side3 => exact Cd_ (Kd.C_below HR0.out HB.out)); (case side4 => exact HC0.out); rintro e w' ⟨rfl, ⟨nd, rfl⟩⟩))
      go_ret
      exact ⟨ew_, bz_⟩
     ·rw [if_neg c15] at H
      have c15b0 : (t183 == 0) = false := beq_eq_false_iff_ne.mpr c15
      have c15b1 : (t183 != 0) = true := bne_iff_ne.mpr c15
      exact absurd ((Option.some.inj H).trans hTrue.out) (by simp)
    ·replace c14 := Bool.eq_false_iff.mpr c14
     subst c14
     have H1 : (some false) = some r := by rw [if_neg (show ¬ (false = true) by decide)] at H; exact H
     clear H
     have H := H1
     clear H1
     exact absurd ((Option.some.inj H).trans hTrue.out) (by simp)

end Go.Proofs.YtplkfpfgnccffaaDoor.P

/- For each Go function a Lean function, and the proof that a call comes to what it tells: made by program out of the translation (the kit's print, with texts by hand put in). No condition. -/
import Derived.Test.YtplkfpfgnccffaaDoorSq
import Derived.Test.YtplkfpfgnccffaaDoorPx0
import Derived.Test.YtplkfpfgnccffaaDoorPx1
namespace Go.Proofs.YtplkfpfgnccffaaDoor.P
open Go.RowKit Go.Proofs.YtplkfpfgnccffaaDoor.HRows Go.Proofs.YtplkfpfgnccffaaDoorW.PrintWords Go.Proofs.YtplkfpfgnccffaaDoorW.PrintLast Go.Proofs.YtplkfpfgnccffaaDoorW.PrintMore
attribute [local go_sem] max2_int min2_int max_two min_two max_three min_three max_four min_four   -- for this text's walks alone
set_option linter.unusedVariables false
set_option linter.unusedSimpArgs false

/-! ### stolonlaw01_AddrBack: function 4 -/
def stolonlaw01_AddrBack.f (k : Nat) (a0 : Int) (a1 : ByteArray) : Option (Bool) := (stolonlaw01_shown.f k).bind fun t160 => (if (a1.size : Int) > 100 then (some t160) else ((addr_Text.f a0).bind fun t161 => ((addr_Parse.f k t161).bind fun bt162 => ((addr_Bytes.f a0).bind fun t164 => ((addr_Of.f k t164).bind fun bt167 => ((addr_Parse.f k a1).bind fun bt169 => (if t160 = true then (if bt162.2 = 0 then (if bt162.1 = a0 then (if bt167.2 = 0 then (if bt167.1 = a0 then (if bt169.2 = 0 then ((addr_Text.f bt169.1).bind fun t171 => (if t171.toList = a1.toList then (some true) else (some false))) else (some (bt169.1 == 0))) else (some false)) else (some false)) else (some false)) else (some false)) else (some false))))))))
theorem stolonlaw01_AddrBack.mono : ∀ a0 a1 k, LeO (stolonlaw01_AddrBack.f k a0 a1) (stolonlaw01_AddrBack.f (k + 1) a0 a1) := by
 intro a0 a1 k
 unfold stolonlaw01_AddrBack.f
 repeat' first
   | (with_reducible exact addr_Of.mono _ _)
   | (with_reducible exact addr_Parse.mono _ _)
   | (with_reducible exact stolonlaw01_shown.mono _)
   | (with_reducible exact LeO.refl _)
   | (with_reducible exact LeO.none _)
   | (with_reducible refine LeO.ite ?_ ?_)
   | (with_reducible refine LeO.bind ?_ (fun _ => ?_))
   | exact addr_Of.mono _ _
   | exact addr_Parse.mono _ _
   | exact stolonlaw01_shown.mono _
   | exact LeO.none _
   | refine LeO.ite ?_ ?_
   | refine LeO.bind ?_ (fun _ => ?_)
set_option maxHeartbeats 8000000 in
set_option maxRecDepth 100000 in
theorem stolonlaw01_AddrBack.calls (k : Nat) (a0 : Int) (a1 : ByteArray) (r : Bool) (w : World) (hTrue : Aside0 (r = true)) (hL : LaidW w) (h : stolonlaw01_AddrBack.f k a0 a1 = some r) :
  Calls Tryd.prog 4 #[.int .u32 a0, .string a1] w fun e w' => e = .returned (.bool r) ∧ Below w.heap.size w w' := by
 have HLW := m_ hL
 clear hL
 have HB := m_ (Below.refl w.heap.size w)
 have H : ((stolonlaw01_shown.f k).bind fun t160 => (if (a1.size : Int) > 100 then (some t160) else ((addr_Text.f a0).bind fun t161 => ((addr_Parse.f k t161).bind fun bt162 => ((addr_Bytes.f a0).bind fun t164 => ((addr_Of.f k t164).bind fun bt167 => ((addr_Parse.f k a1).bind fun bt169 => (if t160 = true then (if bt162.2 = 0 then (if bt162.1 = a0 then (if bt167.2 = 0 then (if bt167.1 = a0 then (if bt169.2 = 0 then ((addr_Text.f bt169.1).bind fun t171 => (if t171.toList = a1.toList then (some true) else (some false))) else (some (bt169.1 == 0))) else (some false)) else (some false)) else (some false)) else (some false)) else (some false))))))))) = some r := h
 clear h
 replace H := Option.bind_eq_some_iff.mp H
 obtain ⟨t160, A30, H⟩ := H
 replace H : (if (a1.size : Int) > 100 then (some t160) else ((addr_Text.f a0).bind fun t161 => ((addr_Parse.f k t161).bind fun bt162 => ((addr_Bytes.f a0).bind fun t164 => ((addr_Of.f k t164).bind fun bt167 => ((addr_Parse.f k a1).bind fun bt169 => (if t160 = true then (if bt162.2 = 0 then (if bt162.1 = a0 then (if bt167.2 = 0 then (if bt167.1 = a0 then (if bt169.2 = 0 then ((addr_Text.f bt169.1).bind fun t171 => (if t171.toList = a1.toList then (some true) else (some false))) else (some (bt169.1 == 0))) else (some false)) else (some false)) else (some false)) else (some false)) else (some false)))))))) = some r := H
 have A3 := m_ A30
 clear A30
 by_cases c4 : (a1.size : Int) > 100
 ·rw [if_pos c4] at H
  have c4b0 : decide (100 < (a1.size : Int)) = true := decide_eq_true c4
  have c4b1 : decide (100 < a1.size) = true := decide_eq_true (by omega)
  clear c4
  obtain rfl := Option.some.inj H
  go_enter Tryd.func4, Tryd.ntmps4
  go_wp2_with (first | ((with_reducible refine gate_callee (f := 9) rfl ?_); refine gL_ (some 12) Tryd.func9 #[] ?_; (with_reducible refine (stolonlaw01_shown.calls k  t160 _ (LaidW.below HLW.out bz_) A3.out).mono ?_); rintro e w5 ⟨rfl, hb⟩; refine ⟨_, rfl, ?_⟩; replace HB := m_ (below_step bz_ hb); (try clear hb); (try clear hb2); (try clear hk); (try clear hi)))
  go_ret
  exact ⟨ew_, bz_⟩
 ·rw [if_neg c4] at H
  have c4b0 : decide (100 < (a1.size : Int)) = false := decide_eq_false c4
  have c4b1 : decide (100 < a1.size) = false := decide_eq_false (by omega)
  clear c4
  replace H := Option.bind_eq_some_iff.mp H
  obtain ⟨t161, A60, H⟩ := H
  replace H : ((addr_Parse.f k t161).bind fun bt162 => ((addr_Bytes.f a0).bind fun t164 => ((addr_Of.f k t164).bind fun bt167 => ((addr_Parse.f k a1).bind fun bt169 => (if t160 = true then (if bt162.2 = 0 then (if bt162.1 = a0 then (if bt167.2 = 0 then (if bt167.1 = a0 then (if bt169.2 = 0 then ((addr_Text.f bt169.1).bind fun t171 => (if t171.toList = a1.toList then (some true) else (some false))) else (some (bt169.1 == 0))) else (some false)) else (some false)) else (some false)) else (some false)) else (some false)))))) = some r := H
  have A6 := m_ A60
  clear A60
  replace H := Option.bind_eq_some_iff.mp H
  obtain ⟨⟨t162, t163⟩, A70, H⟩ := H
  replace H : ((addr_Bytes.f a0).bind fun t164 => ((addr_Of.f k t164).bind fun bt167 => ((addr_Parse.f k a1).bind fun bt169 => (if t160 = true then (if t163 = 0 then (if t162 = a0 then (if bt167.2 = 0 then (if bt167.1 = a0 then (if bt169.2 = 0 then ((addr_Text.f bt169.1).bind fun t171 => (if t171.toList = a1.toList then (some true) else (some false))) else (some (bt169.1 == 0))) else (some false)) else (some false)) else (some false)) else (some false)) else (some false))))) = some r := H
  have A7 := m_ A70
  clear A70
  replace H := Option.bind_eq_some_iff.mp H
  obtain ⟨t164, A80, H⟩ := H
  replace H : ((addr_Of.f k t164).bind fun bt167 => ((addr_Parse.f k a1).bind fun bt169 => (if t160 = true then (if t163 = 0 then (if t162 = a0 then (if bt167.2 = 0 then (if bt167.1 = a0 then (if bt169.2 = 0 then ((addr_Text.f bt169.1).bind fun t171 => (if t171.toList = a1.toList then (some true) else (some false))) else (some (bt169.1 == 0))) else (some false)) else (some false)) else (some false)) else (some false)) else (some false)))) = some r := H
  have A8 := m_ A80
  clear A80
  replace H := Option.bind_eq_some_iff.mp H
  obtain ⟨⟨t167, t168⟩, A90, H⟩ := H
  replace H : ((addr_Parse.f k a1).bind fun bt169 => (if t160 = true then (if t163 = 0 then (if t162 = a0 then (if t168 = 0 then (if t167 = a0 then (if bt169.2 = 0 then ((addr_Text.f bt169.1).bind fun t171 => (if t171.toList = a1.toList then (some true) else (some false))) else (some (bt169.1 == 0))) else (some false)) else (some false)) else (some false)) else (some false)) else (some false))) = some r := H
  have A9 := m_ A90
  clear A90
  replace H := Option.bind_eq_some_iff.mp H
  obtain ⟨⟨t169, t170⟩, A100, H⟩ := H
  replace H : (if t160 = true then (if t163 = 0 then (if t162 = a0 then (if t168 = 0 then (if t167 = a0 then (if t170 = 0 then ((addr_Text.f t169).bind fun t171 => (if t171.toList = a1.toList then (some true) else (some false))) else (some (t169 == 0))) else (some false)) else (some false)) else (some false)) else (some false)) else (some false)) = some r := H
  have A10 := m_ A100
  clear A100
  by_cases c11 : t160 = true
  ·subst c11
   have H1 : (if t163 = 0 then (if t162 = a0 then (if t168 = 0 then (if t167 = a0 then (if t170 = 0 then ((addr_Text.f t169).bind fun t171 => (if t171.toList = a1.toList then (some true) else (some false))) else (some (t169 == 0))) else (some false)) else (some false)) else (some false)) else (some false)) = some r := by rw [if_pos rfl] at H; exact H
   clear H
   have H := H1
   clear H1
   by_cases c12 : t163 = 0
   ·rw [if_pos c12] at H
    have c12b0 : (t163 == 0) = true := beq_iff_eq.mpr c12
    have c12b1 : (t163 != 0) = false := bne_eq_false_iff_eq.mpr c12
    clear c12
    by_cases c13 : t162 = a0
    ·rw [if_pos c13] at H
     have c13b0 : (t162 == a0) = true := beq_iff_eq.mpr c13
     have c13b1 : (t162 != a0) = false := bne_eq_false_iff_eq.mpr c13
     clear c13
     by_cases c14 : t168 = 0
     ·rw [if_pos c14] at H
      have c14b0 : (t168 == 0) = true := beq_iff_eq.mpr c14
      have c14b1 : (t168 != 0) = false := bne_eq_false_iff_eq.mpr c14
      clear c14
      by_cases c15 : t167 = a0
      ·rw [if_pos c15] at H
       have c15b0 : (t167 == a0) = true := beq_iff_eq.mpr c15
       have c15b1 : (t167 != a0) = false := bne_eq_false_iff_eq.mpr c15
       clear c15
       by_cases c16 : t170 = 0
       ·rw [if_pos c16] at H
        have c16b0 : (t170 == 0) = true := beq_iff_eq.mpr c16
        have c16b1 : (t170 != 0) = false := bne_eq_false_iff_eq.mpr c16
        clear c16
        replace H := Option.bind_eq_some_iff.mp H
        obtain ⟨t171, A170, H⟩ := H
        replace H : (if t171.toList = a1.toList then (some true) else (some false)) = some r := H
        have A17 := m_ A170
        clear A170
        by_cases c18 : t171.toList = a1.toList
        ·rw [if_pos c18] at H
         have c18b0 : (t171.toList == a1.toList) = true := beq_iff_eq.mpr c18
         have c18b1 : (t171.toList != a1.toList) = false := bne_eq_false_iff_eq.mpr c18
         clear c18
         obtain rfl := Option.some.inj H
         go_enter Tryd.func4, Tryd.ntmps4
         go_wp2_with (first | ((with_reducible refine gate_callee (f := 9) rfl ?_); refine gL_ (some 12) Tryd.func9 #[] ?_; (with_reducible refine (stolonlaw01_shown.calls k  true _ (LaidW.below HLW.out bz_) A3.out).mono ?_); rintro e w19 ⟨rfl, hb⟩; refine ⟨_, rfl, ?_⟩; replace HB := m_ (below_step bz_ hb); (try clear hb); (try clear hb2); (try clear hk); (try clear hi)) | ((with_reducible refine gate_callee (f := 14) rfl ?_); refine gL_ (some 19) Tryd.func14 #[.int .u32 a0] ?_; (with_reducible refine (addr_Text.calls a0 t161 _ (LaidW.below HLW.out bz_) A6.out).mono ?_); rintro e w20 ⟨rfl, hb⟩; refine ⟨_, rfl, ?_⟩; replace HB := m_ (below_step bz_ hb); (try clear hb); (try clear hb2); (try clear hk); (try clear hi)) | ((with_reducible refine gate_callee (f := 10) rfl ?_); refine gL_ (some 20) Tryd.func10 #[.string t161] ?_; (with_reducible refine (addr_Parse.calls k t161 t162 t163 _ (LaidW.below HLW.out bz_) A7.out).mono ?_); rintro e w21 ⟨rfl, hb⟩; refine ⟨_, rfl, ?_⟩; replace HB := m_ (below_step bz_ hb); (try clear hb); (try clear hb2); (try clear hk); (try clear hi)) | ((with_reducible refine gate_callee (f := 15) rfl ?_); refine gL_ (some 25) Tryd.func15 #[.int .u32 a0] ?_; (with_reducible refine (addr_Bytes.calls a0 t164 _ A8.out).mono ?_); rintro e w22 ⟨v165, rfl, ho0, hb⟩; refine ⟨_, rfl, ?_⟩; have HO166 := m_ (Kd.R_lower ho0 (below_size bz_)); replace HB := m_ (below_step bz_ hb); (try clear hb); (try clear hb2); (try clear hk); (try clear hi); (try clear ho0); obtain ⟨Ao23, co23, eo23⟩ := Kd.R_slice HO166.out; subst eo23) | ((with_reducible refine gate_callee (f := 12) rfl ?_); refine gL_ (some 26) Tryd.func12 #[.slice Ao23 t164.length co23] ?_; (with_reducible refine (addr_Of.calls k _ _ t164 t167 t168 _ ?side1 ?side2 A9.out).mono ?_); (case side1 => exact Cd_ (Kd.R_reads' HO166.out).2.2); (case side2 => exact (Kd.R_reads' HO166.out).2.1); rintro e w' ⟨rfl, ⟨nd, rfl⟩⟩; refine ⟨_, rfl, ?_⟩) | ((with_reducible refine gate_callee (f := 10) rfl ?_); refine gL_ (some 31) Tryd.func10 #[.string a1] ?_; (with_reducible refine (addr_Parse.calls k a1 t169 t170 _ (LaidW.below HLW.out bz_) A10.out).mono ?_); rintro e w24 ⟨rfl, hb⟩; refine ⟨_, rfl, ?_⟩; replace HO166 := m_ (Kd.R_below (Rz_ HO166.out) hb); replace HB := m_ (below_step bz_ hb); (try clear hb); (try clear hb2); (try clear hk); (try clear hi)) | (go_at_call 14; (with_reducible refine (addr_Text.calls t169 t171 _ (LaidW.below HLW.out bz_) A17.out).mono ?_); rintro e w25 ⟨rfl, hb⟩; replace HO166 := m_ (Kd.R_below (Rz_ HO166.out) hb); replace HB := m_ (below_step bz_ hb); (try clear hb); (try clear hb2); (try clear hk); (try clear hi)))
         go_ret
         exact ⟨ew_, bz_⟩
        ·rw [if_neg c18] at H
         have c18b0 : (t171.toList == a1.toList) = false := beq_eq_false_iff_ne.mpr c18
         have c18b1 : (t171.toList != a1.toList) = true := bne_iff_ne.mpr c18
         exact absurd ((Option.some.inj H).trans hTrue.out) (by simp)
       ·rw [if_neg c16] at H
        have c16b0 : (t170 == 0) = false := beq_eq_false_iff_ne.mpr c16
        have c16b1 : (t170 != 0) = true := bne_iff_ne.mpr c16
        obtain rfl := Option.some.inj H
        go_enter Tryd.func4, Tryd.ntmps4
        go_wp2_with (first | ((with_reducible refine gate_callee (f := 9) rfl ?_); refine gL_ (some 12) Tryd.func9 #[] ?_; (with_reducible refine (stolonlaw01_shown.calls k  true _ (LaidW.below HLW.out bz_) A3.out).mono ?_); rintro e w26 ⟨rfl, hb⟩; refine ⟨_, rfl, ?_⟩; replace HB := m_ (below_step bz_ hb); (try clear hb); (try clear hb2); (try clear hk); (try clear hi)) | ((with_reducible refine gate_callee (f := 14) rfl ?_); refine gL_ (some 19) Tryd.func14 #[.int .u32 a0] ?_; (with_reducible refine (addr_Text.calls a0 t161 _ (LaidW.below HLW.out bz_) A6.out).mono ?_); rintro e w27 ⟨rfl, hb⟩; refine ⟨_, rfl, ?_⟩; replace HB := m_ (below_step bz_ hb); (try clear hb); (try clear hb2); (try clear hk); (try clear hi)) | ((with_reducible refine gate_callee (f := 10) rfl ?_); refine gL_ (some 20) Tryd.func10 #[.string t161] ?_; (with_reducible refine (addr_Parse.calls k t161 t162 t163 _ (LaidW.below HLW.out bz_) A7.out).mono ?_); rintro e w28 ⟨rfl, hb⟩; refine ⟨_, rfl, ?_⟩; replace HB := m_ (below_step bz_ hb); (try clear hb); (try clear hb2); (try clear hk); (try clear hi)) | ((with_reducible refine gate_callee (f := 15) rfl ?_); refine gL_ (some 25) Tryd.func15 #[.int .u32 a0] ?_; (with_reducible refine (addr_Bytes.calls a0 t164 _ A8.out).mono ?_); rintro e w29 ⟨v165, rfl, ho0, hb⟩; refine ⟨_, rfl, ?_⟩; have HO166 := m_ (Kd.R_lower ho0 (below_size bz_)); replace HB := m_ (below_step bz_ hb); (try clear hb); (try clear hb2); (try clear hk); (try clear hi); (try clear ho0); obtain ⟨Ao30, co30, eo30⟩ := Kd.R_slice HO166.out; subst eo30) | ((with_reducible refine gate_callee (f := 12) rfl ?_); refine gL_ (some 26) Tryd.func12 #[.slice Ao30 t164.length co30] ?_; (with_reducible refine (addr_Of.calls k _ _ t164 t167 t168 _ ?side1 ?side2 A9.out).mono ?_); (case side1 => exact Cd_ (Kd.R_reads' HO166.out).2.2); (case side2 => exact (Kd.R_reads' HO166.out).2.1); rintro e w' ⟨rfl, ⟨nd, rfl⟩⟩; refine ⟨_, rfl, ?_⟩) | ((with_reducible refine gate_callee (f := 10) rfl ?_); refine gL_ (some 31) Tryd.func10 #[.string a1] ?_; (with_reducible refine (addr_Parse.calls k a1 t169 t170 _ (LaidW.below HLW.out bz_) A10.out).mono ?_); rintro e w31 ⟨rfl, hb⟩; refine ⟨_, rfl, ?_⟩; replace HO166 := m_ (Kd.R_below (Rz_ HO166.out) hb); replace HB := m_ (below_step bz_ hb); (try clear hb); (try clear hb2); (try clear hk); (try clear hi)))
        go_ret
        exact ⟨ew_, bz_⟩
      ·rw [if_neg c15] at H
       have c15b0 : (t167 == a0) = false := beq_eq_false_iff_ne.mpr c15
       have c15b1 : (t167 != a0) = true := bne_iff_ne.mpr c15
       exact absurd ((Option.some.inj H).trans hTrue.out) (by simp)
     ·rw [if_neg c14] at H
      have c14b0 : (t168 == 0) = false := beq_eq_false_iff_ne.mpr c14
      have c14b1 : (t168 != 0) = true := bne_iff_ne.mpr c14
      exact absurd ((Option.some.inj H).trans hTrue.out) (by simp)
    ·rw [if_neg c13] at H
     have c13b0 : (t162 == a0) = false := beq_eq_false_iff_ne.mpr c13
     have c13b1 : (t162 != a0) = true := bne_iff_ne.mpr c13
     exact absurd ((Option.some.inj H).trans hTrue.out) (by simp)
   ·rw [if_neg c12] at H
    have c12b0 : (t163 == 0) = false := beq_eq_false_iff_ne.mpr c12
    have c12b1 : (t163 != 0) = true := bne_iff_ne.mpr c12
    exact absurd ((Option.some.inj H).trans hTrue.out) (by simp)
  ·replace c11 := Bool.eq_false_iff.mpr c11
   subst c11
   have H1 : (some false) = some r := by rw [if_neg (show ¬ (false = true) by decide)] at H; exact H
   clear H
   have H := H1
   clear H1
   exact absurd ((Option.some.inj H).trans hTrue.out) (by simp)

end Go.Proofs.YtplkfpfgnccffaaDoor.P

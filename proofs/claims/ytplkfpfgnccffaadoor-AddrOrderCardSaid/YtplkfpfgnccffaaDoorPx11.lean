/- For each Go function a Lean function, and the proof that a call comes to what it tells: made by program out of the translation (the kit's print, with texts by hand put in). No condition. -/
import Derived.Test.YtplkfpfgnccffaaDoorSq
import Derived.Test.YtplkfpfgnccffaaDoorPx0
import Derived.Test.YtplkfpfgnccffaaDoorPx1
import Derived.Test.YtplkfpfgnccffaaDoorPx3
import Derived.Test.YtplkfpfgnccffaaDoorPx8
import Derived.Test.YtplkfpfgnccffaaDoorPx10
namespace Go.Proofs.YtplkfpfgnccffaaDoor.P
open Go.RowKit Go.Proofs.YtplkfpfgnccffaaDoor.HRows Go.Proofs.YtplkfpfgnccffaaDoorW.PrintWords Go.Proofs.YtplkfpfgnccffaaDoorW.PrintLast Go.Proofs.YtplkfpfgnccffaaDoorW.PrintMore
attribute [local go_sem] max2_int min2_int max_two min_two max_three min_three max_four min_four   -- for this text's walks alone
set_option linter.unusedVariables false
set_option linter.unusedSimpArgs false

/-! ### stolonlaw01_AddrTells: function 7 -/
def stolonlaw01_AddrTells.f (k : Nat) (a0 : Int) (a1 : Int) : Option (Bool) := (stolonlaw01_shown.f k).bind fun t188 => (if t188 = true then ((addr_Text.f a0).bind fun t189 => ((stolonref01_Text.f a0).bind fun t190 => (if t189.toList = t190.toList then ((addr_Bytes.f a0).bind fun t191 => ((stolonref01_Bytes.f a0).bind fun t194 => ((stolonref01_Same.f k t191 t194).bind fun t197 => (if t197 = true then ((addr_IsGroup.f a0).bind fun t198 => ((stolonref01_Group.f a0).bind fun t199 => (if (t198 == t199) = true then ((addr_IsLocal.f a0).bind fun t200 => ((stolonref01_Local.f a0).bind fun t201 => (if (t200 == t201) = true then ((addr_IsAsked.f a0).bind fun t202 => ((stolonref01_Asked.f a0).bind fun t203 => (if (t202 == t203) = true then ((addr_Less.f a0 a1).bind fun t204 => (some (t204 == (decide (a0 < a1))))) else (some false)))) else (some false)))) else (some false)))) else (some false))))) else (some false)))) else (some false))
theorem stolonlaw01_AddrTells.mono : ∀ a0 a1 k, LeO (stolonlaw01_AddrTells.f k a0 a1) (stolonlaw01_AddrTells.f (k + 1) a0 a1) := by
 intro a0 a1 k
 unfold stolonlaw01_AddrTells.f
 repeat' first
   | (with_reducible exact stolonlaw01_shown.mono _)
   | (with_reducible exact stolonref01_Same.mono _ _ _)
   | (with_reducible exact LeO.refl _)
   | (with_reducible exact LeO.none _)
   | (with_reducible refine LeO.ite ?_ ?_)
   | (with_reducible refine LeO.bind ?_ (fun _ => ?_))
   | exact stolonlaw01_shown.mono _
   | exact stolonref01_Same.mono _ _ _
   | exact LeO.none _
   | refine LeO.ite ?_ ?_
   | refine LeO.bind ?_ (fun _ => ?_)
set_option maxHeartbeats 8000000 in
set_option maxRecDepth 100000 in
theorem stolonlaw01_AddrTells.calls (k : Nat) (a0 : Int) (a1 : Int) (r : Bool) (w : World) (hTrue : Aside0 (r = true)) (hL : LaidW w) (h : stolonlaw01_AddrTells.f k a0 a1 = some r) :
  Calls Tryd.prog 7 #[.int .u32 a0, .int .u32 a1] w fun e w' => e = .returned (.bool r) ∧ Below w.heap.size w w' := by
 have HLW := m_ hL
 clear hL
 have HB := m_ (Below.refl w.heap.size w)
 have H : ((stolonlaw01_shown.f k).bind fun t188 => (if t188 = true then ((addr_Text.f a0).bind fun t189 => ((stolonref01_Text.f a0).bind fun t190 => (if t189.toList = t190.toList then ((addr_Bytes.f a0).bind fun t191 => ((stolonref01_Bytes.f a0).bind fun t194 => ((stolonref01_Same.f k t191 t194).bind fun t197 => (if t197 = true then ((addr_IsGroup.f a0).bind fun t198 => ((stolonref01_Group.f a0).bind fun t199 => (if (t198 == t199) = true then ((addr_IsLocal.f a0).bind fun t200 => ((stolonref01_Local.f a0).bind fun t201 => (if (t200 == t201) = true then ((addr_IsAsked.f a0).bind fun t202 => ((stolonref01_Asked.f a0).bind fun t203 => (if (t202 == t203) = true then ((addr_Less.f a0 a1).bind fun t204 => (some (t204 == (decide (a0 < a1))))) else (some false)))) else (some false)))) else (some false)))) else (some false))))) else (some false)))) else (some false))) = some r := h
 clear h
 replace H := Option.bind_eq_some_iff.mp H
 obtain ⟨t188, A30, H⟩ := H
 replace H : (if t188 = true then ((addr_Text.f a0).bind fun t189 => ((stolonref01_Text.f a0).bind fun t190 => (if t189.toList = t190.toList then ((addr_Bytes.f a0).bind fun t191 => ((stolonref01_Bytes.f a0).bind fun t194 => ((stolonref01_Same.f k t191 t194).bind fun t197 => (if t197 = true then ((addr_IsGroup.f a0).bind fun t198 => ((stolonref01_Group.f a0).bind fun t199 => (if (t198 == t199) = true then ((addr_IsLocal.f a0).bind fun t200 => ((stolonref01_Local.f a0).bind fun t201 => (if (t200 == t201) = true then ((addr_IsAsked.f a0).bind fun t202 => ((stolonref01_Asked.f a0).bind fun t203 => (if (t202 == t203) = true then ((addr_Less.f a0 a1).bind fun t204 => (some (t204 == (decide (a0 < a1))))) else (some false)))) else (some false)))) else (some false)))) else (some false))))) else (some false)))) else (some false)) = some r := H
 have A3 := m_ A30
 clear A30
 by_cases c4 : t188 = true
 ·subst c4
  have H1 : ((addr_Text.f a0).bind fun t189 => ((stolonref01_Text.f a0).bind fun t190 => (if t189.toList = t190.toList then ((addr_Bytes.f a0).bind fun t191 => ((stolonref01_Bytes.f a0).bind fun t194 => ((stolonref01_Same.f k t191 t194).bind fun t197 => (if t197 = true then ((addr_IsGroup.f a0).bind fun t198 => ((stolonref01_Group.f a0).bind fun t199 => (if (t198 == t199) = true then ((addr_IsLocal.f a0).bind fun t200 => ((stolonref01_Local.f a0).bind fun t201 => (if (t200 == t201) = true then ((addr_IsAsked.f a0).bind fun t202 => ((stolonref01_Asked.f a0).bind fun t203 => (if (t202 == t203) = true then ((addr_Less.f a0 a1).bind fun t204 => (some (t204 == (decide (a0 < a1))))) else (some false)))) else (some false)))) else (some false)))) else (some false))))) else (some false)))) = some r := by rw [if_pos rfl] at H; exact H
  clear H
  have H := H1
  clear H1
  replace H := Option.bind_eq_some_iff.mp H
  obtain ⟨t189, A50, H⟩ := H
  replace H : ((stolonref01_Text.f a0).bind fun t190 => (if t189.toList = t190.toList then ((addr_Bytes.f a0).bind fun t191 => ((stolonref01_Bytes.f a0).bind fun t194 => ((stolonref01_Same.f k t191 t194).bind fun t197 => (if t197 = true then ((addr_IsGroup.f a0).bind fun t198 => ((stolonref01_Group.f a0).bind fun t199 => (if (t198 == t199) = true then ((addr_IsLocal.f a0).bind fun t200 => ((stolonref01_Local.f a0).bind fun t201 => (if (t200 == t201) = true then ((addr_IsAsked.f a0).bind fun t202 => ((stolonref01_Asked.f a0).bind fun t203 => (if (t202 == t203) = true then ((addr_Less.f a0 a1).bind fun t204 => (some (t204 == (decide (a0 < a1))))) else (some false)))) else (some false)))) else (some false)))) else (some false))))) else (some false))) = some r := H
  have A5 := m_ A50
  clear A50
  replace H := Option.bind_eq_some_iff.mp H
  obtain ⟨t190, A60, H⟩ := H
  replace H : (if t189.toList = t190.toList then ((addr_Bytes.f a0).bind fun t191 => ((stolonref01_Bytes.f a0).bind fun t194 => ((stolonref01_Same.f k t191 t194).bind fun t197 => (if t197 = true then ((addr_IsGroup.f a0).bind fun t198 => ((stolonref01_Group.f a0).bind fun t199 => (if (t198 == t199) = true then ((addr_IsLocal.f a0).bind fun t200 => ((stolonref01_Local.f a0).bind fun t201 => (if (t200 == t201) = true then ((addr_IsAsked.f a0).bind fun t202 => ((stolonref01_Asked.f a0).bind fun t203 => (if (t202 == t203) = true then ((addr_Less.f a0 a1).bind fun t204 => (some (t204 == (decide (a0 < a1))))) else (some false)))) else (some false)))) else (some false)))) else (some false))))) else (some false)) = some r := H
  have A6 := m_ A60
  clear A60
  by_cases c7 : t189.toList = t190.toList
  ·rw [if_pos c7] at H
   have c7b0 : (t189.toList == t190.toList) = true := beq_iff_eq.mpr c7
   have c7b1 : (t189.toList != t190.toList) = false := bne_eq_false_iff_eq.mpr c7
   clear c7
   replace H := Option.bind_eq_some_iff.mp H
   obtain ⟨t191, A80, H⟩ := H
   replace H : ((stolonref01_Bytes.f a0).bind fun t194 => ((stolonref01_Same.f k t191 t194).bind fun t197 => (if t197 = true then ((addr_IsGroup.f a0).bind fun t198 => ((stolonref01_Group.f a0).bind fun t199 => (if (t198 == t199) = true then ((addr_IsLocal.f a0).bind fun t200 => ((stolonref01_Local.f a0).bind fun t201 => (if (t200 == t201) = true then ((addr_IsAsked.f a0).bind fun t202 => ((stolonref01_Asked.f a0).bind fun t203 => (if (t202 == t203) = true then ((addr_Less.f a0 a1).bind fun t204 => (some (t204 == (decide (a0 < a1))))) else (some false)))) else (some false)))) else (some false)))) else (some false)))) = some r := H
   have A8 := m_ A80
   clear A80
   replace H := Option.bind_eq_some_iff.mp H
   obtain ⟨t194, A90, H⟩ := H
   replace H : ((stolonref01_Same.f k t191 t194).bind fun t197 => (if t197 = true then ((addr_IsGroup.f a0).bind fun t198 => ((stolonref01_Group.f a0).bind fun t199 => (if (t198 == t199) = true then ((addr_IsLocal.f a0).bind fun t200 => ((stolonref01_Local.f a0).bind fun t201 => (if (t200 == t201) = true then ((addr_IsAsked.f a0).bind fun t202 => ((stolonref01_Asked.f a0).bind fun t203 => (if (t202 == t203) = true then ((addr_Less.f a0 a1).bind fun t204 => (some (t204 == (decide (a0 < a1))))) else (some false)))) else (some false)))) else (some false)))) else (some false))) = some r := H
   have A9 := m_ A90
   clear A90
   replace H := Option.bind_eq_some_iff.mp H
   obtain ⟨t197, A100, H⟩ := H
   replace H : (if t197 = true then ((addr_IsGroup.f a0).bind fun t198 => ((stolonref01_Group.f a0).bind fun t199 => (if (t198 == t199) = true then ((addr_IsLocal.f a0).bind fun t200 => ((stolonref01_Local.f a0).bind fun t201 => (if (t200 == t201) = true then ((addr_IsAsked.f a0).bind fun t202 => ((stolonref01_Asked.f a0).bind fun t203 => (if (t202 == t203) = true then ((addr_Less.f a0 a1).bind fun t204 => (some (t204 == (decide (a0 < a1))))) else (some false)))) else (some false)))) else (some false)))) else (some false)) = some r := H
   have A10 := m_ A100
   clear A100
   by_cases c11 : t197 = true
   ·subst c11
    have H1 : ((addr_IsGroup.f a0).bind fun t198 => ((stolonref01_Group.f a0).bind fun t199 => (if (t198 == t199) = true then ((addr_IsLocal.f a0).bind fun t200 => ((stolonref01_Local.f a0).bind fun t201 => (if (t200 == t201) = true then ((addr_IsAsked.f a0).bind fun t202 => ((stolonref01_Asked.f a0).bind fun t203 => (if (t202 == t203) = true then ((addr_Less.f a0 a1).bind fun t204 => (some (t204 == (decide (a0 < a1))))) else (some false)))) else (some false)))) else (some false)))) = some r := by rw [if_pos rfl] at H; exact H
    clear H
    have H := H1
    clear H1
    replace H := Option.bind_eq_some_iff.mp H
    obtain ⟨t198, A120, H⟩ := H
    replace H : ((stolonref01_Group.f a0).bind fun t199 => (if (t198 == t199) = true then ((addr_IsLocal.f a0).bind fun t200 => ((stolonref01_Local.f a0).bind fun t201 => (if (t200 == t201) = true then ((addr_IsAsked.f a0).bind fun t202 => ((stolonref01_Asked.f a0).bind fun t203 => (if (t202 == t203) = true then ((addr_Less.f a0 a1).bind fun t204 => (some (t204 == (decide (a0 < a1))))) else (some false)))) else (some false)))) else (some false))) = some r := H
    have A12 := m_ A120
    clear A120
    replace H := Option.bind_eq_some_iff.mp H
    obtain ⟨t199, A130, H⟩ := H
    replace H : (if (t198 == t199) = true then ((addr_IsLocal.f a0).bind fun t200 => ((stolonref01_Local.f a0).bind fun t201 => (if (t200 == t201) = true then ((addr_IsAsked.f a0).bind fun t202 => ((stolonref01_Asked.f a0).bind fun t203 => (if (t202 == t203) = true then ((addr_Less.f a0 a1).bind fun t204 => (some (t204 == (decide (a0 < a1))))) else (some false)))) else (some false)))) else (some false)) = some r := H
    have A13 := m_ A130
    clear A130
    by_cases c14 : (t198 == t199) = true
    ·rw [if_pos c14] at H
     have c14b0 : (t198 == t199) = true := c14
     (try (have c14b1 : decide (t198 = t199) = true := by simpa using c14))
     (try (have c14b2 : (t198 == t199) = true := by simpa using c14))
     clear c14
     replace H := Option.bind_eq_some_iff.mp H
     obtain ⟨t200, A150, H⟩ := H
     replace H : ((stolonref01_Local.f a0).bind fun t201 => (if (t200 == t201) = true then ((addr_IsAsked.f a0).bind fun t202 => ((stolonref01_Asked.f a0).bind fun t203 => (if (t202 == t203) = true then ((addr_Less.f a0 a1).bind fun t204 => (some (t204 == (decide (a0 < a1))))) else (some false)))) else (some false))) = some r := H
     have A15 := m_ A150
     clear A150
     replace H := Option.bind_eq_some_iff.mp H
     obtain ⟨t201, A160, H⟩ := H
     replace H : (if (t200 == t201) = true then ((addr_IsAsked.f a0).bind fun t202 => ((stolonref01_Asked.f a0).bind fun t203 => (if (t202 == t203) = true then ((addr_Less.f a0 a1).bind fun t204 => (some (t204 == (decide (a0 < a1))))) else (some false)))) else (some false)) = some r := H
     have A16 := m_ A160
     clear A160
     by_cases c17 : (t200 == t201) = true
     ·rw [if_pos c17] at H
      have c17b0 : (t200 == t201) = true := c17
      (try (have c17b1 : decide (t200 = t201) = true := by simpa using c17))
      (try (have c17b2 : (t200 == t201) = true := by simpa using c17))
      clear c17
      replace H := Option.bind_eq_some_iff.mp H
      obtain ⟨t202, A180, H⟩ := H
      replace H : ((stolonref01_Asked.f a0).bind fun t203 => (if (t202 == t203) = true then ((addr_Less.f a0 a1).bind fun t204 => (some (t204 == (decide (a0 < a1))))) else (some false))) = some r := H
      have A18 := m_ A180
      clear A180
      replace H := Option.bind_eq_some_iff.mp H
      obtain ⟨t203, A190, H⟩ := H
      replace H : (if (t202 == t203) = true then ((addr_Less.f a0 a1).bind fun t204 => (some (t204 == (decide (a0 < a1))))) else (some false)) = some r := H
      have A19 := m_ A190
      clear A190
      by_cases c20 : (t202 == t203) = true
      ·rw [if_pos c20] at H
       have c20b0 : (t202 == t203) = true := c20
       (try (have c20b1 : decide (t202 = t203) = true := by simpa using c20))
       (try (have c20b2 : (t202 == t203) = true := by simpa using c20))
       clear c20
       replace H := Option.bind_eq_some_iff.mp H
       obtain ⟨t204, A210, H⟩ := H
       replace H : (some (t204 == (decide (a0 < a1)))) = some r := H
       have A21 := m_ A210
       clear A210
       obtain rfl := Option.some.inj H
       go_enter Tryd.func7, Tryd.ntmps7
       go_wp2_with (first | ((with_reducible refine gate_callee (f := 9) rfl ?_); refine gL_ (some 6) Tryd.func9 #[] ?_; (with_reducible refine (stolonlaw01_shown.calls k  true _ (LaidW.below HLW.out bz_) A3.out).mono ?_); rintro e w22 ⟨rfl, hb⟩; refine ⟨_, rfl, ?_⟩; replace HB := m_ (below_step bz_ hb); (try clear hb); (try clear hb2); (try clear hk); (try clear hi)) | (go_at_call 14; (with_reducible refine (addr_Text.calls a0 t189 _ (LaidW.below HLW.out bz_) A5.out).mono ?_); rintro e w23 ⟨rfl, hb⟩; replace HB := m_ (below_step bz_ hb); (try clear hb); (try clear hb2); (try clear hk); (try clear hi)) | (go_at_call 17; (with_reducible refine (stolonref01_Text.calls a0 t190 _ A6.out).mono ?_); rintro e w24 ⟨rfl, hb⟩; replace HB := m_ (below_step bz_ hb); (try clear hb); (try clear hb2); (try clear hk); (try clear hi)) | (go_at_call 15; (with_reducible refine (addr_Bytes.calls a0 t191 _ A8.out).mono ?_); rintro e w25 ⟨v192, rfl, ho0, hb⟩; have HO193 := m_ (Kd.R_lower ho0 (below_size bz_)); replace HB := m_ (below_step bz_ hb); (try clear hb); (try clear hb2); (try clear hk); (try clear hi); (try clear ho0)) | (go_at_call 18; (with_reducible refine (stolonref01_Bytes.calls a0 t194 _ A9.out).mono ?_); rintro e w26 ⟨v195, rfl, ho0, hb⟩; have HO196 := m_ (Kd.R_lower (Kd.R_new' ho0 (Kd.R_lt (Rz_ HO193.out))) (below_size bz_)); replace HO193 := m_ (Kd.R_elder' (Rz_ HO193.out) (Kd.R_base ho0) hb); replace HB := m_ (below_step bz_ hb); (try clear hb); (try clear hb2); (try clear hk); (try clear hi); (try clear ho0); obtain ⟨Ao27, co27, eo27⟩ := Kd.R_slice HO193.out; subst eo27; obtain ⟨Ao28, co28, eo28⟩ := Kd.R_slice HO196.out; subst eo28) | (go_at_call 16; (with_reducible refine (stolonref01_Same.calls k _ _ t191 _ _ t194 true _ ?side1 ?side2 ?side3 ?side4 A10.out).mono ?_); (case side1 => exact Cd_ (Kd.R_reads' HO193.out).2.2); (case side2 => exact (Kd.R_reads' HO193.out).2.1); (case side3 => exact Cd_ (Kd.R_reads' HO196.out).2.2); (case side4 => exact (Kd.R_reads' HO196.out).2.1); rintro e w' ⟨rfl, ⟨nd, rfl⟩⟩) | (go_at_call 19; (with_reducible refine (addr_IsGroup.calls a0 t198 _ A12.out).mono ?_); rintro e w' ⟨rfl, ⟨nd, rfl⟩⟩) | (go_at_call 20; (with_reducible refine (stolonref01_Group.calls a0 t199 _ A13.out).mono ?_); rintro e w' ⟨rfl, ⟨nd, rfl⟩⟩) | (go_at_call 21; (with_reducible refine (addr_IsLocal.calls a0 t200 _ A15.out).mono ?_); rintro e w' ⟨rfl, ⟨nd, rfl⟩⟩) | (go_at_call 22; (with_reducible refine (stolonref01_Local.calls a0 t201 _ A16.out).mono ?_); rintro e w' ⟨rfl, ⟨nd, rfl⟩⟩) | (go_at_call 23; (with_reducible refine (addr_IsAsked.calls a0 t202 _ A18.out).mono ?_); rintro e w' ⟨rfl, ⟨nd, rfl⟩⟩) | (go_at_call 24; (with_reducible refine (stolonref01_Asked.calls a0 t203 _ A19.out).mono ?_); rintro e w' ⟨rfl, ⟨nd, rfl⟩⟩) | (go_at_call 25; (with_reducible refine (addr_Less.calls a0 a1 t204 _ A21.out).mono ?_); rintro e w' ⟨rfl, ⟨nd, rfl⟩⟩))
       go_ret
       exact ⟨ew_, bz_⟩
      ·rw [if_neg c20] at H
       have c20b0 : (t202 == t203) = false := by simpa using c20
       (try (have c20b1 : decide (t202 = t203) = false := by simpa using c20))
       (try (have c20b2 : (t202 == t203) = false := by simpa using c20))
       (try (have c20b3 : ¬ (t202 = t203) := by simpa using c20))
       clear c20
       exact absurd ((Option.some.inj H).trans hTrue.out) (by simp)
     ·rw [if_neg c17] at H
      have c17b0 : (t200 == t201) = false := by simpa using c17
      (try (have c17b1 : decide (t200 = t201) = false := by simpa using c17))
      (try (have c17b2 : (t200 == t201) = false := by simpa using c17))
      (try (have c17b3 : ¬ (t200 = t201) := by simpa using c17))
      clear c17
      exact absurd ((Option.some.inj H).trans hTrue.out) (by simp)
    ·rw [if_neg c14] at H
     have c14b0 : (t198 == t199) = false := by simpa using c14
     (try (have c14b1 : decide (t198 = t199) = false := by simpa using c14))
     (try (have c14b2 : (t198 == t199) = false := by simpa using c14))
     (try (have c14b3 : ¬ (t198 = t199) := by simpa using c14))
     clear c14
     exact absurd ((Option.some.inj H).trans hTrue.out) (by simp)
   ·replace c11 := Bool.eq_false_iff.mpr c11
    subst c11
    have H1 : (some false) = some r := by rw [if_neg (show ¬ (false = true) by decide)] at H; exact H
    clear H
    have H := H1
    clear H1
    exact absurd ((Option.some.inj H).trans hTrue.out) (by simp)
  ·rw [if_neg c7] at H
   have c7b0 : (t189.toList == t190.toList) = false := beq_eq_false_iff_ne.mpr c7
   have c7b1 : (t189.toList != t190.toList) = true := bne_iff_ne.mpr c7
   exact absurd ((Option.some.inj H).trans hTrue.out) (by simp)
 ·replace c4 := Bool.eq_false_iff.mpr c4
  subst c4
  have H1 : (some false) = some r := by rw [if_neg (show ¬ (false = true) by decide)] at H; exact H
  clear H
  have H := H1
  clear H1
  exact absurd ((Option.some.inj H).trans hTrue.out) (by simp)

end Go.Proofs.YtplkfpfgnccffaaDoor.P

/- For each Go function a Lean function, and the proof that a call comes to what it tells: made by program out of the translation (the kit's print, with texts by hand put in). No condition. -/
import Derived.Test.YtplkfpfgnccffaaDoorSq
import Derived.Test.YtplkfpfgnccffaaDoorPx0
import Derived.Test.YtplkfpfgnccffaaDoorPx1
import Derived.Test.YtplkfpfgnccffaaDoorPx4
namespace Go.Proofs.YtplkfpfgnccffaaDoor.P
open Go.RowKit Go.Proofs.YtplkfpfgnccffaaDoor.HRows Go.Proofs.YtplkfpfgnccffaaDoorW.PrintWords Go.Proofs.YtplkfpfgnccffaaDoorW.PrintLast Go.Proofs.YtplkfpfgnccffaaDoorW.PrintMore
attribute [local go_sem] max2_int min2_int max_two min_two max_three min_three max_four min_four   -- for this text's walks alone
set_option linter.unusedVariables false
set_option linter.unusedSimpArgs false

/-! ### stolonlaw01_AddrReads: function 3 -/
def stolonlaw01_AddrReads.j0 : Nat → ByteArray → List Int → Bool → Bool → Option (Bool)
 | 0, _, _, _, _ => none
 | k + 1, x0, x1, x5, x22 => if x22 = true then (some x5) else ((addr_Parse.f k x0).bind fun bt152 => ((stolonref01_Parse.f k x0).bind fun bt154 => ((addr_Of.f k x1).bind fun bt156 => ((stolonref01_Of.f x1).bind fun bt158 => (if x5 = true then (if bt152.1 = bt154.1 then (if bt152.2 = bt154.2 then (if bt156.1 = bt158.1 then (some (bt156.2 == bt158.2)) else (some false)) else (some false)) else (some false)) else (some false))))))
def stolonlaw01_AddrReads.f (k : Nat) (a0 : ByteArray) (l1 : List Int) : Option (Bool) := (stolonlaw01_shown.f k).bind fun t151 => (if (a0.size : Int) > 100 then (stolonlaw01_AddrReads.j0 k a0 l1 t151 true) else (stolonlaw01_AddrReads.j0 k a0 l1 t151 (decide ((l1.length : Int) > 100))))
theorem stolonlaw01_AddrReads.mono_l : ∀ k, (∀ y0 y1 y2 y3, LeO (stolonlaw01_AddrReads.j0 k y0 y1 y2 y3) (stolonlaw01_AddrReads.j0 (k + 1) y0 y1 y2 y3))
 | 0 => fun _ _ _ _ r h => by simp [stolonlaw01_AddrReads.j0] at h
 | k + 1 => by
  have ih0 := stolonlaw01_AddrReads.mono_l k
  ·intro y0 y1 y2 y3
   unfold stolonlaw01_AddrReads.j0
   repeat' first
   | (with_reducible exact ih0 _ _ _ _)
   | (with_reducible exact addr_Of.mono _ _)
   | (with_reducible exact addr_Parse.mono _ _)
   | (with_reducible exact stolonlaw01_shown.mono _)
   | (with_reducible exact stolonref01_Parse.mono _ _)
   | (with_reducible exact LeO.refl _)
   | (with_reducible exact LeO.none _)
   | (with_reducible refine LeO.ite ?_ ?_)
   | (with_reducible refine LeO.bind ?_ (fun _ => ?_))
   | exact ih0 _ _ _ _
   | exact addr_Of.mono _ _
   | exact addr_Parse.mono _ _
   | exact stolonlaw01_shown.mono _
   | exact stolonref01_Parse.mono _ _
   | exact LeO.none _
   | refine LeO.ite ?_ ?_
   | refine LeO.bind ?_ (fun _ => ?_)
theorem stolonlaw01_AddrReads.mono : ∀ a0 a1 k, LeO (stolonlaw01_AddrReads.f k a0 a1) (stolonlaw01_AddrReads.f (k + 1) a0 a1) := by
 intro a0 a1 k
 have ih0 := stolonlaw01_AddrReads.mono_l k
 unfold stolonlaw01_AddrReads.f
 repeat' first
   | (with_reducible exact ih0 _ _ _ _)
   | (with_reducible exact addr_Of.mono _ _)
   | (with_reducible exact addr_Parse.mono _ _)
   | (with_reducible exact stolonlaw01_shown.mono _)
   | (with_reducible exact stolonref01_Parse.mono _ _)
   | (with_reducible exact LeO.refl _)
   | (with_reducible exact LeO.none _)
   | (with_reducible refine LeO.ite ?_ ?_)
   | (with_reducible refine LeO.bind ?_ (fun _ => ?_))
   | exact ih0 _ _ _ _
   | exact addr_Of.mono _ _
   | exact addr_Parse.mono _ _
   | exact stolonlaw01_shown.mono _
   | exact stolonref01_Parse.mono _ _
   | exact LeO.none _
   | refine LeO.ite ?_ ?_
   | refine LeO.bind ?_ (fun _ => ?_)
set_option maxHeartbeats 8000000 in
set_option maxRecDepth 100000 in
theorem stolonlaw01_AddrReads.calls (k : Nat) (a0 : ByteArray) (A1 : Option Addr) (c1 : Nat) (l1 : List Int) (r : Bool) (w : World) (hr1 : Kd.C (Kd.int .u8) w A1 l1.length l1) (hc1 : l1.length ≤ c1) (hTrue : Aside0 (r = true)) (hL : LaidW w) (h : stolonlaw01_AddrReads.f k a0 l1 = some r) :
  Calls Tryd.prog 3 #[.string a0, .slice A1 l1.length c1] w fun e w' => e = .returned (.bool r) ∧ Below w.heap.size w w' := by
 have HLW := m_ hL
 clear hL
 have HR1 := m_ hr1
 have HC1 := m_ hc1
 clear hr1 hc1
 have HB := m_ (Below.refl w.heap.size w)
 have H : ((stolonlaw01_shown.f k).bind fun t151 => (if (a0.size : Int) > 100 then (stolonlaw01_AddrReads.j0 k a0 l1 t151 true) else (stolonlaw01_AddrReads.j0 k a0 l1 t151 (decide ((l1.length : Int) > 100))))) = some r := h
 clear h
 replace H := Option.bind_eq_some_iff.mp H
 obtain ⟨t151, A30, H⟩ := H
 replace H : (if (a0.size : Int) > 100 then (stolonlaw01_AddrReads.j0 k a0 l1 t151 true) else (stolonlaw01_AddrReads.j0 k a0 l1 t151 (decide ((l1.length : Int) > 100)))) = some r := H
 have A3 := m_ A30
 clear A30
 have HC4 := m_ H
 clear H
 go_enter Tryd.func3, Tryd.ntmps3
 go_upto_region 2 with (first | ((with_reducible refine gate_callee (f := 9) rfl ?_); refine gL_ (some 14) Tryd.func9 #[] ?_; (with_reducible refine (stolonlaw01_shown.calls k  t151 _ (LaidW.below HLW.out bz_) A3.out).mono ?_); rintro e w5 ⟨rfl, hb⟩; refine ⟨_, rfl, ?_⟩; replace HB := m_ (below_step bz_ hb); (try clear hb); (try clear hb2); (try clear hk); (try clear hi)))
 (try simp only [Act.put, List.setIfInBounds_toArray, List.set_cons_zero, List.set_cons_succ])
 go_cut [22] (fun v22 wc => ∃ (kq : Nat) (x22_3 : Bool), v22 = .bool x22_3 ∧ Aside0 (stolonlaw01_AddrReads.j0 kq a0 l1 t151 x22_3 = some r) ∧ Aside0 (kq ≤ k) ∧ Aside0 (Below w.heap.size w wc))
 case first =>
  have H := HC4.out
  clear HC4
  by_cases c6 : (a0.size : Int) > 100
  ·rw [if_pos c6] at H
   have c6b0 : decide (100 < (a0.size : Int)) = true := decide_eq_true c6
   have c6b1 : decide (100 < a0.size) = true := decide_eq_true (by omega)
   clear c6
   (first | rw [c6b0] | (simp only [i64_w, i32_w]; rw [c6b0]) | skip)
   have H' := m_ H
   clear H
   go_wp2
   go_meet
   case rel => exact ⟨_, (true), (by first | rfl | (simp; done) | (simp [*]; done)), H', ⟨by first | omega | exact Nat.le_refl _⟩, ⟨bz_⟩⟩
  ·rw [if_neg c6] at H
   have c6b0 : decide (100 < (a0.size : Int)) = false := decide_eq_false c6
   have c6b1 : decide (100 < a0.size) = false := decide_eq_false (by omega)
   clear c6
   (first | rw [c6b0] | (simp only [i64_w, i32_w]; rw [c6b0]) | skip)
   have H' := m_ H
   clear H
   go_wp2
   go_meet
   case rel => exact ⟨_, (decide ((l1.length : Int) > 100)), (by first | rfl | (simp; done) | (simp [*]; done)), H', ⟨by first | omega | exact Nat.le_refl _⟩, ⟨bz_⟩⟩
 case rest =>
  clear HC4
  try clear c1
  try clear p2
  try clear c3
  try clear c6
  try clear c6b0
  try clear c6b1
  obtain ⟨kq, x22_3, rfl, HA, HJ3, HB⟩ := hcut
  cases kq with
  | zero => exact absurd HA.out (by simp [stolonlaw01_AddrReads.j0])
  | succ kj3 =>
   have H := HA.out
   clear HA
   simp only [stolonlaw01_AddrReads.j0] at H
   by_cases c7 : x22_3 = true
   ·subst c7
    have H1 : (some t151) = some r := by rw [if_pos rfl] at H; exact H
    clear H
    have H := H1
    clear H1
    obtain rfl := Option.some.inj H
    go_wp2
    go_ret
    exact ⟨ew_, bz_⟩
   ·replace c7 := Bool.eq_false_iff.mpr c7
    subst c7
    have H1 : ((addr_Parse.f kj3 a0).bind fun bt152 => ((stolonref01_Parse.f kj3 a0).bind fun bt154 => ((addr_Of.f kj3 l1).bind fun bt156 => ((stolonref01_Of.f l1).bind fun bt158 => (if t151 = true then (if bt152.1 = bt154.1 then (if bt152.2 = bt154.2 then (if bt156.1 = bt158.1 then (some (bt156.2 == bt158.2)) else (some false)) else (some false)) else (some false)) else (some false)))))) = some r := by rw [if_neg (show ¬ (false = true) by decide)] at H; exact H
    clear H
    have H := H1
    clear H1
    replace H := Option.bind_eq_some_iff.mp H
    obtain ⟨⟨t152, t153⟩, A80, H⟩ := H
    replace H : ((stolonref01_Parse.f kj3 a0).bind fun bt154 => ((addr_Of.f kj3 l1).bind fun bt156 => ((stolonref01_Of.f l1).bind fun bt158 => (if t151 = true then (if t152 = bt154.1 then (if t153 = bt154.2 then (if bt156.1 = bt158.1 then (some (bt156.2 == bt158.2)) else (some false)) else (some false)) else (some false)) else (some false))))) = some r := H
    have A8 := m_ A80
    clear A80
    replace H := Option.bind_eq_some_iff.mp H
    obtain ⟨⟨t154, t155⟩, A90, H⟩ := H
    replace H : ((addr_Of.f kj3 l1).bind fun bt156 => ((stolonref01_Of.f l1).bind fun bt158 => (if t151 = true then (if t152 = t154 then (if t153 = t155 then (if bt156.1 = bt158.1 then (some (bt156.2 == bt158.2)) else (some false)) else (some false)) else (some false)) else (some false)))) = some r := H
    have A9 := m_ A90
    clear A90
    replace H := Option.bind_eq_some_iff.mp H
    obtain ⟨⟨t156, t157⟩, A100, H⟩ := H
    replace H : ((stolonref01_Of.f l1).bind fun bt158 => (if t151 = true then (if t152 = t154 then (if t153 = t155 then (if t156 = bt158.1 then (some (t157 == bt158.2)) else (some false)) else (some false)) else (some false)) else (some false))) = some r := H
    have A10 := m_ A100
    clear A100
    replace H := Option.bind_eq_some_iff.mp H
    obtain ⟨⟨t158, t159⟩, A110, H⟩ := H
    replace H : (if t151 = true then (if t152 = t154 then (if t153 = t155 then (if t156 = t158 then (some (t157 == t159)) else (some false)) else (some false)) else (some false)) else (some false)) = some r := H
    have A11 := m_ A110
    clear A110
    by_cases c12 : t151 = true
    ·subst c12
     have H1 : (if t152 = t154 then (if t153 = t155 then (if t156 = t158 then (some (t157 == t159)) else (some false)) else (some false)) else (some false)) = some r := by rw [if_pos rfl] at H; exact H
     clear H
     have H := H1
     clear H1
     by_cases c13 : t152 = t154
     ·rw [if_pos c13] at H
      have c13b0 : (t152 == t154) = true := beq_iff_eq.mpr c13
      have c13b1 : (t152 != t154) = false := bne_eq_false_iff_eq.mpr c13
      clear c13
      by_cases c14 : t153 = t155
      ·rw [if_pos c14] at H
       have c14b0 : (t153 == t155) = true := beq_iff_eq.mpr c14
       have c14b1 : (t153 != t155) = false := bne_eq_false_iff_eq.mpr c14
       clear c14
       by_cases c15 : t156 = t158
       ·rw [if_pos c15] at H
        have c15b0 : (t156 == t158) = true := beq_iff_eq.mpr c15
        have c15b1 : (t156 != t158) = false := bne_eq_false_iff_eq.mpr c15
        clear c15
        obtain rfl := Option.some.inj H
        go_wp2_with (first | ((with_reducible refine gate_callee (f := 10) rfl ?_); refine gL_ (some 26) Tryd.func10 #[.string a0] ?_; (with_reducible refine (addr_Parse.calls kj3 a0 t152 t153 _ (LaidW.below HLW.out bz_) A8.out).mono ?_); rintro e w16 ⟨rfl, hb⟩; refine ⟨_, rfl, ?_⟩; replace HB := m_ (below_step bz_ hb); (try clear hb); (try clear hb2); (try clear hk); (try clear hi)) | ((with_reducible refine gate_callee (f := 11) rfl ?_); refine gL_ (some 31) Tryd.func11 #[.string a0] ?_; (with_reducible refine (stolonref01_Parse.calls kj3 a0 t154 t155 _ A9.out).mono ?_); rintro e w17 ⟨rfl, hb⟩; refine ⟨_, rfl, ?_⟩; replace HB := m_ (below_step bz_ hb); (try clear hb); (try clear hb2); (try clear hk); (try clear hi)) | ((with_reducible refine gate_callee (f := 12) rfl ?_); refine gL_ (some 36) Tryd.func12 #[.slice A1 l1.length c1] ?_; (with_reducible refine (addr_Of.calls kj3 _ _ l1 t156 t157 _ ?side1 ?side2 A10.out).mono ?_); (case side1 => exact Cd_ (Kd.C_below HR1.out HB.out)); (case side2 => exact HC1.out); rintro e w' ⟨rfl, ⟨nd, rfl⟩⟩; refine ⟨_, rfl, ?_⟩) | ((with_reducible refine gate_callee (f := 13) rfl ?_); refine gL_ (some 41) Tryd.func13 #[.slice A1 l1.length c1] ?_; (with_reducible refine (stolonref01_Of.calls _ _ l1 t158 t159 _ ?side1 ?side2 A11.out).mono ?_); (case side1 => exact Cd_ (Kd.C_below HR1.out bz_)); (case side2 => exact HC1.out); rintro e w' ⟨rfl, ⟨nd, rfl⟩⟩; refine ⟨_, rfl, ?_⟩))
        go_ret
        exact ⟨ew_, bz_⟩
       ·rw [if_neg c15] at H
        have c15b0 : (t156 == t158) = false := beq_eq_false_iff_ne.mpr c15
        have c15b1 : (t156 != t158) = true := bne_iff_ne.mpr c15
        exact absurd ((Option.some.inj H).trans hTrue.out) (by simp)
      ·rw [if_neg c14] at H
       have c14b0 : (t153 == t155) = false := beq_eq_false_iff_ne.mpr c14
       have c14b1 : (t153 != t155) = true := bne_iff_ne.mpr c14
       exact absurd ((Option.some.inj H).trans hTrue.out) (by simp)
     ·rw [if_neg c13] at H
      have c13b0 : (t152 == t154) = false := beq_eq_false_iff_ne.mpr c13
      have c13b1 : (t152 != t154) = true := bne_iff_ne.mpr c13
      exact absurd ((Option.some.inj H).trans hTrue.out) (by simp)
    ·replace c12 := Bool.eq_false_iff.mpr c12
     subst c12
     have H1 : (some false) = some r := by rw [if_neg (show ¬ (false = true) by decide)] at H; exact H
     clear H
     have H := H1
     clear H1
     exact absurd ((Option.some.inj H).trans hTrue.out) (by simp)

end Go.Proofs.YtplkfpfgnccffaaDoor.P

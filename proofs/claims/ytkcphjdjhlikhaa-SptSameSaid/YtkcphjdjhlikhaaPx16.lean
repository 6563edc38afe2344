/- For each Go function a Lean function, and the proof that a call comes to what it tells: made by program out of the translation (the kit's print, with texts by hand put in). No condition. -/
import Derived.Test.YtkcphjdjhlikhaaSq
import Derived.Test.YtkcphjdjhlikhaaPx0
namespace Go.Proofs.Ytkcphjdjhlikhaa.P
open Go.RowKit Go.Proofs.Ytkcphjdjhlikhaa.HRows Go.Proofs.YtkcphjdjhlikhaaW.PrintWords Go.Proofs.YtkcphjdjhlikhaaW.PrintLast Go.Proofs.YtkcphjdjhlikhaaW.PrintMore
attribute [local go_sem] max2_int min2_int max_two min_two max_three min_three max_four min_four   -- for this text's walks alone
set_option linter.unusedVariables false
set_option linter.unusedSimpArgs false

/-! ### slices_Equal_int_int: function 32 -/
def slices_Equal_int_int.l0 : Nat → List Int → List Int → Int → Int → Option (Bool)
 | 0, _, _, _, _ => none
 | k + 1, x0, x1, x12, x13 => if x13 < x12 then (if 0 ≤ x13 then (if x13 < (x0.length : Int) then (if x13 < (x1.length : Int) then (if (rd x0 x13) = (rd x1 x13) then (slices_Equal_int_int.l0 k x0 x1 x12 (wrap64 (x13 + 1))) else (some false)) else (none)) else (none)) else (none)) else (some true)
def slices_Equal_int_int.f (k : Nat) (l0 : List Int) (l1 : List Int) : Option (Bool) := if (l0.length : Int) = (l1.length : Int) then (slices_Equal_int_int.l0 k l0 l1 (l0.length : Int) 0) else (some false)
theorem slices_Equal_int_int.mono_l : ∀ k, (∀ y0 y1 y2 y3, LeO (slices_Equal_int_int.l0 k y0 y1 y2 y3) (slices_Equal_int_int.l0 (k + 1) y0 y1 y2 y3))
 | 0 => fun _ _ _ _ r h => by simp [slices_Equal_int_int.l0] at h
 | k + 1 => by
  have ih0 := slices_Equal_int_int.mono_l k
  ·intro y0 y1 y2 y3
   unfold slices_Equal_int_int.l0
   repeat' first
   | (with_reducible exact ih0 _ _ _ _)
   | (with_reducible exact LeO.refl _)
   | (with_reducible exact LeO.none _)
   | (with_reducible refine LeO.ite ?_ ?_)
   | (with_reducible refine LeO.bind ?_ (fun _ => ?_))
   | exact ih0 _ _ _ _
   | exact LeO.none _
   | refine LeO.ite ?_ ?_
   | refine LeO.bind ?_ (fun _ => ?_)
theorem slices_Equal_int_int.mono : ∀ a0 a1 k, LeO (slices_Equal_int_int.f k a0 a1) (slices_Equal_int_int.f (k + 1) a0 a1) := by
 intro a0 a1 k
 have ih0 := slices_Equal_int_int.mono_l k
 unfold slices_Equal_int_int.f
 repeat' first
   | (with_reducible exact ih0 _ _ _ _)
   | (with_reducible exact LeO.refl _)
   | (with_reducible exact LeO.none _)
   | (with_reducible refine LeO.ite ?_ ?_)
   | (with_reducible refine LeO.bind ?_ (fun _ => ?_))
   | exact ih0 _ _ _ _
   | exact LeO.none _
   | refine LeO.ite ?_ ?_
   | refine LeO.bind ?_ (fun _ => ?_)
set_option maxHeartbeats 8000000 in
set_option maxRecDepth 100000 in
theorem slices_Equal_int_int.calls (k : Nat) (A0 : Option Addr) (c0 : Nat) (l0 : List Int) (A1 : Option Addr) (c1 : Nat) (l1 : List Int) (r : Bool) (w : World) (hr0 : Kd.C (Kd.int .i64) w A0 l0.length l0) (hc0 : l0.length ≤ c0) (hr1 : Kd.C (Kd.int .i64) w A1 l1.length l1) (hc1 : l1.length ≤ c1) (h : slices_Equal_int_int.f k l0 l1 = some r) :
  Calls Try.prog 32 #[.slice A0 l0.length c0, .slice A1 l1.length c1] w fun e w' => e = .returned (.bool r) ∧ Drawn0 w w' := by
 have HR0 := m_ hr0
 have HC0 := m_ hc0
 clear hr0 hc0
 have HR1 := m_ hr1
 have HC1 := m_ hc1
 clear hr1 hc1
 have H : (if (l0.length : Int) = (l1.length : Int) then (slices_Equal_int_int.l0 k l0 l1 (l0.length : Int) 0) else (some false)) = some r := h
 clear h
 by_cases c3 : (l0.length : Int) = (l1.length : Int)
 ·rw [if_pos c3] at H
  have c3b0 : ((l0.length : Int) == (l1.length : Int)) = true := beq_iff_eq.mpr c3
  have c3b1 : ((l0.length : Int) != (l1.length : Int)) = false := bne_eq_false_iff_eq.mpr c3
  have c3b2 : (l0.length == l1.length) = true := by first | simpa using c3 | (simp at c3 ⊢; omega)
  clear c3
  have H' := m_ H
  clear H
  go_enter Try.func32, Try.ntmps32
  go_wp2
  repeat (go_quiet (fail); try go_wp2)
  go_loopg [13] k (fun kq v13 w' => ∃ (x13_1 : Int), v13 = .int .i64 x13_1 ∧ Aside0 (slices_Equal_int_int.l0 kq l0 l1 (l0.length : Int) x13_1 = some r) ∧ Aside0 (kq ≤ k) ∧ Drawn0 w w')
  case atStart => exact ⟨(0), (by first | rfl | (simp; done) | (simp [*]; done)), H', ⟨Nat.le_refl _⟩, by repeat (first | exact Drawn0.refl _ | apply Drawn0.step)⟩
  case round =>
   clear H'
   try clear c1
   try clear p2
   try clear c3
   try clear c3b0
   try clear c3b1
   try clear c3b2
   obtain ⟨x13_1, rfl, HA, HK1, ⟨m1, rfl⟩⟩ := hrel
   cases gk with
   | zero => exact absurd HA.out (by simp [slices_Equal_int_int.l0])
   | succ k1 =>
    have H := HA.out
    clear HA
    simp only [slices_Equal_int_int.l0] at H
    by_cases c4 : x13_1 < (l0.length : Int)
    ·rw [if_pos c4] at H
     have c4b0 : decide (x13_1 < (l0.length : Int)) = true := decide_eq_true c4
     clear c4
     by_cases c5 : 0 ≤ x13_1
     ·rw [if_pos c5] at H
      have c5b0 : decide (0 ≤ x13_1) = true := decide_eq_true c5
      clear c5
      by_cases c6 : x13_1 < (l0.length : Int)
      ·rw [if_pos c6] at H
       have c6b0 : decide (x13_1 < (l0.length : Int)) = true := decide_eq_true c6
       clear c6
       by_cases c7 : x13_1 < (l1.length : Int)
       ·rw [if_pos c7] at H
        have c7b0 : decide (x13_1 < (l1.length : Int)) = true := decide_eq_true c7
        clear c7
        by_cases c8 : (rd l0 x13_1) = (rd l1 x13_1)
        ·rw [if_pos c8] at H
         have c8b0 : ((rd l0 x13_1) == (rd l1 x13_1)) = true := beq_iff_eq.mpr c8
         have c8b1 : ((rd l0 x13_1) != (rd l1 x13_1)) = false := bne_eq_false_iff_eq.mpr c8
         clear c8
         have H' := m_ H
         clear H
         have p332 : 0 ≤ (x13_1 : Int) := od_
         have q332 : x13_1 < (l0.length : Int) := od_
         obtain ⟨ad332, e332, hx332_0⟩ := Kd.at_int HR0.out x13_1 p332 q332
         cases e332
         replace p332 := eq_true p332
         replace q332 := eq_true q332
         have p333 : 0 ≤ (x13_1 : Int) := od_
         have q333 : x13_1 < (l1.length : Int) := od_
         obtain ⟨ad333, e333, hx333_0⟩ := Kd.at_int HR1.out x13_1 p333 q333
         cases e333
         replace p333 := eq_true p333
         replace q333 := eq_true q333
         go_wp2
         repeat (go_quiet (fail); try go_wp2)
         go_roundg k1
         case measure => have := HK1.out; omega
         case rel => exact ⟨(wrap64 (x13_1 + 1)), (by first | rfl | (simp; done) | (simp [*]; done)), H', ⟨by have := HK1.out; omega⟩, by repeat (first | exact Drawn0.refl _ | apply Drawn0.step)⟩
        ·rw [if_neg c8] at H
         have c8b0 : ((rd l0 x13_1) == (rd l1 x13_1)) = false := beq_eq_false_iff_ne.mpr c8
         have c8b1 : ((rd l0 x13_1) != (rd l1 x13_1)) = true := bne_iff_ne.mpr c8
         obtain rfl := Option.some.inj H
         have p332 : 0 ≤ (x13_1 : Int) := od_
         have q332 : x13_1 < (l0.length : Int) := od_
         obtain ⟨ad332, e332, hx332_0⟩ := Kd.at_int HR0.out x13_1 p332 q332
         cases e332
         replace p332 := eq_true p332
         replace q332 := eq_true q332
         have p333 : 0 ≤ (x13_1 : Int) := od_
         have q333 : x13_1 < (l1.length : Int) := od_
         obtain ⟨ad333, e333, hx333_0⟩ := Kd.at_int HR1.out x13_1 p333 q333
         cases e333
         replace p333 := eq_true p333
         replace q333 := eq_true q333
         go_wp2
         repeat (go_quiet (fail); try go_wp2)
         go_ret
         exact ⟨(by first | rfl | (simp; done) | (simp [*]; done)), (by repeat (first | exact Drawn0.refl _ | apply Drawn0.step))⟩
       ·rw [if_neg c7] at H
        exact absurd H (by simp)
      ·rw [if_neg c6] at H
       exact absurd H (by simp)
     ·rw [if_neg c5] at H
      exact absurd H (by simp)
    ·rw [if_neg c4] at H
     have c4b0 : decide (x13_1 < (l0.length : Int)) = false := decide_eq_false c4
     clear c4
     obtain rfl := Option.some.inj H
     go_wp2
     repeat (go_quiet (fail); try go_wp2)
     go_ret
     exact ⟨(by first | rfl | (simp; done) | (simp [*]; done)), (by repeat (first | exact Drawn0.refl _ | apply Drawn0.step))⟩
 ·rw [if_neg c3] at H
  have c3b0 : ((l0.length : Int) == (l1.length : Int)) = false := beq_eq_false_iff_ne.mpr c3
  have c3b1 : ((l0.length : Int) != (l1.length : Int)) = true := bne_iff_ne.mpr c3
  have c3b2 : (l0.length == l1.length) = false := by first | simpa using c3 | (simp at c3 ⊢; omega)
  obtain rfl := Option.some.inj H
  go_enter Try.func32, Try.ntmps32
  go_wp2
  repeat (go_quiet (fail); try go_wp2)
  go_ret
  exact ⟨(by first | rfl | (simp; done) | (simp [*]; done)), (by repeat (first | exact Drawn0.refl _ | apply Drawn0.step))⟩

/-! ### spt_Same: function 14 -/
def spt_Same.f (k : Nat) (l0_0 : List Int) (l0_1 : List Int) (l1_0 : List Int) (l1_1 : List Int) : Option (Bool) := (slices_Equal_int_int.f k l0_0 l1_0).bind fun t336 => (if t336 = true then ((slices_Equal_int_int.f k l0_1 l1_1).bind fun t337 => (some t337)) else (some false))
theorem spt_Same.mono : ∀ a0 a1 a2 a3 k, LeO (spt_Same.f k a0 a1 a2 a3) (spt_Same.f (k + 1) a0 a1 a2 a3) := by
 intro a0 a1 a2 a3 k
 unfold spt_Same.f
 repeat' first
   | (with_reducible exact slices_Equal_int_int.mono _ _ _)
   | (with_reducible exact LeO.refl _)
   | (with_reducible exact LeO.none _)
   | (with_reducible refine LeO.ite ?_ ?_)
   | (with_reducible refine LeO.bind ?_ (fun _ => ?_))
   | exact slices_Equal_int_int.mono _ _ _
   | exact LeO.none _
   | refine LeO.ite ?_ ?_
   | refine LeO.bind ?_ (fun _ => ?_)
set_option maxHeartbeats 8000000 in
set_option maxRecDepth 100000 in
theorem spt_Same.calls (k : Nat) (A0_0 : Option Addr) (c0_0 : Nat) (l0_0 : List Int) (A0_1 : Option Addr) (c0_1 : Nat) (l0_1 : List Int) (A1_0 : Option Addr) (c1_0 : Nat) (l1_0 : List Int) (A1_1 : Option Addr) (c1_1 : Nat) (l1_1 : List Int) (r : Bool) (w : World) (hr0_0 : Kd.C (Kd.int .i64) w A0_0 l0_0.length l0_0) (hc0_0 : l0_0.length ≤ c0_0) (hr0_1 : Kd.C (Kd.int .i64) w A0_1 l0_1.length l0_1) (hc0_1 : l0_1.length ≤ c0_1) (hr1_0 : Kd.C (Kd.int .i64) w A1_0 l1_0.length l1_0) (hc1_0 : l1_0.length ≤ c1_0) (hr1_1 : Kd.C (Kd.int .i64) w A1_1 l1_1.length l1_1) (hc1_1 : l1_1.length ≤ c1_1) (h : spt_Same.f k l0_0 l0_1 l1_0 l1_1 = some r) :
  Calls Try.prog 14 #[.agg #[.slice A0_0 l0_0.length c0_0, .slice A0_1 l0_1.length c0_1], .agg #[.slice A1_0 l1_0.length c1_0, .slice A1_1 l1_1.length c1_1]] w fun e w' => e = .returned (.bool r) ∧ Below w.heap.size w w' := by
 have hu29 := Try.underlying29
 have HR0_0 := m_ hr0_0
 have HC0_0 := m_ hc0_0
 clear hr0_0 hc0_0
 have HR0_1 := m_ hr0_1
 have HC0_1 := m_ hc0_1
 clear hr0_1 hc0_1
 have HR1_0 := m_ hr1_0
 have HC1_0 := m_ hc1_0
 clear hr1_0 hc1_0
 have HR1_1 := m_ hr1_1
 have HC1_1 := m_ hc1_1
 clear hr1_1 hc1_1
 have HB := m_ (Below.refl w.heap.size w)
 have H : ((slices_Equal_int_int.f k l0_0 l1_0).bind fun t336 => (if t336 = true then ((slices_Equal_int_int.f k l0_1 l1_1).bind fun t337 => (some t337)) else (some false))) = some r := h
 clear h
 replace H := Option.bind_eq_some_iff.mp H
 obtain ⟨t336, A30, H⟩ := H
 replace H : (if t336 = true then ((slices_Equal_int_int.f k l0_1 l1_1).bind fun t337 => (some t337)) else (some false)) = some r := H
 have A3 := m_ A30
 clear A30
 by_cases c4 : t336 = true
 ·subst c4
  have H1 : ((slices_Equal_int_int.f k l0_1 l1_1).bind fun t337 => (some t337)) = some r := by rw [if_pos rfl] at H; exact H
  clear H
  have H := H1
  clear H1
  replace H := Option.bind_eq_some_iff.mp H
  obtain ⟨t337, A50, H⟩ := H
  replace H : (some t337) = some r := H
  have A5 := m_ A50
  clear A50
  obtain rfl := Option.some.inj H
  go_enter Try.func14, Try.ntmps14
  go_wp2_with (first | ((with_reducible refine gate_dst (N := 2) rfl ?_); refine bx_ 2 29 #[.slice A0_0 l0_0.length c0_0, .slice A0_1 l0_1.length c0_1] ?_; intro gb334 hg w6 hbox hb; have BK334 := m_ (hbox); have GW334 := m_ ((gw_ : w.heap.size ≤ gb334)); have GE334 := m_ ((gw_ : w.heap.size ≤ gb334)); replace HB := m_ (below_step bz_ hb); clear hb hbox hg) | ((with_reducible refine gate_dst (N := 3) rfl ?_); refine bx_ 3 29 #[.slice A1_0 l1_0.length c1_0, .slice A1_1 l1_1.length c1_1] ?_; intro gb335 hg w7 hbox hb; have BK335 := m_ (hbox); have GW335 := m_ ((gw_ : w.heap.size ≤ gb335)); have GE335 := m_ ((gw_ : w.heap.size ≤ gb335)); have NB334_335 := m_ ((gl_ : gb334 ≠ gb335)); have NB335_334 := m_ ((gr_ : gb335 ≠ gb334)); replace BK334 := m_ (kl_ gb334 hb); replace HB := m_ (below_step bz_ hb); clear hb hbox hg; have hnb8 := NB334_335.out; have hnc8 := NB335_334.out; have hcz9_0 : w7.cell? ⟨gb334, 0, none⟩ = some (.slice A0_0 l0_0.length c0_0) := (blk_cell BK334.out 0).trans rfl; have hcz9_1 : w7.cell? ⟨gb334, 1, none⟩ = some (.slice A0_1 l0_1.length c0_1) := (blk_cell BK334.out 1).trans rfl; have hfz9_0 := blk_frozen BK334.out 0; have hfz9_1 := blk_frozen BK334.out 1; have hcz10_0 : w7.cell? ⟨gb335, 0, none⟩ = some (.slice A1_0 l1_0.length c1_0) := (blk_cell BK335.out 0).trans rfl; have hcz10_1 : w7.cell? ⟨gb335, 1, none⟩ = some (.slice A1_1 l1_1.length c1_1) := (blk_cell BK335.out 1).trans rfl; have hfz10_0 := blk_frozen BK335.out 0; have hfz10_1 := blk_frozen BK335.out 1) | ((with_reducible refine gate_callee (f := 32) rfl ?_); refine gL_ (some 9) Try.func32 #[.slice A0_0 l0_0.length c0_0, .slice A1_0 l1_0.length c1_0] ?_; (with_reducible refine (slices_Equal_int_int.calls k _ _ l0_0 _ _ l1_0 true _ ?side1 ?side2 ?side3 ?side4 A3.out).mono ?_); (case side1 => exact Cd_ (Kd.C_below HR0_0.out HB.out)); (case side2 => exact HC0_0.out); (case side3 => exact Cd_ (Kd.C_below HR1_0.out HB.out)); (case side4 => exact HC1_0.out); rintro e w' ⟨rfl, ⟨nd, rfl⟩⟩; refine ⟨_, rfl, ?_⟩) | (go_at_call 32; (with_reducible refine (slices_Equal_int_int.calls k _ _ l0_1 _ _ l1_1 t337 _ ?side1 ?side2 ?side3 ?side4 A5.out).mono ?_); (case side1 => exact Cd_ (Kd.C_below HR0_1.out bz_)); (case side2 => exact HC0_1.out); (case side3 => exact Cd_ (Kd.C_below HR1_1.out bz_)); (case side4 => exact HC1_1.out); rintro e w' ⟨rfl, ⟨nd, rfl⟩⟩))
  go_ret
  exact ⟨ew_, bz_⟩
 ·replace c4 := Bool.eq_false_iff.mpr c4
  subst c4
  have H1 : (some false) = some r := by rw [if_neg (show ¬ (false = true) by decide)] at H; exact H
  clear H
  have H := H1
  clear H1
  obtain rfl := Option.some.inj H
  go_enter Try.func14, Try.ntmps14
  go_wp2_with (first | ((with_reducible refine gate_dst (N := 2) rfl ?_); refine bx_ 2 29 #[.slice A0_0 l0_0.length c0_0, .slice A0_1 l0_1.length c0_1] ?_; intro gb334 hg w11 hbox hb; have BK334 := m_ (hbox); have GW334 := m_ ((gw_ : w.heap.size ≤ gb334)); have GE334 := m_ ((gw_ : w.heap.size ≤ gb334)); replace HB := m_ (below_step bz_ hb); clear hb hbox hg) | ((with_reducible refine gate_dst (N := 3) rfl ?_); refine bx_ 3 29 #[.slice A1_0 l1_0.length c1_0, .slice A1_1 l1_1.length c1_1] ?_; intro gb335 hg w12 hbox hb; have BK335 := m_ (hbox); have GW335 := m_ ((gw_ : w.heap.size ≤ gb335)); have GE335 := m_ ((gw_ : w.heap.size ≤ gb335)); have NB334_335 := m_ ((gl_ : gb334 ≠ gb335)); have NB335_334 := m_ ((gr_ : gb335 ≠ gb334)); replace BK334 := m_ (kl_ gb334 hb); replace HB := m_ (below_step bz_ hb); clear hb hbox hg; have hnb13 := NB334_335.out; have hnc13 := NB335_334.out; have hcz14_0 : w12.cell? ⟨gb334, 0, none⟩ = some (.slice A0_0 l0_0.length c0_0) := (blk_cell BK334.out 0).trans rfl; have hcz14_1 : w12.cell? ⟨gb334, 1, none⟩ = some (.slice A0_1 l0_1.length c0_1) := (blk_cell BK334.out 1).trans rfl; have hfz14_0 := blk_frozen BK334.out 0; have hfz14_1 := blk_frozen BK334.out 1; have hcz15_0 : w12.cell? ⟨gb335, 0, none⟩ = some (.slice A1_0 l1_0.length c1_0) := (blk_cell BK335.out 0).trans rfl; have hcz15_1 : w12.cell? ⟨gb335, 1, none⟩ = some (.slice A1_1 l1_1.length c1_1) := (blk_cell BK335.out 1).trans rfl; have hfz15_0 := blk_frozen BK335.out 0; have hfz15_1 := blk_frozen BK335.out 1) | ((with_reducible refine gate_callee (f := 32) rfl ?_); refine gL_ (some 9) Try.func32 #[.slice A0_0 l0_0.length c0_0, .slice A1_0 l1_0.length c1_0] ?_; (with_reducible refine (slices_Equal_int_int.calls k _ _ l0_0 _ _ l1_0 false _ ?side1 ?side2 ?side3 ?side4 A3.out).mono ?_); (case side1 => exact Cd_ (Kd.C_below HR0_0.out HB.out)); (case side2 => exact HC0_0.out); (case side3 => exact Cd_ (Kd.C_below HR1_0.out HB.out)); (case side4 => exact HC1_0.out); rintro e w' ⟨rfl, ⟨nd, rfl⟩⟩; refine ⟨_, rfl, ?_⟩))
  go_ret
  exact ⟨ew_, bz_⟩

/-! ### stolonref09_Ints: function 17 -/
def stolonref09_Ints.l0 : Nat → List Int → List Int → Int → Option (Bool)
 | 0, _, _, _ => none
 | k + 1, x0, x1, x5 => if x5 < (x0.length : Int) then (if 0 ≤ x5 then (if x5 < (x1.length : Int) then (if (rd x0 x5) = (rd x1 x5) then (stolonref09_Ints.l0 k x0 x1 (wrap64 (x5 + 1))) else (some false)) else (none)) else (none)) else (some true)
def stolonref09_Ints.f (k : Nat) (l0 : List Int) (l1 : List Int) : Option (Bool) := if (l0.length : Int) = (l1.length : Int) then (stolonref09_Ints.l0 k l0 l1 0) else (some false)
theorem stolonref09_Ints.mono_l : ∀ k, (∀ y0 y1 y2, LeO (stolonref09_Ints.l0 k y0 y1 y2) (stolonref09_Ints.l0 (k + 1) y0 y1 y2))
 | 0 => fun _ _ _ r h => by simp [stolonref09_Ints.l0] at h
 | k + 1 => by
  have ih0 := stolonref09_Ints.mono_l k
  ·intro y0 y1 y2
   unfold stolonref09_Ints.l0
   repeat' first
   | (with_reducible exact ih0 _ _ _)
   | (with_reducible exact LeO.refl _)
   | (with_reducible exact LeO.none _)
   | (with_reducible refine LeO.ite ?_ ?_)
   | (with_reducible refine LeO.bind ?_ (fun _ => ?_))
   | exact ih0 _ _ _
   | exact LeO.none _
   | refine LeO.ite ?_ ?_
   | refine LeO.bind ?_ (fun _ => ?_)
theorem stolonref09_Ints.mono : ∀ a0 a1 k, LeO (stolonref09_Ints.f k a0 a1) (stolonref09_Ints.f (k + 1) a0 a1) := by
 intro a0 a1 k
 have ih0 := stolonref09_Ints.mono_l k
 unfold stolonref09_Ints.f
 repeat' first
   | (with_reducible exact ih0 _ _ _)
   | (with_reducible exact LeO.refl _)
   | (with_reducible exact LeO.none _)
   | (with_reducible refine LeO.ite ?_ ?_)
   | (with_reducible refine LeO.bind ?_ (fun _ => ?_))
   | exact ih0 _ _ _
   | exact LeO.none _
   | refine LeO.ite ?_ ?_
   | refine LeO.bind ?_ (fun _ => ?_)
set_option maxHeartbeats 8000000 in
set_option maxRecDepth 100000 in
theorem stolonref09_Ints.calls (k : Nat) (A0 : Option Addr) (c0 : Nat) (l0 : List Int) (A1 : Option Addr) (c1 : Nat) (l1 : List Int) (r : Bool) (w : World) (hr0 : Kd.C (Kd.int .i64) w A0 l0.length l0) (hc0 : l0.length ≤ c0) (hr1 : Kd.C (Kd.int .i64) w A1 l1.length l1) (hc1 : l1.length ≤ c1) (h : stolonref09_Ints.f k l0 l1 = some r) :
  Calls Try.prog 17 #[.slice A0 l0.length c0, .slice A1 l1.length c1] w fun e w' => e = .returned (.bool r) ∧ Drawn0 w w' := by
 have HR0 := m_ hr0
 have HC0 := m_ hc0
 clear hr0 hc0
 have HR1 := m_ hr1
 have HC1 := m_ hc1
 clear hr1 hc1
 have H : (if (l0.length : Int) = (l1.length : Int) then (stolonref09_Ints.l0 k l0 l1 0) else (some false)) = some r := h
 clear h
 by_cases c3 : (l0.length : Int) = (l1.length : Int)
 ·rw [if_pos c3] at H
  have c3b0 : ((l0.length : Int) == (l1.length : Int)) = true := beq_iff_eq.mpr c3
  have c3b1 : ((l0.length : Int) != (l1.length : Int)) = false := bne_eq_false_iff_eq.mpr c3
  have c3b2 : (l0.length == l1.length) = true := by first | simpa using c3 | (simp at c3 ⊢; omega)
  clear c3
  have H' := m_ H
  clear H
  go_enter Try.func17, Try.ntmps17
  go_wp2
  repeat (go_quiet (fail); try go_wp2)
  go_loopg [5] k (fun kq v5 w' => ∃ (x5_1 : Int), v5 = .int .i64 x5_1 ∧ Aside0 (stolonref09_Ints.l0 kq l0 l1 x5_1 = some r) ∧ Aside0 (kq ≤ k) ∧ Drawn0 w w')
  case atStart => exact ⟨(0), (by first | rfl | (simp; done) | (simp [*]; done)), H', ⟨Nat.le_refl _⟩, by repeat (first | exact Drawn0.refl _ | apply Drawn0.step)⟩
  case round =>
   clear H'
   try clear c1
   try clear p2
   try clear c3
   try clear c3b0
   try clear c3b1
   try clear c3b2
   obtain ⟨x5_1, rfl, HA, HK1, ⟨m1, rfl⟩⟩ := hrel
   cases gk with
   | zero => exact absurd HA.out (by simp [stolonref09_Ints.l0])
   | succ k1 =>
    have H := HA.out
    clear HA
    simp only [stolonref09_Ints.l0] at H
    by_cases c4 : x5_1 < (l0.length : Int)
    ·rw [if_pos c4] at H
     have c4b0 : decide (x5_1 < (l0.length : Int)) = true := decide_eq_true c4
     clear c4
     by_cases c5 : 0 ≤ x5_1
     ·rw [if_pos c5] at H
      have c5b0 : decide (0 ≤ x5_1) = true := decide_eq_true c5
      clear c5
      by_cases c6 : x5_1 < (l1.length : Int)
      ·rw [if_pos c6] at H
       have c6b0 : decide (x5_1 < (l1.length : Int)) = true := decide_eq_true c6
       clear c6
       by_cases c7 : (rd l0 x5_1) = (rd l1 x5_1)
       ·rw [if_pos c7] at H
        have c7b0 : ((rd l0 x5_1) == (rd l1 x5_1)) = true := beq_iff_eq.mpr c7
        have c7b1 : ((rd l0 x5_1) != (rd l1 x5_1)) = false := bne_eq_false_iff_eq.mpr c7
        clear c7
        have H' := m_ H
        clear H
        have p338 : 0 ≤ (x5_1 : Int) := od_
        have q338 : x5_1 < (l0.length : Int) := od_
        obtain ⟨ad338, e338, hx338_0⟩ := Kd.at_int HR0.out x5_1 p338 q338
        cases e338
        replace p338 := eq_true p338
        replace q338 := eq_true q338
        have p339 : 0 ≤ (x5_1 : Int) := od_
        have q339 : x5_1 < (l1.length : Int) := od_
        obtain ⟨ad339, e339, hx339_0⟩ := Kd.at_int HR1.out x5_1 p339 q339
        cases e339
        replace p339 := eq_true p339
        replace q339 := eq_true q339
        go_wp2
        repeat (go_quiet (fail); try go_wp2)
        go_roundg k1
        case measure => have := HK1.out; omega
        case rel => exact ⟨(wrap64 (x5_1 + 1)), (by first | rfl | (simp; done) | (simp [*]; done)), H', ⟨by have := HK1.out; omega⟩, by repeat (first | exact Drawn0.refl _ | apply Drawn0.step)⟩
       ·rw [if_neg c7] at H
        have c7b0 : ((rd l0 x5_1) == (rd l1 x5_1)) = false := beq_eq_false_iff_ne.mpr c7
        have c7b1 : ((rd l0 x5_1) != (rd l1 x5_1)) = true := bne_iff_ne.mpr c7
        obtain rfl := Option.some.inj H
        have p338 : 0 ≤ (x5_1 : Int) := od_
        have q338 : x5_1 < (l0.length : Int) := od_
        obtain ⟨ad338, e338, hx338_0⟩ := Kd.at_int HR0.out x5_1 p338 q338
        cases e338
        replace p338 := eq_true p338
        replace q338 := eq_true q338
        have p339 : 0 ≤ (x5_1 : Int) := od_
        have q339 : x5_1 < (l1.length : Int) := od_
        obtain ⟨ad339, e339, hx339_0⟩ := Kd.at_int HR1.out x5_1 p339 q339
        cases e339
        replace p339 := eq_true p339
        replace q339 := eq_true q339
        go_wp2
        repeat (go_quiet (fail); try go_wp2)
        go_ret
        exact ⟨(by first | rfl | (simp; done) | (simp [*]; done)), (by repeat (first | exact Drawn0.refl _ | apply Drawn0.step))⟩
      ·rw [if_neg c6] at H
       exact absurd H (by simp)
     ·rw [if_neg c5] at H
      exact absurd H (by simp)
    ·rw [if_neg c4] at H
     have c4b0 : decide (x5_1 < (l0.length : Int)) = false := decide_eq_false c4
     clear c4
     obtain rfl := Option.some.inj H
     go_wp2
     repeat (go_quiet (fail); try go_wp2)
     go_ret
     exact ⟨(by first | rfl | (simp; done) | (simp [*]; done)), (by repeat (first | exact Drawn0.refl _ | apply Drawn0.step))⟩
 ·rw [if_neg c3] at H
  have c3b0 : ((l0.length : Int) == (l1.length : Int)) = false := beq_eq_false_iff_ne.mpr c3
  have c3b1 : ((l0.length : Int) != (l1.length : Int)) = true := bne_iff_ne.mpr c3
  have c3b2 : (l0.length == l1.length) = false := by first | simpa using c3 | (simp at c3 ⊢; omega)
  obtain rfl := Option.some.inj H
  go_enter Try.func17, Try.ntmps17
  go_wp2
  repeat (go_quiet (fail); try go_wp2)
  go_ret
  exact ⟨(by first | rfl | (simp; done) | (simp [*]; done)), (by repeat (first | exact Drawn0.refl _ | apply Drawn0.step))⟩

/-! ### stolonref13_Same: function 15 -/
def stolonref13_Same.f (k : Nat) (l0_0 : List Int) (l0_1 : List Int) (l1_0 : List Int) (l1_1 : List Int) : Option (Bool) := (stolonref09_Ints.f k l0_0 l1_0).bind fun t342 => (if t342 = true then ((stolonref09_Ints.f k l0_1 l1_1).bind fun t343 => (some t343)) else (some false))
theorem stolonref13_Same.mono : ∀ a0 a1 a2 a3 k, LeO (stolonref13_Same.f k a0 a1 a2 a3) (stolonref13_Same.f (k + 1) a0 a1 a2 a3) := by
 intro a0 a1 a2 a3 k
 unfold stolonref13_Same.f
 repeat' first
   | (with_reducible exact stolonref09_Ints.mono _ _ _)
   | (with_reducible exact LeO.refl _)
   | (with_reducible exact LeO.none _)
   | (with_reducible refine LeO.ite ?_ ?_)
   | (with_reducible refine LeO.bind ?_ (fun _ => ?_))
   | exact stolonref09_Ints.mono _ _ _
   | exact LeO.none _
   | refine LeO.ite ?_ ?_
   | refine LeO.bind ?_ (fun _ => ?_)
set_option maxHeartbeats 8000000 in
set_option maxRecDepth 100000 in
theorem stolonref13_Same.calls (k : Nat) (A0_0 : Option Addr) (c0_0 : Nat) (l0_0 : List Int) (A0_1 : Option Addr) (c0_1 : Nat) (l0_1 : List Int) (A1_0 : Option Addr) (c1_0 : Nat) (l1_0 : List Int) (A1_1 : Option Addr) (c1_1 : Nat) (l1_1 : List Int) (r : Bool) (w : World) (hr0_0 : Kd.C (Kd.int .i64) w A0_0 l0_0.length l0_0) (hc0_0 : l0_0.length ≤ c0_0) (hr0_1 : Kd.C (Kd.int .i64) w A0_1 l0_1.length l0_1) (hc0_1 : l0_1.length ≤ c0_1) (hr1_0 : Kd.C (Kd.int .i64) w A1_0 l1_0.length l1_0) (hc1_0 : l1_0.length ≤ c1_0) (hr1_1 : Kd.C (Kd.int .i64) w A1_1 l1_1.length l1_1) (hc1_1 : l1_1.length ≤ c1_1) (h : stolonref13_Same.f k l0_0 l0_1 l1_0 l1_1 = some r) :
  Calls Try.prog 15 #[.agg #[.slice A0_0 l0_0.length c0_0, .slice A0_1 l0_1.length c0_1], .agg #[.slice A1_0 l1_0.length c1_0, .slice A1_1 l1_1.length c1_1]] w fun e w' => e = .returned (.bool r) ∧ Below w.heap.size w w' := by
 have hu29 := Try.underlying29
 have HR0_0 := m_ hr0_0
 have HC0_0 := m_ hc0_0
 clear hr0_0 hc0_0
 have HR0_1 := m_ hr0_1
 have HC0_1 := m_ hc0_1
 clear hr0_1 hc0_1
 have HR1_0 := m_ hr1_0
 have HC1_0 := m_ hc1_0
 clear hr1_0 hc1_0
 have HR1_1 := m_ hr1_1
 have HC1_1 := m_ hc1_1
 clear hr1_1 hc1_1
 have HB := m_ (Below.refl w.heap.size w)
 have H : ((stolonref09_Ints.f k l0_0 l1_0).bind fun t342 => (if t342 = true then ((stolonref09_Ints.f k l0_1 l1_1).bind fun t343 => (some t343)) else (some false))) = some r := h
 clear h
 replace H := Option.bind_eq_some_iff.mp H
 obtain ⟨t342, A30, H⟩ := H
 replace H : (if t342 = true then ((stolonref09_Ints.f k l0_1 l1_1).bind fun t343 => (some t343)) else (some false)) = some r := H
 have A3 := m_ A30
 clear A30
 by_cases c4 : t342 = true
 ·subst c4
  have H1 : ((stolonref09_Ints.f k l0_1 l1_1).bind fun t343 => (some t343)) = some r := by rw [if_pos rfl] at H; exact H
  clear H
  have H := H1
  clear H1
  replace H := Option.bind_eq_some_iff.mp H
  obtain ⟨t343, A50, H⟩ := H
  replace H : (some t343) = some r := H
  have A5 := m_ A50
  clear A50
  obtain rfl := Option.some.inj H
  go_enter Try.func15, Try.ntmps15
  go_wp2_with (first | ((with_reducible refine gate_dst (N := 2) rfl ?_); refine bx_ 2 29 #[.slice A0_0 l0_0.length c0_0, .slice A0_1 l0_1.length c0_1] ?_; intro gb340 hg w6 hbox hb; have BK340 := m_ (hbox); have GW340 := m_ ((gw_ : w.heap.size ≤ gb340)); have GE340 := m_ ((gw_ : w.heap.size ≤ gb340)); replace HB := m_ (below_step bz_ hb); clear hb hbox hg) | ((with_reducible refine gate_dst (N := 3) rfl ?_); refine bx_ 3 29 #[.slice A1_0 l1_0.length c1_0, .slice A1_1 l1_1.length c1_1] ?_; intro gb341 hg w7 hbox hb; have BK341 := m_ (hbox); have GW341 := m_ ((gw_ : w.heap.size ≤ gb341)); have GE341 := m_ ((gw_ : w.heap.size ≤ gb341)); have NB340_341 := m_ ((gl_ : gb340 ≠ gb341)); have NB341_340 := m_ ((gr_ : gb341 ≠ gb340)); replace BK340 := m_ (kl_ gb340 hb); replace HB := m_ (below_step bz_ hb); clear hb hbox hg; have hnb8 := NB340_341.out; have hnc8 := NB341_340.out; have hcz9_0 : w7.cell? ⟨gb340, 0, none⟩ = some (.slice A0_0 l0_0.length c0_0) := (blk_cell BK340.out 0).trans rfl; have hcz9_1 : w7.cell? ⟨gb340, 1, none⟩ = some (.slice A0_1 l0_1.length c0_1) := (blk_cell BK340.out 1).trans rfl; have hfz9_0 := blk_frozen BK340.out 0; have hfz9_1 := blk_frozen BK340.out 1; have hcz10_0 : w7.cell? ⟨gb341, 0, none⟩ = some (.slice A1_0 l1_0.length c1_0) := (blk_cell BK341.out 0).trans rfl; have hcz10_1 : w7.cell? ⟨gb341, 1, none⟩ = some (.slice A1_1 l1_1.length c1_1) := (blk_cell BK341.out 1).trans rfl; have hfz10_0 := blk_frozen BK341.out 0; have hfz10_1 := blk_frozen BK341.out 1) | ((with_reducible refine gate_callee (f := 17) rfl ?_); refine gL_ (some 9) Try.func17 #[.slice A0_0 l0_0.length c0_0, .slice A1_0 l1_0.length c1_0] ?_; (with_reducible refine (stolonref09_Ints.calls k _ _ l0_0 _ _ l1_0 true _ ?side1 ?side2 ?side3 ?side4 A3.out).mono ?_); (case side1 => exact Cd_ (Kd.C_below HR0_0.out HB.out)); (case side2 => exact HC0_0.out); (case side3 => exact Cd_ (Kd.C_below HR1_0.out HB.out)); (case side4 => exact HC1_0.out); rintro e w' ⟨rfl, ⟨nd, rfl⟩⟩; refine ⟨_, rfl, ?_⟩) | (go_at_call 17; (with_reducible refine (stolonref09_Ints.calls k _ _ l0_1 _ _ l1_1 t343 _ ?side1 ?side2 ?side3 ?side4 A5.out).mono ?_); (case side1 => exact Cd_ (Kd.C_below HR0_1.out bz_)); (case side2 => exact HC0_1.out); (case side3 => exact Cd_ (Kd.C_below HR1_1.out bz_)); (case side4 => exact HC1_1.out); rintro e w' ⟨rfl, ⟨nd, rfl⟩⟩))
  go_ret
  exact ⟨ew_, bz_⟩
 ·replace c4 := Bool.eq_false_iff.mpr c4
  subst c4
  have H1 : (some false) = some r := by rw [if_neg (show ¬ (false = true) by decide)] at H; exact H
  clear H
  have H := H1
  clear H1
  obtain rfl := Option.some.inj H
  go_enter Try.func15, Try.ntmps15
  go_wp2_with (first | ((with_reducible refine gate_dst (N := 2) rfl ?_); refine bx_ 2 29 #[.slice A0_0 l0_0.length c0_0, .slice A0_1 l0_1.length c0_1] ?_; intro gb340 hg w11 hbox hb; have BK340 := m_ (hbox); have GW340 := m_ ((gw_ : w.heap.size ≤ gb340)); have GE340 := m_ ((gw_ : w.heap.size ≤ gb340)); replace HB := m_ (below_step bz_ hb); clear hb hbox hg) | ((with_reducible refine gate_dst (N := 3) rfl ?_); refine bx_ 3 29 #[.slice A1_0 l1_0.length c1_0, .slice A1_1 l1_1.length c1_1] ?_; intro gb341 hg w12 hbox hb; have BK341 := m_ (hbox); have GW341 := m_ ((gw_ : w.heap.size ≤ gb341)); have GE341 := m_ ((gw_ : w.heap.size ≤ gb341)); have NB340_341 := m_ ((gl_ : gb340 ≠ gb341)); have NB341_340 := m_ ((gr_ : gb341 ≠ gb340)); replace BK340 := m_ (kl_ gb340 hb); replace HB := m_ (below_step bz_ hb); clear hb hbox hg; have hnb13 := NB340_341.out; have hnc13 := NB341_340.out; have hcz14_0 : w12.cell? ⟨gb340, 0, none⟩ = some (.slice A0_0 l0_0.length c0_0) := (blk_cell BK340.out 0).trans rfl; have hcz14_1 : w12.cell? ⟨gb340, 1, none⟩ = some (.slice A0_1 l0_1.length c0_1) := (blk_cell BK340.out 1).trans rfl; have hfz14_0 := blk_frozen BK340.out 0; have hfz14_1 := blk_frozen BK340.out 1; have hcz15_0 : w12.cell? ⟨gb341, 0, none⟩ = some (.slice A1_0 l1_0.length c1_0) := (blk_cell BK341.out 0).trans rfl; have hcz15_1 : w12.cell? ⟨gb341, 1, none⟩ = some (.slice A1_1 l1_1.length c1_1) := (blk_cell BK341.out 1).trans rfl; have hfz15_0 := blk_frozen BK341.out 0; have hfz15_1 := blk_frozen BK341.out 1) | ((with_reducible refine gate_callee (f := 17) rfl ?_); refine gL_ (some 9) Try.func17 #[.slice A0_0 l0_0.length c0_0, .slice A1_0 l1_0.length c1_0] ?_; (with_reducible refine (stolonref09_Ints.calls k _ _ l0_0 _ _ l1_0 false _ ?side1 ?side2 ?side3 ?side4 A3.out).mono ?_); (case side1 => exact Cd_ (Kd.C_below HR0_0.out HB.out)); (case side2 => exact HC0_0.out); (case side3 => exact Cd_ (Kd.C_below HR1_0.out HB.out)); (case side4 => exact HC1_0.out); rintro e w' ⟨rfl, ⟨nd, rfl⟩⟩; refine ⟨_, rfl, ?_⟩))
  go_ret
  exact ⟨ew_, bz_⟩

end Go.Proofs.Ytkcphjdjhlikhaa.P

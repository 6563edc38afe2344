/- For each Go function a Lean function, and the proof that a call comes to what it tells: made by program out of the translation (the kit's print, with texts by hand put in). No condition. -/
import Derived.Test.YtfomnmdjbdohgaaSq
import Derived.Test.YtfomnmdjbdohgaaPx0
import Derived.Test.YtfomnmdjbdohgaaPx26
import Derived.Test.YtfomnmdjbdohgaaPx27
namespace Go.Proofs.Ytfomnmdjbdohgaa.P
open Go.RowKit Go.Proofs.Ytfomnmdjbdohgaa.HRows Go.Proofs.YtfomnmdjbdohgaaW.PrintWords Go.Proofs.YtfomnmdjbdohgaaW.PrintLast Go.Proofs.YtfomnmdjbdohgaaW.PrintMore
attribute [local go_sem] max2_int min2_int max_two min_two max_three min_three max_four min_four
set_option linter.unusedVariables false
set_option linter.unusedSimpArgs false
def stolonref16_Same.f (k : Nat) (a0_0 : Int) (a0_1 : Int) (a0_2 : Int) (a0_3 : Int) (a0_4 : Int) (a0_5 : Int) (a0_6 : Int) (l0_7 : List (S74)) (a0_8 : Int) (a0_9 : Bool) (l0_10 : List Int) (a1_0 : Int) (a1_1 : Int) (a1_2 : Int) (a1_3 : Int) (a1_4 : Int) (a1_5 : Int) (a1_6 : Int) (l1_7 : List (S74)) (a1_8 : Int) (a1_9 : Bool) (l1_10 : List Int) : Option (Bool) := (stolonref15_Same.f k a0_2 a0_3 a0_4 a0_5 a0_6 l0_7 a1_2 a1_3 a1_4 a1_5 a1_6 l1_7).bind fun t298 => (if t298 = true then (if a0_0 = a1_0 then (if a0_1 = a1_1 then (if a0_8 = a1_8 then (if (a0_9 == a1_9) = true then ((stolonref01_Same.f k l0_10 l1_10).bind fun t299 => (some t299)) else (some false)) else (some false)) else (some false)) else (some false)) else (some false))
set_option maxHeartbeats 8000000 in
set_option maxRecDepth 100000 in
theorem stolonref16_Same.calls (k : Nat) (a0_0 : Int) (a0_1 : Int) (a0_2 : Int) (a0_3 : Int) (a0_4 : Int) (a0_5 : Int) (a0_6 : Int) (A0_7 : Option Addr) (c0_7 : Nat) (l0_7 : List (S74)) (a0_8 : Int) (a0_9 : Bool) (A0_10 : Option Addr) (c0_10 : Nat) (l0_10 : List Int) (a1_0 : Int) (a1_1 : Int) (a1_2 : Int) (a1_3 : Int) (a1_4 : Int) (a1_5 : Int) (a1_6 : Int) (A1_7 : Option Addr) (c1_7 : Nat) (l1_7 : List (S74)) (a1_8 : Int) (a1_9 : Bool) (A1_10 : Option Addr) (c1_10 : Nat) (l1_10 : List Int) (r : Bool) (w : World) (hr0_7 : Kd.C k74 w A0_7 l0_7.length l0_7) (hc0_7 : l0_7.length ≤ c0_7) (hr0_10 : Kd.C (Kd.int .u8) w A0_10 l0_10.length l0_10) (hc0_10 : l0_10.length ≤ c0_10) (hr1_7 : Kd.C k74 w A1_7 l1_7.length l1_7) (hc1_7 : l1_7.length ≤ c1_7) (hr1_10 : Kd.C (Kd.int .u8) w A1_10 l1_10.length l1_10) (hc1_10 : l1_10.length ≤ c1_10) (h : stolonref16_Same.f k a0_0 a0_1 a0_2 a0_3 a0_4 a0_5 a0_6 l0_7 a0_8 a0_9 l0_10 a1_0 a1_1 a1_2 a1_3 a1_4 a1_5 a1_6 l1_7 a1_8 a1_9 l1_10 = some r) :
  Calls Try.prog 31 #[.agg #[.int .u8 a0_0, .int .u32 a0_1, .int .u32 a0_2, .int .u32 a0_3, .int .u32 a0_4, .int .i64 a0_5, .int .u32 a0_6, .slice A0_7 l0_7.length c0_7, .int .i64 a0_8, .bool a0_9, .slice A0_10 l0_10.length c0_10], .agg #[.int .u8 a1_0, .int .u32 a1_1, .int .u32 a1_2, .int .u32 a1_3, .int .u32 a1_4, .int .i64 a1_5, .int .u32 a1_6, .slice A1_7 l1_7.length c1_7, .int .i64 a1_8, .bool a1_9, .slice A1_10 l1_10.length c1_10]] w fun e w' => e = .returned (.bool r) ∧ Below w.heap.size w w' := by
 have hu32 := Try.underlying32
 have hu29 := Try.underlying29
 have HR0_7 := m_ hr0_7
 have HC0_7 := m_ hc0_7
 clear hr0_7 hc0_7
 have HR0_10 := m_ hr0_10
 have HC0_10 := m_ hc0_10
 clear hr0_10 hc0_10
 have HR1_7 := m_ hr1_7
 have HC1_7 := m_ hc1_7
 clear hr1_7 hc1_7
 have HR1_10 := m_ hr1_10
 have HC1_10 := m_ hc1_10
 clear hr1_10 hc1_10
 have HB := m_ (Below.refl w.heap.size w)
 have H : ((stolonref15_Same.f k a0_2 a0_3 a0_4 a0_5 a0_6 l0_7 a1_2 a1_3 a1_4 a1_5 a1_6 l1_7).bind fun t298 => (if t298 = true then (if a0_0 = a1_0 then (if a0_1 = a1_1 then (if a0_8 = a1_8 then (if (a0_9 == a1_9) = true then ((stolonref01_Same.f k l0_10 l1_10).bind fun t299 => (some t299)) else (some false)) else (some false)) else (some false)) else (some false)) else (some false))) = some r := h
 clear h
 replace H := Option.bind_eq_some_iff.mp H
 obtain ⟨t298, A30, H⟩ := H
 replace H : (if t298 = true then (if a0_0 = a1_0 then (if a0_1 = a1_1 then (if a0_8 = a1_8 then (if (a0_9 == a1_9) = true then ((stolonref01_Same.f k l0_10 l1_10).bind fun t299 => (some t299)) else (some false)) else (some false)) else (some false)) else (some false)) else (some false)) = some r := H
 have A3 := m_ A30
 clear A30
 by_cases c4 : t298 = true
 ·subst c4
  have H1 : (if a0_0 = a1_0 then (if a0_1 = a1_1 then (if a0_8 = a1_8 then (if (a0_9 == a1_9) = true then ((stolonref01_Same.f k l0_10 l1_10).bind fun t299 => (some t299)) else (some false)) else (some false)) else (some false)) else (some false)) = some r := by rw [if_pos rfl] at H; exact H
  clear H
  have H := H1
  clear H1
  by_cases c5 : a0_0 = a1_0
  ·rw [if_pos c5] at H
   have c5b0 : (a0_0 == a1_0) = true := beq_iff_eq.mpr c5
   have c5b1 : (a0_0 != a1_0) = false := bne_eq_false_iff_eq.mpr c5
   clear c5
   by_cases c6 : a0_1 = a1_1
   ·rw [if_pos c6] at H
    have c6b0 : (a0_1 == a1_1) = true := beq_iff_eq.mpr c6
    have c6b1 : (a0_1 != a1_1) = false := bne_eq_false_iff_eq.mpr c6
    clear c6
    by_cases c7 : a0_8 = a1_8
    ·rw [if_pos c7] at H
     have c7b0 : (a0_8 == a1_8) = true := beq_iff_eq.mpr c7
     have c7b1 : (a0_8 != a1_8) = false := bne_eq_false_iff_eq.mpr c7
     clear c7
     by_cases c8 : (a0_9 == a1_9) = true
     ·rw [if_pos c8] at H
      have c8b0 : (a0_9 == a1_9) = true := c8
      (try (have c8b1 : decide (a0_9 = a1_9) = true := by simpa using c8))
      (try (have c8b2 : (a0_9 == a1_9) = true := by simpa using c8))
      clear c8
      replace H := Option.bind_eq_some_iff.mp H
      obtain ⟨t299, A90, H⟩ := H
      replace H : (some t299) = some r := H
      have A9 := m_ A90
      clear A90
      obtain rfl := Option.some.inj H
      go_enter Try.func31, Try.ntmps31
      go_wp2_with (first | ((with_reducible refine gate_dst (N := 2) rfl ?_); refine bx_ 2 32 #[.int .u8 a0_0, .int .u32 a0_1, .int .u32 a0_2, .int .u32 a0_3, .int .u32 a0_4, .int .i64 a0_5, .int .u32 a0_6, .slice A0_7 l0_7.length c0_7, .int .i64 a0_8, .bool a0_9, .slice A0_10 l0_10.length c0_10] ?_; intro gb296 hg w10 hbox hb; have BK296 := m_ (hbox); have GW296 := m_ ((gw_ : w.heap.size ≤ gb296)); have GE296 := m_ ((gw_ : w.heap.size ≤ gb296)); replace HB := m_ (below_step bz_ hb); clear hb hbox hg) | ((with_reducible refine gate_dst (N := 3) rfl ?_); refine bx_ 3 32 #[.int .u8 a1_0, .int .u32 a1_1, .int .u32 a1_2, .int .u32 a1_3, .int .u32 a1_4, .int .i64 a1_5, .int .u32 a1_6, .slice A1_7 l1_7.length c1_7, .int .i64 a1_8, .bool a1_9, .slice A1_10 l1_10.length c1_10] ?_; intro gb297 hg w11 hbox hb; have BK297 := m_ (hbox); have GW297 := m_ ((gw_ : w.heap.size ≤ gb297)); have GE297 := m_ ((gw_ : w.heap.size ≤ gb297)); have NB296_297 := m_ ((gl_ : gb296 ≠ gb297)); have NB297_296 := m_ ((gr_ : gb297 ≠ gb296)); replace BK296 := m_ (kl_ gb296 hb); replace HB := m_ (below_step bz_ hb); clear hb hbox hg; have hnb12 := NB296_297.out; have hnc12 := NB297_296.out; have hcz13 := cz11_ BK296.out; have hcz14 := cz11_ BK297.out) | ((with_reducible refine gate_callee (f := 20) rfl ?_); refine gL_ (some 10) Try.func20 #[.agg #[.int .u32 a0_2, .int .u32 a0_3, .int .u32 a0_4, .int .i64 a0_5, .int .u32 a0_6, .slice A0_7 l0_7.length c0_7], .agg #[.int .u32 a1_2, .int .u32 a1_3, .int .u32 a1_4, .int .i64 a1_5, .int .u32 a1_6, .slice A1_7 l1_7.length c1_7]] ?_; (with_reducible refine (stolonref15_Same.calls k a0_2 a0_3 a0_4 a0_5 a0_6 _ _ l0_7 a1_2 a1_3 a1_4 a1_5 a1_6 _ _ l1_7 true _ ?side1 ?side2 ?side3 ?side4 A3.out).mono ?_); (case side1 => exact Cd_ (Kd.C_below HR0_7.out HB.out)); (case side2 => exact HC0_7.out); (case side3 => exact Cd_ (Kd.C_below HR1_7.out HB.out)); (case side4 => exact HC1_7.out); rintro e w15 ⟨rfl, hb⟩; refine ⟨_, rfl, ?_⟩; replace BK296 := m_ (kl_ gb296 hb); replace BK297 := m_ (kl_ gb297 hb); replace HB := m_ (below_step bz_ hb); (try clear hb); (try clear hb2); (try clear hk); (try clear hi); have hcz16 := cz11_ BK296.out; have hcz17 := cz11_ BK297.out) | (go_at_call 43; (with_reducible refine (stolonref01_Same.calls k _ _ l0_10 _ _ l1_10 t299 _ ?side1 ?side2 ?side3 ?side4 A9.out).mono ?_); (case side1 => exact Cd_ (Kd.C_below HR0_10.out HB.out)); (case side2 => exact HC0_10.out); (case side3 => exact Cd_ (Kd.C_below HR1_10.out HB.out)); (case side4 => exact HC1_10.out); rintro e w' ⟨rfl, ⟨nd, rfl⟩⟩))
      go_ret
      exact ⟨ew_, bz_⟩
     ·rw [if_neg c8] at H
      have c8b0 : (a0_9 == a1_9) = false := by simpa using c8
      (try (have c8b1 : decide (a0_9 = a1_9) = false := by simpa using c8))
      (try (have c8b2 : (a0_9 == a1_9) = false := by simpa using c8))
      (try (have c8b3 : ¬ (a0_9 = a1_9) := by simpa using c8))
      clear c8
      obtain rfl := Option.some.inj H
      go_enter Try.func31, Try.ntmps31
      go_wp2_with (first | ((with_reducible refine gate_dst (N := 2) rfl ?_); refine bx_ 2 32 #[.int .u8 a0_0, .int .u32 a0_1, .int .u32 a0_2, .int .u32 a0_3, .int .u32 a0_4, .int .i64 a0_5, .int .u32 a0_6, .slice A0_7 l0_7.length c0_7, .int .i64 a0_8, .bool a0_9, .slice A0_10 l0_10.length c0_10] ?_; intro gb296 hg w18 hbox hb; have BK296 := m_ (hbox); have GW296 := m_ ((gw_ : w.heap.size ≤ gb296)); have GE296 := m_ ((gw_ : w.heap.size ≤ gb296)); replace HB := m_ (below_step bz_ hb); clear hb hbox hg) | ((with_reducible refine gate_dst (N := 3) rfl ?_); refine bx_ 3 32 #[.int .u8 a1_0, .int .u32 a1_1, .int .u32 a1_2, .int .u32 a1_3, .int .u32 a1_4, .int .i64 a1_5, .int .u32 a1_6, .slice A1_7 l1_7.length c1_7, .int .i64 a1_8, .bool a1_9, .slice A1_10 l1_10.length c1_10] ?_; intro gb297 hg w19 hbox hb; have BK297 := m_ (hbox); have GW297 := m_ ((gw_ : w.heap.size ≤ gb297)); have GE297 := m_ ((gw_ : w.heap.size ≤ gb297)); have NB296_297 := m_ ((gl_ : gb296 ≠ gb297)); have NB297_296 := m_ ((gr_ : gb297 ≠ gb296)); replace BK296 := m_ (kl_ gb296 hb); replace HB := m_ (below_step bz_ hb); clear hb hbox hg; have hnb20 := NB296_297.out; have hnc20 := NB297_296.out; have hcz21 := cz11_ BK296.out; have hcz22 := cz11_ BK297.out) | ((with_reducible refine gate_callee (f := 20) rfl ?_); refine gL_ (some 10) Try.func20 #[.agg #[.int .u32 a0_2, .int .u32 a0_3, .int .u32 a0_4, .int .i64 a0_5, .int .u32 a0_6, .slice A0_7 l0_7.length c0_7], .agg #[.int .u32 a1_2, .int .u32 a1_3, .int .u32 a1_4, .int .i64 a1_5, .int .u32 a1_6, .slice A1_7 l1_7.length c1_7]] ?_; (with_reducible refine (stolonref15_Same.calls k a0_2 a0_3 a0_4 a0_5 a0_6 _ _ l0_7 a1_2 a1_3 a1_4 a1_5 a1_6 _ _ l1_7 true _ ?side1 ?side2 ?side3 ?side4 A3.out).mono ?_); (case side1 => exact Cd_ (Kd.C_below HR0_7.out HB.out)); (case side2 => exact HC0_7.out); (case side3 => exact Cd_ (Kd.C_below HR1_7.out HB.out)); (case side4 => exact HC1_7.out); rintro e w23 ⟨rfl, hb⟩; refine ⟨_, rfl, ?_⟩; replace BK296 := m_ (kl_ gb296 hb); replace BK297 := m_ (kl_ gb297 hb); replace HB := m_ (below_step bz_ hb); (try clear hb); (try clear hb2); (try clear hk); (try clear hi); have hcz24 := cz11_ BK296.out; have hcz25 := cz11_ BK297.out))
      go_ret
      exact ⟨ew_, bz_⟩
    ·rw [if_neg c7] at H
     have c7b0 : (a0_8 == a1_8) = false := beq_eq_false_iff_ne.mpr c7
     have c7b1 : (a0_8 != a1_8) = true := bne_iff_ne.mpr c7
     obtain rfl := Option.some.inj H
     go_enter Try.func31, Try.ntmps31
     go_wp2_with (first | ((with_reducible refine gate_dst (N := 2) rfl ?_); refine bx_ 2 32 #[.int .u8 a0_0, .int .u32 a0_1, .int .u32 a0_2, .int .u32 a0_3, .int .u32 a0_4, .int .i64 a0_5, .int .u32 a0_6, .slice A0_7 l0_7.length c0_7, .int .i64 a0_8, .bool a0_9, .slice A0_10 l0_10.length c0_10] ?_; intro gb296 hg w26 hbox hb; have BK296 := m_ (hbox); have GW296 := m_ ((gw_ : w.heap.size ≤ gb296)); have GE296 := m_ ((gw_ : w.heap.size ≤ gb296)); replace HB := m_ (below_step bz_ hb); clear hb hbox hg) | ((with_reducible refine gate_dst (N := 3) rfl ?_); refine bx_ 3 32 #[.int .u8 a1_0, .int .u32 a1_1, .int .u32 a1_2, .int .u32 a1_3, .int .u32 a1_4, .int .i64 a1_5, .int .u32 a1_6, .slice A1_7 l1_7.length c1_7, .int .i64 a1_8, .bool a1_9, .slice A1_10 l1_10.length c1_10] ?_; intro gb297 hg w27 hbox hb; have BK297 := m_ (hbox); have GW297 := m_ ((gw_ : w.heap.size ≤ gb297)); have GE297 := m_ ((gw_ : w.heap.size ≤ gb297)); have NB296_297 := m_ ((gl_ : gb296 ≠ gb297)); have NB297_296 := m_ ((gr_ : gb297 ≠ gb296)); replace BK296 := m_ (kl_ gb296 hb); replace HB := m_ (below_step bz_ hb); clear hb hbox hg; have hnb28 := NB296_297.out; have hnc28 := NB297_296.out; have hcz29 := cz11_ BK296.out; have hcz30 := cz11_ BK297.out) | ((with_reducible refine gate_callee (f := 20) rfl ?_); refine gL_ (some 10) Try.func20 #[.agg #[.int .u32 a0_2, .int .u32 a0_3, .int .u32 a0_4, .int .i64 a0_5, .int .u32 a0_6, .slice A0_7 l0_7.length c0_7], .agg #[.int .u32 a1_2, .int .u32 a1_3, .int .u32 a1_4, .int .i64 a1_5, .int .u32 a1_6, .slice A1_7 l1_7.length c1_7]] ?_; (with_reducible refine (stolonref15_Same.calls k a0_2 a0_3 a0_4 a0_5 a0_6 _ _ l0_7 a1_2 a1_3 a1_4 a1_5 a1_6 _ _ l1_7 true _ ?side1 ?side2 ?side3 ?side4 A3.out).mono ?_); (case side1 => exact Cd_ (Kd.C_below HR0_7.out HB.out)); (case side2 => exact HC0_7.out); (case side3 => exact Cd_ (Kd.C_below HR1_7.out HB.out)); (case side4 => exact HC1_7.out); rintro e w31 ⟨rfl, hb⟩; refine ⟨_, rfl, ?_⟩; replace BK296 := m_ (kl_ gb296 hb); replace BK297 := m_ (kl_ gb297 hb); replace HB := m_ (below_step bz_ hb); (try clear hb); (try clear hb2); (try clear hk); (try clear hi); have hcz32 := cz11_ BK296.out; have hcz33 := cz11_ BK297.out))
     go_ret
     exact ⟨ew_, bz_⟩
   ·rw [if_neg c6] at H
    have c6b0 : (a0_1 == a1_1) = false := beq_eq_false_iff_ne.mpr c6
    have c6b1 : (a0_1 != a1_1) = true := bne_iff_ne.mpr c6
    obtain rfl := Option.some.inj H
    go_enter Try.func31, Try.ntmps31
    go_wp2_with (first | ((with_reducible refine gate_dst (N := 2) rfl ?_); refine bx_ 2 32 #[.int .u8 a0_0, .int .u32 a0_1, .int .u32 a0_2, .int .u32 a0_3, .int .u32 a0_4, .int .i64 a0_5, .int .u32 a0_6, .slice A0_7 l0_7.length c0_7, .int .i64 a0_8, .bool a0_9, .slice A0_10 l0_10.length c0_10] ?_; intro gb296 hg w34 hbox hb; have BK296 := m_ (hbox); have GW296 := m_ ((gw_ : w.heap.size ≤ gb296)); have GE296 := m_ ((gw_ : w.heap.size ≤ gb296)); replace HB := m_ (below_step bz_ hb); clear hb hbox hg) | ((with_reducible refine gate_dst (N := 3) rfl ?_); refine bx_ 3 32 #[.int .u8 a1_0, .int .u32 a1_1, .int .u32 a1_2, .int .u32 a1_3, .int .u32 a1_4, .int .i64 a1_5, .int .u32 a1_6, .slice A1_7 l1_7.length c1_7, .int .i64 a1_8, .bool a1_9, .slice A1_10 l1_10.length c1_10] ?_; intro gb297 hg w35 hbox hb; have BK297 := m_ (hbox); have GW297 := m_ ((gw_ : w.heap.size ≤ gb297)); have GE297 := m_ ((gw_ : w.heap.size ≤ gb297)); have NB296_297 := m_ ((gl_ : gb296 ≠ gb297)); have NB297_296 := m_ ((gr_ : gb297 ≠ gb296)); replace BK296 := m_ (kl_ gb296 hb); replace HB := m_ (below_step bz_ hb); clear hb hbox hg; have hnb36 := NB296_297.out; have hnc36 := NB297_296.out; have hcz37 := cz11_ BK296.out; have hcz38 := cz11_ BK297.out) | ((with_reducible refine gate_callee (f := 20) rfl ?_); refine gL_ (some 10) Try.func20 #[.agg #[.int .u32 a0_2, .int .u32 a0_3, .int .u32 a0_4, .int .i64 a0_5, .int .u32 a0_6, .slice A0_7 l0_7.length c0_7], .agg #[.int .u32 a1_2, .int .u32 a1_3, .int .u32 a1_4, .int .i64 a1_5, .int .u32 a1_6, .slice A1_7 l1_7.length c1_7]] ?_; (with_reducible refine (stolonref15_Same.calls k a0_2 a0_3 a0_4 a0_5 a0_6 _ _ l0_7 a1_2 a1_3 a1_4 a1_5 a1_6 _ _ l1_7 true _ ?side1 ?side2 ?side3 ?side4 A3.out).mono ?_); (case side1 => exact Cd_ (Kd.C_below HR0_7.out HB.out)); (case side2 => exact HC0_7.out); (case side3 => exact Cd_ (Kd.C_below HR1_7.out HB.out)); (case side4 => exact HC1_7.out); rintro e w39 ⟨rfl, hb⟩; refine ⟨_, rfl, ?_⟩; replace BK296 := m_ (kl_ gb296 hb); replace BK297 := m_ (kl_ gb297 hb); replace HB := m_ (below_step bz_ hb); (try clear hb); (try clear hb2); (try clear hk); (try clear hi); have hcz40 := cz11_ BK296.out; have hcz41 := cz11_ BK297.out))
    go_ret
    exact ⟨ew_, bz_⟩
  ·rw [if_neg c5] at H
   have c5b0 : (a0_0 == a1_0) = false := beq_eq_false_iff_ne.mpr c5
   have c5b1 : (a0_0 != a1_0) = true := bne_iff_ne.mpr c5
   obtain rfl := Option.some.inj H
   go_enter Try.func31, Try.ntmps31
   go_wp2_with (first | ((with_reducible refine gate_dst (N := 2) rfl ?_); refine bx_ 2 32 #[.int .u8 a0_0, .int .u32 a0_1, .int .u32 a0_2, .int .u32 a0_3, .int .u32 a0_4, .int .i64 a0_5, .int .u32 a0_6, .slice A0_7 l0_7.length c0_7, .int .i64 a0_8, .bool a0_9, .slice A0_10 l0_10.length c0_10] ?_; intro gb296 hg w42 hbox hb; have BK296 := m_ (hbox); have GW296 := m_ ((gw_ : w.heap.size ≤ gb296)); have GE296 := m_ ((gw_ : w.heap.size ≤ gb296)); replace HB := m_ (below_step bz_ hb); clear hb hbox hg) | ((with_reducible refine gate_dst (N := 3) rfl ?_); refine bx_ 3 32 #[.int .u8 a1_0, .int .u32 a1_1, .int .u32 a1_2, .int .u32 a1_3, .int .u32 a1_4, .int .i64 a1_5, .int .u32 a1_6, .slice A1_7 l1_7.length c1_7, .int .i64 a1_8, .bool a1_9, .slice A1_10 l1_10.length c1_10] ?_; intro gb297 hg w43 hbox hb; have BK297 := m_ (hbox); have GW297 := m_ ((gw_ : w.heap.size ≤ gb297)); have GE297 := m_ ((gw_ : w.heap.size ≤ gb297)); have NB296_297 := m_ ((gl_ : gb296 ≠ gb297)); have NB297_296 := m_ ((gr_ : gb297 ≠ gb296)); replace BK296 := m_ (kl_ gb296 hb); replace HB := m_ (below_step bz_ hb); clear hb hbox hg; have hnb44 := NB296_297.out; have hnc44 := NB297_296.out; have hcz45 := cz11_ BK296.out; have hcz46 := cz11_ BK297.out) | ((with_reducible refine gate_callee (f := 20) rfl ?_); refine gL_ (some 10) Try.func20 #[.agg #[.int .u32 a0_2, .int .u32 a0_3, .int .u32 a0_4, .int .i64 a0_5, .int .u32 a0_6, .slice A0_7 l0_7.length c0_7], .agg #[.int .u32 a1_2, .int .u32 a1_3, .int .u32 a1_4, .int .i64 a1_5, .int .u32 a1_6, .slice A1_7 l1_7.length c1_7]] ?_; (with_reducible refine (stolonref15_Same.calls k a0_2 a0_3 a0_4 a0_5 a0_6 _ _ l0_7 a1_2 a1_3 a1_4 a1_5 a1_6 _ _ l1_7 true _ ?side1 ?side2 ?side3 ?side4 A3.out).mono ?_); (case side1 => exact Cd_ (Kd.C_below HR0_7.out HB.out)); (case side2 => exact HC0_7.out); (case side3 => exact Cd_ (Kd.C_below HR1_7.out HB.out)); (case side4 => exact HC1_7.out); rintro e w47 ⟨rfl, hb⟩; refine ⟨_, rfl, ?_⟩; replace BK296 := m_ (kl_ gb296 hb); replace BK297 := m_ (kl_ gb297 hb); replace HB := m_ (below_step bz_ hb); (try clear hb); (try clear hb2); (try clear hk); (try clear hi); have hcz48 := cz11_ BK296.out; have hcz49 := cz11_ BK297.out))
   go_ret
   exact ⟨ew_, bz_⟩
 ·replace c4 := Bool.eq_false_iff.mpr c4
  subst c4
  have H1 : (some false) = some r := by rw [if_neg (show ¬ (false = true) by decide)] at H; exact H
  clear H
  have H := H1
  clear H1
  obtain rfl := Option.some.inj H
  go_enter Try.func31, Try.ntmps31
  go_wp2_with (first | ((with_reducible refine gate_dst (N := 2) rfl ?_); refine bx_ 2 32 #[.int .u8 a0_0, .int .u32 a0_1, .int .u32 a0_2, .int .u32 a0_3, .int .u32 a0_4, .int .i64 a0_5, .int .u32 a0_6, .slice A0_7 l0_7.length c0_7, .int .i64 a0_8, .bool a0_9, .slice A0_10 l0_10.length c0_10] ?_; intro gb296 hg w50 hbox hb; have BK296 := m_ (hbox); have GW296 := m_ ((gw_ : w.heap.size ≤ gb296)); have GE296 := m_ ((gw_ : w.heap.size ≤ gb296)); replace HB := m_ (below_step bz_ hb); clear hb hbox hg) | ((with_reducible refine gate_dst (N := 3) rfl ?_); refine bx_ 3 32 #[.int .u8 a1_0, .int .u32 a1_1, .int .u32 a1_2, .int .u32 a1_3, .int .u32 a1_4, .int .i64 a1_5, .int .u32 a1_6, .slice A1_7 l1_7.length c1_7, .int .i64 a1_8, .bool a1_9, .slice A1_10 l1_10.length c1_10] ?_; intro gb297 hg w51 hbox hb; have BK297 := m_ (hbox); have GW297 := m_ ((gw_ : w.heap.size ≤ gb297)); have GE297 := m_ ((gw_ : w.heap.size ≤ gb297)); have NB296_297 := m_ ((gl_ : gb296 ≠ gb297)); have NB297_296 := m_ ((gr_ : gb297 ≠ gb296)); replace BK296 := m_ (kl_ gb296 hb); replace HB := m_ (below_step bz_ hb); clear hb hbox hg; have hnb52 := NB296_297.out; have hnc52 := NB297_296.out; have hcz53 := cz11_ BK296.out; have hcz54 := cz11_ BK297.out) | ((with_reducible refine gate_callee (f := 20) rfl ?_); refine gL_ (some 10) Try.func20 #[.agg #[.int .u32 a0_2, .int .u32 a0_3, .int .u32 a0_4, .int .i64 a0_5, .int .u32 a0_6, .slice A0_7 l0_7.length c0_7], .agg #[.int .u32 a1_2, .int .u32 a1_3, .int .u32 a1_4, .int .i64 a1_5, .int .u32 a1_6, .slice A1_7 l1_7.length c1_7]] ?_; (with_reducible refine (stolonref15_Same.calls k a0_2 a0_3 a0_4 a0_5 a0_6 _ _ l0_7 a1_2 a1_3 a1_4 a1_5 a1_6 _ _ l1_7 false _ ?side1 ?side2 ?side3 ?side4 A3.out).mono ?_); (case side1 => exact Cd_ (Kd.C_below HR0_7.out HB.out)); (case side2 => exact HC0_7.out); (case side3 => exact Cd_ (Kd.C_below HR1_7.out HB.out)); (case side4 => exact HC1_7.out); rintro e w55 ⟨rfl, hb⟩; refine ⟨_, rfl, ?_⟩; replace BK296 := m_ (kl_ gb296 hb); replace BK297 := m_ (kl_ gb297 hb); replace HB := m_ (below_step bz_ hb); (try clear hb); (try clear hb2); (try clear hk); (try clear hi)))
  go_ret
  exact ⟨ew_, bz_⟩
end Go.Proofs.Ytfomnmdjbdohgaa.P

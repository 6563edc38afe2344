/- For each Go function a Lean function, and the proof that a call comes to what it tells: made by program out of the translation (the kit's print, with texts by hand put in). No condition. -/
import Derived.Test.YtfomnmdjbdohgaaSq
import Derived.Test.YtfomnmdjbdohgaaPx0
import Derived.Test.YtfomnmdjbdohgaaPx9
import Derived.Test.YtfomnmdjbdohgaaPx10
namespace Go.Proofs.Ytfomnmdjbdohgaa.P
open Go.RowKit Go.Proofs.Ytfomnmdjbdohgaa.HRows Go.Proofs.YtfomnmdjbdohgaaW.PrintWords Go.Proofs.YtfomnmdjbdohgaaW.PrintLast Go.Proofs.YtfomnmdjbdohgaaW.PrintMore
attribute [local go_sem] max2_int min2_int max_two min_two max_three min_three max_four min_four
set_option linter.unusedVariables false
set_option linter.unusedSimpArgs false
def ofmsg_Same.f (k : Nat) (a0_0 : Int) (a0_1 : Int) (a0_2 : Int) (a0_3 : Int) (a0_4 : Int) (a0_5 : Int) (a0_6 : Int) (l0_7 : List (S74)) (a0_8 : Int) (a0_9 : Bool) (l0_10 : List Int) (a1_0 : Int) (a1_1 : Int) (a1_2 : Int) (a1_3 : Int) (a1_4 : Int) (a1_5 : Int) (a1_6 : Int) (l1_7 : List (S74)) (a1_8 : Int) (a1_9 : Bool) (l1_10 : List Int) : Option (Bool) := if a0_0 = a1_0 then (if a0_1 = a1_1 then ((flow_Same.f k a0_2 a0_3 a0_4 a0_5 a0_6 l0_7 a1_2 a1_3 a1_4 a1_5 a1_6 l1_7).bind fun t146 => (if t146 = true then (if a0_8 = a1_8 then (if (a0_9 == a1_9) = true then ((bytes_Equal.f l0_10 l1_10).bind fun t147 => (some t147)) else (some false)) else (some false)) else (some false))) else (some false)) else (some false)
theorem ofmsg_Same.mono : ∀ a0 a1 a2 a3 a4 a5 a6 a7 a8 a9 a10 a11 a12 a13 a14 a15 a16 a17 a18 a19 a20 a21 k, LeO (ofmsg_Same.f k a0 a1 a2 a3 a4 a5 a6 a7 a8 a9 a10 a11 a12 a13 a14 a15 a16 a17 a18 a19 a20 a21) (ofmsg_Same.f (k + 1) a0 a1 a2 a3 a4 a5 a6 a7 a8 a9 a10 a11 a12 a13 a14 a15 a16 a17 a18 a19 a20 a21) := by
 intro a0 a1 a2 a3 a4 a5 a6 a7 a8 a9 a10 a11 a12 a13 a14 a15 a16 a17 a18 a19 a20 a21 k
 unfold ofmsg_Same.f
 repeat' first
   | (with_reducible exact flow_Same.mono _ _ _ _ _ _ _ _ _ _ _ _ _)
   | (with_reducible exact LeO.refl _)
   | (with_reducible exact LeO.none _)
   | (with_reducible refine LeO.ite ?_ ?_)
   | (with_reducible refine LeO.bind ?_ (fun _ => ?_))
   | exact flow_Same.mono _ _ _ _ _ _ _ _ _ _ _ _ _
   | exact LeO.none _
   | refine LeO.ite ?_ ?_
   | refine LeO.bind ?_ (fun _ => ?_)
set_option maxHeartbeats 8000000 in
set_option maxRecDepth 100000 in
theorem ofmsg_Same.calls (k : Nat) (a0_0 : Int) (a0_1 : Int) (a0_2 : Int) (a0_3 : Int) (a0_4 : Int) (a0_5 : Int) (a0_6 : Int) (A0_7 : Option Addr) (c0_7 : Nat) (l0_7 : List (S74)) (a0_8 : Int) (a0_9 : Bool) (A0_10 : Option Addr) (c0_10 : Nat) (l0_10 : List Int) (a1_0 : Int) (a1_1 : Int) (a1_2 : Int) (a1_3 : Int) (a1_4 : Int) (a1_5 : Int) (a1_6 : Int) (A1_7 : Option Addr) (c1_7 : Nat) (l1_7 : List (S74)) (a1_8 : Int) (a1_9 : Bool) (A1_10 : Option Addr) (c1_10 : Nat) (l1_10 : List Int) (r : Bool) (w : World) (hr0_7 : Kd.C k74 w A0_7 l0_7.length l0_7) (hc0_7 : l0_7.length ≤ c0_7) (hr0_10 : Kd.C (Kd.int .u8) w A0_10 l0_10.length l0_10) (hc0_10 : l0_10.length ≤ c0_10) (hr1_7 : Kd.C k74 w A1_7 l1_7.length l1_7) (hc1_7 : l1_7.length ≤ c1_7) (hr1_10 : Kd.C (Kd.int .u8) w A1_10 l1_10.length l1_10) (hc1_10 : l1_10.length ≤ c1_10) (h : ofmsg_Same.f k a0_0 a0_1 a0_2 a0_3 a0_4 a0_5 a0_6 l0_7 a0_8 a0_9 l0_10 a1_0 a1_1 a1_2 a1_3 a1_4 a1_5 a1_6 l1_7 a1_8 a1_9 l1_10 = some r) :
  Calls Try.prog 52 #[.agg #[.int .u8 a0_0, .int .u32 a0_1, .int .u32 a0_2, .int .u32 a0_3, .int .u32 a0_4, .int .i64 a0_5, .int .u32 a0_6, .slice A0_7 l0_7.length c0_7, .int .i64 a0_8, .bool a0_9, .slice A0_10 l0_10.length c0_10], .agg #[.int .u8 a1_0, .int .u32 a1_1, .int .u32 a1_2, .int .u32 a1_3, .int .u32 a1_4, .int .i64 a1_5, .int .u32 a1_6, .slice A1_7 l1_7.length c1_7, .int .i64 a1_8, .bool a1_9, .slice A1_10 l1_10.length c1_10]] w fun e w' => e = .returned (.bool r) ∧ Below w.heap.size w w' := by
 have hu32 := Try.underlying32
 have hu29 := Try.underlying29
 have HR0_7 := m_ hr0_7
 have HC0_7 := m_ hc0_7
 clear hr0_7 hc0_7
 have HR0_10 := m_ hr0_10
 have HC0_10 := m_ hc0_10
 clear hr0_10 hc0_10
 have HR1_7 := m_ hr1_7
 have HC1_7 := m_ hc1_7
 clear hr1_7 hc1_7
 have HR1_10 := m_ hr1_10
 have HC1_10 := m_ hc1_10
 clear hr1_10 hc1_10
 have HB := m_ (Below.refl w.heap.size w)
 have H : (if a0_0 = a1_0 then (if a0_1 = a1_1 then ((flow_Same.f k a0_2 a0_3 a0_4 a0_5 a0_6 l0_7 a1_2 a1_3 a1_4 a1_5 a1_6 l1_7).bind fun t146 => (if t146 = true then (if a0_8 = a1_8 then (if (a0_9 == a1_9) = true then ((bytes_Equal.f l0_10 l1_10).bind fun t147 => (some t147)) else (some false)) else (some false)) else (some false))) else (some false)) else (some false)) = some r := h
 clear h
 by_cases c3 : a0_0 = a1_0
 ·rw [if_pos c3] at H
  have c3b0 : (a0_0 == a1_0) = true := beq_iff_eq.mpr c3
  have c3b1 : (a0_0 != a1_0) = false := bne_eq_false_iff_eq.mpr c3
  clear c3
  by_cases c4 : a0_1 = a1_1
  ·rw [if_pos c4] at H
   have c4b0 : (a0_1 == a1_1) = true := beq_iff_eq.mpr c4
   have c4b1 : (a0_1 != a1_1) = false := bne_eq_false_iff_eq.mpr c4
   clear c4
   replace H := Option.bind_eq_some_iff.mp H
   obtain ⟨t146, A50, H⟩ := H
   replace H : (if t146 = true then (if a0_8 = a1_8 then (if (a0_9 == a1_9) = true then ((bytes_Equal.f l0_10 l1_10).bind fun t147 => (some t147)) else (some false)) else (some false)) else (some false)) = some r := H
   have A5 := m_ A50
   clear A50
   by_cases c6 : t146 = true
   ·subst c6
    have H1 : (if a0_8 = a1_8 then (if (a0_9 == a1_9) = true then ((bytes_Equal.f l0_10 l1_10).bind fun t147 => (some t147)) else (some false)) else (some false)) = some r := by rw [if_pos rfl] at H; exact H
    clear H
    have H := H1
    clear H1
    by_cases c7 : a0_8 = a1_8
    ·rw [if_pos c7] at H
     have c7b0 : (a0_8 == a1_8) = true := beq_iff_eq.mpr c7
     have c7b1 : (a0_8 != a1_8) = false := bne_eq_false_iff_eq.mpr c7
     clear c7
     by_cases c8 : (a0_9 == a1_9) = true
     ·rw [if_pos c8] at H
      have c8b0 : (a0_9 == a1_9) = true := c8
      (try (have c8b1 : decide (a0_9 = a1_9) = true := by simpa using c8))
      (try (have c8b2 : (a0_9 == a1_9) = true := by simpa using c8))
      clear c8
      replace H := Option.bind_eq_some_iff.mp H
      obtain ⟨t147, A90, H⟩ := H
      replace H : (some t147) = some r := H
      have A9 := m_ A90
      clear A90
      obtain rfl := Option.some.inj H
      go_enter Try.func52, Try.ntmps52
      go_wp2_with (first | ((with_reducible refine gate_dst (N := 2) rfl ?_); refine bx_ 2 32 #[.int .u8 a0_0, .int .u32 a0_1, .int .u32 a0_2, .int .u32 a0_3, .int .u32 a0_4, .int .i64 a0_5, .int .u32 a0_6, .slice A0_7 l0_7.length c0_7, .int .i64 a0_8, .bool a0_9, .slice A0_10 l0_10.length c0_10] ?_; intro gb144 hg w10 hbox hb; have BK144 := m_ (hbox); have GW144 := m_ ((gw_ : w.heap.size ≤ gb144)); have GE144 := m_ ((gw_ : w.heap.size ≤ gb144)); replace HB := m_ (below_step bz_ hb); clear hb hbox hg) | ((with_reducible refine gate_dst (N := 3) rfl ?_); refine bx_ 3 32 #[.int .u8 a1_0, .int .u32 a1_1, .int .u32 a1_2, .int .u32 a1_3, .int .u32 a1_4, .int .i64 a1_5, .int .u32 a1_6, .slice A1_7 l1_7.length c1_7, .int .i64 a1_8, .bool a1_9, .slice A1_10 l1_10.length c1_10] ?_; intro gb145 hg w11 hbox hb; have BK145 := m_ (hbox); have GW145 := m_ ((gw_ : w.heap.size ≤ gb145)); have GE145 := m_ ((gw_ : w.heap.size ≤ gb145)); have NB144_145 := m_ ((gl_ : gb144 ≠ gb145)); have NB145_144 := m_ ((gr_ : gb145 ≠ gb144)); replace BK144 := m_ (kl_ gb144 hb); replace HB := m_ (below_step bz_ hb); clear hb hbox hg; have hnb12 := NB144_145.out; have hnc12 := NB145_144.out; have hcz13 := cz11_ BK144.out; have hcz14 := cz11_ BK145.out) | (go_at_call 63; (with_reducible refine (flow_Same.calls k a0_2 a0_3 a0_4 a0_5 a0_6 _ _ l0_7 a1_2 a1_3 a1_4 a1_5 a1_6 _ _ l1_7 true _ ?side1 ?side2 ?side3 ?side4 A5.out).mono ?_); (case side1 => exact Cd_ (Kd.C_below HR0_7.out HB.out)); (case side2 => exact HC0_7.out); (case side3 => exact Cd_ (Kd.C_below HR1_7.out HB.out)); (case side4 => exact HC1_7.out); rintro e w15 ⟨rfl, hb⟩; replace BK144 := m_ (kl_ gb144 hb); replace BK145 := m_ (kl_ gb145 hb); replace HB := m_ (below_step bz_ hb); (try clear hb); (try clear hb2); (try clear hk); (try clear hi); have hcz16 := cz11_ BK144.out; have hcz17 := cz11_ BK145.out) | (go_at_call 64; (with_reducible refine (bytes_Equal.calls _ _ l0_10 _ _ l1_10 t147 _ ?side1 ?side2 ?side3 ?side4 A9.out).mono ?_); (case side1 => exact Cd_ (Kd.C_below HR0_10.out HB.out)); (case side2 => exact HC0_10.out); (case side3 => exact Cd_ (Kd.C_below HR1_10.out HB.out)); (case side4 => exact HC1_10.out); rintro e w' ⟨rfl, ⟨nd, rfl⟩⟩))
      go_ret
      exact ⟨ew_, bz_⟩
     ·rw [if_neg c8] at H
      have c8b0 : (a0_9 == a1_9) = false := by simpa using c8
      (try (have c8b1 : decide (a0_9 = a1_9) = false := by simpa using c8))
      (try (have c8b2 : (a0_9 == a1_9) = false := by simpa using c8))
      (try (have c8b3 : ¬ (a0_9 = a1_9) := by simpa using c8))
      clear c8
      obtain rfl := Option.some.inj H
      go_enter Try.func52, Try.ntmps52
      go_wp2_with (first | ((with_reducible refine gate_dst (N := 2) rfl ?_); refine bx_ 2 32 #[.int .u8 a0_0, .int .u32 a0_1, .int .u32 a0_2, .int .u32 a0_3, .int .u32 a0_4, .int .i64 a0_5, .int .u32 a0_6, .slice A0_7 l0_7.length c0_7, .int .i64 a0_8, .bool a0_9, .slice A0_10 l0_10.length c0_10] ?_; intro gb144 hg w18 hbox hb; have BK144 := m_ (hbox); have GW144 := m_ ((gw_ : w.heap.size ≤ gb144)); have GE144 := m_ ((gw_ : w.heap.size ≤ gb144)); replace HB := m_ (below_step bz_ hb); clear hb hbox hg) | ((with_reducible refine gate_dst (N := 3) rfl ?_); refine bx_ 3 32 #[.int .u8 a1_0, .int .u32 a1_1, .int .u32 a1_2, .int .u32 a1_3, .int .u32 a1_4, .int .i64 a1_5, .int .u32 a1_6, .slice A1_7 l1_7.length c1_7, .int .i64 a1_8, .bool a1_9, .slice A1_10 l1_10.length c1_10] ?_; intro gb145 hg w19 hbox hb; have BK145 := m_ (hbox); have GW145 := m_ ((gw_ : w.heap.size ≤ gb145)); have GE145 := m_ ((gw_ : w.heap.size ≤ gb145)); have NB144_145 := m_ ((gl_ : gb144 ≠ gb145)); have NB145_144 := m_ ((gr_ : gb145 ≠ gb144)); replace BK144 := m_ (kl_ gb144 hb); replace HB := m_ (below_step bz_ hb); clear hb hbox hg; have hnb20 := NB144_145.out; have hnc20 := NB145_144.out; have hcz21 := cz11_ BK144.out; have hcz22 := cz11_ BK145.out) | (go_at_call 63; (with_reducible refine (flow_Same.calls k a0_2 a0_3 a0_4 a0_5 a0_6 _ _ l0_7 a1_2 a1_3 a1_4 a1_5 a1_6 _ _ l1_7 true _ ?side1 ?side2 ?side3 ?side4 A5.out).mono ?_); (case side1 => exact Cd_ (Kd.C_below HR0_7.out HB.out)); (case side2 => exact HC0_7.out); (case side3 => exact Cd_ (Kd.C_below HR1_7.out HB.out)); (case side4 => exact HC1_7.out); rintro e w23 ⟨rfl, hb⟩; replace BK144 := m_ (kl_ gb144 hb); replace BK145 := m_ (kl_ gb145 hb); replace HB := m_ (below_step bz_ hb); (try clear hb); (try clear hb2); (try clear hk); (try clear hi); have hcz24 := cz11_ BK144.out; have hcz25 := cz11_ BK145.out))
      go_ret
      exact ⟨ew_, bz_⟩
    ·rw [if_neg c7] at H
     have c7b0 : (a0_8 == a1_8) = false := beq_eq_false_iff_ne.mpr c7
     have c7b1 : (a0_8 != a1_8) = true := bne_iff_ne.mpr c7
     obtain rfl := Option.some.inj H
     go_enter Try.func52, Try.ntmps52
     go_wp2_with (first | ((with_reducible refine gate_dst (N := 2) rfl ?_); refine bx_ 2 32 #[.int .u8 a0_0, .int .u32 a0_1, .int .u32 a0_2, .int .u32 a0_3, .int .u32 a0_4, .int .i64 a0_5, .int .u32 a0_6, .slice A0_7 l0_7.length c0_7, .int .i64 a0_8, .bool a0_9, .slice A0_10 l0_10.length c0_10] ?_; intro gb144 hg w26 hbox hb; have BK144 := m_ (hbox); have GW144 := m_ ((gw_ : w.heap.size ≤ gb144)); have GE144 := m_ ((gw_ : w.heap.size ≤ gb144)); replace HB := m_ (below_step bz_ hb); clear hb hbox hg) | ((with_reducible refine gate_dst (N := 3) rfl ?_); refine bx_ 3 32 #[.int .u8 a1_0, .int .u32 a1_1, .int .u32 a1_2, .int .u32 a1_3, .int .u32 a1_4, .int .i64 a1_5, .int .u32 a1_6, .slice A1_7 l1_7.length c1_7, .int .i64 a1_8, .bool a1_9, .slice A1_10 l1_10.length c1_10] ?_; intro gb145 hg w27 hbox hb; have BK145 := m_ (hbox); have GW145 := m_ ((gw_ : w.heap.size ≤ gb145)); have GE145 := m_ ((gw_ : w.heap.size ≤ gb145)); have NB144_145 := m_ ((gl_ : gb144 ≠ gb145)); have NB145_144 := m_ ((gr_ : gb145 ≠ gb144)); replace BK144 := m_ (kl_ gb144 hb); replace HB := m_ (below_step bz_ hb); clear hb hbox hg; have hnb28 := NB144_145.out; have hnc28 := NB145_144.out; have hcz29 := cz11_ BK144.out; have hcz30 := cz11_ BK145.out) | (go_at_call 63; (with_reducible refine (flow_Same.calls k a0_2 a0_3 a0_4 a0_5 a0_6 _ _ l0_7 a1_2 a1_3 a1_4 a1_5 a1_6 _ _ l1_7 true _ ?side1 ?side2 ?side3 ?side4 A5.out).mono ?_); (case side1 => exact Cd_ (Kd.C_below HR0_7.out HB.out)); (case side2 => exact HC0_7.out); (case side3 => exact Cd_ (Kd.C_below HR1_7.out HB.out)); (case side4 => exact HC1_7.out); rintro e w31 ⟨rfl, hb⟩; replace BK144 := m_ (kl_ gb144 hb); replace BK145 := m_ (kl_ gb145 hb); replace HB := m_ (below_step bz_ hb); (try clear hb); (try clear hb2); (try clear hk); (try clear hi); have hcz32 := cz11_ BK144.out; have hcz33 := cz11_ BK145.out))
     go_ret
     exact ⟨ew_, bz_⟩
   ·replace c6 := Bool.eq_false_iff.mpr c6
    subst c6
    have H1 : (some false) = some r := by rw [if_neg (show ¬ (false = true) by decide)] at H; exact H
    clear H
    have H := H1
    clear H1
    obtain rfl := Option.some.inj H
    go_enter Try.func52, Try.ntmps52
    go_wp2_with (first | ((with_reducible refine gate_dst (N := 2) rfl ?_); refine bx_ 2 32 #[.int .u8 a0_0, .int .u32 a0_1, .int .u32 a0_2, .int .u32 a0_3, .int .u32 a0_4, .int .i64 a0_5, .int .u32 a0_6, .slice A0_7 l0_7.length c0_7, .int .i64 a0_8, .bool a0_9, .slice A0_10 l0_10.length c0_10] ?_; intro gb144 hg w34 hbox hb; have BK144 := m_ (hbox); have GW144 := m_ ((gw_ : w.heap.size ≤ gb144)); have GE144 := m_ ((gw_ : w.heap.size ≤ gb144)); replace HB := m_ (below_step bz_ hb); clear hb hbox hg) | ((with_reducible refine gate_dst (N := 3) rfl ?_); refine bx_ 3 32 #[.int .u8 a1_0, .int .u32 a1_1, .int .u32 a1_2, .int .u32 a1_3, .int .u32 a1_4, .int .i64 a1_5, .int .u32 a1_6, .slice A1_7 l1_7.length c1_7, .int .i64 a1_8, .bool a1_9, .slice A1_10 l1_10.length c1_10] ?_; intro gb145 hg w35 hbox hb; have BK145 := m_ (hbox); have GW145 := m_ ((gw_ : w.heap.size ≤ gb145)); have GE145 := m_ ((gw_ : w.heap.size ≤ gb145)); have NB144_145 := m_ ((gl_ : gb144 ≠ gb145)); have NB145_144 := m_ ((gr_ : gb145 ≠ gb144)); replace BK144 := m_ (kl_ gb144 hb); replace HB := m_ (below_step bz_ hb); clear hb hbox hg; have hnb36 := NB144_145.out; have hnc36 := NB145_144.out; have hcz37 := cz11_ BK144.out; have hcz38 := cz11_ BK145.out) | (go_at_call 63; (with_reducible refine (flow_Same.calls k a0_2 a0_3 a0_4 a0_5 a0_6 _ _ l0_7 a1_2 a1_3 a1_4 a1_5 a1_6 _ _ l1_7 false _ ?side1 ?side2 ?side3 ?side4 A5.out).mono ?_); (case side1 => exact Cd_ (Kd.C_below HR0_7.out HB.out)); (case side2 => exact HC0_7.out); (case side3 => exact Cd_ (Kd.C_below HR1_7.out HB.out)); (case side4 => exact HC1_7.out); rintro e w39 ⟨rfl, hb⟩; replace BK144 := m_ (kl_ gb144 hb); replace BK145 := m_ (kl_ gb145 hb); replace HB := m_ (below_step bz_ hb); (try clear hb); (try clear hb2); (try clear hk); (try clear hi)))
    go_ret
    exact ⟨ew_, bz_⟩
  ·rw [if_neg c4] at H
   have c4b0 : (a0_1 == a1_1) = false := beq_eq_false_iff_ne.mpr c4
   have c4b1 : (a0_1 != a1_1) = true := bne_iff_ne.mpr c4
   obtain rfl := Option.some.inj H
   go_enter Try.func52, Try.ntmps52
   go_wp2_with (first | ((with_reducible refine gate_dst (N := 2) rfl ?_); refine bx_ 2 32 #[.int .u8 a0_0, .int .u32 a0_1, .int .u32 a0_2, .int .u32 a0_3, .int .u32 a0_4, .int .i64 a0_5, .int .u32 a0_6, .slice A0_7 l0_7.length c0_7, .int .i64 a0_8, .bool a0_9, .slice A0_10 l0_10.length c0_10] ?_; intro gb144 hg w40 hbox hb; have BK144 := m_ (hbox); have GW144 := m_ ((gw_ : w.heap.size ≤ gb144)); have GE144 := m_ ((gw_ : w.heap.size ≤ gb144)); replace HB := m_ (below_step bz_ hb); clear hb hbox hg) | ((with_reducible refine gate_dst (N := 3) rfl ?_); refine bx_ 3 32 #[.int .u8 a1_0, .int .u32 a1_1, .int .u32 a1_2, .int .u32 a1_3, .int .u32 a1_4, .int .i64 a1_5, .int .u32 a1_6, .slice A1_7 l1_7.length c1_7, .int .i64 a1_8, .bool a1_9, .slice A1_10 l1_10.length c1_10] ?_; intro gb145 hg w41 hbox hb; have BK145 := m_ (hbox); have GW145 := m_ ((gw_ : w.heap.size ≤ gb145)); have GE145 := m_ ((gw_ : w.heap.size ≤ gb145)); have NB144_145 := m_ ((gl_ : gb144 ≠ gb145)); have NB145_144 := m_ ((gr_ : gb145 ≠ gb144)); replace BK144 := m_ (kl_ gb144 hb); replace HB := m_ (below_step bz_ hb); clear hb hbox hg; have hnb42 := NB144_145.out; have hnc42 := NB145_144.out; have hcz43 := cz11_ BK144.out; have hcz44 := cz11_ BK145.out))
   go_ret
   exact ⟨ew_, bz_⟩
 ·rw [if_neg c3] at H
  have c3b0 : (a0_0 == a1_0) = false := beq_eq_false_iff_ne.mpr c3
  have c3b1 : (a0_0 != a1_0) = true := bne_iff_ne.mpr c3
  obtain rfl := Option.some.inj H
  go_enter Try.func52, Try.ntmps52
  go_wp2_with (first | ((with_reducible refine gate_dst (N := 2) rfl ?_); refine bx_ 2 32 #[.int .u8 a0_0, .int .u32 a0_1, .int .u32 a0_2, .int .u32 a0_3, .int .u32 a0_4, .int .i64 a0_5, .int .u32 a0_6, .slice A0_7 l0_7.length c0_7, .int .i64 a0_8, .bool a0_9, .slice A0_10 l0_10.length c0_10] ?_; intro gb144 hg w45 hbox hb; have BK144 := m_ (hbox); have GW144 := m_ ((gw_ : w.heap.size ≤ gb144)); have GE144 := m_ ((gw_ : w.heap.size ≤ gb144)); replace HB := m_ (below_step bz_ hb); clear hb hbox hg) | ((with_reducible refine gate_dst (N := 3) rfl ?_); refine bx_ 3 32 #[.int .u8 a1_0, .int .u32 a1_1, .int .u32 a1_2, .int .u32 a1_3, .int .u32 a1_4, .int .i64 a1_5, .int .u32 a1_6, .slice A1_7 l1_7.length c1_7, .int .i64 a1_8, .bool a1_9, .slice A1_10 l1_10.length c1_10] ?_; intro gb145 hg w46 hbox hb; have BK145 := m_ (hbox); have GW145 := m_ ((gw_ : w.heap.size ≤ gb145)); have GE145 := m_ ((gw_ : w.heap.size ≤ gb145)); have NB144_145 := m_ ((gl_ : gb144 ≠ gb145)); have NB145_144 := m_ ((gr_ : gb145 ≠ gb144)); replace BK144 := m_ (kl_ gb144 hb); replace HB := m_ (below_step bz_ hb); clear hb hbox hg; have hnb47 := NB144_145.out; have hnc47 := NB145_144.out; have hcz48 := cz11_ BK144.out; have hcz49 := cz11_ BK145.out))
  go_ret
  exact ⟨ew_, bz_⟩
end Go.Proofs.Ytfomnmdjbdohgaa.P

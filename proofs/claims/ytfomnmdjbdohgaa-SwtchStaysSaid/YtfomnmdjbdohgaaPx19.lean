/- For each Go function a Lean function, and the proof that a call comes to what it tells: made by program out of the translation (the kit's print, with texts by hand put in). No condition. -/
import Derived.Test.YtfomnmdjbdohgaaSq
import Derived.Test.YtfomnmdjbdohgaaPx0
namespace Go.Proofs.Ytfomnmdjbdohgaa.P
open Go.RowKit Go.Proofs.Ytfomnmdjbdohgaa.HRows Go.Proofs.YtfomnmdjbdohgaaW.PrintWords Go.Proofs.YtfomnmdjbdohgaaW.PrintLast Go.Proofs.YtfomnmdjbdohgaaW.PrintMore
attribute [local go_sem] max2_int min2_int max_two min_two max_three min_three max_four min_four
set_option linter.unusedVariables false
set_option linter.unusedSimpArgs false
def stolonref15_less.f (a0_0 : Int) (a0_1 : Int) (a0_2 : Int) (a0_3 : Int) (a0_4 : Int) (l0_5 : List (S74)) (a1_0 : Int) (a1_1 : Int) (a1_2 : Int) (a1_3 : Int) (a1_4 : Int) (l1_5 : List (S74)) : Option (Bool) := if a0_0 = a1_0 then (if a0_1 = a1_1 then (some (decide (a0_2 < a1_2))) else (some (decide (a0_1 < a1_1)))) else (some (decide (a0_0 < a1_0)))
set_option maxHeartbeats 8000000 in
set_option maxRecDepth 100000 in
theorem stolonref15_less.calls (a0_0 : Int) (a0_1 : Int) (a0_2 : Int) (a0_3 : Int) (a0_4 : Int) (A0_5 : Option Addr) (c0_5 : Nat) (l0_5 : List (S74)) (a1_0 : Int) (a1_1 : Int) (a1_2 : Int) (a1_3 : Int) (a1_4 : Int) (A1_5 : Option Addr) (c1_5 : Nat) (l1_5 : List (S74)) (r : Bool) (w : World) (hr0_5 : Kd.C k74 w A0_5 l0_5.length l0_5) (hc0_5 : l0_5.length ≤ c0_5) (hr1_5 : Kd.C k74 w A1_5 l1_5.length l1_5) (hc1_5 : l1_5.length ≤ c1_5) (h : stolonref15_less.f a0_0 a0_1 a0_2 a0_3 a0_4 l0_5 a1_0 a1_1 a1_2 a1_3 a1_4 l1_5 = some r) :
  Calls Try.prog 35 #[.agg #[.int .u32 a0_0, .int .u32 a0_1, .int .u32 a0_2, .int .i64 a0_3, .int .u32 a0_4, .slice A0_5 l0_5.length c0_5], .agg #[.int .u32 a1_0, .int .u32 a1_1, .int .u32 a1_2, .int .i64 a1_3, .int .u32 a1_4, .slice A1_5 l1_5.length c1_5]] w fun e w' => e = .returned (.bool r) ∧ Below w.heap.size w w' := by
 have hu29 := Try.underlying29
 have HR0_5 := m_ hr0_5
 have HC0_5 := m_ hc0_5
 clear hr0_5 hc0_5
 have HR1_5 := m_ hr1_5
 have HC1_5 := m_ hc1_5
 clear hr1_5 hc1_5
 have HB := m_ (Below.refl w.heap.size w)
 have H : (if a0_0 = a1_0 then (if a0_1 = a1_1 then (some (decide (a0_2 < a1_2))) else (some (decide (a0_1 < a1_1)))) else (some (decide (a0_0 < a1_0)))) = some r := h
 clear h
 by_cases c3 : a0_0 = a1_0
 ·rw [if_pos c3] at H
  have c3b0 : (a0_0 == a1_0) = true := beq_iff_eq.mpr c3
  have c3b1 : (a0_0 != a1_0) = false := bne_eq_false_iff_eq.mpr c3
  clear c3
  by_cases c4 : a0_1 = a1_1
  ·rw [if_pos c4] at H
   have c4b0 : (a0_1 == a1_1) = true := beq_iff_eq.mpr c4
   have c4b1 : (a0_1 != a1_1) = false := bne_eq_false_iff_eq.mpr c4
   clear c4
   obtain rfl := Option.some.inj H
   go_enter Try.func35, Try.ntmps35
   go_wp2_with (first | ((with_reducible refine gate_dst (N := 2) rfl ?_); refine bx_ 2 29 #[.int .u32 a0_0, .int .u32 a0_1, .int .u32 a0_2, .int .i64 a0_3, .int .u32 a0_4, .slice A0_5 l0_5.length c0_5] ?_; intro gb222 hg w5 hbox hb; have BK222 := m_ (hbox); have GW222 := m_ ((gw_ : w.heap.size ≤ gb222)); have GE222 := m_ ((gw_ : w.heap.size ≤ gb222)); replace HB := m_ (below_step bz_ hb); clear hb hbox hg) | ((with_reducible refine gate_dst (N := 3) rfl ?_); refine bx_ 3 29 #[.int .u32 a1_0, .int .u32 a1_1, .int .u32 a1_2, .int .i64 a1_3, .int .u32 a1_4, .slice A1_5 l1_5.length c1_5] ?_; intro gb223 hg w6 hbox hb; have BK223 := m_ (hbox); have GW223 := m_ ((gw_ : w.heap.size ≤ gb223)); have GE223 := m_ ((gw_ : w.heap.size ≤ gb223)); have NB222_223 := m_ ((gl_ : gb222 ≠ gb223)); have NB223_222 := m_ ((gr_ : gb223 ≠ gb222)); replace BK222 := m_ (kl_ gb222 hb); replace HB := m_ (below_step bz_ hb); clear hb hbox hg; have hnb7 := NB222_223.out; have hnc7 := NB223_222.out; have hcz8 := cz6_ BK222.out; have hcz9 := cz6_ BK223.out))
   go_ret
   exact ⟨ew_, bz_⟩
  ·rw [if_neg c4] at H
   have c4b0 : (a0_1 == a1_1) = false := beq_eq_false_iff_ne.mpr c4
   have c4b1 : (a0_1 != a1_1) = true := bne_iff_ne.mpr c4
   obtain rfl := Option.some.inj H
   go_enter Try.func35, Try.ntmps35
   go_wp2_with (first | ((with_reducible refine gate_dst (N := 2) rfl ?_); refine bx_ 2 29 #[.int .u32 a0_0, .int .u32 a0_1, .int .u32 a0_2, .int .i64 a0_3, .int .u32 a0_4, .slice A0_5 l0_5.length c0_5] ?_; intro gb222 hg w10 hbox hb; have BK222 := m_ (hbox); have GW222 := m_ ((gw_ : w.heap.size ≤ gb222)); have GE222 := m_ ((gw_ : w.heap.size ≤ gb222)); replace HB := m_ (below_step bz_ hb); clear hb hbox hg) | ((with_reducible refine gate_dst (N := 3) rfl ?_); refine bx_ 3 29 #[.int .u32 a1_0, .int .u32 a1_1, .int .u32 a1_2, .int .i64 a1_3, .int .u32 a1_4, .slice A1_5 l1_5.length c1_5] ?_; intro gb223 hg w11 hbox hb; have BK223 := m_ (hbox); have GW223 := m_ ((gw_ : w.heap.size ≤ gb223)); have GE223 := m_ ((gw_ : w.heap.size ≤ gb223)); have NB222_223 := m_ ((gl_ : gb222 ≠ gb223)); have NB223_222 := m_ ((gr_ : gb223 ≠ gb222)); replace BK222 := m_ (kl_ gb222 hb); replace HB := m_ (below_step bz_ hb); clear hb hbox hg; have hnb12 := NB222_223.out; have hnc12 := NB223_222.out; have hcz13 := cz6_ BK222.out; have hcz14 := cz6_ BK223.out))
   go_ret
   exact ⟨ew_, bz_⟩
 ·rw [if_neg c3] at H
  have c3b0 : (a0_0 == a1_0) = false := beq_eq_false_iff_ne.mpr c3
  have c3b1 : (a0_0 != a1_0) = true := bne_iff_ne.mpr c3
  obtain rfl := Option.some.inj H
  go_enter Try.func35, Try.ntmps35
  go_wp2_with (first | ((with_reducible refine gate_dst (N := 2) rfl ?_); refine bx_ 2 29 #[.int .u32 a0_0, .int .u32 a0_1, .int .u32 a0_2, .int .i64 a0_3, .int .u32 a0_4, .slice A0_5 l0_5.length c0_5] ?_; intro gb222 hg w15 hbox hb; have BK222 := m_ (hbox); have GW222 := m_ ((gw_ : w.heap.size ≤ gb222)); have GE222 := m_ ((gw_ : w.heap.size ≤ gb222)); replace HB := m_ (below_step bz_ hb); clear hb hbox hg) | ((with_reducible refine gate_dst (N := 3) rfl ?_); refine bx_ 3 29 #[.int .u32 a1_0, .int .u32 a1_1, .int .u32 a1_2, .int .i64 a1_3, .int .u32 a1_4, .slice A1_5 l1_5.length c1_5] ?_; intro gb223 hg w16 hbox hb; have BK223 := m_ (hbox); have GW223 := m_ ((gw_ : w.heap.size ≤ gb223)); have GE223 := m_ ((gw_ : w.heap.size ≤ gb223)); have NB222_223 := m_ ((gl_ : gb222 ≠ gb223)); have NB223_222 := m_ ((gr_ : gb223 ≠ gb222)); replace BK222 := m_ (kl_ gb222 hb); replace HB := m_ (below_step bz_ hb); clear hb hbox hg; have hnb17 := NB222_223.out; have hnc17 := NB223_222.out; have hcz18 := cz6_ BK222.out; have hcz19 := cz6_ BK223.out))
  go_ret
  exact ⟨ew_, bz_⟩
end Go.Proofs.Ytfomnmdjbdohgaa.P

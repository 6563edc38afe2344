/- For each Go function a Lean function, and the proof that a call comes to what it tells: made by program out of the translation (the kit's print, with texts by hand put in). No condition. -/
import Derived.Test.YtfomnmdjbdohgaaSq
import Derived.Test.YtfomnmdjbdohgaaPx0
import Derived.Test.YtfomnmdjbdohgaaPx20
namespace Go.Proofs.Ytfomnmdjbdohgaa.P
open Go.RowKit Go.Proofs.Ytfomnmdjbdohgaa.HRows Go.Proofs.YtfomnmdjbdohgaaW.PrintWords Go.Proofs.YtfomnmdjbdohgaaW.PrintLast Go.Proofs.YtfomnmdjbdohgaaW.PrintMore
attribute [local go_sem] max2_int min2_int max_two min_two max_three min_three max_four min_four
set_option linter.unusedVariables false
set_option linter.unusedSimpArgs false
def stolonref17_Right.f (k : Nat) (a0_0 : Int) (l0_1 : List (S29)) : Option (Bool) := (stolonref15_Table.f k l0_1).bind fun t230 => (if t230 = true then (if a0_0 ≥ 0 then (if a0_0 ≤ 1000 then (some (decide ((l0_1.length : Int) ≤ a0_0))) else (some false)) else (some false)) else (some false))
set_option maxHeartbeats 8000000 in
set_option maxRecDepth 100000 in
theorem stolonref17_Right.calls (k : Nat) (a0_0 : Int) (A0_1 : Option Addr) (c0_1 : Nat) (l0_1 : List (S29)) (r : Bool) (w : World) (hr0_1 : Kd.C k29 w A0_1 l0_1.length l0_1) (hc0_1 : l0_1.length ≤ c0_1) (h : stolonref17_Right.f k a0_0 l0_1 = some r) :
  Calls Try.prog 11 #[.agg #[.int .i64 a0_0, .slice A0_1 l0_1.length c0_1]] w fun e w' => e = .returned (.bool r) ∧ Below w.heap.size w w' := by
 have hu24 := Try.underlying24
 have HR0_1 := m_ hr0_1
 have HC0_1 := m_ hc0_1
 clear hr0_1 hc0_1
 have HB := m_ (Below.refl w.heap.size w)
 have H : ((stolonref15_Table.f k l0_1).bind fun t230 => (if t230 = true then (if a0_0 ≥ 0 then (if a0_0 ≤ 1000 then (some (decide ((l0_1.length : Int) ≤ a0_0))) else (some false)) else (some false)) else (some false))) = some r := h
 clear h
 replace H := Option.bind_eq_some_iff.mp H
 obtain ⟨t230, A20, H⟩ := H
 replace H : (if t230 = true then (if a0_0 ≥ 0 then (if a0_0 ≤ 1000 then (some (decide ((l0_1.length : Int) ≤ a0_0))) else (some false)) else (some false)) else (some false)) = some r := H
 have A2 := m_ A20
 clear A20
 by_cases c3 : t230 = true
 ·subst c3
  have H1 : (if a0_0 ≥ 0 then (if a0_0 ≤ 1000 then (some (decide ((l0_1.length : Int) ≤ a0_0))) else (some false)) else (some false)) = some r := by rw [if_pos rfl] at H; exact H
  clear H
  have H := H1
  clear H1
  by_cases c4 : a0_0 ≥ 0
  ·rw [if_pos c4] at H
   have c4b0 : decide (0 ≤ a0_0) = true := decide_eq_true c4
   clear c4
   by_cases c5 : a0_0 ≤ 1000
   ·rw [if_pos c5] at H
    have c5b0 : decide (a0_0 ≤ 1000) = true := decide_eq_true c5
    clear c5
    obtain rfl := Option.some.inj H
    go_enter Try.func11, Try.ntmps11
    go_wp2_with (first | ((with_reducible refine gate_dst (N := 1) rfl ?_); (try (refine gate_guard (by rfl) ?_; dsimp only)); refine bx_ 1 24 #[.int .i64 a0_0, .slice A0_1 l0_1.length c0_1] ?_; intro gb229 hg w6 hbox hb; have BK229 := m_ (hbox); have GW229 := m_ ((gw_ : w.heap.size ≤ gb229)); have GE229 := m_ ((gw_ : w.heap.size ≤ gb229)); replace HB := m_ (below_step bz_ hb); clear hb hbox hg; have hcz7 := cz2_ BK229.out) | ((with_reducible refine gate_callee (f := 26) rfl ?_); refine gL_ (some 6) Try.func26 #[.slice A0_1 l0_1.length c0_1] ?_; (with_reducible refine (stolonref15_Table.calls k _ _ l0_1 true _ ?side1 ?side2 A2.out).mono ?_); (case side1 => exact Cd_ (Kd.C_below HR0_1.out HB.out)); (case side2 => exact HC0_1.out); rintro e w8 ⟨rfl, hb⟩; refine ⟨_, rfl, ?_⟩; replace BK229 := m_ (kl_ gb229 hb); replace HB := m_ (below_step bz_ hb); (try clear hb); (try clear hb2); (try clear hk); (try clear hi); have hcz9 := cz2_ BK229.out))
    go_ret
    exact ⟨ew_, bz_⟩
   ·rw [if_neg c5] at H
    have c5b0 : decide (a0_0 ≤ 1000) = false := decide_eq_false c5
    clear c5
    obtain rfl := Option.some.inj H
    go_enter Try.func11, Try.ntmps11
    go_wp2_with (first | ((with_reducible refine gate_dst (N := 1) rfl ?_); (try (refine gate_guard (by rfl) ?_; dsimp only)); refine bx_ 1 24 #[.int .i64 a0_0, .slice A0_1 l0_1.length c0_1] ?_; intro gb229 hg w10 hbox hb; have BK229 := m_ (hbox); have GW229 := m_ ((gw_ : w.heap.size ≤ gb229)); have GE229 := m_ ((gw_ : w.heap.size ≤ gb229)); replace HB := m_ (below_step bz_ hb); clear hb hbox hg; have hcz11 := cz2_ BK229.out) | ((with_reducible refine gate_callee (f := 26) rfl ?_); refine gL_ (some 6) Try.func26 #[.slice A0_1 l0_1.length c0_1] ?_; (with_reducible refine (stolonref15_Table.calls k _ _ l0_1 true _ ?side1 ?side2 A2.out).mono ?_); (case side1 => exact Cd_ (Kd.C_below HR0_1.out HB.out)); (case side2 => exact HC0_1.out); rintro e w12 ⟨rfl, hb⟩; refine ⟨_, rfl, ?_⟩; replace BK229 := m_ (kl_ gb229 hb); replace HB := m_ (below_step bz_ hb); (try clear hb); (try clear hb2); (try clear hk); (try clear hi); have hcz13 := cz2_ BK229.out))
    go_ret
    exact ⟨ew_, bz_⟩
  ·rw [if_neg c4] at H
   have c4b0 : decide (0 ≤ a0_0) = false := decide_eq_false c4
   clear c4
   obtain rfl := Option.some.inj H
   go_enter Try.func11, Try.ntmps11
   go_wp2_with (first | ((with_reducible refine gate_dst (N := 1) rfl ?_); (try (refine gate_guard (by rfl) ?_; dsimp only)); refine bx_ 1 24 #[.int .i64 a0_0, .slice A0_1 l0_1.length c0_1] ?_; intro gb229 hg w14 hbox hb; have BK229 := m_ (hbox); have GW229 := m_ ((gw_ : w.heap.size ≤ gb229)); have GE229 := m_ ((gw_ : w.heap.size ≤ gb229)); replace HB := m_ (below_step bz_ hb); clear hb hbox hg; have hcz15 := cz2_ BK229.out) | ((with_reducible refine gate_callee (f := 26) rfl ?_); refine gL_ (some 6) Try.func26 #[.slice A0_1 l0_1.length c0_1] ?_; (with_reducible refine (stolonref15_Table.calls k _ _ l0_1 true _ ?side1 ?side2 A2.out).mono ?_); (case side1 => exact Cd_ (Kd.C_below HR0_1.out HB.out)); (case side2 => exact HC0_1.out); rintro e w16 ⟨rfl, hb⟩; refine ⟨_, rfl, ?_⟩; replace BK229 := m_ (kl_ gb229 hb); replace HB := m_ (below_step bz_ hb); (try clear hb); (try clear hb2); (try clear hk); (try clear hi); have hcz17 := cz2_ BK229.out))
   go_ret
   exact ⟨ew_, bz_⟩
 ·replace c3 := Bool.eq_false_iff.mpr c3
  subst c3
  have H1 : (some false) = some r := by rw [if_neg (show ¬ (false = true) by decide)] at H; exact H
  clear H
  have H := H1
  clear H1
  obtain rfl := Option.some.inj H
  go_enter Try.func11, Try.ntmps11
  go_wp2_with (first | ((with_reducible refine gate_dst (N := 1) rfl ?_); (try (refine gate_guard (by rfl) ?_; dsimp only)); refine bx_ 1 24 #[.int .i64 a0_0, .slice A0_1 l0_1.length c0_1] ?_; intro gb229 hg w18 hbox hb; have BK229 := m_ (hbox); have GW229 := m_ ((gw_ : w.heap.size ≤ gb229)); have GE229 := m_ ((gw_ : w.heap.size ≤ gb229)); replace HB := m_ (below_step bz_ hb); clear hb hbox hg; have hcz19 := cz2_ BK229.out) | ((with_reducible refine gate_callee (f := 26) rfl ?_); refine gL_ (some 6) Try.func26 #[.slice A0_1 l0_1.length c0_1] ?_; (with_reducible refine (stolonref15_Table.calls k _ _ l0_1 false _ ?side1 ?side2 A2.out).mono ?_); (case side1 => exact Cd_ (Kd.C_below HR0_1.out HB.out)); (case side2 => exact HC0_1.out); rintro e w20 ⟨rfl, hb⟩; refine ⟨_, rfl, ?_⟩; replace BK229 := m_ (kl_ gb229 hb); replace HB := m_ (below_step bz_ hb); (try clear hb); (try clear hb2); (try clear hk); (try clear hi)))
  go_ret
  exact ⟨ew_, bz_⟩
end Go.Proofs.Ytfomnmdjbdohgaa.P

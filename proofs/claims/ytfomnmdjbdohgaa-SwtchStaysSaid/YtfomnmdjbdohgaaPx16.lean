/- For each Go function a Lean function, and the proof that a call comes to what it tells: made by program out of the translation (the kit's print, with texts by hand put in). No condition. -/
import Derived.Test.YtfomnmdjbdohgaaSq
import Derived.Test.YtfomnmdjbdohgaaPx0
import Derived.Test.YtfomnmdjbdohgaaPx15
namespace Go.Proofs.Ytfomnmdjbdohgaa.P
open Go.RowKit Go.Proofs.Ytfomnmdjbdohgaa.HRows Go.Proofs.YtfomnmdjbdohgaaW.PrintWords Go.Proofs.YtfomnmdjbdohgaaW.PrintLast Go.Proofs.YtfomnmdjbdohgaaW.PrintMore
attribute [local go_sem] max2_int min2_int max_two min_two max_three min_three max_four min_four
set_option linter.unusedVariables false
set_option linter.unusedSimpArgs false
def swtch_Right.f (k : Nat) (a0_0 : Int) (l0_1 : List (S29)) : Option (Bool) := if a0_0 ≥ 0 then (if a0_0 ≤ 1000 then (if (l0_1.length : Int) ≤ a0_0 then ((flow_Table.f k l0_1).bind fun t180 => (some t180)) else (some false)) else (some false)) else (some false)
theorem swtch_Right.mono : ∀ a0 a1 k, LeO (swtch_Right.f k a0 a1) (swtch_Right.f (k + 1) a0 a1) := by
 intro a0 a1 k
 unfold swtch_Right.f
 repeat' first
   | (with_reducible exact flow_Table.mono _ _)
   | (with_reducible exact LeO.refl _)
   | (with_reducible exact LeO.none _)
   | (with_reducible refine LeO.ite ?_ ?_)
   | (with_reducible refine LeO.bind ?_ (fun _ => ?_))
   | exact flow_Table.mono _ _
   | exact LeO.none _
   | refine LeO.ite ?_ ?_
   | refine LeO.bind ?_ (fun _ => ?_)
set_option maxHeartbeats 8000000 in
set_option maxRecDepth 100000 in
theorem swtch_Right.calls (k : Nat) (a0_0 : Int) (A0_1 : Option Addr) (c0_1 : Nat) (l0_1 : List (S29)) (r : Bool) (w : World) (hr0_1 : Kd.C k29 w A0_1 l0_1.length l0_1) (hc0_1 : l0_1.length ≤ c0_1) (h : swtch_Right.f k a0_0 l0_1 = some r) :
  Calls Try.prog 25 #[.agg #[.int .i64 a0_0, .slice A0_1 l0_1.length c0_1]] w fun e w' => e = .returned (.bool r) ∧ Below w.heap.size w w' := by
 have hu24 := Try.underlying24
 have HR0_1 := m_ hr0_1
 have HC0_1 := m_ hc0_1
 clear hr0_1 hc0_1
 have HB := m_ (Below.refl w.heap.size w)
 have H : (if a0_0 ≥ 0 then (if a0_0 ≤ 1000 then (if (l0_1.length : Int) ≤ a0_0 then ((flow_Table.f k l0_1).bind fun t180 => (some t180)) else (some false)) else (some false)) else (some false)) = some r := h
 clear h
 by_cases c2 : a0_0 ≥ 0
 ·rw [if_pos c2] at H
  have c2b0 : decide (0 ≤ a0_0) = true := decide_eq_true c2
  clear c2
  by_cases c3 : a0_0 ≤ 1000
  ·rw [if_pos c3] at H
   have c3b0 : decide (a0_0 ≤ 1000) = true := decide_eq_true c3
   clear c3
   by_cases c4 : (l0_1.length : Int) ≤ a0_0
   ·rw [if_pos c4] at H
    have c4b0 : decide ((l0_1.length : Int) ≤ a0_0) = true := decide_eq_true c4
    clear c4
    replace H := Option.bind_eq_some_iff.mp H
    obtain ⟨t180, A50, H⟩ := H
    replace H : (some t180) = some r := H
    have A5 := m_ A50
    clear A50
    obtain rfl := Option.some.inj H
    go_enter Try.func25, Try.ntmps25
    go_wp2_with (first | ((with_reducible refine gate_dst (N := 1) rfl ?_); (try (refine gate_guard (by rfl) ?_; dsimp only)); refine bx_ 1 24 #[.int .i64 a0_0, .slice A0_1 l0_1.length c0_1] ?_; intro gb179 hg w6 hbox hb; have BK179 := m_ (hbox); have GW179 := m_ ((gw_ : w.heap.size ≤ gb179)); have GE179 := m_ ((gw_ : w.heap.size ≤ gb179)); replace HB := m_ (below_step bz_ hb); clear hb hbox hg; have hcz7_0 : w6.cell? ⟨gb179, 0, none⟩ = some (.int .i64 a0_0) := (blk_cell BK179.out 0).trans rfl; have hcz7_1 : w6.cell? ⟨gb179, 1, none⟩ = some (.slice A0_1 l0_1.length c0_1) := (blk_cell BK179.out 1).trans rfl; have hfz7_0 := blk_frozen BK179.out 0; have hfz7_1 := blk_frozen BK179.out 1) | (go_at_call 34; (with_reducible refine (flow_Table.calls k _ _ l0_1 t180 _ ?side1 ?side2 A5.out).mono ?_); (case side1 => exact Cd_ (Kd.C_below HR0_1.out HB.out)); (case side2 => exact HC0_1.out); rintro e w8 ⟨rfl, hb⟩; replace BK179 := m_ (kl_ gb179 hb); replace HB := m_ (below_step bz_ hb); (try clear hb); (try clear hb2); (try clear hk); (try clear hi)))
    go_ret
    exact ⟨ew_, bz_⟩
   ·rw [if_neg c4] at H
    have c4b0 : decide ((l0_1.length : Int) ≤ a0_0) = false := decide_eq_false c4
    clear c4
    obtain rfl := Option.some.inj H
    go_enter Try.func25, Try.ntmps25
    go_wp2_with (first | ((with_reducible refine gate_dst (N := 1) rfl ?_); (try (refine gate_guard (by rfl) ?_; dsimp only)); refine bx_ 1 24 #[.int .i64 a0_0, .slice A0_1 l0_1.length c0_1] ?_; intro gb179 hg w9 hbox hb; have BK179 := m_ (hbox); have GW179 := m_ ((gw_ : w.heap.size ≤ gb179)); have GE179 := m_ ((gw_ : w.heap.size ≤ gb179)); replace HB := m_ (below_step bz_ hb); clear hb hbox hg; have hcz10_0 : w9.cell? ⟨gb179, 0, none⟩ = some (.int .i64 a0_0) := (blk_cell BK179.out 0).trans rfl; have hcz10_1 : w9.cell? ⟨gb179, 1, none⟩ = some (.slice A0_1 l0_1.length c0_1) := (blk_cell BK179.out 1).trans rfl; have hfz10_0 := blk_frozen BK179.out 0; have hfz10_1 := blk_frozen BK179.out 1))
    go_ret
    exact ⟨ew_, bz_⟩
  ·rw [if_neg c3] at H
   have c3b0 : decide (a0_0 ≤ 1000) = false := decide_eq_false c3
   clear c3
   obtain rfl := Option.some.inj H
   go_enter Try.func25, Try.ntmps25
   go_wp2_with (first | ((with_reducible refine gate_dst (N := 1) rfl ?_); (try (refine gate_guard (by rfl) ?_; dsimp only)); refine bx_ 1 24 #[.int .i64 a0_0, .slice A0_1 l0_1.length c0_1] ?_; intro gb179 hg w11 hbox hb; have BK179 := m_ (hbox); have GW179 := m_ ((gw_ : w.heap.size ≤ gb179)); have GE179 := m_ ((gw_ : w.heap.size ≤ gb179)); replace HB := m_ (below_step bz_ hb); clear hb hbox hg; have hcz12 := cz2_ BK179.out))
   go_ret
   exact ⟨ew_, bz_⟩
 ·rw [if_neg c2] at H
  have c2b0 : decide (0 ≤ a0_0) = false := decide_eq_false c2
  clear c2
  obtain rfl := Option.some.inj H
  go_enter Try.func25, Try.ntmps25
  go_wp2_with (first | ((with_reducible refine gate_dst (N := 1) rfl ?_); (try (refine gate_guard (by rfl) ?_; dsimp only)); refine bx_ 1 24 #[.int .i64 a0_0, .slice A0_1 l0_1.length c0_1] ?_; intro gb179 hg w13 hbox hb; have BK179 := m_ (hbox); have GW179 := m_ ((gw_ : w.heap.size ≤ gb179)); have GE179 := m_ ((gw_ : w.heap.size ≤ gb179)); replace HB := m_ (below_step bz_ hb); clear hb hbox hg; have hcz14_0 : w13.cell? ⟨gb179, 0, none⟩ = some (.int .i64 a0_0) := (blk_cell BK179.out 0).trans rfl; have hcz14_1 : w13.cell? ⟨gb179, 1, none⟩ = some (.slice A0_1 l0_1.length c0_1) := (blk_cell BK179.out 1).trans rfl; have hfz14_0 := blk_frozen BK179.out 0; have hfz14_1 := blk_frozen BK179.out 1))
  go_ret
  exact ⟨ew_, bz_⟩
def swtch_New.f (k : Nat) (a0 : Int) : Option (Int × (List (S29)) × Int) := (swtch_Right.f k a0 ([] : List (S29))).bind fun t183 => (if t183 = true then (some (a0, ([] : List (S29)), 0)) else (some (0, ([] : List (S29)), 1)))
theorem swtch_New.mono : ∀ a0 k, LeO (swtch_New.f k a0) (swtch_New.f (k + 1) a0) := by
 intro a0 k
 unfold swtch_New.f
 repeat' first
   | (with_reducible exact swtch_Right.mono _ _ _)
   | (with_reducible exact LeO.refl _)
   | (with_reducible exact LeO.none _)
   | (with_reducible refine LeO.ite ?_ ?_)
   | (with_reducible refine LeO.bind ?_ (fun _ => ?_))
   | exact swtch_Right.mono _ _ _
   | exact LeO.none _
   | refine LeO.ite ?_ ?_
   | refine LeO.bind ?_ (fun _ => ?_)
set_option maxHeartbeats 8000000 in
set_option maxRecDepth 100000 in
theorem swtch_New.calls (k : Nat) (a0 : Int) (r1 : Int) (r2 : List (S29)) (r3 : Int) (w : World) (h : swtch_New.f k a0 = some (r1, r2, r3)) :
  Calls Try.prog 24 #[.int .i64 a0] w fun e w' => ∃ v1_ : Value, e = .returned (.tuple #[.agg #[.int .i64 r1, v1_], .int .i64 r3]) ∧ Kd.S k29 29 w' w.heap.size (fun _ => True) v1_ r2 ∧ Below w.heap.size w w' := by
 have hu24 := Try.underlying24
 have HB := m_ (Below.refl w.heap.size w)
 have H : ((swtch_Right.f k a0 ([] : List (S29))).bind fun t183 => (if t183 = true then (some (a0, ([] : List (S29)), 0)) else (some (0, ([] : List (S29)), 1)))) = some (r1, r2, r3) := h
 clear h
 replace H := Option.bind_eq_some_iff.mp H
 obtain ⟨t183, A20, H⟩ := H
 replace H : (if t183 = true then (some (a0, ([] : List (S29)), 0)) else (some (0, ([] : List (S29)), 1))) = some (r1, r2, r3) := H
 have A2 := m_ A20
 clear A20
 by_cases c3 : t183 = true
 ·subst c3
  have H1 : (some (a0, ([] : List (S29)), 0)) = some (r1, r2, r3) := by rw [if_pos rfl] at H; exact H
  clear H
  have H := H1
  clear H1
  simp only [Option.some.injEq, Prod.mk.injEq] at H
  obtain ⟨rfl, rfl, rfl⟩ := H
  go_enter Try.func24, Try.ntmps24
  go_wp2_with (first | ((with_reducible refine gate_dst (N := 2) rfl ?_); refine bx_ 2 24 #[.int .i64 0, .slice none 0 0] ?_; intro gb181 hg w4 hbox hb; have BK181 := m_ (hbox); have GW181 := m_ ((gw_ : w.heap.size ≤ gb181)); have GE181 := m_ ((gw_ : w.heap.size ≤ gb181)); replace HB := m_ (below_step bz_ hb); clear hb hbox hg) | ((with_reducible refine gate_dst (N := 4) rfl ?_); refine bx_ 4 24 #[.int .i64 0, .slice none 0 0] ?_; intro gb182 hg w5 hbox hb; have BK182 := m_ (hbox); have GW182 := m_ ((gw_ : w.heap.size ≤ gb182)); have GE182 := m_ ((gw_ : w.heap.size ≤ gb182)); have NB181_182 := m_ ((gl_ : gb181 ≠ gb182)); have NB182_181 := m_ ((gr_ : gb182 ≠ gb181)); replace BK181 := m_ (kl_ gb181 hb); replace HB := m_ (below_step bz_ hb); clear hb hbox hg; have hnb6 := NB182_181.out; have hnc6 := NB181_182.out; have hcz7_0 : w5.cell? ⟨gb182, 0, none⟩ = some (.int .i64 0) := (blk_cell BK182.out 0).trans rfl; have hcz7_1 : w5.cell? ⟨gb182, 1, none⟩ = some (.slice none 0 0) := (blk_cell BK182.out 1).trans rfl; have hfz7_0 := blk_frozen BK182.out 0; have hfz7_1 := blk_frozen BK182.out 1) | ((with_reducible refine gate_callee (f := 25) rfl ?_); refine gL_ (some 8) Try.func25 #[.agg #[.int .i64 a0, .slice none 0 0]] ?_; (refine (swtch_Right.calls k a0 _ _ ([] : List (S29)) true _ ?side1 ?side2 A2.out).mono ?_); (case side1 => exact Kd.C_nil _ _); (case side2 => exact Nat.le_refl _); rintro e w8 ⟨rfl, hb⟩; refine ⟨_, rfl, ?_⟩; replace BK181 := m_ (blk_below (g := gb181) (o := .cells #[.int .i64 0, .slice none 0 0] 24 (0, 0)) kb_ hb); replace BK182 := m_ (blk_below (g := gb182) (o := .cells #[.int .i64 a0, .slice none 0 0] 24 (0, 0)) kb_ hb); replace HB := m_ (below_step bz_ hb); (try clear hb); (try clear hb2); (try clear hk); (try clear hi); have hcz9 := cz2_ BK182.out; have hcz10_0 : w8.cell? ⟨gb181, 0, none⟩ = some (.int .i64 0) := (blk_cell BK181.out 0).trans rfl; have hcz10_1 : w8.cell? ⟨gb181, 1, none⟩ = some (.slice none 0 0) := (blk_cell BK181.out 1).trans rfl; have hfz10_0 := blk_frozen BK181.out 0; have hfz10_1 := blk_frozen BK181.out 1))
  refine bodyPost_ret (results_ct rfl _ _ gb181 24 #[.int .i64 a0, .slice none 0 0] (0, 0) _ rfl kb_ Try.underlying24 rfl (by kernel_rfl)) rfl ?_
  exact ⟨_, ew_, (by first | exact Kd.S_nil _ _ _ _ _ | exact Kd.N_nil _ _ _ _ _ | exact Kd.V_nil _ _ _ _ _ | exact Kd.Q_nil _ _ _ _ _ | exact Kd.R_nil _ _ _ _ _), bz_⟩
 ·replace c3 := Bool.eq_false_iff.mpr c3
  subst c3
  have H1 : (some (0, ([] : List (S29)), 1)) = some (r1, r2, r3) := by rw [if_neg (show ¬ (false = true) by decide)] at H; exact H
  clear H
  have H := H1
  clear H1
  simp only [Option.some.injEq, Prod.mk.injEq] at H
  obtain ⟨rfl, rfl, rfl⟩ := H
  go_enter Try.func24, Try.ntmps24
  go_wp2_with (first | ((with_reducible refine gate_dst (N := 2) rfl ?_); refine bx_ 2 24 #[.int .i64 0, .slice none 0 0] ?_; intro gb181 hg w11 hbox hb; have BK181 := m_ (hbox); have GW181 := m_ ((gw_ : w.heap.size ≤ gb181)); have GE181 := m_ ((gw_ : w.heap.size ≤ gb181)); replace HB := m_ (below_step bz_ hb); clear hb hbox hg) | ((with_reducible refine gate_dst (N := 4) rfl ?_); refine bx_ 4 24 #[.int .i64 0, .slice none 0 0] ?_; intro gb182 hg w12 hbox hb; have BK182 := m_ (hbox); have GW182 := m_ ((gw_ : w.heap.size ≤ gb182)); have GE182 := m_ ((gw_ : w.heap.size ≤ gb182)); have NB181_182 := m_ ((gl_ : gb181 ≠ gb182)); have NB182_181 := m_ ((gr_ : gb182 ≠ gb181)); replace BK181 := m_ (kl_ gb181 hb); replace HB := m_ (below_step bz_ hb); clear hb hbox hg; have hnb13 := NB182_181.out; have hnc13 := NB181_182.out; have hcz14_0 : w12.cell? ⟨gb182, 0, none⟩ = some (.int .i64 0) := (blk_cell BK182.out 0).trans rfl; have hcz14_1 : w12.cell? ⟨gb182, 1, none⟩ = some (.slice none 0 0) := (blk_cell BK182.out 1).trans rfl; have hfz14_0 := blk_frozen BK182.out 0; have hfz14_1 := blk_frozen BK182.out 1) | ((with_reducible refine gate_callee (f := 25) rfl ?_); refine gL_ (some 8) Try.func25 #[.agg #[.int .i64 a0, .slice none 0 0]] ?_; (refine (swtch_Right.calls k a0 _ _ ([] : List (S29)) false _ ?side1 ?side2 A2.out).mono ?_); (case side1 => exact Kd.C_nil _ _); (case side2 => exact Nat.le_refl _); rintro e w15 ⟨rfl, hb⟩; refine ⟨_, rfl, ?_⟩; replace BK181 := m_ (blk_below (g := gb181) (o := .cells #[.int .i64 0, .slice none 0 0] 24 (0, 0)) kb_ hb); replace BK182 := m_ (blk_below (g := gb182) (o := .cells #[.int .i64 a0, .slice none 0 0] 24 (0, 0)) kb_ hb); replace HB := m_ (below_step bz_ hb); (try clear hb); (try clear hb2); (try clear hk); (try clear hi); have hcz16 := cz2_ BK181.out))
  refine bodyPost_ret (results_ct rfl _ _ gb181 24 #[.int .i64 0, .slice none 0 0] (0, 0) _ rfl kb_ Try.underlying24 rfl (by kernel_rfl)) rfl ?_
  exact ⟨_, ew_, (by first | exact Kd.S_nil _ _ _ _ _ | exact Kd.N_nil _ _ _ _ _ | exact Kd.V_nil _ _ _ _ _ | exact Kd.Q_nil _ _ _ _ _ | exact Kd.R_nil _ _ _ _ _), bz_⟩
end Go.Proofs.Ytfomnmdjbdohgaa.P

/- For each Go function a Lean function, and the proof that a call comes to what it tells: made by program out of the translation (the kit's print, with texts by hand put in). No condition. -/
import Derived.Test.YtboonfidioombaaSq
import Derived.Test.YtboonfidioombaaPx0
import Derived.Test.YtboonfidioombaaPx1
namespace Go.Proofs.Ytboonfidioombaa.P
open Go.RowKit Go.Proofs.Ytboonfidioombaa.HRows Go.Proofs.YtboonfidioombaaW.PrintWords Go.Proofs.YtboonfidioombaaW.PrintLast Go.Proofs.YtboonfidioombaaW.PrintMore
attribute [local go_sem] max2_int min2_int max_two min_two max_three min_three max_four min_four
set_option linter.unusedVariables false
set_option linter.unusedSimpArgs false
attribute [local go_sem high] eqA59
def flow_of.f (a0_0 : Int) (a0_1 : Int) (a0_2 : Int) (a0_3 : Int) (a0_4 : Int) (l0_5 : List (S59)) : Option (Int × Int × Int) := some (a0_0, a0_1, a0_2)
set_option maxHeartbeats 8000000 in
set_option maxRecDepth 100000 in
theorem flow_of.calls (a0_0 : Int) (a0_1 : Int) (a0_2 : Int) (a0_3 : Int) (a0_4 : Int) (A0_5 : Option Addr) (c0_5 : Nat) (l0_5 : List (S59)) (r1 : Int) (r2 : Int) (r3 : Int) (w : World) (hr0_5 : Kd.C k59 w A0_5 l0_5.length l0_5) (hc0_5 : l0_5.length ≤ c0_5) (h : flow_of.f a0_0 a0_1 a0_2 a0_3 a0_4 l0_5 = some (r1, r2, r3)) :
  Calls Try.prog 46 #[.agg #[.int .u32 a0_0, .int .u32 a0_1, .int .u32 a0_2, .int .i64 a0_3, .int .u32 a0_4, .slice A0_5 l0_5.length c0_5]] w fun e w' => e = .returned (.agg #[.int .u32 r1, .int .u32 r2, .int .u32 r3]) ∧ Below w.heap.size w w' := by
 have hu26 := Try.underlying26
 have hu74 := Try.underlying74
 have HR0_5 := m_ hr0_5
 have HC0_5 := m_ hc0_5
 clear hr0_5 hc0_5
 have HB := m_ (Below.refl w.heap.size w)
 have H : (some (a0_0, a0_1, a0_2)) = some (r1, r2, r3) := h
 clear h
 simp only [Option.some.injEq, Prod.mk.injEq] at H
 obtain ⟨rfl, rfl, rfl⟩ := H
 go_enter Try.func46, Try.ntmps46
 go_wp2_with (first | ((with_reducible refine gate_dst (N := 1) rfl ?_); refine bx_ 1 26 #[.int .u32 a0_0, .int .u32 a0_1, .int .u32 a0_2, .int .i64 a0_3, .int .u32 a0_4, .slice A0_5 l0_5.length c0_5] ?_; intro gb101 hg w2 hbox hb; have BK101 := m_ (hbox); have GW101 := m_ ((gw_ : w.heap.size ≤ gb101)); have GE101 := m_ ((gw_ : w.heap.size ≤ gb101)); replace HB := m_ (below_step bz_ hb); clear hb hbox hg) | ((with_reducible refine gate_dst (N := 2) rfl ?_); refine bx_ 2 74 #[.int .u32 0, .int .u32 0, .int .u32 0] ?_; intro gb102 hg w3 hbox hb; have BK102 := m_ (hbox); have GW102 := m_ ((gw_ : w.heap.size ≤ gb102)); have GE102 := m_ ((gw_ : w.heap.size ≤ gb102)); have NB101_102 := m_ ((gl_ : gb101 ≠ gb102)); have NB102_101 := m_ ((gr_ : gb102 ≠ gb101)); replace BK101 := m_ (kl_ gb101 hb); replace HB := m_ (below_step bz_ hb); clear hb hbox hg; have hnb4 := NB101_102.out; have hnc4 := NB102_101.out; have hcz5 := cz6_ BK101.out; have hcz6 := cz3_ BK102.out))
 refine bodyPost_ret (results_cell_row rfl _ _ gb102 74 #[.int .u32 a0_0, .int .u32 a0_1, .int .u32 a0_2] (0, 0) _ rfl kb_ Try.underlying74 rfl (by kernel_rfl)) rfl ?_
 exact ⟨ew_, bz_⟩
def api_Out.l0 : Nat → List (S59) → List (S59) → Int → Int → Option (Bool)
 | 0, _, _, _, _ => none
 | k + 1, x0, x1, x12, x13 => if x13 < x12 then (if 0 ≤ x13 then (if x13 < (x0.length : Int) then (if x13 < (x1.length : Int) then (if (!(((rd_T59 x0 x13).f0) == ((rd_T59 x1 x13).f0)) || (!(((rd_T59 x0 x13).f1) == ((rd_T59 x1 x13).f1)))) = true then (some false) else (api_Out.l0 k x0 x1 x12 (wrap64 (x13 + 1)))) else (none)) else (none)) else (none)) else (some true)
def api_Out.f (k : Nat) (l0 : List (S59)) (l1 : List (S59)) : Option (Bool) := if (l0.length : Int) = (l1.length : Int) then (api_Out.l0 k l0 l1 (l0.length : Int) 0) else (some false)
theorem api_Out.mono_l : ∀ k, (∀ y0 y1 y2 y3, LeO (api_Out.l0 k y0 y1 y2 y3) (api_Out.l0 (k + 1) y0 y1 y2 y3))
 | 0 => fun _ _ _ _ r h => by simp [api_Out.l0] at h
 | k + 1 => by
  have ih0 := api_Out.mono_l k
  ·intro y0 y1 y2 y3
   unfold api_Out.l0
   repeat' first
   | (with_reducible exact ih0 _ _ _ _)
   | (with_reducible exact LeO.refl _)
   | (with_reducible exact LeO.none _)
   | (with_reducible refine LeO.ite ?_ ?_)
   | (with_reducible refine LeO.bind ?_ (fun _ => ?_))
   | exact ih0 _ _ _ _
   | exact LeO.none _
   | refine LeO.ite ?_ ?_
   | refine LeO.bind ?_ (fun _ => ?_)
theorem api_Out.mono : ∀ a0 a1 k, LeO (api_Out.f k a0 a1) (api_Out.f (k + 1) a0 a1) := by
 intro a0 a1 k
 have ih0 := api_Out.mono_l k
 unfold api_Out.f
 repeat' first
   | (with_reducible exact ih0 _ _ _ _)
   | (with_reducible exact LeO.refl _)
   | (with_reducible exact LeO.none _)
   | (with_reducible refine LeO.ite ?_ ?_)
   | (with_reducible refine LeO.bind ?_ (fun _ => ?_))
   | exact ih0 _ _ _ _
   | exact LeO.none _
   | refine LeO.ite ?_ ?_
   | refine LeO.bind ?_ (fun _ => ?_)
set_option maxHeartbeats 8000000 in
set_option maxRecDepth 100000 in
theorem api_Out.calls (k : Nat) (A0 : Option Addr) (c0 : Nat) (l0 : List (S59)) (A1 : Option Addr) (c1 : Nat) (l1 : List (S59)) (r : Bool) (w : World) (hr0 : Kd.C k59 w A0 l0.length l0) (hc0 : l0.length ≤ c0) (hr1 : Kd.C k59 w A1 l1.length l1) (hc1 : l1.length ≤ c1) (h : api_Out.f k l0 l1 = some r) :
  Calls Try.prog 47 #[.slice A0 l0.length c0, .slice A1 l1.length c1] w fun e w' => e = .returned (.bool r) ∧ Drawn0 w w' := by
 have hu59 := Try.underlying59
 have HR0 := m_ hr0
 have HC0 := m_ hc0
 clear hr0 hc0
 have HR1 := m_ hr1
 have HC1 := m_ hc1
 clear hr1 hc1
 have H : (if (l0.length : Int) = (l1.length : Int) then (api_Out.l0 k l0 l1 (l0.length : Int) 0) else (some false)) = some r := h
 clear h
 by_cases c3 : (l0.length : Int) = (l1.length : Int)
 ·rw [if_pos c3] at H
  have c3b0 : ((l0.length : Int) == (l1.length : Int)) = true := beq_iff_eq.mpr c3
  have c3b1 : ((l0.length : Int) != (l1.length : Int)) = false := bne_eq_false_iff_eq.mpr c3
  have c3b2 : (l0.length == l1.length) = true := by first | simpa using c3 | (simp at c3 ⊢; omega)
  clear c3
  have H' := m_ H
  clear H
  go_enter Try.func47, Try.ntmps47
  go_wp2
  repeat (go_quiet (fail); try go_wp2)
  go_loopg [13] k (fun kq v13 w' => ∃ (x13_1 : Int), v13 = .int .i64 x13_1 ∧ Aside0 (api_Out.l0 kq l0 l1 (l0.length : Int) x13_1 = some r) ∧ Aside0 (kq ≤ k) ∧ Drawn0 w w')
  case atStart => exact ⟨(0), (by first | rfl | (simp; done) | (simp [*]; done)), H', ⟨Nat.le_refl _⟩, by repeat (first | exact Drawn0.refl _ | apply Drawn0.step)⟩
  case round =>
   clear H'
   try clear c1
   try clear p2
   try clear c3
   try clear c3b0
   try clear c3b1
   try clear c3b2
   obtain ⟨x13_1, rfl, HA, HK1, ⟨m1, rfl⟩⟩ := hrel
   cases gk with
   | zero => exact absurd HA.out (by simp [api_Out.l0])
   | succ k1 =>
    have H := HA.out
    clear HA
    simp only [api_Out.l0] at H
    by_cases c4 : x13_1 < (l0.length : Int)
    ·rw [if_pos c4] at H
     have c4b0 : decide (x13_1 < (l0.length : Int)) = true := decide_eq_true c4
     clear c4
     by_cases c5 : 0 ≤ x13_1
     ·rw [if_pos c5] at H
      have c5b0 : decide (0 ≤ x13_1) = true := decide_eq_true c5
      clear c5
      by_cases c6 : x13_1 < (l0.length : Int)
      ·rw [if_pos c6] at H
       have c6b0 : decide (x13_1 < (l0.length : Int)) = true := decide_eq_true c6
       clear c6
       by_cases c7 : x13_1 < (l1.length : Int)
       ·rw [if_pos c7] at H
        have c7b0 : decide (x13_1 < (l1.length : Int)) = true := decide_eq_true c7
        clear c7
        by_cases c8 : (!(((rd_T59 l0 x13_1).f0) == ((rd_T59 l1 x13_1).f0)) || (!(((rd_T59 l0 x13_1).f1) == ((rd_T59 l1 x13_1).f1)))) = true
        ·rw [if_pos c8] at H
         have c8b0 : (!(((rd_T59 l0 x13_1).f0) == ((rd_T59 l1 x13_1).f0)) || (!(((rd_T59 l0 x13_1).f1) == ((rd_T59 l1 x13_1).f1)))) = true := c8
         clear c8
         obtain rfl := Option.some.inj H
         have p103 : 0 ≤ (x13_1 : Int) := od_
         have q103 : x13_1 < (l0.length : Int) := od_
         obtain ⟨ad103, e103, hx103_0, hx103_1⟩ := at_T59 HR0.out x13_1 p103 q103
         cases e103
         replace p103 := eq_true p103
         replace q103 := eq_true q103
         have p104 : 0 ≤ (x13_1 : Int) := od_
         have q104 : x13_1 < (l1.length : Int) := od_
         obtain ⟨ad104, e104, hx104_0, hx104_1⟩ := at_T59 HR1.out x13_1 p104 q104
         cases e104
         replace p104 := eq_true p104
         replace q104 := eq_true q104
         go_wp2
         repeat (go_quiet (fail); try go_wp2)
         go_ret
         exact ⟨(by first | rfl | (simp; done) | (simp [*]; done)), (by repeat (first | exact Drawn0.refl _ | apply Drawn0.step))⟩
        ·rw [if_neg c8] at H
         have c8b0 : (!(((rd_T59 l0 x13_1).f0) == ((rd_T59 l1 x13_1).f0)) || (!(((rd_T59 l0 x13_1).f1) == ((rd_T59 l1 x13_1).f1)))) = false := by simpa using c8
         clear c8
         have H' := m_ H
         clear H
         have p103 : 0 ≤ (x13_1 : Int) := od_
         have q103 : x13_1 < (l0.length : Int) := od_
         obtain ⟨ad103, e103, hx103_0, hx103_1⟩ := at_T59 HR0.out x13_1 p103 q103
         cases e103
         replace p103 := eq_true p103
         replace q103 := eq_true q103
         have p104 : 0 ≤ (x13_1 : Int) := od_
         have q104 : x13_1 < (l1.length : Int) := od_
         obtain ⟨ad104, e104, hx104_0, hx104_1⟩ := at_T59 HR1.out x13_1 p104 q104
         cases e104
         replace p104 := eq_true p104
         replace q104 := eq_true q104
         go_wp2
         repeat (go_quiet (fail); try go_wp2)
         go_roundg k1
         case measure => have := HK1.out; omega
         case rel => exact ⟨(wrap64 (x13_1 + 1)), (by first | rfl | (simp; done) | (simp [*]; done)), H', ⟨by have := HK1.out; omega⟩, by repeat (first | exact Drawn0.refl _ | apply Drawn0.step)⟩
       ·rw [if_neg c7] at H
        exact absurd H (by simp)
      ·rw [if_neg c6] at H
       exact absurd H (by simp)
     ·rw [if_neg c5] at H
      exact absurd H (by simp)
    ·rw [if_neg c4] at H
     have c4b0 : decide (x13_1 < (l0.length : Int)) = false := decide_eq_false c4
     clear c4
     obtain rfl := Option.some.inj H
     go_wp2
     repeat (go_quiet (fail); try go_wp2)
     go_ret
     exact ⟨(by first | rfl | (simp; done) | (simp [*]; done)), (by repeat (first | exact Drawn0.refl _ | apply Drawn0.step))⟩
 ·rw [if_neg c3] at H
  have c3b0 : ((l0.length : Int) == (l1.length : Int)) = false := beq_eq_false_iff_ne.mpr c3
  have c3b1 : ((l0.length : Int) != (l1.length : Int)) = true := bne_iff_ne.mpr c3
  have c3b2 : (l0.length == l1.length) = false := by first | simpa using c3 | (simp at c3 ⊢; omega)
  obtain rfl := Option.some.inj H
  go_enter Try.func47, Try.ntmps47
  go_wp2
  repeat (go_quiet (fail); try go_wp2)
  go_ret
  exact ⟨(by first | rfl | (simp; done) | (simp [*]; done)), (by repeat (first | exact Drawn0.refl _ | apply Drawn0.step))⟩
end Go.Proofs.Ytboonfidioombaa.P

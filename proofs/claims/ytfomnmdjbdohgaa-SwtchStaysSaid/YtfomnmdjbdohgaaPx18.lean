/- For each Go function a Lean function, and the proof that a call comes to what it tells: made by program out of the translation (the kit's print, with texts by hand put in). No condition. -/
import Derived.Test.YtfomnmdjbdohgaaSq
import Derived.Test.YtfomnmdjbdohgaaPx0
namespace Go.Proofs.Ytfomnmdjbdohgaa.P
open Go.RowKit Go.Proofs.Ytfomnmdjbdohgaa.HRows Go.Proofs.YtfomnmdjbdohgaaW.PrintWords Go.Proofs.YtfomnmdjbdohgaaW.PrintLast Go.Proofs.YtfomnmdjbdohgaaW.PrintMore
attribute [local go_sem] max2_int min2_int max_two min_two max_three min_three max_four min_four
set_option linter.unusedVariables false
set_option linter.unusedSimpArgs false
def stolonref15_Few.l0 : Nat → List (S29) → Int → Int → Option (Bool)
 | 0, _, _, _ => none
 | k + 1, x0, x3, x4 => if x4 < (x0.length : Int) then (if x3 ≤ 2000 then (if 0 ≤ x4 then (stolonref15_Few.l0 k x0 (wrap64 (x3 + (((rd_T29 x0 x4).f5).length : Int))) (wrap64 (x4 + 1))) else (none)) else (some (decide (x3 ≤ 2000)))) else (some (decide (x3 ≤ 2000)))
def stolonref15_Few.f (k : Nat) (l0 : List (S29)) : Option (Bool) := stolonref15_Few.l0 k l0 (l0.length : Int) 0
set_option maxHeartbeats 8000000 in
set_option maxRecDepth 100000 in
theorem stolonref15_Few.calls (k : Nat) (A0 : Option Addr) (c0 : Nat) (l0 : List (S29)) (r : Bool) (w : World) (hr0 : Kd.C k29 w A0 l0.length l0) (hc0 : l0.length ≤ c0) (h : stolonref15_Few.f k l0 = some r) :
  Calls Try.prog 10 #[.slice A0 l0.length c0] w fun e w' => e = .returned (.bool r) ∧ Drawn0 w w' := by
 have HR0 := m_ hr0
 have HC0 := m_ hc0
 clear hr0 hc0
 have H : (stolonref15_Few.l0 k l0 (l0.length : Int) 0) = some r := h
 clear h
 have H' := m_ H
 clear H
 go_enter Try.func10, Try.ntmps10
 go_wp2
 go_loopg [3, 4] k (fun kq v3 v4 w' => ∃ (x3_1 : Int) (x4_1 : Int), v3 = .int .i64 x3_1 ∧ v4 = .int .i64 x4_1 ∧ Aside0 (stolonref15_Few.l0 kq l0 x3_1 x4_1 = some r) ∧ Aside0 (kq ≤ k) ∧ Drawn0 w w')
 case atStart => exact ⟨((l0.length : Int)), (0), (by first | rfl | (simp; done) | (simp [*]; done)), (by first | rfl | (simp; done) | (simp [*]; done)), H', ⟨Nat.le_refl _⟩, by repeat (first | exact Drawn0.refl _ | apply Drawn0.step)⟩
 case round =>
  clear H'
  try clear c1
  obtain ⟨x3_1, x4_1, rfl, rfl, HA, HK1, ⟨m1, rfl⟩⟩ := hrel
  cases gk with
  | zero => exact absurd HA.out (by simp [stolonref15_Few.l0])
  | succ k1 =>
   have H := HA.out
   clear HA
   simp only [stolonref15_Few.l0] at H
   by_cases c2 : x4_1 < (l0.length : Int)
   ·rw [if_pos c2] at H
    have c2b0 : decide (x4_1 < (l0.length : Int)) = true := decide_eq_true c2
    clear c2
    by_cases c3 : x3_1 ≤ 2000
    ·rw [if_pos c3] at H
     have c3b0 : decide (x3_1 ≤ 2000) = true := decide_eq_true c3
     clear c3
     by_cases c4 : 0 ≤ x4_1
     ·rw [if_pos c4] at H
      have c4b0 : decide (0 ≤ x4_1) = true := decide_eq_true c4
      clear c4
      have H' := m_ H
      clear H
      have p216 : 0 ≤ (x4_1 : Int) := od_
      have q216 : x4_1 < (l0.length : Int) := od_
      obtain ⟨ad216, A216_5, c216_5, e216, hx216_0, hx216_1, hx216_2, hx216_3, hx216_4, hx216_5, hl216_5, hi216_5⟩ := at_T29 HR0.out x4_1 p216 q216
      cases e216
      have HR216_5 := m_ hi216_5
      have HC216_5 := m_ hl216_5
      clear hi216_5 hl216_5
      replace p216 := eq_true p216
      replace q216 := eq_true q216
      go_wp2
      go_roundg k1
      case measure => have := HK1.out; omega
      case rel => exact ⟨(wrap64 (x3_1 + (((rd_T29 l0 x4_1).f5).length : Int))), (wrap64 (x4_1 + 1)), (by first | rfl | (simp; done) | (simp [*]; done)), (by first | rfl | (simp; done) | (simp [*]; done)), H', ⟨by have := HK1.out; omega⟩, by repeat (first | exact Drawn0.refl _ | apply Drawn0.step)⟩
     ·rw [if_neg c4] at H
      exact absurd H (by simp)
    ·rw [if_neg c3] at H
     have c3b0 : decide (x3_1 ≤ 2000) = false := decide_eq_false c3
     clear c3
     obtain rfl := Option.some.inj H
     go_wp2
     go_ret
     exact ⟨(by first | rfl | (simp; done) | (simp [*]; done)), (by repeat (first | exact Drawn0.refl _ | apply Drawn0.step))⟩
   ·rw [if_neg c2] at H
    have c2b0 : decide (x4_1 < (l0.length : Int)) = false := decide_eq_false c2
    clear c2
    obtain rfl := Option.some.inj H
    go_wp2
    go_ret
    exact ⟨(by first | rfl | (simp; done) | (simp [*]; done)), (by repeat (first | exact Drawn0.refl _ | apply Drawn0.step))⟩
def stolonref01_Asked.f (a0 : Int) : Option (Bool) := if a0 ≥ 3758096640 then (some (decide (a0 ≤ 4026531839))) else (some false)
set_option maxHeartbeats 8000000 in
set_option maxRecDepth 100000 in
theorem stolonref01_Asked.calls (a0 : Int) (r : Bool) (w : World) (h : stolonref01_Asked.f a0 = some r) :
  Calls Try.prog 32 #[.int .u32 a0] w fun e w' => e = .returned (.bool r) ∧ Drawn0 w w' := by
 have H : (if a0 ≥ 3758096640 then (some (decide (a0 ≤ 4026531839))) else (some false)) = some r := h
 clear h
 by_cases c2 : a0 ≥ 3758096640
 ·rw [if_pos c2] at H
  have c2b0 : decide (3758096640 ≤ a0) = true := decide_eq_true c2
  clear c2
  obtain rfl := Option.some.inj H
  go_enter Try.func32, Try.ntmps32
  go_wp2
  go_ret
  exact ⟨(by first | rfl | (simp; done) | (simp [*]; done)), (by repeat (first | exact Drawn0.refl _ | apply Drawn0.step))⟩
 ·rw [if_neg c2] at H
  have c2b0 : decide (3758096640 ≤ a0) = false := decide_eq_false c2
  clear c2
  obtain rfl := Option.some.inj H
  go_enter Try.func32, Try.ntmps32
  go_wp2
  go_ret
  exact ⟨(by first | rfl | (simp; done) | (simp [*]; done)), (by repeat (first | exact Drawn0.refl _ | apply Drawn0.step))⟩
mutual
def stolonref15_Right.j0 : Nat → Bool → Int → Int → Int → Int → Int → List (S74) → Option (Bool)
 | 0, _, _, _, _, _, _, _ => none
 | k + 1, x16, x218000, x218001, x218002, x218003, x218004, x218005 => if x16 = true then (some false) else (stolonref15_Right.l0 k 0 x218000 x218001 x218002 x218003 x218004 x218005)
def stolonref15_Right.l0 : Nat → Int → Int → Int → Int → Int → Int → List (S74) → Option (Bool)
 | 0, _, _, _, _, _, _, _ => none
 | k + 1, x4, x218000, x218001, x218002, x218003, x218004, x218005 => if x4 < (x218005.length : Int) then (if 0 ≤ x4 then (if ((rd_T74 x218005 x4).f0) < 0 then (some false) else (if ((rd_T74 x218005 x4).f0) > 127 then (some false) else (if (((rd_T74 x218005 x4).f1) != (decide (((rd_T74 x218005 x4).f0) ≥ 64))) = true then (some false) else (if x4 > 0 then (if 0 ≤ (wrap64 (x4 - 1)) then (if (wrap64 (x4 - 1)) < (x218005.length : Int) then (if ((rd_T74 x218005 (wrap64 (x4 - 1))).f0) ≥ ((rd_T74 x218005 x4).f0) then (some false) else (stolonref15_Right.l0 k (wrap64 (x4 + 1)) x218000 x218001 x218002 x218003 x218004 x218005)) else (none)) else (none)) else (stolonref15_Right.l0 k (wrap64 (x4 + 1)) x218000 x218001 x218002 x218003 x218004 x218005))))) else (none)) else (if x218002 = 0 then (if x218003 ≥ 64 then (if x218003 ≤ 127 then (some (decide (x218004 > 0))) else (some false)) else (some false)) else (if x218003 = (-1) then (some (x218004 == 0)) else (some false)))
end
def stolonref15_Right.f (k : Nat) (a0_0 : Int) (a0_1 : Int) (a0_2 : Int) (a0_3 : Int) (a0_4 : Int) (l0_5 : List (S74)) : Option (Bool) := (stolonref01_Asked.f a0_1).bind fun t218 => (if t218 = true then (stolonref15_Right.j0 k (decide ((l0_5.length : Int) > 128)) a0_0 a0_1 a0_2 a0_3 a0_4 l0_5) else (stolonref15_Right.j0 k true a0_0 a0_1 a0_2 a0_3 a0_4 l0_5))
set_option maxHeartbeats 8000000 in
set_option maxRecDepth 100000 in
theorem stolonref15_Right.calls (k : Nat) (a0_0 : Int) (a0_1 : Int) (a0_2 : Int) (a0_3 : Int) (a0_4 : Int) (A0_5 : Option Addr) (c0_5 : Nat) (l0_5 : List (S74)) (r : Bool) (w : World) (hr0_5 : Kd.C k74 w A0_5 l0_5.length l0_5) (hc0_5 : l0_5.length ≤ c0_5) (h : stolonref15_Right.f k a0_0 a0_1 a0_2 a0_3 a0_4 l0_5 = some r) :
  Calls Try.prog 21 #[.agg #[.int .u32 a0_0, .int .u32 a0_1, .int .u32 a0_2, .int .i64 a0_3, .int .u32 a0_4, .slice A0_5 l0_5.length c0_5]] w fun e w' => e = .returned (.bool r) ∧ Below w.heap.size w w' := by
 have hu29 := Try.underlying29
 have HR0_5 := m_ hr0_5
 have HC0_5 := m_ hc0_5
 clear hr0_5 hc0_5
 have HB := m_ (Below.refl w.heap.size w)
 have H : ((stolonref01_Asked.f a0_1).bind fun t218 => (if t218 = true then (stolonref15_Right.j0 k (decide ((l0_5.length : Int) > 128)) a0_0 a0_1 a0_2 a0_3 a0_4 l0_5) else (stolonref15_Right.j0 k true a0_0 a0_1 a0_2 a0_3 a0_4 l0_5))) = some r := h
 clear h
 replace H := Option.bind_eq_some_iff.mp H
 obtain ⟨t218, A20, H⟩ := H
 replace H : (if t218 = true then (stolonref15_Right.j0 k (decide ((l0_5.length : Int) > 128)) a0_0 a0_1 a0_2 a0_3 a0_4 l0_5) else (stolonref15_Right.j0 k true a0_0 a0_1 a0_2 a0_3 a0_4 l0_5)) = some r := H
 have A2 := m_ A20
 clear A20
 have HC3 := m_ H
 clear H
 go_enter Try.func21, Try.ntmps21
 go_upto_region 2 with (first | ((with_reducible refine gate_dst (N := 1) rfl ?_); (try (refine gate_guard (by rfl) ?_; dsimp only)); refine bx_ 1 29 #[.int .u32 a0_0, .int .u32 a0_1, .int .u32 a0_2, .int .i64 a0_3, .int .u32 a0_4, .slice A0_5 l0_5.length c0_5] ?_; intro gb217 hg w4 hbox hb; have BK217 := m_ (hbox); have GW217 := m_ ((gw_ : w.heap.size ≤ gb217)); have GE217 := m_ ((gw_ : w.heap.size ≤ gb217)); replace HB := m_ (below_step bz_ hb); clear hb hbox hg; have hcz5 := cz6_ BK217.out) | ((with_reducible refine gate_callee (f := 32) rfl ?_); refine gL_ (some 8) Try.func32 #[.int .u32 a0_1] ?_; (with_reducible refine (stolonref01_Asked.calls a0_1 t218 _ A2.out).mono ?_); rintro e w' ⟨rfl, ⟨nd, rfl⟩⟩; refine ⟨_, rfl, ?_⟩))
 (try simp only [Act.put, List.setIfInBounds_toArray, List.set_cons_zero, List.set_cons_succ])
 go_cut [16] (fun v16 wc => ∃ (kq : Nat) (x16_2 : Bool), v16 = .bool x16_2 ∧ Aside0 (stolonref15_Right.j0 kq x16_2 a0_0 a0_1 a0_2 a0_3 a0_4 l0_5 = some r) ∧ Aside0 (kq ≤ k) ∧ Aside0 (wc.heap[gb217]? = some (.cells #[.int .u32 a0_0, .int .u32 a0_1, .int .u32 a0_2, .int .i64 a0_3, .int .u32 a0_4, (.slice A0_5 l0_5.length c0_5)] 29 (0, 0))) ∧ Aside0 (Below w.heap.size w wc))
 case first =>
  have H := HC3.out
  clear HC3
  by_cases c6 : t218 = true
  ·subst c6
   have H1 : (stolonref15_Right.j0 k (decide ((l0_5.length : Int) > 128)) a0_0 a0_1 a0_2 a0_3 a0_4 l0_5) = some r := by rw [if_pos rfl] at H; exact H
   clear H
   have H := H1
   clear H1
   have H' := m_ H
   clear H
   have hcz7 := cz6_ BK217.out
   go_wp2
   go_meet
   case rel => exact ⟨_, (decide ((l0_5.length : Int) > 128)), (by first | rfl | (simp; done) | (simp [*]; done)), H', ⟨by first | omega | exact Nat.le_refl _⟩, ⟨kz_⟩, ⟨bz_⟩⟩
  ·replace c6 := Bool.eq_false_iff.mpr c6
   subst c6
   have H1 : (stolonref15_Right.j0 k true a0_0 a0_1 a0_2 a0_3 a0_4 l0_5) = some r := by rw [if_neg (show ¬ (false = true) by decide)] at H; exact H
   clear H
   have H := H1
   clear H1
   have H' := m_ H
   clear H
   go_wp2
   go_meet
   case rel => exact ⟨_, (true), (by first | rfl | (simp; done) | (simp [*]; done)), H', ⟨by first | omega | exact Nat.le_refl _⟩, ⟨kz_⟩, ⟨bz_⟩⟩
 case rest =>
  clear HC3
  try clear c2
  try clear p2
  try clear c3
  try clear c6
  (try clear hcz5)
  (try clear hcz7)
  obtain ⟨kq, x16_2, rfl, HA, HJ2, BK217, HB⟩ := hcut
  cases kq with
  | zero => exact absurd HA.out (by simp [stolonref15_Right.j0])
  | succ kj2 =>
   have H := HA.out
   clear HA
   simp only [stolonref15_Right.j0] at H
   by_cases c8 : x16_2 = true
   ·subst c8
    have H1 : (some false) = some r := by rw [if_pos rfl] at H; exact H
    clear H
    have H := H1
    clear H1
    obtain rfl := Option.some.inj H
    go_wp2
    go_ret
    exact ⟨ew_, bz_⟩
   ·replace c8 := Bool.eq_false_iff.mpr c8
    subst c8
    have H1 : (stolonref15_Right.l0 kj2 0 a0_0 a0_1 a0_2 a0_3 a0_4 l0_5) = some r := by rw [if_neg (show ¬ (false = true) by decide)] at H; exact H
    clear H
    have H := H1
    clear H1
    have H' := m_ H
    clear H
    go_wp2
    go_loopg [4] kj2 (fun kq v4 w' => ∃ (x4_2 : Int), v4 = .int .i64 x4_2 ∧ Aside0 (stolonref15_Right.l0 kq x4_2 a0_0 a0_1 a0_2 a0_3 a0_4 l0_5 = some r) ∧ Aside0 (kq ≤ kj2) ∧ Aside0 (w'.heap[gb217]? = some (.cells #[.int .u32 a0_0, .int .u32 a0_1, .int .u32 a0_2, .int .i64 a0_3, .int .u32 a0_4, (.slice A0_5 l0_5.length c0_5)] 29 (0, 0))) ∧ Aside0 (Below w.heap.size w w'))
    case atStart => exact ⟨(0), (by first | rfl | (simp; done) | (simp [*]; done)), H', ⟨Nat.le_refl _⟩, ⟨kz_⟩, ⟨bz_⟩⟩
    case round =>
     clear H'
     try clear c2
     try clear p2
     try clear c3
     try clear c6
     try clear c8
     (try clear hcz5)
     (try clear hcz7)
     try clear p2
     obtain ⟨x4_2, rfl, HA, HK2, BK217, HB⟩ := hrel
     cases gk with
     | zero => exact absurd HA.out (by simp [stolonref15_Right.l0])
     | succ k2 =>
      have H := HA.out
      clear HA
      simp only [stolonref15_Right.l0] at H
      by_cases c9 : x4_2 < (l0_5.length : Int)
      ·rw [if_pos c9] at H
       have c9b0 : decide (x4_2 < (l0_5.length : Int)) = true := decide_eq_true c9
       clear c9
       by_cases c10 : 0 ≤ x4_2
       ·rw [if_pos c10] at H
        have c10b0 : decide (0 ≤ x4_2) = true := decide_eq_true c10
        clear c10
        by_cases c11 : ((rd_T74 l0_5 x4_2).f0) < 0
        ·rw [if_pos c11] at H
         have c11b0 : decide (((rd_T74 l0_5 x4_2).f0) < 0) = true := decide_eq_true c11
         clear c11
         obtain rfl := Option.some.inj H
         have hcz12 := cz6_ BK217.out
         have p219 : 0 ≤ (x4_2 : Int) := od_
         have q219 : x4_2 < (l0_5.length : Int) := od_
         obtain ⟨ad219, e219, hx219_0, hx219_1⟩ := at_T74 HR0_5.out x4_2 p219 q219
         cases e219
         replace hx219_0 := kp_ HB.out hx219_0
         replace hx219_1 := kp_ HB.out hx219_1
         replace p219 := eq_true p219
         replace q219 := eq_true q219
         go_wp2
         go_ret
         exact ⟨ew_, bz_⟩
        ·rw [if_neg c11] at H
         have c11b0 : decide (((rd_T74 l0_5 x4_2).f0) < 0) = false := decide_eq_false c11
         clear c11
         by_cases c13 : ((rd_T74 l0_5 x4_2).f0) > 127
         ·rw [if_pos c13] at H
          have c13b0 : decide (127 < ((rd_T74 l0_5 x4_2).f0)) = true := decide_eq_true c13
          clear c13
          obtain rfl := Option.some.inj H
          have hcz14 := cz6_ BK217.out
          have p219 : 0 ≤ (x4_2 : Int) := od_
          have q219 : x4_2 < (l0_5.length : Int) := od_
          obtain ⟨ad219, e219, hx219_0, hx219_1⟩ := at_T74 HR0_5.out x4_2 p219 q219
          cases e219
          replace hx219_0 := kp_ HB.out hx219_0
          replace hx219_1 := kp_ HB.out hx219_1
          replace p219 := eq_true p219
          replace q219 := eq_true q219
          go_wp2
          go_ret
          exact ⟨ew_, bz_⟩
         ·rw [if_neg c13] at H
          have c13b0 : decide (127 < ((rd_T74 l0_5 x4_2).f0)) = false := decide_eq_false c13
          clear c13
          by_cases c15 : (((rd_T74 l0_5 x4_2).f1) != (decide (((rd_T74 l0_5 x4_2).f0) ≥ 64))) = true
          ·rw [if_pos c15] at H
           have c15b0 : (((rd_T74 l0_5 x4_2).f1) != (decide (((rd_T74 l0_5 x4_2).f0) ≥ 64))) = true := c15
           (try (have c15b1 : decide (((rd_T74 l0_5 x4_2).f1) = (decide (((rd_T74 l0_5 x4_2).f0) ≥ 64))) = false := by simpa using c15))
           (try (have c15b2 : (((rd_T74 l0_5 x4_2).f1) == (decide (((rd_T74 l0_5 x4_2).f0) ≥ 64))) = false := by simpa using c15))
           (try (have c15b3 : ¬ (((rd_T74 l0_5 x4_2).f1) = (decide (((rd_T74 l0_5 x4_2).f0) ≥ 64))) := by simpa using c15))
           clear c15
           obtain rfl := Option.some.inj H
           have hcz16 := cz6_ BK217.out
           have p219 : 0 ≤ (x4_2 : Int) := od_
           have q219 : x4_2 < (l0_5.length : Int) := od_
           obtain ⟨ad219, e219, hx219_0, hx219_1⟩ := at_T74 HR0_5.out x4_2 p219 q219
           cases e219
           replace hx219_0 := kp_ HB.out hx219_0
           replace hx219_1 := kp_ HB.out hx219_1
           replace p219 := eq_true p219
           replace q219 := eq_true q219
           have p220 : 0 ≤ (x4_2 : Int) := od_
           have q220 : x4_2 < (l0_5.length : Int) := od_
           obtain ⟨ad220, e220, hx220_0, hx220_1⟩ := at_T74 HR0_5.out x4_2 p220 q220
           obtain rfl : ad219 = ad220 := (by injection e220)
           replace hx220_0 := kp_ HB.out hx220_0
           replace hx220_1 := kp_ HB.out hx220_1
           replace p220 := eq_true p220
           replace q220 := eq_true q220
           go_wp2
           go_ret
           exact ⟨ew_, bz_⟩
          ·rw [if_neg c15] at H
           have c15b0 : (((rd_T74 l0_5 x4_2).f1) != (decide (((rd_T74 l0_5 x4_2).f0) ≥ 64))) = false := by simpa using c15
           (try (have c15b1 : decide (((rd_T74 l0_5 x4_2).f1) = (decide (((rd_T74 l0_5 x4_2).f0) ≥ 64))) = true := by simpa using c15))
           (try (have c15b2 : (((rd_T74 l0_5 x4_2).f1) == (decide (((rd_T74 l0_5 x4_2).f0) ≥ 64))) = true := by simpa using c15))
           clear c15
           by_cases c17 : x4_2 > 0
           ·rw [if_pos c17] at H
            have c17b0 : decide (0 < x4_2) = true := decide_eq_true c17
            clear c17
            obtain ⟨ji18, hji18⟩ : ∃ j_ : Int, (wrap64 (x4_2 - 1)) = j_ := ⟨_, rfl⟩
            replace H : (if 0 ≤ (ji18) then (if (ji18) < (l0_5.length : Int) then (if ((rd_T74 l0_5 (ji18)).f0) ≥ ((rd_T74 l0_5 x4_2).f0) then (some false) else (stolonref15_Right.l0 k2 (wrap64 (x4_2 + 1)) a0_0 a0_1 a0_2 a0_3 a0_4 l0_5)) else (none)) else (none)) = some r := by first | (rw [hji18] at H; exact H) | (simp only [hji18] at H ⊢; exact H)
            have hji18w : (IntKind.i64.wrap (x4_2 - 1)) = ji18 := (i64_w _).trans hji18
            by_cases c19 : 0 ≤ (ji18)
            ·rw [if_pos c19] at H
             have c19b0 : decide (0 ≤ (ji18)) = true := decide_eq_true c19
             clear c19
             by_cases c20 : (ji18) < (l0_5.length : Int)
             ·rw [if_pos c20] at H
              have c20b0 : decide ((ji18) < (l0_5.length : Int)) = true := decide_eq_true c20
              clear c20
              by_cases c21 : ((rd_T74 l0_5 (ji18)).f0) ≥ ((rd_T74 l0_5 x4_2).f0)
              ·rw [if_pos c21] at H
               have c21b0 : decide (((rd_T74 l0_5 x4_2).f0) ≤ ((rd_T74 l0_5 (ji18)).f0)) = true := decide_eq_true c21
               clear c21
               obtain rfl := Option.some.inj H
               have hcz22 := cz6_ BK217.out
               have p219 : 0 ≤ (x4_2 : Int) := od_
               have q219 : x4_2 < (l0_5.length : Int) := od_
               obtain ⟨ad219, e219, hx219_0, hx219_1⟩ := at_T74 HR0_5.out x4_2 p219 q219
               cases e219
               replace hx219_0 := kp_ HB.out hx219_0
               replace hx219_1 := kp_ HB.out hx219_1
               replace p219 := eq_true p219
               replace q219 := eq_true q219
               have p220 : 0 ≤ (x4_2 : Int) := od_
               have q220 : x4_2 < (l0_5.length : Int) := od_
               obtain ⟨ad220, e220, hx220_0, hx220_1⟩ := at_T74 HR0_5.out x4_2 p220 q220
               obtain rfl : ad219 = ad220 := (by injection e220)
               replace hx220_0 := kp_ HB.out hx220_0
               replace hx220_1 := kp_ HB.out hx220_1
               replace p220 := eq_true p220
               replace q220 := eq_true q220
               have p221 : 0 ≤ ((ji18) : Int) := od_
               have q221 : (ji18) < (l0_5.length : Int) := od_
               obtain ⟨ad221, e221, hx221_0, hx221_1⟩ := at_T74 HR0_5.out (ji18) p221 q221
               obtain rfl : ad219 = ad221 := (by injection e221)
               replace hx221_0 := kp_ HB.out hx221_0
               replace hx221_1 := kp_ HB.out hx221_1
               replace p221 := eq_true p221
               replace q221 := eq_true q221
               go_wp2
               go_ret
               exact ⟨(by first | rfl | (simp [errW_none, errW_some] <;> rfl) | (simp only [← hji18]; first | rfl | (simp [errW_none, errW_some] <;> rfl)) | (simp [*, errW_none, errW_some] <;> rfl)), bz_⟩
              ·rw [if_neg c21] at H
               have c21b0 : decide (((rd_T74 l0_5 x4_2).f0) ≤ ((rd_T74 l0_5 (ji18)).f0)) = false := decide_eq_false c21
               clear c21
               have H' := m_ H
               clear H
               have hcz23 := cz6_ BK217.out
               have p219 : 0 ≤ (x4_2 : Int) := od_
               have q219 : x4_2 < (l0_5.length : Int) := od_
               obtain ⟨ad219, e219, hx219_0, hx219_1⟩ := at_T74 HR0_5.out x4_2 p219 q219
               cases e219
               replace hx219_0 := kp_ HB.out hx219_0
               replace hx219_1 := kp_ HB.out hx219_1
               replace p219 := eq_true p219
               replace q219 := eq_true q219
               have p220 : 0 ≤ (x4_2 : Int) := od_
               have q220 : x4_2 < (l0_5.length : Int) := od_
               obtain ⟨ad220, e220, hx220_0, hx220_1⟩ := at_T74 HR0_5.out x4_2 p220 q220
               obtain rfl : ad219 = ad220 := (by injection e220)
               replace hx220_0 := kp_ HB.out hx220_0
               replace hx220_1 := kp_ HB.out hx220_1
               replace p220 := eq_true p220
               replace q220 := eq_true q220
               have p221 : 0 ≤ ((ji18) : Int) := od_
               have q221 : (ji18) < (l0_5.length : Int) := od_
               obtain ⟨ad221, e221, hx221_0, hx221_1⟩ := at_T74 HR0_5.out (ji18) p221 q221
               obtain rfl : ad219 = ad221 := (by injection e221)
               replace hx221_0 := kp_ HB.out hx221_0
               replace hx221_1 := kp_ HB.out hx221_1
               replace p221 := eq_true p221
               replace q221 := eq_true q221
               go_wp2
               go_roundg k2
               case measure => have := HJ2.out; have := HK2.out; omega
               case rel => exact ⟨(wrap64 (x4_2 + 1)), (by first | rfl | (simp; done) | (simp [*]; done)), H', ⟨by have := HJ2.out; have := HK2.out; omega⟩, ⟨kz_⟩, ⟨bz_⟩⟩
             ·rw [if_neg c20] at H
              exact absurd H (by simp)
            ·rw [if_neg c19] at H
             exact absurd H (by simp)
           ·rw [if_neg c17] at H
            have c17b0 : decide (0 < x4_2) = false := decide_eq_false c17
            clear c17
            have H' := m_ H
            clear H
            have hcz24 := cz6_ BK217.out
            have p219 : 0 ≤ (x4_2 : Int) := od_
            have q219 : x4_2 < (l0_5.length : Int) := od_
            obtain ⟨ad219, e219, hx219_0, hx219_1⟩ := at_T74 HR0_5.out x4_2 p219 q219
            cases e219
            replace hx219_0 := kp_ HB.out hx219_0
            replace hx219_1 := kp_ HB.out hx219_1
            replace p219 := eq_true p219
            replace q219 := eq_true q219
            have p220 : 0 ≤ (x4_2 : Int) := od_
            have q220 : x4_2 < (l0_5.length : Int) := od_
            obtain ⟨ad220, e220, hx220_0, hx220_1⟩ := at_T74 HR0_5.out x4_2 p220 q220
            obtain rfl : ad219 = ad220 := (by injection e220)
            replace hx220_0 := kp_ HB.out hx220_0
            replace hx220_1 := kp_ HB.out hx220_1
            replace p220 := eq_true p220
            replace q220 := eq_true q220
            go_wp2
            go_roundg k2
            case measure => have := HJ2.out; have := HK2.out; omega
            case rel => exact ⟨(wrap64 (x4_2 + 1)), (by first | rfl | (simp; done) | (simp [*]; done)), H', ⟨by have := HJ2.out; have := HK2.out; omega⟩, ⟨kz_⟩, ⟨bz_⟩⟩
       ·rw [if_neg c10] at H
        exact absurd H (by simp)
      ·rw [if_neg c9] at H
       have c9b0 : decide (x4_2 < (l0_5.length : Int)) = false := decide_eq_false c9
       clear c9
       by_cases c25 : a0_2 = 0
       ·rw [if_pos c25] at H
        have c25b0 : (a0_2 == 0) = true := beq_iff_eq.mpr c25
        have c25b1 : (a0_2 != 0) = false := bne_eq_false_iff_eq.mpr c25
        clear c25
        by_cases c26 : a0_3 ≥ 64
        ·rw [if_pos c26] at H
         have c26b0 : decide (64 ≤ a0_3) = true := decide_eq_true c26
         clear c26
         by_cases c27 : a0_3 ≤ 127
         ·rw [if_pos c27] at H
          have c27b0 : decide (a0_3 ≤ 127) = true := decide_eq_true c27
          clear c27
          obtain rfl := Option.some.inj H
          have hcz28 := cz6_ BK217.out
          go_wp2
          go_ret
          exact ⟨ew_, bz_⟩
         ·rw [if_neg c27] at H
          have c27b0 : decide (a0_3 ≤ 127) = false := decide_eq_false c27
          clear c27
          obtain rfl := Option.some.inj H
          have hcz29 := cz6_ BK217.out
          go_wp2
          go_ret
          exact ⟨ew_, bz_⟩
        ·rw [if_neg c26] at H
         have c26b0 : decide (64 ≤ a0_3) = false := decide_eq_false c26
         clear c26
         obtain rfl := Option.some.inj H
         have hcz30 := cz6_ BK217.out
         go_wp2
         go_ret
         exact ⟨ew_, bz_⟩
       ·rw [if_neg c25] at H
        have c25b0 : (a0_2 == 0) = false := beq_eq_false_iff_ne.mpr c25
        have c25b1 : (a0_2 != 0) = true := bne_iff_ne.mpr c25
        by_cases c31 : a0_3 = (-1)
        ·rw [if_pos c31] at H
         have c31b0 : (a0_3 == (-1)) = true := beq_iff_eq.mpr c31
         have c31b1 : (a0_3 != (-1)) = false := bne_eq_false_iff_eq.mpr c31
         clear c31
         obtain rfl := Option.some.inj H
         have hcz32 := cz6_ BK217.out
         go_wp2
         go_ret
         exact ⟨ew_, bz_⟩
        ·rw [if_neg c31] at H
         have c31b0 : (a0_3 == (-1)) = false := beq_eq_false_iff_ne.mpr c31
         have c31b1 : (a0_3 != (-1)) = true := bne_iff_ne.mpr c31
         obtain rfl := Option.some.inj H
         have hcz33 := cz6_ BK217.out
         go_wp2
         go_ret
         exact ⟨ew_, bz_⟩
end Go.Proofs.Ytfomnmdjbdohgaa.P

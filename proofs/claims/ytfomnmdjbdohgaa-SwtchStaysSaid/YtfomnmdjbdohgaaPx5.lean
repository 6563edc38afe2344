/- For each Go function a Lean function, and the proof that a call comes to what it tells: made by program out of the translation (the kit's print, with texts by hand put in). No condition. -/
import Derived.Test.YtfomnmdjbdohgaaSq
import Derived.Test.YtfomnmdjbdohgaaPx0
namespace Go.Proofs.Ytfomnmdjbdohgaa.P
open Go.RowKit Go.Proofs.Ytfomnmdjbdohgaa.HRows Go.Proofs.YtfomnmdjbdohgaaW.PrintWords Go.Proofs.YtfomnmdjbdohgaaW.PrintLast Go.Proofs.YtfomnmdjbdohgaaW.PrintMore
attribute [local go_sem] max2_int min2_int max_two min_two max_three min_three max_four min_four
set_option linter.unusedVariables false
set_option linter.unusedSimpArgs false
def flow_of.f (a0_0 : Int) (a0_1 : Int) (a0_2 : Int) (a0_3 : Int) (a0_4 : Int) (l0_5 : List (S74)) : Option (Int × Int × Int) := some (a0_0, a0_1, a0_2)
set_option maxHeartbeats 8000000 in
set_option maxRecDepth 100000 in
theorem flow_of.calls (a0_0 : Int) (a0_1 : Int) (a0_2 : Int) (a0_3 : Int) (a0_4 : Int) (A0_5 : Option Addr) (c0_5 : Nat) (l0_5 : List (S74)) (r1 : Int) (r2 : Int) (r3 : Int) (w : World) (hr0_5 : Kd.C k74 w A0_5 l0_5.length l0_5) (hc0_5 : l0_5.length ≤ c0_5) (h : flow_of.f a0_0 a0_1 a0_2 a0_3 a0_4 l0_5 = some (r1, r2, r3)) :
  Calls Try.prog 46 #[.agg #[.int .u32 a0_0, .int .u32 a0_1, .int .u32 a0_2, .int .i64 a0_3, .int .u32 a0_4, .slice A0_5 l0_5.length c0_5]] w fun e w' => e = .returned (.agg #[.int .u32 r1, .int .u32 r2, .int .u32 r3]) ∧ Below w.heap.size w w' := by
 have hu29 := Try.underlying29
 have hu85 := Try.underlying85
 have HR0_5 := m_ hr0_5
 have HC0_5 := m_ hc0_5
 clear hr0_5 hc0_5
 have HB := m_ (Below.refl w.heap.size w)
 have H : (some (a0_0, a0_1, a0_2)) = some (r1, r2, r3) := h
 clear h
 simp only [Option.some.injEq, Prod.mk.injEq] at H
 obtain ⟨rfl, rfl, rfl⟩ := H
 go_enter Try.func46, Try.ntmps46
 go_wp2_with (first | ((with_reducible refine gate_dst (N := 1) rfl ?_); refine bx_ 1 29 #[.int .u32 a0_0, .int .u32 a0_1, .int .u32 a0_2, .int .i64 a0_3, .int .u32 a0_4, .slice A0_5 l0_5.length c0_5] ?_; intro gb111 hg w2 hbox hb; have BK111 := m_ (hbox); have GW111 := m_ ((gw_ : w.heap.size ≤ gb111)); have GE111 := m_ ((gw_ : w.heap.size ≤ gb111)); replace HB := m_ (below_step bz_ hb); clear hb hbox hg) | ((with_reducible refine gate_dst (N := 2) rfl ?_); refine bx_ 2 85 #[.int .u32 0, .int .u32 0, .int .u32 0] ?_; intro gb112 hg w3 hbox hb; have BK112 := m_ (hbox); have GW112 := m_ ((gw_ : w.heap.size ≤ gb112)); have GE112 := m_ ((gw_ : w.heap.size ≤ gb112)); have NB111_112 := m_ ((gl_ : gb111 ≠ gb112)); have NB112_111 := m_ ((gr_ : gb112 ≠ gb111)); replace BK111 := m_ (kl_ gb111 hb); replace HB := m_ (below_step bz_ hb); clear hb hbox hg; have hnb4 := NB111_112.out; have hnc4 := NB112_111.out; have hcz5 := cz6_ BK111.out; have hcz6 := cz3_ BK112.out))
 refine bodyPost_ret (results_cell_row rfl _ _ gb112 85 #[.int .u32 a0_0, .int .u32 a0_1, .int .u32 a0_2] (0, 0) _ rfl kb_ Try.underlying85 rfl (by kernel_rfl)) rfl ?_
 exact ⟨ew_, bz_⟩
def cmp_Or_int.l0 : Nat → Int → List Int → Int → Int → Option (Int)
 | 0, _, _, _, _ => none
 | k + 1, x3, x6, x7, x8 => if x8 < x7 then (if 0 ≤ x8 then (if x8 < (x6.length : Int) then (if (rd x6 x8) = x3 then (cmp_Or_int.l0 k x3 x6 x7 (wrap64 (x8 + 1))) else (some (rd x6 x8))) else (none)) else (none)) else (some x3)
def cmp_Or_int.f (k : Nat) (l0 : List Int) : Option (Int) := cmp_Or_int.l0 k 0 l0 (l0.length : Int) 0
theorem cmp_Or_int.mono_l : ∀ k, (∀ y0 y1 y2 y3, LeO (cmp_Or_int.l0 k y0 y1 y2 y3) (cmp_Or_int.l0 (k + 1) y0 y1 y2 y3))
 | 0 => fun _ _ _ _ r h => by simp [cmp_Or_int.l0] at h
 | k + 1 => by
  have ih0 := cmp_Or_int.mono_l k
  ·intro y0 y1 y2 y3
   unfold cmp_Or_int.l0
   repeat' first
   | (with_reducible exact ih0 _ _ _ _)
   | (with_reducible exact LeO.refl _)
   | (with_reducible exact LeO.none _)
   | (with_reducible refine LeO.ite ?_ ?_)
   | (with_reducible refine LeO.bind ?_ (fun _ => ?_))
   | exact ih0 _ _ _ _
   | exact LeO.none _
   | refine LeO.ite ?_ ?_
   | refine LeO.bind ?_ (fun _ => ?_)
theorem cmp_Or_int.mono : ∀ a0 k, LeO (cmp_Or_int.f k a0) (cmp_Or_int.f (k + 1) a0) := by
 intro a0 k
 have ih0 := cmp_Or_int.mono_l k
 unfold cmp_Or_int.f
 repeat' first
   | (with_reducible exact ih0 _ _ _ _)
   | (with_reducible exact LeO.refl _)
   | (with_reducible exact LeO.none _)
   | (with_reducible refine LeO.ite ?_ ?_)
   | (with_reducible refine LeO.bind ?_ (fun _ => ?_))
   | exact ih0 _ _ _ _
   | exact LeO.none _
   | refine LeO.ite ?_ ?_
   | refine LeO.bind ?_ (fun _ => ?_)
set_option maxHeartbeats 8000000 in
set_option maxRecDepth 100000 in
theorem cmp_Or_int.calls (k : Nat) (A0 : Option Addr) (c0 : Nat) (l0 : List Int) (r : Int) (w : World) (hr0 : Kd.C (Kd.int .i64) w A0 l0.length l0) (hc0 : l0.length ≤ c0) (h : cmp_Or_int.f k l0 = some r) :
  Calls Try.prog 55 #[.slice A0 l0.length c0] w fun e w' => e = .returned (.int .i64 r) ∧ Drawn0 w w' := by
 have HR0 := m_ hr0
 have HC0 := m_ hc0
 clear hr0 hc0
 have H : (cmp_Or_int.l0 k 0 l0 (l0.length : Int) 0) = some r := h
 clear h
 have H' := m_ H
 clear H
 go_enter Try.func55, Try.ntmps55
 go_wp2
 go_loopg [8] k (fun kq v8 w' => ∃ (x8_1 : Int), v8 = .int .i64 x8_1 ∧ Aside0 (cmp_Or_int.l0 kq 0 l0 (l0.length : Int) x8_1 = some r) ∧ Aside0 (kq ≤ k) ∧ Drawn0 w w')
 case atStart => exact ⟨(0), (by first | rfl | (simp; done) | (simp [*]; done)), H', ⟨Nat.le_refl _⟩, by repeat (first | exact Drawn0.refl _ | apply Drawn0.step)⟩
 case round =>
  clear H'
  obtain ⟨x8_1, rfl, HA, HK1, ⟨m1, rfl⟩⟩ := hrel
  cases gk with
  | zero => exact absurd HA.out (by simp [cmp_Or_int.l0])
  | succ k1 =>
   have H := HA.out
   clear HA
   simp only [cmp_Or_int.l0] at H
   by_cases c2 : x8_1 < (l0.length : Int)
   ·rw [if_pos c2] at H
    have c2b0 : decide (x8_1 < (l0.length : Int)) = true := decide_eq_true c2
    clear c2
    by_cases c3 : 0 ≤ x8_1
    ·rw [if_pos c3] at H
     have c3b0 : decide (0 ≤ x8_1) = true := decide_eq_true c3
     clear c3
     by_cases c4 : x8_1 < (l0.length : Int)
     ·rw [if_pos c4] at H
      have c4b0 : decide (x8_1 < (l0.length : Int)) = true := decide_eq_true c4
      clear c4
      by_cases c5 : (rd l0 x8_1) = 0
      ·rw [if_pos c5] at H
       have c5b0 : ((rd l0 x8_1) == 0) = true := beq_iff_eq.mpr c5
       have c5b1 : ((rd l0 x8_1) != 0) = false := bne_eq_false_iff_eq.mpr c5
       clear c5
       have H' := m_ H
       clear H
       have p113 : 0 ≤ (x8_1 : Int) := od_
       have q113 : x8_1 < (l0.length : Int) := od_
       obtain ⟨ad113, e113, hx113_0⟩ := Kd.at_int HR0.out x8_1 p113 q113
       cases e113
       replace p113 := eq_true p113
       replace q113 := eq_true q113
       go_wp2
       go_roundg k1
       case measure => have := HK1.out; omega
       case rel => exact ⟨(wrap64 (x8_1 + 1)), (by first | rfl | (simp; done) | (simp [*]; done)), H', ⟨by have := HK1.out; omega⟩, by repeat (first | exact Drawn0.refl _ | apply Drawn0.step)⟩
      ·rw [if_neg c5] at H
       have c5b0 : ((rd l0 x8_1) == 0) = false := beq_eq_false_iff_ne.mpr c5
       have c5b1 : ((rd l0 x8_1) != 0) = true := bne_iff_ne.mpr c5
       obtain rfl := Option.some.inj H
       have p113 : 0 ≤ (x8_1 : Int) := od_
       have q113 : x8_1 < (l0.length : Int) := od_
       obtain ⟨ad113, e113, hx113_0⟩ := Kd.at_int HR0.out x8_1 p113 q113
       cases e113
       replace p113 := eq_true p113
       replace q113 := eq_true q113
       go_wp2
       go_ret
       exact ⟨(by first | rfl | (simp; done) | (simp [*]; done)), (by repeat (first | exact Drawn0.refl _ | apply Drawn0.step))⟩
     ·rw [if_neg c4] at H
      exact absurd H (by simp)
    ·rw [if_neg c3] at H
     exact absurd H (by simp)
   ·rw [if_neg c2] at H
    have c2b0 : decide (x8_1 < (l0.length : Int)) = false := decide_eq_false c2
    clear c2
    obtain rfl := Option.some.inj H
    go_wp2
    go_ret
    exact ⟨(by first | rfl | (simp; done) | (simp [*]; done)), (by repeat (first | exact Drawn0.refl _ | apply Drawn0.step))⟩
def api_Addr_66.f (a0 : Int) : Option (Bool) := some (a0 != a0)
set_option maxHeartbeats 8000000 in
set_option maxRecDepth 100000 in
theorem api_Addr_66.calls (a0 : Int) (r : Bool) (w : World) (h : api_Addr_66.f a0 = some r) :
  Calls Try.prog 66 #[.int .u32 a0] w fun e w' => e = .returned (.bool r) ∧ Drawn0 w w' := by
 have H : (some (a0 != a0)) = some r := h
 clear h
 obtain rfl := Option.some.inj H
 go_enter Try.func66, Try.ntmps66
 go_wp2
 go_ret
 exact ⟨(by first | rfl | (simp; done) | (simp [*]; done)), (by repeat (first | exact Drawn0.refl _ | apply Drawn0.step))⟩
def api_Addr_56.f (a0 : Int) (a1 : Int) : Option (Int) := (api_Addr_66.f a0).bind fun t114 => ((api_Addr_66.f a1).bind fun t115 => (if t114 = true then (if t115 = true then (some 0) else (some (-1))) else (if t115 = true then (some 1) else (if a0 < a1 then (some (-1)) else (if a0 > a1 then (some 1) else (some 0))))))
set_option maxHeartbeats 8000000 in
set_option maxRecDepth 100000 in
theorem api_Addr_56.calls (a0 : Int) (a1 : Int) (r : Int) (w : World) (h : api_Addr_56.f a0 a1 = some r) :
  Calls Try.prog 56 #[.int .u32 a0, .int .u32 a1] w fun e w' => e = .returned (.int .i64 r) ∧ Drawn0 w w' := by
 have H : ((api_Addr_66.f a0).bind fun t114 => ((api_Addr_66.f a1).bind fun t115 => (if t114 = true then (if t115 = true then (some 0) else (some (-1))) else (if t115 = true then (some 1) else (if a0 < a1 then (some (-1)) else (if a0 > a1 then (some 1) else (some 0))))))) = some r := h
 clear h
 replace H := Option.bind_eq_some_iff.mp H
 obtain ⟨t114, A30, H⟩ := H
 replace H : ((api_Addr_66.f a1).bind fun t115 => (if t114 = true then (if t115 = true then (some 0) else (some (-1))) else (if t115 = true then (some 1) else (if a0 < a1 then (some (-1)) else (if a0 > a1 then (some 1) else (some 0)))))) = some r := H
 have A3 := m_ A30
 clear A30
 replace H := Option.bind_eq_some_iff.mp H
 obtain ⟨t115, A40, H⟩ := H
 replace H : (if t114 = true then (if t115 = true then (some 0) else (some (-1))) else (if t115 = true then (some 1) else (if a0 < a1 then (some (-1)) else (if a0 > a1 then (some 1) else (some 0))))) = some r := H
 have A4 := m_ A40
 clear A40
 by_cases c5 : t114 = true
 ·subst c5
  have H1 : (if t115 = true then (some 0) else (some (-1))) = some r := by rw [if_pos rfl] at H; exact H
  clear H
  have H := H1
  clear H1
  by_cases c6 : t115 = true
  ·subst c6
   have H1 : (some 0) = some r := by rw [if_pos rfl] at H; exact H
   clear H
   have H := H1
   clear H1
   obtain rfl := Option.some.inj H
   go_enter Try.func56, Try.ntmps56
   go_wp2_with (first | ((with_reducible refine gate_callee (f := 66) rfl ?_); refine gL_ (some 8) Try.func66 #[.int .u32 a0] ?_; (with_reducible refine (api_Addr_66.calls a0 true _ A3.out).mono ?_); rintro e w' ⟨rfl, ⟨nd, rfl⟩⟩; refine ⟨_, rfl, ?_⟩) | ((with_reducible refine gate_callee (f := 66) rfl ?_); refine gL_ (some 10) Try.func66 #[.int .u32 a1] ?_; (with_reducible refine (api_Addr_66.calls a1 true _ A4.out).mono ?_); rintro e w' ⟨rfl, ⟨nd, rfl⟩⟩; refine ⟨_, rfl, ?_⟩))
   go_ret
   exact ⟨(by first | rfl | (simp; done) | (simp [*]; done)), (by repeat (first | exact Drawn0.refl _ | apply Drawn0.step))⟩
  ·replace c6 := Bool.eq_false_iff.mpr c6
   subst c6
   have H1 : (some (-1)) = some r := by rw [if_neg (show ¬ (false = true) by decide)] at H; exact H
   clear H
   have H := H1
   clear H1
   obtain rfl := Option.some.inj H
   go_enter Try.func56, Try.ntmps56
   go_wp2_with (first | ((with_reducible refine gate_callee (f := 66) rfl ?_); refine gL_ (some 8) Try.func66 #[.int .u32 a0] ?_; (with_reducible refine (api_Addr_66.calls a0 true _ A3.out).mono ?_); rintro e w' ⟨rfl, ⟨nd, rfl⟩⟩; refine ⟨_, rfl, ?_⟩) | ((with_reducible refine gate_callee (f := 66) rfl ?_); refine gL_ (some 10) Try.func66 #[.int .u32 a1] ?_; (with_reducible refine (api_Addr_66.calls a1 false _ A4.out).mono ?_); rintro e w' ⟨rfl, ⟨nd, rfl⟩⟩; refine ⟨_, rfl, ?_⟩))
   go_ret
   exact ⟨(by first | rfl | (simp; done) | (simp [*]; done)), (by repeat (first | exact Drawn0.refl _ | apply Drawn0.step))⟩
 ·replace c5 := Bool.eq_false_iff.mpr c5
  subst c5
  have H1 : (if t115 = true then (some 1) else (if a0 < a1 then (some (-1)) else (if a0 > a1 then (some 1) else (some 0)))) = some r := by rw [if_neg (show ¬ (false = true) by decide)] at H; exact H
  clear H
  have H := H1
  clear H1
  by_cases c7 : t115 = true
  ·subst c7
   have H1 : (some 1) = some r := by rw [if_pos rfl] at H; exact H
   clear H
   have H := H1
   clear H1
   obtain rfl := Option.some.inj H
   go_enter Try.func56, Try.ntmps56
   go_wp2_with (first | ((with_reducible refine gate_callee (f := 66) rfl ?_); refine gL_ (some 8) Try.func66 #[.int .u32 a0] ?_; (with_reducible refine (api_Addr_66.calls a0 false _ A3.out).mono ?_); rintro e w' ⟨rfl, ⟨nd, rfl⟩⟩; refine ⟨_, rfl, ?_⟩) | ((with_reducible refine gate_callee (f := 66) rfl ?_); refine gL_ (some 10) Try.func66 #[.int .u32 a1] ?_; (with_reducible refine (api_Addr_66.calls a1 true _ A4.out).mono ?_); rintro e w' ⟨rfl, ⟨nd, rfl⟩⟩; refine ⟨_, rfl, ?_⟩))
   go_ret
   exact ⟨(by first | rfl | (simp; done) | (simp [*]; done)), (by repeat (first | exact Drawn0.refl _ | apply Drawn0.step))⟩
  ·replace c7 := Bool.eq_false_iff.mpr c7
   subst c7
   have H1 : (if a0 < a1 then (some (-1)) else (if a0 > a1 then (some 1) else (some 0))) = some r := by rw [if_neg (show ¬ (false = true) by decide)] at H; exact H
   clear H
   have H := H1
   clear H1
   by_cases c8 : a0 < a1
   ·rw [if_pos c8] at H
    have c8b0 : decide (a0 < a1) = true := decide_eq_true c8
    clear c8
    obtain rfl := Option.some.inj H
    go_enter Try.func56, Try.ntmps56
    go_wp2_with (first | ((with_reducible refine gate_callee (f := 66) rfl ?_); refine gL_ (some 8) Try.func66 #[.int .u32 a0] ?_; (with_reducible refine (api_Addr_66.calls a0 false _ A3.out).mono ?_); rintro e w' ⟨rfl, ⟨nd, rfl⟩⟩; refine ⟨_, rfl, ?_⟩) | ((with_reducible refine gate_callee (f := 66) rfl ?_); refine gL_ (some 10) Try.func66 #[.int .u32 a1] ?_; (with_reducible refine (api_Addr_66.calls a1 false _ A4.out).mono ?_); rintro e w' ⟨rfl, ⟨nd, rfl⟩⟩; refine ⟨_, rfl, ?_⟩))
    go_ret
    exact ⟨(by first | rfl | (simp; done) | (simp [*]; done)), (by repeat (first | exact Drawn0.refl _ | apply Drawn0.step))⟩
   ·rw [if_neg c8] at H
    have c8b0 : decide (a0 < a1) = false := decide_eq_false c8
    clear c8
    by_cases c9 : a0 > a1
    ·rw [if_pos c9] at H
     have c9b0 : decide (a1 < a0) = true := decide_eq_true c9
     clear c9
     obtain rfl := Option.some.inj H
     go_enter Try.func56, Try.ntmps56
     go_wp2_with (first | ((with_reducible refine gate_callee (f := 66) rfl ?_); refine gL_ (some 8) Try.func66 #[.int .u32 a0] ?_; (with_reducible refine (api_Addr_66.calls a0 false _ A3.out).mono ?_); rintro e w' ⟨rfl, ⟨nd, rfl⟩⟩; refine ⟨_, rfl, ?_⟩) | ((with_reducible refine gate_callee (f := 66) rfl ?_); refine gL_ (some 10) Try.func66 #[.int .u32 a1] ?_; (with_reducible refine (api_Addr_66.calls a1 false _ A4.out).mono ?_); rintro e w' ⟨rfl, ⟨nd, rfl⟩⟩; refine ⟨_, rfl, ?_⟩))
     go_ret
     exact ⟨(by first | rfl | (simp; done) | (simp [*]; done)), (by repeat (first | exact Drawn0.refl _ | apply Drawn0.step))⟩
    ·rw [if_neg c9] at H
     have c9b0 : decide (a1 < a0) = false := decide_eq_false c9
     clear c9
     obtain rfl := Option.some.inj H
     go_enter Try.func56, Try.ntmps56
     go_wp2_with (first | ((with_reducible refine gate_callee (f := 66) rfl ?_); refine gL_ (some 8) Try.func66 #[.int .u32 a0] ?_; (with_reducible refine (api_Addr_66.calls a0 false _ A3.out).mono ?_); rintro e w' ⟨rfl, ⟨nd, rfl⟩⟩; refine ⟨_, rfl, ?_⟩) | ((with_reducible refine gate_callee (f := 66) rfl ?_); refine gL_ (some 10) Try.func66 #[.int .u32 a1] ?_; (with_reducible refine (api_Addr_66.calls a1 false _ A4.out).mono ?_); rintro e w' ⟨rfl, ⟨nd, rfl⟩⟩; refine ⟨_, rfl, ?_⟩))
     go_ret
     exact ⟨(by first | rfl | (simp; done) | (simp [*]; done)), (by repeat (first | exact Drawn0.refl _ | apply Drawn0.step))⟩
def cmp_isNaN_uint32.f (a0 : Int) : Option (Bool) := some (a0 != a0)
set_option maxHeartbeats 8000000 in
set_option maxRecDepth 100000 in
theorem cmp_isNaN_uint32.calls (a0 : Int) (r : Bool) (w : World) (h : cmp_isNaN_uint32.f a0 = some r) :
  Calls Try.prog 67 #[.int .u32 a0] w fun e w' => e = .returned (.bool r) ∧ Drawn0 w w' := by
 have H : (some (a0 != a0)) = some r := h
 clear h
 obtain rfl := Option.some.inj H
 go_enter Try.func67, Try.ntmps67
 go_wp2
 go_ret
 exact ⟨(by first | rfl | (simp; done) | (simp [*]; done)), (by repeat (first | exact Drawn0.refl _ | apply Drawn0.step))⟩
def cmp_Compare_uint32.f (a0 : Int) (a1 : Int) : Option (Int) := (cmp_isNaN_uint32.f a0).bind fun t116 => ((cmp_isNaN_uint32.f a1).bind fun t117 => (if t116 = true then (if t117 = true then (some 0) else (some (-1))) else (if t117 = true then (some 1) else (if a0 < a1 then (some (-1)) else (if a0 > a1 then (some 1) else (some 0))))))
set_option maxHeartbeats 8000000 in
set_option maxRecDepth 100000 in
theorem cmp_Compare_uint32.calls (a0 : Int) (a1 : Int) (r : Int) (w : World) (h : cmp_Compare_uint32.f a0 a1 = some r) :
  Calls Try.prog 57 #[.int .u32 a0, .int .u32 a1] w fun e w' => e = .returned (.int .i64 r) ∧ Drawn0 w w' := by
 have H : ((cmp_isNaN_uint32.f a0).bind fun t116 => ((cmp_isNaN_uint32.f a1).bind fun t117 => (if t116 = true then (if t117 = true then (some 0) else (some (-1))) else (if t117 = true then (some 1) else (if a0 < a1 then (some (-1)) else (if a0 > a1 then (some 1) else (some 0))))))) = some r := h
 clear h
 replace H := Option.bind_eq_some_iff.mp H
 obtain ⟨t116, A30, H⟩ := H
 replace H : ((cmp_isNaN_uint32.f a1).bind fun t117 => (if t116 = true then (if t117 = true then (some 0) else (some (-1))) else (if t117 = true then (some 1) else (if a0 < a1 then (some (-1)) else (if a0 > a1 then (some 1) else (some 0)))))) = some r := H
 have A3 := m_ A30
 clear A30
 replace H := Option.bind_eq_some_iff.mp H
 obtain ⟨t117, A40, H⟩ := H
 replace H : (if t116 = true then (if t117 = true then (some 0) else (some (-1))) else (if t117 = true then (some 1) else (if a0 < a1 then (some (-1)) else (if a0 > a1 then (some 1) else (some 0))))) = some r := H
 have A4 := m_ A40
 clear A40
 by_cases c5 : t116 = true
 ·subst c5
  have H1 : (if t117 = true then (some 0) else (some (-1))) = some r := by rw [if_pos rfl] at H; exact H
  clear H
  have H := H1
  clear H1
  by_cases c6 : t117 = true
  ·subst c6
   have H1 : (some 0) = some r := by rw [if_pos rfl] at H; exact H
   clear H
   have H := H1
   clear H1
   obtain rfl := Option.some.inj H
   go_enter Try.func57, Try.ntmps57
   go_wp2_with (first | ((with_reducible refine gate_callee (f := 67) rfl ?_); refine gL_ (some 8) Try.func67 #[.int .u32 a0] ?_; (with_reducible refine (cmp_isNaN_uint32.calls a0 true _ A3.out).mono ?_); rintro e w' ⟨rfl, ⟨nd, rfl⟩⟩; refine ⟨_, rfl, ?_⟩) | ((with_reducible refine gate_callee (f := 67) rfl ?_); refine gL_ (some 10) Try.func67 #[.int .u32 a1] ?_; (with_reducible refine (cmp_isNaN_uint32.calls a1 true _ A4.out).mono ?_); rintro e w' ⟨rfl, ⟨nd, rfl⟩⟩; refine ⟨_, rfl, ?_⟩))
   go_ret
   exact ⟨(by first | rfl | (simp; done) | (simp [*]; done)), (by repeat (first | exact Drawn0.refl _ | apply Drawn0.step))⟩
  ·replace c6 := Bool.eq_false_iff.mpr c6
   subst c6
   have H1 : (some (-1)) = some r := by rw [if_neg (show ¬ (false = true) by decide)] at H; exact H
   clear H
   have H := H1
   clear H1
   obtain rfl := Option.some.inj H
   go_enter Try.func57, Try.ntmps57
   go_wp2_with (first | ((with_reducible refine gate_callee (f := 67) rfl ?_); refine gL_ (some 8) Try.func67 #[.int .u32 a0] ?_; (with_reducible refine (cmp_isNaN_uint32.calls a0 true _ A3.out).mono ?_); rintro e w' ⟨rfl, ⟨nd, rfl⟩⟩; refine ⟨_, rfl, ?_⟩) | ((with_reducible refine gate_callee (f := 67) rfl ?_); refine gL_ (some 10) Try.func67 #[.int .u32 a1] ?_; (with_reducible refine (cmp_isNaN_uint32.calls a1 false _ A4.out).mono ?_); rintro e w' ⟨rfl, ⟨nd, rfl⟩⟩; refine ⟨_, rfl, ?_⟩))
   go_ret
   exact ⟨(by first | rfl | (simp; done) | (simp [*]; done)), (by repeat (first | exact Drawn0.refl _ | apply Drawn0.step))⟩
 ·replace c5 := Bool.eq_false_iff.mpr c5
  subst c5
  have H1 : (if t117 = true then (some 1) else (if a0 < a1 then (some (-1)) else (if a0 > a1 then (some 1) else (some 0)))) = some r := by rw [if_neg (show ¬ (false = true) by decide)] at H; exact H
  clear H
  have H := H1
  clear H1
  by_cases c7 : t117 = true
  ·subst c7
   have H1 : (some 1) = some r := by rw [if_pos rfl] at H; exact H
   clear H
   have H := H1
   clear H1
   obtain rfl := Option.some.inj H
   go_enter Try.func57, Try.ntmps57
   go_wp2_with (first | ((with_reducible refine gate_callee (f := 67) rfl ?_); refine gL_ (some 8) Try.func67 #[.int .u32 a0] ?_; (with_reducible refine (cmp_isNaN_uint32.calls a0 false _ A3.out).mono ?_); rintro e w' ⟨rfl, ⟨nd, rfl⟩⟩; refine ⟨_, rfl, ?_⟩) | ((with_reducible refine gate_callee (f := 67) rfl ?_); refine gL_ (some 10) Try.func67 #[.int .u32 a1] ?_; (with_reducible refine (cmp_isNaN_uint32.calls a1 true _ A4.out).mono ?_); rintro e w' ⟨rfl, ⟨nd, rfl⟩⟩; refine ⟨_, rfl, ?_⟩))
   go_ret
   exact ⟨(by first | rfl | (simp; done) | (simp [*]; done)), (by repeat (first | exact Drawn0.refl _ | apply Drawn0.step))⟩
  ·replace c7 := Bool.eq_false_iff.mpr c7
   subst c7
   have H1 : (if a0 < a1 then (some (-1)) else (if a0 > a1 then (some 1) else (some 0))) = some r := by rw [if_neg (show ¬ (false = true) by decide)] at H; exact H
   clear H
   have H := H1
   clear H1
   by_cases c8 : a0 < a1
   ·rw [if_pos c8] at H
    have c8b0 : decide (a0 < a1) = true := decide_eq_true c8
    clear c8
    obtain rfl := Option.some.inj H
    go_enter Try.func57, Try.ntmps57
    go_wp2_with (first | ((with_reducible refine gate_callee (f := 67) rfl ?_); refine gL_ (some 8) Try.func67 #[.int .u32 a0] ?_; (with_reducible refine (cmp_isNaN_uint32.calls a0 false _ A3.out).mono ?_); rintro e w' ⟨rfl, ⟨nd, rfl⟩⟩; refine ⟨_, rfl, ?_⟩) | ((with_reducible refine gate_callee (f := 67) rfl ?_); refine gL_ (some 10) Try.func67 #[.int .u32 a1] ?_; (with_reducible refine (cmp_isNaN_uint32.calls a1 false _ A4.out).mono ?_); rintro e w' ⟨rfl, ⟨nd, rfl⟩⟩; refine ⟨_, rfl, ?_⟩))
    go_ret
    exact ⟨(by first | rfl | (simp; done) | (simp [*]; done)), (by repeat (first | exact Drawn0.refl _ | apply Drawn0.step))⟩
   ·rw [if_neg c8] at H
    have c8b0 : decide (a0 < a1) = false := decide_eq_false c8
    clear c8
    by_cases c9 : a0 > a1
    ·rw [if_pos c9] at H
     have c9b0 : decide (a1 < a0) = true := decide_eq_true c9
     clear c9
     obtain rfl := Option.some.inj H
     go_enter Try.func57, Try.ntmps57
     go_wp2_with (first | ((with_reducible refine gate_callee (f := 67) rfl ?_); refine gL_ (some 8) Try.func67 #[.int .u32 a0] ?_; (with_reducible refine (cmp_isNaN_uint32.calls a0 false _ A3.out).mono ?_); rintro e w' ⟨rfl, ⟨nd, rfl⟩⟩; refine ⟨_, rfl, ?_⟩) | ((with_reducible refine gate_callee (f := 67) rfl ?_); refine gL_ (some 10) Try.func67 #[.int .u32 a1] ?_; (with_reducible refine (cmp_isNaN_uint32.calls a1 false _ A4.out).mono ?_); rintro e w' ⟨rfl, ⟨nd, rfl⟩⟩; refine ⟨_, rfl, ?_⟩))
     go_ret
     exact ⟨(by first | rfl | (simp; done) | (simp [*]; done)), (by repeat (first | exact Drawn0.refl _ | apply Drawn0.step))⟩
    ·rw [if_neg c9] at H
     have c9b0 : decide (a1 < a0) = false := decide_eq_false c9
     clear c9
     obtain rfl := Option.some.inj H
     go_enter Try.func57, Try.ntmps57
     go_wp2_with (first | ((with_reducible refine gate_callee (f := 67) rfl ?_); refine gL_ (some 8) Try.func67 #[.int .u32 a0] ?_; (with_reducible refine (cmp_isNaN_uint32.calls a0 false _ A3.out).mono ?_); rintro e w' ⟨rfl, ⟨nd, rfl⟩⟩; refine ⟨_, rfl, ?_⟩) | ((with_reducible refine gate_callee (f := 67) rfl ?_); refine gL_ (some 10) Try.func67 #[.int .u32 a1] ?_; (with_reducible refine (cmp_isNaN_uint32.calls a1 false _ A4.out).mono ?_); rintro e w' ⟨rfl, ⟨nd, rfl⟩⟩; refine ⟨_, rfl, ?_⟩))
     go_ret
     exact ⟨(by first | rfl | (simp; done) | (simp [*]; done)), (by repeat (first | exact Drawn0.refl _ | apply Drawn0.step))⟩
def flow_order.f (k : Nat) (a0_0 : Int) (a0_1 : Int) (a0_2 : Int) (a0_3 : Int) (a0_4 : Int) (l0_5 : List (S74)) (a1_0 : Int) (a1_1 : Int) (a1_2 : Int) : Option (Int) := (api_Addr_56.f a0_0 a1_0).bind fun t120 => ((api_Addr_56.f a0_1 a1_1).bind fun t121 => ((cmp_Compare_uint32.f a0_2 a1_2).bind fun t122 => ((cmp_Or_int.f k (([t120, t121, t122] : List Int))).bind fun t126 => (some t126))))
theorem flow_order.mono : ∀ a0 a1 a2 a3 a4 a5 a6 a7 a8 k, LeO (flow_order.f k a0 a1 a2 a3 a4 a5 a6 a7 a8) (flow_order.f (k + 1) a0 a1 a2 a3 a4 a5 a6 a7 a8) := by
 intro a0 a1 a2 a3 a4 a5 a6 a7 a8 k
 unfold flow_order.f
 repeat' first
   | (with_reducible exact cmp_Or_int.mono _ _)
   | (with_reducible exact LeO.refl _)
   | (with_reducible exact LeO.none _)
   | (with_reducible refine LeO.ite ?_ ?_)
   | (with_reducible refine LeO.bind ?_ (fun _ => ?_))
   | exact cmp_Or_int.mono _ _
   | exact LeO.none _
   | refine LeO.ite ?_ ?_
   | refine LeO.bind ?_ (fun _ => ?_)
def flow_order.T1 : Bool × List (List Nat × List Nat) := (true, [([], []), ([0], [0]), ([], []), ([2], [2]), ([1, 3], [1, 3]), ([], []), ([5], [5]), ([], []), ([7], [7]), ([6, 8, 4], [6, 8]), ([], []), ([10], [10]), ([], []), ([12], [12]), ([11, 13, 9], [11, 13]), ([4, 9, 14], [4, 9, 14]), ([15, 14], [15]), ([16, 16, 0, 1, 2, 3, 4, 5, 6, 7, 8, 9, 10, 11, 12, 13, 14, 15, 16], [16])])
def flow_order.B1 : List Nat := [0, 1, 0, 4, 15, 0, 32, 0, 128, 511, 0, 1024, 0, 4096, 16383, 32767, 65535, 131071]
theorem flow_order.tab1 : rtab .any (opsOf Try.f47 1) = flow_order.T1 := by kernel_rfl
theorem flow_order.bits1 : waitsOk flow_order.T1.2 flow_order.B1 = true := by kernel_rfl
set_option maxHeartbeats 8000000 in
set_option maxRecDepth 100000 in
theorem flow_order.calls (k : Nat) (a0_0 : Int) (a0_1 : Int) (a0_2 : Int) (a0_3 : Int) (a0_4 : Int) (A0_5 : Option Addr) (c0_5 : Nat) (l0_5 : List (S74)) (a1_0 : Int) (a1_1 : Int) (a1_2 : Int) (r : Int) (w : World) (hr0_5 : Kd.C k74 w A0_5 l0_5.length l0_5) (hc0_5 : l0_5.length ≤ c0_5) (h : flow_order.f k a0_0 a0_1 a0_2 a0_3 a0_4 l0_5 a1_0 a1_1 a1_2 = some r) :
  Calls Try.prog 47 #[.agg #[.int .u32 a0_0, .int .u32 a0_1, .int .u32 a0_2, .int .i64 a0_3, .int .u32 a0_4, .slice A0_5 l0_5.length c0_5], .agg #[.int .u32 a1_0, .int .u32 a1_1, .int .u32 a1_2]] w fun e w' => e = .returned (.int .i64 r) ∧ Below w.heap.size w w' := by
 have hu29 := Try.underlying29
 have hu85 := Try.underlying85
 have HR0_5 := m_ hr0_5
 have HC0_5 := m_ hc0_5
 clear hr0_5 hc0_5
 have HB := m_ (Below.refl w.heap.size w)
 have H : ((api_Addr_56.f a0_0 a1_0).bind fun t120 => ((api_Addr_56.f a0_1 a1_1).bind fun t121 => ((cmp_Compare_uint32.f a0_2 a1_2).bind fun t122 => ((cmp_Or_int.f k (([t120, t121, t122] : List Int))).bind fun t126 => (some t126))))) = some r := h
 clear h
 replace H := Option.bind_eq_some_iff.mp H
 obtain ⟨t120, A30, H⟩ := H
 replace H : ((api_Addr_56.f a0_1 a1_1).bind fun t121 => ((cmp_Compare_uint32.f a0_2 a1_2).bind fun t122 => ((cmp_Or_int.f k (([t120, t121, t122] : List Int))).bind fun t126 => (some t126)))) = some r := H
 have A3 := m_ A30
 clear A30
 replace H := Option.bind_eq_some_iff.mp H
 obtain ⟨t121, A40, H⟩ := H
 replace H : ((cmp_Compare_uint32.f a0_2 a1_2).bind fun t122 => ((cmp_Or_int.f k (([t120, t121, t122] : List Int))).bind fun t126 => (some t126))) = some r := H
 have A4 := m_ A40
 clear A40
 replace H := Option.bind_eq_some_iff.mp H
 obtain ⟨t122, A50, H⟩ := H
 replace H : ((cmp_Or_int.f k (([t120, t121, t122] : List Int))).bind fun t126 => (some t126)) = some r := H
 have A5 := m_ A50
 clear A50
 obtain ⟨y123, hy123⟩ : ∃ y_ : List Int, y_ = (([t120, t121, t122] : List Int)) := ⟨_, rfl⟩
 replace H : ((cmp_Or_int.f k y123).bind fun t126 => (some t126)) = some r := by first | (rw [hy123]; with_reducible exact H) | (have H2_ := (Option.bind_some _ _).symm.trans H; rw [hy123]; with_reducible exact H2_) | (have H2_ := (Option.bind_some _ _).symm.trans H; with_reducible exact H2_) | with_reducible exact H | (rw [hy123]; exact H) | exact H
 have Ny123 := m_ hy123
 clear hy123
 replace H := Option.bind_eq_some_iff.mp H
 obtain ⟨t126, A60, H⟩ := H
 replace H : (some t126) = some r := H
 have A6 := m_ A60
 clear A60
 obtain rfl := Option.some.inj H
 go_enter Try.func47, Try.ntmps47
 try go_wp2_with (first | ((with_reducible refine gate_dst (N := 2) rfl ?_); refine bx_ 2 29 #[.int .u32 a0_0, .int .u32 a0_1, .int .u32 a0_2, .int .i64 a0_3, .int .u32 a0_4, .slice A0_5 l0_5.length c0_5] ?_; intro gb118 hg w7 hbox hb; have BK118 := m_ (hbox); have GW118 := m_ ((gw_ : w.heap.size ≤ gb118)); have GE118 := m_ ((gw_ : w.heap.size ≤ gb118)); replace HB := m_ (below_step bz_ hb); clear hb hbox hg) | ((with_reducible refine gate_dst (N := 3) rfl ?_); refine bx_ 3 85 #[.int .u32 a1_0, .int .u32 a1_1, .int .u32 a1_2] ?_; intro gb119 hg w8 hbox hb; have BK119 := m_ (hbox); have GW119 := m_ ((gw_ : w.heap.size ≤ gb119)); have GE119 := m_ ((gw_ : w.heap.size ≤ gb119)); have NB118_119 := m_ ((gl_ : gb118 ≠ gb119)); have NB119_118 := m_ ((gr_ : gb119 ≠ gb118)); replace BK118 := m_ (kl_ gb118 hb); replace HB := m_ (below_step bz_ hb); clear hb hbox hg))
 replace BK118 := m_ (blk_drew BK118.out)
 replace BK119 := m_ (blk_drew BK119.out)
 replace HB := m_ (below_drew1 HB.out)
 refine start_ (n := 18) (S := fun w' => w'.cell? ⟨gb118, 0, none⟩ = some (.int .u32 a0_0) ∧ w'.cell? ⟨gb118, 1, none⟩ = some (.int .u32 a0_1) ∧ w'.cell? ⟨gb118, 2, none⟩ = some (.int .u32 a0_2) ∧ w'.cell? ⟨gb118, 3, none⟩ = some (.int .i64 a0_3) ∧ w'.cell? ⟨gb118, 4, none⟩ = some (.int .u32 a0_4) ∧ w'.cell? ⟨gb118, 5, none⟩ = some (.slice A0_5 l0_5.length c0_5) ∧ w'.cell? ⟨gb119, 0, none⟩ = some (.int .u32 a1_0) ∧ w'.cell? ⟨gb119, 1, none⟩ = some (.int .u32 a1_1) ∧ w'.cell? ⟨gb119, 2, none⟩ = some (.int .u32 a1_2)) (ds := []) (bs_ 18 0) (by kernel_rfl) rfl rfl ⟨bc_ BK118.out 0, bc_ BK118.out 1, bc_ BK118.out 2, bc_ BK118.out 3, bc_ BK118.out 4, bc_ BK118.out 5, bc_ BK119.out 0, bc_ BK119.out 1, bc_ BK119.out 2⟩ (fun hHeld => ?_); refine with_tabW flow_order.tab1 flow_order.bits1 (fun HT_ HW_ => ?_)
 generalize w8.drew = w9 at BK118 BK119 HB hHeld ⊢
 refine pz_ 0 5 ?_
 refine pz_ 2 7 ?_
 refine pz_ 5 10 ?_
 refine pz_ 7 12 ?_
 refine pz_ 10 15 ?_
 refine pz_ 12 17 ?_
 refine tz_ 1 6 ?_
 refine tz_ 3 8 ?_
 refine tz_ 6 11 ?_
 refine tz_ 8 13 ?_
 refine tz_ 11 16 ?_
 refine tz_ 13 18 ?_
 refine oz_ 4 (some 9) (fun K hK => ?_)
 refine gz_ Try.func56 #[.int .u32 a0_0, .int .u32 a1_0] ?_
 with_reducible refine (api_Addr_56.calls a0_0 a1_0 t120 _ A3.out).mono ?_
 rintro e w' ⟨rfl, ⟨nd, rfl⟩⟩
 refine ⟨_, rfl, ?_⟩
 refine hK.out _ _ ⟨bc_ BK118.out 0, bc_ BK118.out 1, bc_ BK118.out 2, bc_ BK118.out 3, bc_ BK118.out 4, bc_ BK118.out 5, bc_ BK119.out 0, bc_ BK119.out 1, bc_ BK119.out 2⟩ (fun hHeld => ?_)
 clear hK K
 refine nz_ (some 9) ?_
 refine oz_ 9 (some 14) (fun K hK => ?_)
 refine gz_ Try.func56 #[.int .u32 a0_1, .int .u32 a1_1] ?_
 with_reducible refine (api_Addr_56.calls a0_1 a1_1 t121 _ A4.out).mono ?_
 rintro e w' ⟨rfl, ⟨nd, rfl⟩⟩
 refine ⟨_, rfl, ?_⟩
 refine hK.out _ _ ⟨bc_ BK118.out 0, bc_ BK118.out 1, bc_ BK118.out 2, bc_ BK118.out 3, bc_ BK118.out 4, bc_ BK118.out 5, bc_ BK119.out 0, bc_ BK119.out 1, bc_ BK119.out 2⟩ (fun hHeld => ?_)
 clear hK K
 refine nz_ (some 14) ?_
 refine oz_ 14 (some 19) (fun K hK => ?_)
 refine gz_ Try.func57 #[.int .u32 a0_2, .int .u32 a1_2] ?_
 with_reducible refine (cmp_Compare_uint32.calls a0_2 a1_2 t122 _ A5.out).mono ?_
 rintro e w' ⟨rfl, ⟨nd, rfl⟩⟩
 refine ⟨_, rfl, ?_⟩
 refine hK.out _ _ ⟨bc_ BK118.out 0, bc_ BK118.out 1, bc_ BK118.out 2, bc_ BK118.out 3, bc_ BK118.out 4, bc_ BK118.out 5, bc_ BK119.out 0, bc_ BK119.out 1, bc_ BK119.out 2⟩ (fun hHeld => ?_)
 clear hK K
 refine nz_ (some 19) ?_
 refine oz_ 15 (some 20) (fun K hK => ?_)
 refine Kd.R_lit_step (Kd.int .i64) _ 3 ?hg (N := 20) ?hd (xs := ([t120, t121, t122] : List Int)) (inner := [.int .i64 t120, .int .i64 t121, .int .i64 t122]) (ok := fun _ => True) (okp := fun _ => True) ?hr ?hp (fun _ hk => hk) trivial (Below.refl _ _) (Nat.le_refl _) (by simp) ?_; (case hd => rfl); (case hg => rfl); (case hr => first | (go_simp; done) | (go_simp; rfl)); (case hp => exact (Reps.one (show Kd.M (Kd.int .i64) _ _ _ t120 [.int .i64 t120] from rfl) (Reps.one (show Kd.M (Kd.int .i64) _ _ _ t121 [.int .i64 t121] from rfl) (Reps.one (show Kd.M (Kd.int .i64) _ _ _ t122 [.int .i64 t122] from rfl) (Reps.none _ _)))))
 intro v124 w10 ho11 hb hg_ hnew_
 clear hg_ hnew_
 (first | rw [← Ny123.out] at ho11 | (simp only [Int.reduceToNat] at ho11; rw [← Ny123.out] at ho11))
 have HO125 := m_ (Kd.R_lower ho11 (below_size bz_))
 replace BK118 := m_ (kl_ gb118 hb)
 replace BK119 := m_ (kl_ gb119 hb)
 replace HB := m_ (below_step bz_ hb)
 clear hb ho11
 obtain ⟨Ao12, co12, eo12⟩ := Kd.R_slice HO125.out
 (first | subst eo12 | (injection eo12 with f1_ f2_ f3_; have f4_ := f1_.symm; have f5_ := f3_.symm; clear f1_ f2_ f3_; subst f4_; subst f5_))
 refine hK.out _ _ ⟨bc_ BK118.out 0, bc_ BK118.out 1, bc_ BK118.out 2, bc_ BK118.out 3, bc_ BK118.out 4, bc_ BK118.out 5, bc_ BK119.out 0, bc_ BK119.out 1, bc_ BK119.out 2⟩ (fun hHeld => ?_)
 clear hK K
 refine nz_ (some 20) ?_
 refine oz_ 16 (some 21) (fun K hK => ?_)
 refine gz_ Try.func55 #[.slice Ao12 y123.length co12] ?_
 with_reducible refine (cmp_Or_int.calls k _ _ y123 t126 _ ?side1 ?side2 A6.out).mono ?_
 (case side1 => exact Cd_ (Kd.R_reads' HO125.out).2.2)
 (case side2 => exact (Kd.R_reads' HO125.out).2.1)
 rintro e w' ⟨rfl, ⟨nd, rfl⟩⟩
 refine ⟨_, rfl, ?_⟩
 refine hK.out _ _ ⟨bc_ BK118.out 0, bc_ BK118.out 1, bc_ BK118.out 2, bc_ BK118.out 3, bc_ BK118.out 4, bc_ BK118.out 5, bc_ BK119.out 0, bc_ BK119.out 1, bc_ BK119.out 2⟩ (fun hHeld => ?_)
 clear hK K
 refine nz_ (some 21) ?_
 refine pz_ 17 4 ?_
 refine dz_ ?_
 try go_wp2
 go_ret
 exact ⟨ew_, bz_⟩
end Go.Proofs.Ytfomnmdjbdohgaa.P

/- For each Go function a Lean function, and the proof that a call comes to what it tells: made by program out of the translation (the kit's print, with texts by hand put in). No condition. -/
import Derived.Test.YtfomnmdjbdohgaaSq
import Derived.Test.YtfomnmdjbdohgaaPx0
namespace Go.Proofs.Ytfomnmdjbdohgaa.P
open Go.RowKit Go.Proofs.Ytfomnmdjbdohgaa.HRows Go.Proofs.YtfomnmdjbdohgaaW.PrintWords Go.Proofs.YtfomnmdjbdohgaaW.PrintLast Go.Proofs.YtfomnmdjbdohgaaW.PrintMore
attribute [local go_sem] max2_int min2_int max_two min_two max_three min_three max_four min_four
set_option linter.unusedVariables false
set_option linter.unusedSimpArgs false
def stolonlaw17_few.l0 : Nat → List (S32) → Int → Int → Option (Bool)
 | 0, _, _, _ => none
 | k + 1, x0, x3, x4 => if x4 < (x0.length : Int) then (if 0 ≤ x4 then (if (wrap64 ((wrap64 ((wrap64 (x3 + 1)) + (((rd_T32 x0 x4).f5).length : Int))) + (((rd_T32 x0 x4).f2.f5).length : Int))) > 3000 then (some false) else (stolonlaw17_few.l0 k x0 (wrap64 ((wrap64 ((wrap64 (x3 + 1)) + (((rd_T32 x0 x4).f5).length : Int))) + (((rd_T32 x0 x4).f2.f5).length : Int))) (wrap64 (x4 + 1)))) else (none)) else (some true)
def stolonlaw17_few.f (k : Nat) (l0 : List (S32)) : Option (Bool) := stolonlaw17_few.l0 k l0 0 0
set_option maxHeartbeats 8000000 in
set_option maxRecDepth 100000 in
theorem stolonlaw17_few.calls (k : Nat) (A0 : Option Addr) (c0 : Nat) (l0 : List (S32)) (r : Bool) (w : World) (hr0 : Kd.C k32 w A0 l0.length l0) (hc0 : l0.length ≤ c0) (h : stolonlaw17_few.f k l0 = some r) :
  Calls Try.prog 12 #[.slice A0 l0.length c0] w fun e w' => e = .returned (.bool r) ∧ Drawn0 w w' := by
 have HR0 := m_ hr0
 have HC0 := m_ hc0
 clear hr0 hc0
 have H : (stolonlaw17_few.l0 k l0 0 0) = some r := h
 clear h
 have H' := m_ H
 clear H
 go_enter Try.func12, Try.ntmps12
 go_wp2
 repeat (go_quiet (fail); try go_wp2)
 go_loopg [3, 4] k (fun kq v3 v4 w' => ∃ (x3_1 : Int) (x4_1 : Int), v3 = .int .i64 x3_1 ∧ v4 = .int .i64 x4_1 ∧ Aside0 (stolonlaw17_few.l0 kq l0 x3_1 x4_1 = some r) ∧ Aside0 (kq ≤ k) ∧ Drawn0 w w')
 case atStart => exact ⟨(0), (0), (by first | rfl | (simp; done) | (simp [*]; done)), (by first | rfl | (simp; done) | (simp [*]; done)), H', ⟨Nat.le_refl _⟩, by repeat (first | exact Drawn0.refl _ | apply Drawn0.step)⟩
 case round =>
  clear H'
  try clear c1
  obtain ⟨x3_1, x4_1, rfl, rfl, HA, HK1, ⟨m1, rfl⟩⟩ := hrel
  cases gk with
  | zero => exact absurd HA.out (by simp [stolonlaw17_few.l0])
  | succ k1 =>
   have H := HA.out
   clear HA
   simp only [stolonlaw17_few.l0] at H
   by_cases c2 : x4_1 < (l0.length : Int)
   ·rw [if_pos c2] at H
    have c2b0 : decide (x4_1 < (l0.length : Int)) = true := decide_eq_true c2
    clear c2
    by_cases c3 : 0 ≤ x4_1
    ·rw [if_pos c3] at H
     have c3b0 : decide (0 ≤ x4_1) = true := decide_eq_true c3
     clear c3
     by_cases c4 : (wrap64 ((wrap64 ((wrap64 (x3_1 + 1)) + (((rd_T32 l0 x4_1).f5).length : Int))) + (((rd_T32 l0 x4_1).f2.f5).length : Int))) > 3000
     ·rw [if_pos c4] at H
      have c4b0 : decide (3000 < (wrap64 ((wrap64 ((wrap64 (x3_1 + 1)) + (((rd_T32 l0 x4_1).f5).length : Int))) + (((rd_T32 l0 x4_1).f2.f5).length : Int)))) = true := decide_eq_true c4
      clear c4
      obtain rfl := Option.some.inj H
      have p231 : 0 ≤ (x4_1 : Int) := od_
      have q231 : x4_1 < (l0.length : Int) := od_
      obtain ⟨ad231, A231_7, c231_7, A231_10, c231_10, e231, hx231_0, hx231_1, hx231_2, hx231_3, hx231_4, hx231_5, hx231_6, hx231_7, hx231_8, hx231_9, hx231_10, hl231_7, hi231_7, hl231_10, hi231_10⟩ := at_T32 HR0.out x4_1 p231 q231
      cases e231
      have HR231_7 := m_ hi231_7
      have HC231_7 := m_ hl231_7
      clear hi231_7 hl231_7
      have HR231_10 := m_ hi231_10
      have HC231_10 := m_ hl231_10
      clear hi231_10 hl231_10
      replace p231 := eq_true p231
      replace q231 := eq_true q231
      have p232 : 0 ≤ (x4_1 : Int) := od_
      have q232 : x4_1 < (l0.length : Int) := od_
      obtain ⟨ad232, A232_7, c232_7, A232_10, c232_10, e232, hx232_0, hx232_1, hx232_2, hx232_3, hx232_4, hx232_5, hx232_6, hx232_7, hx232_8, hx232_9, hx232_10, hl232_7, hi232_7, hl232_10, hi232_10⟩ := at_T32 HR0.out x4_1 p232 q232
      obtain rfl : ad231 = ad232 := (by injection e232)
      have HR232_7 := m_ hi232_7
      have HC232_7 := m_ hl232_7
      clear hi232_7 hl232_7
      have HR232_10 := m_ hi232_10
      have HC232_10 := m_ hl232_10
      clear hi232_10 hl232_10
      replace p232 := eq_true p232
      replace q232 := eq_true q232
      have ea_ := Option.some.inj (hx231_7.symm.trans hx232_7)
      injection ea_ with ea_ en_ ec_
      subst ea_
      subst ec_
      clear en_
      have ea_ := Option.some.inj (hx231_10.symm.trans hx232_10)
      injection ea_ with ea_ en_ ec_
      subst ea_
      subst ec_
      clear en_
      go_wp2
      repeat (go_quiet (fail); try go_wp2)
      go_ret
      exact ⟨(by first | rfl | (simp; done) | (simp [*]; done)), (by repeat (first | exact Drawn0.refl _ | apply Drawn0.step))⟩
     ·rw [if_neg c4] at H
      have c4b0 : decide (3000 < (wrap64 ((wrap64 ((wrap64 (x3_1 + 1)) + (((rd_T32 l0 x4_1).f5).length : Int))) + (((rd_T32 l0 x4_1).f2.f5).length : Int)))) = false := decide_eq_false c4
      clear c4
      have H' := m_ H
      clear H
      have p231 : 0 ≤ (x4_1 : Int) := od_
      have q231 : x4_1 < (l0.length : Int) := od_
      obtain ⟨ad231, A231_7, c231_7, A231_10, c231_10, e231, hx231_0, hx231_1, hx231_2, hx231_3, hx231_4, hx231_5, hx231_6, hx231_7, hx231_8, hx231_9, hx231_10, hl231_7, hi231_7, hl231_10, hi231_10⟩ := at_T32 HR0.out x4_1 p231 q231
      cases e231
      have HR231_7 := m_ hi231_7
      have HC231_7 := m_ hl231_7
      clear hi231_7 hl231_7
      have HR231_10 := m_ hi231_10
      have HC231_10 := m_ hl231_10
      clear hi231_10 hl231_10
      replace p231 := eq_true p231
      replace q231 := eq_true q231
      have p232 : 0 ≤ (x4_1 : Int) := od_
      have q232 : x4_1 < (l0.length : Int) := od_
      obtain ⟨ad232, A232_7, c232_7, A232_10, c232_10, e232, hx232_0, hx232_1, hx232_2, hx232_3, hx232_4, hx232_5, hx232_6, hx232_7, hx232_8, hx232_9, hx232_10, hl232_7, hi232_7, hl232_10, hi232_10⟩ := at_T32 HR0.out x4_1 p232 q232
      obtain rfl : ad231 = ad232 := (by injection e232)
      have HR232_7 := m_ hi232_7
      have HC232_7 := m_ hl232_7
      clear hi232_7 hl232_7
      have HR232_10 := m_ hi232_10
      have HC232_10 := m_ hl232_10
      clear hi232_10 hl232_10
      replace p232 := eq_true p232
      replace q232 := eq_true q232
      have ea_ := Option.some.inj (hx231_7.symm.trans hx232_7)
      injection ea_ with ea_ en_ ec_
      subst ea_
      subst ec_
      clear en_
      have ea_ := Option.some.inj (hx231_10.symm.trans hx232_10)
      injection ea_ with ea_ en_ ec_
      subst ea_
      subst ec_
      clear en_
      go_wp2
      repeat (go_quiet (fail); try go_wp2)
      go_roundg k1
      case measure => have := HK1.out; omega
      case rel => exact ⟨(wrap64 ((wrap64 ((wrap64 (x3_1 + 1)) + (((rd_T32 l0 x4_1).f5).length : Int))) + (((rd_T32 l0 x4_1).f2.f5).length : Int))), (wrap64 (x4_1 + 1)), (by first | rfl | (simp; done) | (simp [*]; done)), (by first | rfl | (simp; done) | (simp [*]; done)), H', ⟨by have := HK1.out; omega⟩, by repeat (first | exact Drawn0.refl _ | apply Drawn0.step)⟩
    ·rw [if_neg c3] at H
     exact absurd H (by simp)
   ·rw [if_neg c2] at H
    have c2b0 : decide (x4_1 < (l0.length : Int)) = false := decide_eq_false c2
    clear c2
    obtain rfl := Option.some.inj H
    go_wp2
    repeat (go_quiet (fail); try go_wp2)
    go_ret
    exact ⟨(by first | rfl | (simp; done) | (simp [*]; done)), (by repeat (first | exact Drawn0.refl _ | apply Drawn0.step))⟩
end Go.Proofs.Ytfomnmdjbdohgaa.P

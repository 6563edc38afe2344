/- For each Go function a Lean function, and the proof that a call comes to what it tells: made by program out of the translation (the kit's print, with texts by hand put in). No condition. -/
import Derived.Test.YtfomnmdjbdohgaaSq
import Derived.Test.YtfomnmdjbdohgaaPx0
namespace Go.Proofs.Ytfomnmdjbdohgaa.P
open Go.RowKit Go.Proofs.Ytfomnmdjbdohgaa.HRows Go.Proofs.YtfomnmdjbdohgaaW.PrintWords Go.Proofs.YtfomnmdjbdohgaaW.PrintLast Go.Proofs.YtfomnmdjbdohgaaW.PrintMore
attribute [local go_sem] max2_int min2_int max_two min_two max_three min_three max_four min_four
set_option linter.unusedVariables false
set_option linter.unusedSimpArgs false
def addr_IsGroup.f (a0 : Int) : Option (Bool) := some ((a0 / 268435456) == 14)
set_option maxHeartbeats 8000000 in
set_option maxRecDepth 100000 in
theorem addr_IsGroup.calls (a0 : Int) (r : Bool) (w : World) (h : addr_IsGroup.f a0 = some r) :
  Calls Try.prog 61 #[.int .u32 a0] w fun e w' => e = .returned (.bool r) ∧ Drawn0 w w' := by
 have H : (some ((a0 / 268435456) == 14)) = some r := h
 clear h
 obtain rfl := Option.some.inj H
 go_enter Try.func61, Try.ntmps61
 go_wp2
 go_ret
 exact ⟨(by first | rfl | (simp; done) | (simp [*]; done)), (by repeat (first | exact Drawn0.refl _ | apply Drawn0.step))⟩
def addr_IsLocal.f (a0 : Int) : Option (Bool) := some ((a0 / 256) == 14680064)
set_option maxHeartbeats 8000000 in
set_option maxRecDepth 100000 in
theorem addr_IsLocal.calls (a0 : Int) (r : Bool) (w : World) (h : addr_IsLocal.f a0 = some r) :
  Calls Try.prog 62 #[.int .u32 a0] w fun e w' => e = .returned (.bool r) ∧ Drawn0 w w' := by
 have H : (some ((a0 / 256) == 14680064)) = some r := h
 clear h
 obtain rfl := Option.some.inj H
 go_enter Try.func62, Try.ntmps62
 go_wp2
 go_ret
 exact ⟨(by first | rfl | (simp; done) | (simp [*]; done)), (by repeat (first | exact Drawn0.refl _ | apply Drawn0.step))⟩
def addr_IsAsked.f (a0 : Int) : Option (Bool) := (addr_IsGroup.f a0).bind fun t101 => (if t101 = true then ((addr_IsLocal.f a0).bind fun t102 => (some (!t102))) else (some false))
set_option maxHeartbeats 8000000 in
set_option maxRecDepth 100000 in
theorem addr_IsAsked.calls (a0 : Int) (r : Bool) (w : World) (h : addr_IsAsked.f a0 = some r) :
  Calls Try.prog 51 #[.int .u32 a0] w fun e w' => e = .returned (.bool r) ∧ Drawn0 w w' := by
 have H : ((addr_IsGroup.f a0).bind fun t101 => (if t101 = true then ((addr_IsLocal.f a0).bind fun t102 => (some (!t102))) else (some false))) = some r := h
 clear h
 replace H := Option.bind_eq_some_iff.mp H
 obtain ⟨t101, A20, H⟩ := H
 replace H : (if t101 = true then ((addr_IsLocal.f a0).bind fun t102 => (some (!t102))) else (some false)) = some r := H
 have A2 := m_ A20
 clear A20
 by_cases c3 : t101 = true
 ·subst c3
  have H1 : ((addr_IsLocal.f a0).bind fun t102 => (some (!t102))) = some r := by rw [if_pos rfl] at H; exact H
  clear H
  have H := H1
  clear H1
  replace H := Option.bind_eq_some_iff.mp H
  obtain ⟨t102, A40, H⟩ := H
  replace H : (some (!t102)) = some r := H
  have A4 := m_ A40
  clear A40
  obtain rfl := Option.some.inj H
  go_enter Try.func51, Try.ntmps51
  go_wp2_with (first | ((with_reducible refine gate_callee (f := 61) rfl ?_); refine gL_ (some 4) Try.func61 #[.int .u32 a0] ?_; (with_reducible refine (addr_IsGroup.calls a0 true _ A2.out).mono ?_); rintro e w' ⟨rfl, ⟨nd, rfl⟩⟩; refine ⟨_, rfl, ?_⟩) | (go_at_call 62; (with_reducible refine (addr_IsLocal.calls a0 t102 _ A4.out).mono ?_); rintro e w' ⟨rfl, ⟨nd, rfl⟩⟩))
  go_ret
  exact ⟨(by first | rfl | (simp; done) | (simp [*]; done)), (by repeat (first | exact Drawn0.refl _ | apply Drawn0.step))⟩
 ·replace c3 := Bool.eq_false_iff.mpr c3
  subst c3
  have H1 : (some false) = some r := by rw [if_neg (show ¬ (false = true) by decide)] at H; exact H
  clear H
  have H := H1
  clear H1
  obtain rfl := Option.some.inj H
  go_enter Try.func51, Try.ntmps51
  go_wp2_with (first | ((with_reducible refine gate_callee (f := 61) rfl ?_); refine gL_ (some 4) Try.func61 #[.int .u32 a0] ?_; (with_reducible refine (addr_IsGroup.calls a0 false _ A2.out).mono ?_); rintro e w' ⟨rfl, ⟨nd, rfl⟩⟩; refine ⟨_, rfl, ?_⟩))
  go_ret
  exact ⟨(by first | rfl | (simp; done) | (simp [*]; done)), (by repeat (first | exact Drawn0.refl _ | apply Drawn0.step))⟩
def flow_access.f (a0 : Int) : Option (Bool) := if a0 ≥ 64 then (some (decide (a0 < 128))) else (some false)
set_option maxHeartbeats 8000000 in
set_option maxRecDepth 100000 in
theorem flow_access.calls (a0 : Int) (r : Bool) (w : World) (h : flow_access.f a0 = some r) :
  Calls Try.prog 54 #[.int .i64 a0] w fun e w' => e = .returned (.bool r) ∧ Drawn0 w w' := by
 have H : (if a0 ≥ 64 then (some (decide (a0 < 128))) else (some false)) = some r := h
 clear h
 by_cases c2 : a0 ≥ 64
 ·rw [if_pos c2] at H
  have c2b0 : decide (64 ≤ a0) = true := decide_eq_true c2
  clear c2
  obtain rfl := Option.some.inj H
  go_enter Try.func54, Try.ntmps54
  go_wp2
  go_ret
  exact ⟨(by first | rfl | (simp; done) | (simp [*]; done)), (by repeat (first | exact Drawn0.refl _ | apply Drawn0.step))⟩
 ·rw [if_neg c2] at H
  have c2b0 : decide (64 ≤ a0) = false := decide_eq_false c2
  clear c2
  obtain rfl := Option.some.inj H
  go_enter Try.func54, Try.ntmps54
  go_wp2
  go_ret
  exact ⟨(by first | rfl | (simp; done) | (simp [*]; done)), (by repeat (first | exact Drawn0.refl _ | apply Drawn0.step))⟩
end Go.Proofs.Ytfomnmdjbdohgaa.P

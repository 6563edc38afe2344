/- For each Go function a Lean function, and the proof that a call comes to what it tells: made by program out of the translation (the kit's print, with texts by hand put in). No condition. -/
import Derived.Test.YtplkfpfgnccffaaDoorSq
import Derived.Test.YtplkfpfgnccffaaDoorPx0
namespace Go.Proofs.YtplkfpfgnccffaaDoor.P
open Go.RowKit Go.Proofs.YtplkfpfgnccffaaDoor.HRows Go.Proofs.YtplkfpfgnccffaaDoorW.PrintWords Go.Proofs.YtplkfpfgnccffaaDoorW.PrintLast Go.Proofs.YtplkfpfgnccffaaDoorW.PrintMore
attribute [local go_sem] max2_int min2_int max_two min_two max_three min_three max_four min_four   -- for this text's walks alone
set_option linter.unusedVariables false
set_option linter.unusedSimpArgs false

/-! ### stolonref01_Group: function 20 -/
def stolonref01_Group.f (a0 : Int) : Option (Bool) := if a0 ≥ 3758096384 then (some (decide (a0 ≤ 4026531839))) else (some false)
set_option maxHeartbeats 8000000 in
set_option maxRecDepth 100000 in
theorem stolonref01_Group.calls (a0 : Int) (r : Bool) (w : World) (h : stolonref01_Group.f a0 = some r) :
  Calls Tryd.prog 20 #[.int .u32 a0] w fun e w' => e = .returned (.bool r) ∧ Drawn0 w w' := by
 have H : (if a0 ≥ 3758096384 then (some (decide (a0 ≤ 4026531839))) else (some false)) = some r := h
 clear h
 by_cases c2 : a0 ≥ 3758096384
 ·rw [if_pos c2] at H
  have c2b0 : decide (3758096384 ≤ a0) = true := decide_eq_true c2
  clear c2
  obtain rfl := Option.some.inj H
  go_enter Tryd.func20, Tryd.ntmps20
  go_wp2
  go_ret
  exact ⟨(by first | rfl | (simp; done) | (simp [*]; done)), (by repeat (first | exact Drawn0.refl _ | apply Drawn0.step))⟩
 ·rw [if_neg c2] at H
  have c2b0 : decide (3758096384 ≤ a0) = false := decide_eq_false c2
  clear c2
  obtain rfl := Option.some.inj H
  go_enter Tryd.func20, Tryd.ntmps20
  go_wp2
  go_ret
  exact ⟨(by first | rfl | (simp; done) | (simp [*]; done)), (by repeat (first | exact Drawn0.refl _ | apply Drawn0.step))⟩

/-! ### stolonref01_Local: function 22 -/
def stolonref01_Local.f (a0 : Int) : Option (Bool) := if a0 ≥ 3758096384 then (some (decide (a0 ≤ 3758096639))) else (some false)
set_option maxHeartbeats 8000000 in
set_option maxRecDepth 100000 in
theorem stolonref01_Local.calls (a0 : Int) (r : Bool) (w : World) (h : stolonref01_Local.f a0 = some r) :
  Calls Tryd.prog 22 #[.int .u32 a0] w fun e w' => e = .returned (.bool r) ∧ Drawn0 w w' := by
 have H : (if a0 ≥ 3758096384 then (some (decide (a0 ≤ 3758096639))) else (some false)) = some r := h
 clear h
 by_cases c2 : a0 ≥ 3758096384
 ·rw [if_pos c2] at H
  have c2b0 : decide (3758096384 ≤ a0) = true := decide_eq_true c2
  clear c2
  obtain rfl := Option.some.inj H
  go_enter Tryd.func22, Tryd.ntmps22
  go_wp2
  go_ret
  exact ⟨(by first | rfl | (simp; done) | (simp [*]; done)), (by repeat (first | exact Drawn0.refl _ | apply Drawn0.step))⟩
 ·rw [if_neg c2] at H
  have c2b0 : decide (3758096384 ≤ a0) = false := decide_eq_false c2
  clear c2
  obtain rfl := Option.some.inj H
  go_enter Tryd.func22, Tryd.ntmps22
  go_wp2
  go_ret
  exact ⟨(by first | rfl | (simp; done) | (simp [*]; done)), (by repeat (first | exact Drawn0.refl _ | apply Drawn0.step))⟩

/-! ### stolonref01_Asked: function 24 -/
def stolonref01_Asked.f (a0 : Int) : Option (Bool) := if a0 ≥ 3758096640 then (some (decide (a0 ≤ 4026531839))) else (some false)
set_option maxHeartbeats 8000000 in
set_option maxRecDepth 100000 in
theorem stolonref01_Asked.calls (a0 : Int) (r : Bool) (w : World) (h : stolonref01_Asked.f a0 = some r) :
  Calls Tryd.prog 24 #[.int .u32 a0] w fun e w' => e = .returned (.bool r) ∧ Drawn0 w w' := by
 have H : (if a0 ≥ 3758096640 then (some (decide (a0 ≤ 4026531839))) else (some false)) = some r := h
 clear h
 by_cases c2 : a0 ≥ 3758096640
 ·rw [if_pos c2] at H
  have c2b0 : decide (3758096640 ≤ a0) = true := decide_eq_true c2
  clear c2
  obtain rfl := Option.some.inj H
  go_enter Tryd.func24, Tryd.ntmps24
  go_wp2
  go_ret
  exact ⟨(by first | rfl | (simp; done) | (simp [*]; done)), (by repeat (first | exact Drawn0.refl _ | apply Drawn0.step))⟩
 ·rw [if_neg c2] at H
  have c2b0 : decide (3758096640 ≤ a0) = false := decide_eq_false c2
  clear c2
  obtain rfl := Option.some.inj H
  go_enter Tryd.func24, Tryd.ntmps24
  go_wp2
  go_ret
  exact ⟨(by first | rfl | (simp; done) | (simp [*]; done)), (by repeat (first | exact Drawn0.refl _ | apply Drawn0.step))⟩

/-! ### addr_Less: function 25 -/
def addr_Less.f (a0 : Int) (a1 : Int) : Option (Bool) := some (decide (a0 < a1))
set_option maxHeartbeats 8000000 in
set_option maxRecDepth 100000 in
theorem addr_Less.calls (a0 : Int) (a1 : Int) (r : Bool) (w : World) (h : addr_Less.f a0 a1 = some r) :
  Calls Tryd.prog 25 #[.int .u32 a0, .int .u32 a1] w fun e w' => e = .returned (.bool r) ∧ Drawn0 w w' := by
 have H : (some (decide (a0 < a1))) = some r := h
 clear h
 obtain rfl := Option.some.inj H
 go_enter Tryd.func25, Tryd.ntmps25
 go_wp2
 go_ret
 exact ⟨(by first | rfl | (simp; done) | (simp [*]; done)), (by repeat (first | exact Drawn0.refl _ | apply Drawn0.step))⟩

end Go.Proofs.YtplkfpfgnccffaaDoor.P

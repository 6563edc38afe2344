/- For each Go function a Lean function, and the proof that a call comes to what it tells: made by program out of the translation (the kit's print, with texts by hand put in). No condition. -/
import Derived.Test.YtlihbdinghoeeacPx0
namespace Go.Proofs.Ytlihbdinghoeeac.P
open Go.RowKit Go.Proofs.Ytlihbdinghoeeac.HRows Go.Proofs.YtlihbdinghoeeacW.PrintWords Go.Proofs.YtlihbdinghoeeacW.PrintLast Go.Proofs.YtlihbdinghoeeacW.PrintMore
attribute [local go_sem] max2_int min2_int max_two min_two max_three min_three max_four min_four   -- for this text's walks alone
set_option linter.unusedVariables false
set_option linter.unusedSimpArgs false

/-! ### stolonref03_Value: function 13 -/
def stolonref03_Value.l0 : Nat → Int → Int → Int → Option (Int)
  | 0, _, _, _ => none
  | k + 1, x3, x4, x5 => if x5 < (wrap64 ((Int.tmod (wrap64 (Int.tdiv x3 16)) 8) + 3)) then (stolonref03_Value.l0 k x3 (wrap64 (x4 * 2)) (wrap64 (x5 + 1))) else (some x4)
def stolonref03_Value.f (k : Nat) (a0 : Int) : Option (Int) := if (wrap64 (a0)) < 128 then (some (wrap64 (a0))) else (stolonref03_Value.l0 k (wrap64 (a0)) (wrap64 ((Int.tmod (wrap64 (a0)) 16) + 16)) 0)
theorem stolonref03_Value.mono_l : ∀ k, (∀ y0 y1 y2, LeO (stolonref03_Value.l0 k y0 y1 y2) (stolonref03_Value.l0 (k + 1) y0 y1 y2))
  | 0 => fun _ _ _ r h => by simp [stolonref03_Value.l0] at h
  | k + 1 => by
    have ih0 := stolonref03_Value.mono_l k
    · intro y0 y1 y2
      unfold stolonref03_Value.l0
      repeat' first
      | (with_reducible exact ih0 _ _ _)
      | (with_reducible exact LeO.refl _)
      | (with_reducible exact LeO.none _)
      | (with_reducible refine LeO.ite ?_ ?_)
      | (with_reducible refine LeO.bind ?_ (fun _ => ?_))
      | exact ih0 _ _ _
      | exact LeO.none _
      | refine LeO.ite ?_ ?_
      | refine LeO.bind ?_ (fun _ => ?_)
theorem stolonref03_Value.mono : ∀ a0 k, LeO (stolonref03_Value.f k a0) (stolonref03_Value.f (k + 1) a0) := by
  intro a0 k
  have ih0 := stolonref03_Value.mono_l k
  unfold stolonref03_Value.f
  repeat' first
      | (with_reducible exact ih0 _ _ _)
      | (with_reducible exact LeO.refl _)
      | (with_reducible exact LeO.none _)
      | (with_reducible refine LeO.ite ?_ ?_)
      | (with_reducible refine LeO.bind ?_ (fun _ => ?_))
      | exact ih0 _ _ _
      | exact LeO.none _
      | refine LeO.ite ?_ ?_
      | refine LeO.bind ?_ (fun _ => ?_)
set_option maxHeartbeats 8000000 in
set_option maxRecDepth 100000 in
theorem stolonref03_Value.calls (k : Nat) (a0 : Int) (r : Int) (w : World) (h : stolonref03_Value.f k a0 = some r) :
    Calls Try.prog 13 #[.int .u8 a0] w fun e w' => e = .returned (.int .i64 r) ∧ Drawn0 w w' := by
  have H : (if (wrap64 (a0)) < 128 then (some (wrap64 (a0))) else (stolonref03_Value.l0 k (wrap64 (a0)) (wrap64 ((Int.tmod (wrap64 (a0)) 16) + 16)) 0)) = some r := h
  clear h
  by_cases c2 : (wrap64 (a0)) < 128
  · rw [if_pos c2] at H
    have c2b0 : decide ((wrap64 (a0)) < 128) = true := decide_eq_true c2
    clear c2
    obtain rfl := Option.some.inj H
    go_enter Try.func13, Try.ntmps13
    go_wp2
    go_ret
    exact ⟨by first | rfl | (simp; done) | (simp [*]; done), by repeat (first | exact Drawn0.refl _ | apply Drawn0.step)⟩
  · rw [if_neg c2] at H
    have c2b0 : decide ((wrap64 (a0)) < 128) = false := decide_eq_false c2
    clear c2
    have H' := Aside0.mk H
    clear H
    go_enter Try.func13, Try.ntmps13
    go_wp2
    go_loopg [4, 5] k (fun kq v4 v5 w' => ∃ (x4_1 : Int) (x5_1 : Int), v4 = .int .i64 x4_1 ∧ v5 = .int .i64 x5_1 ∧ Aside0 (stolonref03_Value.l0 kq (wrap64 (a0)) x4_1 x5_1 = some r) ∧ Aside0 (kq ≤ k) ∧ Drawn0 w w')
    case atStart => exact ⟨(wrap64 ((Int.tmod (wrap64 (a0)) 16) + 16)), (0), (by first | rfl | (simp; done) | (simp [*]; done)), (by first | rfl | (simp; done) | (simp [*]; done)), H', ⟨Nat.le_refl _⟩, by repeat (first | exact Drawn0.refl _ | apply Drawn0.step)⟩
    case round =>
      clear H'
      try clear c1
      try clear c2
      try clear c2b0
      try clear p2
      obtain ⟨x4_1, x5_1, rfl, rfl, HA, HK1, ⟨m1, rfl⟩⟩ := hrel
      cases gk with
      | zero => exact absurd HA.out (by simp [stolonref03_Value.l0])
      | succ k1 =>
        have H := HA.out
        clear HA
        simp only [stolonref03_Value.l0] at H
        by_cases c3 : x5_1 < (wrap64 ((Int.tmod (wrap64 (Int.tdiv (wrap64 (a0)) 16)) 8) + 3))
        · rw [if_pos c3] at H
          have c3b0 : decide (x5_1 < (wrap64 ((Int.tmod (wrap64 (Int.tdiv (wrap64 (a0)) 16)) 8) + 3))) = true := decide_eq_true c3
          clear c3
          have H' := Aside0.mk H
          clear H
          go_wp2
          go_roundg k1
          case measure => have := HK1.out; omega
          case rel => exact ⟨(wrap64 (x4_1 * 2)), (wrap64 (x5_1 + 1)), (by first | rfl | (simp; done) | (simp [*]; done)), (by first | rfl | (simp; done) | (simp [*]; done)), H', ⟨by have := HK1.out; omega⟩, by repeat (first | exact Drawn0.refl _ | apply Drawn0.step)⟩
        · rw [if_neg c3] at H
          have c3b0 : decide (x5_1 < (wrap64 ((Int.tmod (wrap64 (Int.tdiv (wrap64 (a0)) 16)) 8) + 3))) = false := decide_eq_false c3
          clear c3
          obtain rfl := Option.some.inj H
          go_wp2
          go_ret
          exact ⟨by first | rfl | (simp; done) | (simp [*]; done), by repeat (first | exact Drawn0.refl _ | apply Drawn0.step)⟩

/-! ### stolonref03_Code: function 11 -/
def stolonref03_Code.l0 : Nat → Int → Int → Option (Int × Int)
  | 0, _, _ => none
  | k + 1, x0, x4 => if x4 < 256 then ((stolonref03_Value.f k ((x4) % 256)).bind fun t119 => (if t119 = x0 then (some ((x4) % 256, 0)) else (stolonref03_Code.l0 k x0 (wrap64 (x4 + 1))))) else (some (0, 1))
def stolonref03_Code.f (k : Nat) (a0 : Int) : Option (Int × Int) := stolonref03_Code.l0 k a0 0
theorem stolonref03_Code.mono_l : ∀ k, (∀ y0 y1, LeO (stolonref03_Code.l0 k y0 y1) (stolonref03_Code.l0 (k + 1) y0 y1))
  | 0 => fun _ _ r h => by simp [stolonref03_Code.l0] at h
  | k + 1 => by
    have ih0 := stolonref03_Code.mono_l k
    · intro y0 y1
      unfold stolonref03_Code.l0
      repeat' first
      | (with_reducible exact ih0 _ _)
      | (with_reducible exact stolonref03_Value.mono _ _)
      | (with_reducible exact LeO.refl _)
      | (with_reducible exact LeO.none _)
      | (with_reducible refine LeO.ite ?_ ?_)
      | (with_reducible refine LeO.bind ?_ (fun _ => ?_))
      | exact ih0 _ _
      | exact stolonref03_Value.mono _ _
      | exact LeO.none _
      | refine LeO.ite ?_ ?_
      | refine LeO.bind ?_ (fun _ => ?_)
theorem stolonref03_Code.mono : ∀ a0 k, LeO (stolonref03_Code.f k a0) (stolonref03_Code.f (k + 1) a0) := by
  intro a0 k
  have ih0 := stolonref03_Code.mono_l k
  unfold stolonref03_Code.f
  repeat' first
      | (with_reducible exact ih0 _ _)
      | (with_reducible exact stolonref03_Value.mono _ _)
      | (with_reducible exact LeO.refl _)
      | (with_reducible exact LeO.none _)
      | (with_reducible refine LeO.ite ?_ ?_)
      | (with_reducible refine LeO.bind ?_ (fun _ => ?_))
      | exact ih0 _ _
      | exact stolonref03_Value.mono _ _
      | exact LeO.none _
      | refine LeO.ite ?_ ?_
      | refine LeO.bind ?_ (fun _ => ?_)
set_option maxHeartbeats 8000000 in
set_option maxRecDepth 100000 in
theorem stolonref03_Code.calls (k : Nat) (a0 : Int) (r1 : Int) (r2 : Int) (w : World) (h : stolonref03_Code.f k a0 = some (r1, r2)) :
    Calls Try.prog 11 #[.int .i64 a0] w fun e w' => e = .returned (.tuple #[.int .u8 r1, .int .i64 r2]) ∧ Drawn0 w w' := by
  have H : (stolonref03_Code.l0 k a0 0) = some (r1, r2) := h
  clear h
  have H' := Aside0.mk H
  clear H
  go_enter Try.func11, Try.ntmps11
  go_wp2
  go_loopg [4] k (fun kq v4 w' => ∃ (x4_1 : Int), v4 = .int .i64 x4_1 ∧ Aside0 (stolonref03_Code.l0 kq a0 x4_1 = some (r1, r2)) ∧ Aside0 (kq ≤ k) ∧ Drawn0 w w')
  case atStart => exact ⟨(0), (by first | rfl | (simp; done) | (simp [*]; done)), H', ⟨Nat.le_refl _⟩, by repeat (first | exact Drawn0.refl _ | apply Drawn0.step)⟩
  case round =>
    clear H'
    try clear c1
    obtain ⟨x4_1, rfl, HA, HK1, ⟨m1, rfl⟩⟩ := hrel
    cases gk with
    | zero => exact absurd HA.out (by simp [stolonref03_Code.l0])
    | succ k1 =>
      have H := HA.out
      clear HA
      simp only [stolonref03_Code.l0] at H
      by_cases c2 : x4_1 < 256
      · rw [if_pos c2] at H
        have c2b0 : decide (x4_1 < 256) = true := decide_eq_true c2
        clear c2
        replace H := Option.bind_eq_some_iff.mp H
        obtain ⟨t119, A30, H⟩ := H
        replace H : (if t119 = a0 then (some ((x4_1) % 256, 0)) else (stolonref03_Code.l0 k1 a0 (wrap64 (x4_1 + 1)))) = some (r1, r2) := H
        have A3 := Aside0.mk A30
        clear A30
        by_cases c4 : t119 = a0
        · rw [if_pos c4] at H
          have c4b0 : (t119 == a0) = true := beq_iff_eq.mpr c4
          have c4b1 : (t119 != a0) = false := bne_eq_false_iff_eq.mpr c4
          clear c4
          simp only [Option.some.injEq, Prod.mk.injEq] at H
          obtain ⟨rfl, rfl⟩ := H
          go_wp2_with (first | ((with_reducible refine gate_callee (f := 13) rfl ?_); refine goesL_ (some 11) rfl rfl Try.func13 (by kernel_rfl) rfl #[.int .u8 ((x4_1) % 256)] rfl (by (try simp only [List.map_toArray, List.map_cons, List.map_nil]); first | done | rfl | (simp only [List.length_drop, List.length_take]; rfl)) ?_; (with_reducible refine (stolonref03_Value.calls k1 ((x4_1) % 256) t119 _ A3.out).mono ?_); rintro e w' ⟨rfl, ⟨nd, rfl⟩⟩; refine ⟨_, rfl, ?_⟩))
          go_ret2
          exact ⟨by first | rfl | (simp; done) | (simp [*]; done), by repeat (first | exact Drawn0.refl _ | apply Drawn0.step)⟩
        · rw [if_neg c4] at H
          have c4b0 : (t119 == a0) = false := beq_eq_false_iff_ne.mpr c4
          have c4b1 : (t119 != a0) = true := bne_iff_ne.mpr c4
          have H' := Aside0.mk H
          clear H
          go_wp2_with (first | ((with_reducible refine gate_callee (f := 13) rfl ?_); refine goesL_ (some 11) rfl rfl Try.func13 (by kernel_rfl) rfl #[.int .u8 ((x4_1) % 256)] rfl (by (try simp only [List.map_toArray, List.map_cons, List.map_nil]); first | done | rfl | (simp only [List.length_drop, List.length_take]; rfl)) ?_; (with_reducible refine (stolonref03_Value.calls k1 ((x4_1) % 256) t119 _ A3.out).mono ?_); rintro e w' ⟨rfl, ⟨nd, rfl⟩⟩; refine ⟨_, rfl, ?_⟩))
          go_roundg k1
          case measure => have := HK1.out; omega
          case rel => exact ⟨(wrap64 (x4_1 + 1)), (by first | rfl | (simp; done) | (simp [*]; done)), H', ⟨by have := HK1.out; omega⟩, by repeat (first | exact Drawn0.refl _ | apply Drawn0.step)⟩
      · rw [if_neg c2] at H
        have c2b0 : decide (x4_1 < 256) = false := decide_eq_false c2
        clear c2
        simp only [Option.some.injEq, Prod.mk.injEq] at H
        obtain ⟨rfl, rfl⟩ := H
        go_wp2
        go_ret2
        exact ⟨by first | rfl | (simp; done) | (simp [*]; done), by repeat (first | exact Drawn0.refl _ | apply Drawn0.step)⟩

end Go.Proofs.Ytlihbdinghoeeac.P

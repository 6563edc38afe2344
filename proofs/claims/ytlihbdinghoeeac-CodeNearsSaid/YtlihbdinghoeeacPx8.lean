/- For each Go function a Lean function, and the proof that a call comes to what it tells: made by program out of the translation (the kit's print, with texts by hand put in). No condition. -/
import Derived.Test.YtlihbdinghoeeacPx0
import Derived.Test.YtlihbdinghoeeacPx2
import Derived.Test.YtlihbdinghoeeacPx5
import Derived.Test.YtlihbdinghoeeacPx6
import Derived.Test.YtlihbdinghoeeacPx7
namespace Go.Proofs.Ytlihbdinghoeeac.P
open Go.RowKit Go.Proofs.Ytlihbdinghoeeac.HRows Go.Proofs.YtlihbdinghoeeacW.PrintWords Go.Proofs.YtlihbdinghoeeacW.PrintLast Go.Proofs.YtlihbdinghoeeacW.PrintMore
attribute [local go_sem] max2_int min2_int max_two min_two max_three min_three max_four min_four   -- for this text's walks alone
set_option linter.unusedVariables false
set_option linter.unusedSimpArgs false

/-! ### stolonref03_Near: function 16 -/
def stolonref03_Near.l0 : Nat → Int → Int → Int → Option (Int)
  | 0, _, _, _ => none
  | k + 1, x0, x3, x4 => if x4 < 256 then ((stolonref03_Value.f k ((x4) % 256)).bind fun t120 => (if t120 ≤ x0 then (stolonref03_Near.l0 k x0 x4 (wrap64 (x4 + 1))) else (stolonref03_Near.l0 k x0 x3 (wrap64 (x4 + 1))))) else (some ((x3) % 256))
def stolonref03_Near.f (k : Nat) (a0 : Int) : Option (Int) := stolonref03_Near.l0 k a0 0 0
theorem stolonref03_Near.mono_l : ∀ k, (∀ y0 y1 y2, LeO (stolonref03_Near.l0 k y0 y1 y2) (stolonref03_Near.l0 (k + 1) y0 y1 y2))
  | 0 => fun _ _ _ r h => by simp [stolonref03_Near.l0] at h
  | k + 1 => by
    have ih0 := stolonref03_Near.mono_l k
    · intro y0 y1 y2
      unfold stolonref03_Near.l0
      repeat' first
      | (with_reducible exact ih0 _ _ _)
      | (with_reducible exact stolonref03_Value.mono _ _)
      | (with_reducible exact LeO.refl _)
      | (with_reducible exact LeO.none _)
      | (with_reducible refine LeO.ite ?_ ?_)
      | (with_reducible refine LeO.bind ?_ (fun _ => ?_))
      | exact ih0 _ _ _
      | exact stolonref03_Value.mono _ _
      | exact LeO.none _
      | refine LeO.ite ?_ ?_
      | refine LeO.bind ?_ (fun _ => ?_)
theorem stolonref03_Near.mono : ∀ a0 k, LeO (stolonref03_Near.f k a0) (stolonref03_Near.f (k + 1) a0) := by
  intro a0 k
  have ih0 := stolonref03_Near.mono_l k
  unfold stolonref03_Near.f
  repeat' first
      | (with_reducible exact ih0 _ _ _)
      | (with_reducible exact stolonref03_Value.mono _ _)
      | (with_reducible exact LeO.refl _)
      | (with_reducible exact LeO.none _)
      | (with_reducible refine LeO.ite ?_ ?_)
      | (with_reducible refine LeO.bind ?_ (fun _ => ?_))
      | exact ih0 _ _ _
      | exact stolonref03_Value.mono _ _
      | exact LeO.none _
      | refine LeO.ite ?_ ?_
      | refine LeO.bind ?_ (fun _ => ?_)
set_option maxHeartbeats 8000000 in
set_option maxRecDepth 100000 in
theorem stolonref03_Near.calls (k : Nat) (a0 : Int) (r : Int) (w : World) (h : stolonref03_Near.f k a0 = some r) :
    Calls Try.prog 16 #[.int .i64 a0] w fun e w' => e = .returned (.int .u8 r) ∧ Drawn0 w w' := by
  have H : (stolonref03_Near.l0 k a0 0 0) = some r := h
  clear h
  have H' := Aside0.mk H
  clear H
  go_enter Try.func16, Try.ntmps16
  go_wp2
  go_loopg [3, 4] k (fun kq v3 v4 w' => ∃ (x3_1 : Int) (x4_1 : Int), v3 = .int .i64 x3_1 ∧ v4 = .int .i64 x4_1 ∧ Aside0 (stolonref03_Near.l0 kq a0 x3_1 x4_1 = some r) ∧ Aside0 (kq ≤ k) ∧ Drawn0 w w')
  case atStart => exact ⟨(0), (0), (by first | rfl | (simp; done) | (simp [*]; done)), (by first | rfl | (simp; done) | (simp [*]; done)), H', ⟨Nat.le_refl _⟩, by repeat (first | exact Drawn0.refl _ | apply Drawn0.step)⟩
  case round =>
    clear H'
    try clear c1
    obtain ⟨x3_1, x4_1, rfl, rfl, HA, HK1, ⟨m1, rfl⟩⟩ := hrel
    cases gk with
    | zero => exact absurd HA.out (by simp [stolonref03_Near.l0])
    | succ k1 =>
      have H := HA.out
      clear HA
      simp only [stolonref03_Near.l0] at H
      by_cases c2 : x4_1 < 256
      · rw [if_pos c2] at H
        have c2b0 : decide (x4_1 < 256) = true := decide_eq_true c2
        clear c2
        replace H := Option.bind_eq_some_iff.mp H
        obtain ⟨t120, A30, H⟩ := H
        replace H : (if t120 ≤ a0 then (stolonref03_Near.l0 k1 a0 x4_1 (wrap64 (x4_1 + 1))) else (stolonref03_Near.l0 k1 a0 x3_1 (wrap64 (x4_1 + 1)))) = some r := H
        have A3 := Aside0.mk A30
        clear A30
        by_cases c4 : t120 ≤ a0
        · rw [if_pos c4] at H
          have c4b0 : decide (t120 ≤ a0) = true := decide_eq_true c4
          clear c4
          have H' := Aside0.mk H
          clear H
          go_wp2_with (first | ((with_reducible refine gate_callee (f := 13) rfl ?_); refine goesL_ (some 11) rfl rfl Try.func13 (by kernel_rfl) rfl #[.int .u8 ((x4_1) % 256)] rfl (by (try simp only [List.map_toArray, List.map_cons, List.map_nil]); first | done | rfl | (simp only [List.length_drop, List.length_take]; rfl)) ?_; (with_reducible refine (stolonref03_Value.calls k1 ((x4_1) % 256) t120 _ A3.out).mono ?_); rintro e w' ⟨rfl, ⟨nd, rfl⟩⟩; refine ⟨_, rfl, ?_⟩))
          go_roundg k1
          case measure => have := HK1.out; omega
          case rel => exact ⟨(x4_1), (wrap64 (x4_1 + 1)), (by first | rfl | (simp; done) | (simp [*]; done)), (by first | rfl | (simp; done) | (simp [*]; done)), H', ⟨by have := HK1.out; omega⟩, by repeat (first | exact Drawn0.refl _ | apply Drawn0.step)⟩
        · rw [if_neg c4] at H
          have c4b0 : decide (t120 ≤ a0) = false := decide_eq_false c4
          clear c4
          have H' := Aside0.mk H
          clear H
          go_wp2_with (first | ((with_reducible refine gate_callee (f := 13) rfl ?_); refine goesL_ (some 11) rfl rfl Try.func13 (by kernel_rfl) rfl #[.int .u8 ((x4_1) % 256)] rfl (by (try simp only [List.map_toArray, List.map_cons, List.map_nil]); first | done | rfl | (simp only [List.length_drop, List.length_take]; rfl)) ?_; (with_reducible refine (stolonref03_Value.calls k1 ((x4_1) % 256) t120 _ A3.out).mono ?_); rintro e w' ⟨rfl, ⟨nd, rfl⟩⟩; refine ⟨_, rfl, ?_⟩))
          go_roundg k1
          case measure => have := HK1.out; omega
          case rel => exact ⟨(x3_1), (wrap64 (x4_1 + 1)), (by first | rfl | (simp; done) | (simp [*]; done)), (by first | rfl | (simp; done) | (simp [*]; done)), H', ⟨by have := HK1.out; omega⟩, by repeat (first | exact Drawn0.refl _ | apply Drawn0.step)⟩
      · rw [if_neg c2] at H
        have c2b0 : decide (x4_1 < 256) = false := decide_eq_false c2
        clear c2
        obtain rfl := Option.some.inj H
        go_wp2
        go_ret
        exact ⟨by first | rfl | (simp; done) | (simp [*]; done), by repeat (first | exact Drawn0.refl _ | apply Drawn0.step)⟩

/-! ### stolonlaw03_CodeTells: function 3 -/
def stolonlaw03_CodeTells.f (k : Nat) (a0 : Int) (a1 : Int) : Option (Bool) := (stolonlaw03_shown.f k).bind fun t121 => ((code_Code.f k a1).bind fun bt122 => ((stolonref03_Code.f k a1).bind fun bt124 => (if t121 = true then ((code_Value.f a0).bind fun t126 => ((stolonref03_Value.f k a0).bind fun t127 => (if t126 = t127 then (if bt122.1 = bt124.1 then (if bt122.2 = bt124.2 then ((code_Exact.f k a1).bind fun t128 => (if (t128 == (bt124.2 == 0)) = true then ((code_Near.f k a1).bind fun t129 => ((stolonref03_Near.f k a1).bind fun t130 => (some (t129 == t130)))) else (some false))) else (some false)) else (some false)) else (some false)))) else (some false))))
theorem stolonlaw03_CodeTells.mono : ∀ a0 a1 k, LeO (stolonlaw03_CodeTells.f k a0 a1) (stolonlaw03_CodeTells.f (k + 1) a0 a1) := by
  intro a0 a1 k
  unfold stolonlaw03_CodeTells.f
  repeat' first
      | (with_reducible exact code_Code.mono _ _)
      | (with_reducible exact code_Exact.mono _ _)
      | (with_reducible exact code_Near.mono _ _)
      | (with_reducible exact stolonlaw03_shown.mono _)
      | (with_reducible exact stolonref03_Code.mono _ _)
      | (with_reducible exact stolonref03_Near.mono _ _)
      | (with_reducible exact stolonref03_Value.mono _ _)
      | (with_reducible exact LeO.refl _)
      | (with_reducible exact LeO.none _)
      | (with_reducible refine LeO.ite ?_ ?_)
      | (with_reducible refine LeO.bind ?_ (fun _ => ?_))
      | exact code_Code.mono _ _
      | exact code_Exact.mono _ _
      | exact code_Near.mono _ _
      | exact stolonlaw03_shown.mono _
      | exact stolonref03_Code.mono _ _
      | exact stolonref03_Near.mono _ _
      | exact stolonref03_Value.mono _ _
      | exact LeO.none _
      | refine LeO.ite ?_ ?_
      | refine LeO.bind ?_ (fun _ => ?_)
set_option maxHeartbeats 8000000 in
set_option maxRecDepth 100000 in
theorem stolonlaw03_CodeTells.calls (k : Nat) (a0 : Int) (a1 : Int) (r : Bool) (w : World) (hTrue : Aside0 (r = true)) (h : stolonlaw03_CodeTells.f k a0 a1 = some r) :
    Calls Try.prog 3 #[.int .u8 a0, .int .i64 a1] w fun e w' => e = .returned (.bool r) ∧ Below w.heap.size w w' := by
  have HB := Aside0.mk (Below.refl w.heap.size w)
  have H : ((stolonlaw03_shown.f k).bind fun t121 => ((code_Code.f k a1).bind fun bt122 => ((stolonref03_Code.f k a1).bind fun bt124 => (if t121 = true then ((code_Value.f a0).bind fun t126 => ((stolonref03_Value.f k a0).bind fun t127 => (if t126 = t127 then (if bt122.1 = bt124.1 then (if bt122.2 = bt124.2 then ((code_Exact.f k a1).bind fun t128 => (if (t128 == (bt124.2 == 0)) = true then ((code_Near.f k a1).bind fun t129 => ((stolonref03_Near.f k a1).bind fun t130 => (some (t129 == t130)))) else (some false))) else (some false)) else (some false)) else (some false)))) else (some false))))) = some r := h
  clear h
  replace H := Option.bind_eq_some_iff.mp H
  obtain ⟨t121, A30, H⟩ := H
  replace H : ((code_Code.f k a1).bind fun bt122 => ((stolonref03_Code.f k a1).bind fun bt124 => (if t121 = true then ((code_Value.f a0).bind fun t126 => ((stolonref03_Value.f k a0).bind fun t127 => (if t126 = t127 then (if bt122.1 = bt124.1 then (if bt122.2 = bt124.2 then ((code_Exact.f k a1).bind fun t128 => (if (t128 == (bt124.2 == 0)) = true then ((code_Near.f k a1).bind fun t129 => ((stolonref03_Near.f k a1).bind fun t130 => (some (t129 == t130)))) else (some false))) else (some false)) else (some false)) else (some false)))) else (some false)))) = some r := H
  have A3 := Aside0.mk A30
  clear A30
  replace H := Option.bind_eq_some_iff.mp H
  obtain ⟨⟨t122, t123⟩, A40, H⟩ := H
  replace H : ((stolonref03_Code.f k a1).bind fun bt124 => (if t121 = true then ((code_Value.f a0).bind fun t126 => ((stolonref03_Value.f k a0).bind fun t127 => (if t126 = t127 then (if t122 = bt124.1 then (if t123 = bt124.2 then ((code_Exact.f k a1).bind fun t128 => (if (t128 == (bt124.2 == 0)) = true then ((code_Near.f k a1).bind fun t129 => ((stolonref03_Near.f k a1).bind fun t130 => (some (t129 == t130)))) else (some false))) else (some false)) else (some false)) else (some false)))) else (some false))) = some r := H
  have A4 := Aside0.mk A40
  clear A40
  replace H := Option.bind_eq_some_iff.mp H
  obtain ⟨⟨t124, t125⟩, A50, H⟩ := H
  replace H : (if t121 = true then ((code_Value.f a0).bind fun t126 => ((stolonref03_Value.f k a0).bind fun t127 => (if t126 = t127 then (if t122 = t124 then (if t123 = t125 then ((code_Exact.f k a1).bind fun t128 => (if (t128 == (t125 == 0)) = true then ((code_Near.f k a1).bind fun t129 => ((stolonref03_Near.f k a1).bind fun t130 => (some (t129 == t130)))) else (some false))) else (some false)) else (some false)) else (some false)))) else (some false)) = some r := H
  have A5 := Aside0.mk A50
  clear A50
  by_cases c6 : t121 = true
  · subst c6
    have H1 : ((code_Value.f a0).bind fun t126 => ((stolonref03_Value.f k a0).bind fun t127 => (if t126 = t127 then (if t122 = t124 then (if t123 = t125 then ((code_Exact.f k a1).bind fun t128 => (if (t128 == (t125 == 0)) = true then ((code_Near.f k a1).bind fun t129 => ((stolonref03_Near.f k a1).bind fun t130 => (some (t129 == t130)))) else (some false))) else (some false)) else (some false)) else (some false)))) = some r := by rw [if_pos rfl] at H; exact H
    clear H
    have H := H1
    clear H1
    replace H := Option.bind_eq_some_iff.mp H
    obtain ⟨t126, A70, H⟩ := H
    replace H : ((stolonref03_Value.f k a0).bind fun t127 => (if t126 = t127 then (if t122 = t124 then (if t123 = t125 then ((code_Exact.f k a1).bind fun t128 => (if (t128 == (t125 == 0)) = true then ((code_Near.f k a1).bind fun t129 => ((stolonref03_Near.f k a1).bind fun t130 => (some (t129 == t130)))) else (some false))) else (some false)) else (some false)) else (some false))) = some r := H
    have A7 := Aside0.mk A70
    clear A70
    replace H := Option.bind_eq_some_iff.mp H
    obtain ⟨t127, A80, H⟩ := H
    replace H : (if t126 = t127 then (if t122 = t124 then (if t123 = t125 then ((code_Exact.f k a1).bind fun t128 => (if (t128 == (t125 == 0)) = true then ((code_Near.f k a1).bind fun t129 => ((stolonref03_Near.f k a1).bind fun t130 => (some (t129 == t130)))) else (some false))) else (some false)) else (some false)) else (some false)) = some r := H
    have A8 := Aside0.mk A80
    clear A80
    by_cases c9 : t126 = t127
    · rw [if_pos c9] at H
      have c9b0 : (t126 == t127) = true := beq_iff_eq.mpr c9
      have c9b1 : (t126 != t127) = false := bne_eq_false_iff_eq.mpr c9
      clear c9
      by_cases c10 : t122 = t124
      · rw [if_pos c10] at H
        have c10b0 : (t122 == t124) = true := beq_iff_eq.mpr c10
        have c10b1 : (t122 != t124) = false := bne_eq_false_iff_eq.mpr c10
        clear c10
        by_cases c11 : t123 = t125
        · rw [if_pos c11] at H
          have c11b0 : (t123 == t125) = true := beq_iff_eq.mpr c11
          have c11b1 : (t123 != t125) = false := bne_eq_false_iff_eq.mpr c11
          clear c11
          replace H := Option.bind_eq_some_iff.mp H
          obtain ⟨t128, A120, H⟩ := H
          replace H : (if (t128 == (t125 == 0)) = true then ((code_Near.f k a1).bind fun t129 => ((stolonref03_Near.f k a1).bind fun t130 => (some (t129 == t130)))) else (some false)) = some r := H
          have A12 := Aside0.mk A120
          clear A120
          by_cases c13 : (t128 == (t125 == 0)) = true
          · rw [if_pos c13] at H
            have c13b0 : (t128 == (t125 == 0)) = true := c13
            (try (have c13b1 : decide (t128 = (t125 == 0)) = true := by simpa using c13))
            (try (have c13b2 : (t128 == (t125 == 0)) = true := by simpa using c13))
            clear c13
            replace H := Option.bind_eq_some_iff.mp H
            obtain ⟨t129, A140, H⟩ := H
            replace H : ((stolonref03_Near.f k a1).bind fun t130 => (some (t129 == t130))) = some r := H
            have A14 := Aside0.mk A140
            clear A140
            replace H := Option.bind_eq_some_iff.mp H
            obtain ⟨t130, A150, H⟩ := H
            replace H : (some (t129 == t130)) = some r := H
            have A15 := Aside0.mk A150
            clear A150
            obtain rfl := Option.some.inj H
            go_enter Try.func3, Try.ntmps3
            go_wp2_with (first | ((with_reducible refine gate_callee (f := 9) rfl ?_); refine goesL_ (some 10) rfl rfl Try.func9 (by kernel_rfl) rfl #[] rfl (by (try simp only [List.map_toArray, List.map_cons, List.map_nil]); first | done | rfl | (simp only [List.length_drop, List.length_take]; rfl)) ?_; (with_reducible refine (stolonlaw03_shown.calls k  true _ A3.out).mono ?_); rintro e w16 ⟨rfl, hb⟩; refine ⟨_, rfl, ?_⟩; have n0_ := Aside0.mk (below_step (by repeat (first | (with_reducible first | exact HB.out | apply below_alloc | apply pw_below_drewN | apply below_drew1) | exact HB.out)) hb); clear HB; have HB := n0_; clear n0_; (try clear hb); (try clear hb2); (try clear hk); (try clear hi)) | ((with_reducible refine gate_callee (f := 10) rfl ?_); refine goesL_ (some 13) rfl rfl Try.func10 (by kernel_rfl) rfl #[.int .i64 a1] rfl (by (try simp only [List.map_toArray, List.map_cons, List.map_nil]); first | done | rfl | (simp only [List.length_drop, List.length_take]; rfl)) ?_; (with_reducible refine (code_Code.calls k a1 t122 t123 _ A4.out).mono ?_); rintro e w17 ⟨rfl, hb⟩; refine ⟨_, rfl, ?_⟩; have n0_ := Aside0.mk (below_step (by repeat (first | (with_reducible first | exact HB.out | apply below_alloc | apply pw_below_drewN | apply below_drew1) | exact HB.out)) hb); clear HB; have HB := n0_; clear n0_; (try clear hb); (try clear hb2); (try clear hk); (try clear hi)) | ((with_reducible refine gate_callee (f := 11) rfl ?_); refine goesL_ (some 18) rfl rfl Try.func11 (by kernel_rfl) rfl #[.int .i64 a1] rfl (by (try simp only [List.map_toArray, List.map_cons, List.map_nil]); first | done | rfl | (simp only [List.length_drop, List.length_take]; rfl)) ?_; (with_reducible refine (stolonref03_Code.calls k a1 t124 t125 _ A5.out).mono ?_); rintro e w' ⟨rfl, ⟨nd, rfl⟩⟩; refine ⟨_, rfl, ?_⟩) | (go_at_call 12; (with_reducible refine (code_Value.calls a0 t126 _ A7.out).mono ?_); rintro e w18 ⟨rfl, hb⟩; have n0_ := Aside0.mk (below_step (by repeat (first | (with_reducible first | exact HB.out | apply below_alloc | apply pw_below_drewN | apply below_drew1) | exact HB.out)) hb); clear HB; have HB := n0_; clear n0_; (try clear hb); (try clear hb2); (try clear hk); (try clear hi)) | (go_at_call 13; (with_reducible refine (stolonref03_Value.calls k a0 t127 _ A8.out).mono ?_); rintro e w' ⟨rfl, ⟨nd, rfl⟩⟩) | (go_at_call 14; (with_reducible refine (code_Exact.calls k a1 t128 _ A12.out).mono ?_); rintro e w19 ⟨rfl, hb⟩; have n0_ := Aside0.mk (below_step (by repeat (first | (with_reducible first | exact HB.out | apply below_alloc | apply pw_below_drewN | apply below_drew1) | exact HB.out)) hb); clear HB; have HB := n0_; clear n0_; (try clear hb); (try clear hb2); (try clear hk); (try clear hi)) | (go_at_call 15; (with_reducible refine (code_Near.calls k a1 t129 _ A14.out).mono ?_); rintro e w20 ⟨rfl, hb⟩; have n0_ := Aside0.mk (below_step (by repeat (first | (with_reducible first | exact HB.out | apply below_alloc | apply pw_below_drewN | apply below_drew1) | exact HB.out)) hb); clear HB; have HB := n0_; clear n0_; (try clear hb); (try clear hb2); (try clear hk); (try clear hi)) | (go_at_call 16; (with_reducible refine (stolonref03_Near.calls k a1 t130 _ A15.out).mono ?_); rintro e w' ⟨rfl, ⟨nd, rfl⟩⟩))
            go_ret
            exact ⟨by first | rfl | (simp [errW_none, errW_some] <;> rfl) | (simp [*, errW_none, errW_some] <;> rfl), by repeat (first | (with_reducible first | exact HB.out | apply below_alloc | apply pw_below_drewN | apply below_drew1) | exact HB.out)⟩
          · rw [if_neg c13] at H
            have c13b0 : (t128 == (t125 == 0)) = false := by simpa using c13
            (try (have c13b1 : decide (t128 = (t125 == 0)) = false := by simpa using c13))
            (try (have c13b2 : (t128 == (t125 == 0)) = false := by simpa using c13))
            (try (have c13b3 : ¬ (t128 = (t125 == 0)) := by simpa using c13))
            clear c13
            exact absurd ((Option.some.inj H).trans hTrue.out) (by simp)
        · rw [if_neg c11] at H
          have c11b0 : (t123 == t125) = false := beq_eq_false_iff_ne.mpr c11
          have c11b1 : (t123 != t125) = true := bne_iff_ne.mpr c11
          exact absurd ((Option.some.inj H).trans hTrue.out) (by simp)
      · rw [if_neg c10] at H
        have c10b0 : (t122 == t124) = false := beq_eq_false_iff_ne.mpr c10
        have c10b1 : (t122 != t124) = true := bne_iff_ne.mpr c10
        exact absurd ((Option.some.inj H).trans hTrue.out) (by simp)
    · rw [if_neg c9] at H
      have c9b0 : (t126 == t127) = false := beq_eq_false_iff_ne.mpr c9
      have c9b1 : (t126 != t127) = true := bne_iff_ne.mpr c9
      exact absurd ((Option.some.inj H).trans hTrue.out) (by simp)
  · replace c6 := Bool.eq_false_iff.mpr c6
    subst c6
    have H1 : (some false) = some r := by rw [if_neg (show ¬ (false = true) by decide)] at H; exact H
    clear H
    have H := H1
    clear H1
    exact absurd ((Option.some.inj H).trans hTrue.out) (by simp)

end Go.Proofs.Ytlihbdinghoeeac.P

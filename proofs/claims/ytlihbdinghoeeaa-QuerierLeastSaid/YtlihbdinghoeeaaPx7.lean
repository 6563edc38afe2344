/- For each Go function a Lean function, and the proof that a call comes to what it tells: made by program out of the translation (the kit's print, with texts by hand put in). No condition. -/
import Derived.Test.YtlihbdinghoeeaaPx0
namespace Go.Proofs.Ytlihbdinghoeeaa.P
open Go.RowKit Go.Proofs.YtlihbdinghoeeaaW.PrintWords Go.Proofs.YtlihbdinghoeeaaW.PrintLast Go.Proofs.YtlihbdinghoeeaaW.PrintMore
attribute [local go_sem] max2_int min2_int max_two min_two max_three min_three max_four min_four   -- for this text's walks alone
set_option linter.unusedVariables false
set_option linter.unusedSimpArgs false

/-! ### querier_Tick: function 17, by hand (querier.Tick.lean.tpl) -/
def querier_Tick.f (a0_0 a0_1 a0_2 a0_3 a1_0 a1_1 a1_2 a1_3 a1_4 : Int) : Option (Int × Int × Int × Int × Int × Bool) :=
  if a1_1 = 0 then
    (if 0 < a1_3 then some (a1_0, a1_1, a1_2, wrap64 (a1_3 - 1), a1_4, false)
     else if 1 < a1_4 then some (a1_0, a1_1, a1_2, wrap64 (a0_1 - 1), mx (wrap64 (a1_4 - 1)) 0, true)
     else some (a1_0, a1_1, a1_2, wrap64 (a0_0 - 1), mx (wrap64 (a1_4 - 1)) 0, true))
  else if wrap64 (a1_2 - 1) = 0 then some (a1_0, 0, wrap64 (a1_2 - 1), 0, a0_2, false)
  else some (a1_0, a1_1, wrap64 (a1_2 - 1), a1_3, a1_4, false)
set_option maxHeartbeats 4000000 in
set_option maxRecDepth 100000 in
theorem querier_Tick.calls (a0_0 a0_1 a0_2 a0_3 a1_0 a1_1 a1_2 a1_3 a1_4 : Int) (r1 r2 r3 r4 r5 : Int) (r6 : Bool) (w : World) (h : querier_Tick.f a0_0 a0_1 a0_2 a0_3 a1_0 a1_1 a1_2 a1_3 a1_4 = some (r1, r2, r3, r4, r5, r6)) :
    Calls Try.prog 17 #[.agg #[.int .i64 a0_0, .int .i64 a0_1, .int .i64 a0_2, .int .i64 a0_3], .agg #[.int .u32 a1_0, .int .u32 a1_1, .int .i64 a1_2, .int .i64 a1_3, .int .i64 a1_4]] w fun e w' =>
      e = .returned (.tuple #[.agg #[.int .u32 r1, .int .u32 r2, .int .i64 r3, .int .i64 r4, .int .i64 r5], .bool r6]) ∧ Below w.heap.size w w' := by
  have hmf : ∀ (fn : Fn) (first cap : Array Value) (w : World), (Instr.makeFunc fn first cap).run Try.prog w = .ok (.func fn first cap) w := fun _ _ _ _ => rfl
  have hu := Try.underlying23
  have hu2 := Try.underlying27
  have hu3 := Try.underlying51
  unfold querier_Tick.f at h
  by_cases c1 : a1_1 = 0
  · rw [if_pos c1] at h
    have c1b : (a1_1 == 0) = true := beq_iff_eq.mpr c1
    clear c1
    by_cases c2 : 0 < a1_3
    · rw [if_pos c2] at h
      simp only [Option.some.injEq, Prod.mk.injEq] at h
      obtain ⟨rfl, rfl, rfl, rfl, rfl, rfl⟩ := h
      go_enter Try.func17, Try.ntmps17
      go_wp2
      refine bodyPost_ret (v := .tuple #[.agg #[.int .u32 a1_0, .int .u32 a1_1, .int .i64 a1_2, .int .i64 (wrap64 (a1_3 - 1)), .int .i64 a1_4], .bool false]) (by simp [results, Try.results17, go_sem]) rfl ⟨rfl, ?_⟩
      repeat (first | exact Below.refl _ _ | apply below_alloc)
    · rw [if_neg c2] at h
      by_cases c4 : wrap64 (a1_4 - 1) < 0
      · rw [show mx (wrap64 (a1_4 - 1)) 0 = 0 from if_pos c4] at h
        by_cases c3 : 1 < a1_4
        · rw [if_pos c3] at h
          simp only [Option.some.injEq, Prod.mk.injEq] at h
          obtain ⟨rfl, rfl, rfl, rfl, rfl, rfl⟩ := h
          go_enter Try.func17, Try.ntmps17
          go_wp2
          refine bodyPost_ret (v := .tuple #[.agg #[.int .u32 a1_0, .int .u32 a1_1, .int .i64 a1_2, .int .i64 (wrap64 (a0_1 - 1)), .int .i64 0], .bool true]) (by simp [results, Try.results17, go_sem]) rfl ⟨rfl, ?_⟩
          repeat (first | exact Below.refl _ _ | apply below_alloc)
        · rw [if_neg c3] at h
          simp only [Option.some.injEq, Prod.mk.injEq] at h
          obtain ⟨rfl, rfl, rfl, rfl, rfl, rfl⟩ := h
          go_enter Try.func17, Try.ntmps17
          go_wp2
          refine bodyPost_ret (v := .tuple #[.agg #[.int .u32 a1_0, .int .u32 a1_1, .int .i64 a1_2, .int .i64 (wrap64 (a0_0 - 1)), .int .i64 0], .bool true]) (by simp [results, Try.results17, go_sem]) rfl ⟨rfl, ?_⟩
          repeat (first | exact Below.refl _ _ | apply below_alloc)
      · rw [show mx (wrap64 (a1_4 - 1)) 0 = (wrap64 (a1_4 - 1)) from if_neg c4] at h
        by_cases c3 : 1 < a1_4
        · rw [if_pos c3] at h
          simp only [Option.some.injEq, Prod.mk.injEq] at h
          obtain ⟨rfl, rfl, rfl, rfl, rfl, rfl⟩ := h
          go_enter Try.func17, Try.ntmps17
          go_wp2
          refine bodyPost_ret (v := .tuple #[.agg #[.int .u32 a1_0, .int .u32 a1_1, .int .i64 a1_2, .int .i64 (wrap64 (a0_1 - 1)), .int .i64 (wrap64 (a1_4 - 1))], .bool true]) (by simp [results, Try.results17, go_sem]) rfl ⟨rfl, ?_⟩
          repeat (first | exact Below.refl _ _ | apply below_alloc)
        · rw [if_neg c3] at h
          simp only [Option.some.injEq, Prod.mk.injEq] at h
          obtain ⟨rfl, rfl, rfl, rfl, rfl, rfl⟩ := h
          go_enter Try.func17, Try.ntmps17
          go_wp2
          refine bodyPost_ret (v := .tuple #[.agg #[.int .u32 a1_0, .int .u32 a1_1, .int .i64 a1_2, .int .i64 (wrap64 (a0_0 - 1)), .int .i64 (wrap64 (a1_4 - 1))], .bool true]) (by simp [results, Try.results17, go_sem]) rfl ⟨rfl, ?_⟩
          repeat (first | exact Below.refl _ _ | apply below_alloc)
  · rw [if_neg c1] at h
    have c1b : (a1_1 == 0) = false := beq_eq_false_iff_ne.mpr c1
    clear c1
    by_cases c2 : wrap64 (a1_2 - 1) = 0
    · rw [if_pos c2] at h
      have c2b : (wrap64 (a1_2 - 1) == 0) = true := beq_iff_eq.mpr c2
      clear c2
      simp only [Option.some.injEq, Prod.mk.injEq] at h
      obtain ⟨rfl, rfl, rfl, rfl, rfl, rfl⟩ := h
      go_enter Try.func17, Try.ntmps17
      go_wp2
      refine bodyPost_ret (v := .tuple #[.agg #[.int .u32 a1_0, .int .u32 0, .int .i64 (wrap64 (a1_2 - 1)), .int .i64 0, .int .i64 a0_2], .bool false]) (by simp [results, Try.results17, go_sem]) rfl ⟨rfl, ?_⟩
      repeat (first | exact Below.refl _ _ | apply below_alloc)
    · rw [if_neg c2] at h
      have c2b : (wrap64 (a1_2 - 1) == 0) = false := beq_eq_false_iff_ne.mpr c2
      clear c2
      simp only [Option.some.injEq, Prod.mk.injEq] at h
      obtain ⟨rfl, rfl, rfl, rfl, rfl, rfl⟩ := h
      go_enter Try.func17, Try.ntmps17
      go_wp2
      refine bodyPost_ret (v := .tuple #[.agg #[.int .u32 a1_0, .int .u32 a1_1, .int .i64 (wrap64 (a1_2 - 1)), .int .i64 a1_3, .int .i64 a1_4], .bool false]) (by simp [results, Try.results17, go_sem]) rfl ⟨rfl, ?_⟩
      repeat (first | exact Below.refl _ _ | apply below_alloc)

end Go.Proofs.Ytlihbdinghoeeaa.P

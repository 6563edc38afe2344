/- The querier's functions, program and reference alike, as plain functions of numbers. -/
import Derived.Test.YtlihbdinghoeeaaPx10
import Derived.Test.YtlihbdinghoeeaaPx11
import Derived.Test.YtlihbdinghoeeaaPx12
import Derived.Test.YtlihbdinghoeeaaPx4
import Derived.Test.YtlihbdinghoeeaaPx5
import Derived.Test.YtlihbdinghoeeaaPx6
import Derived.Test.YtlihbdinghoeeaaPx7
import Derived.Test.YtlihbdinghoeeaaPx8
import Derived.Test.YtlihbdinghoeeaaPx9
namespace Go.Proofs.Ytlihbdinghoeeaa.P
open Go.RowKit Go.Proofs.YtlihbdinghoeeaaW.PrintWords Go.Proofs.YtlihbdinghoeeaaW.PrintLast Go.Proofs.YtlihbdinghoeeaaW.PrintMore

theorem wf_u32 {x : Int} (h : (Lit.int .u32 x).wf = true) : 0 ≤ x ∧ x ≤ 4294967295 := by
  simp only [Lit.wf, Bool.and_eq_true, decide_eq_true_eq] at h
  exact ⟨h.1, h.2⟩
theorem wf_u8 {x : Int} (h : (Lit.int .u8 x).wf = true) : 0 ≤ x ∧ x ≤ 255 := by
  simp only [Lit.wf, Bool.and_eq_true, decide_eq_true_eq] at h
  exact ⟨h.1, h.2⟩
theorem wf_i64 {x : Int} (h : (Lit.int .i64 x).wf = true) : -9223372036854775808 ≤ x ∧ x ≤ 9223372036854775807 := by
  simp only [Lit.wf, Bool.and_eq_true, decide_eq_true_eq] at h
  exact ⟨h.1, h.2⟩

/-- A pace may be. -/
def MayP (a b c d : Int) : Prop := (1 ≤ a ∧ a ≤ 1000000) ∧ (1 ≤ b ∧ b ≤ 1000000) ∧ (1 ≤ d ∧ d ≤ 1000000) ∧ 1 ≤ c ∧ c ≤ 100
instance (a b c d : Int) : Decidable (MayP a b c d) := by unfold MayP; infer_instance
theorem may_prog (a b c d : Int) : querier_May.f a b c d = some (decide (MayP a b c d)) := by
  unfold querier_May.f
  refine congrArg some ?_
  by_cases h : MayP a b c d
  · rw [decide_eq_true h]
    unfold MayP at h
    have h1 : oddT a = false := oddT_false (by omega) (by omega)
    have h2 : oddT b = false := oddT_false (by omega) (by omega)
    have h3 : oddT d = false := oddT_false (by omega) (by omega)
    simp only [mayB, List.any_cons, List.any_nil, h1, h2, h3, decide_eq_true (show 1 ≤ c by omega), decide_eq_true (show c ≤ 100 by omega)]
    rfl
  · rw [decide_eq_false h]
    unfold MayP at h
    cases hm : mayB a b c d with
    | false => rfl
    | true =>
      exfalso
      simp only [mayB, List.any_cons, List.any_nil, Bool.and_eq_true, Bool.not_eq_true', Bool.or_eq_false_iff, oddT, decide_eq_true_eq, decide_eq_false_iff_not] at hm
      omega
theorem may_ref (a b c d : Int) : stolonref10_May.f a b c d = some (decide (MayP a b c d)) := by
  unfold stolonref10_May.f MayP
  repeat' split
  all_goals first
    | exact congrArg some (decide_eq_false (by omega)).symm
    | exact congrArg some (decide_eq_decide.2 (by constructor <;> intro _ <;> omega))

/-- A querier is right. -/
def RightP (m o l n s : Int) : Prop := 0 < m ∧ ((o = 0 ∧ l = 0) ∨ (o ≠ 0 ∧ o < m ∧ 1 ≤ l ∧ l ≤ 1000000)) ∧ (0 ≤ n ∧ n ≤ 1000000) ∧ 0 ≤ s ∧ s ≤ 100
instance (m o l n s : Int) : Decidable (RightP m o l n s) := by unfold RightP; infer_instance
theorem asks_prog (m o l n s : Int) : querier_Asks.f m o l n s = some (o == 0) := rfl
theorem right_prog (m o l n s : Int) : querier_Right.f m o l n s = some (decide (RightP m o l n s)) := by
  unfold querier_Right.f RightP
  rw [asks_prog]
  simp only [Option.bind_some, beq_iff_eq]
  repeat' split
  all_goals first
    | exact congrArg some (decide_eq_false (by omega)).symm
    | exact congrArg some (decide_eq_decide.2 (by constructor <;> intro _ <;> omega))
theorem right_ref_j (k : Nat) (b : Bool) (m o l n s : Int) (hm : 0 < m) (hn : 0 ≤ n ∧ n ≤ 1000000) (hs : 0 ≤ s) (hb : b = decide (s > 100)) : stolonref10_Right.j0 (k + 1) b m o l n s = some (decide (RightP m o l n s)) := by
  rw [stolonref10_Right.j0]
  unfold RightP
  subst hb
  simp only [decide_eq_true_eq]
  repeat' split
  all_goals first
    | exact congrArg some (decide_eq_false (by omega)).symm
    | exact congrArg some (decide_eq_decide.2 (by constructor <;> intro _ <;> omega))
    | (rw [Option.some.injEq, Bool.eq_iff_iff]; simp only [beq_iff_eq, decide_eq_true_eq]; omega)
theorem right_ref (k : Nat) (hk : 0 < k) (m o l n s : Int) (hm : 0 ≤ m) : stolonref10_Right.f k m o l n s = some (decide (RightP m o l n s)) := by
  obtain ⟨k, rfl⟩ : ∃ j, k = j + 1 := ⟨k - 1, by omega⟩
  unfold stolonref10_Right.f
  have hj : ¬ RightP m o l n s → stolonref10_Right.j0 (k + 1) true m o l n s = some (decide (RightP m o l n s)) := by
    intro h
    rw [stolonref10_Right.j0, if_pos rfl]
    exact congrArg some (decide_eq_false h).symm
  repeat' split
  all_goals first
    | exact hj (by unfold RightP; omega)
    | exact right_ref_j k _ m o l n s (by omega) (by omega) (by omega) rfl
theorem new_prog (a b c d m : Int) : querier_New.f a b c d m = some (if MayP a b c d ∧ m ≠ 0 then (m, 0, 0, 0, c, 0) else (0, 0, 0, 0, 0, 1)) := by
  unfold querier_New.f
  rw [may_prog]
  simp only [Option.bind_some, decide_eq_true_eq]
  by_cases h1 : MayP a b c d <;> by_cases h2 : m = 0 <;> simp [h1, h2]
theorem hear_prog (a b c d m o l n s x : Int) (hx : 0 ≤ x) : querier_Hear.f a b c d m o l n s x = some (if x = 0 ∨ m ≤ x ∨ (o ≠ 0 ∧ o < x) then (m, o, l, n, s) else (m, x, d, n, s)) := by
  unfold querier_Hear.f
  rw [asks_prog]
  simp only [Option.bind_some, beq_iff_eq]
  repeat' split
  all_goals first
    | rfl
    | omega
/-- A tick on, no number out of its bounds. -/
def tickS (a b c m o l n s : Int) : Int × Int × Int × Int × Int × Bool :=
  if o = 0 then (if 0 < n then (m, 0, 0, n - 1, s, false) else if 1 < s then (m, 0, 0, b - 1, s - 1, true) else (m, 0, 0, a - 1, 0, true))
  else if 1 < l then (m, o, l - 1, n, s, false) else (m, 0, 0, 0, c, false)
theorem w64 {x : Int} (h : -9223372036854775808 ≤ x ∧ x ≤ 9223372036854775807) : wrap64 x = x := by unfold wrap64; omega
theorem tick_prog (a b c d m o l n s : Int) (hp : MayP a b c d) (hr : RightP m o l n s) : querier_Tick.f a b c d m o l n s = some (tickS a b c m o l n s) := by
  unfold MayP at hp
  unfold RightP at hr
  unfold querier_Tick.f tickS
  rw [w64 (x := l - 1) (by omega), w64 (x := n - 1) (by omega), w64 (x := s - 1) (by omega), w64 (x := a - 1) (by omega), w64 (x := b - 1) (by omega)]
  by_cases h1 : o = 0
  · have hl : l = 0 := by omega
    subst h1 hl
    simp only [if_pos]
    by_cases h2 : 0 < n
    · simp only [if_pos h2]
    · simp only [if_neg h2]
      by_cases h3 : 1 < s
      · simp only [if_pos h3]
        rw [show mx (s - 1) 0 = s - 1 from by unfold mx; omega]
      · simp only [if_neg h3]
        rw [show mx (s - 1) 0 = 0 from by unfold mx; omega]
  · simp only [if_neg h1]
    by_cases h2 : 1 < l
    · rw [if_neg (by omega), if_pos h2]
    · rw [if_pos (by omega), if_neg h2]
      rw [show l - 1 = 0 from by omega]
theorem new_ref (a b c d m : Int) : stolonref10_New.f a b c d m = some (if MayP a b c d ∧ m ≠ 0 then (m, 0, 0, 0, c, 0) else (0, 0, 0, 0, 0, 1)) := by
  unfold stolonref10_New.f
  rw [may_ref]
  simp only [Option.bind_some, decide_eq_true_eq]
  by_cases h1 : MayP a b c d <;> by_cases h2 : m = 0 <;> simp [h1, h2]
theorem hear_ref (a b c d m o l n s x : Int) : stolonref10_Hear.f a b c d m o l n s x = some (if x = 0 ∨ m ≤ x ∨ (o ≠ 0 ∧ o < x) then (m, o, l, n, s) else (m, x, d, n, s)) := by
  unfold stolonref10_Hear.f
  repeat' split
  all_goals first
    | rfl
    | omega
theorem tick_ref (a b c d m o l n s : Int) (hp : MayP a b c d) (hr : RightP m o l n s) : stolonref10_Tick.f a b c d m o l n s = some (tickS a b c m o l n s) := by
  unfold MayP at hp
  unfold RightP at hr
  unfold stolonref10_Tick.f tickS
  rw [w64 (x := l - 1) (by omega), w64 (x := n - 1) (by omega), w64 (x := s - 1) (by omega), w64 (x := a - 1) (by omega), w64 (x := b - 1) (by omega)]
  repeat' split
  all_goals first
    | rfl
    | omega
theorem tick_right (a b c d m o l n s : Int) (hp : MayP a b c d) (hr : RightP m o l n s) :
    RightP (tickS a b c m o l n s).1 (tickS a b c m o l n s).2.1 (tickS a b c m o l n s).2.2.1 (tickS a b c m o l n s).2.2.2.1 (tickS a b c m o l n s).2.2.2.2.1 := by
  unfold MayP at hp
  unfold RightP at hr
  unfold tickS
  repeat' split
  all_goals (unfold RightP; dsimp only; omega)
theorem shown_true : stolonlaw10_shown.f = some true := by decide +kernel
end Go.Proofs.Ytlihbdinghoeeaa.P

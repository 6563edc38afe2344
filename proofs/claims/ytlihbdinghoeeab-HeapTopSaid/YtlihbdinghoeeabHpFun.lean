/- The heap's functions, program and reference alike, as plain functions of rows. -/
import Derived.Test.YtlihbdinghoeeabHpSink
import Derived.Test.YtlihbdinghoeeabPx11
import Derived.Test.YtlihbdinghoeeabPx17
import Derived.Test.YtlihbdinghoeeabPx2
import Derived.Test.YtlihbdinghoeeabPx20
import Derived.Test.YtlihbdinghoeeabPx4
import Derived.Test.YtlihbdinghoeeabPx5
import Derived.Test.YtlihbdinghoeeabPx6
import Derived.Test.YtlihbdinghoeeabPx7
import Derived.Test.YtlihbdinghoeeabPx8
namespace Go.Proofs.Ytlihbdinghoeeab.P
set_option linter.unusedVariables false
open Go.RowKit Go.Proofs.YtlihbdinghoeeabW.PrintWords Go.Proofs.YtlihbdinghoeeabW.PrintLast Go.Proofs.YtlihbdinghoeeabW.PrintMore

theorem w64 {x : Int} (h : -9223372036854775808 ≤ x ∧ x ≤ 9223372036854775807) : wrap64 x = x := by unfold wrap64; omega
theorem w01 : wrap64 (0 + 1) = 1 := by unfold wrap64; omega
theorem w11 : wrap64 (1 + 1) = 2 := by unfold wrap64; omega
theorem w201 : wrap64 (wrap64 (2 * 0) + 1) = 1 := by unfold wrap64; omega
theorem w202 : wrap64 (wrap64 (2 * 0) + 2) = 2 := by unfold wrap64; omega
theorem cmp_ok (a b : Int) : cmp_Compare_int.f a b = some (if a < b then -1 else if a > b then 1 else 0) := by
  unfold cmp_Compare_int.f cmp_isNaN_int.f
  simp only [Option.bind_some, bne_self_eq_false, Bool.false_eq_true, if_false]
  repeat' split
  all_goals rfl
theorem or_ok (a b : Int) (k : Nat) (hk : 3 ≤ k) : cmp_Or_int.f k [a, b] = some (if a = 0 then b else a) := by
  obtain ⟨k, rfl⟩ : ∃ j, k = j + 1 + 1 + 1 := ⟨k - 3, by omega⟩
  unfold cmp_Or_int.f
  rw [cmp_Or_int.l0, if_pos (by simp), if_pos (by omega), if_pos (by simp), show rd [a, b] 0 = a from rfl]
  by_cases h : a = 0
  · rw [if_pos h, if_pos h, w01, cmp_Or_int.l0, if_pos (by simp), if_pos (by omega), if_pos (by simp), show rd [a, b] 1 = b from rfl]
    by_cases h2 : b = 0
    · rw [if_pos h2, w11, cmp_Or_int.l0, if_neg (by simp), h2]
    · rw [if_neg h2]
  · rw [if_neg h, if_neg h]
theorem less_ok (a b : It) (k : Nat) (hk : 3 ≤ k) : heap_Less.f k a.f0 a.f1 b.f0 b.f1 = some (decide (lt a b)) := by
  unfold heap_Less.f
  rw [cmp_ok, cmp_ok]
  simp only [Option.bind_some]
  rw [or_ok _ _ k hk]
  simp only [Option.bind_some]
  refine congrArg some (decide_eq_decide.2 ?_)
  unfold lt
  repeat' split
  all_goals omega
theorem less_ref (a b : It) : stolonref12_Less.f a.f0 a.f1 b.f0 b.f1 = some (decide (lt a b)) := by
  unfold stolonref12_Less.f lt
  repeat' split
  all_goals first
    | exact congrArg some (decide_eq_true (by omega)).symm
    | exact congrArg some (decide_eq_false (by omega)).symm
    | exact congrArg some (decide_eq_decide.2 (by constructor <;> intro _ <;> omega))
theorem above_ok (n : Nat) (h : 0 < n) (hb : n ≤ 1000000000000000) : heap_above.f (n : Int) = some (((n - 1) / 2 : Nat) : Int) := by
  unfold heap_above.f
  rw [w64 (x := (n : Int) - 1) (by omega), Int.tdiv_eq_ediv_of_nonneg (by omega), w64 (by omega)]
  exact congrArg some (by omega)
theorem rise_ok (i : Nat) : ∀ (l : List It) (k : Nat), i < l.length → l.length ≤ 1000000000000000 → 2 * i + 6 ≤ k → heap_rise.l0 k l (i : Int) = some (riseL l i) := by
  induction i using Nat.strongRecOn with
  | _ i ih =>
    intro l k hi hl hk
    obtain ⟨k, rfl⟩ : ∃ j, k = j + 1 + 1 := ⟨k - 2, by omega⟩
    rw [heap_rise.l0, riseL]
    by_cases h0 : 0 < i
    · rw [if_pos (by omega), if_pos (by omega), if_pos (by omega), above_ok i h0 (by omega)]
      simp only [Option.bind_some]
      rw [if_pos (by omega), if_pos (by omega), less_ok _ _ _ (by omega), rd_nat, rd_nat]
      simp only [Option.bind_some]
      rw [heap_rise.j1]
      by_cases hlt : lt (at' l i) (at' l ((i - 1) / 2))
      · rw [if_pos (decide_eq_true hlt), if_pos ⟨h0, hlt⟩, above_ok i h0 (by omega)]
        simp only [Option.bind_some]
        rw [if_pos (by omega), if_pos (by omega), if_pos (by omega), if_pos (by omega), if_pos (by omega), if_pos (by omega)]
        exact ih ((i - 1) / 2) (by omega) (swp l i ((i - 1) / 2)) k (by rw [swp_length]; omega) (by rw [swp_length]; omega) (by omega)
      · rw [if_neg (by simpa using hlt), if_neg (fun h => hlt h.2)]
    · rw [if_neg (by omega), heap_rise.j1, if_neg (by simp), if_neg (fun h => h0 h.1)]
theorem riseF_ok (l : List It) (x : It) (k : Nat) (hl : l.length ≤ 100000000000000) (hk : 2 * l.length + 6 ≤ k) : heap_rise.f k (l ++ [x]) = some (pushL l x) := by
  unfold heap_rise.f pushL
  rw [show wrap64 (((l ++ [x]).length : Int) - 1) = ((l.length : Nat) : Int) from by rw [List.length_append, List.length_singleton, w64 (by omega)]; omega]
  exact rise_ok l.length _ _ (by simp) (by simp; omega) (by omega)
theorem sink_end (l : List It) (i b k : Nat) (c1 c2 : Int) (hi : i < l.length) (hb : b < l.length) : heap_sink.l1 (k + 1) l i b 2 c1 c2 = if b = i then some l else heap_sink.l0 k (swp l i b) b := by
  rw [heap_sink.l1, if_neg (by omega)]
  by_cases h : b = i
  · rw [if_pos (by omega), if_pos h]
  · rw [if_neg (by omega), if_neg h, if_pos (by omega), if_pos (by omega), if_pos (by omega), if_pos (by omega)]
    rfl
theorem sink_two (l : List It) (i b k : Nat) (c1 : Int) (hb : b < l.length) (hl : l.length ≤ 1000000000000000) (hi : i < l.length) (hk : 3 ≤ k) : heap_sink.l1 (k + 1) l i b 1 c1 ((2 * i + 2 : Nat) : Int) =
    heap_sink.l1 k l i (if 2 * i + 2 < l.length ∧ lt (at' l (2 * i + 2)) (at' l b) then 2 * i + 2 else b : Nat) 2 c1 ((2 * i + 2 : Nat) : Int) := by
  rw [heap_sink.l1, if_pos (by omega), if_neg (by omega), if_pos rfl, w11]
  by_cases h : 2 * i + 2 < l.length
  · rw [if_pos (by omega), if_pos (by omega), if_pos (by omega), if_pos (by omega), less_ok _ _ _ hk, rd_nat, rd_nat]
    simp only [Option.bind_some, decide_eq_true_eq]
    by_cases h2 : lt (at' l (2 * i + 2)) (at' l b)
    · rw [if_pos h2, if_pos ⟨h, h2⟩]
    · rw [if_neg h2, if_neg (fun h3 => h2 h3.2)]
  · rw [if_neg (by omega), if_neg (fun h3 => h h3.1)]
theorem sink_one (l : List It) (i k : Nat) (c2 : Int) (hl : l.length ≤ 1000000000000000) (hi : i < l.length) (hk : 3 ≤ k) : heap_sink.l1 (k + 1) l i i 0 ((2 * i + 1 : Nat) : Int) c2 =
    heap_sink.l1 k l i (child1 l i : Nat) 1 ((2 * i + 1 : Nat) : Int) c2 := by
  unfold child1
  rw [heap_sink.l1, if_pos (by omega), if_pos rfl, w01]
  by_cases h : 2 * i + 1 < l.length
  · rw [if_pos (by omega), if_pos (by omega), if_pos (by omega), if_pos (by omega), less_ok _ _ _ hk, rd_nat, rd_nat]
    simp only [Option.bind_some, decide_eq_true_eq]
    by_cases h2 : lt (at' l (2 * i + 1)) (at' l i)
    · rw [if_pos h2, if_pos ⟨h, h2⟩]
    · rw [if_neg h2, if_neg (fun h3 => h2 h3.2)]
  · rw [if_neg (by omega), if_neg (fun h3 => h h3.1)]
theorem child1_lt {l : List It} {i : Nat} (hi : i < l.length) : child1 l i < l.length := by
  rcases child1_cases l i with ⟨h1, h2, _⟩ | ⟨h1, _⟩ <;> omega
theorem least_lt {l : List It} {i : Nat} (hi : i < l.length) : least l i < l.length := by
  rcases least_cases l i with ⟨h1, _⟩ | ⟨_, h2, _⟩ <;> omega
theorem sink_ok (d : Nat) : ∀ (l : List It) (i k : Nat), l.length - i ≤ d → i < l.length → l.length ≤ 1000000000000000 → 4 * d + 8 ≤ k → heap_sink.l0 k l (i : Int) = some (sinkL l i) := by
  induction d with
  | zero => intro l i k h1 h2; omega
  | succ d ih =>
    intro l i k hd hi hl hk
    obtain ⟨k, rfl⟩ : ∃ j, k = j + 1 + 1 + 1 + 1 := ⟨k - 4, by omega⟩
    rw [heap_sink.l0, w64 (x := 2 * (i : Int)) (by omega), w64 (by omega), w64 (by omega), show 2 * (i : Int) + 1 = ((2 * i + 1 : Nat) : Int) from by omega, show 2 * (i : Int) + 2 = ((2 * i + 2 : Nat) : Int) from by omega,
      sink_one l i _ _ hl hi (by omega), sink_two l i _ _ _ (child1_lt hi) hl hi (by omega)]
    have hb := least_lt hi
    have hlst : (if 2 * i + 2 < l.length ∧ lt (at' l (2 * i + 2)) (at' l (child1 l i)) then 2 * i + 2 else child1 l i : Nat) = least l i := rfl
    rw [hlst, sink_end l i _ _ _ _ hi hb, sinkL]
    by_cases h : least l i = i
    · rw [if_pos h, if_pos h]
    · rw [if_neg h, if_neg h]
      have := least_ne h
      exact ih (swp l i (least l i)) (least l i) k (by rw [swp_length]; omega) (by rw [swp_length]; omega) (by rw [swp_length]; omega) (by omega)
theorem sinkF_ok (l : List It) (k : Nat) (hl : l.length ≤ 1000000000000000) (hk : 4 * l.length + 8 ≤ k) : heap_sink.f k l = some (sinkL l 0) := by
  unfold heap_sink.f
  rcases Nat.eq_zero_or_pos l.length with h0 | h0
  · obtain rfl := List.eq_nil_of_length_eq_zero h0
    obtain ⟨k, rfl⟩ : ∃ j, k = j + 1 + 1 + 1 + 1 := ⟨k - 4, by simp at hk; omega⟩
    rw [heap_sink.l0, w201, w202, heap_sink.l1, if_pos (by omega), if_pos rfl, if_neg (by simp), w01, heap_sink.l1, if_pos (by omega), if_neg (by omega), if_pos rfl, if_neg (by simp), w11, heap_sink.l1, if_neg (by omega), if_pos rfl]
    rw [sinkL, if_pos (by rfl)]
  · exact sink_ok l.length l 0 k (by omega) h0 hl hk
theorem copied_ok (l : List It) (a : Int) (h0 : 0 ≤ a) (hl : (l.length : Int) + a ≤ 8796093022208) : heap_copied.f l a = some l := by
  unfold heap_copied.f
  rw [if_pos ⟨h0, hl⟩]
theorem push_ok (l : List It) (x : It) (k : Nat) (hl : l.length ≤ 1000000000) (hk : 2 * l.length + 6 ≤ k) : heap_Push.f k l x.f0 x.f1 = some (pushL l x) := by
  unfold heap_Push.f
  rw [copied_ok l 1 (by omega) (by omega)]
  simp only [Option.bind_some]
  rw [if_pos (by simp; omega)]
  have := riseF_ok l x k (by omega) hk
  rw [show heap_rise.f k (l ++ [⟨x.f0, x.f1⟩]) = heap_rise.f k (l ++ [x]) from rfl, this]
  rfl
theorem pop_nil (k : Nat) : heap_Pop.f k [] = some ([], 0, 0, false) := by
  unfold heap_Pop.f
  exact if_pos (show ((([] : List It).length : Nat) : Int) = 0 from rfl)
theorem pop_ok (l : List It) (k : Nat) (h0 : 0 < l.length) (hl : l.length ≤ 1000000000) (hk : 4 * l.length + 8 ≤ k) : heap_Pop.f k l = some (popL l, (at' l 0).f0, (at' l 0).f1, true) := by
  unfold heap_Pop.f
  rw [if_neg (by omega), copied_ok l 0 (by omega) (by omega)]
  simp only [Option.bind_some]
  have e : wrap64 ((l.length : Int) - 1) = ((l.length - 1 : Nat) : Int) := by rw [w64 (by omega)]; omega
  rw [e, if_pos (by omega), if_pos (by omega), if_pos (by omega), if_pos (by omega)]
  have := sinkF_ok ((l.set 0 (at' l (l.length - 1))).take (l.length - 1)) k (by simp; omega) (by simp; omega)
  rw [show heap_sink.f k ((l.set (0 : Int).toNat ⟨(rd_T24 l ((l.length - 1 : Nat) : Int)).f0, (rd_T24 l ((l.length - 1 : Nat) : Int)).f1⟩).take ((l.length - 1 : Nat) : Int).toNat) = heap_sink.f k ((l.set 0 (at' l (l.length - 1))).take (l.length - 1)) from rfl, this]
  simp only [Option.bind_some]
  rw [if_pos (by omega)]
  rfl
theorem make_loop (l : List It) (hl : l.length ≤ 1000000) : ∀ (t k i : Nat) (o : List It), l.length - i = t → i ≤ l.length → o.length = i → t + 2 * l.length + 10 ≤ k → heap_Make.l0 k o l (l.length : Int) i = some ((l.drop i).foldl pushL o) := by
  intro t
  induction t with
  | zero =>
    intro k i o ht hi ho hk
    obtain ⟨k, rfl⟩ : ∃ j, k = j + 1 := ⟨k - 1, by omega⟩
    rw [heap_Make.l0, if_neg (by omega), List.drop_of_length_le (by omega)]
    rfl
  | succ t ih =>
    intro k i o ht hi ho hk
    obtain ⟨k, rfl⟩ : ∃ j, k = j + 1 := ⟨k - 1, by omega⟩
    have hlt : i < l.length := by omega
    rw [heap_Make.l0, if_pos (by omega), if_pos (by omega), if_pos (by omega), if_pos (by omega)]
    have := riseF_ok o (at' l i) k (by omega) (by omega)
    rw [show heap_rise.f k (o ++ [⟨(rd_T24 l (i : Int)).f0, (rd_T24 l (i : Int)).f1⟩]) = heap_rise.f k (o ++ [at' l i]) from rfl, this]
    simp only [Option.bind_some]
    rw [w64 (by omega), show (i : Int) + 1 = ((i + 1 : Nat) : Int) from by omega, ih k (i + 1) _ (by omega) (by omega) (by rw [pushL_length, ho]) (by omega), List.drop_eq_getElem_cons hlt, List.foldl_cons, at_eq l i hlt]
theorem make_ok (l : List It) (k : Nat) (hl : l.length ≤ 1000000) (hk : 3 * l.length + 10 ≤ k) : heap_Make.f k l = some (makeL l) := by
  unfold heap_Make.f makeL
  have := make_loop l hl l.length k 0 [] (by omega) (by omega) rfl (by omega)
  simpa using this
theorem sort_loop : ∀ (n k : Nat) (o h : List It), h.length = n → o.length + n ≤ 1000000 → 5 * n + 10 ≤ k → heap_Sort.l0 k o h = some (o ++ drain h) := by
  intro n
  induction n with
  | zero =>
    intro k o h hn ho hk
    obtain ⟨k, rfl⟩ : ∃ j, k = j + 1 := ⟨k - 1, by omega⟩
    rw [heap_Sort.l0, if_neg (by omega), drain, if_pos hn, List.append_nil]
  | succ n ih =>
    intro k o h hn ho hk
    obtain ⟨k, rfl⟩ : ∃ j, k = j + 1 := ⟨k - 1, by omega⟩
    have e : wrap64 ((h.length : Int) - 1) = ((h.length - 1 : Nat) : Int) := by rw [w64 (by omega)]; omega
    rw [heap_Sort.l0, if_pos (by omega), if_pos (by omega), e, if_pos (by omega), if_pos (by omega), if_pos (by omega)]
    have := sinkF_ok ((h.set 0 (at' h (h.length - 1))).take (h.length - 1)) k (by simp; omega) (by simp; omega)
    rw [show heap_sink.f k ((h.set (0 : Int).toNat ⟨(rd_T24 h ((h.length - 1 : Nat) : Int)).f0, (rd_T24 h ((h.length - 1 : Nat) : Int)).f1⟩).take ((h.length - 1 : Nat) : Int).toNat) = heap_sink.f k ((h.set 0 (at' h (h.length - 1))).take (h.length - 1)) from rfl, this]
    simp only [Option.bind_some]
    rw [if_pos (by omega)]
    have h2 := ih k (o ++ [at' h 0]) (popL h) (by rw [popL_length]; omega) (by simp; omega) (by omega)
    rw [drain, if_neg (by omega)]
    rw [List.append_assoc] at h2
    exact h2
theorem sort_ok (l : List It) (k : Nat) (hl : l.length ≤ 1000000) (hk : 5 * l.length + 10 ≤ k) : heap_Sort.f k l = some (sortL l) := by
  unfold heap_Sort.f sortL
  rw [make_ok l k hl (by omega)]
  simp only [Option.bind_some]
  have := sort_loop l.length k [] (makeL l) (makeL_length l) (by simpa using hl) (by omega)
  simpa using this
end Go.Proofs.Ytlihbdinghoeeab.P

/- FlowNone over numbers and lists. -/
import Derived.Test.YteibolilodgjnaaStFlowNone
import Derived.Test.YteibolilodgjnaaFlStart
namespace Go.Proofs.Yteibolilodgjnaa.Pure
set_option linter.unusedVariables false
set_option linter.unusedSimpArgs false
open Go.RowKit Go.Proofs.Yteibolilodgjnaa.P Go.Proofs.YteibolilodgjnaaW.PrintWords Go.Proofs.YteibolilodgjnaaW.PrintLast Go.Proofs.YteibolilodgjnaaW.PrintMore
theorem findR_none {l : List Ru} {i a b c : Int} (h : placeB l (a, b, c) = false) : (findR l i a b c).2 = false := by
  unfold findR
  rw [h]
  rfl
theorem send_no (l : List Ru) (i a b c d : Int) (hs : riseK l = true) (hls : ∀ x ∈ l, smallR x) (hl : l.length ≤ 100000) (h : (findR l i a b c).2 = false) : flow_Send.f l i a b c d = some [] := by
  rw [send_ok l i a b c d hs hl (by have := findR_len (i := i) (a := a) (b := b) (c := c) hs hls; omega), if_neg (by rw [h]; simp)]
/-- A rule that sends to nobody is right if the one with outs is. -/
theorem right_bare {r : Ru} (h : rightR r = true) : rightR ⟨r.f0, r.f1, r.f2, r.f3, r.f4, []⟩ = true := by
  unfold rightR at h ⊢
  rw [Bool.and_eq_true, Bool.and_eq_true, Bool.and_eq_true] at h
  simp only [h.1, h.2.2.2, okOuts]
  rfl
theorem none_j0 (l : List Ru) (a1 a b c d : Int) (hri : riseK l = true) (hall : ∀ x ∈ l, rightR x = true) (hl : l.length ≤ 2000) (hls : ∀ x ∈ l, smallR x) : stolonlaw15_FlowNone.j0 (9999 + 1) l a1 true false a b c d = some true := by
  have hdl := len_delP (a, b, c) hri
  rw [stolonlaw15_FlowNone.j0, if_neg (by simp), del_ok l a b c hri (by omega), fbs, send_no _ a1 a b c d (delP_rise _ hri) (smallR_del hri hls) (by omega) (findR_none (placeB_del hri)), fbs, find_ok l a1 a b c d hri (by omega), fbs]
  by_cases hf : (findR l a1 a b c).2 = true
  · obtain ⟨h1, h2, h3, h4⟩ := findR_mem hri hf
    have hlen := hls _ h3
    rw [if_pos hf]
    generalize hR : (findR l a1 a b c).1 = R at h2 h3 h4 hlen
    simp only
    have hrr := right_bare (hall R h3)
    have hk : keyR (⟨R.f0, R.f1, R.f2, R.f3, R.f4, []⟩ : Ru) = (a, b, c) := h4
    have hput : putR l ⟨R.f0, R.f1, R.f2, R.f3, R.f4, []⟩ (l.length : Int) = (putP l ⟨R.f0, R.f1, R.f2, R.f3, R.f4, []⟩, 0) := by
      unfold putR
      rw [if_pos hrr, hk, if_pos h1]
    have hsm : smallR (⟨R.f0, R.f1, R.f2, R.f3, R.f4, []⟩ : Ru) := ⟨Nat.zero_le _, hlen.2⟩
    have hps := smallR_put hri hls hsm
    have hpl : (putP l (⟨R.f0, R.f1, R.f2, R.f3, R.f4, []⟩ : Ru)).length ≤ 2001 := by rw [len_putP _ hri]; split <;> omega
    have hp := put_ok l ⟨R.f0, R.f1, R.f2, R.f3, R.f4, []⟩ (l.length : Int) hri (by omega) (Nat.zero_le _) 9999 (by show 0 + 2 ≤ 9999; omega)
    rw [hput] at hp
    rw [hp, fbs, if_pos (show (([] : List (S55)).length : Int) = 0 from rfl), if_pos trivial, if_pos rfl]
    simp only
    rw [send_ok _ a1 a b c d (putP_rise _ hri) (by omega) (by have := findR_len (i := a1) (a := a) (b := b) (c := c) (putP_rise _ hri) hps; omega), fbs]
    by_cases hg : (findR (putP l (⟨R.f0, R.f1, R.f2, R.f3, R.f4, []⟩ : Ru)) a1 a b c).2 = true
    · rw [if_pos hg]
      obtain ⟨_, g2, _, _⟩ := findR_mem (putP_rise _ hri) hg
      have hpp := place_put (r := (⟨R.f0, R.f1, R.f2, R.f3, R.f4, []⟩ : Ru)) hri
      rw [hk] at hpp
      rw [g2, hpp]
      rfl
    · rw [if_neg hg]
      rfl
  · have hf' : (findR l a1 a b c).2 = false := by simpa using hf
    rw [if_pos (show (([] : List (S55)).length : Int) = 0 from rfl), hf', if_neg (by simp), if_pos rfl, send_no l a1 a b c d hri hls (by omega) hf', fbs]
    rfl
theorem FlowNone : stolonlaw15_FlowNone.Pure := by
  intro l a1 g hl _ _
  refine ⟨9999 + 1, ?_⟩
  unfold stolonlaw15_FlowNone.f
  rw [shown_ok _ (by omega), fbs]
  obtain ⟨b, h1, h2⟩ := start_ok hl (9999 + 1) (by omega)
  rw [h1, fbs]
  have yes : ∀ x5 x6 x7 x8, stolonlaw15_FlowNone.j0 (9999 + 1) l a1 true true x5 x6 x7 x8 = some true := by
    intros
    rw [stolonlaw15_FlowNone.j0, if_pos rfl]
  cases b with
  | false => rw [if_neg (by simp)]; exact yes _ _ _ _
  | true =>
    obtain ⟨h3, h4, h5⟩ := h2 rfl
    rw [if_pos rfl, h5, fbs]
    cases ht : tabB none l with
    | false => exact yes _ _ _ _
    | true =>
      obtain ⟨hall, hri⟩ := (tabB_none l).1 ht
      exact none_j0 l a1 _ _ _ _ hri hall h3 h4
end Go.Proofs.Yteibolilodgjnaa.Pure

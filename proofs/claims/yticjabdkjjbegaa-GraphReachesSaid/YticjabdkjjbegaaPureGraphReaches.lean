/- GraphReaches over numbers and lists. -/
import Derived.Test.YticjabdkjjbegaaStGraphReaches
import Derived.Test.YticjabdkjjbegaaGrSet
namespace Go.Proofs.Yticjabdkjjbegaa.Pure
set_option linter.unusedVariables false
set_option linter.unusedSimpArgs false
open Go.RowKit Go.Proofs.Yticjabdkjjbegaa.P Go.Proofs.YticjabdkjjbegaaW.PrintWords Go.Proofs.YticjabdkjjbegaaW.PrintLast Go.Proofs.YticjabdkjjbegaaW.PrintMore
theorem reaches_l (x more : List Int) (hx : x.length ≤ 32) (hm : more.length ≤ 32) (hs : ∀ y, y ∈ x → y ∈ more) : ∀ (d i k : Nat), i + d = x.length → 100 ≤ k → stolonlaw11_GraphReaches.l0 (k + d + 1) true x more (i : Int) = some true := by
  intro d
  induction d with
  | zero =>
    intro i k hi hk
    rw [Nat.add_zero, stolonlaw11_GraphReaches.l0, if_neg (by omega)]
  | succ d ih =>
    intro i k hi hk
    have hlt : i < x.length := by omega
    rw [show k + (d + 1) + 1 = (k + d + 1) + 1 by omega, stolonlaw11_GraphReaches.l0, if_pos (by omega), if_pos (by omega), in_ok _ _ _ (by omega) (by omega), bs, decide_eq_true (by rw [rd_at x i hlt]; exact hs _ (List.getElem_mem hlt)), if_pos rfl, w64 (x := (i : Int) + 1) (by omega)]
    exact ih (i + 1) k (by omega) hk
theorem reaches_j (n : Int) (ls : List Lk) (a link : Int) (h : Rt n ls) (k : Nat) (hk : 1000 ≤ k) : stolonlaw11_GraphReaches.j0 (k + 1) a link true (reachL n ls (upB ls) a) false n ls = some true := by
  have hr := reachL_le n ls (upB ls) a
  obtain ⟨k, rfl⟩ : ∃ k', k = k' + (reachL n ls (upB ls) a).length + 1 := ⟨k - (reachL n ls (upB ls) a).length - 1, by omega⟩
  rw [stolonlaw11_GraphReaches.j0, if_neg (by simp)]
  by_cases hl : 0 ≤ link ∧ link < (ls.length : Int)
  · have h2 := setUp_rt h link.toNat true
    rw [set_ok n ls link true h.2.1 hl.1 hl.2, bs, reach_ok n _ a h2, bs]
    refine reaches_l _ _ hr (reachL_le n _ _ a) (fun y hy => ?_) _ 0 k (by omega) (by omega)
    obtain ⟨h3, h4⟩ := (mem_reachL h.ends h.1.2 y).1 hy
    refine (mem_reachL h2.ends h.1.2 y).2 ⟨h3, ?_⟩
    induction h4 with
    | refl => exact .refl
    | step i hc hi hp ho ih =>
      have ih := ih ((mem_reachL h.ends h.1.2 _).2 ⟨h3, hc⟩)
      obtain ⟨e0, e1, _⟩ := setUp_ends ls link.toNat true i hi
      refine .step i ih (by rw [setUp_len]; exact hi) ?_ ?_
      · unfold upB at hp ⊢
        rw [lk_setUp ls link.toNat true i hi]
        split
        · rfl
        · exact hp
      · unfold overTo at ho ⊢
        rw [e0, e1]
        exact ho
  · rw [set_out n ls link true hl, bs, reach_ok n ls a h, bs]
    exact reaches_l _ _ hr hr (fun _ hy => hy) _ 0 k (by omega) (by omega)
theorem GraphReaches : stolonlaw11_GraphReaches.Pure := by
  rintro ⟨⟨n, ls⟩, a, b, link⟩ _
  refine ⟨1999 + 1, ?_⟩
  unfold stolonlaw11_GraphReaches.f
  simp only
  rw [shown_ok _ (by omega), bs, rightR_ok _ _ _ (by omega), bs]
  by_cases h : Rt n ls
  · have hra := reachL_le n ls (upB ls) a
    have hrb := reachL_le n ls (upB ls) b
    have he := h.ends
    have hn := h.1.2
    have hj := reaches_j n ls a link h 1999 (by omega)
    have hself := reachL_self (p := upB ls) (a := a) he hn
    rw [if_pos (decide_eq_true h), reach_ok n ls a h, bs, reach_ok n ls b h, bs, in_ok _ _ _ (by omega) (by omega), bs, in_ok _ _ _ (by omega) (by omega), bs, in_ok _ _ _ (by omega) (by omega), bs]
    have hsym : b ∈ reachL n ls (upB ls) a ↔ a ∈ reachL n ls (upB ls) b := by
      rw [mem_reachL he hn, mem_reachL he hn]
      exact ⟨fun ⟨h1, h2⟩ => ⟨h2.inside he h1, h2.symm he⟩, fun ⟨h1, h2⟩ => ⟨h2.inside he h1, h2.symm he⟩⟩
    have hend : (if a ≥ 0 then stolonlaw11_GraphReaches.j0 (1999 + 1) a link true (reachL n ls (upB ls) a) (decide (a < n) != decide (a ∈ reachL n ls (upB ls) a)) n ls else stolonlaw11_GraphReaches.j0 (1999 + 1) a link true (reachL n ls (upB ls) a) (false != decide (a ∈ reachL n ls (upB ls) a)) n ls) = some true := by
      by_cases h0 : a ≥ 0
      · rw [if_pos h0]
        have : (decide (a < n) != decide (a ∈ reachL n ls (upB ls) a)) = false := by
          rw [bne_eq_false_iff_eq, decide_eq_decide, hself]
          exact ⟨fun e => ⟨h0, e⟩, fun e => e.2⟩
        rw [this]; exact hj
      · rw [if_neg h0]
        have : (false != decide (a ∈ reachL n ls (upB ls) a)) = false := by
          rw [bne_eq_false_iff_eq]
          exact (decide_eq_false (fun e => h0 (hself.1 e).1)).symm
        rw [this]; exact hj
    rw [if_neg (by simp [hsym])]
    by_cases hb : b ∈ reachL n ls (upB ls) a
    · have heq : reachL n ls (upB ls) a = reachL n ls (upB ls) b := by
        obtain ⟨h1, h2⟩ := (mem_reachL he hn b).1 hb
        refine rising_eq (markedTo_sorted _ _) (markedTo_sorted _ _) (fun y => ?_)
        have e1 := mem_reachL (p := upB ls) (a := a) he hn y
        have e2 := mem_reachL (p := upB ls) (a := b) he hn y
        rw [e1, e2]
        exact ⟨fun ⟨_, h3⟩ => ⟨h2.inside he h1, (h2.symm he).trans h3⟩, fun ⟨_, h3⟩ => ⟨h1, h2.trans h3⟩⟩
      rw [if_pos (decide_eq_true hb), ints_ok _ _ _ (by omega) (by omega), bs, if_pos (decide_eq_true heq)]
      exact hend
    · rw [if_neg (by simp [hb])]
      exact hend
  · rw [if_neg (by simp [h])]
end Go.Proofs.Yticjabdkjjbegaa.Pure

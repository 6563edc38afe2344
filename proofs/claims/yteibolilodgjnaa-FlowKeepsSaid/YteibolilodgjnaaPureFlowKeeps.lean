/- FlowKeeps over numbers and lists. -/
import Derived.Test.YteibolilodgjnaaStFlowKeeps
import Derived.Test.YteibolilodgjnaaFlStart
namespace Go.Proofs.Yteibolilodgjnaa.Pure
set_option linter.unusedVariables false
set_option linter.unusedSimpArgs false
open Go.RowKit Go.Proofs.Yteibolilodgjnaa.P Go.Proofs.YteibolilodgjnaaW.PrintWords Go.Proofs.YteibolilodgjnaaW.PrintLast Go.Proofs.YteibolilodgjnaaW.PrintMore
theorem find_put {l : List Ru} {r : Ru} (hs : riseK l = true) (i : Int) (h : i = if r.f2 = 0 then r.f3 else 0) : findR (putP l r) i r.f0 r.f1 r.f2 = (r, true) := by
  unfold findR
  have hb := placeB_put (r := r) hs
  have hp := place_put (r := r) hs
  unfold keyR at hb hp
  rw [hb, if_pos rfl]
  by_cases h0 : r.f2 = 0
  · rw [if_pos h0] at h ⊢
    rw [hp, if_pos h]
  · rw [if_neg h0] at h ⊢
    rw [if_neg (by omega), if_neg (by omega), hp]
theorem keeps_j1 (l : List Ru) (r : Ru) (i : Int) (hi : i = if r.f2 = 0 then r.f3 else 0) (hri : riseK l = true) (hall : ∀ x ∈ l, rightR x = true) (hl : l.length ≤ 2000) (hls : ∀ x ∈ l, smallR x) (hrs : smallR r) (hrr : rightR r = true) : stolonlaw15_FlowKeeps.j1 (9999 + 1) l true (putP l r) i r.f0 r.f1 r.f2 r.f3 r.f4 r.f5 = some true := by
  have hps := smallR_put hri hls hrs
  have hpl : (putP l r).length ≤ 2001 := by rw [len_putP r hri]; split <;> omega
  have hpt : tabB none (putP l r) = true := by
    refine (tabB_none _).2 ⟨fun x hx => ?_, putP_rise r hri⟩
    rcases (mem_putP hri x).1 hx with rfl | hx
    · exact hrr
    · exact hall x hx.1
  have hd : delP (putP l r) (r.f0, r.f1, r.f2) = delP l (r.f0, r.f1, r.f2) := del_put (r := r) hri
  have hpb : placeB (putP l r) (r.f0, r.f1, r.f2) = true := placeB_put (r := r) hri
  rw [stolonlaw15_FlowKeeps.j1, find_ok _ i r.f0 r.f1 r.f2 0 (putP_rise r hri) (by omega), find_put hri i hi, fbs, del_ok _ r.f0 r.f1 r.f2 (putP_rise r hri) (by omega), fbs, del_ok _ r.f0 r.f1 r.f2 hri (by omega), fbs, if_pos rfl, rtable_ok _ (by omega) hps 9999 (by omega), fbs, hpt, if_pos rfl, if_pos rfl]
  simp only
  have hr2 := hrs.1
  rw [same_refl r (by omega) 9999 (by omega), fbs, if_pos rfl, hpb, if_pos rfl, hd, rows_refl _ (by have := len_delP (r.f0, r.f1, r.f2) hri; omega) (smallR_del hri hls) 9999 (by have := len_delP (r.f0, r.f1, r.f2) hri; omega), fbs, if_pos rfl]
  congr 1
  rw [len_putP r hri, beq_iff_eq]
  unfold keyR
  cases placeB l (r.f0, r.f1, r.f2) with
  | true => rw [if_pos rfl, beq_self_eq_true]
  | false => rw [if_neg (by simp), beq_eq_false_iff_ne]; omega
theorem FlowKeeps : stolonlaw15_FlowKeeps.Pure := by
  intro l r lim hl hr _
  refine ⟨9999 + 1 + 1, ?_⟩
  unfold stolonlaw15_FlowKeeps.f
  rw [shown_ok _ (by omega), fbs]
  obtain ⟨b, h1, h2⟩ := start_ok hl (9999 + 1 + 1) (by omega)
  rw [h1, fbs]
  have yes : ∀ x5 x6 x7 x8 x9 x10, stolonlaw15_FlowKeeps.j0 (9999 + 1 + 1) l lim true true x5 x6 x7 x8 x9 x10 = some true := by
    intros
    rw [stolonlaw15_FlowKeeps.j0, if_pos rfl]
  cases b with
  | false => rw [if_neg (by simp)]; exact yes _ _ _ _ _ _
  | true =>
    obtain ⟨h3, h4, h5⟩ := h2 rfl
    rw [if_pos rfl, h5, fbs]
    cases ht : tabB none l with
    | false => rw [if_neg (by simp)]; exact yes _ _ _ _ _ _
    | true =>
      obtain ⟨hall, hri⟩ := (tabB_none l).1 ht
      rw [if_pos rfl]
      by_cases h6 : (r.f5.length : Int) > 100
      · rw [decide_eq_true h6]; exact yes _ _ _ _ _ _
      · rw [decide_eq_false h6, stolonlaw15_FlowKeeps.j0, if_neg (by simp)]
        have hrs : smallR r := ⟨by omega, (wf_u32 hr.2.2.2.2.1).1⟩
        rw [put_ok l r lim hri (by omega) (by omega) (9999 + 1) (by omega), fbs]
        have h7 : (rightR r = true ∧ putR l r lim = (putP l r, 0)) ∨ putR l r lim = (l, 1) ∨ (putR l r lim = (l, 7) ∧ (l.length : Int) ≥ lim) := by
          unfold putR
          by_cases hrr : rightR r = true
          · rw [if_pos hrr]
            by_cases hb : placeB l (keyR r) = true
            · rw [if_pos hb]; exact .inl ⟨hrr, rfl⟩
            · rw [if_neg hb]
              by_cases hm : (l.length : Int) ≥ lim
              · rw [if_pos hm]; exact .inr (.inr ⟨rfl, hm⟩)
              · rw [if_neg hm]; exact .inl ⟨hrr, rfl⟩
          · rw [if_neg hrr]; exact .inr (.inl rfl)
        rcases h7 with ⟨hrr, e⟩ | e | ⟨e, hm⟩
        · rw [e, if_pos rfl]
          by_cases h0 : r.f2 = 0
          · rw [if_pos h0]; exact keeps_j1 l r _ (by rw [if_pos h0]) hri hall h3 h4 hrs hrr
          · rw [if_neg h0]; exact keeps_j1 l r _ (by rw [if_neg h0]) hri hall h3 h4 hrs hrr
        · rw [e, if_neg (by simp), if_pos rfl, rows_refl _ (by omega) h4 (9999 + 1) (by omega), fbs, if_pos rfl, if_pos rfl]
        · rw [e, if_neg (by simp), if_pos rfl, rows_refl _ (by omega) h4 (9999 + 1) (by omega), fbs, if_pos rfl, if_neg (by simp), if_pos rfl, decide_eq_true hm]
end Go.Proofs.Yteibolilodgjnaa.Pure

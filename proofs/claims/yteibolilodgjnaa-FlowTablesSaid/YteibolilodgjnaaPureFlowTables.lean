/- FlowTables over numbers and lists. -/
import Derived.Test.YteibolilodgjnaaStFlowTables
import Derived.Test.YteibolilodgjnaaFlStart
import Derived.Test.YteibolilodgjnaaFlRef
namespace Go.Proofs.Yteibolilodgjnaa.Pure
set_option linter.unusedVariables false
set_option linter.unusedSimpArgs false
open Go.RowKit Go.Proofs.Yteibolilodgjnaa.P Go.Proofs.YteibolilodgjnaaW.PrintWords Go.Proofs.YteibolilodgjnaaW.PrintLast Go.Proofs.YteibolilodgjnaaW.PrintMore
theorem tables_j1 (l : List Ru) (r s : Ru) (lim : Int) (b : Bool) (hb : b = tabB none l) (hl : l.length ≤ 2000) (hls : ∀ x ∈ l, smallR x) (hrs : smallR r) : stolonlaw15_FlowTables.j1 (9999 + 1) l lim true b false r.f0 r.f1 r.f2 r.f3 r.f4 r.f5 s.f0 s.f1 s.f2 s.f3 s.f4 s.f5 = some true := by
  rw [stolonlaw15_FlowTables.j1, if_neg ff]
  cases b with
  | false => rw [if_neg ff]
  | true =>
    obtain ⟨hall, hri⟩ := (tabB_none l).1 hb.symm
    obtain ⟨a1, a2, a3⟩ := putR_keeps (lim := lim) hri hls hrs
    have h5 := hrs.1
    rw [if_pos rfl, put_ok l r lim hri (by omega) (by omega) 9999 (by omega), fbs, rput_ok l r lim hri (by omega) hrs 9999 (by omega), fbs, del_ok l s.f0 s.f1 s.f2 hri (by omega), fbs, rdel_ok l hri (by omega) s.f0 s.f1 s.f2 9999 (by omega), fbs, if_pos rfl, rows_refl _ (by omega) a2 9999 (by omega), fbs, if_pos rfl, if_pos rfl, rows_refl _ (by have := len_delP (s.f0, s.f1, s.f2) hri; omega) (smallR_del hri hls) 9999 (by have := len_delP (s.f0, s.f1, s.f2) hri; omega), fbs, if_pos rfl]
    congr 1
    exact beq_self_eq_true _
theorem FlowTables : stolonlaw15_FlowTables.Pure := by
  rintro ⟨l, r, s, lim⟩ ⟨hl, hr, hs, _⟩
  refine ⟨9999 + 1 + 1, ?_⟩
  unfold stolonlaw15_FlowTables.f
  rw [shown_ok _ (by omega), fbs]
  obtain ⟨b, h1, h2⟩ := start_ok hl (9999 + 1 + 1) (by omega)
  simp only at h1 h2 hr hs ⊢
  rw [h1, fbs]
  have hr5 := hr.2.2.2.2.2.1
  have hs5 := hs.2.2.2.2.2.1
  have yes : ∀ x4 x5 x6 x7 x8 x9 x10 x11 x12 x13 x14 x15, stolonlaw15_FlowTables.j0 (9999 + 1 + 1) l lim true true x4 x5 x6 x7 x8 x9 x10 x11 x12 x13 x14 x15 = some true := by
    intros
    rw [stolonlaw15_FlowTables.j0, if_pos rfl]
  cases b with
  | false => rw [if_neg ff]; exact yes _ _ _ _ _ _ _ _ _ _ _ _
  | true =>
    obtain ⟨h3, h4, h5⟩ := h2 rfl
    rw [if_pos rfl, fw64 (by omega)]
    by_cases h6 : (r.f5.length : Int) + (s.f5.length : Int) > 300
    · rw [decide_eq_true h6]; exact yes _ _ _ _ _ _ _ _ _ _ _ _
    · have hrs : smallR r := ⟨by omega, (wf_u32 hr.2.2.2.2.1).1⟩
      rw [decide_eq_false h6, stolonlaw15_FlowTables.j0, if_neg ff, rtable_ok l (by omega) h4 _ (by omega), fbs, right_ok r (by omega) _ (by omega), fbs, rright_ok r hrs.2 (by omega) _ (by omega), fbs, bne_self_eq_false, if_neg ff, table_ok l (by omega) h4 _ (by omega), fbs, bne_self_eq_false, if_neg ff, same_ok r s (by omega) _ (by omega), fbs, rsame_ok r s (by omega) _ (by omega), fbs, bne_self_eq_false]
      exact tables_j1 l r s lim _ rfl h3 h4 hrs
end Go.Proofs.Yteibolilodgjnaa.Pure

/- What each law of tables starts from. -/
import Derived.Test.YtfomnmdjbdohgaaHOps
import Derived.Test.YtfomnmdjbdohgaaFlTab
namespace Go.Proofs.Ytfomnmdjbdohgaa.Pure
set_option linter.unusedVariables false
set_option linter.unusedSimpArgs false
open Go.RowKit Go.Proofs.Ytfomnmdjbdohgaa.P Go.Proofs.YtfomnmdjbdohgaaW.PrintWords Go.Proofs.YtfomnmdjbdohgaaW.PrintLast Go.Proofs.YtfomnmdjbdohgaaW.PrintMore
theorem wf_u32 {x : Int} (h : (Lit.int .u32 x).wf = true) : 0 ≤ x ∧ x ≤ 4294967295 := by
 simp [Lit.wf, IntKind.min, IntKind.max, IntKind.signed, IntKind.bits] at h
 omega
theorem wf_small {l : List Ru} (hl : l.length * 56 ≤ 140737488351232 ∧ l.length ≤ maxLen ∧ ∀ y ∈ l, wf29 y) : l.length ≤ 9000000000000 ∧ ∀ r ∈ l, r.f5.length ≤ 9000000000000 ∧ 0 ≤ r.f4 :=
 ⟨by omega, fun r hr => ⟨by have := (hl.2.2 r hr).2.2.2.2.2.1; omega, (wf_u32 (hl.2.2 r hr).2.2.2.2.1).1⟩⟩
theorem start_ok {l : List Ru} (hl : l.length * 56 ≤ 140737488351232 ∧ l.length ≤ maxLen ∧ ∀ y ∈ l, wf29 y) (k : Nat) (hk : 5000 ≤ k) : ∃ b, stolonref15_Few.f k l = some b ∧ (b = true → l.length ≤ 2000 ∧ (∀ r ∈ l, smallR r) ∧ stolonref15_Table.f k l = some (tabB none l)) := by
 obtain ⟨h1, h2⟩ := wf_small hl
 obtain ⟨b, h3, h4⟩ := few_ok l h1 (fun r hr => (h2 r hr).1) k (by omega)
 refine ⟨b, h3, fun hb => ?_⟩
 obtain ⟨h5, h6⟩ := h4 hb
 have hs : ∀ r ∈ l, smallR r := fun r hr => ⟨h6 r hr, (h2 r hr).2⟩
 exact ⟨h5, hs, rtable_ok l (by omega) hs k (by omega)⟩
end Go.Proofs.Ytfomnmdjbdohgaa.Pure

/- What the laws' arguments read as. -/
import Derived.Test.YtlihbdinghoeeabPx0
import Derived.Test.YtlihbdinghoeeabHOpen
namespace Go.Proofs.Ytlihbdinghoeeab.P
open Go.RowKit Go.Proofs.YtlihbdinghoeeabW.PrintWords Go.Proofs.YtlihbdinghoeeabW.PrintLast Go.Proofs.YtlihbdinghoeeabW.PrintMore Go.Proofs.Ytlihbdinghoeeab.HOpen
def wf24 (x : S24) : Prop := ((Lit.int .i64 x.f0).wf = true) ∧ ((Lit.int .i64 x.f1).wf = true)
theorem op24 : Opens Try.prog 24 k24 wf24 :=
  opens_struct Try.underlying24 (by kernel_rfl) (opensL_iso (fun x : S24 => (x.f0, x.f1)) (fun a => ⟨⟨a.1, a.2⟩, rfl⟩) (opensL_cons (opens_int Try.underlying3) (opensL_one (opens_int Try.underlying3))))
end Go.Proofs.Ytlihbdinghoeeab.P

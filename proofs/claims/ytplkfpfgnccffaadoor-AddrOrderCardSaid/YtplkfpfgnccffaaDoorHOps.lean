/- What the laws' arguments read as. -/
import Derived.Test.YtplkfpfgnccffaaDoorPx0
import Derived.Test.YtplkfpfgnccffaaDoorHOpen
namespace Go.Proofs.YtplkfpfgnccffaaDoor.P
open Go.RowKit Go.Proofs.YtplkfpfgnccffaaDoorW.PrintWords Go.Proofs.YtplkfpfgnccffaaDoorW.PrintLast Go.Proofs.YtplkfpfgnccffaaDoorW.PrintMore Go.Proofs.YtplkfpfgnccffaaDoor.HOpen
def wf38 (x : S38) : Prop := ((Lit.int .u8 x.f0).wf = true) ∧ ((Lit.int .u8 x.f1).wf = true) ∧ ((Lit.int .u8 x.f2).wf = true) ∧ ((Lit.int .u8 x.f3).wf = true) ∧ (x.f4.size ≤ 140737488351232)
theorem op38 : Opens Tryd.prog 38 k38 wf38 :=
  opens_struct Tryd.underlying38 (by kernel_rfl) (opensL_iso (fun x : S38 => (x.f0, x.f1, x.f2, x.f3, x.f4)) (fun a => ⟨⟨a.1, a.2.1, a.2.2.1, a.2.2.2.1, a.2.2.2.2⟩, rfl⟩) (opensL_cons (opens_int Tryd.underlying5) (opensL_cons (opens_int Tryd.underlying5) (opensL_cons (opens_int Tryd.underlying5) (opensL_cons (opens_int Tryd.underlying5) (opensL_one (opens_string Tryd.underlying9)))))))
end Go.Proofs.YtplkfpfgnccffaaDoor.P

/- What the laws' arguments read as. -/
import Derived.Test.YtlihbdinghoeeaaPx0
import Derived.Test.YtlihbdinghoeeaaHOpen
namespace Go.Proofs.Ytlihbdinghoeeaa.P
open Go.RowKit Go.Proofs.YtlihbdinghoeeaaW.PrintWords Go.Proofs.YtlihbdinghoeeaaW.PrintLast Go.Proofs.YtlihbdinghoeeaaW.PrintMore Go.Proofs.Ytlihbdinghoeeaa.HOpen
def wf23 (x : S23) : Prop := ((Lit.int .i64 x.f0).wf = true) ∧ ((Lit.int .i64 x.f1).wf = true) ∧ ((Lit.int .i64 x.f2).wf = true) ∧ ((Lit.int .i64 x.f3).wf = true)
theorem op23 : Opens Try.prog 23 k23 wf23 :=
  opens_struct Try.underlying23 (by kernel_rfl) (opensL_iso (fun x : S23 => (x.f0, x.f1, x.f2, x.f3)) (fun a => ⟨⟨a.1, a.2.1, a.2.2.1, a.2.2.2⟩, rfl⟩) (opensL_cons (opens_int Try.underlying3) (opensL_cons (opens_int Try.underlying3) (opensL_cons (opens_int Try.underlying3) (opensL_one (opens_int Try.underlying3))))))
def wf27 (x : S27) : Prop := ((Lit.int .u32 x.f0).wf = true) ∧ ((Lit.int .u32 x.f1).wf = true) ∧ ((Lit.int .i64 x.f2).wf = true) ∧ ((Lit.int .i64 x.f3).wf = true) ∧ ((Lit.int .i64 x.f4).wf = true)
theorem op27 : Opens Try.prog 27 k27 wf27 :=
  opens_struct Try.underlying27 (by kernel_rfl) (opensL_iso (fun x : S27 => (x.f0, x.f1, x.f2, x.f3, x.f4)) (fun a => ⟨⟨a.1, a.2.1, a.2.2.1, a.2.2.2.1, a.2.2.2.2⟩, rfl⟩) (opensL_cons (opens_int Try.underlying25) (opensL_cons (opens_int Try.underlying25) (opensL_cons (opens_int Try.underlying3) (opensL_cons (opens_int Try.underlying3) (opensL_one (opens_int Try.underlying3)))))))
def wf42 (x : S42) : Prop := (wf23 x.f0) ∧ ((Lit.int .u32 x.f1).wf = true) ∧ ((Lit.int .u32 x.f2).wf = true) ∧ ((Lit.int .u8 x.f3).wf = true)
theorem op42 : Opens Try.prog 42 k42 wf42 :=
  opens_struct Try.underlying42 (by kernel_rfl) (opensL_iso (fun x : S42 => (x.f0, x.f1, x.f2, x.f3)) (fun a => ⟨⟨a.1, a.2.1, a.2.2.1, a.2.2.2⟩, rfl⟩) (opensL_cons op23 (opensL_cons (opens_int Try.underlying25) (opensL_cons (opens_int Try.underlying25) (opensL_one (opens_int Try.underlying5))))))
end Go.Proofs.Ytlihbdinghoeeaa.P

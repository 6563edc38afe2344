/- What the laws' arguments read as. -/
import Derived.Test.YtboonfidioombaaPx0
import Derived.Test.YtboonfidioombaaHOpen
namespace Go.Proofs.Ytboonfidioombaa.P
open Go.RowKit Go.Proofs.YtboonfidioombaaW.PrintWords Go.Proofs.YtboonfidioombaaW.PrintLast Go.Proofs.YtboonfidioombaaW.PrintMore Go.Proofs.Ytboonfidioombaa.HOpen
def wf59 (x : S59) : Prop := ((Lit.int .i64 x.f0).wf = true) ∧ (True)
theorem op59 : Opens Try.prog 59 k59 wf59 :=
  opens_struct Try.underlying59 (by kernel_rfl) (opensL_iso (fun x : S59 => (x.f0, x.f1)) (fun a => ⟨⟨a.1, a.2⟩, rfl⟩) (opensL_cons (opens_int Try.underlying3) (opensL_one (opens_bool Try.underlying4))))
def wf26 (x : S26) : Prop := ((Lit.int .u32 x.f0).wf = true) ∧ ((Lit.int .u32 x.f1).wf = true) ∧ ((Lit.int .u32 x.f2).wf = true) ∧ ((Lit.int .i64 x.f3).wf = true) ∧ ((Lit.int .u32 x.f4).wf = true) ∧ (x.f5.length * 16 ≤ 140737488351232 ∧ x.f5.length ≤ maxLen ∧ ∀ y ∈ x.f5, wf59 y)
theorem op26 : Opens Try.prog 26 k26 wf26 :=
  opens_struct Try.underlying26 (by kernel_rfl) (opensL_iso (fun x : S26 => (x.f0, x.f1, x.f2, x.f3, x.f4, x.f5)) (fun a => ⟨⟨a.1, a.2.1, a.2.2.1, a.2.2.2.1, a.2.2.2.2.1, a.2.2.2.2.2⟩, rfl⟩) (opensL_cons (opens_int Try.underlying23) (opensL_cons (opens_int Try.underlying23) (opensL_cons (opens_int Try.underlying22) (opensL_cons (opens_int Try.underlying3) (opensL_cons (opens_int Try.underlying22) (opensL_one (opens_slice (d := k59) (t := 24) (e := 59) Try.underlying24 (by kernel_rfl) op59))))))))
def wf29 (x : S29) : Prop := ((Lit.int .u8 x.f0).wf = true) ∧ ((Lit.int .u32 x.f1).wf = true) ∧ (wf26 x.f2) ∧ ((Lit.int .i64 x.f3).wf = true) ∧ (True) ∧ (x.f5.length * 1 ≤ 140737488351232 ∧ x.f5.length ≤ maxLen ∧ ∀ y ∈ x.f5, (Lit.int .u8 y).wf = true)
theorem op29 : Opens Try.prog 29 k29 wf29 :=
  opens_struct Try.underlying29 (by kernel_rfl) (opensL_iso (fun x : S29 => (x.f0, x.f1, x.f2, x.f3, x.f4, x.f5)) (fun a => ⟨⟨a.1, a.2.1, a.2.2.1, a.2.2.2.1, a.2.2.2.2.1, a.2.2.2.2.2⟩, rfl⟩) (opensL_cons (opens_int Try.underlying5) (opensL_cons (opens_int Try.underlying22) (opensL_cons op26 (opensL_cons (opens_int Try.underlying3) (opensL_cons (opens_bool Try.underlying4) (opensL_one (opens_slice (d := (Kd.int .u8)) (t := 27) (e := 5) Try.underlying27 (by kernel_rfl) (opens_int Try.underlying5)))))))))
end Go.Proofs.Ytboonfidioombaa.P

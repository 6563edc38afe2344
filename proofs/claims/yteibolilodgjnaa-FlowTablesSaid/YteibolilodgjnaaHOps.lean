/- What the laws' arguments read as. -/
import Derived.Test.YteibolilodgjnaaPx0
import Derived.Test.YteibolilodgjnaaHOpen
namespace Go.Proofs.Yteibolilodgjnaa.P
open Go.RowKit Go.Proofs.YteibolilodgjnaaW.PrintWords Go.Proofs.YteibolilodgjnaaW.PrintLast Go.Proofs.YteibolilodgjnaaW.PrintMore Go.Proofs.Yteibolilodgjnaa.HOpen
def wf53 (x : S53) : Prop := ((Lit.int .i64 x.f0).wf = true) ∧ (True)
theorem op53 : Opens Try.prog 53 k53 wf53 :=
  opens_struct Try.underlying53 (by kernel_rfl) (opensL_iso (fun x : S53 => (x.f0, x.f1)) (fun a => ⟨⟨a.1, a.2⟩, rfl⟩) (opensL_cons (opens_int Try.underlying3) (opensL_one (opens_bool Try.underlying4))))
def wf27 (x : S27) : Prop := ((Lit.int .u32 x.f0).wf = true) ∧ ((Lit.int .u32 x.f1).wf = true) ∧ ((Lit.int .u32 x.f2).wf = true) ∧ ((Lit.int .i64 x.f3).wf = true) ∧ ((Lit.int .u32 x.f4).wf = true) ∧ (x.f5.length * 16 ≤ 140737488351232 ∧ x.f5.length ≤ maxLen ∧ ∀ y ∈ x.f5, wf53 y)
theorem op27 : Opens Try.prog 27 k27 wf27 :=
  opens_struct Try.underlying27 (by kernel_rfl) (opensL_iso (fun x : S27 => (x.f0, x.f1, x.f2, x.f3, x.f4, x.f5)) (fun a => ⟨⟨a.1, a.2.1, a.2.2.1, a.2.2.2.1, a.2.2.2.2.1, a.2.2.2.2.2⟩, rfl⟩) (opensL_cons (opens_int Try.underlying24) (opensL_cons (opens_int Try.underlying24) (opensL_cons (opens_int Try.underlying23) (opensL_cons (opens_int Try.underlying3) (opensL_cons (opens_int Try.underlying23) (opensL_one (opens_slice (d := k53) (t := 25) (e := 53) Try.underlying25 (by kernel_rfl) op53))))))))
def wf38 (x : S38) : Prop := ((Lit.int .u32 x.f0).wf = true) ∧ ((Lit.int .u32 x.f1).wf = true) ∧ ((Lit.int .u32 x.f2).wf = true) ∧ ((Lit.int .i64 x.f3).wf = true)
theorem op38 : Opens Try.prog 38 k38 wf38 :=
  opens_struct Try.underlying38 (by kernel_rfl) (opensL_iso (fun x : S38 => (x.f0, x.f1, x.f2, x.f3)) (fun a => ⟨⟨a.1, a.2.1, a.2.2.1, a.2.2.2⟩, rfl⟩) (opensL_cons (opens_int Try.underlying24) (opensL_cons (opens_int Try.underlying24) (opensL_cons (opens_int Try.underlying23) (opensL_one (opens_int Try.underlying3))))))
def wf47 (x : S47) : Prop := (x.f0.length * 56 ≤ 140737488351232 ∧ x.f0.length ≤ maxLen ∧ ∀ y ∈ x.f0, wf27 y) ∧ (wf27 x.f1) ∧ (wf27 x.f2) ∧ ((Lit.int .i64 x.f3).wf = true)
theorem op47 : Opens Try.prog 47 k47 wf47 :=
  opens_struct Try.underlying47 (by kernel_rfl) (opensL_iso (fun x : S47 => (x.f0, x.f1, x.f2, x.f3)) (fun a => ⟨⟨a.1, a.2.1, a.2.2.1, a.2.2.2⟩, rfl⟩) (opensL_cons (opens_slice (d := k27) (t := 22) (e := 27) Try.underlying22 (by kernel_rfl) op27) (opensL_cons op27 (opensL_cons op27 (opensL_one (opens_int Try.underlying3))))))
end Go.Proofs.Yteibolilodgjnaa.P

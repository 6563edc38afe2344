/- What the laws' arguments read as. -/
import Derived.Test.YticjabdkjjbegaaPx0
import Derived.Test.YticjabdkjjbegaaHOpen
namespace Go.Proofs.Yticjabdkjjbegaa.P
open Go.RowKit Go.Proofs.YticjabdkjjbegaaW.PrintWords Go.Proofs.YticjabdkjjbegaaW.PrintLast Go.Proofs.YticjabdkjjbegaaW.PrintMore Go.Proofs.Yticjabdkjjbegaa.HOpen
def wf41 (x : S41) : Prop := ((Lit.int .i64 x.f0).wf = true) ∧ ((Lit.int .i64 x.f1).wf = true) ∧ ((Lit.int .i64 x.f2).wf = true) ∧ (True)
theorem op41 : Opens Try.prog 41 k41 wf41 :=
  opens_struct Try.underlying41 (by kernel_rfl) (opensL_iso (fun x : S41 => (x.f0, x.f1, x.f2, x.f3)) (fun a => ⟨⟨a.1, a.2.1, a.2.2.1, a.2.2.2⟩, rfl⟩) (opensL_cons (opens_int Try.underlying3) (opensL_cons (opens_int Try.underlying3) (opensL_cons (opens_int Try.underlying3) (opensL_one (opens_bool Try.underlying4))))))
def wf24 (x : S24) : Prop := ((Lit.int .i64 x.f0).wf = true) ∧ (x.f1.length * 32 ≤ 140737488351232 ∧ x.f1.length ≤ maxLen ∧ ∀ y ∈ x.f1, wf41 y)
theorem op24 : Opens Try.prog 24 k24 wf24 :=
  opens_struct Try.underlying24 (by kernel_rfl) (opensL_iso (fun x : S24 => (x.f0, x.f1)) (fun a => ⟨⟨a.1, a.2⟩, rfl⟩) (opensL_cons (opens_int Try.underlying3) (opensL_one (opens_slice (d := k41) (t := 22) (e := 41) Try.underlying22 (by kernel_rfl) op41))))
def wf34 (x : S34) : Prop := (wf24 x.f0) ∧ (x.f1.length * 8 ≤ 140737488351232 ∧ x.f1.length ≤ maxLen ∧ ∀ y ∈ x.f1, (Lit.int .i64 y).wf = true) ∧ ((Lit.int .i64 x.f2).wf = true) ∧ ((Lit.int .i64 x.f3).wf = true)
theorem op34 : Opens Try.prog 34 k34 wf34 :=
  opens_struct Try.underlying34 (by kernel_rfl) (opensL_iso (fun x : S34 => (x.f0, x.f1, x.f2, x.f3)) (fun a => ⟨⟨a.1, a.2.1, a.2.2.1, a.2.2.2⟩, rfl⟩) (opensL_cons op24 (opensL_cons (opens_slice (d := (Kd.int .i64)) (t := 25) (e := 3) Try.underlying25 (by kernel_rfl) (opens_int Try.underlying3)) (opensL_cons (opens_int Try.underlying3) (opensL_one (opens_int Try.underlying3))))))
def wf46 (x : S46) : Prop := (wf24 x.f0) ∧ ((Lit.int .i64 x.f1).wf = true) ∧ ((Lit.int .i64 x.f2).wf = true) ∧ ((Lit.int .i64 x.f3).wf = true)
theorem op46 : Opens Try.prog 46 k46 wf46 :=
  opens_struct Try.underlying46 (by kernel_rfl) (opensL_iso (fun x : S46 => (x.f0, x.f1, x.f2, x.f3)) (fun a => ⟨⟨a.1, a.2.1, a.2.2.1, a.2.2.2⟩, rfl⟩) (opensL_cons op24 (opensL_cons (opens_int Try.underlying3) (opensL_cons (opens_int Try.underlying3) (opensL_one (opens_int Try.underlying3))))))
end Go.Proofs.Yticjabdkjjbegaa.P

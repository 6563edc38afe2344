/- What the laws' arguments read as. -/
import Derived.Test.YtkcphjdjhlikhaaPx0
import Derived.Test.YtkcphjdjhlikhaaHOpen
namespace Go.Proofs.Ytkcphjdjhlikhaa.P
open Go.RowKit Go.Proofs.YtkcphjdjhlikhaaW.PrintWords Go.Proofs.YtkcphjdjhlikhaaW.PrintLast Go.Proofs.YtkcphjdjhlikhaaW.PrintMore Go.Proofs.Ytkcphjdjhlikhaa.HOpen
set_option maxRecDepth 100000
def wf33 (x : S33) : Prop := ((Lit.int .i64 x.f0).wf = true) ∧ ((Lit.int .i64 x.f1).wf = true) ∧ ((Lit.int .i64 x.f2).wf = true) ∧ (True)
theorem op33 : Opens Try.prog 33 k33 wf33 :=
  opens_struct Try.underlying33 (by kernel_rfl) (opensL_iso (fun x : S33 => (x.f0, x.f1, x.f2, x.f3)) (fun a => ⟨⟨a.1, a.2.1, a.2.2.1, a.2.2.2⟩, rfl⟩) (opensL_cons (opens_int Try.underlying3) (opensL_cons (opens_int Try.underlying3) (opensL_cons (opens_int Try.underlying3) (opensL_one (opens_bool Try.underlying4))))))
def wf24 (x : S24) : Prop := ((Lit.int .i64 x.f0).wf = true) ∧ (x.f1.length * 32 ≤ 140737488351232 ∧ x.f1.length ≤ maxLen ∧ ∀ y ∈ x.f1, wf33 y)
theorem op24 : Opens Try.prog 24 k24 wf24 :=
  opens_struct Try.underlying24 (by kernel_rfl) (opensL_iso (fun x : S24 => (x.f0, x.f1)) (fun a => ⟨⟨a.1, a.2⟩, rfl⟩) (opensL_cons (opens_int Try.underlying3) (opensL_one (opens_slice (d := k33) (t := 22) (e := 33) Try.underlying22 (by kernel_rfl) op33))))
def wf37 (x : S37) : Prop := (wf24 x.f0) ∧ ((Lit.int .i64 x.f1).wf = true) ∧ ((Lit.int .i64 x.f2).wf = true) ∧ ((Lit.int .i64 x.f3).wf = true)
theorem op37 : Opens Try.prog 37 k37 wf37 :=
  opens_struct Try.underlying37 (by kernel_rfl) (opensL_iso (fun x : S37 => (x.f0, x.f1, x.f2, x.f3)) (fun a => ⟨⟨a.1, a.2.1, a.2.2.1, a.2.2.2⟩, rfl⟩) (opensL_cons op24 (opensL_cons (opens_int Try.underlying3) (opensL_cons (opens_int Try.underlying3) (opensL_one (opens_int Try.underlying3))))))
def wf29 (x : S29) : Prop := (x.f0.length * 8 ≤ 140737488351232 ∧ x.f0.length ≤ maxLen ∧ ∀ y ∈ x.f0, (Lit.int .i64 y).wf = true) ∧ (x.f1.length * 8 ≤ 140737488351232 ∧ x.f1.length ≤ maxLen ∧ ∀ y ∈ x.f1, (Lit.int .i64 y).wf = true)
theorem op29 : Opens Try.prog 29 k29 wf29 :=
  opens_struct Try.underlying29 (by kernel_rfl) (opensL_iso (fun x : S29 => (x.f0, x.f1)) (fun a => ⟨⟨a.1, a.2⟩, rfl⟩) (opensL_cons (opens_slice (d := (Kd.int .i64)) (t := 25) (e := 3) Try.underlying25 (by kernel_rfl) (opens_int Try.underlying3)) (opensL_one (opens_slice (d := (Kd.int .i64)) (t := 25) (e := 3) Try.underlying25 (by kernel_rfl) (opens_int Try.underlying3)))))
def wf41 (x : S41) : Prop := (wf24 x.f0) ∧ (x.f1.length * 8 ≤ 140737488351232 ∧ x.f1.length ≤ maxLen ∧ ∀ y ∈ x.f1, (Lit.int .i64 y).wf = true) ∧ ((Lit.int .i64 x.f2).wf = true) ∧ (x.f3.length * 8 ≤ 140737488351232 ∧ x.f3.length ≤ maxLen ∧ ∀ y ∈ x.f3, (Lit.int .i64 y).wf = true)
theorem op41 : Opens Try.prog 41 k41 wf41 :=
  opens_struct Try.underlying41 (by kernel_rfl) (opensL_iso (fun x : S41 => (x.f0, x.f1, x.f2, x.f3)) (fun a => ⟨⟨a.1, a.2.1, a.2.2.1, a.2.2.2⟩, rfl⟩) (opensL_cons op24 (opensL_cons (opens_slice (d := (Kd.int .i64)) (t := 25) (e := 3) Try.underlying25 (by kernel_rfl) (opens_int Try.underlying3)) (opensL_cons (opens_int Try.underlying3) (opensL_one (opens_slice (d := (Kd.int .i64)) (t := 25) (e := 3) Try.underlying25 (by kernel_rfl) (opens_int Try.underlying3)))))))
def wf51 (x : S51) : Prop := (wf24 x.f0) ∧ ((Lit.int .i64 x.f1).wf = true) ∧ (x.f2.length * 8 ≤ 140737488351232 ∧ x.f2.length ≤ maxLen ∧ ∀ y ∈ x.f2, (Lit.int .i64 y).wf = true) ∧ ((Lit.int .i64 x.f3).wf = true)
theorem op51 : Opens Try.prog 51 k51 wf51 :=
  opens_struct Try.underlying51 (by kernel_rfl) (opensL_iso (fun x : S51 => (x.f0, x.f1, x.f2, x.f3)) (fun a => ⟨⟨a.1, a.2.1, a.2.2.1, a.2.2.2⟩, rfl⟩) (opensL_cons op24 (opensL_cons (opens_int Try.underlying3) (opensL_cons (opens_slice (d := (Kd.int .i64)) (t := 25) (e := 3) Try.underlying25 (by kernel_rfl) (opens_int Try.underlying3)) (opensL_one (opens_int Try.underlying3))))))
end Go.Proofs.Ytkcphjdjhlikhaa.P

/- What the laws' arguments read as. -/
import Derived.Test.YtfomnmdjbdohgaaPx0
import Derived.Test.YtfomnmdjbdohgaaHOpen
namespace Go.Proofs.Ytfomnmdjbdohgaa.P
open Go.RowKit Go.Proofs.YtfomnmdjbdohgaaW.PrintWords Go.Proofs.YtfomnmdjbdohgaaW.PrintLast Go.Proofs.YtfomnmdjbdohgaaW.PrintMore Go.Proofs.Ytfomnmdjbdohgaa.HOpen
set_option maxRecDepth 100000
def wf74 (x : S74) : Prop := ((Lit.int .i64 x.f0).wf = true) ∧ (True)
theorem op74 : Opens Try.prog 74 k74 wf74 :=
  opens_struct Try.underlying74 (by kernel_rfl) (opensL_iso (fun x : S74 => (x.f0, x.f1)) (fun a => ⟨⟨a.1, a.2⟩, rfl⟩) (opensL_cons (opens_int Try.underlying3) (opensL_one (opens_bool Try.underlying4))))
def wf29 (x : S29) : Prop := ((Lit.int .u32 x.f0).wf = true) ∧ ((Lit.int .u32 x.f1).wf = true) ∧ ((Lit.int .u32 x.f2).wf = true) ∧ ((Lit.int .i64 x.f3).wf = true) ∧ ((Lit.int .u32 x.f4).wf = true) ∧ (x.f5.length * 16 ≤ 140737488351232 ∧ x.f5.length ≤ maxLen ∧ ∀ y ∈ x.f5, wf74 y)
theorem op29 : Opens Try.prog 29 k29 wf29 :=
  opens_struct Try.underlying29 (by kernel_rfl) (opensL_iso (fun x : S29 => (x.f0, x.f1, x.f2, x.f3, x.f4, x.f5)) (fun a => ⟨⟨a.1, a.2.1, a.2.2.1, a.2.2.2.1, a.2.2.2.2.1, a.2.2.2.2.2⟩, rfl⟩) (opensL_cons (opens_int Try.underlying26) (opensL_cons (opens_int Try.underlying26) (opensL_cons (opens_int Try.underlying25) (opensL_cons (opens_int Try.underlying3) (opensL_cons (opens_int Try.underlying25) (opensL_one (opens_slice (d := k74) (t := 27) (e := 74) Try.underlying27 (by kernel_rfl) op74))))))))
def wf24 (x : S24) : Prop := ((Lit.int .i64 x.f0).wf = true) ∧ (x.f1.length * 56 ≤ 140737488351232 ∧ x.f1.length ≤ maxLen ∧ ∀ y ∈ x.f1, wf29 y)
theorem op24 : Opens Try.prog 24 k24 wf24 :=
  opens_struct Try.underlying24 (by kernel_rfl) (opensL_iso (fun x : S24 => (x.f0, x.f1)) (fun a => ⟨⟨a.1, a.2⟩, rfl⟩) (opensL_cons (opens_int Try.underlying3) (opensL_one (opens_slice (d := k29) (t := 22) (e := 29) Try.underlying22 (by kernel_rfl) op29))))
def wf32 (x : S32) : Prop := ((Lit.int .u8 x.f0).wf = true) ∧ ((Lit.int .u32 x.f1).wf = true) ∧ (wf29 x.f2) ∧ ((Lit.int .i64 x.f3).wf = true) ∧ (True) ∧ (x.f5.length * 1 ≤ 140737488351232 ∧ x.f5.length ≤ maxLen ∧ ∀ y ∈ x.f5, (Lit.int .u8 y).wf = true)
theorem op32 : Opens Try.prog 32 k32 wf32 :=
  opens_struct Try.underlying32 (by kernel_rfl) (opensL_iso (fun x : S32 => (x.f0, x.f1, x.f2, x.f3, x.f4, x.f5)) (fun a => ⟨⟨a.1, a.2.1, a.2.2.1, a.2.2.2.1, a.2.2.2.2.1, a.2.2.2.2.2⟩, rfl⟩) (opensL_cons (opens_int Try.underlying5) (opensL_cons (opens_int Try.underlying25) (opensL_cons op29 (opensL_cons (opens_int Try.underlying3) (opensL_cons (opens_bool Try.underlying4) (opensL_one (opens_slice (d := (Kd.int .u8)) (t := 30) (e := 5) Try.underlying30 (by kernel_rfl) (opens_int Try.underlying5)))))))))
end Go.Proofs.Ytfomnmdjbdohgaa.P

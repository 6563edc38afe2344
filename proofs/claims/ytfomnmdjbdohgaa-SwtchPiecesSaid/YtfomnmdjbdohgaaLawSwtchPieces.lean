/- SwtchPieces holds of every input: the row, out of its statement over numbers and lists. No condition beyond the given row's own. -/
import Derived.Test.YtfomnmdjbdohgaaRows
import Derived.Test.YtfomnmdjbdohgaaPx32
import Derived.Test.YtfomnmdjbdohgaaHOps
import Derived.Test.YtfomnmdjbdohgaaPureSwtchPieces
import Derived.WalkKit
import Derived.ProofKit
import Derived.OpenShut
import Derived.ShutString
import Derived.ChangeOld
import Derived.Below
import Derived.SizedLaws
namespace Go.Proofs.Ytfomnmdjbdohgaa.swtchPieces
open Go.ChangeShapes Go.WideShapes Go.ChangeAt Go.RowKit Go.Proofs.Ytfomnmdjbdohgaa.P Go.Proofs.Ytfomnmdjbdohgaa.HOpen Go.Proofs.YtfomnmdjbdohgaaW.PrintWords
open Go.ChangeMaps (open_string shut_string)
set_option linter.unusedVariables false
theorem own : ownKnob Try.prog.godebug = none := by kernel_rfl
theorem laidOut : laidOutB Try.prog = true := by kernel_rfl
set_option maxRecDepth 100000 in
theorem lifted (os : Os) (started : os.Started) (H : Type) (enc : TypeId × Value → H) :
    ReturnsInHanded {} Try.checked os 6 .any (Rows.swtchPiecesSpec.pre6 enc Try.prog Try.f6 Rows.swtchPiecesRow.domain false) (Rows.swtchPiecesSpec.post enc Try.prog Try.f6 false true false false) := by
  refine returnsInHanded_of_change_sized (C := Try.checked) own started (by kernel_rfl) Try.func6
    (ChangeSpec.witness6 (enc := enc) (C := Try.checked) false ⟨#[], #[(.agg #[(.int .i64 0), (.slice none 0 0)]), .slice none 0 0, .int .i64 0], []⟩ 8 (by kernel_rfl) (by kernel_rfl) (by kernel_rfl) (by kernel_rfl)) ?_
  intro W base args ds gs before hval0 hW hcnd hsz0 _
  have hsz : (DataW.weightsEach Try.prog (Try.f6.params.toList ++ Rows.swtchPiecesSpec.plain.varTypes Try.prog) (ds ++ gs)).all (· ≤ reachBytes) = true := hsz0
  have hval : ∀ (j : Nat) t v, Try.f6.params[j]? = some t → args[j]? = some v → Value.okWide Try.prog W .any base t v := hval0
  have hW' := hW
  obtain ⟨p, q, hA0, hV, rfl, hfz, hnd⟩ := hW
  have hA : DataW.TrodAll enc Try.prog W 0 (fun _ => true) true Try.f6.params.toList args.toList ds p := hA0
  rw [Try.params6] at hA hval hsz
  obtain ⟨v0, vs0, d0, ds0, p0, q0, hargs, rfl, rfl, h0, r0⟩ := trodAll_cons hA
  obtain ⟨v1, vs1, d1, ds1, p1, q1, rfl, rfl, rfl, h1, r1⟩ := trodAll_cons r0
  obtain ⟨v2, vs2, d2, ds2, p2, q2, rfl, rfl, rfl, h2, r2⟩ := trodAll_cons r1
  obtain ⟨rfl, rfl, rfl⟩ := trodAll_nil r2
  obtain rfl : args = #[v0, v1, v2] := by cases args; simp_all
  obtain ⟨rfl, rfl⟩ := trodVars_none hV
  have k0 := h0
  have lt0 : ∀ x ∈ p0, x.block < W.heap.size := by obtain ⟨m, hm⟩ := k0; exact DataW.trod_lt m _ _ _ hm
  obtain ⟨⟨cl0⟩, x0, rfl, hK0, w0⟩ := arg_struct Try.underlying24 op24 (hval 0 24 v0 rfl rfl) h0 hsz (j := 0) rfl rfl
  have hK0' : k24.K W x0 cl0 := hK0
  clear hK0
  obtain ⟨A0_1, c0_1, rfl, hc0_1, hr0_1⟩ := k24_open hK0'
  have k1 := h1
  have lt1 : ∀ x ∈ p1, x.block < W.heap.size := by obtain ⟨m, hm⟩ := k1; exact DataW.trod_lt m _ _ _ hm
  obtain ⟨A1, c1, x1, rfl, hc1, hr1, w1⟩ := arg_slice Try.underlying33 (opens_slice (d := k32) (t := 33) (e := 32) Try.underlying33 (by kernel_rfl) op32) (hval 1 33 v1 rfl rfl) h1 hsz (j := 1) rfl rfl
  obtain ⟨x2, rfl, rfl, rfl, w2⟩ := open_int Try.underlying3 (hval 2 3 v2 rfl rfl) h2
  clear hA0 hval0 hsz0 hsz
  obtain ⟨k, hk⟩ := Pure.SwtchPieces x0 x1 x2 w0 w1 w2
  refine (stolonlaw17_SwtchPieces.calls k _ _ _ _ _ _ _ _ true W hr0_1 hc0_1 hr1 hc1 ⟨rfl⟩ hk).mono fun e W' ⟨he, bel⟩ => ?_
  subst he
  exact ⟨_, rfl, _, _, _, [], _, [], hW', trodAll_mk1 (shut_bool Try.underlying4 _), (trodAll_cons_mk (Below.trod laidOut (by kernel_rfl) (of_decide_eq_true (by kernel_rfl)) k0 bel lt0) (trodAll_cons_mk (Below.trod laidOut (by kernel_rfl) (of_decide_eq_true (by kernel_rfl)) k1 bel lt1) (trodAll_cons_mk (shut_int Try.underlying3 w2) trodAll_mk0))), rfl, bel.frame _, fun h => by cases h⟩
theorem over : Rows.swtchPiecesRow.holds Try.pinned (OpenSpec.ofChange Rows.swtchPiecesSpec) :=
  OpenClaim.holds_of_wide 6 Try.f6 rfl rfl rfl rfl rfl rfl rfl ⟨rfl, rfl, rfl, rfl, rfl⟩ rfl rfl rfl rfl rfl (by kernel_rfl) Try.func6 (by kernel_rfl)
    (of_decide_eq_true (by kernel_rfl)) (by unfold Func.isWrapper; first | (rw [if_pos (by decide +kernel)]; kernel_rfl) | (rw [if_neg (by decide +kernel)]; exact ⟨rfl, rfl⟩))
    (fun os started H enc _ => lifted os started H enc)
theorem proved : Rows.SwtchPiecesSaid := over
#print axioms proved
end Go.Proofs.Ytfomnmdjbdohgaa.swtchPieces
namespace Go.Proofs.Ytfomnmdjbdohgaa
/-- The row, under a short name, for the claim. -/
theorem swtchPieces_holds : Rows.SwtchPiecesSaid := swtchPieces.proved
end Go.Proofs.Ytfomnmdjbdohgaa

/- AddrOrder holds of every input: the row, out of its statement over numbers and lists. No condition beyond the given row's own. -/
import Derived.Test.YtplkfpfgnccffaaDoorRows
import Derived.Test.YtplkfpfgnccffaaDoorPx12
import Derived.Test.YtplkfpfgnccffaaDoorHOps
import Derived.Test.YtplkfpfgnccffaaDoorPureAddrOrder
import Derived.Test.YtplkfpfgnccffaaDoorLaid
import Derived.Test.YtplkfpfgnccffaaDoorTie
import Derived.Test.YtplkfpfgnccffaaDoorCards
import Derived.WalkKit
import Derived.ProofKit
import Derived.OpenShut
import Derived.ShutString
import Derived.ChangeOld
import Derived.Below
import Derived.SizedLaws
namespace Go.Proofs.YtplkfpfgnccffaaDoor.addrOrder
open Go.ChangeShapes Go.WideShapes Go.ChangeAt Go.RowKit Go.Proofs.YtplkfpfgnccffaaDoor.P Go.Proofs.YtplkfpfgnccffaaDoor.HOpen Go.Proofs.YtplkfpfgnccffaaDoorW.PrintWords
open Go.ChangeMaps (open_string shut_string)
set_option linter.unusedVariables false
theorem own : ownKnob Tryd.prog.godebug = none := by kernel_rfl
set_option maxRecDepth 100000 in
theorem lifted (os : Os) (started : os.Started) (H : Type) (enc : TypeId × Value → H) :
    ReturnsInHanded {} Tryd.checked os 8 .any (fun w args => (Rows.addrOrderSpec.pre enc Tryd.prog Tryd.f8 Rows.addrOrderRow.domain false w args ∧ laidMetH Tryd.prog laidL w) ∧ sizedMet enc Tryd.prog Tryd.f8 (OpenSpec.ofChange Rows.addrOrderSpec) false w args) (Rows.addrOrderSpec.post enc Tryd.prog Tryd.f8 false true false false) := by
  refine handed_both (C := Tryd.checked) (X := fun w _ => laidMetH Tryd.prog laidL w) (fun _ _ _ hh h => h.of_heap hh) own started (by kernel_rfl) Tryd.func8
    (ChangeSpec.witness_shaped (enc := enc) (C := Tryd.checked) (os := os) (X := fun w _ => laidMetH Tryd.prog laidL w) false (World.laidAll Tryd.prog os laidL) #[.int .u32 0, .int .u32 0, .int .u32 0] 8 (World.laidAll_os _ _ _) (World.shaped_of_ZipB (by kernel_rfl) (by kernel_rfl)) (by kernel_rfl) (by kernel_rfl) (by kernel_rfl) (laid_there os _)) ?_
  intro W base args ds gs before hval0 hW hsz0 hLd hsh
  have hLW := laidW_of hLd hsh
  have hsz : (DataW.weightsEach Tryd.prog (Tryd.f8.params.toList ++ Rows.addrOrderSpec.plain.varTypes Tryd.prog) (ds ++ gs)).all (· ≤ reachBytes) = true := hsz0
  have hval : ∀ (j : Nat) t v, Tryd.f8.params[j]? = some t → args[j]? = some v → Value.okWide Tryd.prog W .any base t v := hval0
  have hW' := hW
  obtain ⟨p, q, hA0, hV, rfl, hfz, hnd⟩ := hW
  have hA : DataW.TrodAll enc Tryd.prog W 0 (fun _ => true) true Tryd.f8.params.toList args.toList ds p := hA0
  rw [Tryd.params8] at hA hval hsz
  obtain ⟨v0, vs0, d0, ds0, p0, q0, hargs, rfl, rfl, h0, r0⟩ := trodAll_cons hA
  obtain ⟨v1, vs1, d1, ds1, p1, q1, rfl, rfl, rfl, h1, r1⟩ := trodAll_cons r0
  obtain ⟨v2, vs2, d2, ds2, p2, q2, rfl, rfl, rfl, h2, r2⟩ := trodAll_cons r1
  obtain ⟨rfl, rfl, rfl⟩ := trodAll_nil r2
  obtain rfl : args = #[v0, v1, v2] := by cases args; simp_all
  obtain ⟨rfl, rfl⟩ := trodVars_none hV
  obtain ⟨x0, rfl, rfl, rfl, w0⟩ := open_int Tryd.underlying25 (hval 0 25 v0 rfl rfl) h0
  obtain ⟨x1, rfl, rfl, rfl, w1⟩ := open_int Tryd.underlying25 (hval 1 25 v1 rfl rfl) h1
  obtain ⟨x2, rfl, rfl, rfl, w2⟩ := open_int Tryd.underlying25 (hval 2 25 v2 rfl rfl) h2
  clear hA0 hval0 hsz0 hsz
  obtain ⟨k, hk⟩ := Pure.AddrOrder x0 x1 x2 w0 w1 w2
  refine (stolonlaw01_AddrOrder.calls k _ _ _ true W ⟨rfl⟩ hLW hk).mono fun e W' ⟨he, bel⟩ => ?_
  subst he
  exact ⟨_, rfl, _, _, _, [], _, [], hW', trodAll_mk1 (shut_bool Tryd.underlying4 _), (trodAll_cons_mk (shut_int Tryd.underlying25 w0) (trodAll_cons_mk (shut_int Tryd.underlying25 w1) (trodAll_cons_mk (shut_int Tryd.underlying25 w2) trodAll_mk0))), rfl, bel.frame _, fun h => by cases h⟩
theorem over : Rows.addrOrderRow.holds Tryd.pinned (OpenSpec.ofChange Rows.addrOrderSpec) :=
  OpenClaim.holds_of_wide 8 Tryd.f8 rfl rfl rfl rfl rfl rfl rfl ⟨rfl, rfl, rfl, rfl, rfl⟩ rfl rfl rfl rfl rfl (by kernel_rfl) Tryd.func8 (by kernel_rfl)
    (of_decide_eq_true (by kernel_rfl)) (by unfold Func.isWrapper; first | (rw [if_pos (by decide +kernel)]; kernel_rfl) | (rw [if_neg (by decide +kernel)]; exact ⟨rfl, rfl⟩))
    (fun os started H enc _ => lifted os started H enc)
theorem proved : Rows.AddrOrderSaid := over
theorem card_holds : Rows.AddrOrderCardSaid :=
  Claim7.holds_tied_plain_at .later [] [.data, .data, .data, .data, .sentinel, .sentinel, .pinned] true (true, "280250f256fa9221c24c20ac742ec8d50ce46f3326cacc973b62ba230c9dc1b8") true over (fun _ h => by cases h) (by kernel_rfl) (fun _ h => by cases h) addrOrder_row_tie rfl ⟨rfl, rfl⟩ (by kernel_rfl) rfl
    (fun f fn hf hfn => by
      obtain rfl : f = 8 := Option.some.inj ((show Tryd.prog.funcNamed "stolon/stolonlaw01.AddrOrder" = some 8 by kernel_rfl).symm.trans hf) |>.symm
      obtain rfl : fn = Tryd.f8 := (Option.some.inj (Tryd.func8.symm.trans hfn)).symm
      refine ⟨by kernel_rfl, fun j t ht => ?_⟩
      rw [Tryd.params8] at ht
      exact match j, ht with
      | 0, ht => by
        obtain rfl : t = 25 := by simpa using ht.symm
        exact (show Tryd.prog.wantsStandIn 25 = false by kernel_rfl)
      | 1, ht => by
        obtain rfl : t = 25 := by simpa using ht.symm
        exact (show Tryd.prog.wantsStandIn 25 = false by kernel_rfl)
      | 2, ht => by
        obtain rfl : t = 25 := by simpa using ht.symm
        exact (show Tryd.prog.wantsStandIn 25 = false by kernel_rfl)
      | j + 3, ht => by simp at ht)
    (by kernel_rfl)
#print axioms card_holds
end Go.Proofs.YtplkfpfgnccffaaDoor.addrOrder
namespace Go.Proofs.YtplkfpfgnccffaaDoor
/-- The row, under a short name, for the claim. -/
theorem addrOrder_holds : Rows.AddrOrderCardSaid := addrOrder.card_holds
end Go.Proofs.YtplkfpfgnccffaaDoor

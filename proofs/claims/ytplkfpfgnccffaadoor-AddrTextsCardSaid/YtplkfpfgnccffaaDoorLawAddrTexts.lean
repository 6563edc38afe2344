/- AddrTexts holds of every input: the row, out of its statement over numbers and lists. No condition beyond the given row's own. -/
import Derived.Test.YtplkfpfgnccffaaDoorRows
import Derived.Test.YtplkfpfgnccffaaDoorPx7
import Derived.Test.YtplkfpfgnccffaaDoorHOps
import Derived.Test.YtplkfpfgnccffaaDoorPureAddrTexts
import Derived.Test.YtplkfpfgnccffaaDoorLaid
import Derived.Test.YtplkfpfgnccffaaDoorTie
import Derived.Test.YtplkfpfgnccffaaDoorCards
import Derived.WalkKit
import Derived.ProofKit
import Derived.OpenShut
import Derived.ShutString
import Derived.ChangeOld
import Derived.Below
import Derived.SizedLaws
namespace Go.Proofs.YtplkfpfgnccffaaDoor.addrTexts
open Go.ChangeShapes Go.WideShapes Go.ChangeAt Go.RowKit Go.Proofs.YtplkfpfgnccffaaDoor.P Go.Proofs.YtplkfpfgnccffaaDoor.HOpen Go.Proofs.YtplkfpfgnccffaaDoorW.PrintWords
open Go.ChangeMaps (open_string shut_string)
set_option linter.unusedVariables false
theorem own : ownKnob Tryd.prog.godebug = none := by kernel_rfl
theorem laidOut : laidOutB Tryd.prog = true := by kernel_rfl
set_option maxRecDepth 100000 in
theorem lifted (os : Os) (started : os.Started) (H : Type) (enc : TypeId × Value → H) :
    ReturnsInHanded {} Tryd.checked os 5 .any (fun w args => (Rows.addrTextsSpec.pre enc Tryd.prog Tryd.f5 Rows.addrTextsRow.domain false w args ∧ laidMetH Tryd.prog laidL w) ∧ sizedMet enc Tryd.prog Tryd.f5 (OpenSpec.ofChange Rows.addrTextsSpec) false w args) (Rows.addrTextsSpec.post enc Tryd.prog Tryd.f5 false true false false) := by
  refine handed_both (C := Tryd.checked) (X := fun w _ => laidMetH Tryd.prog laidL w) (fun _ _ _ hh h => h.of_heap hh) own started (by kernel_rfl) Tryd.func5
    (ChangeSpec.witness_shaped (enc := enc) (C := Tryd.checked) (os := os) (X := fun w _ => laidMetH Tryd.prog laidL w) false (World.laidAll Tryd.prog os laidL) #[(.agg #[(.int .u8 0), (.int .u8 0), (.int .u8 0), (.int .u8 0), (.string ⟨#[]⟩)])] 8 (World.laidAll_os _ _ _) (World.shaped_of_ZipB (by kernel_rfl) (by kernel_rfl)) (by kernel_rfl) (by kernel_rfl) (by kernel_rfl) (laid_there os _)) ?_
  intro W base args ds gs before hval0 hW hsz0 hLd hsh
  have hLW := laidW_of hLd hsh
  have hsz : (DataW.weightsEach Tryd.prog (Tryd.f5.params.toList ++ Rows.addrTextsSpec.plain.varTypes Tryd.prog) (ds ++ gs)).all (· ≤ reachBytes) = true := hsz0
  have hval : ∀ (j : Nat) t v, Tryd.f5.params[j]? = some t → args[j]? = some v → Value.okWide Tryd.prog W .any base t v := hval0
  have hW' := hW
  obtain ⟨p, q, hA0, hV, rfl, hfz, hnd⟩ := hW
  have hA : DataW.TrodAll enc Tryd.prog W 0 (fun _ => true) true Tryd.f5.params.toList args.toList ds p := hA0
  rw [Tryd.params5] at hA hval hsz
  obtain ⟨v0, vs0, d0, ds0, p0, q0, hargs, rfl, rfl, h0, r0⟩ := trodAll_cons hA
  obtain ⟨rfl, rfl, rfl⟩ := trodAll_nil r0
  obtain rfl : args = #[v0] := by cases args; simp_all
  obtain ⟨rfl, rfl⟩ := trodVars_none hV
  have k0 := h0
  have lt0 : ∀ x ∈ p0, x.block < W.heap.size := by obtain ⟨m, hm⟩ := k0; exact DataW.trod_lt m _ _ _ hm
  obtain ⟨⟨cl0⟩, x0, rfl, hK0, w0⟩ := arg_struct Tryd.underlying38 op38 (hval 0 38 v0 rfl rfl) h0 hsz (j := 0) rfl rfl
  have hK0' : k38.K W x0 cl0 := hK0
  clear hK0
  obtain rfl := k38_open hK0'
  clear hA0 hval0 hsz0 hsz
  obtain ⟨k, hk⟩ := Pure.AddrTexts x0 w0
  refine (stolonlaw01_AddrTexts.calls k _ _ _ _ _ true W ⟨rfl⟩ hLW hk).mono fun e W' ⟨he, bel⟩ => ?_
  subst he
  exact ⟨_, rfl, _, _, _, [], _, [], hW', trodAll_mk1 (shut_bool Tryd.underlying4 _), (trodAll_cons_mk (Below.trod laidOut (by kernel_rfl) (of_decide_eq_true (by kernel_rfl)) k0 bel lt0) trodAll_mk0), rfl, bel.frame _, fun h => by cases h⟩
theorem over : Rows.addrTextsRow.holds Tryd.pinned (OpenSpec.ofChange Rows.addrTextsSpec) :=
  OpenClaim.holds_of_wide 5 Tryd.f5 rfl rfl rfl rfl rfl rfl rfl ⟨rfl, rfl, rfl, rfl, rfl⟩ rfl rfl rfl rfl rfl (by kernel_rfl) Tryd.func5 (by kernel_rfl)
    (of_decide_eq_true (by kernel_rfl)) (by unfold Func.isWrapper; first | (rw [if_pos (by decide +kernel)]; kernel_rfl) | (rw [if_neg (by decide +kernel)]; exact ⟨rfl, rfl⟩))
    (fun os started H enc _ => lifted os started H enc)
theorem proved : Rows.AddrTextsSaid := over
theorem card_holds : Rows.AddrTextsCardSaid :=
  Claim7.holds_tied_plain_at .later [] [.data, .data, .data, .data, .sentinel, .sentinel, .pinned] true (true, "280250f256fa9221c24c20ac742ec8d50ce46f3326cacc973b62ba230c9dc1b8") true over (fun _ h => by cases h) (by kernel_rfl) (fun _ h => by cases h) addrTexts_row_tie rfl ⟨rfl, rfl⟩ (by kernel_rfl) rfl
    (fun f fn hf hfn => by
      obtain rfl : f = 5 := Option.some.inj ((show Tryd.prog.funcNamed "stolon/stolonlaw01.AddrTexts" = some 5 by kernel_rfl).symm.trans hf) |>.symm
      obtain rfl : fn = Tryd.f5 := (Option.some.inj (Tryd.func5.symm.trans hfn)).symm
      refine ⟨by kernel_rfl, fun j t ht => ?_⟩
      rw [Tryd.params5] at ht
      exact match j, ht with
      | 0, ht => by
        obtain rfl : t = 38 := by simpa using ht.symm
        exact (show Tryd.prog.wantsStandIn 38 = false by kernel_rfl)
      | j + 1, ht => by simp at ht)
    (by kernel_rfl)
#print axioms card_holds
end Go.Proofs.YtplkfpfgnccffaaDoor.addrTexts
namespace Go.Proofs.YtplkfpfgnccffaaDoor
/-- The row, under a short name, for the claim. -/
theorem addrTexts_holds : Rows.AddrTextsCardSaid := addrTexts.card_holds
end Go.Proofs.YtplkfpfgnccffaaDoor

/-
  No cell of these rows narrows 'for every input' (looked for: loops, veiled, ifaces, maps, wideKeys, modest, calm, conditions, laid).
  DERIVED. THE GIVEN ROWS OF THIS SEAT. 4 by the template 'for every input the law returns true; each argument reads behind the call as it read before'; 0 by the template 'total and deterministic' (their statements: YteibolilodgjnaaTotals.lean).
  GIVEN WITH THE SEED: the statements are not yours to turn. If you find one false, say at which input.
  Laid BY PROGRAM, IN A SANDBOX (cutbox-rows.mjs): the forced cells as the released guide's own fill.sh prints them over the translation 073c262e3ac781fa… (all of the seat's roots in one cut). By AI agents, Wed Nov 11 2026. No macro, syntax, notation, axiom, sorry.
-/
import Derived.Test.YteibolilodgjnaaChecked
import GoSem.Claim
import GoSem.ClaimJoined
import GoSem.ClaimMapViews
import Derived.JoinedTies
import Derived.KernelRfl
namespace Go.Proofs.Yteibolilodgjnaa
/- THE CELL 'sum', in the pinned program and in every row, IS THE sha256 OF THE DUMP (.gsa) THAT YteibolilodgjnaaProg.lean LOADS. Nothing in Lean hashes anything: it is a label: what it is worth is what the hold of that sum in a sandbox is worth. -/
noncomputable def Try.pinned : Pinned := { name := "yteibolilodgjnaa", sum := "073c262e3ac781faf460ce7ceb6a8e3b7590f231963a483f9c9ab163ad2868f7", checked := Try.checked }
namespace Rows
def none {H : Type} : Left H := { results := [], args := [] }

/-- 'stolonlaw15.FlowTwo': WHATEVER THE INPUT: true; the input reads as it did. -/
def flowTwoSpec : ChangeSpec := { name := "flowTwo", fn := fun _ => fun
  | [d1, d2, d3] => { results := [.lit (.bool true)], args := [d1, d2, d3] }
  | _ => none }
def flowTwoRow : OpenClaim := { program := "yteibolilodgjnaa", sum := "073c262e3ac781faf460ce7ceb6a8e3b7590f231963a483f9c9ab163ad2868f7", func := "stolon/stolonlaw15.FlowTwo", spec := "flowTwo", inPlace := ["slices.overlaps[stolon/api.Rule]"], unfollowed := true, recurses := true, apart := false }
def FlowTwoSaid : Prop := flowTwoRow.holds Try.pinned (OpenSpec.ofChange flowTwoSpec)

/-- ITS FALSE NEIGHBOUR: 'it returns false'. Refute it at one input. -/
def flowTwoWrong : ChangeSpec := { name := "flowTwo", fn := fun _ => fun
  | [d1, d2, d3] => { results := [.lit (.bool false)], args := [d1, d2, d3] }
  | _ => none }
def FlowTwoWrongFalsely : Prop := flowTwoRow.holds Try.pinned (OpenSpec.ofChange flowTwoWrong)

/-- 'stolonlaw15.FlowKeeps': WHATEVER THE INPUT: true; the input reads as it did. -/
def flowKeepsSpec : ChangeSpec := { name := "flowKeeps", fn := fun _ => fun
  | [d1, d2, d3] => { results := [.lit (.bool true)], args := [d1, d2, d3] }
  | _ => none }
def flowKeepsRow : OpenClaim := { program := "yteibolilodgjnaa", sum := "073c262e3ac781faf460ce7ceb6a8e3b7590f231963a483f9c9ab163ad2868f7", func := "stolon/stolonlaw15.FlowKeeps", spec := "flowKeeps", inPlace := ["slices.overlaps[stolon/api.Rule]"], unfollowed := true, recurses := true, apart := false }
def FlowKeepsSaid : Prop := flowKeepsRow.holds Try.pinned (OpenSpec.ofChange flowKeepsSpec)

/-- ITS FALSE NEIGHBOUR: 'it returns false'. Refute it at one input. -/
def flowKeepsWrong : ChangeSpec := { name := "flowKeeps", fn := fun _ => fun
  | [d1, d2, d3] => { results := [.lit (.bool false)], args := [d1, d2, d3] }
  | _ => none }
def FlowKeepsWrongFalsely : Prop := flowKeepsRow.holds Try.pinned (OpenSpec.ofChange flowKeepsWrong)

/-- 'stolonlaw15.FlowNone': WHATEVER THE INPUT: true; the input reads as it did. -/
def flowNoneSpec : ChangeSpec := { name := "flowNone", fn := fun _ => fun
  | [d1, d2, d3] => { results := [.lit (.bool true)], args := [d1, d2, d3] }
  | _ => none }
def flowNoneRow : OpenClaim := { program := "yteibolilodgjnaa", sum := "073c262e3ac781faf460ce7ceb6a8e3b7590f231963a483f9c9ab163ad2868f7", func := "stolon/stolonlaw15.FlowNone", spec := "flowNone", inPlace := ["slices.overlaps[stolon/api.Rule]"], unfollowed := true, recurses := true, apart := false }
def FlowNoneSaid : Prop := flowNoneRow.holds Try.pinned (OpenSpec.ofChange flowNoneSpec)

/-- ITS FALSE NEIGHBOUR: 'it returns false'. Refute it at one input. -/
def flowNoneWrong : ChangeSpec := { name := "flowNone", fn := fun _ => fun
  | [d1, d2, d3] => { results := [.lit (.bool false)], args := [d1, d2, d3] }
  | _ => none }
def FlowNoneWrongFalsely : Prop := flowNoneRow.holds Try.pinned (OpenSpec.ofChange flowNoneWrong)

/-- 'stolonlaw15.FlowTables': WHATEVER THE INPUT: true; the input reads as it did. -/
def flowTablesSpec : ChangeSpec := { name := "flowTables", fn := fun _ => fun
  | [d] => { results := [.lit (.bool true)], args := [d] }
  | _ => none }
def flowTablesRow : OpenClaim := { program := "yteibolilodgjnaa", sum := "073c262e3ac781faf460ce7ceb6a8e3b7590f231963a483f9c9ab163ad2868f7", func := "stolon/stolonlaw15.FlowTables", spec := "flowTables", inPlace := ["slices.overlaps[stolon/api.Rule]"], unfollowed := true, recurses := true, apart := false }
def FlowTablesSaid : Prop := flowTablesRow.holds Try.pinned (OpenSpec.ofChange flowTablesSpec)

/-- ITS FALSE NEIGHBOUR: 'it returns false'. Refute it at one input. -/
def flowTablesWrong : ChangeSpec := { name := "flowTables", fn := fun _ => fun
  | [d] => { results := [.lit (.bool false)], args := [d] }
  | _ => none }
def FlowTablesWrongFalsely : Prop := flowTablesRow.holds Try.pinned (OpenSpec.ofChange flowTablesWrong)

/- THE SECOND FORM. 'bulk': how many values and letters a reading holds, each counted each time it is reached (what is shared counts as often as it is met; a slice's spare places count too). A statement '..UptoSaid' is the law's where the arguments, and the package variables that the reading takes, are together of bulk at most 1048576: NARROWER than '..Said'. Prove '..Said' where nothing that the law and all that it calls make is longer than what came in: it says more and counts as full. Else prove '..UptoSaid'. A law counts once. -/
mutual
def uptoBulk {H : Type} : DataW H → Nat
  | .lit (.string bytes) => bytes.length + 1
  | .lit _ => 1
  | .nil => 1
  | .ptr d => uptoBulk d + 1
  | .slice elems spare => uptoBulkAll elems + uptoBulkAll spare + 1
  | .agg parts => uptoBulkAll parts + 1
  | .iface _ d => uptoBulk d + 1
  | .map entries => uptoBulkEntries entries + 1
  | .held _ => 1
def uptoBulkAll {H : Type} : List (DataW H) → Nat
  | [] => 0
  | d :: r => uptoBulk d + uptoBulkAll r
def uptoBulkEntries {H : Type} : List (Lit × DataW H) → Nat
  | [] => 0
  | x :: r => uptoBulkEntry x + uptoBulkEntries r
def uptoBulkEntry {H : Type} : Lit × DataW H → Nat
  | (.string bytes, d) => bytes.length + uptoBulk d + 1
  | (_, d) => uptoBulk d + 1
 end
def uptoSmall : (H : Type) → List (DataW H) → Bool := fun _ ds => decide (uptoBulkAll ds ≤ 1048576)
def OpenSpec.upto (s : _root_.Go.ChangeSpec) : _root_.Go.OpenSpec := { _root_.Go.OpenSpec.ofChange s with cond := some uptoSmall }

/-- 'stolonlaw15.FlowTwo', WHERE WHAT IT READS IS OF BULK AT MOST 1048576: true; the input reads as it did. -/
def flowTwoUptoRow : OpenClaim := { program := "yteibolilodgjnaa", sum := "073c262e3ac781faf460ce7ceb6a8e3b7590f231963a483f9c9ab163ad2868f7", func := "stolon/stolonlaw15.FlowTwo", spec := "flowTwo", inPlace := ["slices.overlaps[stolon/api.Rule]"], unfollowed := true, recurses := true, apart := false, narrowed := true }
def FlowTwoUptoSaid : Prop := flowTwoUptoRow.holds Try.pinned (OpenSpec.upto flowTwoSpec)

/-- 'stolonlaw15.FlowKeeps', WHERE WHAT IT READS IS OF BULK AT MOST 1048576: true; the input reads as it did. -/
def flowKeepsUptoRow : OpenClaim := { program := "yteibolilodgjnaa", sum := "073c262e3ac781faf460ce7ceb6a8e3b7590f231963a483f9c9ab163ad2868f7", func := "stolon/stolonlaw15.FlowKeeps", spec := "flowKeeps", inPlace := ["slices.overlaps[stolon/api.Rule]"], unfollowed := true, recurses := true, apart := false, narrowed := true }
def FlowKeepsUptoSaid : Prop := flowKeepsUptoRow.holds Try.pinned (OpenSpec.upto flowKeepsSpec)

/-- 'stolonlaw15.FlowNone', WHERE WHAT IT READS IS OF BULK AT MOST 1048576: true; the input reads as it did. -/
def flowNoneUptoRow : OpenClaim := { program := "yteibolilodgjnaa", sum := "073c262e3ac781faf460ce7ceb6a8e3b7590f231963a483f9c9ab163ad2868f7", func := "stolon/stolonlaw15.FlowNone", spec := "flowNone", inPlace := ["slices.overlaps[stolon/api.Rule]"], unfollowed := true, recurses := true, apart := false, narrowed := true }
def FlowNoneUptoSaid : Prop := flowNoneUptoRow.holds Try.pinned (OpenSpec.upto flowNoneSpec)

/-- 'stolonlaw15.FlowTables', WHERE WHAT IT READS IS OF BULK AT MOST 1048576: true; the input reads as it did. -/
def flowTablesUptoRow : OpenClaim := { program := "yteibolilodgjnaa", sum := "073c262e3ac781faf460ce7ceb6a8e3b7590f231963a483f9c9ab163ad2868f7", func := "stolon/stolonlaw15.FlowTables", spec := "flowTables", inPlace := ["slices.overlaps[stolon/api.Rule]"], unfollowed := true, recurses := true, apart := false, narrowed := true }
def FlowTablesUptoSaid : Prop := flowTablesUptoRow.holds Try.pinned (OpenSpec.upto flowTablesSpec)

end Rows
end Go.Proofs.Yteibolilodgjnaa

/-
  No cell of these rows narrows 'for every input' (looked for: loops, veiled, ifaces, maps, wideKeys, modest, calm, conditions, laid).
  DERIVED. THE GIVEN ROWS OF THIS SEAT. 6 by the template 'for every input the law returns true; each argument reads behind the call as it read before'; 0 by the template 'total and deterministic' (their statements: YticjabdkjjbegaaTotals.lean).
  GIVEN WITH THE SEED: the statements are not yours to turn. If you find one false, say at which input.
  Laid BY PROGRAM, IN A SANDBOX (cutbox-rows.mjs): the forced cells as the released guide's own fill.sh prints them over the translation 6725d4609c7ae35d… (all of the seat's roots in one cut). By AI agents, Wed Nov 11 2026. No macro, syntax, notation, axiom, sorry.
-/
import Derived.Test.YticjabdkjjbegaaChecked
import GoSem.Claim
import GoSem.ClaimJoined
import GoSem.ClaimMapViews
import Derived.JoinedTies
import Derived.KernelRfl
namespace Go.Proofs.Yticjabdkjjbegaa
/- THE CELL 'sum', in the pinned program and in every row, IS THE sha256 OF THE DUMP (.gsa) THAT YticjabdkjjbegaaProg.lean LOADS. Nothing in Lean hashes anything: it is a label: what it is worth is what the hold of that sum in a sandbox is worth. -/
noncomputable def Try.pinned : Pinned := { name := "yticjabdkjjbegaa", sum := "6725d4609c7ae35dba6071b34d220440b95d8d471bd3dcab66d75113a463576b", checked := Try.checked }
namespace Rows
def none {H : Type} : Left H := { results := [], args := [] }

/-- 'stolonlaw11.GraphTrees': WHATEVER THE INPUT: true; the input reads as it did. -/
def graphTreesSpec : ChangeSpec := { name := "graphTrees", fn := fun _ => fun
  | [d1, d2, d3] => { results := [.lit (.bool true)], args := [d1, d2, d3] }
  | _ => none }
def graphTreesRow : OpenClaim := { program := "yticjabdkjjbegaa", sum := "6725d4609c7ae35dba6071b34d220440b95d8d471bd3dcab66d75113a463576b", func := "stolon/stolonlaw11.GraphTrees", spec := "graphTrees", unfollowed := true, recurses := true, apart := false }
def GraphTreesSaid : Prop := graphTreesRow.holds Try.pinned (OpenSpec.ofChange graphTreesSpec)

/-- ITS FALSE NEIGHBOUR: 'it returns false'. Refute it at one input. -/
def graphTreesWrong : ChangeSpec := { name := "graphTrees", fn := fun _ => fun
  | [d1, d2, d3] => { results := [.lit (.bool false)], args := [d1, d2, d3] }
  | _ => none }
def GraphTreesWrongFalsely : Prop := graphTreesRow.holds Try.pinned (OpenSpec.ofChange graphTreesWrong)

/-- 'stolonlaw11.GraphOne': WHATEVER THE INPUT: true; the input reads as it did. -/
def graphOneSpec : ChangeSpec := { name := "graphOne", fn := fun _ => fun
  | [d] => { results := [.lit (.bool true)], args := [d] }
  | _ => none }
def graphOneRow : OpenClaim := { program := "yticjabdkjjbegaa", sum := "6725d4609c7ae35dba6071b34d220440b95d8d471bd3dcab66d75113a463576b", func := "stolon/stolonlaw11.GraphOne", spec := "graphOne", unfollowed := true, recurses := true, apart := false }
def GraphOneSaid : Prop := graphOneRow.holds Try.pinned (OpenSpec.ofChange graphOneSpec)

/-- ITS FALSE NEIGHBOUR: 'it returns false'. Refute it at one input. -/
def graphOneWrong : ChangeSpec := { name := "graphOne", fn := fun _ => fun
  | [d] => { results := [.lit (.bool false)], args := [d] }
  | _ => none }
def GraphOneWrongFalsely : Prop := graphOneRow.holds Try.pinned (OpenSpec.ofChange graphOneWrong)

/-- 'stolonlaw11.GraphBeside': WHATEVER THE INPUT: true; the input reads as it did. -/
def graphBesideSpec : ChangeSpec := { name := "graphBeside", fn := fun _ => fun
  | [d1, d2] => { results := [.lit (.bool true)], args := [d1, d2] }
  | _ => none }
def graphBesideRow : OpenClaim := { program := "yticjabdkjjbegaa", sum := "6725d4609c7ae35dba6071b34d220440b95d8d471bd3dcab66d75113a463576b", func := "stolon/stolonlaw11.GraphBeside", spec := "graphBeside", unfollowed := true, recurses := true, apart := false }
def GraphBesideSaid : Prop := graphBesideRow.holds Try.pinned (OpenSpec.ofChange graphBesideSpec)

/-- ITS FALSE NEIGHBOUR: 'it returns false'. Refute it at one input. -/
def graphBesideWrong : ChangeSpec := { name := "graphBeside", fn := fun _ => fun
  | [d1, d2] => { results := [.lit (.bool false)], args := [d1, d2] }
  | _ => none }
def GraphBesideWrongFalsely : Prop := graphBesideRow.holds Try.pinned (OpenSpec.ofChange graphBesideWrong)

/-- 'stolonlaw11.GraphAll': WHATEVER THE INPUT: true; the input reads as it did. -/
def graphAllSpec : ChangeSpec := { name := "graphAll", fn := fun _ => fun
  | [d1, d2] => { results := [.lit (.bool true)], args := [d1, d2] }
  | _ => none }
def graphAllRow : OpenClaim := { program := "yticjabdkjjbegaa", sum := "6725d4609c7ae35dba6071b34d220440b95d8d471bd3dcab66d75113a463576b", func := "stolon/stolonlaw11.GraphAll", spec := "graphAll", unfollowed := true, recurses := true, apart := false }
def GraphAllSaid : Prop := graphAllRow.holds Try.pinned (OpenSpec.ofChange graphAllSpec)

/-- ITS FALSE NEIGHBOUR: 'it returns false'. Refute it at one input. -/
def graphAllWrong : ChangeSpec := { name := "graphAll", fn := fun _ => fun
  | [d1, d2] => { results := [.lit (.bool false)], args := [d1, d2] }
  | _ => none }
def GraphAllWrongFalsely : Prop := graphAllRow.holds Try.pinned (OpenSpec.ofChange graphAllWrong)

/-- 'stolonlaw11.GraphReaches': WHATEVER THE INPUT: true; the input reads as it did. -/
def graphReachesSpec : ChangeSpec := { name := "graphReaches", fn := fun _ => fun
  | [d] => { results := [.lit (.bool true)], args := [d] }
  | _ => none }
def graphReachesRow : OpenClaim := { program := "yticjabdkjjbegaa", sum := "6725d4609c7ae35dba6071b34d220440b95d8d471bd3dcab66d75113a463576b", func := "stolon/stolonlaw11.GraphReaches", spec := "graphReaches", unfollowed := true, recurses := true, apart := false }
def GraphReachesSaid : Prop := graphReachesRow.holds Try.pinned (OpenSpec.ofChange graphReachesSpec)

/-- ITS FALSE NEIGHBOUR: 'it returns false'. Refute it at one input. -/
def graphReachesWrong : ChangeSpec := { name := "graphReaches", fn := fun _ => fun
  | [d] => { results := [.lit (.bool false)], args := [d] }
  | _ => none }
def GraphReachesWrongFalsely : Prop := graphReachesRow.holds Try.pinned (OpenSpec.ofChange graphReachesWrong)

/-- 'stolonlaw11.GraphSets': WHATEVER THE INPUT: true; the input reads as it did. -/
def graphSetsSpec : ChangeSpec := { name := "graphSets", fn := fun _ => fun
  | [d1, d2, d3] => { results := [.lit (.bool true)], args := [d1, d2, d3] }
  | _ => none }
def graphSetsRow : OpenClaim := { program := "yticjabdkjjbegaa", sum := "6725d4609c7ae35dba6071b34d220440b95d8d471bd3dcab66d75113a463576b", func := "stolon/stolonlaw11.GraphSets", spec := "graphSets", unfollowed := true, recurses := true, apart := false }
def GraphSetsSaid : Prop := graphSetsRow.holds Try.pinned (OpenSpec.ofChange graphSetsSpec)

/-- ITS FALSE NEIGHBOUR: 'it returns false'. Refute it at one input. -/
def graphSetsWrong : ChangeSpec := { name := "graphSets", fn := fun _ => fun
  | [d1, d2, d3] => { results := [.lit (.bool false)], args := [d1, d2, d3] }
  | _ => none }
def GraphSetsWrongFalsely : Prop := graphSetsRow.holds Try.pinned (OpenSpec.ofChange graphSetsWrong)

/- THE SECOND FORM. 'bulk': how many values and letters a reading holds, each counted each time it is reached (what is shared counts as often as it is met; a slice's spare places count too). A statement '..UptoSaid' is the law's where the arguments, and the package variables that the reading takes, are together of bulk at most 1048576: NARROWER than '..Said'. Prove '..Said' where nothing that the law and all that it calls make is longer than what came in: it says more and counts as full. Else prove '..UptoSaid'. A law counts once. -/
mutual
def uptoBulk {H : Type} : DataW H → Nat
  | .lit (.string bytes) => bytes.length + 1
  | .lit _ => 1
  | .nil => 1
  | .ptr d => uptoBulk d + 1
  | .slice elems spare => uptoBulkAll elems + uptoBulkAll spare + 1
  | .agg parts => uptoBulkAll parts + 1
  | .iface _ d => uptoBulk d + 1
  | .map entries => uptoBulkEntries entries + 1
  | .held _ => 1
def uptoBulkAll {H : Type} : List (DataW H) → Nat
  | [] => 0
  | d :: r => uptoBulk d + uptoBulkAll r
def uptoBulkEntries {H : Type} : List (Lit × DataW H) → Nat
  | [] => 0
  | x :: r => uptoBulkEntry x + uptoBulkEntries r
def uptoBulkEntry {H : Type} : Lit × DataW H → Nat
  | (.string bytes, d) => bytes.length + uptoBulk d + 1
  | (_, d) => uptoBulk d + 1
 end
def uptoSmall : (H : Type) → List (DataW H) → Bool := fun _ ds => decide (uptoBulkAll ds ≤ 1048576)
def OpenSpec.upto (s : _root_.Go.ChangeSpec) : _root_.Go.OpenSpec := { _root_.Go.OpenSpec.ofChange s with cond := some uptoSmall }

/-- 'stolonlaw11.GraphTrees', WHERE WHAT IT READS IS OF BULK AT MOST 1048576: true; the input reads as it did. -/
def graphTreesUptoRow : OpenClaim := { program := "yticjabdkjjbegaa", sum := "6725d4609c7ae35dba6071b34d220440b95d8d471bd3dcab66d75113a463576b", func := "stolon/stolonlaw11.GraphTrees", spec := "graphTrees", unfollowed := true, recurses := true, apart := false, narrowed := true }
def GraphTreesUptoSaid : Prop := graphTreesUptoRow.holds Try.pinned (OpenSpec.upto graphTreesSpec)

/-- 'stolonlaw11.GraphOne', WHERE WHAT IT READS IS OF BULK AT MOST 1048576: true; the input reads as it did. -/
def graphOneUptoRow : OpenClaim := { program := "yticjabdkjjbegaa", sum := "6725d4609c7ae35dba6071b34d220440b95d8d471bd3dcab66d75113a463576b", func := "stolon/stolonlaw11.GraphOne", spec := "graphOne", unfollowed := true, recurses := true, apart := false, narrowed := true }
def GraphOneUptoSaid : Prop := graphOneUptoRow.holds Try.pinned (OpenSpec.upto graphOneSpec)

/-- 'stolonlaw11.GraphBeside', WHERE WHAT IT READS IS OF BULK AT MOST 1048576: true; the input reads as it did. -/
def graphBesideUptoRow : OpenClaim := { program := "yticjabdkjjbegaa", sum := "6725d4609c7ae35dba6071b34d220440b95d8d471bd3dcab66d75113a463576b", func := "stolon/stolonlaw11.GraphBeside", spec := "graphBeside", unfollowed := true, recurses := true, apart := false, narrowed := true }
def GraphBesideUptoSaid : Prop := graphBesideUptoRow.holds Try.pinned (OpenSpec.upto graphBesideSpec)

/-- 'stolonlaw11.GraphAll', WHERE WHAT IT READS IS OF BULK AT MOST 1048576: true; the input reads as it did. -/
def graphAllUptoRow : OpenClaim := { program := "yticjabdkjjbegaa", sum := "6725d4609c7ae35dba6071b34d220440b95d8d471bd3dcab66d75113a463576b", func := "stolon/stolonlaw11.GraphAll", spec := "graphAll", unfollowed := true, recurses := true, apart := false, narrowed := true }
def GraphAllUptoSaid : Prop := graphAllUptoRow.holds Try.pinned (OpenSpec.upto graphAllSpec)

/-- 'stolonlaw11.GraphReaches', WHERE WHAT IT READS IS OF BULK AT MOST 1048576: true; the input reads as it did. -/
def graphReachesUptoRow : OpenClaim := { program := "yticjabdkjjbegaa", sum := "6725d4609c7ae35dba6071b34d220440b95d8d471bd3dcab66d75113a463576b", func := "stolon/stolonlaw11.GraphReaches", spec := "graphReaches", unfollowed := true, recurses := true, apart := false, narrowed := true }
def GraphReachesUptoSaid : Prop := graphReachesUptoRow.holds Try.pinned (OpenSpec.upto graphReachesSpec)

/-- 'stolonlaw11.GraphSets', WHERE WHAT IT READS IS OF BULK AT MOST 1048576: true; the input reads as it did. -/
def graphSetsUptoRow : OpenClaim := { program := "yticjabdkjjbegaa", sum := "6725d4609c7ae35dba6071b34d220440b95d8d471bd3dcab66d75113a463576b", func := "stolon/stolonlaw11.GraphSets", spec := "graphSets", unfollowed := true, recurses := true, apart := false, narrowed := true }
def GraphSetsUptoSaid : Prop := graphSetsUptoRow.holds Try.pinned (OpenSpec.upto graphSetsSpec)

end Rows
end Go.Proofs.Yticjabdkjjbegaa

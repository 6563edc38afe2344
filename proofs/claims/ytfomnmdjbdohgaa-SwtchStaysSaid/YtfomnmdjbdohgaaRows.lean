/-
  No cell of these rows narrows 'for every input' (looked for: loops, veiled, ifaces, maps, wideKeys, modest, calm, conditions, laid).
  DERIVED. THE GIVEN ROWS OF THIS SEAT. 6 by the template 'for every input the law returns true; each argument reads behind the call as it read before'; 0 by the template 'total and deterministic' (their statements: YtfomnmdjbdohgaaTotals.lean).
  GIVEN WITH THE SEED: the statements are not yours to turn. If you find one false, say at which input.
  Laid BY PROGRAM, IN A SANDBOX (cutbox-rows.mjs): the forced cells as the released guide's own fill.sh prints them over the translation 07b9d2bedd4b7f1a… (all of the seat's roots in one cut). By AI agents, Wed Nov 11 2026. No macro, syntax, notation, axiom, sorry.
-/
import Derived.Test.YtfomnmdjbdohgaaChecked
import GoSem.Claim
import GoSem.ClaimJoined
import GoSem.ClaimMapViews
import Derived.JoinedTies
import Derived.KernelRfl
namespace Go.Proofs.Ytfomnmdjbdohgaa
/- THE CELL 'sum', in the pinned program and in every row, IS THE sha256 OF THE DUMP (.gsa) THAT YtfomnmdjbdohgaaProg.lean LOADS. Nothing in Lean hashes anything: it is a label: what it is worth is what the hold of that sum in a sandbox is worth. -/
noncomputable def Try.pinned : Pinned := { name := "ytfomnmdjbdohgaa", sum := "07b9d2bedd4b7f1a6e2648808b21a61ad654db917d26cc047cdf90b7aaecbf48", checked := Try.checked }
namespace Rows
def none {H : Type} : Left H := { results := [], args := [] }

/-- 'stolonlaw17.SwtchHears': WHATEVER THE INPUT: true; the input reads as it did. -/
def swtchHearsSpec : ChangeSpec := { name := "swtchHears", fn := fun _ => fun
  | [d1, d2, d3] => { results := [.lit (.bool true)], args := [d1, d2, d3] }
  | _ => none }
def swtchHearsRow : OpenClaim := { program := "ytfomnmdjbdohgaa", sum := "07b9d2bedd4b7f1a6e2648808b21a61ad654db917d26cc047cdf90b7aaecbf48", func := "stolon/stolonlaw17.SwtchHears", spec := "swtchHears", inPlace := ["slices.overlaps[stolon/api.Rule]"], unfollowed := true, recurses := true, apart := false }
def SwtchHearsSaid : Prop := swtchHearsRow.holds Try.pinned (OpenSpec.ofChange swtchHearsSpec)

/-- ITS FALSE NEIGHBOUR: 'it returns false'. Refute it at one input. -/
def swtchHearsWrong : ChangeSpec := { name := "swtchHears", fn := fun _ => fun
  | [d1, d2, d3] => { results := [.lit (.bool false)], args := [d1, d2, d3] }
  | _ => none }
def SwtchHearsWrongFalsely : Prop := swtchHearsRow.holds Try.pinned (OpenSpec.ofChange swtchHearsWrong)

/-- 'stolonlaw17.SwtchStays': WHATEVER THE INPUT: true; the input reads as it did. -/
def swtchStaysSpec : ChangeSpec := { name := "swtchStays", fn := fun _ => fun
  | [d1, d2] => { results := [.lit (.bool true)], args := [d1, d2] }
  | _ => none }
def swtchStaysRow : OpenClaim := { program := "ytfomnmdjbdohgaa", sum := "07b9d2bedd4b7f1a6e2648808b21a61ad654db917d26cc047cdf90b7aaecbf48", func := "stolon/stolonlaw17.SwtchStays", spec := "swtchStays", inPlace := ["slices.overlaps[stolon/api.Rule]"], unfollowed := true, recurses := true, apart := false }
def SwtchStaysSaid : Prop := swtchStaysRow.holds Try.pinned (OpenSpec.ofChange swtchStaysSpec)

/-- ITS FALSE NEIGHBOUR: 'it returns false'. Refute it at one input. -/
def swtchStaysWrong : ChangeSpec := { name := "swtchStays", fn := fun _ => fun
  | [d1, d2] => { results := [.lit (.bool false)], args := [d1, d2] }
  | _ => none }
def SwtchStaysWrongFalsely : Prop := swtchStaysRow.holds Try.pinned (OpenSpec.ofChange swtchStaysWrong)

/-- 'stolonlaw17.SwtchRoom': WHATEVER THE INPUT: true; the input reads as it did. -/
def swtchRoomSpec : ChangeSpec := { name := "swtchRoom", fn := fun _ => fun
  | [d1, d2, d3] => { results := [.lit (.bool true)], args := [d1, d2, d3] }
  | _ => none }
def swtchRoomRow : OpenClaim := { program := "ytfomnmdjbdohgaa", sum := "07b9d2bedd4b7f1a6e2648808b21a61ad654db917d26cc047cdf90b7aaecbf48", func := "stolon/stolonlaw17.SwtchRoom", spec := "swtchRoom", inPlace := ["slices.overlaps[stolon/api.Rule]"], unfollowed := true, recurses := true, apart := false }
def SwtchRoomSaid : Prop := swtchRoomRow.holds Try.pinned (OpenSpec.ofChange swtchRoomSpec)

/-- ITS FALSE NEIGHBOUR: 'it returns false'. Refute it at one input. -/
def swtchRoomWrong : ChangeSpec := { name := "swtchRoom", fn := fun _ => fun
  | [d1, d2, d3] => { results := [.lit (.bool false)], args := [d1, d2, d3] }
  | _ => none }
def SwtchRoomWrongFalsely : Prop := swtchRoomRow.holds Try.pinned (OpenSpec.ofChange swtchRoomWrong)

/-- 'stolonlaw17.SwtchPieces': WHATEVER THE INPUT: true; the input reads as it did. -/
def swtchPiecesSpec : ChangeSpec := { name := "swtchPieces", fn := fun _ => fun
  | [d1, d2, d3] => { results := [.lit (.bool true)], args := [d1, d2, d3] }
  | _ => none }
def swtchPiecesRow : OpenClaim := { program := "ytfomnmdjbdohgaa", sum := "07b9d2bedd4b7f1a6e2648808b21a61ad654db917d26cc047cdf90b7aaecbf48", func := "stolon/stolonlaw17.SwtchPieces", spec := "swtchPieces", inPlace := ["slices.overlaps[stolon/api.Rule]"], unfollowed := true, recurses := true, apart := false }
def SwtchPiecesSaid : Prop := swtchPiecesRow.holds Try.pinned (OpenSpec.ofChange swtchPiecesSpec)

/-- ITS FALSE NEIGHBOUR: 'it returns false'. Refute it at one input. -/
def swtchPiecesWrong : ChangeSpec := { name := "swtchPieces", fn := fun _ => fun
  | [d1, d2, d3] => { results := [.lit (.bool false)], args := [d1, d2, d3] }
  | _ => none }
def SwtchPiecesWrongFalsely : Prop := swtchPiecesRow.holds Try.pinned (OpenSpec.ofChange swtchPiecesWrong)

/-- 'stolonlaw17.SwtchOdd': WHATEVER THE INPUT: true; the input reads as it did. -/
def swtchOddSpec : ChangeSpec := { name := "swtchOdd", fn := fun _ => fun
  | [d1, d2] => { results := [.lit (.bool true)], args := [d1, d2] }
  | _ => none }
def swtchOddRow : OpenClaim := { program := "ytfomnmdjbdohgaa", sum := "07b9d2bedd4b7f1a6e2648808b21a61ad654db917d26cc047cdf90b7aaecbf48", func := "stolon/stolonlaw17.SwtchOdd", spec := "swtchOdd", inPlace := ["slices.overlaps[stolon/api.Rule]"], unfollowed := true, recurses := true, apart := false }
def SwtchOddSaid : Prop := swtchOddRow.holds Try.pinned (OpenSpec.ofChange swtchOddSpec)

/-- ITS FALSE NEIGHBOUR: 'it returns false'. Refute it at one input. -/
def swtchOddWrong : ChangeSpec := { name := "swtchOdd", fn := fun _ => fun
  | [d1, d2] => { results := [.lit (.bool false)], args := [d1, d2] }
  | _ => none }
def SwtchOddWrongFalsely : Prop := swtchOddRow.holds Try.pinned (OpenSpec.ofChange swtchOddWrong)

/-- 'stolonlaw17.SwtchGone': WHATEVER THE INPUT: true; the input reads as it did. -/
def swtchGoneSpec : ChangeSpec := { name := "swtchGone", fn := fun _ => fun
  | [d] => { results := [.lit (.bool true)], args := [d] }
  | _ => none }
def swtchGoneRow : OpenClaim := { program := "ytfomnmdjbdohgaa", sum := "07b9d2bedd4b7f1a6e2648808b21a61ad654db917d26cc047cdf90b7aaecbf48", func := "stolon/stolonlaw17.SwtchGone", spec := "swtchGone", inPlace := ["slices.overlaps[stolon/api.Rule]"], unfollowed := true, recurses := true, apart := false }
def SwtchGoneSaid : Prop := swtchGoneRow.holds Try.pinned (OpenSpec.ofChange swtchGoneSpec)

/-- ITS FALSE NEIGHBOUR: 'it returns false'. Refute it at one input. -/
def swtchGoneWrong : ChangeSpec := { name := "swtchGone", fn := fun _ => fun
  | [d] => { results := [.lit (.bool false)], args := [d] }
  | _ => none }
def SwtchGoneWrongFalsely : Prop := swtchGoneRow.holds Try.pinned (OpenSpec.ofChange swtchGoneWrong)

/- THE SECOND FORM. 'bulk': how many values and letters a reading holds, each counted each time it is reached (what is shared counts as often as it is met; a slice's spare places count too). A statement '..UptoSaid' is the law's where the arguments, and the package variables that the reading takes, are together of bulk at most 1048576: NARROWER than '..Said'. Prove '..Said' where nothing that the law and all that it calls make is longer than what came in: it says more and counts as full. Else prove '..UptoSaid'. A law counts once. -/
mutual
def uptoBulk {H : Type} : DataW H → Nat
  | .lit (.string bytes) => bytes.length + 1
  | .lit _ => 1
  | .nil => 1
  | .ptr d => uptoBulk d + 1
  | .slice elems spare => uptoBulkAll elems + uptoBulkAll spare + 1
  | .agg parts => uptoBulkAll parts + 1
  | .iface _ d => uptoBulk d + 1
  | .map entries => uptoBulkEntries entries + 1
  | .held _ => 1
def uptoBulkAll {H : Type} : List (DataW H) → Nat
  | [] => 0
  | d :: r => uptoBulk d + uptoBulkAll r
def uptoBulkEntries {H : Type} : List (Lit × DataW H) → Nat
  | [] => 0
  | x :: r => uptoBulkEntry x + uptoBulkEntries r
def uptoBulkEntry {H : Type} : Lit × DataW H → Nat
  | (.string bytes, d) => bytes.length + uptoBulk d + 1
  | (_, d) => uptoBulk d + 1
 end
def uptoSmall : (H : Type) → List (DataW H) → Bool := fun _ ds => decide (uptoBulkAll ds ≤ 1048576)
def OpenSpec.upto (s : _root_.Go.ChangeSpec) : _root_.Go.OpenSpec := { _root_.Go.OpenSpec.ofChange s with cond := some uptoSmall }

/-- 'stolonlaw17.SwtchHears', WHERE WHAT IT READS IS OF BULK AT MOST 1048576: true; the input reads as it did. -/
def swtchHearsUptoRow : OpenClaim := { program := "ytfomnmdjbdohgaa", sum := "07b9d2bedd4b7f1a6e2648808b21a61ad654db917d26cc047cdf90b7aaecbf48", func := "stolon/stolonlaw17.SwtchHears", spec := "swtchHears", inPlace := ["slices.overlaps[stolon/api.Rule]"], unfollowed := true, recurses := true, apart := false, narrowed := true }
def SwtchHearsUptoSaid : Prop := swtchHearsUptoRow.holds Try.pinned (OpenSpec.upto swtchHearsSpec)

/-- 'stolonlaw17.SwtchStays', WHERE WHAT IT READS IS OF BULK AT MOST 1048576: true; the input reads as it did. -/
def swtchStaysUptoRow : OpenClaim := { program := "ytfomnmdjbdohgaa", sum := "07b9d2bedd4b7f1a6e2648808b21a61ad654db917d26cc047cdf90b7aaecbf48", func := "stolon/stolonlaw17.SwtchStays", spec := "swtchStays", inPlace := ["slices.overlaps[stolon/api.Rule]"], unfollowed := true, recurses := true, apart := false, narrowed := true }
def SwtchStaysUptoSaid : Prop := swtchStaysUptoRow.holds Try.pinned (OpenSpec.upto swtchStaysSpec)

/-- 'stolonlaw17.SwtchRoom', WHERE WHAT IT READS IS OF BULK AT MOST 1048576: true; the input reads as it did. -/
def swtchRoomUptoRow : OpenClaim := { program := "ytfomnmdjbdohgaa", sum := "07b9d2bedd4b7f1a6e2648808b21a61ad654db917d26cc047cdf90b7aaecbf48", func := "stolon/stolonlaw17.SwtchRoom", spec := "swtchRoom", inPlace := ["slices.overlaps[stolon/api.Rule]"], unfollowed := true, recurses := true, apart := false, narrowed := true }
def SwtchRoomUptoSaid : Prop := swtchRoomUptoRow.holds Try.pinned (OpenSpec.upto swtchRoomSpec)

/-- 'stolonlaw17.SwtchPieces', WHERE WHAT IT READS IS OF BULK AT MOST 1048576: true; the input reads as it did. -/
def swtchPiecesUptoRow : OpenClaim := { program := "ytfomnmdjbdohgaa", sum := "07b9d2bedd4b7f1a6e2648808b21a61ad654db917d26cc047cdf90b7aaecbf48", func := "stolon/stolonlaw17.SwtchPieces", spec := "swtchPieces", inPlace := ["slices.overlaps[stolon/api.Rule]"], unfollowed := true, recurses := true, apart := false, narrowed := true }
def SwtchPiecesUptoSaid : Prop := swtchPiecesUptoRow.holds Try.pinned (OpenSpec.upto swtchPiecesSpec)

/-- 'stolonlaw17.SwtchOdd', WHERE WHAT IT READS IS OF BULK AT MOST 1048576: true; the input reads as it did. -/
def swtchOddUptoRow : OpenClaim := { program := "ytfomnmdjbdohgaa", sum := "07b9d2bedd4b7f1a6e2648808b21a61ad654db917d26cc047cdf90b7aaecbf48", func := "stolon/stolonlaw17.SwtchOdd", spec := "swtchOdd", inPlace := ["slices.overlaps[stolon/api.Rule]"], unfollowed := true, recurses := true, apart := false, narrowed := true }
def SwtchOddUptoSaid : Prop := swtchOddUptoRow.holds Try.pinned (OpenSpec.upto swtchOddSpec)

/-- 'stolonlaw17.SwtchGone', WHERE WHAT IT READS IS OF BULK AT MOST 1048576: true; the input reads as it did. -/
def swtchGoneUptoRow : OpenClaim := { program := "ytfomnmdjbdohgaa", sum := "07b9d2bedd4b7f1a6e2648808b21a61ad654db917d26cc047cdf90b7aaecbf48", func := "stolon/stolonlaw17.SwtchGone", spec := "swtchGone", inPlace := ["slices.overlaps[stolon/api.Rule]"], unfollowed := true, recurses := true, apart := false, narrowed := true }
def SwtchGoneUptoSaid : Prop := swtchGoneUptoRow.holds Try.pinned (OpenSpec.upto swtchGoneSpec)

end Rows
end Go.Proofs.Ytfomnmdjbdohgaa

/-
  No cell of these rows narrows 'for every input' (looked for: loops, veiled, ifaces, maps, wideKeys, modest, calm, conditions, laid).
  DERIVED. THE GIVEN ROWS OF THIS SEAT. 8 by the template 'for every input the law returns true; each argument reads behind the call as it read before'; 0 by the template 'total and deterministic' (their statements: YtboonfidioombaaTotals.lean).
  GIVEN WITH THE SEED: the statements are not yours to turn. If you find one false, say at which input.
  Laid BY PROGRAM, IN A SANDBOX (cutbox-rows.mjs): the forced cells as the released guide's own fill.sh prints them over the translation b1d486d6507e614a… (all of the seat's roots in one cut). By AI agents, Wed Nov 11 2026. No macro, syntax, notation, axiom, sorry.
-/
import Derived.Test.YtboonfidioombaaChecked
import GoSem.Claim
import GoSem.ClaimJoined
import GoSem.ClaimMapViews
import Derived.JoinedTies
import Derived.KernelRfl
namespace Go.Proofs.Ytboonfidioombaa
/- THE CELL 'sum', in the pinned program and in every row, IS THE sha256 OF THE DUMP (.gsa) THAT YtboonfidioombaaProg.lean LOADS. Nothing in Lean hashes anything: it is a label: what it is worth is what the hold of that sum in a sandbox is worth. -/
noncomputable def Try.pinned : Pinned := { name := "ytboonfidioombaa", sum := "b1d486d6507e614aa5494d3d58691ec0f601cfb1268ec2074e2a40039d632927", checked := Try.checked }
namespace Rows
def none {H : Type} : Left H := { results := [], args := [] }

/-- 'stolonlaw16.OfmsgWrites': WHATEVER THE INPUT: true; the input reads as it did. -/
def ofmsgWritesSpec : ChangeSpec := { name := "ofmsgWrites", fn := fun _ => fun
  | [d1, d2] => { results := [.lit (.bool true)], args := [d1, d2] }
  | _ => none }
def ofmsgWritesRow : OpenClaim := { program := "ytboonfidioombaa", sum := "b1d486d6507e614aa5494d3d58691ec0f601cfb1268ec2074e2a40039d632927", func := "stolon/stolonlaw16.OfmsgWrites", spec := "ofmsgWrites", unfollowed := true, recurses := true, apart := false }
def OfmsgWritesSaid : Prop := ofmsgWritesRow.holds Try.pinned (OpenSpec.ofChange ofmsgWritesSpec)

/-- ITS FALSE NEIGHBOUR: 'it returns false'. Refute it at one input. -/
def ofmsgWritesWrong : ChangeSpec := { name := "ofmsgWrites", fn := fun _ => fun
  | [d1, d2] => { results := [.lit (.bool false)], args := [d1, d2] }
  | _ => none }
def OfmsgWritesWrongFalsely : Prop := ofmsgWritesRow.holds Try.pinned (OpenSpec.ofChange ofmsgWritesWrong)

/-- 'stolonlaw16.OfmsgReads': WHATEVER THE INPUT: true; the input reads as it did. -/
def ofmsgReadsSpec : ChangeSpec := { name := "ofmsgReads", fn := fun _ => fun
  | [d] => { results := [.lit (.bool true)], args := [d] }
  | _ => none }
def ofmsgReadsRow : OpenClaim := { program := "ytboonfidioombaa", sum := "b1d486d6507e614aa5494d3d58691ec0f601cfb1268ec2074e2a40039d632927", func := "stolon/stolonlaw16.OfmsgReads", spec := "ofmsgReads", unfollowed := true, recurses := true, apart := false }
def OfmsgReadsSaid : Prop := ofmsgReadsRow.holds Try.pinned (OpenSpec.ofChange ofmsgReadsSpec)

/-- ITS FALSE NEIGHBOUR: 'it returns false'. Refute it at one input. -/
def ofmsgReadsWrong : ChangeSpec := { name := "ofmsgReads", fn := fun _ => fun
  | [d] => { results := [.lit (.bool false)], args := [d] }
  | _ => none }
def OfmsgReadsWrongFalsely : Prop := ofmsgReadsRow.holds Try.pinned (OpenSpec.ofChange ofmsgReadsWrong)

/-- 'stolonlaw16.OfmsgBack': WHATEVER THE INPUT: true; the input reads as it did. -/
def ofmsgBackSpec : ChangeSpec := { name := "ofmsgBack", fn := fun _ => fun
  | [d1, d2] => { results := [.lit (.bool true)], args := [d1, d2] }
  | _ => none }
def ofmsgBackRow : OpenClaim := { program := "ytboonfidioombaa", sum := "b1d486d6507e614aa5494d3d58691ec0f601cfb1268ec2074e2a40039d632927", func := "stolon/stolonlaw16.OfmsgBack", spec := "ofmsgBack", unfollowed := true, recurses := true, apart := false }
def OfmsgBackSaid : Prop := ofmsgBackRow.holds Try.pinned (OpenSpec.ofChange ofmsgBackSpec)

/-- ITS FALSE NEIGHBOUR: 'it returns false'. Refute it at one input. -/
def ofmsgBackWrong : ChangeSpec := { name := "ofmsgBack", fn := fun _ => fun
  | [d1, d2] => { results := [.lit (.bool false)], args := [d1, d2] }
  | _ => none }
def OfmsgBackWrongFalsely : Prop := ofmsgBackRow.holds Try.pinned (OpenSpec.ofChange ofmsgBackWrong)

/-- 'stolonlaw16.OfmsgStreams': WHATEVER THE INPUT: true; the input reads as it did. -/
def ofmsgStreamsSpec : ChangeSpec := { name := "ofmsgStreams", fn := fun _ => fun
  | [d1, d2] => { results := [.lit (.bool true)], args := [d1, d2] }
  | _ => none }
def ofmsgStreamsRow : OpenClaim := { program := "ytboonfidioombaa", sum := "b1d486d6507e614aa5494d3d58691ec0f601cfb1268ec2074e2a40039d632927", func := "stolon/stolonlaw16.OfmsgStreams", spec := "ofmsgStreams", unfollowed := true, recurses := true, apart := false }
def OfmsgStreamsSaid : Prop := ofmsgStreamsRow.holds Try.pinned (OpenSpec.ofChange ofmsgStreamsSpec)

/-- ITS FALSE NEIGHBOUR: 'it returns false'. Refute it at one input. -/
def ofmsgStreamsWrong : ChangeSpec := { name := "ofmsgStreams", fn := fun _ => fun
  | [d1, d2] => { results := [.lit (.bool false)], args := [d1, d2] }
  | _ => none }
def OfmsgStreamsWrongFalsely : Prop := ofmsgStreamsRow.holds Try.pinned (OpenSpec.ofChange ofmsgStreamsWrong)

/-- 'stolonlaw16.OfmsgLong': WHATEVER THE INPUT: true; the input reads as it did. -/
def ofmsgLongSpec : ChangeSpec := { name := "ofmsgLong", fn := fun _ => fun
  | [d] => { results := [.lit (.bool true)], args := [d] }
  | _ => none }
def ofmsgLongRow : OpenClaim := { program := "ytboonfidioombaa", sum := "b1d486d6507e614aa5494d3d58691ec0f601cfb1268ec2074e2a40039d632927", func := "stolon/stolonlaw16.OfmsgLong", spec := "ofmsgLong", unfollowed := true, recurses := true, apart := false }
def OfmsgLongSaid : Prop := ofmsgLongRow.holds Try.pinned (OpenSpec.ofChange ofmsgLongSpec)

/-- ITS FALSE NEIGHBOUR: 'it returns false'. Refute it at one input. -/
def ofmsgLongWrong : ChangeSpec := { name := "ofmsgLong", fn := fun _ => fun
  | [d] => { results := [.lit (.bool false)], args := [d] }
  | _ => none }
def OfmsgLongWrongFalsely : Prop := ofmsgLongRow.holds Try.pinned (OpenSpec.ofChange ofmsgLongWrong)

/-- 'stolonlaw16.OfmsgLeft': WHATEVER THE INPUT: true; the input reads as it did. -/
def ofmsgLeftSpec : ChangeSpec := { name := "ofmsgLeft", fn := fun _ => fun
  | [d] => { results := [.lit (.bool true)], args := [d] }
  | _ => none }
def ofmsgLeftRow : OpenClaim := { program := "ytboonfidioombaa", sum := "b1d486d6507e614aa5494d3d58691ec0f601cfb1268ec2074e2a40039d632927", func := "stolon/stolonlaw16.OfmsgLeft", spec := "ofmsgLeft", unfollowed := true, recurses := true, apart := false }
def OfmsgLeftSaid : Prop := ofmsgLeftRow.holds Try.pinned (OpenSpec.ofChange ofmsgLeftSpec)

/-- ITS FALSE NEIGHBOUR: 'it returns false'. Refute it at one input. -/
def ofmsgLeftWrong : ChangeSpec := { name := "ofmsgLeft", fn := fun _ => fun
  | [d] => { results := [.lit (.bool false)], args := [d] }
  | _ => none }
def OfmsgLeftWrongFalsely : Prop := ofmsgLeftRow.holds Try.pinned (OpenSpec.ofChange ofmsgLeftWrong)

/-- 'stolonlaw16.OfmsgKinds': WHATEVER THE INPUT: true; the input reads as it did. -/
def ofmsgKindsSpec : ChangeSpec := { name := "ofmsgKinds", fn := fun _ => fun
  | [d1, d2] => { results := [.lit (.bool true)], args := [d1, d2] }
  | _ => none }
def ofmsgKindsRow : OpenClaim := { program := "ytboonfidioombaa", sum := "b1d486d6507e614aa5494d3d58691ec0f601cfb1268ec2074e2a40039d632927", func := "stolon/stolonlaw16.OfmsgKinds", spec := "ofmsgKinds", unfollowed := true, recurses := true, apart := false }
def OfmsgKindsSaid : Prop := ofmsgKindsRow.holds Try.pinned (OpenSpec.ofChange ofmsgKindsSpec)

/-- ITS FALSE NEIGHBOUR: 'it returns false'. Refute it at one input. -/
def ofmsgKindsWrong : ChangeSpec := { name := "ofmsgKinds", fn := fun _ => fun
  | [d1, d2] => { results := [.lit (.bool false)], args := [d1, d2] }
  | _ => none }
def OfmsgKindsWrongFalsely : Prop := ofmsgKindsRow.holds Try.pinned (OpenSpec.ofChange ofmsgKindsWrong)

/-- 'stolonlaw16.OfmsgApart': WHATEVER THE INPUT: true; the input reads as it did. -/
def ofmsgApartSpec : ChangeSpec := { name := "ofmsgApart", fn := fun _ => fun
  | [d1, d2] => { results := [.lit (.bool true)], args := [d1, d2] }
  | _ => none }
def ofmsgApartRow : OpenClaim := { program := "ytboonfidioombaa", sum := "b1d486d6507e614aa5494d3d58691ec0f601cfb1268ec2074e2a40039d632927", func := "stolon/stolonlaw16.OfmsgApart", spec := "ofmsgApart", unfollowed := true, recurses := true, apart := false }
def OfmsgApartSaid : Prop := ofmsgApartRow.holds Try.pinned (OpenSpec.ofChange ofmsgApartSpec)

/-- ITS FALSE NEIGHBOUR: 'it returns false'. Refute it at one input. -/
def ofmsgApartWrong : ChangeSpec := { name := "ofmsgApart", fn := fun _ => fun
  | [d1, d2] => { results := [.lit (.bool false)], args := [d1, d2] }
  | _ => none }
def OfmsgApartWrongFalsely : Prop := ofmsgApartRow.holds Try.pinned (OpenSpec.ofChange ofmsgApartWrong)

/- THE SECOND FORM. 'bulk': how many values and letters a reading holds, each counted each time it is reached (what is shared counts as often as it is met; a slice's spare places count too). A statement '..UptoSaid' is the law's where the arguments, and the package variables that the reading takes, are together of bulk at most 1048576: NARROWER than '..Said'. Prove '..Said' where nothing that the law and all that it calls make is longer than what came in: it says more and counts as full. Else prove '..UptoSaid'. A law counts once. -/
mutual
def uptoBulk {H : Type} : DataW H → Nat
  | .lit (.string bytes) => bytes.length + 1
  | .lit _ => 1
  | .nil => 1
  | .ptr d => uptoBulk d + 1
  | .slice elems spare => uptoBulkAll elems + uptoBulkAll spare + 1
  | .agg parts => uptoBulkAll parts + 1
  | .iface _ d => uptoBulk d + 1
  | .map entries => uptoBulkEntries entries + 1
  | .held _ => 1
def uptoBulkAll {H : Type} : List (DataW H) → Nat
  | [] => 0
  | d :: r => uptoBulk d + uptoBulkAll r
def uptoBulkEntries {H : Type} : List (Lit × DataW H) → Nat
  | [] => 0
  | x :: r => uptoBulkEntry x + uptoBulkEntries r
def uptoBulkEntry {H : Type} : Lit × DataW H → Nat
  | (.string bytes, d) => bytes.length + uptoBulk d + 1
  | (_, d) => uptoBulk d + 1
 end
def uptoSmall : (H : Type) → List (DataW H) → Bool := fun _ ds => decide (uptoBulkAll ds ≤ 1048576)
def OpenSpec.upto (s : _root_.Go.ChangeSpec) : _root_.Go.OpenSpec := { _root_.Go.OpenSpec.ofChange s with cond := some uptoSmall }

/-- 'stolonlaw16.OfmsgWrites', WHERE WHAT IT READS IS OF BULK AT MOST 1048576: true; the input reads as it did. -/
def ofmsgWritesUptoRow : OpenClaim := { program := "ytboonfidioombaa", sum := "b1d486d6507e614aa5494d3d58691ec0f601cfb1268ec2074e2a40039d632927", func := "stolon/stolonlaw16.OfmsgWrites", spec := "ofmsgWrites", unfollowed := true, recurses := true, apart := false, narrowed := true }
def OfmsgWritesUptoSaid : Prop := ofmsgWritesUptoRow.holds Try.pinned (OpenSpec.upto ofmsgWritesSpec)

/-- 'stolonlaw16.OfmsgReads', WHERE WHAT IT READS IS OF BULK AT MOST 1048576: true; the input reads as it did. -/
def ofmsgReadsUptoRow : OpenClaim := { program := "ytboonfidioombaa", sum := "b1d486d6507e614aa5494d3d58691ec0f601cfb1268ec2074e2a40039d632927", func := "stolon/stolonlaw16.OfmsgReads", spec := "ofmsgReads", unfollowed := true, recurses := true, apart := false, narrowed := true }
def OfmsgReadsUptoSaid : Prop := ofmsgReadsUptoRow.holds Try.pinned (OpenSpec.upto ofmsgReadsSpec)

/-- 'stolonlaw16.OfmsgBack', WHERE WHAT IT READS IS OF BULK AT MOST 1048576: true; the input reads as it did. -/
def ofmsgBackUptoRow : OpenClaim := { program := "ytboonfidioombaa", sum := "b1d486d6507e614aa5494d3d58691ec0f601cfb1268ec2074e2a40039d632927", func := "stolon/stolonlaw16.OfmsgBack", spec := "ofmsgBack", unfollowed := true, recurses := true, apart := false, narrowed := true }
def OfmsgBackUptoSaid : Prop := ofmsgBackUptoRow.holds Try.pinned (OpenSpec.upto ofmsgBackSpec)

/-- 'stolonlaw16.OfmsgStreams', WHERE WHAT IT READS IS OF BULK AT MOST 1048576: true; the input reads as it did. -/
def ofmsgStreamsUptoRow : OpenClaim := { program := "ytboonfidioombaa", sum := "b1d486d6507e614aa5494d3d58691ec0f601cfb1268ec2074e2a40039d632927", func := "stolon/stolonlaw16.OfmsgStreams", spec := "ofmsgStreams", unfollowed := true, recurses := true, apart := false, narrowed := true }
def OfmsgStreamsUptoSaid : Prop := ofmsgStreamsUptoRow.holds Try.pinned (OpenSpec.upto ofmsgStreamsSpec)

/-- 'stolonlaw16.OfmsgLong', WHERE WHAT IT READS IS OF BULK AT MOST 1048576: true; the input reads as it did. -/
def ofmsgLongUptoRow : OpenClaim := { program := "ytboonfidioombaa", sum := "b1d486d6507e614aa5494d3d58691ec0f601cfb1268ec2074e2a40039d632927", func := "stolon/stolonlaw16.OfmsgLong", spec := "ofmsgLong", unfollowed := true, recurses := true, apart := false, narrowed := true }
def OfmsgLongUptoSaid : Prop := ofmsgLongUptoRow.holds Try.pinned (OpenSpec.upto ofmsgLongSpec)

/-- 'stolonlaw16.OfmsgLeft', WHERE WHAT IT READS IS OF BULK AT MOST 1048576: true; the input reads as it did. -/
def ofmsgLeftUptoRow : OpenClaim := { program := "ytboonfidioombaa", sum := "b1d486d6507e614aa5494d3d58691ec0f601cfb1268ec2074e2a40039d632927", func := "stolon/stolonlaw16.OfmsgLeft", spec := "ofmsgLeft", unfollowed := true, recurses := true, apart := false, narrowed := true }
def OfmsgLeftUptoSaid : Prop := ofmsgLeftUptoRow.holds Try.pinned (OpenSpec.upto ofmsgLeftSpec)

/-- 'stolonlaw16.OfmsgKinds', WHERE WHAT IT READS IS OF BULK AT MOST 1048576: true; the input reads as it did. -/
def ofmsgKindsUptoRow : OpenClaim := { program := "ytboonfidioombaa", sum := "b1d486d6507e614aa5494d3d58691ec0f601cfb1268ec2074e2a40039d632927", func := "stolon/stolonlaw16.OfmsgKinds", spec := "ofmsgKinds", unfollowed := true, recurses := true, apart := false, narrowed := true }
def OfmsgKindsUptoSaid : Prop := ofmsgKindsUptoRow.holds Try.pinned (OpenSpec.upto ofmsgKindsSpec)

/-- 'stolonlaw16.OfmsgApart', WHERE WHAT IT READS IS OF BULK AT MOST 1048576: true; the input reads as it did. -/
def ofmsgApartUptoRow : OpenClaim := { program := "ytboonfidioombaa", sum := "b1d486d6507e614aa5494d3d58691ec0f601cfb1268ec2074e2a40039d632927", func := "stolon/stolonlaw16.OfmsgApart", spec := "ofmsgApart", unfollowed := true, recurses := true, apart := false, narrowed := true }
def OfmsgApartUptoSaid : Prop := ofmsgApartUptoRow.holds Try.pinned (OpenSpec.upto ofmsgApartSpec)

end Rows
end Go.Proofs.Ytboonfidioombaa

/-
  No cell of these rows narrows 'for every input' (looked for: loops, veiled, ifaces, maps, wideKeys, modest, calm, conditions, laid).
  DERIVED. THE GIVEN ROWS OF THIS SEAT. 6 by the template 'for every input the law returns true; each argument reads behind the call as it read before'; 0 by the template 'total and deterministic' (their statements: YtlihbdinghoeeaaTotals.lean).
  GIVEN WITH THE SEED: the statements are not yours to turn. If you find one false, say at which input.
  Laid BY PROGRAM, IN A SANDBOX (cutbox-rows.mjs): the forced cells as the released guide's own fill.sh prints them over the translation ddc990510c75ece5… (all of the seat's roots in one cut). By AI agents, Wed Nov 11 2026. No macro, syntax, notation, axiom, sorry.
-/
import Derived.Test.YtlihbdinghoeeaaChecked
import GoSem.Claim
import GoSem.ClaimJoined
import GoSem.ClaimMapViews
import Derived.JoinedTies
import Derived.KernelRfl
namespace Go.Proofs.Ytlihbdinghoeeaa
/- THE CELL 'sum', in the pinned program and in every row, IS THE sha256 OF THE DUMP (.gsa) THAT YtlihbdinghoeeaaProg.lean LOADS. Nothing in Lean hashes anything: it is a label: what it is worth is what the hold of that sum in a sandbox is worth. -/
noncomputable def Try.pinned : Pinned := { name := "ytlihbdinghoeeaa", sum := "ddc990510c75ece5d294eae5884057029e86c5f5f032c4d4885a7305e8fa1fb6", checked := Try.checked }
namespace Rows
def none {H : Type} : Left H := { results := [], args := [] }

/-- 'stolonlaw10.QuerierTells': WHATEVER THE INPUT: true; the input reads as it did. -/
def querierTellsSpec : ChangeSpec := { name := "querierTells", fn := fun _ => fun
  | [d1, d2, d3] => { results := [.lit (.bool true)], args := [d1, d2, d3] }
  | _ => none }
def querierTellsRow : OpenClaim := { program := "ytlihbdinghoeeaa", sum := "ddc990510c75ece5d294eae5884057029e86c5f5f032c4d4885a7305e8fa1fb6", func := "stolon/stolonlaw10.QuerierTells", spec := "querierTells", unfollowed := true, recurses := true, apart := false }
def QuerierTellsSaid : Prop := querierTellsRow.holds Try.pinned (OpenSpec.ofChange querierTellsSpec)

/-- ITS FALSE NEIGHBOUR: 'it returns false'. Refute it at one input. -/
def querierTellsWrong : ChangeSpec := { name := "querierTells", fn := fun _ => fun
  | [d1, d2, d3] => { results := [.lit (.bool false)], args := [d1, d2, d3] }
  | _ => none }
def QuerierTellsWrongFalsely : Prop := querierTellsRow.holds Try.pinned (OpenSpec.ofChange querierTellsWrong)

/-- 'stolonlaw10.QuerierStays': WHATEVER THE INPUT: true; the input reads as it did. -/
def querierStaysSpec : ChangeSpec := { name := "querierStays", fn := fun _ => fun
  | [d1, d2, d3] => { results := [.lit (.bool true)], args := [d1, d2, d3] }
  | _ => none }
def querierStaysRow : OpenClaim := { program := "ytlihbdinghoeeaa", sum := "ddc990510c75ece5d294eae5884057029e86c5f5f032c4d4885a7305e8fa1fb6", func := "stolon/stolonlaw10.QuerierStays", spec := "querierStays", unfollowed := true, recurses := true, apart := false }
def QuerierStaysSaid : Prop := querierStaysRow.holds Try.pinned (OpenSpec.ofChange querierStaysSpec)

/-- ITS FALSE NEIGHBOUR: 'it returns false'. Refute it at one input. -/
def querierStaysWrong : ChangeSpec := { name := "querierStays", fn := fun _ => fun
  | [d1, d2, d3] => { results := [.lit (.bool false)], args := [d1, d2, d3] }
  | _ => none }
def QuerierStaysWrongFalsely : Prop := querierStaysRow.holds Try.pinned (OpenSpec.ofChange querierStaysWrong)

/-- 'stolonlaw10.QuerierTurns': WHATEVER THE INPUT: true; the input reads as it did. -/
def querierTurnsSpec : ChangeSpec := { name := "querierTurns", fn := fun _ => fun
  | [d1, d2, d3] => { results := [.lit (.bool true)], args := [d1, d2, d3] }
  | _ => none }
def querierTurnsRow : OpenClaim := { program := "ytlihbdinghoeeaa", sum := "ddc990510c75ece5d294eae5884057029e86c5f5f032c4d4885a7305e8fa1fb6", func := "stolon/stolonlaw10.QuerierTurns", spec := "querierTurns", unfollowed := true, recurses := true, apart := false }
def QuerierTurnsSaid : Prop := querierTurnsRow.holds Try.pinned (OpenSpec.ofChange querierTurnsSpec)

/-- ITS FALSE NEIGHBOUR: 'it returns false'. Refute it at one input. -/
def querierTurnsWrong : ChangeSpec := { name := "querierTurns", fn := fun _ => fun
  | [d1, d2, d3] => { results := [.lit (.bool false)], args := [d1, d2, d3] }
  | _ => none }
def QuerierTurnsWrongFalsely : Prop := querierTurnsRow.holds Try.pinned (OpenSpec.ofChange querierTurnsWrong)

/-- 'stolonlaw10.QuerierOne': WHATEVER THE INPUT: true; the input reads as it did. -/
def querierOneSpec : ChangeSpec := { name := "querierOne", fn := fun _ => fun
  | [d] => { results := [.lit (.bool true)], args := [d] }
  | _ => none }
def querierOneRow : OpenClaim := { program := "ytlihbdinghoeeaa", sum := "ddc990510c75ece5d294eae5884057029e86c5f5f032c4d4885a7305e8fa1fb6", func := "stolon/stolonlaw10.QuerierOne", spec := "querierOne", unfollowed := true, recurses := true, apart := false }
def QuerierOneSaid : Prop := querierOneRow.holds Try.pinned (OpenSpec.ofChange querierOneSpec)

/-- ITS FALSE NEIGHBOUR: 'it returns false'. Refute it at one input. -/
def querierOneWrong : ChangeSpec := { name := "querierOne", fn := fun _ => fun
  | [d] => { results := [.lit (.bool false)], args := [d] }
  | _ => none }
def QuerierOneWrongFalsely : Prop := querierOneRow.holds Try.pinned (OpenSpec.ofChange querierOneWrong)

/-- 'stolonlaw10.QuerierBack': WHATEVER THE INPUT: true; the input reads as it did. -/
def querierBackSpec : ChangeSpec := { name := "querierBack", fn := fun _ => fun
  | [d1, d2, d3] => { results := [.lit (.bool true)], args := [d1, d2, d3] }
  | _ => none }
def querierBackRow : OpenClaim := { program := "ytlihbdinghoeeaa", sum := "ddc990510c75ece5d294eae5884057029e86c5f5f032c4d4885a7305e8fa1fb6", func := "stolon/stolonlaw10.QuerierBack", spec := "querierBack", unfollowed := true, recurses := true, apart := false }
def QuerierBackSaid : Prop := querierBackRow.holds Try.pinned (OpenSpec.ofChange querierBackSpec)

/-- ITS FALSE NEIGHBOUR: 'it returns false'. Refute it at one input. -/
def querierBackWrong : ChangeSpec := { name := "querierBack", fn := fun _ => fun
  | [d1, d2, d3] => { results := [.lit (.bool false)], args := [d1, d2, d3] }
  | _ => none }
def QuerierBackWrongFalsely : Prop := querierBackRow.holds Try.pinned (OpenSpec.ofChange querierBackWrong)

/-- 'stolonlaw10.QuerierLeast': WHATEVER THE INPUT: true; the input reads as it did. -/
def querierLeastSpec : ChangeSpec := { name := "querierLeast", fn := fun _ => fun
  | [d1, d2, d3] => { results := [.lit (.bool true)], args := [d1, d2, d3] }
  | _ => none }
def querierLeastRow : OpenClaim := { program := "ytlihbdinghoeeaa", sum := "ddc990510c75ece5d294eae5884057029e86c5f5f032c4d4885a7305e8fa1fb6", func := "stolon/stolonlaw10.QuerierLeast", spec := "querierLeast", unfollowed := true, recurses := true, apart := false }
def QuerierLeastSaid : Prop := querierLeastRow.holds Try.pinned (OpenSpec.ofChange querierLeastSpec)

/-- ITS FALSE NEIGHBOUR: 'it returns false'. Refute it at one input. -/
def querierLeastWrong : ChangeSpec := { name := "querierLeast", fn := fun _ => fun
  | [d1, d2, d3] => { results := [.lit (.bool false)], args := [d1, d2, d3] }
  | _ => none }
def QuerierLeastWrongFalsely : Prop := querierLeastRow.holds Try.pinned (OpenSpec.ofChange querierLeastWrong)

/- THE SECOND FORM. 'bulk': how many values and letters a reading holds, each counted each time it is reached (what is shared counts as often as it is met; a slice's spare places count too). A statement '..UptoSaid' is the law's where the arguments, and the package variables that the reading takes, are together of bulk at most 1048576: NARROWER than '..Said'. Prove '..Said' where nothing that the law and all that it calls make is longer than what came in: it says more and counts as full. Else prove '..UptoSaid'. A law counts once. -/
mutual
def uptoBulk {H : Type} : DataW H → Nat
  | .lit (.string bytes) => bytes.length + 1
  | .lit _ => 1
  | .nil => 1
  | .ptr d => uptoBulk d + 1
  | .slice elems spare => uptoBulkAll elems + uptoBulkAll spare + 1
  | .agg parts => uptoBulkAll parts + 1
  | .iface _ d => uptoBulk d + 1
  | .map entries => uptoBulkEntries entries + 1
  | .held _ => 1
def uptoBulkAll {H : Type} : List (DataW H) → Nat
  | [] => 0
  | d :: r => uptoBulk d + uptoBulkAll r
def uptoBulkEntries {H : Type} : List (Lit × DataW H) → Nat
  | [] => 0
  | x :: r => uptoBulkEntry x + uptoBulkEntries r
def uptoBulkEntry {H : Type} : Lit × DataW H → Nat
  | (.string bytes, d) => bytes.length + uptoBulk d + 1
  | (_, d) => uptoBulk d + 1
 end
def uptoSmall : (H : Type) → List (DataW H) → Bool := fun _ ds => decide (uptoBulkAll ds ≤ 1048576)
def OpenSpec.upto (s : _root_.Go.ChangeSpec) : _root_.Go.OpenSpec := { _root_.Go.OpenSpec.ofChange s with cond := some uptoSmall }

/-- 'stolonlaw10.QuerierTells', WHERE WHAT IT READS IS OF BULK AT MOST 1048576: true; the input reads as it did. -/
def querierTellsUptoRow : OpenClaim := { program := "ytlihbdinghoeeaa", sum := "ddc990510c75ece5d294eae5884057029e86c5f5f032c4d4885a7305e8fa1fb6", func := "stolon/stolonlaw10.QuerierTells", spec := "querierTells", unfollowed := true, recurses := true, apart := false, narrowed := true }
def QuerierTellsUptoSaid : Prop := querierTellsUptoRow.holds Try.pinned (OpenSpec.upto querierTellsSpec)

/-- 'stolonlaw10.QuerierStays', WHERE WHAT IT READS IS OF BULK AT MOST 1048576: true; the input reads as it did. -/
def querierStaysUptoRow : OpenClaim := { program := "ytlihbdinghoeeaa", sum := "ddc990510c75ece5d294eae5884057029e86c5f5f032c4d4885a7305e8fa1fb6", func := "stolon/stolonlaw10.QuerierStays", spec := "querierStays", unfollowed := true, recurses := true, apart := false, narrowed := true }
def QuerierStaysUptoSaid : Prop := querierStaysUptoRow.holds Try.pinned (OpenSpec.upto querierStaysSpec)

/-- 'stolonlaw10.QuerierTurns', WHERE WHAT IT READS IS OF BULK AT MOST 1048576: true; the input reads as it did. -/
def querierTurnsUptoRow : OpenClaim := { program := "ytlihbdinghoeeaa", sum := "ddc990510c75ece5d294eae5884057029e86c5f5f032c4d4885a7305e8fa1fb6", func := "stolon/stolonlaw10.QuerierTurns", spec := "querierTurns", unfollowed := true, recurses := true, apart := false, narrowed := true }
def QuerierTurnsUptoSaid : Prop := querierTurnsUptoRow.holds Try.pinned (OpenSpec.upto querierTurnsSpec)

/-- 'stolonlaw10.QuerierOne', WHERE WHAT IT READS IS OF BULK AT MOST 1048576: true; the input reads as it did. -/
def querierOneUptoRow : OpenClaim := { program := "ytlihbdinghoeeaa", sum := "ddc990510c75ece5d294eae5884057029e86c5f5f032c4d4885a7305e8fa1fb6", func := "stolon/stolonlaw10.QuerierOne", spec := "querierOne", unfollowed := true, recurses := true, apart := false, narrowed := true }
def QuerierOneUptoSaid : Prop := querierOneUptoRow.holds Try.pinned (OpenSpec.upto querierOneSpec)

/-- 'stolonlaw10.QuerierBack', WHERE WHAT IT READS IS OF BULK AT MOST 1048576: true; the input reads as it did. -/
def querierBackUptoRow : OpenClaim := { program := "ytlihbdinghoeeaa", sum := "ddc990510c75ece5d294eae5884057029e86c5f5f032c4d4885a7305e8fa1fb6", func := "stolon/stolonlaw10.QuerierBack", spec := "querierBack", unfollowed := true, recurses := true, apart := false, narrowed := true }
def QuerierBackUptoSaid : Prop := querierBackUptoRow.holds Try.pinned (OpenSpec.upto querierBackSpec)

/-- 'stolonlaw10.QuerierLeast', WHERE WHAT IT READS IS OF BULK AT MOST 1048576: true; the input reads as it did. -/
def querierLeastUptoRow : OpenClaim := { program := "ytlihbdinghoeeaa", sum := "ddc990510c75ece5d294eae5884057029e86c5f5f032c4d4885a7305e8fa1fb6", func := "stolon/stolonlaw10.QuerierLeast", spec := "querierLeast", unfollowed := true, recurses := true, apart := false, narrowed := true }
def QuerierLeastUptoSaid : Prop := querierLeastUptoRow.holds Try.pinned (OpenSpec.upto querierLeastSpec)

end Rows
end Go.Proofs.Ytlihbdinghoeeaa

/-
  No cell of these rows narrows 'for every input' (looked for: loops, veiled, ifaces, maps, wideKeys, modest, calm, conditions, laid).
  DERIVED. THE GIVEN ROWS OF THIS SEAT. 6 by the template 'for every input the law returns true; each argument reads behind the call as it read before'; 0 by the template 'total and deterministic' (their statements: YtlihbdinghoeeabTotals.lean).
  GIVEN WITH THE SEED: the statements are not yours to turn. If you find one false, say at which input.
  Laid BY PROGRAM, IN A SANDBOX (cutbox-rows.mjs): the forced cells as the released guide's own fill.sh prints them over the translation 0ebd94f847c47369… (all of the seat's roots in one cut). By AI agents, Wed Nov 11 2026. No macro, syntax, notation, axiom, sorry.
-/
import Derived.Test.YtlihbdinghoeeabChecked
import GoSem.Claim
import GoSem.ClaimJoined
import GoSem.ClaimMapViews
import Derived.JoinedTies
import Derived.KernelRfl
namespace Go.Proofs.Ytlihbdinghoeeab
/- THE CELL 'sum', in the pinned program and in every row, IS THE sha256 OF THE DUMP (.gsa) THAT YtlihbdinghoeeabProg.lean LOADS. Nothing in Lean hashes anything: it is a label: what it is worth is what the hold of that sum in a sandbox is worth. -/
noncomputable def Try.pinned : Pinned := { name := "ytlihbdinghoeeab", sum := "0ebd94f847c473694ad76664b0a39af1be60a21fd33090165a7b76b97b63f715", checked := Try.checked }
namespace Rows
def none {H : Type} : Left H := { results := [], args := [] }

/-- 'stolonlaw12.HeapStays': WHATEVER THE INPUT: true; the input reads as it did. -/
def heapStaysSpec : ChangeSpec := { name := "heapStays", fn := fun _ => fun
  | [d1, d2] => { results := [.lit (.bool true)], args := [d1, d2] }
  | _ => none }
def heapStaysRow : OpenClaim := { program := "ytlihbdinghoeeab", sum := "0ebd94f847c473694ad76664b0a39af1be60a21fd33090165a7b76b97b63f715", func := "stolon/stolonlaw12.HeapStays", spec := "heapStays", apart := false }
def HeapStaysSaid : Prop := heapStaysRow.holds Try.pinned (OpenSpec.ofChange heapStaysSpec)

/-- ITS FALSE NEIGHBOUR: 'it returns false'. Refute it at one input. -/
def heapStaysWrong : ChangeSpec := { name := "heapStays", fn := fun _ => fun
  | [d1, d2] => { results := [.lit (.bool false)], args := [d1, d2] }
  | _ => none }
def HeapStaysWrongFalsely : Prop := heapStaysRow.holds Try.pinned (OpenSpec.ofChange heapStaysWrong)

/-- 'stolonlaw12.HeapOrder': WHATEVER THE INPUT: true; the input reads as it did. -/
def heapOrderSpec : ChangeSpec := { name := "heapOrder", fn := fun _ => fun
  | [d1, d2, d3] => { results := [.lit (.bool true)], args := [d1, d2, d3] }
  | _ => none }
def heapOrderRow : OpenClaim := { program := "ytlihbdinghoeeab", sum := "0ebd94f847c473694ad76664b0a39af1be60a21fd33090165a7b76b97b63f715", func := "stolon/stolonlaw12.HeapOrder", spec := "heapOrder", apart := false }
def HeapOrderSaid : Prop := heapOrderRow.holds Try.pinned (OpenSpec.ofChange heapOrderSpec)

/-- ITS FALSE NEIGHBOUR: 'it returns false'. Refute it at one input. -/
def heapOrderWrong : ChangeSpec := { name := "heapOrder", fn := fun _ => fun
  | [d1, d2, d3] => { results := [.lit (.bool false)], args := [d1, d2, d3] }
  | _ => none }
def HeapOrderWrongFalsely : Prop := heapOrderRow.holds Try.pinned (OpenSpec.ofChange heapOrderWrong)

/-- 'stolonlaw12.HeapTop': WHATEVER THE INPUT: true; the input reads as it did. -/
def heapTopSpec : ChangeSpec := { name := "heapTop", fn := fun _ => fun
  | [d1, d2] => { results := [.lit (.bool true)], args := [d1, d2] }
  | _ => none }
def heapTopRow : OpenClaim := { program := "ytlihbdinghoeeab", sum := "0ebd94f847c473694ad76664b0a39af1be60a21fd33090165a7b76b97b63f715", func := "stolon/stolonlaw12.HeapTop", spec := "heapTop", apart := false }
def HeapTopSaid : Prop := heapTopRow.holds Try.pinned (OpenSpec.ofChange heapTopSpec)

/-- ITS FALSE NEIGHBOUR: 'it returns false'. Refute it at one input. -/
def heapTopWrong : ChangeSpec := { name := "heapTop", fn := fun _ => fun
  | [d1, d2] => { results := [.lit (.bool false)], args := [d1, d2] }
  | _ => none }
def HeapTopWrongFalsely : Prop := heapTopRow.holds Try.pinned (OpenSpec.ofChange heapTopWrong)

/-- 'stolonlaw12.HeapTells': WHATEVER THE INPUT: true; the input reads as it did. -/
def heapTellsSpec : ChangeSpec := { name := "heapTells", fn := fun _ => fun
  | [d1, d2, d3] => { results := [.lit (.bool true)], args := [d1, d2, d3] }
  | _ => none }
def heapTellsRow : OpenClaim := { program := "ytlihbdinghoeeab", sum := "0ebd94f847c473694ad76664b0a39af1be60a21fd33090165a7b76b97b63f715", func := "stolon/stolonlaw12.HeapTells", spec := "heapTells", apart := false }
def HeapTellsSaid : Prop := heapTellsRow.holds Try.pinned (OpenSpec.ofChange heapTellsSpec)

/-- ITS FALSE NEIGHBOUR: 'it returns false'. Refute it at one input. -/
def heapTellsWrong : ChangeSpec := { name := "heapTells", fn := fun _ => fun
  | [d1, d2, d3] => { results := [.lit (.bool false)], args := [d1, d2, d3] }
  | _ => none }
def HeapTellsWrongFalsely : Prop := heapTellsRow.holds Try.pinned (OpenSpec.ofChange heapTellsWrong)

/-- 'stolonlaw12.HeapAll': WHATEVER THE INPUT: true; the input reads as it did. -/
def heapAllSpec : ChangeSpec := { name := "heapAll", fn := fun _ => fun
  | [d1, d2] => { results := [.lit (.bool true)], args := [d1, d2] }
  | _ => none }
def heapAllRow : OpenClaim := { program := "ytlihbdinghoeeab", sum := "0ebd94f847c473694ad76664b0a39af1be60a21fd33090165a7b76b97b63f715", func := "stolon/stolonlaw12.HeapAll", spec := "heapAll", apart := false }
def HeapAllSaid : Prop := heapAllRow.holds Try.pinned (OpenSpec.ofChange heapAllSpec)

/-- ITS FALSE NEIGHBOUR: 'it returns false'. Refute it at one input. -/
def heapAllWrong : ChangeSpec := { name := "heapAll", fn := fun _ => fun
  | [d1, d2] => { results := [.lit (.bool false)], args := [d1, d2] }
  | _ => none }
def HeapAllWrongFalsely : Prop := heapAllRow.holds Try.pinned (OpenSpec.ofChange heapAllWrong)

/-- 'stolonlaw12.HeapSorts': WHATEVER THE INPUT: true; the input reads as it did. -/
def heapSortsSpec : ChangeSpec := { name := "heapSorts", fn := fun _ => fun
  | [d1, d2] => { results := [.lit (.bool true)], args := [d1, d2] }
  | _ => none }
def heapSortsRow : OpenClaim := { program := "ytlihbdinghoeeab", sum := "0ebd94f847c473694ad76664b0a39af1be60a21fd33090165a7b76b97b63f715", func := "stolon/stolonlaw12.HeapSorts", spec := "heapSorts", apart := false }
def HeapSortsSaid : Prop := heapSortsRow.holds Try.pinned (OpenSpec.ofChange heapSortsSpec)

/-- ITS FALSE NEIGHBOUR: 'it returns false'. Refute it at one input. -/
def heapSortsWrong : ChangeSpec := { name := "heapSorts", fn := fun _ => fun
  | [d1, d2] => { results := [.lit (.bool false)], args := [d1, d2] }
  | _ => none }
def HeapSortsWrongFalsely : Prop := heapSortsRow.holds Try.pinned (OpenSpec.ofChange heapSortsWrong)

/- THE SECOND FORM. 'bulk': how many values and letters a reading holds, each counted each time it is reached (what is shared counts as often as it is met; a slice's spare places count too). A statement '..UptoSaid' is the law's where the arguments, and the package variables that the reading takes, are together of bulk at most 1048576: NARROWER than '..Said'. Prove '..Said' where nothing that the law and all that it calls make is longer than what came in: it says more and counts as full. Else prove '..UptoSaid'. A law counts once. -/
mutual
def uptoBulk {H : Type} : DataW H → Nat
  | .lit (.string bytes) => bytes.length + 1
  | .lit _ => 1
  | .nil => 1
  | .ptr d => uptoBulk d + 1
  | .slice elems spare => uptoBulkAll elems + uptoBulkAll spare + 1
  | .agg parts => uptoBulkAll parts + 1
  | .iface _ d => uptoBulk d + 1
  | .map entries => uptoBulkEntries entries + 1
  | .held _ => 1
def uptoBulkAll {H : Type} : List (DataW H) → Nat
  | [] => 0
  | d :: r => uptoBulk d + uptoBulkAll r
def uptoBulkEntries {H : Type} : List (Lit × DataW H) → Nat
  | [] => 0
  | x :: r => uptoBulkEntry x + uptoBulkEntries r
def uptoBulkEntry {H : Type} : Lit × DataW H → Nat
  | (.string bytes, d) => bytes.length + uptoBulk d + 1
  | (_, d) => uptoBulk d + 1
 end
def uptoSmall : (H : Type) → List (DataW H) → Bool := fun _ ds => decide (uptoBulkAll ds ≤ 1048576)
def OpenSpec.upto (s : _root_.Go.ChangeSpec) : _root_.Go.OpenSpec := { _root_.Go.OpenSpec.ofChange s with cond := some uptoSmall }

/-- 'stolonlaw12.HeapStays', WHERE WHAT IT READS IS OF BULK AT MOST 1048576: true; the input reads as it did. -/
def heapStaysUptoRow : OpenClaim := { program := "ytlihbdinghoeeab", sum := "0ebd94f847c473694ad76664b0a39af1be60a21fd33090165a7b76b97b63f715", func := "stolon/stolonlaw12.HeapStays", spec := "heapStays", apart := false, narrowed := true }
def HeapStaysUptoSaid : Prop := heapStaysUptoRow.holds Try.pinned (OpenSpec.upto heapStaysSpec)

/-- 'stolonlaw12.HeapOrder', WHERE WHAT IT READS IS OF BULK AT MOST 1048576: true; the input reads as it did. -/
def heapOrderUptoRow : OpenClaim := { program := "ytlihbdinghoeeab", sum := "0ebd94f847c473694ad76664b0a39af1be60a21fd33090165a7b76b97b63f715", func := "stolon/stolonlaw12.HeapOrder", spec := "heapOrder", apart := false, narrowed := true }
def HeapOrderUptoSaid : Prop := heapOrderUptoRow.holds Try.pinned (OpenSpec.upto heapOrderSpec)

/-- 'stolonlaw12.HeapTop', WHERE WHAT IT READS IS OF BULK AT MOST 1048576: true; the input reads as it did. -/
def heapTopUptoRow : OpenClaim := { program := "ytlihbdinghoeeab", sum := "0ebd94f847c473694ad76664b0a39af1be60a21fd33090165a7b76b97b63f715", func := "stolon/stolonlaw12.HeapTop", spec := "heapTop", apart := false, narrowed := true }
def HeapTopUptoSaid : Prop := heapTopUptoRow.holds Try.pinned (OpenSpec.upto heapTopSpec)

/-- 'stolonlaw12.HeapTells', WHERE WHAT IT READS IS OF BULK AT MOST 1048576: true; the input reads as it did. -/
def heapTellsUptoRow : OpenClaim := { program := "ytlihbdinghoeeab", sum := "0ebd94f847c473694ad76664b0a39af1be60a21fd33090165a7b76b97b63f715", func := "stolon/stolonlaw12.HeapTells", spec := "heapTells", apart := false, narrowed := true }
def HeapTellsUptoSaid : Prop := heapTellsUptoRow.holds Try.pinned (OpenSpec.upto heapTellsSpec)

/-- 'stolonlaw12.HeapAll', WHERE WHAT IT READS IS OF BULK AT MOST 1048576: true; the input reads as it did. -/
def heapAllUptoRow : OpenClaim := { program := "ytlihbdinghoeeab", sum := "0ebd94f847c473694ad76664b0a39af1be60a21fd33090165a7b76b97b63f715", func := "stolon/stolonlaw12.HeapAll", spec := "heapAll", apart := false, narrowed := true }
def HeapAllUptoSaid : Prop := heapAllUptoRow.holds Try.pinned (OpenSpec.upto heapAllSpec)

/-- 'stolonlaw12.HeapSorts', WHERE WHAT IT READS IS OF BULK AT MOST 1048576: true; the input reads as it did. -/
def heapSortsUptoRow : OpenClaim := { program := "ytlihbdinghoeeab", sum := "0ebd94f847c473694ad76664b0a39af1be60a21fd33090165a7b76b97b63f715", func := "stolon/stolonlaw12.HeapSorts", spec := "heapSorts", apart := false, narrowed := true }
def HeapSortsUptoSaid : Prop := heapSortsUptoRow.holds Try.pinned (OpenSpec.upto heapSortsSpec)

end Rows
end Go.Proofs.Ytlihbdinghoeeab

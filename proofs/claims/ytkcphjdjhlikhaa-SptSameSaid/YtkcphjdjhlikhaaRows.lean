/-
  No cell of these rows narrows 'for every input' (looked for: loops, veiled, ifaces, maps, wideKeys, modest, calm, conditions, laid).
  DERIVED. THE GIVEN ROWS OF THIS SEAT. 7 by the template 'for every input the law returns true; each argument reads behind the call as it read before'; 0 by the template 'total and deterministic' (their statements: YtkcphjdjhlikhaaTotals.lean).
  GIVEN WITH THE SEED: the statements are not yours to turn. If you find one false, say at which input.
  Laid BY PROGRAM, IN A SANDBOX (cutbox-rows.mjs): the forced cells as the released guide's own fill.sh prints them over the translation b0fee79c080ca053… (all of the seat's roots in one cut). By AI agents, Wed Nov 11 2026. No macro, syntax, notation, axiom, sorry.
-/
import Derived.Test.YtkcphjdjhlikhaaChecked
import GoSem.Claim
import GoSem.ClaimJoined
import GoSem.ClaimMapViews
import Derived.JoinedTies
import Derived.KernelRfl
namespace Go.Proofs.Ytkcphjdjhlikhaa
/- THE CELL 'sum', in the pinned program and in every row, IS THE sha256 OF THE DUMP (.gsa) THAT YtkcphjdjhlikhaaProg.lean LOADS. Nothing in Lean hashes anything: it is a label: what it is worth is what the hold of that sum in a sandbox is worth. -/
noncomputable def Try.pinned : Pinned := { name := "ytkcphjdjhlikhaa", sum := "b0fee79c080ca0530645b43f89189cf433e6e50270bb28ff4cc14e84edb737f7", checked := Try.checked }
namespace Rows
def none {H : Type} : Left H := { results := [], args := [] }

/-- 'stolonlaw13.SptNear': WHATEVER THE INPUT: true; the input reads as it did. -/
def sptNearSpec : ChangeSpec := { name := "sptNear", fn := fun _ => fun
  | [d1, d2] => { results := [.lit (.bool true)], args := [d1, d2] }
  | _ => none }
def sptNearRow : OpenClaim := { program := "ytkcphjdjhlikhaa", sum := "b0fee79c080ca0530645b43f89189cf433e6e50270bb28ff4cc14e84edb737f7", func := "stolon/stolonlaw13.SptNear", spec := "sptNear", unfollowed := true, recurses := true, apart := false }
def SptNearSaid : Prop := sptNearRow.holds Try.pinned (OpenSpec.ofChange sptNearSpec)

/-- ITS FALSE NEIGHBOUR: 'it returns false'. Refute it at one input. -/
def sptNearWrong : ChangeSpec := { name := "sptNear", fn := fun _ => fun
  | [d1, d2] => { results := [.lit (.bool false)], args := [d1, d2] }
  | _ => none }
def SptNearWrongFalsely : Prop := sptNearRow.holds Try.pinned (OpenSpec.ofChange sptNearWrong)

/-- 'stolonlaw13.SptMore': WHATEVER THE INPUT: true; the input reads as it did. -/
def sptMoreSpec : ChangeSpec := { name := "sptMore", fn := fun _ => fun
  | [d1, d2, d3] => { results := [.lit (.bool true)], args := [d1, d2, d3] }
  | _ => none }
def sptMoreRow : OpenClaim := { program := "ytkcphjdjhlikhaa", sum := "b0fee79c080ca0530645b43f89189cf433e6e50270bb28ff4cc14e84edb737f7", func := "stolon/stolonlaw13.SptMore", spec := "sptMore", unfollowed := true, recurses := true, apart := false }
def SptMoreSaid : Prop := sptMoreRow.holds Try.pinned (OpenSpec.ofChange sptMoreSpec)

/-- ITS FALSE NEIGHBOUR: 'it returns false'. Refute it at one input. -/
def sptMoreWrong : ChangeSpec := { name := "sptMore", fn := fun _ => fun
  | [d1, d2, d3] => { results := [.lit (.bool false)], args := [d1, d2, d3] }
  | _ => none }
def SptMoreWrongFalsely : Prop := sptMoreRow.holds Try.pinned (OpenSpec.ofChange sptMoreWrong)

/-- 'stolonlaw13.SptBoth': WHATEVER THE INPUT: true; the input reads as it did. -/
def sptBothSpec : ChangeSpec := { name := "sptBoth", fn := fun _ => fun
  | [d] => { results := [.lit (.bool true)], args := [d] }
  | _ => none }
def sptBothRow : OpenClaim := { program := "ytkcphjdjhlikhaa", sum := "b0fee79c080ca0530645b43f89189cf433e6e50270bb28ff4cc14e84edb737f7", func := "stolon/stolonlaw13.SptBoth", spec := "sptBoth", unfollowed := true, recurses := true, apart := false }
def SptBothSaid : Prop := sptBothRow.holds Try.pinned (OpenSpec.ofChange sptBothSpec)

/-- ITS FALSE NEIGHBOUR: 'it returns false'. Refute it at one input. -/
def sptBothWrong : ChangeSpec := { name := "sptBoth", fn := fun _ => fun
  | [d] => { results := [.lit (.bool false)], args := [d] }
  | _ => none }
def SptBothWrongFalsely : Prop := sptBothRow.holds Try.pinned (OpenSpec.ofChange sptBothWrong)

/-- 'stolonlaw13.SptSame': WHATEVER THE INPUT: true; the input reads as it did. -/
def sptSameSpec : ChangeSpec := { name := "sptSame", fn := fun _ => fun
  | [d1, d2] => { results := [.lit (.bool true)], args := [d1, d2] }
  | _ => none }
def sptSameRow : OpenClaim := { program := "ytkcphjdjhlikhaa", sum := "b0fee79c080ca0530645b43f89189cf433e6e50270bb28ff4cc14e84edb737f7", func := "stolon/stolonlaw13.SptSame", spec := "sptSame", unfollowed := true, recurses := true, apart := false }
def SptSameSaid : Prop := sptSameRow.holds Try.pinned (OpenSpec.ofChange sptSameSpec)

/-- ITS FALSE NEIGHBOUR: 'it returns false'. Refute it at one input. -/
def sptSameWrong : ChangeSpec := { name := "sptSame", fn := fun _ => fun
  | [d1, d2] => { results := [.lit (.bool false)], args := [d1, d2] }
  | _ => none }
def SptSameWrongFalsely : Prop := sptSameRow.holds Try.pinned (OpenSpec.ofChange sptSameWrong)

/-- 'stolonlaw13.SptTells': WHATEVER THE INPUT: true; the input reads as it did. -/
def sptTellsSpec : ChangeSpec := { name := "sptTells", fn := fun _ => fun
  | [d] => { results := [.lit (.bool true)], args := [d] }
  | _ => none }
def sptTellsRow : OpenClaim := { program := "ytkcphjdjhlikhaa", sum := "b0fee79c080ca0530645b43f89189cf433e6e50270bb28ff4cc14e84edb737f7", func := "stolon/stolonlaw13.SptTells", spec := "sptTells", unfollowed := true, recurses := true, apart := false }
def SptTellsSaid : Prop := sptTellsRow.holds Try.pinned (OpenSpec.ofChange sptTellsSpec)

/-- ITS FALSE NEIGHBOUR: 'it returns false'. Refute it at one input. -/
def sptTellsWrong : ChangeSpec := { name := "sptTells", fn := fun _ => fun
  | [d] => { results := [.lit (.bool false)], args := [d] }
  | _ => none }
def SptTellsWrongFalsely : Prop := sptTellsRow.holds Try.pinned (OpenSpec.ofChange sptTellsWrong)

/-- 'stolonlaw13.SptTrees': WHATEVER THE INPUT: true; the input reads as it did. -/
def sptTreesSpec : ChangeSpec := { name := "sptTrees", fn := fun _ => fun
  | [d1, d2, d3] => { results := [.lit (.bool true)], args := [d1, d2, d3] }
  | _ => none }
def sptTreesRow : OpenClaim := { program := "ytkcphjdjhlikhaa", sum := "b0fee79c080ca0530645b43f89189cf433e6e50270bb28ff4cc14e84edb737f7", func := "stolon/stolonlaw13.SptTrees", spec := "sptTrees", unfollowed := true, recurses := true, apart := false }
def SptTreesSaid : Prop := sptTreesRow.holds Try.pinned (OpenSpec.ofChange sptTreesSpec)

/-- ITS FALSE NEIGHBOUR: 'it returns false'. Refute it at one input. -/
def sptTreesWrong : ChangeSpec := { name := "sptTrees", fn := fun _ => fun
  | [d1, d2, d3] => { results := [.lit (.bool false)], args := [d1, d2, d3] }
  | _ => none }
def SptTreesWrongFalsely : Prop := sptTreesRow.holds Try.pinned (OpenSpec.ofChange sptTreesWrong)

/-- 'stolonlaw13.SptGrows': WHATEVER THE INPUT: true; the input reads as it did. -/
def sptGrowsSpec : ChangeSpec := { name := "sptGrows", fn := fun _ => fun
  | [d] => { results := [.lit (.bool true)], args := [d] }
  | _ => none }
def sptGrowsRow : OpenClaim := { program := "ytkcphjdjhlikhaa", sum := "b0fee79c080ca0530645b43f89189cf433e6e50270bb28ff4cc14e84edb737f7", func := "stolon/stolonlaw13.SptGrows", spec := "sptGrows", unfollowed := true, recurses := true, apart := false }
def SptGrowsSaid : Prop := sptGrowsRow.holds Try.pinned (OpenSpec.ofChange sptGrowsSpec)

/-- ITS FALSE NEIGHBOUR: 'it returns false'. Refute it at one input. -/
def sptGrowsWrong : ChangeSpec := { name := "sptGrows", fn := fun _ => fun
  | [d] => { results := [.lit (.bool false)], args := [d] }
  | _ => none }
def SptGrowsWrongFalsely : Prop := sptGrowsRow.holds Try.pinned (OpenSpec.ofChange sptGrowsWrong)

/- THE SECOND FORM. 'bulk': how many values and letters a reading holds, each counted each time it is reached (what is shared counts as often as it is met; a slice's spare places count too). A statement '..UptoSaid' is the law's where the arguments, and the package variables that the reading takes, are together of bulk at most 1048576: NARROWER than '..Said'. Prove '..Said' where nothing that the law and all that it calls make is longer than what came in: it says more and counts as full. Else prove '..UptoSaid'. A law counts once. -/
mutual
def uptoBulk {H : Type} : DataW H → Nat
  | .lit (.string bytes) => bytes.length + 1
  | .lit _ => 1
  | .nil => 1
  | .ptr d => uptoBulk d + 1
  | .slice elems spare => uptoBulkAll elems + uptoBulkAll spare + 1
  | .agg parts => uptoBulkAll parts + 1
  | .iface _ d => uptoBulk d + 1
  | .map entries => uptoBulkEntries entries + 1
  | .held _ => 1
def uptoBulkAll {H : Type} : List (DataW H) → Nat
  | [] => 0
  | d :: r => uptoBulk d + uptoBulkAll r
def uptoBulkEntries {H : Type} : List (Lit × DataW H) → Nat
  | [] => 0
  | x :: r => uptoBulkEntry x + uptoBulkEntries r
def uptoBulkEntry {H : Type} : Lit × DataW H → Nat
  | (.string bytes, d) => bytes.length + uptoBulk d + 1
  | (_, d) => uptoBulk d + 1
 end
def uptoSmall : (H : Type) → List (DataW H) → Bool := fun _ ds => decide (uptoBulkAll ds ≤ 1048576)
def OpenSpec.upto (s : _root_.Go.ChangeSpec) : _root_.Go.OpenSpec := { _root_.Go.OpenSpec.ofChange s with cond := some uptoSmall }

/-- 'stolonlaw13.SptNear', WHERE WHAT IT READS IS OF BULK AT MOST 1048576: true; the input reads as it did. -/
def sptNearUptoRow : OpenClaim := { program := "ytkcphjdjhlikhaa", sum := "b0fee79c080ca0530645b43f89189cf433e6e50270bb28ff4cc14e84edb737f7", func := "stolon/stolonlaw13.SptNear", spec := "sptNear", unfollowed := true, recurses := true, apart := false, narrowed := true }
def SptNearUptoSaid : Prop := sptNearUptoRow.holds Try.pinned (OpenSpec.upto sptNearSpec)

/-- 'stolonlaw13.SptMore', WHERE WHAT IT READS IS OF BULK AT MOST 1048576: true; the input reads as it did. -/
def sptMoreUptoRow : OpenClaim := { program := "ytkcphjdjhlikhaa", sum := "b0fee79c080ca0530645b43f89189cf433e6e50270bb28ff4cc14e84edb737f7", func := "stolon/stolonlaw13.SptMore", spec := "sptMore", unfollowed := true, recurses := true, apart := false, narrowed := true }
def SptMoreUptoSaid : Prop := sptMoreUptoRow.holds Try.pinned (OpenSpec.upto sptMoreSpec)

/-- 'stolonlaw13.SptBoth', WHERE WHAT IT READS IS OF BULK AT MOST 1048576: true; the input reads as it did. -/
def sptBothUptoRow : OpenClaim := { program := "ytkcphjdjhlikhaa", sum := "b0fee79c080ca0530645b43f89189cf433e6e50270bb28ff4cc14e84edb737f7", func := "stolon/stolonlaw13.SptBoth", spec := "sptBoth", unfollowed := true, recurses := true, apart := false, narrowed := true }
def SptBothUptoSaid : Prop := sptBothUptoRow.holds Try.pinned (OpenSpec.upto sptBothSpec)

/-- 'stolonlaw13.SptSame', WHERE WHAT IT READS IS OF BULK AT MOST 1048576: true; the input reads as it did. -/
def sptSameUptoRow : OpenClaim := { program := "ytkcphjdjhlikhaa", sum := "b0fee79c080ca0530645b43f89189cf433e6e50270bb28ff4cc14e84edb737f7", func := "stolon/stolonlaw13.SptSame", spec := "sptSame", unfollowed := true, recurses := true, apart := false, narrowed := true }
def SptSameUptoSaid : Prop := sptSameUptoRow.holds Try.pinned (OpenSpec.upto sptSameSpec)

/-- 'stolonlaw13.SptTells', WHERE WHAT IT READS IS OF BULK AT MOST 1048576: true; the input reads as it did. -/
def sptTellsUptoRow : OpenClaim := { program := "ytkcphjdjhlikhaa", sum := "b0fee79c080ca0530645b43f89189cf433e6e50270bb28ff4cc14e84edb737f7", func := "stolon/stolonlaw13.SptTells", spec := "sptTells", unfollowed := true, recurses := true, apart := false, narrowed := true }
def SptTellsUptoSaid : Prop := sptTellsUptoRow.holds Try.pinned (OpenSpec.upto sptTellsSpec)

/-- 'stolonlaw13.SptTrees', WHERE WHAT IT READS IS OF BULK AT MOST 1048576: true; the input reads as it did. -/
def sptTreesUptoRow : OpenClaim := { program := "ytkcphjdjhlikhaa", sum := "b0fee79c080ca0530645b43f89189cf433e6e50270bb28ff4cc14e84edb737f7", func := "stolon/stolonlaw13.SptTrees", spec := "sptTrees", unfollowed := true, recurses := true, apart := false, narrowed := true }
def SptTreesUptoSaid : Prop := sptTreesUptoRow.holds Try.pinned (OpenSpec.upto sptTreesSpec)

/-- 'stolonlaw13.SptGrows', WHERE WHAT IT READS IS OF BULK AT MOST 1048576: true; the input reads as it did. -/
def sptGrowsUptoRow : OpenClaim := { program := "ytkcphjdjhlikhaa", sum := "b0fee79c080ca0530645b43f89189cf433e6e50270bb28ff4cc14e84edb737f7", func := "stolon/stolonlaw13.SptGrows", spec := "sptGrows", unfollowed := true, recurses := true, apart := false, narrowed := true }
def SptGrowsUptoSaid : Prop := sptGrowsUptoRow.holds Try.pinned (OpenSpec.upto sptGrowsSpec)

end Rows
end Go.Proofs.Ytkcphjdjhlikhaa

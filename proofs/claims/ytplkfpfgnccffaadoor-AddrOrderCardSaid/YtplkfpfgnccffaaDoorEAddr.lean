/- What the calls of the library ask of a world, and the library's contracts for it. No condition. -/
import Derived.Test.YtplkfpfgnccffaaDoorEShelf
import Derived.Test.YtplkfpfgnccffaaDoorHRows
import Derived.Lib.SmallJoins
import Derived.Lib.AppendIntMem
import Derived.Lib.AtoiErrMem
import Derived.WalkSmall
import Derived.ChangeBears2
namespace Go.Proofs.YtplkfpfgnccffaaDoor.P
open Go.RowKit Go.Proofs.YtplkfpfgnccffaaDoor.HRows Go.Proofs.YtplkfpfgnccffaaDoorW.PrintWords Go.Proofs.YtplkfpfgnccffaaDoorW.PrintLast Go.Proofs.YtplkfpfgnccffaaDoorW.PrintMore
set_option linter.unusedVariables false
theorem gPow : Tryd.prog.globalNamed "internal/strconv.uint64pow10" = some 3 := by kernel_rfl
/-- The library's variables hold what they should. -/
structure LaidW (w : World) : Prop where
  tab : Lib.TabIs Tryd.prog w "internal/strconv.uint64pow10" .u64 Lib.pow10Tab
  mx : ∃ m, w.cell? ⟨2, 0, none⟩ = some (.int .i64 m)
  es : ∃ te pe, w.cell? ⟨0, 0, none⟩ = some (.iface te pe)
  er : ∃ te pe, w.cell? ⟨1, 0, none⟩ = some (.iface te pe)
theorem LaidW.below {w w' : World} (h : LaidW w) (hb : Below w.heap.size w w') : LaidW w' := by
  obtain ⟨m, hm⟩ := h.mx
  obtain ⟨t0, p0, h0⟩ := h.es
  obtain ⟨t1, p1, h1⟩ := h.er
  exact ⟨Joins.tab_stays gPow h.tab hb (Nat.le_refl _), ⟨m, (hb.cell (World.block_lt_of_cell? _ _ hm)).trans hm⟩, ⟨t0, p0, (hb.cell (World.block_lt_of_cell? _ _ h0)).trans h0⟩, ⟨t1, p1, (hb.cell (World.block_lt_of_cell? _ _ h1)).trans h1⟩⟩
def itoaB (n : Int) : ByteArray := ⟨(Lib.itoa n).toArray⟩
theorem itoa_calls (n : Int) (h0 : 0 ≤ n) (h1 : n ≤ 255) (w : World) (hL : LaidW w) :
    Calls Tryd.prog 28 #[.int .i64 n] w fun e w' => e = .returned (.string (itoaB n)) ∧ Below w.heap.size w w' := by
  refine (Tryd.strconv_Itoa n (by omega) (by omega) w hL.tab).mono ?_
  rintro e w' ⟨rfl, k, os, rfl⟩
  exact ⟨rfl, Lib.below_grow _ _ (Nat.le_refl _) _ _⟩
theorem atoiOk_calls (s : ByteArray) (hs : s.size ≤ 100000) (v : Int) (h : Lib.atoiAll s.data.toList = .ok v) (w : World) :
    Calls Tryd.prog 27 #[.string s] w fun e w' => e = .returned (.tuple #[.int .i64 v, .nilIface]) ∧ Below w.heap.size w w' := by
  refine (Tryd.strconv_Atoi_ok s (by omega) v h w).mono ?_
  rintro e w' ⟨rfl, h⟩
  refine ⟨rfl, ?_⟩
  rcases h with rfl | ⟨t, rfl⟩
  · exact Below.refl _ _
  · exact Lib.bytesWorld_below _ _ _
theorem atoiNo_calls (s : ByteArray) (hs : s.size ≤ 100000) (h : ∀ v, Lib.atoiAll s.data.toList ≠ .ok v) (w : World) (hL : LaidW w) :
    Calls Tryd.prog 27 #[.string s] w fun e w' => ∃ v te pe, e = .returned (.tuple #[.int .i64 v, .iface te pe]) ∧ Below w.heap.size w w' := by
  obtain ⟨t0, p0, h0⟩ := hL.es
  obtain ⟨t1, p1, h1⟩ := hL.er
  cases ha : Lib.atoiAll s.data.toList with
  | ok v => exact absurd ha (h v)
  | «syntax» =>
    refine (Tryd.strconv_Atoi_syntax s (by omega) ha _ w h0 (.inr ⟨_, _, rfl⟩)).mono ?_
    rintro e w' ⟨N, rfl, _, _, hb⟩
    exact ⟨_, _, _, rfl, hb⟩
  | range =>
    refine (Tryd.strconv_Atoi_range s (by omega) ha _ w h1 (.inr ⟨_, _, rfl⟩)).mono ?_
    rintro e w' ⟨N, rfl, _, _, hb⟩
    exact ⟨_, _, _, rfl, hb⟩
def dotB : ByteArray := ⟨#[46]⟩
def piecesB (s : ByteArray) : List ByteArray := Lib.splitB dotB 0 (Lib.countB s dotB) s
end Go.Proofs.YtplkfpfgnccffaaDoor.P

/- slices.Sort over whole numbers, out of the library's contract. No condition. -/
import Derived.Test.YtkcphjdjhlikhaaHRows
import Derived.Test.YtkcphjdjhlikhaaWNEv
import Derived.Test.YtkcphjdjhlikhaaERow
import Derived.Shelf.Sort.Plain
import Derived.Shelf.Slices.In.SortNone
namespace Go.Proofs.Ytkcphjdjhlikhaa.P
open Go.RowKit Go.Proofs.Ytkcphjdjhlikhaa.HRows Go.Proofs.YtkcphjdjhlikhaaW.PrintWords Go.Proofs.YtkcphjdjhlikhaaW.PrintLast Go.Proofs.YtkcphjdjhlikhaaW.PrintMore
set_option linter.unusedVariables false
def sort_ren : Go.Shelf.Ren := ⟨fun | 125 => 49 | 128 => 64 | 129 => 65 | 189 => 38 | 215 => 75 | 216 => 61 | 257 => 48 | 294 => 55 | 295 => 56 | 296 => 57 | 297 => 58 | 298 => 59 | 299 => 60 | 300 => 62 | 301 => 63 | 328 => 70 | 329 => 71 | 330 => 72 | 331 => 73 | 332 => 74 | 343 => 78 | n => n, fun | 0 => 0 | 3 => 3 | 4 => 4 | 5 => 5 | 9 => 9 | 28 => 25 | 46 => 85 | 51 => 100 | 53 => 102 | 131 => 80 | 182 => 92 | 183 => 93 | 218 => 110 | 222 => 114 | 228 => 118 | 229 => 119 | n => n, fun n => n⟩
open Go.Shelf Go.Proofs in
set_option maxRecDepth 100000 in
theorem sort_lays : Lays.n189 Try.prog sort_ren := { mixed := rfl, f125 := Eq.trans Try.func49 (congrArg some (by kernel_rfl)), f128 := Eq.trans Try.func64 (congrArg some (by kernel_rfl)), f129 := Eq.trans Try.func65 (congrArg some (by kernel_rfl)), f189 := Eq.trans Try.func38 (congrArg some (by kernel_rfl)), f215 := Eq.trans Try.func75 (congrArg some (by kernel_rfl)), f216 := Eq.trans Try.func61 (congrArg some (by kernel_rfl)), f257 := Eq.trans Try.func48 (congrArg some (by kernel_rfl)), f294 := Eq.trans Try.func55 (congrArg some (by kernel_rfl)), f295 := Eq.trans Try.func56 (congrArg some (by kernel_rfl)), f296 := Eq.trans Try.func57 (congrArg some (by kernel_rfl)), f297 := Eq.trans Try.func58 (congrArg some (by kernel_rfl)), f298 := Eq.trans Try.func59 (congrArg some (by kernel_rfl)), f299 := Eq.trans Try.func60 (congrArg some (by kernel_rfl)), f300 := Eq.trans Try.func62 (congrArg some (by kernel_rfl)), f301 := Eq.trans Try.func63 (congrArg some (by kernel_rfl)), f328 := Eq.trans Try.func70 (congrArg some (by kernel_rfl)), f329 := Eq.trans Try.func71 (congrArg some (by kernel_rfl)), f330 := Eq.trans Try.func72 (congrArg some (by kernel_rfl)), f331 := Eq.trans Try.func73 (congrArg some (by kernel_rfl)), f332 := Eq.trans Try.func74 (congrArg some (by kernel_rfl)), f343 := Eq.trans Try.func78 (congrArg some (by kernel_rfl)), t0 := Try.underlying0, a0 := Try.isAgg0, z0 := Try.sizeOf0, v0 := Try.zeroValue0, t3 := Try.underlying3, a3 := Try.isAgg3, z3 := Try.sizeOf3, v3 := Try.zeroValue3, t4 := Try.underlying4, a4 := Try.isAgg4, z4 := Try.sizeOf4, v4 := Try.zeroValue4, t5 := Try.underlying5, a5 := Try.isAgg5, z5 := Try.sizeOf5, v5 := Try.zeroValue5, t9 := Try.underlying9, a9 := Try.isAgg9, z9 := Try.sizeOf9, v9 := Try.zeroValue9, t28 := Try.underlying25, a28 := Try.isAgg25, z28 := Try.sizeOf25, v28 := Try.zeroValue25, t46 := Try.underlying85, a46 := Try.isAgg85, z46 := Try.sizeOf85, v46 := Try.zeroValue85, t51 := Try.underlying100, a51 := Try.isAgg100, z51 := Try.sizeOf100, v51 := Try.zeroValue100, t53 := Try.underlying102, a53 := Try.isAgg102, z53 := Try.sizeOf102, v53 := Try.zeroValue102, t131 := Try.underlying80, a131 := Try.isAgg80, z131 := Try.sizeOf80, v131 := Try.zeroValue80, t182 := Try.underlying92, a182 := Try.isAgg92, z182 := Try.sizeOf92, v182 := Try.zeroValue92, t183 := Try.underlying93, a183 := Try.isAgg93, z183 := Try.sizeOf93, v183 := Try.zeroValue93, t218 := Try.underlying110, a218 := Try.isAgg110, z218 := Try.sizeOf110, v218 := Try.zeroValue110, t222 := Try.underlying114, a222 := Try.isAgg114, z222 := Try.sizeOf114, v222 := Try.zeroValue114, t228 := Try.underlying118, a228 := Try.isAgg118, z228 := Try.sizeOf118, v228 := Try.zeroValue118, t229 := Try.underlying119, a229 := Try.isAgg119, z229 := Try.sizeOf119, v229 := Try.zeroValue119 }
open Go.Sort in
theorem below_grow (w : World) (os : Array Obj) : Below w.heap.size w (grow w os) := ⟨rfl, rfl, rfl, by show w.heap.size ≤ (w.heap ++ os).size; rw [Array.size_append]; omega, fun k hk => by show (w.heap ++ os)[k]? = _; rw [Array.getElem?_append_left hk]⟩
theorem sgrown_keep {w0 A B : World} {r : Option Nat} (h : w0.grownBy A r) (k : Below A.heap.size A B) : w0.grownBy B r := ⟨k.os.trans h.os, k.tape.trans h.tape, k.output.trans h.output, Nat.le_trans h.size k.size, fun i hi hr => (k.block i (Nat.lt_of_lt_of_le hi h.size)).trans (h.block i hi hr)⟩
open Go.Sort Go.Shelf Go.Proofs in
theorem sortInt_calls (v : Value) (xs : List Int) (ok : Nat → Prop) (base : Nat) (W : World) (h : (Kd.int .i64).R 3 W base ok v xs) (hlen : xs.length < 4611686018427387904) :
    Calls Try.prog 38 #[v] W fun e W' => e = .returned (.tuple #[]) ∧ (Kd.int .i64).R 3 W' base ok v (xs.mergeSort fun x y => decide (x ≤ y)) ∧ W.grownBy W' v.ownBlock := by
  rcases Nat.eq_zero_or_pos xs.length with h0 | h0
  · obtain rfl := List.eq_nil_of_length_eq_zero h0
    obtain ⟨A, c, rfl⟩ := Kd.R_slice h
    refine (Any.slices_Sort_int_none sort_lays A c W).mono ?_
    rintro e w' hh
    obtain ⟨rfl, rfl⟩ := hh
    exact ⟨rfl, by rw [List.mergeSort_nil]; exact h, ⟨rfl, rfl, rfl, Nat.le_refl _, fun _ _ _ => rfl⟩⟩
  · obtain ⟨g, cap, rfl, hg, hg2, hcells⟩ := Kd.R_form h h0
    refine (Any.slices_Sort_int sort_lays g 0 cap xs W (holds_of_R h) hg2 hlen).mono ?_
    rintro e w' ⟨rfl, q, os, rfl⟩
    have h1 : (Kd.int .i64).R 3 (Sort.ahead W q) base ok (.slice (some ⟨g, 0, none⟩) xs.length cap) xs := Kd.R_drewN h q
    obtain ⟨h2, h3⟩ := R_putRow h1 (ys := xs.mergeSort fun x y => decide (x ≤ y)) (List.length_mergeSort _)
    refine ⟨rfl, Kd.R_below h2 (below_grow _ _), ?_⟩
    exact sgrown_keep ⟨h3.os, h3.tape, h3.output, h3.size, h3.block⟩ (below_grow _ _)
end Go.Proofs.Ytkcphjdjhlikhaa.P

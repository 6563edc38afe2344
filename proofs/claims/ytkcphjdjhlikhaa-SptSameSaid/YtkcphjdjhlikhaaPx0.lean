/- For each Go function a Lean function, and the proof that a call comes to what it tells: made by program out of the translation (the kit's print, with texts by hand put in). No condition. -/
import Derived.Test.YtkcphjdjhlikhaaSq
import Derived.Test.YtkcphjdjhlikhaaProg
import Derived.Below
import Derived.Deep.Draws
import Derived.Deep.AppendLies
import Derived.Maps.AppendAt
import Derived.OwnWalk
import Derived.Laws.BytesArg
import Derived.Laws.MakeOwn
import Derived.Laws.OwnMore
import Derived.Deep.OwnRows
import Derived.Tactics
import Derived.Lib.ConvBytes
import Derived.Laws.Slices
import Derived.WalkKit
import Derived.KernelRfl
import Derived.RowKit3
import Derived.Deep.LoopGhost
import Derived.Deep.QuietTactic
import Derived.BigQuiet
import Derived.WideLaws
import Derived.Deep.DeepCutAuto
import Derived.Deep.CutBlock
import Derived.Deep.RegionHeld3
import Derived.Laws.Rows
import Derived.Lib.AppendStr
import Derived.ArgAppend
import Derived.Laws.IdiomCopy
import Derived.OrdersHeld
import Derived.Laws.BitsLemmas
import Derived.RowKit
import Derived.Test.YtkcphjdjhlikhaaHRows
import Derived.Test.YtkcphjdjhlikhaaERow
import Derived.Test.YtkcphjdjhlikhaaESpt
import Derived.Test.YtkcphjdjhlikhaaESrt
import Derived.Test.YtkcphjdjhlikhaaWWords
import Derived.Test.YtkcphjdjhlikhaaWLast
import Derived.Test.YtkcphjdjhlikhaaWTab
import Derived.Test.YtkcphjdjhlikhaaWFour
import Derived.Test.YtkcphjdjhlikhaaWQPut
import Derived.Test.YtkcphjdjhlikhaaWApart
import Derived.Test.YtkcphjdjhlikhaaWArr
import Derived.Test.YtkcphjdjhlikhaaWZeros
import Derived.Test.YtkcphjdjhlikhaaWFoot
import Derived.Test.YtkcphjdjhlikhaaWKept
import Derived.Test.YtkcphjdjhlikhaaWShare
import Derived.Test.YtkcphjdjhlikhaaWN
import Derived.Test.YtkcphjdjhlikhaaWFootNe
import Derived.Test.YtkcphjdjhlikhaaWAt
import Derived.Test.YtkcphjdjhlikhaaWEqStruct
import Derived.Test.YtkcphjdjhlikhaaWRepsOne
import Derived.Test.YtkcphjdjhlikhaaWInv
import Derived.Test.YtkcphjdjhlikhaaWInvWords
import Derived.Test.YtkcphjdjhlikhaaWGuard
import Derived.Test.YtkcphjdjhlikhaaWNEv
import Derived.Test.YtkcphjdjhlikhaaWMore
namespace Go.Proofs.Ytkcphjdjhlikhaa.P
open Go.RowKit Go.Proofs.Ytkcphjdjhlikhaa.HRows Go.Proofs.YtkcphjdjhlikhaaW.PrintWords Go.Proofs.YtkcphjdjhlikhaaW.PrintLast Go.Proofs.YtkcphjdjhlikhaaW.PrintMore
attribute [local go_sem] max2_int min2_int max_two min_two max_three min_three max_four min_four   -- for this text's walks alone
set_option linter.unusedVariables false
set_option linter.unusedSimpArgs false



def errW : Option Int → Value
 | none => .nilIface
 | some c => .iface 0 (.int .i64 c)
theorem errW_none : errW none = .nilIface := rfl
theorem errW_some (c : Int) : errW (some c) = .iface 0 (.int .i64 c) := rfl

theorem info3 : (Try.prog.info? 3).map (fun i => (i.zero, i.size, i.bytes)) = some (some (.int .i64 0), 1, 8) := by kernel_rfl
theorem info4 : (Try.prog.info? 4).map (fun i => (i.zero, i.size, i.bytes)) = some (some (.bool false), 1, 1) := by kernel_rfl
theorem info33 : (Try.prog.info? 33).map (fun i => (i.zero, i.size, i.bytes)) = some (some (.agg #[(.int .i64 0), (.int .i64 0), (.int .i64 0), (.bool false)]), 4, 32) := by kernel_rfl
theorem info59 : (Try.prog.info? 59).map (fun i => (i.zero, i.size, i.bytes)) = some (some (.agg #[(.int .i64 0), (.int .i64 0)]), 2, 16) := by kernel_rfl
theorem info76 : (Try.prog.info? 76).map (fun i => (i.zero, i.size, i.bytes)) = some (some (.agg #[(.int .i64 0), (.int .i64 0)]), 2, 16) := by kernel_rfl
-- the values' own types
def rd_L1 (xs : List (List Int)) (i : Int) : (List Int) := xs.getD i.toNat ([] : List Int)
theorem at_L1 {w : World} {A : Option Addr} {n : Nat} {xs : List (List Int)} (h : Kd.C (Kd.slice 3 (Kd.int .i64)) w A n xs) (i : Int) (h0 : 0 ≤ i) (h1 : i < n) : ∃ ad A0 c0, A = some ad ∧ w.cell? (ad.add i.toNat) = some (.slice A0 (rd_L1 xs i).length c0) ∧ (rd_L1 xs i).length ≤ c0 ∧ (Kd.int .i64).C w A0 (rd_L1 xs i).length (rd_L1 xs i) := by
 obtain ⟨ad, c, e, _, hK, hc0⟩ := Kd.C_get h ([] : List Int) i h0 h1
 have hc : ∀ j u, c[j]? = some u → w.cell? (ad.add (i.toNat * 1 + j)) = some u := hc0
 obtain ⟨A0, c0, rfl, l0, g0⟩ := hK
 exact ⟨ad, A0, c0, e, (by have hq := hc 0 _ rfl; rwa [Nat.mul_one, Nat.add_zero] at hq), l0, g0⟩

/-! #### struct type 33 -/
structure S33 where
 f0 : Int
 f1 : Int
 f2 : Int
 f3 : Bool
def z33 : S33 := ⟨(0 : Int), (0 : Int), (0 : Int), false⟩
def k33 : Kd S33 := Kd.iso (Kd.pair (Kd.int .i64) (Kd.pair (Kd.int .i64) (Kd.pair (Kd.int .i64) Kd.bool))) (fun x : S33 => (x.f0, x.f1, x.f2, x.f3))
theorem k33_heap : Kd.Heap k33 := Kd.heap_iso _ (Kd.heap_pair (Kd.heap_int .i64) (Kd.heap_pair (Kd.heap_int .i64) (Kd.heap_pair (Kd.heap_int .i64) Kd.heap_bool)))
theorem k33_open {w : World} {x : S33} {cs : List Value} (h : k33.K w x cs) : cs = [.int .i64 x.f0, .int .i64 x.f1, .int .i64 x.f2, .bool x.f3] := by
 obtain ⟨_, _, rfl, rfl, ⟨_, _, rfl, rfl, ⟨_, _, rfl, rfl, rfl⟩⟩⟩ := h
 exact rfl
theorem k33_openM {w : World} {base : Nat} {ok : Nat → Prop} {x : S33} {cs : List Value} (h : k33.M w base ok x cs) : cs = [.int .i64 x.f0, .int .i64 x.f1, .int .i64 x.f2, .bool x.f3] := by
 obtain ⟨_, _, rfl, rfl, ⟨_, _, rfl, rfl, ⟨_, _, rfl, rfl, rfl⟩⟩⟩ := h
 exact rfl
theorem k33_mk (w : World) (x : S33)  : k33.K w x [.int .i64 x.f0, .int .i64 x.f1, .int .i64 x.f2, .bool x.f3] := ⟨[.int .i64 x.f0], [.int .i64 x.f1, .int .i64 x.f2, .bool x.f3], rfl, rfl, ⟨[.int .i64 x.f1], [.int .i64 x.f2, .bool x.f3], rfl, rfl, ⟨[.int .i64 x.f2], [.bool x.f3], rfl, rfl, rfl⟩⟩⟩
theorem k33_mkM (w : World) (base : Nat) (ok : Nat → Prop) (x : S33)  : k33.M w base ok x [.int .i64 x.f0, .int .i64 x.f1, .int .i64 x.f2, .bool x.f3] := ⟨[.int .i64 x.f0], [.int .i64 x.f1, .int .i64 x.f2, .bool x.f3], rfl, rfl, ⟨[.int .i64 x.f1], [.int .i64 x.f2, .bool x.f3], rfl, rfl, ⟨[.int .i64 x.f2], [.bool x.f3], rfl, rfl, rfl⟩⟩⟩
def rd_T33 (xs : List S33) (i : Int) : S33 := xs.getD i.toNat z33
theorem at_T33 {w : World} {A : Option Addr} {n : Nat} {xs : List S33} (h : Kd.C k33 w A n xs) (i : Int) (h0 : 0 ≤ i) (h1 : i < n) : ∃ ad , A = some ad ∧ w.cell? (ad.add (i.toNat * 4)) = some (.int .i64 (rd_T33 xs i).f0) ∧ w.cell? ⟨(ad.add (i.toNat * 4)).block, (ad.add (i.toNat * 4)).off + 1, none⟩ = some (.int .i64 (rd_T33 xs i).f1) ∧ w.cell? ⟨(ad.add (i.toNat * 4)).block, (ad.add (i.toNat * 4)).off + 2, none⟩ = some (.int .i64 (rd_T33 xs i).f2) ∧ w.cell? ⟨(ad.add (i.toNat * 4)).block, (ad.add (i.toNat * 4)).off + 3, none⟩ = some (.bool (rd_T33 xs i).f3) := by
 obtain ⟨ad, c, e, _, hK, hc0⟩ := Kd.C_get h z33 i h0 h1
 have hc : ∀ j u, c[j]? = some u → w.cell? (ad.add (i.toNat * 4 + j)) = some u := hc0
 obtain rfl := k33_open hK
 exact ⟨ad, e, hc 0 _ rfl, (by rw [← add_field _ _ 1 (by omega)]; exact hc 1 _ rfl), (by rw [← add_field _ _ 2 (by omega)]; exact hc 2 _ rfl), (by rw [← add_field _ _ 3 (by omega)]; exact hc 3 _ rfl)⟩

/-! #### struct type 59 -/
structure S59 where
 f0 : Int
 f1 : Int
def z59 : S59 := ⟨(0 : Int), (0 : Int)⟩
def k59 : Kd S59 := Kd.iso (Kd.pair (Kd.int .i64) (Kd.int .i64)) (fun x : S59 => (x.f0, x.f1))
theorem k59_heap : Kd.Heap k59 := Kd.heap_iso _ (Kd.heap_pair (Kd.heap_int .i64) (Kd.heap_int .i64))
theorem k59_open {w : World} {x : S59} {cs : List Value} (h : k59.K w x cs) : cs = [.int .i64 x.f0, .int .i64 x.f1] := by
 obtain ⟨_, _, rfl, rfl, rfl⟩ := h
 exact rfl
theorem k59_openM {w : World} {base : Nat} {ok : Nat → Prop} {x : S59} {cs : List Value} (h : k59.M w base ok x cs) : cs = [.int .i64 x.f0, .int .i64 x.f1] := by
 obtain ⟨_, _, rfl, rfl, rfl⟩ := h
 exact rfl
theorem k59_mk (w : World) (x : S59)  : k59.K w x [.int .i64 x.f0, .int .i64 x.f1] := ⟨[.int .i64 x.f0], [.int .i64 x.f1], rfl, rfl, rfl⟩
theorem k59_mkM (w : World) (base : Nat) (ok : Nat → Prop) (x : S59)  : k59.M w base ok x [.int .i64 x.f0, .int .i64 x.f1] := ⟨[.int .i64 x.f0], [.int .i64 x.f1], rfl, rfl, rfl⟩
def rd_T59 (xs : List S59) (i : Int) : S59 := xs.getD i.toNat z59
theorem at_T59 {w : World} {A : Option Addr} {n : Nat} {xs : List S59} (h : Kd.C k59 w A n xs) (i : Int) (h0 : 0 ≤ i) (h1 : i < n) : ∃ ad , A = some ad ∧ w.cell? (ad.add (i.toNat * 2)) = some (.int .i64 (rd_T59 xs i).f0) ∧ w.cell? ⟨(ad.add (i.toNat * 2)).block, (ad.add (i.toNat * 2)).off + 1, none⟩ = some (.int .i64 (rd_T59 xs i).f1) := by
 obtain ⟨ad, c, e, _, hK, hc0⟩ := Kd.C_get h z59 i h0 h1
 have hc : ∀ j u, c[j]? = some u → w.cell? (ad.add (i.toNat * 2 + j)) = some u := hc0
 obtain rfl := k59_open hK
 exact ⟨ad, e, hc 0 _ rfl, (by rw [← add_field _ _ 1 (by omega)]; exact hc 1 _ rfl)⟩

/-! #### struct type 76 -/
structure S76 where
 f0 : Int
 f1 : Int
def z76 : S76 := ⟨(0 : Int), (0 : Int)⟩
def k76 : Kd S76 := Kd.iso (Kd.pair (Kd.int .i64) (Kd.int .i64)) (fun x : S76 => (x.f0, x.f1))
theorem k76_heap : Kd.Heap k76 := Kd.heap_iso _ (Kd.heap_pair (Kd.heap_int .i64) (Kd.heap_int .i64))
theorem k76_open {w : World} {x : S76} {cs : List Value} (h : k76.K w x cs) : cs = [.int .i64 x.f0, .int .i64 x.f1] := by
 obtain ⟨_, _, rfl, rfl, rfl⟩ := h
 exact rfl
theorem k76_openM {w : World} {base : Nat} {ok : Nat → Prop} {x : S76} {cs : List Value} (h : k76.M w base ok x cs) : cs = [.int .i64 x.f0, .int .i64 x.f1] := by
 obtain ⟨_, _, rfl, rfl, rfl⟩ := h
 exact rfl
theorem k76_mk (w : World) (x : S76)  : k76.K w x [.int .i64 x.f0, .int .i64 x.f1] := ⟨[.int .i64 x.f0], [.int .i64 x.f1], rfl, rfl, rfl⟩
theorem k76_mkM (w : World) (base : Nat) (ok : Nat → Prop) (x : S76)  : k76.M w base ok x [.int .i64 x.f0, .int .i64 x.f1] := ⟨[.int .i64 x.f0], [.int .i64 x.f1], rfl, rfl, rfl⟩
def rd_T76 (xs : List S76) (i : Int) : S76 := xs.getD i.toNat z76
theorem at_T76 {w : World} {A : Option Addr} {n : Nat} {xs : List S76} (h : Kd.C k76 w A n xs) (i : Int) (h0 : 0 ≤ i) (h1 : i < n) : ∃ ad , A = some ad ∧ w.cell? (ad.add (i.toNat * 2)) = some (.int .i64 (rd_T76 xs i).f0) ∧ w.cell? ⟨(ad.add (i.toNat * 2)).block, (ad.add (i.toNat * 2)).off + 1, none⟩ = some (.int .i64 (rd_T76 xs i).f1) := by
 obtain ⟨ad, c, e, _, hK, hc0⟩ := Kd.C_get h z76 i h0 h1
 have hc : ∀ j u, c[j]? = some u → w.cell? (ad.add (i.toNat * 2 + j)) = some u := hc0
 obtain rfl := k76_open hK
 exact ⟨ad, e, hc 0 _ rfl, (by rw [← add_field _ _ 1 (by omega)]; exact hc 1 _ rfl)⟩

def rd_L6 (xs : List (List S76)) (i : Int) : (List S76) := xs.getD i.toNat ([] : List S76)
theorem at_L6 {w : World} {A : Option Addr} {n : Nat} {xs : List (List S76)} (h : Kd.C (Kd.slice 76 k76) w A n xs) (i : Int) (h0 : 0 ≤ i) (h1 : i < n) : ∃ ad A0 c0, A = some ad ∧ w.cell? (ad.add i.toNat) = some (.slice A0 (rd_L6 xs i).length c0) ∧ (rd_L6 xs i).length ≤ c0 ∧ k76.C w A0 (rd_L6 xs i).length (rd_L6 xs i) := by
 obtain ⟨ad, c, e, _, hK, hc0⟩ := Kd.C_get h ([] : List S76) i h0 h1
 have hc : ∀ j u, c[j]? = some u → w.cell? (ad.add (i.toNat * 1 + j)) = some u := hc0
 obtain ⟨A0, c0, rfl, l0, g0⟩ := hK
 exact ⟨ad, A0, c0, e, (by have hq := hc 0 _ rfl; rwa [Nat.mul_one, Nat.add_zero] at hq), l0, g0⟩

def rd_L7 (xs : List (List S33)) (i : Int) : (List S33) := xs.getD i.toNat ([] : List S33)
theorem at_L7 {w : World} {A : Option Addr} {n : Nat} {xs : List (List S33)} (h : Kd.C (Kd.slice 33 k33) w A n xs) (i : Int) (h0 : 0 ≤ i) (h1 : i < n) : ∃ ad A0 c0, A = some ad ∧ w.cell? (ad.add i.toNat) = some (.slice A0 (rd_L7 xs i).length c0) ∧ (rd_L7 xs i).length ≤ c0 ∧ k33.C w A0 (rd_L7 xs i).length (rd_L7 xs i) := by
 obtain ⟨ad, c, e, _, hK, hc0⟩ := Kd.C_get h ([] : List S33) i h0 h1
 have hc : ∀ j u, c[j]? = some u → w.cell? (ad.add (i.toNat * 1 + j)) = some u := hc0
 obtain ⟨A0, c0, rfl, l0, g0⟩ := hK
 exact ⟨ad, A0, c0, e, (by have hq := hc 0 _ rfl; rwa [Nat.mul_one, Nat.add_zero] at hq), l0, g0⟩

/-! #### struct type 24 -/
structure S24 where
 f0 : Int
 f1 : (List S33)
def z24 : S24 := ⟨(0 : Int), ([] : List S33)⟩
def k24 : Kd S24 := Kd.iso (Kd.pair (Kd.int .i64) (Kd.slice 33 k33)) (fun x : S24 => (x.f0, x.f1))
theorem k24_heap : Kd.Heap k24 := Kd.heap_iso _ (Kd.heap_pair (Kd.heap_int .i64) (Kd.heap_slice 33 k33_heap))
theorem k24_open {w : World} {x : S24} {cs : List Value} (h : k24.K w x cs) : ∃ A1 c1, cs = [.int .i64 x.f0, .slice A1 x.f1.length c1] ∧ x.f1.length ≤ c1 ∧ k33.C w A1 x.f1.length x.f1 := by
 obtain ⟨_, _, rfl, rfl, ⟨A1, c1, rfl, l1, g1⟩⟩ := h
 exact ⟨A1, c1, rfl, l1, g1⟩
theorem k24_openM {w : World} {base : Nat} {ok : Nat → Prop} {x : S24} {cs : List Value} (h : k24.M w base ok x cs) : ∃ v1, cs = [.int .i64 x.f0, v1] ∧ k33.R 33 w base ok v1 x.f1 := by
 obtain ⟨_, _, rfl, rfl, ⟨v1, rfl, g1⟩⟩ := h
 exact ⟨v1, rfl, g1⟩
theorem k24_mk (w : World) (x : S24) {A1 : Option Addr} {c1 : Nat} (l1 : x.f1.length ≤ c1) (g1 : k33.C w A1 x.f1.length x.f1) : k24.K w x [.int .i64 x.f0, .slice A1 x.f1.length c1] := ⟨[.int .i64 x.f0], [.slice A1 x.f1.length c1], rfl, rfl, ⟨A1, c1, rfl, l1, g1⟩⟩
theorem k24_mkM (w : World) (base : Nat) (ok : Nat → Prop) (x : S24) {v1 : Value} (g1 : k33.R 33 w base ok v1 x.f1) : k24.M w base ok x [.int .i64 x.f0, v1] := ⟨[.int .i64 x.f0], [v1], rfl, rfl, ⟨v1, rfl, g1⟩⟩
def rd_T24 (xs : List S24) (i : Int) : S24 := xs.getD i.toNat z24
theorem at_T24 {w : World} {A : Option Addr} {n : Nat} {xs : List S24} (h : Kd.C k24 w A n xs) (i : Int) (h0 : 0 ≤ i) (h1 : i < n) : ∃ ad A1 c1, A = some ad ∧ w.cell? (ad.add (i.toNat * 2)) = some (.int .i64 (rd_T24 xs i).f0) ∧ w.cell? ⟨(ad.add (i.toNat * 2)).block, (ad.add (i.toNat * 2)).off + 1, none⟩ = some (.slice A1 (rd_T24 xs i).f1.length c1) ∧ (rd_T24 xs i).f1.length ≤ c1 ∧ k33.C w A1 (rd_T24 xs i).f1.length (rd_T24 xs i).f1 := by
 obtain ⟨ad, c, e, _, hK, hc0⟩ := Kd.C_get h z24 i h0 h1
 have hc : ∀ j u, c[j]? = some u → w.cell? (ad.add (i.toNat * 2 + j)) = some u := hc0
 obtain ⟨A1, c1, rfl, l1, g1⟩ := k24_open hK
 exact ⟨ad, A1, c1, e, hc 0 _ rfl, (by rw [← add_field _ _ 1 (by omega)]; exact hc 1 _ rfl), l1, g1⟩

def rd_L9 (xs : List (List S59)) (i : Int) : (List S59) := xs.getD i.toNat ([] : List S59)
theorem at_L9 {w : World} {A : Option Addr} {n : Nat} {xs : List (List S59)} (h : Kd.C (Kd.slice 59 k59) w A n xs) (i : Int) (h0 : 0 ≤ i) (h1 : i < n) : ∃ ad A0 c0, A = some ad ∧ w.cell? (ad.add i.toNat) = some (.slice A0 (rd_L9 xs i).length c0) ∧ (rd_L9 xs i).length ≤ c0 ∧ k59.C w A0 (rd_L9 xs i).length (rd_L9 xs i) := by
 obtain ⟨ad, c, e, _, hK, hc0⟩ := Kd.C_get h ([] : List S59) i h0 h1
 have hc : ∀ j u, c[j]? = some u → w.cell? (ad.add (i.toNat * 1 + j)) = some u := hc0
 obtain ⟨A0, c0, rfl, l0, g0⟩ := hK
 exact ⟨ad, A0, c0, e, (by have hq := hc 0 _ rfl; rwa [Nat.mul_one, Nat.add_zero] at hq), l0, g0⟩

/-! #### struct type 29 -/
structure S29 where
 f0 : (List Int)
 f1 : (List Int)
def z29 : S29 := ⟨([] : List Int), ([] : List Int)⟩
def k29 : Kd S29 := Kd.iso (Kd.pair (Kd.slice 3 (Kd.int .i64)) (Kd.slice 3 (Kd.int .i64))) (fun x : S29 => (x.f0, x.f1))
theorem k29_heap : Kd.Heap k29 := Kd.heap_iso _ (Kd.heap_pair (Kd.heap_slice 3 (Kd.heap_int .i64)) (Kd.heap_slice 3 (Kd.heap_int .i64)))
theorem k29_open {w : World} {x : S29} {cs : List Value} (h : k29.K w x cs) : ∃ A0 c0 A1 c1, cs = [.slice A0 x.f0.length c0, .slice A1 x.f1.length c1] ∧ x.f0.length ≤ c0 ∧ (Kd.int .i64).C w A0 x.f0.length x.f0 ∧ x.f1.length ≤ c1 ∧ (Kd.int .i64).C w A1 x.f1.length x.f1 := by
 obtain ⟨_, _, rfl, ⟨A0, c0, rfl, l0, g0⟩, ⟨A1, c1, rfl, l1, g1⟩⟩ := h
 exact ⟨A0, c0, A1, c1, rfl, l0, g0, l1, g1⟩
theorem k29_openM {w : World} {base : Nat} {ok : Nat → Prop} {x : S29} {cs : List Value} (h : k29.M w base ok x cs) : ∃ v0 v1, cs = [v0, v1] ∧ (Kd.int .i64).R 3 w base ok v0 x.f0 ∧ (Kd.int .i64).R 3 w base ok v1 x.f1 := by
 obtain ⟨_, _, rfl, ⟨v0, rfl, g0⟩, ⟨v1, rfl, g1⟩⟩ := h
 exact ⟨v0, v1, rfl, g0, g1⟩
theorem k29_mk (w : World) (x : S29) {A0 : Option Addr} {c0 : Nat} (l0 : x.f0.length ≤ c0) (g0 : (Kd.int .i64).C w A0 x.f0.length x.f0) {A1 : Option Addr} {c1 : Nat} (l1 : x.f1.length ≤ c1) (g1 : (Kd.int .i64).C w A1 x.f1.length x.f1) : k29.K w x [.slice A0 x.f0.length c0, .slice A1 x.f1.length c1] := ⟨[.slice A0 x.f0.length c0], [.slice A1 x.f1.length c1], rfl, ⟨A0, c0, rfl, l0, g0⟩, ⟨A1, c1, rfl, l1, g1⟩⟩
theorem k29_mkM (w : World) (base : Nat) (ok : Nat → Prop) (x : S29) {v0 : Value} (g0 : (Kd.int .i64).R 3 w base ok v0 x.f0) {v1 : Value} (g1 : (Kd.int .i64).R 3 w base ok v1 x.f1) : k29.M w base ok x [v0, v1] := ⟨[v0], [v1], rfl, ⟨v0, rfl, g0⟩, ⟨v1, rfl, g1⟩⟩
def rd_T29 (xs : List S29) (i : Int) : S29 := xs.getD i.toNat z29
theorem at_T29 {w : World} {A : Option Addr} {n : Nat} {xs : List S29} (h : Kd.C k29 w A n xs) (i : Int) (h0 : 0 ≤ i) (h1 : i < n) : ∃ ad A0 c0 A1 c1, A = some ad ∧ w.cell? (ad.add (i.toNat * 2)) = some (.slice A0 (rd_T29 xs i).f0.length c0) ∧ w.cell? ⟨(ad.add (i.toNat * 2)).block, (ad.add (i.toNat * 2)).off + 1, none⟩ = some (.slice A1 (rd_T29 xs i).f1.length c1) ∧ (rd_T29 xs i).f0.length ≤ c0 ∧ (Kd.int .i64).C w A0 (rd_T29 xs i).f0.length (rd_T29 xs i).f0 ∧ (rd_T29 xs i).f1.length ≤ c1 ∧ (Kd.int .i64).C w A1 (rd_T29 xs i).f1.length (rd_T29 xs i).f1 := by
 obtain ⟨ad, c, e, _, hK, hc0⟩ := Kd.C_get h z29 i h0 h1
 have hc : ∀ j u, c[j]? = some u → w.cell? (ad.add (i.toNat * 2 + j)) = some u := hc0
 obtain ⟨A0, c0, A1, c1, rfl, l0, g0, l1, g1⟩ := k29_open hK
 exact ⟨ad, A0, c0, A1, c1, e, hc 0 _ rfl, (by rw [← add_field _ _ 1 (by omega)]; exact hc 1 _ rfl), l0, g0, l1, g1⟩

/-! #### struct type 37 -/
structure S37 where
 f0 : S24
 f1 : Int
 f2 : Int
 f3 : Int
def z37 : S37 := ⟨z24, (0 : Int), (0 : Int), (0 : Int)⟩
def k37 : Kd S37 := Kd.iso (Kd.pair k24 (Kd.pair (Kd.int .i64) (Kd.pair (Kd.int .i64) (Kd.int .i64)))) (fun x : S37 => (x.f0, x.f1, x.f2, x.f3))
theorem k37_heap : Kd.Heap k37 := Kd.heap_iso _ (Kd.heap_pair k24_heap (Kd.heap_pair (Kd.heap_int .i64) (Kd.heap_pair (Kd.heap_int .i64) (Kd.heap_int .i64))))
theorem k37_open {w : World} {x : S37} {cs : List Value} (h : k37.K w x cs) : ∃ A1 c1, cs = [.int .i64 x.f0.f0, .slice A1 x.f0.f1.length c1, .int .i64 x.f1, .int .i64 x.f2, .int .i64 x.f3] ∧ x.f0.f1.length ≤ c1 ∧ k33.C w A1 x.f0.f1.length x.f0.f1 := by
 obtain ⟨_, _, rfl, s0, ⟨_, _, rfl, rfl, ⟨_, _, rfl, rfl, rfl⟩⟩⟩ := h
 obtain ⟨A1, c1, rfl, l1, g1⟩ := k24_open s0
 exact ⟨A1, c1, rfl, l1, g1⟩
theorem k37_openM {w : World} {base : Nat} {ok : Nat → Prop} {x : S37} {cs : List Value} (h : k37.M w base ok x cs) : ∃ v1, cs = [.int .i64 x.f0.f0, v1, .int .i64 x.f1, .int .i64 x.f2, .int .i64 x.f3] ∧ k33.R 33 w base ok v1 x.f0.f1 := by
 obtain ⟨_, _, rfl, s0, ⟨_, _, rfl, rfl, ⟨_, _, rfl, rfl, rfl⟩⟩⟩ := h
 obtain ⟨v1, rfl, g1⟩ := k24_openM s0
 exact ⟨v1, rfl, g1⟩
theorem k37_mk (w : World) (x : S37) {A1 : Option Addr} {c1 : Nat} (l1 : x.f0.f1.length ≤ c1) (g1 : k33.C w A1 x.f0.f1.length x.f0.f1) : k37.K w x [.int .i64 x.f0.f0, .slice A1 x.f0.f1.length c1, .int .i64 x.f1, .int .i64 x.f2, .int .i64 x.f3] := ⟨[.int .i64 x.f0.f0, .slice A1 x.f0.f1.length c1], [.int .i64 x.f1, .int .i64 x.f2, .int .i64 x.f3], rfl, (k24_mk w x.f0 l1 g1), ⟨[.int .i64 x.f1], [.int .i64 x.f2, .int .i64 x.f3], rfl, rfl, ⟨[.int .i64 x.f2], [.int .i64 x.f3], rfl, rfl, rfl⟩⟩⟩
theorem k37_mkM (w : World) (base : Nat) (ok : Nat → Prop) (x : S37) {v1 : Value} (g1 : k33.R 33 w base ok v1 x.f0.f1) : k37.M w base ok x [.int .i64 x.f0.f0, v1, .int .i64 x.f1, .int .i64 x.f2, .int .i64 x.f3] := ⟨[.int .i64 x.f0.f0, v1], [.int .i64 x.f1, .int .i64 x.f2, .int .i64 x.f3], rfl, (k24_mkM w base ok x.f0 g1), ⟨[.int .i64 x.f1], [.int .i64 x.f2, .int .i64 x.f3], rfl, rfl, ⟨[.int .i64 x.f2], [.int .i64 x.f3], rfl, rfl, rfl⟩⟩⟩
def rd_T37 (xs : List S37) (i : Int) : S37 := xs.getD i.toNat z37
theorem at_T37 {w : World} {A : Option Addr} {n : Nat} {xs : List S37} (h : Kd.C k37 w A n xs) (i : Int) (h0 : 0 ≤ i) (h1 : i < n) : ∃ ad A1 c1, A = some ad ∧ w.cell? (ad.add (i.toNat * 5)) = some (.int .i64 (rd_T37 xs i).f0.f0) ∧ w.cell? ⟨(ad.add (i.toNat * 5)).block, (ad.add (i.toNat * 5)).off + 1, none⟩ = some (.slice A1 (rd_T37 xs i).f0.f1.length c1) ∧ w.cell? ⟨(ad.add (i.toNat * 5)).block, (ad.add (i.toNat * 5)).off + 2, none⟩ = some (.int .i64 (rd_T37 xs i).f1) ∧ w.cell? ⟨(ad.add (i.toNat * 5)).block, (ad.add (i.toNat * 5)).off + 3, none⟩ = some (.int .i64 (rd_T37 xs i).f2) ∧ w.cell? ⟨(ad.add (i.toNat * 5)).block, (ad.add (i.toNat * 5)).off + 4, none⟩ = some (.int .i64 (rd_T37 xs i).f3) ∧ (rd_T37 xs i).f0.f1.length ≤ c1 ∧ k33.C w A1 (rd_T37 xs i).f0.f1.length (rd_T37 xs i).f0.f1 := by
 obtain ⟨ad, c, e, _, hK, hc0⟩ := Kd.C_get h z37 i h0 h1
 have hc : ∀ j u, c[j]? = some u → w.cell? (ad.add (i.toNat * 5 + j)) = some u := hc0
 obtain ⟨A1, c1, rfl, l1, g1⟩ := k37_open hK
 exact ⟨ad, A1, c1, e, hc 0 _ rfl, (by rw [← add_field _ _ 1 (by omega)]; exact hc 1 _ rfl), (by rw [← add_field _ _ 2 (by omega)]; exact hc 2 _ rfl), (by rw [← add_field _ _ 3 (by omega)]; exact hc 3 _ rfl), (by rw [← add_field _ _ 4 (by omega)]; exact hc 4 _ rfl), l1, g1⟩

/-! #### struct type 41 -/
structure S41 where
 f0 : S24
 f1 : (List Int)
 f2 : Int
 f3 : (List Int)
def z41 : S41 := ⟨z24, ([] : List Int), (0 : Int), ([] : List Int)⟩
def k41 : Kd S41 := Kd.iso (Kd.pair k24 (Kd.pair (Kd.slice 3 (Kd.int .i64)) (Kd.pair (Kd.int .i64) (Kd.slice 3 (Kd.int .i64))))) (fun x : S41 => (x.f0, x.f1, x.f2, x.f3))
theorem k41_heap : Kd.Heap k41 := Kd.heap_iso _ (Kd.heap_pair k24_heap (Kd.heap_pair (Kd.heap_slice 3 (Kd.heap_int .i64)) (Kd.heap_pair (Kd.heap_int .i64) (Kd.heap_slice 3 (Kd.heap_int .i64)))))
theorem k41_open {w : World} {x : S41} {cs : List Value} (h : k41.K w x cs) : ∃ A1 c1 A2 c2 A4 c4, cs = [.int .i64 x.f0.f0, .slice A1 x.f0.f1.length c1, .slice A2 x.f1.length c2, .int .i64 x.f2, .slice A4 x.f3.length c4] ∧ x.f0.f1.length ≤ c1 ∧ k33.C w A1 x.f0.f1.length x.f0.f1 ∧ x.f1.length ≤ c2 ∧ (Kd.int .i64).C w A2 x.f1.length x.f1 ∧ x.f3.length ≤ c4 ∧ (Kd.int .i64).C w A4 x.f3.length x.f3 := by
 obtain ⟨_, _, rfl, s0, ⟨_, _, rfl, ⟨A2, c2, rfl, l2, g2⟩, ⟨_, _, rfl, rfl, ⟨A4, c4, rfl, l4, g4⟩⟩⟩⟩ := h
 obtain ⟨A1, c1, rfl, l1, g1⟩ := k24_open s0
 exact ⟨A1, c1, A2, c2, A4, c4, rfl, l1, g1, l2, g2, l4, g4⟩
theorem k41_openM {w : World} {base : Nat} {ok : Nat → Prop} {x : S41} {cs : List Value} (h : k41.M w base ok x cs) : ∃ v1 v2 v4, cs = [.int .i64 x.f0.f0, v1, v2, .int .i64 x.f2, v4] ∧ k33.R 33 w base ok v1 x.f0.f1 ∧ (Kd.int .i64).R 3 w base ok v2 x.f1 ∧ (Kd.int .i64).R 3 w base ok v4 x.f3 := by
 obtain ⟨_, _, rfl, s0, ⟨_, _, rfl, ⟨v2, rfl, g2⟩, ⟨_, _, rfl, rfl, ⟨v4, rfl, g4⟩⟩⟩⟩ := h
 obtain ⟨v1, rfl, g1⟩ := k24_openM s0
 exact ⟨v1, v2, v4, rfl, g1, g2, g4⟩
theorem k41_mk (w : World) (x : S41) {A1 : Option Addr} {c1 : Nat} (l1 : x.f0.f1.length ≤ c1) (g1 : k33.C w A1 x.f0.f1.length x.f0.f1) {A2 : Option Addr} {c2 : Nat} (l2 : x.f1.length ≤ c2) (g2 : (Kd.int .i64).C w A2 x.f1.length x.f1) {A4 : Option Addr} {c4 : Nat} (l4 : x.f3.length ≤ c4) (g4 : (Kd.int .i64).C w A4 x.f3.length x.f3) : k41.K w x [.int .i64 x.f0.f0, .slice A1 x.f0.f1.length c1, .slice A2 x.f1.length c2, .int .i64 x.f2, .slice A4 x.f3.length c4] := ⟨[.int .i64 x.f0.f0, .slice A1 x.f0.f1.length c1], [.slice A2 x.f1.length c2, .int .i64 x.f2, .slice A4 x.f3.length c4], rfl, (k24_mk w x.f0 l1 g1), ⟨[.slice A2 x.f1.length c2], [.int .i64 x.f2, .slice A4 x.f3.length c4], rfl, ⟨A2, c2, rfl, l2, g2⟩, ⟨[.int .i64 x.f2], [.slice A4 x.f3.length c4], rfl, rfl, ⟨A4, c4, rfl, l4, g4⟩⟩⟩⟩
theorem k41_mkM (w : World) (base : Nat) (ok : Nat → Prop) (x : S41) {v1 : Value} (g1 : k33.R 33 w base ok v1 x.f0.f1) {v2 : Value} (g2 : (Kd.int .i64).R 3 w base ok v2 x.f1) {v4 : Value} (g4 : (Kd.int .i64).R 3 w base ok v4 x.f3) : k41.M w base ok x [.int .i64 x.f0.f0, v1, v2, .int .i64 x.f2, v4] := ⟨[.int .i64 x.f0.f0, v1], [v2, .int .i64 x.f2, v4], rfl, (k24_mkM w base ok x.f0 g1), ⟨[v2], [.int .i64 x.f2, v4], rfl, ⟨v2, rfl, g2⟩, ⟨[.int .i64 x.f2], [v4], rfl, rfl, ⟨v4, rfl, g4⟩⟩⟩⟩
def rd_T41 (xs : List S41) (i : Int) : S41 := xs.getD i.toNat z41
theorem at_T41 {w : World} {A : Option Addr} {n : Nat} {xs : List S41} (h : Kd.C k41 w A n xs) (i : Int) (h0 : 0 ≤ i) (h1 : i < n) : ∃ ad A1 c1 A2 c2 A4 c4, A = some ad ∧ w.cell? (ad.add (i.toNat * 5)) = some (.int .i64 (rd_T41 xs i).f0.f0) ∧ w.cell? ⟨(ad.add (i.toNat * 5)).block, (ad.add (i.toNat * 5)).off + 1, none⟩ = some (.slice A1 (rd_T41 xs i).f0.f1.length c1) ∧ w.cell? ⟨(ad.add (i.toNat * 5)).block, (ad.add (i.toNat * 5)).off + 2, none⟩ = some (.slice A2 (rd_T41 xs i).f1.length c2) ∧ w.cell? ⟨(ad.add (i.toNat * 5)).block, (ad.add (i.toNat * 5)).off + 3, none⟩ = some (.int .i64 (rd_T41 xs i).f2) ∧ w.cell? ⟨(ad.add (i.toNat * 5)).block, (ad.add (i.toNat * 5)).off + 4, none⟩ = some (.slice A4 (rd_T41 xs i).f3.length c4) ∧ (rd_T41 xs i).f0.f1.length ≤ c1 ∧ k33.C w A1 (rd_T41 xs i).f0.f1.length (rd_T41 xs i).f0.f1 ∧ (rd_T41 xs i).f1.length ≤ c2 ∧ (Kd.int .i64).C w A2 (rd_T41 xs i).f1.length (rd_T41 xs i).f1 ∧ (rd_T41 xs i).f3.length ≤ c4 ∧ (Kd.int .i64).C w A4 (rd_T41 xs i).f3.length (rd_T41 xs i).f3 := by
 obtain ⟨ad, c, e, _, hK, hc0⟩ := Kd.C_get h z41 i h0 h1
 have hc : ∀ j u, c[j]? = some u → w.cell? (ad.add (i.toNat * 5 + j)) = some u := hc0
 obtain ⟨A1, c1, A2, c2, A4, c4, rfl, l1, g1, l2, g2, l4, g4⟩ := k41_open hK
 exact ⟨ad, A1, c1, A2, c2, A4, c4, e, hc 0 _ rfl, (by rw [← add_field _ _ 1 (by omega)]; exact hc 1 _ rfl), (by rw [← add_field _ _ 2 (by omega)]; exact hc 2 _ rfl), (by rw [← add_field _ _ 3 (by omega)]; exact hc 3 _ rfl), (by rw [← add_field _ _ 4 (by omega)]; exact hc 4 _ rfl), l1, g1, l2, g2, l4, g4⟩

/-! #### struct type 51 -/
structure S51 where
 f0 : S24
 f1 : Int
 f2 : (List Int)
 f3 : Int
def z51 : S51 := ⟨z24, (0 : Int), ([] : List Int), (0 : Int)⟩
def k51 : Kd S51 := Kd.iso (Kd.pair k24 (Kd.pair (Kd.int .i64) (Kd.pair (Kd.slice 3 (Kd.int .i64)) (Kd.int .i64)))) (fun x : S51 => (x.f0, x.f1, x.f2, x.f3))
theorem k51_heap : Kd.Heap k51 := Kd.heap_iso _ (Kd.heap_pair k24_heap (Kd.heap_pair (Kd.heap_int .i64) (Kd.heap_pair (Kd.heap_slice 3 (Kd.heap_int .i64)) (Kd.heap_int .i64))))
theorem k51_open {w : World} {x : S51} {cs : List Value} (h : k51.K w x cs) : ∃ A1 c1 A3 c3, cs = [.int .i64 x.f0.f0, .slice A1 x.f0.f1.length c1, .int .i64 x.f1, .slice A3 x.f2.length c3, .int .i64 x.f3] ∧ x.f0.f1.length ≤ c1 ∧ k33.C w A1 x.f0.f1.length x.f0.f1 ∧ x.f2.length ≤ c3 ∧ (Kd.int .i64).C w A3 x.f2.length x.f2 := by
 obtain ⟨_, _, rfl, s0, ⟨_, _, rfl, rfl, ⟨_, _, rfl, ⟨A3, c3, rfl, l3, g3⟩, rfl⟩⟩⟩ := h
 obtain ⟨A1, c1, rfl, l1, g1⟩ := k24_open s0
 exact ⟨A1, c1, A3, c3, rfl, l1, g1, l3, g3⟩
theorem k51_openM {w : World} {base : Nat} {ok : Nat → Prop} {x : S51} {cs : List Value} (h : k51.M w base ok x cs) : ∃ v1 v3, cs = [.int .i64 x.f0.f0, v1, .int .i64 x.f1, v3, .int .i64 x.f3] ∧ k33.R 33 w base ok v1 x.f0.f1 ∧ (Kd.int .i64).R 3 w base ok v3 x.f2 := by
 obtain ⟨_, _, rfl, s0, ⟨_, _, rfl, rfl, ⟨_, _, rfl, ⟨v3, rfl, g3⟩, rfl⟩⟩⟩ := h
 obtain ⟨v1, rfl, g1⟩ := k24_openM s0
 exact ⟨v1, v3, rfl, g1, g3⟩
theorem k51_mk (w : World) (x : S51) {A1 : Option Addr} {c1 : Nat} (l1 : x.f0.f1.length ≤ c1) (g1 : k33.C w A1 x.f0.f1.length x.f0.f1) {A3 : Option Addr} {c3 : Nat} (l3 : x.f2.length ≤ c3) (g3 : (Kd.int .i64).C w A3 x.f2.length x.f2) : k51.K w x [.int .i64 x.f0.f0, .slice A1 x.f0.f1.length c1, .int .i64 x.f1, .slice A3 x.f2.length c3, .int .i64 x.f3] := ⟨[.int .i64 x.f0.f0, .slice A1 x.f0.f1.length c1], [.int .i64 x.f1, .slice A3 x.f2.length c3, .int .i64 x.f3], rfl, (k24_mk w x.f0 l1 g1), ⟨[.int .i64 x.f1], [.slice A3 x.f2.length c3, .int .i64 x.f3], rfl, rfl, ⟨[.slice A3 x.f2.length c3], [.int .i64 x.f3], rfl, ⟨A3, c3, rfl, l3, g3⟩, rfl⟩⟩⟩
theorem k51_mkM (w : World) (base : Nat) (ok : Nat → Prop) (x : S51) {v1 : Value} (g1 : k33.R 33 w base ok v1 x.f0.f1) {v3 : Value} (g3 : (Kd.int .i64).R 3 w base ok v3 x.f2) : k51.M w base ok x [.int .i64 x.f0.f0, v1, .int .i64 x.f1, v3, .int .i64 x.f3] := ⟨[.int .i64 x.f0.f0, v1], [.int .i64 x.f1, v3, .int .i64 x.f3], rfl, (k24_mkM w base ok x.f0 g1), ⟨[.int .i64 x.f1], [v3, .int .i64 x.f3], rfl, rfl, ⟨[v3], [.int .i64 x.f3], rfl, ⟨v3, rfl, g3⟩, rfl⟩⟩⟩
def rd_T51 (xs : List S51) (i : Int) : S51 := xs.getD i.toNat z51
theorem at_T51 {w : World} {A : Option Addr} {n : Nat} {xs : List S51} (h : Kd.C k51 w A n xs) (i : Int) (h0 : 0 ≤ i) (h1 : i < n) : ∃ ad A1 c1 A3 c3, A = some ad ∧ w.cell? (ad.add (i.toNat * 5)) = some (.int .i64 (rd_T51 xs i).f0.f0) ∧ w.cell? ⟨(ad.add (i.toNat * 5)).block, (ad.add (i.toNat * 5)).off + 1, none⟩ = some (.slice A1 (rd_T51 xs i).f0.f1.length c1) ∧ w.cell? ⟨(ad.add (i.toNat * 5)).block, (ad.add (i.toNat * 5)).off + 2, none⟩ = some (.int .i64 (rd_T51 xs i).f1) ∧ w.cell? ⟨(ad.add (i.toNat * 5)).block, (ad.add (i.toNat * 5)).off + 3, none⟩ = some (.slice A3 (rd_T51 xs i).f2.length c3) ∧ w.cell? ⟨(ad.add (i.toNat * 5)).block, (ad.add (i.toNat * 5)).off + 4, none⟩ = some (.int .i64 (rd_T51 xs i).f3) ∧ (rd_T51 xs i).f0.f1.length ≤ c1 ∧ k33.C w A1 (rd_T51 xs i).f0.f1.length (rd_T51 xs i).f0.f1 ∧ (rd_T51 xs i).f2.length ≤ c3 ∧ (Kd.int .i64).C w A3 (rd_T51 xs i).f2.length (rd_T51 xs i).f2 := by
 obtain ⟨ad, c, e, _, hK, hc0⟩ := Kd.C_get h z51 i h0 h1
 have hc : ∀ j u, c[j]? = some u → w.cell? (ad.add (i.toNat * 5 + j)) = some u := hc0
 obtain ⟨A1, c1, A3, c3, rfl, l1, g1, l3, g3⟩ := k51_open hK
 exact ⟨ad, A1, c1, A3, c3, e, hc 0 _ rfl, (by rw [← add_field _ _ 1 (by omega)]; exact hc 1 _ rfl), (by rw [← add_field _ _ 2 (by omega)]; exact hc 2 _ rfl), (by rw [← add_field _ _ 3 (by omega)]; exact hc 3 _ rfl), (by rw [← add_field _ _ 4 (by omega)]; exact hc 4 _ rfl), l1, g1, l3, g3⟩

end Go.Proofs.Ytkcphjdjhlikhaa.P

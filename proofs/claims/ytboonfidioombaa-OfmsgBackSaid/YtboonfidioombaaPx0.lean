/- For each Go function a Lean function, and the proof that a call comes to what it tells: made by program out of the translation (the kit's print, with texts by hand put in). No condition. -/
import Derived.Test.YtboonfidioombaaSq
import Derived.Test.YtboonfidioombaaProg
import Derived.Below
import Derived.Deep.Draws
import Derived.Deep.AppendLies
import Derived.Maps.AppendAt
import Derived.OwnWalk
import Derived.Laws.BytesArg
import Derived.Laws.MakeOwn
import Derived.Laws.OwnMore
import Derived.Deep.OwnRows
import Derived.Tactics
import Derived.Lib.ConvBytes
import Derived.Laws.Slices
import Derived.WalkKit
import Derived.KernelRfl
import Derived.RowKit3
import Derived.Deep.LoopGhost
import Derived.Deep.QuietTactic
import Derived.BigQuiet
import Derived.WideLaws
import Derived.Deep.DeepCutAuto
import Derived.Deep.CutBlock
import Derived.Deep.RegionHeld3
import Derived.Laws.Rows
import Derived.Lib.AppendStr
import Derived.ArgAppend
import Derived.Laws.IdiomCopy
import Derived.OrdersHeld
import Derived.Laws.BitsLemmas
import Derived.RowKit
import Derived.Test.YtboonfidioombaaHRows
import Derived.Test.YtboonfidioombaaV0
import Derived.Test.YtboonfidioombaaV1
namespace Go.Proofs.Ytboonfidioombaa.P
open Go.RowKit Go.Proofs.Ytboonfidioombaa.HRows Go.Proofs.YtboonfidioombaaW.PrintWords Go.Proofs.YtboonfidioombaaW.PrintLast Go.Proofs.YtboonfidioombaaW.PrintMore
attribute [local go_sem] max2_int min2_int max_two min_two max_three min_three max_four min_four
set_option linter.unusedVariables false
set_option linter.unusedSimpArgs false
def errW : Option Int → Value
 | none => .nilIface
 | some c => .iface 0 (.int .i64 c)
theorem errW_none : errW none = .nilIface := rfl
theorem errW_some (c : Int) : errW (some c) = .iface 0 (.int .i64 c) := rfl
theorem info5 : (Try.prog.info? 5).map (fun i => (i.zero, i.size, i.bytes)) = some (some (.int .u8 0), 1, 1) := by kernel_rfl
theorem info27 : (Try.prog.info? 27).map (fun i => (i.zero, i.size, i.bytes)) = some (some (.slice none 0 0), 1, 24) := by kernel_rfl
theorem info29 : (Try.prog.info? 29).map (fun i => (i.zero, i.size, i.bytes)) = some (some (.agg #[(.int .u8 0), (.int .u32 0), (.int .u32 0), (.int .u32 0), (.int .u32 0), (.int .i64 0), (.int .u32 0), (.slice none 0 0), (.int .i64 0), (.bool false), (.slice none 0 0)]), 11, 104) := by kernel_rfl
theorem info59 : (Try.prog.info? 59).map (fun i => (i.zero, i.size, i.bytes)) = some (some (.agg #[(.int .i64 0), (.bool false)]), 2, 16) := by kernel_rfl
-- the values' own types
structure S59 where
 f0 : Int
 f1 : Bool
def z59 : S59 := ⟨(0 : Int), false⟩
def k59 : Kd S59 := Kd.iso (Kd.pair (Kd.int .i64) Kd.bool) (fun x : S59 => (x.f0, x.f1))
theorem k59_heap : Kd.Heap k59 := Kd.heap_iso _ (Kd.heap_pair (Kd.heap_int .i64) Kd.heap_bool)
theorem k59_open {w : World} {x : S59} {cs : List Value} (h : k59.K w x cs) : cs = [.int .i64 x.f0, .bool x.f1] := by
 obtain ⟨_, _, rfl, rfl, rfl⟩ := h
 exact rfl
theorem k59_openM {w : World} {base : Nat} {ok : Nat → Prop} {x : S59} {cs : List Value} (h : k59.M w base ok x cs) : cs = [.int .i64 x.f0, .bool x.f1] := by
 obtain ⟨_, _, rfl, rfl, rfl⟩ := h
 exact rfl
theorem k59_mk (w : World) (x : S59)  : k59.K w x [.int .i64 x.f0, .bool x.f1] := ⟨[.int .i64 x.f0], [.bool x.f1], rfl, rfl, rfl⟩
theorem k59_mkM (w : World) (base : Nat) (ok : Nat → Prop) (x : S59)  : k59.M w base ok x [.int .i64 x.f0, .bool x.f1] := ⟨[.int .i64 x.f0], [.bool x.f1], rfl, rfl, rfl⟩
theorem k59_mkF (W : World) (ok : Nat → Prop) (x : S59) : Kd.FK k59 W ok x [.int .i64 x.f0, .bool x.f1] := fun W2 _ => k59_mk W2 x
def rd_T59 (xs : List S59) (i : Int) : S59 := xs.getD i.toNat z59
theorem at_T59 {w : World} {A : Option Addr} {n : Nat} {xs : List S59} (h : Kd.C k59 w A n xs) (i : Int) (h0 : 0 ≤ i) (h1 : i < n) : ∃ ad , A = some ad ∧ w.cell? (ad.add (i.toNat * 2)) = some (.int .i64 (rd_T59 xs i).f0) ∧ w.cell? ⟨(ad.add (i.toNat * 2)).block, (ad.add (i.toNat * 2)).off + 1, none⟩ = some (.bool (rd_T59 xs i).f1) := by
 obtain ⟨ad, c, e, _, hK, hc0⟩ := Kd.C_get h z59 i h0 h1
 have hc : ∀ j u, c[j]? = some u → w.cell? (ad.add (i.toNat * 2 + j)) = some u := hc0
 obtain rfl := k59_open hK
 exact ⟨ad, e, hc 0 _ rfl, (by rw [← add_field _ _ 1 (by omega)]; exact hc 1 _ rfl)⟩
def rd_L5 (xs : List (List S59)) (i : Int) : (List S59) := xs.getD i.toNat ([] : List S59)
theorem at_L5 {w : World} {A : Option Addr} {n : Nat} {xs : List (List S59)} (h : Kd.C (Kd.slice 59 k59) w A n xs) (i : Int) (h0 : 0 ≤ i) (h1 : i < n) : ∃ ad A0 c0, A = some ad ∧ w.cell? (ad.add i.toNat) = some (.slice A0 (rd_L5 xs i).length c0) ∧ (rd_L5 xs i).length ≤ c0 ∧ k59.C w A0 (rd_L5 xs i).length (rd_L5 xs i) := by
 obtain ⟨ad, c, e, _, hK, hc0⟩ := Kd.C_get h ([] : List S59) i h0 h1
 have hc : ∀ j u, c[j]? = some u → w.cell? (ad.add (i.toNat * 1 + j)) = some u := hc0
 obtain ⟨A0, c0, rfl, l0, g0⟩ := hK
 exact ⟨ad, A0, c0, e, (by have hq := hc 0 _ rfl; rwa [Nat.mul_one, Nat.add_zero] at hq), l0, g0⟩
structure S26 where
 f0 : Int
 f1 : Int
 f2 : Int
 f3 : Int
 f4 : Int
 f5 : (List S59)
def z26 : S26 := ⟨(0 : Int), (0 : Int), (0 : Int), (0 : Int), (0 : Int), ([] : List S59)⟩
def k26 : Kd S26 := Kd.iso (Kd.pair (Kd.int .u32) (Kd.pair (Kd.int .u32) (Kd.pair (Kd.int .u32) (Kd.pair (Kd.int .i64) (Kd.pair (Kd.int .u32) (Kd.slice 59 k59)))))) (fun x : S26 => (x.f0, x.f1, x.f2, x.f3, x.f4, x.f5))
theorem k26_heap : Kd.Heap k26 := Kd.heap_iso _ (Kd.heap_pair (Kd.heap_int .u32) (Kd.heap_pair (Kd.heap_int .u32) (Kd.heap_pair (Kd.heap_int .u32) (Kd.heap_pair (Kd.heap_int .i64) (Kd.heap_pair (Kd.heap_int .u32) (Kd.heap_slice 59 k59_heap))))))
theorem k26_open {w : World} {x : S26} {cs : List Value} (h : k26.K w x cs) : ∃ A5 c5, cs = [.int .u32 x.f0, .int .u32 x.f1, .int .u32 x.f2, .int .i64 x.f3, .int .u32 x.f4, .slice A5 x.f5.length c5] ∧ x.f5.length ≤ c5 ∧ k59.C w A5 x.f5.length x.f5 := by
 obtain ⟨_, _, rfl, rfl, ⟨_, _, rfl, rfl, ⟨_, _, rfl, rfl, ⟨_, _, rfl, rfl, ⟨_, _, rfl, rfl, ⟨A5, c5, rfl, l5, g5⟩⟩⟩⟩⟩⟩ := h
 exact ⟨A5, c5, rfl, l5, g5⟩
theorem k26_openM {w : World} {base : Nat} {ok : Nat → Prop} {x : S26} {cs : List Value} (h : k26.M w base ok x cs) : ∃ v5, cs = [.int .u32 x.f0, .int .u32 x.f1, .int .u32 x.f2, .int .i64 x.f3, .int .u32 x.f4, v5] ∧ k59.R 59 w base ok v5 x.f5 := by
 obtain ⟨_, _, rfl, rfl, ⟨_, _, rfl, rfl, ⟨_, _, rfl, rfl, ⟨_, _, rfl, rfl, ⟨_, _, rfl, rfl, ⟨v5, rfl, g5⟩⟩⟩⟩⟩⟩ := h
 exact ⟨v5, rfl, g5⟩
theorem k26_mk (w : World) (x : S26) {A5 : Option Addr} {c5 : Nat} (l5 : x.f5.length ≤ c5) (g5 : k59.C w A5 x.f5.length x.f5) : k26.K w x [.int .u32 x.f0, .int .u32 x.f1, .int .u32 x.f2, .int .i64 x.f3, .int .u32 x.f4, .slice A5 x.f5.length c5] := ⟨[.int .u32 x.f0], [.int .u32 x.f1, .int .u32 x.f2, .int .i64 x.f3, .int .u32 x.f4, .slice A5 x.f5.length c5], rfl, rfl, ⟨[.int .u32 x.f1], [.int .u32 x.f2, .int .i64 x.f3, .int .u32 x.f4, .slice A5 x.f5.length c5], rfl, rfl, ⟨[.int .u32 x.f2], [.int .i64 x.f3, .int .u32 x.f4, .slice A5 x.f5.length c5], rfl, rfl, ⟨[.int .i64 x.f3], [.int .u32 x.f4, .slice A5 x.f5.length c5], rfl, rfl, ⟨[.int .u32 x.f4], [.slice A5 x.f5.length c5], rfl, rfl, ⟨A5, c5, rfl, l5, g5⟩⟩⟩⟩⟩⟩
theorem k26_mkM (w : World) (base : Nat) (ok : Nat → Prop) (x : S26) {v5 : Value} (g5 : k59.R 59 w base ok v5 x.f5) : k26.M w base ok x [.int .u32 x.f0, .int .u32 x.f1, .int .u32 x.f2, .int .i64 x.f3, .int .u32 x.f4, v5] := ⟨[.int .u32 x.f0], [.int .u32 x.f1, .int .u32 x.f2, .int .i64 x.f3, .int .u32 x.f4, v5], rfl, rfl, ⟨[.int .u32 x.f1], [.int .u32 x.f2, .int .i64 x.f3, .int .u32 x.f4, v5], rfl, rfl, ⟨[.int .u32 x.f2], [.int .i64 x.f3, .int .u32 x.f4, v5], rfl, rfl, ⟨[.int .i64 x.f3], [.int .u32 x.f4, v5], rfl, rfl, ⟨[.int .u32 x.f4], [v5], rfl, rfl, ⟨v5, rfl, g5⟩⟩⟩⟩⟩⟩
theorem k26_openF {W : World} {ok : Nat → Prop} {x : S26} {cs : List Value} (h : Kd.FK k26 W ok x cs) : ∃ A5 c5, cs = [.int .u32 x.f0, .int .u32 x.f1, .int .u32 x.f2, .int .i64 x.f3, .int .u32 x.f4, .slice A5 x.f5.length c5] ∧ x.f5.length ≤ c5 ∧ Kd.F k59 W ok A5 x.f5.length x.f5 := by
 obtain ⟨A5, c5, rfl, l5, _⟩ := k26_open (Kd.FK_now h)
 exact ⟨A5, c5, rfl, l5, (fun W' hW => by obtain ⟨A5_, c5_, he, l5_, g5_⟩ := k26_open (h W' hW); injection (Option.some.inj (show some (Value.slice A5 x.f5.length c5) = some (Value.slice A5_ x.f5.length c5_) from congrArg (fun l => l[5]?) he)) with ha_ _ _; rw [ha_]; exact g5_)⟩
theorem k26_mkF (W : World) (ok : Nat → Prop) (x : S26) {A5 : Option Addr} {c5 : Nat} (l5 : x.f5.length ≤ c5) (g5 : Kd.F k59 W ok A5 x.f5.length x.f5) : Kd.FK k26 W ok x [.int .u32 x.f0, .int .u32 x.f1, .int .u32 x.f2, .int .i64 x.f3, .int .u32 x.f4, .slice A5 x.f5.length c5] := fun W2 hW => k26_mk W2 x l5 (g5 W2 hW)
def rd_T26 (xs : List S26) (i : Int) : S26 := xs.getD i.toNat z26
theorem at_T26 {w : World} {A : Option Addr} {n : Nat} {xs : List S26} (h : Kd.C k26 w A n xs) (i : Int) (h0 : 0 ≤ i) (h1 : i < n) : ∃ ad A5 c5, A = some ad ∧ w.cell? (ad.add (i.toNat * 6)) = some (.int .u32 (rd_T26 xs i).f0) ∧ w.cell? ⟨(ad.add (i.toNat * 6)).block, (ad.add (i.toNat * 6)).off + 1, none⟩ = some (.int .u32 (rd_T26 xs i).f1) ∧ w.cell? ⟨(ad.add (i.toNat * 6)).block, (ad.add (i.toNat * 6)).off + 2, none⟩ = some (.int .u32 (rd_T26 xs i).f2) ∧ w.cell? ⟨(ad.add (i.toNat * 6)).block, (ad.add (i.toNat * 6)).off + 3, none⟩ = some (.int .i64 (rd_T26 xs i).f3) ∧ w.cell? ⟨(ad.add (i.toNat * 6)).block, (ad.add (i.toNat * 6)).off + 4, none⟩ = some (.int .u32 (rd_T26 xs i).f4) ∧ w.cell? ⟨(ad.add (i.toNat * 6)).block, (ad.add (i.toNat * 6)).off + 5, none⟩ = some (.slice A5 (rd_T26 xs i).f5.length c5) ∧ (rd_T26 xs i).f5.length ≤ c5 ∧ k59.C w A5 (rd_T26 xs i).f5.length (rd_T26 xs i).f5 := by
 obtain ⟨ad, c, e, _, hK, hc0⟩ := Kd.C_get h z26 i h0 h1
 have hc : ∀ j u, c[j]? = some u → w.cell? (ad.add (i.toNat * 6 + j)) = some u := hc0
 obtain ⟨A5, c5, rfl, l5, g5⟩ := k26_open hK
 exact ⟨ad, A5, c5, e, hc 0 _ rfl, (by rw [← add_field _ _ 1 (by omega)]; exact hc 1 _ rfl), (by rw [← add_field _ _ 2 (by omega)]; exact hc 2 _ rfl), (by rw [← add_field _ _ 3 (by omega)]; exact hc 3 _ rfl), (by rw [← add_field _ _ 4 (by omega)]; exact hc 4 _ rfl), (by rw [← add_field _ _ 5 (by omega)]; exact hc 5 _ rfl), l5, g5⟩
def rd_L7 (xs : List (List Int)) (i : Int) : (List Int) := xs.getD i.toNat ([] : List Int)
theorem at_L7 {w : World} {A : Option Addr} {n : Nat} {xs : List (List Int)} (h : Kd.C (Kd.slice 5 (Kd.int .u8)) w A n xs) (i : Int) (h0 : 0 ≤ i) (h1 : i < n) : ∃ ad A0 c0, A = some ad ∧ w.cell? (ad.add i.toNat) = some (.slice A0 (rd_L7 xs i).length c0) ∧ (rd_L7 xs i).length ≤ c0 ∧ (Kd.int .u8).C w A0 (rd_L7 xs i).length (rd_L7 xs i) := by
 obtain ⟨ad, c, e, _, hK, hc0⟩ := Kd.C_get h ([] : List Int) i h0 h1
 have hc : ∀ j u, c[j]? = some u → w.cell? (ad.add (i.toNat * 1 + j)) = some u := hc0
 obtain ⟨A0, c0, rfl, l0, g0⟩ := hK
 exact ⟨ad, A0, c0, e, (by have hq := hc 0 _ rfl; rwa [Nat.mul_one, Nat.add_zero] at hq), l0, g0⟩
structure S29 where
 f0 : Int
 f1 : Int
 f2 : S26
 f3 : Int
 f4 : Bool
 f5 : (List Int)
def z29 : S29 := ⟨(0 : Int), (0 : Int), z26, (0 : Int), false, ([] : List Int)⟩
def k29 : Kd S29 := Kd.iso (Kd.pair (Kd.int .u8) (Kd.pair (Kd.int .u32) (Kd.pair k26 (Kd.pair (Kd.int .i64) (Kd.pair Kd.bool (Kd.slice 5 (Kd.int .u8))))))) (fun x : S29 => (x.f0, x.f1, x.f2, x.f3, x.f4, x.f5))
theorem k29_heap : Kd.Heap k29 := Kd.heap_iso _ (Kd.heap_pair (Kd.heap_int .u8) (Kd.heap_pair (Kd.heap_int .u32) (Kd.heap_pair k26_heap (Kd.heap_pair (Kd.heap_int .i64) (Kd.heap_pair Kd.heap_bool (Kd.heap_slice 5 (Kd.heap_int .u8)))))))
theorem k29_open {w : World} {x : S29} {cs : List Value} (h : k29.K w x cs) : ∃ A7 c7 A10 c10, cs = [.int .u8 x.f0, .int .u32 x.f1, .int .u32 x.f2.f0, .int .u32 x.f2.f1, .int .u32 x.f2.f2, .int .i64 x.f2.f3, .int .u32 x.f2.f4, .slice A7 x.f2.f5.length c7, .int .i64 x.f3, .bool x.f4, .slice A10 x.f5.length c10] ∧ x.f2.f5.length ≤ c7 ∧ k59.C w A7 x.f2.f5.length x.f2.f5 ∧ x.f5.length ≤ c10 ∧ (Kd.int .u8).C w A10 x.f5.length x.f5 := by
 obtain ⟨_, _, rfl, rfl, ⟨_, _, rfl, rfl, ⟨_, _, rfl, s2, ⟨_, _, rfl, rfl, ⟨_, _, rfl, rfl, ⟨A10, c10, rfl, l10, g10⟩⟩⟩⟩⟩⟩ := h
 obtain ⟨A7, c7, rfl, l7, g7⟩ := k26_open s2
 exact ⟨A7, c7, A10, c10, rfl, l7, g7, l10, g10⟩
theorem k29_openM {w : World} {base : Nat} {ok : Nat → Prop} {x : S29} {cs : List Value} (h : k29.M w base ok x cs) : ∃ v7 v10, cs = [.int .u8 x.f0, .int .u32 x.f1, .int .u32 x.f2.f0, .int .u32 x.f2.f1, .int .u32 x.f2.f2, .int .i64 x.f2.f3, .int .u32 x.f2.f4, v7, .int .i64 x.f3, .bool x.f4, v10] ∧ k59.R 59 w base ok v7 x.f2.f5 ∧ (Kd.int .u8).R 5 w base ok v10 x.f5 := by
 obtain ⟨_, _, rfl, rfl, ⟨_, _, rfl, rfl, ⟨_, _, rfl, s2, ⟨_, _, rfl, rfl, ⟨_, _, rfl, rfl, ⟨v10, rfl, g10⟩⟩⟩⟩⟩⟩ := h
 obtain ⟨v7, rfl, g7⟩ := k26_openM s2
 exact ⟨v7, v10, rfl, g7, g10⟩
theorem k29_mk (w : World) (x : S29) {A7 : Option Addr} {c7 : Nat} (l7 : x.f2.f5.length ≤ c7) (g7 : k59.C w A7 x.f2.f5.length x.f2.f5) {A10 : Option Addr} {c10 : Nat} (l10 : x.f5.length ≤ c10) (g10 : (Kd.int .u8).C w A10 x.f5.length x.f5) : k29.K w x [.int .u8 x.f0, .int .u32 x.f1, .int .u32 x.f2.f0, .int .u32 x.f2.f1, .int .u32 x.f2.f2, .int .i64 x.f2.f3, .int .u32 x.f2.f4, .slice A7 x.f2.f5.length c7, .int .i64 x.f3, .bool x.f4, .slice A10 x.f5.length c10] := ⟨[.int .u8 x.f0], [.int .u32 x.f1, .int .u32 x.f2.f0, .int .u32 x.f2.f1, .int .u32 x.f2.f2, .int .i64 x.f2.f3, .int .u32 x.f2.f4, .slice A7 x.f2.f5.length c7, .int .i64 x.f3, .bool x.f4, .slice A10 x.f5.length c10], rfl, rfl, ⟨[.int .u32 x.f1], [.int .u32 x.f2.f0, .int .u32 x.f2.f1, .int .u32 x.f2.f2, .int .i64 x.f2.f3, .int .u32 x.f2.f4, .slice A7 x.f2.f5.length c7, .int .i64 x.f3, .bool x.f4, .slice A10 x.f5.length c10], rfl, rfl, ⟨[.int .u32 x.f2.f0, .int .u32 x.f2.f1, .int .u32 x.f2.f2, .int .i64 x.f2.f3, .int .u32 x.f2.f4, .slice A7 x.f2.f5.length c7], [.int .i64 x.f3, .bool x.f4, .slice A10 x.f5.length c10], rfl, (k26_mk w x.f2 l7 g7), ⟨[.int .i64 x.f3], [.bool x.f4, .slice A10 x.f5.length c10], rfl, rfl, ⟨[.bool x.f4], [.slice A10 x.f5.length c10], rfl, rfl, ⟨A10, c10, rfl, l10, g10⟩⟩⟩⟩⟩⟩
theorem k29_mkM (w : World) (base : Nat) (ok : Nat → Prop) (x : S29) {v7 : Value} (g7 : k59.R 59 w base ok v7 x.f2.f5) {v10 : Value} (g10 : (Kd.int .u8).R 5 w base ok v10 x.f5) : k29.M w base ok x [.int .u8 x.f0, .int .u32 x.f1, .int .u32 x.f2.f0, .int .u32 x.f2.f1, .int .u32 x.f2.f2, .int .i64 x.f2.f3, .int .u32 x.f2.f4, v7, .int .i64 x.f3, .bool x.f4, v10] := ⟨[.int .u8 x.f0], [.int .u32 x.f1, .int .u32 x.f2.f0, .int .u32 x.f2.f1, .int .u32 x.f2.f2, .int .i64 x.f2.f3, .int .u32 x.f2.f4, v7, .int .i64 x.f3, .bool x.f4, v10], rfl, rfl, ⟨[.int .u32 x.f1], [.int .u32 x.f2.f0, .int .u32 x.f2.f1, .int .u32 x.f2.f2, .int .i64 x.f2.f3, .int .u32 x.f2.f4, v7, .int .i64 x.f3, .bool x.f4, v10], rfl, rfl, ⟨[.int .u32 x.f2.f0, .int .u32 x.f2.f1, .int .u32 x.f2.f2, .int .i64 x.f2.f3, .int .u32 x.f2.f4, v7], [.int .i64 x.f3, .bool x.f4, v10], rfl, (k26_mkM w base ok x.f2 g7), ⟨[.int .i64 x.f3], [.bool x.f4, v10], rfl, rfl, ⟨[.bool x.f4], [v10], rfl, rfl, ⟨v10, rfl, g10⟩⟩⟩⟩⟩⟩
theorem k29_openF {W : World} {ok : Nat → Prop} {x : S29} {cs : List Value} (h : Kd.FK k29 W ok x cs) : ∃ A7 c7 A10 c10, cs = [.int .u8 x.f0, .int .u32 x.f1, .int .u32 x.f2.f0, .int .u32 x.f2.f1, .int .u32 x.f2.f2, .int .i64 x.f2.f3, .int .u32 x.f2.f4, .slice A7 x.f2.f5.length c7, .int .i64 x.f3, .bool x.f4, .slice A10 x.f5.length c10] ∧ x.f2.f5.length ≤ c7 ∧ Kd.F k59 W ok A7 x.f2.f5.length x.f2.f5 ∧ x.f5.length ≤ c10 ∧ Kd.F (Kd.int .u8) W ok A10 x.f5.length x.f5 := by
 obtain ⟨A7, c7, A10, c10, rfl, l7, _, l10, _⟩ := k29_open (Kd.FK_now h)
 exact ⟨A7, c7, A10, c10, rfl, l7, (fun W' hW => by obtain ⟨A7_, c7_, A10_, c10_, he, l7_, g7_, l10_, g10_⟩ := k29_open (h W' hW); injection (Option.some.inj (show some (Value.slice A7 x.f2.f5.length c7) = some (Value.slice A7_ x.f2.f5.length c7_) from congrArg (fun l => l[7]?) he)) with ha_ _ _; rw [ha_]; exact g7_), l10, (fun W' hW => by obtain ⟨A7_, c7_, A10_, c10_, he, l7_, g7_, l10_, g10_⟩ := k29_open (h W' hW); injection (Option.some.inj (show some (Value.slice A10 x.f5.length c10) = some (Value.slice A10_ x.f5.length c10_) from congrArg (fun l => l[10]?) he)) with ha_ _ _; rw [ha_]; exact g10_)⟩
theorem k29_mkF (W : World) (ok : Nat → Prop) (x : S29) {A7 : Option Addr} {c7 : Nat} (l7 : x.f2.f5.length ≤ c7) (g7 : Kd.F k59 W ok A7 x.f2.f5.length x.f2.f5) {A10 : Option Addr} {c10 : Nat} (l10 : x.f5.length ≤ c10) (g10 : Kd.F (Kd.int .u8) W ok A10 x.f5.length x.f5) : Kd.FK k29 W ok x [.int .u8 x.f0, .int .u32 x.f1, .int .u32 x.f2.f0, .int .u32 x.f2.f1, .int .u32 x.f2.f2, .int .i64 x.f2.f3, .int .u32 x.f2.f4, .slice A7 x.f2.f5.length c7, .int .i64 x.f3, .bool x.f4, .slice A10 x.f5.length c10] := fun W2 hW => k29_mk W2 x l7 (g7 W2 hW) l10 (g10 W2 hW)
def rd_T29 (xs : List S29) (i : Int) : S29 := xs.getD i.toNat z29
theorem at_T29 {w : World} {A : Option Addr} {n : Nat} {xs : List S29} (h : Kd.C k29 w A n xs) (i : Int) (h0 : 0 ≤ i) (h1 : i < n) : ∃ ad A7 c7 A10 c10, A = some ad ∧ w.cell? (ad.add (i.toNat * 11)) = some (.int .u8 (rd_T29 xs i).f0) ∧ w.cell? ⟨(ad.add (i.toNat * 11)).block, (ad.add (i.toNat * 11)).off + 1, none⟩ = some (.int .u32 (rd_T29 xs i).f1) ∧ w.cell? ⟨(ad.add (i.toNat * 11)).block, (ad.add (i.toNat * 11)).off + 2, none⟩ = some (.int .u32 (rd_T29 xs i).f2.f0) ∧ w.cell? ⟨(ad.add (i.toNat * 11)).block, (ad.add (i.toNat * 11)).off + 3, none⟩ = some (.int .u32 (rd_T29 xs i).f2.f1) ∧ w.cell? ⟨(ad.add (i.toNat * 11)).block, (ad.add (i.toNat * 11)).off + 4, none⟩ = some (.int .u32 (rd_T29 xs i).f2.f2) ∧ w.cell? ⟨(ad.add (i.toNat * 11)).block, (ad.add (i.toNat * 11)).off + 5, none⟩ = some (.int .i64 (rd_T29 xs i).f2.f3) ∧ w.cell? ⟨(ad.add (i.toNat * 11)).block, (ad.add (i.toNat * 11)).off + 6, none⟩ = some (.int .u32 (rd_T29 xs i).f2.f4) ∧ w.cell? ⟨(ad.add (i.toNat * 11)).block, (ad.add (i.toNat * 11)).off + 7, none⟩ = some (.slice A7 (rd_T29 xs i).f2.f5.length c7) ∧ w.cell? ⟨(ad.add (i.toNat * 11)).block, (ad.add (i.toNat * 11)).off + 8, none⟩ = some (.int .i64 (rd_T29 xs i).f3) ∧ w.cell? ⟨(ad.add (i.toNat * 11)).block, (ad.add (i.toNat * 11)).off + 9, none⟩ = some (.bool (rd_T29 xs i).f4) ∧ w.cell? ⟨(ad.add (i.toNat * 11)).block, (ad.add (i.toNat * 11)).off + 10, none⟩ = some (.slice A10 (rd_T29 xs i).f5.length c10) ∧ (rd_T29 xs i).f2.f5.length ≤ c7 ∧ k59.C w A7 (rd_T29 xs i).f2.f5.length (rd_T29 xs i).f2.f5 ∧ (rd_T29 xs i).f5.length ≤ c10 ∧ (Kd.int .u8).C w A10 (rd_T29 xs i).f5.length (rd_T29 xs i).f5 := by
 obtain ⟨ad, c, e, _, hK, hc0⟩ := Kd.C_get h z29 i h0 h1
 have hc : ∀ j u, c[j]? = some u → w.cell? (ad.add (i.toNat * 11 + j)) = some u := hc0
 obtain ⟨A7, c7, A10, c10, rfl, l7, g7, l10, g10⟩ := k29_open hK
 exact ⟨ad, A7, c7, A10, c10, e, hc 0 _ rfl, (by rw [← add_field _ _ 1 (by omega)]; exact hc 1 _ rfl), (by rw [← add_field _ _ 2 (by omega)]; exact hc 2 _ rfl), (by rw [← add_field _ _ 3 (by omega)]; exact hc 3 _ rfl), (by rw [← add_field _ _ 4 (by omega)]; exact hc 4 _ rfl), (by rw [← add_field _ _ 5 (by omega)]; exact hc 5 _ rfl), (by rw [← add_field _ _ 6 (by omega)]; exact hc 6 _ rfl), (by rw [← add_field _ _ 7 (by omega)]; exact hc 7 _ rfl), (by rw [← add_field _ _ 8 (by omega)]; exact hc 8 _ rfl), (by rw [← add_field _ _ 9 (by omega)]; exact hc 9 _ rfl), (by rw [← add_field _ _ 10 (by omega)]; exact hc 10 _ rfl), l7, g7, l10, g10⟩
def rd_L9 (xs : List (List (List Int))) (i : Int) : (List (List Int)) := xs.getD i.toNat ([] : List (List Int))
theorem at_L9 {w : World} {A : Option Addr} {n : Nat} {xs : List (List (List Int))} (h : Kd.C (Kd.slice 27 (Kd.slice 5 (Kd.int .u8))) w A n xs) (i : Int) (h0 : 0 ≤ i) (h1 : i < n) : ∃ ad A0 c0, A = some ad ∧ w.cell? (ad.add i.toNat) = some (.slice A0 (rd_L9 xs i).length c0) ∧ (rd_L9 xs i).length ≤ c0 ∧ (Kd.slice 5 (Kd.int .u8)).C w A0 (rd_L9 xs i).length (rd_L9 xs i) := by
 obtain ⟨ad, c, e, _, hK, hc0⟩ := Kd.C_get h ([] : List (List Int)) i h0 h1
 have hc : ∀ j u, c[j]? = some u → w.cell? (ad.add (i.toNat * 1 + j)) = some u := hc0
 obtain ⟨A0, c0, rfl, l0, g0⟩ := hK
 exact ⟨ad, A0, c0, e, (by have hq := hc 0 _ rfl; rwa [Nat.mul_one, Nat.add_zero] at hq), l0, g0⟩
def rd_L10 (xs : List (List S29)) (i : Int) : (List S29) := xs.getD i.toNat ([] : List S29)
theorem at_L10 {w : World} {A : Option Addr} {n : Nat} {xs : List (List S29)} (h : Kd.C (Kd.slice 29 k29) w A n xs) (i : Int) (h0 : 0 ≤ i) (h1 : i < n) : ∃ ad A0 c0, A = some ad ∧ w.cell? (ad.add i.toNat) = some (.slice A0 (rd_L10 xs i).length c0) ∧ (rd_L10 xs i).length ≤ c0 ∧ k29.C w A0 (rd_L10 xs i).length (rd_L10 xs i) := by
 obtain ⟨ad, c, e, _, hK, hc0⟩ := Kd.C_get h ([] : List S29) i h0 h1
 have hc : ∀ j u, c[j]? = some u → w.cell? (ad.add (i.toNat * 1 + j)) = some u := hc0
 obtain ⟨A0, c0, rfl, l0, g0⟩ := hK
 exact ⟨ad, A0, c0, e, (by have hq := hc 0 _ rfl; rwa [Nat.mul_one, Nat.add_zero] at hq), l0, g0⟩
end Go.Proofs.Ytboonfidioombaa.P

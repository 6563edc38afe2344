/- For each Go function a Lean function, and the proof that a call comes to what it tells: made by program out of the translation (the kit's print, with texts by hand put in). No condition. -/
import Derived.Test.YtfomnmdjbdohgaaSq
import Derived.Test.YtfomnmdjbdohgaaProg
import Derived.Below
import Derived.Deep.Draws
import Derived.Deep.AppendLies
import Derived.Maps.AppendAt
import Derived.OwnWalk
import Derived.Laws.BytesArg
import Derived.Laws.MakeOwn
import Derived.Laws.OwnMore
import Derived.Deep.OwnRows
import Derived.Tactics
import Derived.Lib.ConvBytes
import Derived.Laws.Slices
import Derived.WalkKit
import Derived.KernelRfl
import Derived.RowKit3
import Derived.Deep.LoopGhost
import Derived.Deep.QuietTactic
import Derived.BigQuiet
import Derived.WideLaws
import Derived.Deep.DeepCutAuto
import Derived.Deep.CutBlock
import Derived.Deep.RegionHeld3
import Derived.Laws.Rows
import Derived.Lib.AppendStr
import Derived.ArgAppend
import Derived.Laws.IdiomCopy
import Derived.OrdersHeld
import Derived.Laws.BitsLemmas
import Derived.RowKit
import Derived.Test.YtfomnmdjbdohgaaHRows
import Derived.Test.YtfomnmdjbdohgaaESw
import Derived.Test.YtfomnmdjbdohgaaV0
import Derived.Test.YtfomnmdjbdohgaaV1
namespace Go.Proofs.Ytfomnmdjbdohgaa.P
open Go.RowKit Go.Proofs.Ytfomnmdjbdohgaa.HRows Go.Proofs.YtfomnmdjbdohgaaW.PrintWords Go.Proofs.YtfomnmdjbdohgaaW.PrintLast Go.Proofs.YtfomnmdjbdohgaaW.PrintMore
attribute [local go_sem] max2_int min2_int max_two min_two max_three min_three max_four min_four
set_option linter.unusedVariables false
set_option linter.unusedSimpArgs false
def errW : Option Int → Value
 | none => .nilIface
 | some c => .iface 0 (.int .i64 c)
theorem errW_none : errW none = .nilIface := rfl
theorem errW_some (c : Int) : errW (some c) = .iface 0 (.int .i64 c) := rfl
theorem info29 : (Try.prog.info? 29).map (fun i => (i.zero, i.size, i.bytes)) = some (some (.agg #[(.int .u32 0), (.int .u32 0), (.int .u32 0), (.int .i64 0), (.int .u32 0), (.slice none 0 0)]), 6, 56) := by kernel_rfl
theorem info32 : (Try.prog.info? 32).map (fun i => (i.zero, i.size, i.bytes)) = some (some (.agg #[(.int .u8 0), (.int .u32 0), (.int .u32 0), (.int .u32 0), (.int .u32 0), (.int .i64 0), (.int .u32 0), (.slice none 0 0), (.int .i64 0), (.bool false), (.slice none 0 0)]), 11, 104) := by kernel_rfl
-- the values' own types
structure S74 where
 f0 : Int
 f1 : Bool
def z74 : S74 := ⟨(0 : Int), false⟩
def k74 : Kd S74 := Kd.iso (Kd.pair (Kd.int .i64) Kd.bool) (fun x : S74 => (x.f0, x.f1))
theorem k74_heap : Kd.Heap k74 := Kd.heap_iso _ (Kd.heap_pair (Kd.heap_int .i64) Kd.heap_bool)
theorem k74_open {w : World} {x : S74} {cs : List Value} (h : k74.K w x cs) : cs = [.int .i64 x.f0, .bool x.f1] := by
 obtain ⟨_, _, rfl, rfl, rfl⟩ := h
 exact rfl
def rd_T74 (xs : List S74) (i : Int) : S74 := xs.getD i.toNat z74
theorem at_T74 {w : World} {A : Option Addr} {n : Nat} {xs : List S74} (h : Kd.C k74 w A n xs) (i : Int) (h0 : 0 ≤ i) (h1 : i < n) : ∃ ad , A = some ad ∧ w.cell? (ad.add (i.toNat * 2)) = some (.int .i64 (rd_T74 xs i).f0) ∧ w.cell? ⟨(ad.add (i.toNat * 2)).block, (ad.add (i.toNat * 2)).off + 1, none⟩ = some (.bool (rd_T74 xs i).f1) := by
 obtain ⟨ad, c, e, _, hK, hc0⟩ := Kd.C_get h z74 i h0 h1
 have hc : ∀ j u, c[j]? = some u → w.cell? (ad.add (i.toNat * 2 + j)) = some u := hc0
 obtain rfl := k74_open hK
 exact ⟨ad, e, hc 0 _ rfl, (by rw [← add_field _ _ 1 (by omega)]; exact hc 1 _ rfl)⟩
structure S29 where
 f0 : Int
 f1 : Int
 f2 : Int
 f3 : Int
 f4 : Int
 f5 : (List S74)
def z29 : S29 := ⟨(0 : Int), (0 : Int), (0 : Int), (0 : Int), (0 : Int), ([] : List S74)⟩
def k29 : Kd S29 := Kd.iso (Kd.pair (Kd.int .u32) (Kd.pair (Kd.int .u32) (Kd.pair (Kd.int .u32) (Kd.pair (Kd.int .i64) (Kd.pair (Kd.int .u32) (Kd.slice 74 k74)))))) (fun x : S29 => (x.f0, x.f1, x.f2, x.f3, x.f4, x.f5))
theorem k29_heap : Kd.Heap k29 := Kd.heap_iso _ (Kd.heap_pair (Kd.heap_int .u32) (Kd.heap_pair (Kd.heap_int .u32) (Kd.heap_pair (Kd.heap_int .u32) (Kd.heap_pair (Kd.heap_int .i64) (Kd.heap_pair (Kd.heap_int .u32) (Kd.heap_slice 74 k74_heap))))))
theorem k29_open {w : World} {x : S29} {cs : List Value} (h : k29.K w x cs) : ∃ A5 c5, cs = [.int .u32 x.f0, .int .u32 x.f1, .int .u32 x.f2, .int .i64 x.f3, .int .u32 x.f4, .slice A5 x.f5.length c5] ∧ x.f5.length ≤ c5 ∧ k74.C w A5 x.f5.length x.f5 := by
 obtain ⟨_, _, rfl, rfl, ⟨_, _, rfl, rfl, ⟨_, _, rfl, rfl, ⟨_, _, rfl, rfl, ⟨_, _, rfl, rfl, ⟨A5, c5, rfl, l5, g5⟩⟩⟩⟩⟩⟩ := h
 exact ⟨A5, c5, rfl, l5, g5⟩
theorem k29_mk (w : World) (x : S29) {A5 : Option Addr} {c5 : Nat} (l5 : x.f5.length ≤ c5) (g5 : k74.C w A5 x.f5.length x.f5) : k29.K w x [.int .u32 x.f0, .int .u32 x.f1, .int .u32 x.f2, .int .i64 x.f3, .int .u32 x.f4, .slice A5 x.f5.length c5] := ⟨[.int .u32 x.f0], [.int .u32 x.f1, .int .u32 x.f2, .int .i64 x.f3, .int .u32 x.f4, .slice A5 x.f5.length c5], rfl, rfl, ⟨[.int .u32 x.f1], [.int .u32 x.f2, .int .i64 x.f3, .int .u32 x.f4, .slice A5 x.f5.length c5], rfl, rfl, ⟨[.int .u32 x.f2], [.int .i64 x.f3, .int .u32 x.f4, .slice A5 x.f5.length c5], rfl, rfl, ⟨[.int .i64 x.f3], [.int .u32 x.f4, .slice A5 x.f5.length c5], rfl, rfl, ⟨[.int .u32 x.f4], [.slice A5 x.f5.length c5], rfl, rfl, ⟨A5, c5, rfl, l5, g5⟩⟩⟩⟩⟩⟩
theorem k29_openF {W : World} {ok : Nat → Prop} {x : S29} {cs : List Value} (h : Kd.FK k29 W ok x cs) : ∃ A5 c5, cs = [.int .u32 x.f0, .int .u32 x.f1, .int .u32 x.f2, .int .i64 x.f3, .int .u32 x.f4, .slice A5 x.f5.length c5] ∧ x.f5.length ≤ c5 ∧ Kd.F k74 W ok A5 x.f5.length x.f5 := by
 obtain ⟨A5, c5, rfl, l5, _⟩ := k29_open (Kd.FK_now h)
 exact ⟨A5, c5, rfl, l5, (fun W' hW => by obtain ⟨A5_, c5_, he, l5_, g5_⟩ := k29_open (h W' hW); injection (Option.some.inj (show some (Value.slice A5 x.f5.length c5) = some (Value.slice A5_ x.f5.length c5_) from congrArg (fun l => l[5]?) he)) with ha_ _ _; rw [ha_]; exact g5_)⟩
theorem k29_mkF (W : World) (ok : Nat → Prop) (x : S29) {A5 : Option Addr} {c5 : Nat} (l5 : x.f5.length ≤ c5) (g5 : Kd.F k74 W ok A5 x.f5.length x.f5) : Kd.FK k29 W ok x [.int .u32 x.f0, .int .u32 x.f1, .int .u32 x.f2, .int .i64 x.f3, .int .u32 x.f4, .slice A5 x.f5.length c5] := fun W2 hW => k29_mk W2 x l5 (g5 W2 hW)
def rd_T29 (xs : List S29) (i : Int) : S29 := xs.getD i.toNat z29
theorem at_T29 {w : World} {A : Option Addr} {n : Nat} {xs : List S29} (h : Kd.C k29 w A n xs) (i : Int) (h0 : 0 ≤ i) (h1 : i < n) : ∃ ad A5 c5, A = some ad ∧ w.cell? (ad.add (i.toNat * 6)) = some (.int .u32 (rd_T29 xs i).f0) ∧ w.cell? ⟨(ad.add (i.toNat * 6)).block, (ad.add (i.toNat * 6)).off + 1, none⟩ = some (.int .u32 (rd_T29 xs i).f1) ∧ w.cell? ⟨(ad.add (i.toNat * 6)).block, (ad.add (i.toNat * 6)).off + 2, none⟩ = some (.int .u32 (rd_T29 xs i).f2) ∧ w.cell? ⟨(ad.add (i.toNat * 6)).block, (ad.add (i.toNat * 6)).off + 3, none⟩ = some (.int .i64 (rd_T29 xs i).f3) ∧ w.cell? ⟨(ad.add (i.toNat * 6)).block, (ad.add (i.toNat * 6)).off + 4, none⟩ = some (.int .u32 (rd_T29 xs i).f4) ∧ w.cell? ⟨(ad.add (i.toNat * 6)).block, (ad.add (i.toNat * 6)).off + 5, none⟩ = some (.slice A5 (rd_T29 xs i).f5.length c5) ∧ (rd_T29 xs i).f5.length ≤ c5 ∧ k74.C w A5 (rd_T29 xs i).f5.length (rd_T29 xs i).f5 := by
 obtain ⟨ad, c, e, _, hK, hc0⟩ := Kd.C_get h z29 i h0 h1
 have hc : ∀ j u, c[j]? = some u → w.cell? (ad.add (i.toNat * 6 + j)) = some u := hc0
 obtain ⟨A5, c5, rfl, l5, g5⟩ := k29_open hK
 exact ⟨ad, A5, c5, e, hc 0 _ rfl, (by rw [← add_field _ _ 1 (by omega)]; exact hc 1 _ rfl), (by rw [← add_field _ _ 2 (by omega)]; exact hc 2 _ rfl), (by rw [← add_field _ _ 3 (by omega)]; exact hc 3 _ rfl), (by rw [← add_field _ _ 4 (by omega)]; exact hc 4 _ rfl), (by rw [← add_field _ _ 5 (by omega)]; exact hc 5 _ rfl), l5, g5⟩
structure S85 where
 f0 : Int
 f1 : Int
 f2 : Int
structure S32 where
 f0 : Int
 f1 : Int
 f2 : S29
 f3 : Int
 f4 : Bool
 f5 : (List Int)
def z32 : S32 := ⟨(0 : Int), (0 : Int), z29, (0 : Int), false, ([] : List Int)⟩
def k32 : Kd S32 := Kd.iso (Kd.pair (Kd.int .u8) (Kd.pair (Kd.int .u32) (Kd.pair k29 (Kd.pair (Kd.int .i64) (Kd.pair Kd.bool (Kd.slice 5 (Kd.int .u8))))))) (fun x : S32 => (x.f0, x.f1, x.f2, x.f3, x.f4, x.f5))
theorem k32_heap : Kd.Heap k32 := Kd.heap_iso _ (Kd.heap_pair (Kd.heap_int .u8) (Kd.heap_pair (Kd.heap_int .u32) (Kd.heap_pair k29_heap (Kd.heap_pair (Kd.heap_int .i64) (Kd.heap_pair Kd.heap_bool (Kd.heap_slice 5 (Kd.heap_int .u8)))))))
theorem k32_open {w : World} {x : S32} {cs : List Value} (h : k32.K w x cs) : ∃ A7 c7 A10 c10, cs = [.int .u8 x.f0, .int .u32 x.f1, .int .u32 x.f2.f0, .int .u32 x.f2.f1, .int .u32 x.f2.f2, .int .i64 x.f2.f3, .int .u32 x.f2.f4, .slice A7 x.f2.f5.length c7, .int .i64 x.f3, .bool x.f4, .slice A10 x.f5.length c10] ∧ x.f2.f5.length ≤ c7 ∧ k74.C w A7 x.f2.f5.length x.f2.f5 ∧ x.f5.length ≤ c10 ∧ (Kd.int .u8).C w A10 x.f5.length x.f5 := by
 obtain ⟨_, _, rfl, rfl, ⟨_, _, rfl, rfl, ⟨_, _, rfl, s2, ⟨_, _, rfl, rfl, ⟨_, _, rfl, rfl, ⟨A10, c10, rfl, l10, g10⟩⟩⟩⟩⟩⟩ := h
 obtain ⟨A7, c7, rfl, l7, g7⟩ := k29_open s2
 exact ⟨A7, c7, A10, c10, rfl, l7, g7, l10, g10⟩
theorem k32_mk (w : World) (x : S32) {A7 : Option Addr} {c7 : Nat} (l7 : x.f2.f5.length ≤ c7) (g7 : k74.C w A7 x.f2.f5.length x.f2.f5) {A10 : Option Addr} {c10 : Nat} (l10 : x.f5.length ≤ c10) (g10 : (Kd.int .u8).C w A10 x.f5.length x.f5) : k32.K w x [.int .u8 x.f0, .int .u32 x.f1, .int .u32 x.f2.f0, .int .u32 x.f2.f1, .int .u32 x.f2.f2, .int .i64 x.f2.f3, .int .u32 x.f2.f4, .slice A7 x.f2.f5.length c7, .int .i64 x.f3, .bool x.f4, .slice A10 x.f5.length c10] := ⟨[.int .u8 x.f0], [.int .u32 x.f1, .int .u32 x.f2.f0, .int .u32 x.f2.f1, .int .u32 x.f2.f2, .int .i64 x.f2.f3, .int .u32 x.f2.f4, .slice A7 x.f2.f5.length c7, .int .i64 x.f3, .bool x.f4, .slice A10 x.f5.length c10], rfl, rfl, ⟨[.int .u32 x.f1], [.int .u32 x.f2.f0, .int .u32 x.f2.f1, .int .u32 x.f2.f2, .int .i64 x.f2.f3, .int .u32 x.f2.f4, .slice A7 x.f2.f5.length c7, .int .i64 x.f3, .bool x.f4, .slice A10 x.f5.length c10], rfl, rfl, ⟨[.int .u32 x.f2.f0, .int .u32 x.f2.f1, .int .u32 x.f2.f2, .int .i64 x.f2.f3, .int .u32 x.f2.f4, .slice A7 x.f2.f5.length c7], [.int .i64 x.f3, .bool x.f4, .slice A10 x.f5.length c10], rfl, (k29_mk w x.f2 l7 g7), ⟨[.int .i64 x.f3], [.bool x.f4, .slice A10 x.f5.length c10], rfl, rfl, ⟨[.bool x.f4], [.slice A10 x.f5.length c10], rfl, rfl, ⟨A10, c10, rfl, l10, g10⟩⟩⟩⟩⟩⟩
theorem k32_openF {W : World} {ok : Nat → Prop} {x : S32} {cs : List Value} (h : Kd.FK k32 W ok x cs) : ∃ A7 c7 A10 c10, cs = [.int .u8 x.f0, .int .u32 x.f1, .int .u32 x.f2.f0, .int .u32 x.f2.f1, .int .u32 x.f2.f2, .int .i64 x.f2.f3, .int .u32 x.f2.f4, .slice A7 x.f2.f5.length c7, .int .i64 x.f3, .bool x.f4, .slice A10 x.f5.length c10] ∧ x.f2.f5.length ≤ c7 ∧ Kd.F k74 W ok A7 x.f2.f5.length x.f2.f5 ∧ x.f5.length ≤ c10 ∧ Kd.F (Kd.int .u8) W ok A10 x.f5.length x.f5 := by
 obtain ⟨A7, c7, A10, c10, rfl, l7, _, l10, _⟩ := k32_open (Kd.FK_now h)
 exact ⟨A7, c7, A10, c10, rfl, l7, (fun W' hW => by obtain ⟨A7_, c7_, A10_, c10_, he, l7_, g7_, l10_, g10_⟩ := k32_open (h W' hW); injection (Option.some.inj (show some (Value.slice A7 x.f2.f5.length c7) = some (Value.slice A7_ x.f2.f5.length c7_) from congrArg (fun l => l[7]?) he)) with ha_ _ _; rw [ha_]; exact g7_), l10, (fun W' hW => by obtain ⟨A7_, c7_, A10_, c10_, he, l7_, g7_, l10_, g10_⟩ := k32_open (h W' hW); injection (Option.some.inj (show some (Value.slice A10 x.f5.length c10) = some (Value.slice A10_ x.f5.length c10_) from congrArg (fun l => l[10]?) he)) with ha_ _ _; rw [ha_]; exact g10_)⟩
theorem k32_mkF (W : World) (ok : Nat → Prop) (x : S32) {A7 : Option Addr} {c7 : Nat} (l7 : x.f2.f5.length ≤ c7) (g7 : Kd.F k74 W ok A7 x.f2.f5.length x.f2.f5) {A10 : Option Addr} {c10 : Nat} (l10 : x.f5.length ≤ c10) (g10 : Kd.F (Kd.int .u8) W ok A10 x.f5.length x.f5) : Kd.FK k32 W ok x [.int .u8 x.f0, .int .u32 x.f1, .int .u32 x.f2.f0, .int .u32 x.f2.f1, .int .u32 x.f2.f2, .int .i64 x.f2.f3, .int .u32 x.f2.f4, .slice A7 x.f2.f5.length c7, .int .i64 x.f3, .bool x.f4, .slice A10 x.f5.length c10] := fun W2 hW => k32_mk W2 x l7 (g7 W2 hW) l10 (g10 W2 hW)
def rd_T32 (xs : List S32) (i : Int) : S32 := xs.getD i.toNat z32
theorem at_T32 {w : World} {A : Option Addr} {n : Nat} {xs : List S32} (h : Kd.C k32 w A n xs) (i : Int) (h0 : 0 ≤ i) (h1 : i < n) : ∃ ad A7 c7 A10 c10, A = some ad ∧ w.cell? (ad.add (i.toNat * 11)) = some (.int .u8 (rd_T32 xs i).f0) ∧ w.cell? ⟨(ad.add (i.toNat * 11)).block, (ad.add (i.toNat * 11)).off + 1, none⟩ = some (.int .u32 (rd_T32 xs i).f1) ∧ w.cell? ⟨(ad.add (i.toNat * 11)).block, (ad.add (i.toNat * 11)).off + 2, none⟩ = some (.int .u32 (rd_T32 xs i).f2.f0) ∧ w.cell? ⟨(ad.add (i.toNat * 11)).block, (ad.add (i.toNat * 11)).off + 3, none⟩ = some (.int .u32 (rd_T32 xs i).f2.f1) ∧ w.cell? ⟨(ad.add (i.toNat * 11)).block, (ad.add (i.toNat * 11)).off + 4, none⟩ = some (.int .u32 (rd_T32 xs i).f2.f2) ∧ w.cell? ⟨(ad.add (i.toNat * 11)).block, (ad.add (i.toNat * 11)).off + 5, none⟩ = some (.int .i64 (rd_T32 xs i).f2.f3) ∧ w.cell? ⟨(ad.add (i.toNat * 11)).block, (ad.add (i.toNat * 11)).off + 6, none⟩ = some (.int .u32 (rd_T32 xs i).f2.f4) ∧ w.cell? ⟨(ad.add (i.toNat * 11)).block, (ad.add (i.toNat * 11)).off + 7, none⟩ = some (.slice A7 (rd_T32 xs i).f2.f5.length c7) ∧ w.cell? ⟨(ad.add (i.toNat * 11)).block, (ad.add (i.toNat * 11)).off + 8, none⟩ = some (.int .i64 (rd_T32 xs i).f3) ∧ w.cell? ⟨(ad.add (i.toNat * 11)).block, (ad.add (i.toNat * 11)).off + 9, none⟩ = some (.bool (rd_T32 xs i).f4) ∧ w.cell? ⟨(ad.add (i.toNat * 11)).block, (ad.add (i.toNat * 11)).off + 10, none⟩ = some (.slice A10 (rd_T32 xs i).f5.length c10) ∧ (rd_T32 xs i).f2.f5.length ≤ c7 ∧ k74.C w A7 (rd_T32 xs i).f2.f5.length (rd_T32 xs i).f2.f5 ∧ (rd_T32 xs i).f5.length ≤ c10 ∧ (Kd.int .u8).C w A10 (rd_T32 xs i).f5.length (rd_T32 xs i).f5 := by
 obtain ⟨ad, c, e, _, hK, hc0⟩ := Kd.C_get h z32 i h0 h1
 have hc : ∀ j u, c[j]? = some u → w.cell? (ad.add (i.toNat * 11 + j)) = some u := hc0
 obtain ⟨A7, c7, A10, c10, rfl, l7, g7, l10, g10⟩ := k32_open hK
 exact ⟨ad, A7, c7, A10, c10, e, hc 0 _ rfl, (by rw [← add_field _ _ 1 (by omega)]; exact hc 1 _ rfl), (by rw [← add_field _ _ 2 (by omega)]; exact hc 2 _ rfl), (by rw [← add_field _ _ 3 (by omega)]; exact hc 3 _ rfl), (by rw [← add_field _ _ 4 (by omega)]; exact hc 4 _ rfl), (by rw [← add_field _ _ 5 (by omega)]; exact hc 5 _ rfl), (by rw [← add_field _ _ 6 (by omega)]; exact hc 6 _ rfl), (by rw [← add_field _ _ 7 (by omega)]; exact hc 7 _ rfl), (by rw [← add_field _ _ 8 (by omega)]; exact hc 8 _ rfl), (by rw [← add_field _ _ 9 (by omega)]; exact hc 9 _ rfl), (by rw [← add_field _ _ 10 (by omega)]; exact hc 10 _ rfl), l7, g7, l10, g10⟩
structure S24 where
 f0 : Int
 f1 : (List S29)
def k24 : Kd S24 := Kd.iso (Kd.pair (Kd.int .i64) (Kd.slice 29 k29)) (fun x : S24 => (x.f0, x.f1))
theorem k24_open {w : World} {x : S24} {cs : List Value} (h : k24.K w x cs) : ∃ A1 c1, cs = [.int .i64 x.f0, .slice A1 x.f1.length c1] ∧ x.f1.length ≤ c1 ∧ k29.C w A1 x.f1.length x.f1 := by
 obtain ⟨_, _, rfl, rfl, ⟨A1, c1, rfl, l1, g1⟩⟩ := h
 exact ⟨A1, c1, rfl, l1, g1⟩
structure S52 where
 f0 : Int
 f1 : Int
 f2 : Int
 f3 : Int
structure S83 where
 f0 : Int
 f1 : S52
structure S54 where
 f0 : S24
 f1 : S29
 f2 : Int
 f3 : S52
end Go.Proofs.Ytfomnmdjbdohgaa.P

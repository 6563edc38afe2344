/- For each Go function a Lean function, and the proof that a call comes to what it tells: made by program out of the translation (the kit's print, with texts by hand put in). No condition. -/
import Derived.Test.YteibolilodgjnaaSq
import Derived.Test.YteibolilodgjnaaProg
import Derived.Below
import Derived.Deep.Draws
import Derived.Deep.AppendLies
import Derived.Maps.AppendAt
import Derived.OwnWalk
import Derived.Laws.BytesArg
import Derived.Laws.MakeOwn
import Derived.Laws.OwnMore
import Derived.Deep.OwnRows
import Derived.Tactics
import Derived.Lib.ConvBytes
import Derived.Laws.Slices
import Derived.WalkKit
import Derived.KernelRfl
import Derived.RowKit3
import Derived.Deep.LoopGhost
import Derived.Deep.QuietTactic
import Derived.BigQuiet
import Derived.WideLaws
import Derived.Deep.DeepCutAuto
import Derived.Deep.CutBlock
import Derived.Deep.RegionHeld3
import Derived.Laws.Rows
import Derived.Lib.AppendStr
import Derived.ArgAppend
import Derived.Laws.IdiomCopy
import Derived.OrdersHeld
import Derived.Laws.BitsLemmas
import Derived.RowKit
import Derived.Test.YteibolilodgjnaaHRows
import Derived.Test.YteibolilodgjnaaWWords
import Derived.Test.YteibolilodgjnaaWLast
import Derived.Test.YteibolilodgjnaaWTab
import Derived.Test.YteibolilodgjnaaWFour
import Derived.Test.YteibolilodgjnaaWQPut
import Derived.Test.YteibolilodgjnaaWApart
import Derived.Test.YteibolilodgjnaaWArr
import Derived.Test.YteibolilodgjnaaWZeros
import Derived.Test.YteibolilodgjnaaWFoot
import Derived.Test.YteibolilodgjnaaWKept
import Derived.Test.YteibolilodgjnaaWShare
import Derived.Test.YteibolilodgjnaaWN
import Derived.Test.YteibolilodgjnaaWFootNe
import Derived.Test.YteibolilodgjnaaWAt
import Derived.Test.YteibolilodgjnaaWEqStruct
import Derived.Test.YteibolilodgjnaaWRepsOne
import Derived.Test.YteibolilodgjnaaWInv
import Derived.Test.YteibolilodgjnaaWInvWords
import Derived.Test.YteibolilodgjnaaWGuard
import Derived.Test.YteibolilodgjnaaWNEv
import Derived.Test.YteibolilodgjnaaWMore
namespace Go.Proofs.Yteibolilodgjnaa.P
open Go.RowKit Go.Proofs.Yteibolilodgjnaa.HRows Go.Proofs.YteibolilodgjnaaW.PrintWords Go.Proofs.YteibolilodgjnaaW.PrintLast Go.Proofs.YteibolilodgjnaaW.PrintMore
attribute [local go_sem] max2_int min2_int max_two min_two max_three min_three max_four min_four   -- for this text's walks alone
set_option linter.unusedVariables false
set_option linter.unusedSimpArgs false



def errW : Option Int → Value
 | none => .nilIface
 | some c => .iface 0 (.int .i64 c)
theorem errW_none : errW none = .nilIface := rfl
theorem errW_some (c : Int) : errW (some c) = .iface 0 (.int .i64 c) := rfl

theorem info3 : (Try.prog.info? 3).map (fun i => (i.zero, i.size, i.bytes)) = some (some (.int .i64 0), 1, 8) := by kernel_rfl
theorem info27 : (Try.prog.info? 27).map (fun i => (i.zero, i.size, i.bytes)) = some (some (.agg #[(.int .u32 0), (.int .u32 0), (.int .u32 0), (.int .i64 0), (.int .u32 0), (.slice none 0 0)]), 6, 56) := by kernel_rfl
theorem info38 : (Try.prog.info? 38).map (fun i => (i.zero, i.size, i.bytes)) = some (some (.agg #[(.int .u32 0), (.int .u32 0), (.int .u32 0), (.int .i64 0)]), 4, 24) := by kernel_rfl
theorem info53 : (Try.prog.info? 53).map (fun i => (i.zero, i.size, i.bytes)) = some (some (.agg #[(.int .i64 0), (.bool false)]), 2, 16) := by kernel_rfl
theorem info55 : (Try.prog.info? 55).map (fun i => (i.zero, i.size, i.bytes)) = some (some (.agg #[(.int .i64 0), (.int .u32 0), (.int .u32 0), (.int .u32 0), (.int .i64 0)]), 5, 32) := by kernel_rfl
-- the values' own types
/-! #### struct type 53 -/
structure S53 where
 f0 : Int
 f1 : Bool
def z53 : S53 := ⟨(0 : Int), false⟩
def k53 : Kd S53 := Kd.iso (Kd.pair (Kd.int .i64) Kd.bool) (fun x : S53 => (x.f0, x.f1))
theorem k53_heap : Kd.Heap k53 := Kd.heap_iso _ (Kd.heap_pair (Kd.heap_int .i64) Kd.heap_bool)
theorem k53_open {w : World} {x : S53} {cs : List Value} (h : k53.K w x cs) : cs = [.int .i64 x.f0, .bool x.f1] := by
 obtain ⟨_, _, rfl, rfl, rfl⟩ := h
 exact rfl
theorem k53_openM {w : World} {base : Nat} {ok : Nat → Prop} {x : S53} {cs : List Value} (h : k53.M w base ok x cs) : cs = [.int .i64 x.f0, .bool x.f1] := by
 obtain ⟨_, _, rfl, rfl, rfl⟩ := h
 exact rfl
theorem k53_mk (w : World) (x : S53)  : k53.K w x [.int .i64 x.f0, .bool x.f1] := ⟨[.int .i64 x.f0], [.bool x.f1], rfl, rfl, rfl⟩
theorem k53_mkM (w : World) (base : Nat) (ok : Nat → Prop) (x : S53)  : k53.M w base ok x [.int .i64 x.f0, .bool x.f1] := ⟨[.int .i64 x.f0], [.bool x.f1], rfl, rfl, rfl⟩
theorem k53_mkF (W : World) (ok : Nat → Prop) (x : S53) : Kd.FK k53 W ok x [.int .i64 x.f0, .bool x.f1] := fun W2 _ => k53_mk W2 x
def rd_T53 (xs : List S53) (i : Int) : S53 := xs.getD i.toNat z53
theorem at_T53 {w : World} {A : Option Addr} {n : Nat} {xs : List S53} (h : Kd.C k53 w A n xs) (i : Int) (h0 : 0 ≤ i) (h1 : i < n) : ∃ ad , A = some ad ∧ w.cell? (ad.add (i.toNat * 2)) = some (.int .i64 (rd_T53 xs i).f0) ∧ w.cell? ⟨(ad.add (i.toNat * 2)).block, (ad.add (i.toNat * 2)).off + 1, none⟩ = some (.bool (rd_T53 xs i).f1) := by
 obtain ⟨ad, c, e, _, hK, hc0⟩ := Kd.C_get h z53 i h0 h1
 have hc : ∀ j u, c[j]? = some u → w.cell? (ad.add (i.toNat * 2 + j)) = some u := hc0
 obtain rfl := k53_open hK
 exact ⟨ad, e, hc 0 _ rfl, by rw [← add_field _ _ 1 (by omega)]; exact hc 1 _ rfl⟩

def rd_L4 (xs : List (List S53)) (i : Int) : (List S53) := xs.getD i.toNat ([] : List S53)
theorem at_L4 {w : World} {A : Option Addr} {n : Nat} {xs : List (List S53)} (h : Kd.C (Kd.slice 53 k53) w A n xs) (i : Int) (h0 : 0 ≤ i) (h1 : i < n) : ∃ ad A0 c0, A = some ad ∧ w.cell? (ad.add i.toNat) = some (.slice A0 (rd_L4 xs i).length c0) ∧ (rd_L4 xs i).length ≤ c0 ∧ k53.C w A0 (rd_L4 xs i).length (rd_L4 xs i) := by
 obtain ⟨ad, c, e, _, hK, hc0⟩ := Kd.C_get h ([] : List S53) i h0 h1
 have hc : ∀ j u, c[j]? = some u → w.cell? (ad.add (i.toNat * 1 + j)) = some u := hc0
 obtain ⟨A0, c0, rfl, l0, g0⟩ := hK
 exact ⟨ad, A0, c0, e, by have hq := hc 0 _ rfl; rwa [Nat.mul_one, Nat.add_zero] at hq, l0, g0⟩

/-! #### struct type 27 -/
structure S27 where
 f0 : Int
 f1 : Int
 f2 : Int
 f3 : Int
 f4 : Int
 f5 : (List S53)
def z27 : S27 := ⟨(0 : Int), (0 : Int), (0 : Int), (0 : Int), (0 : Int), ([] : List S53)⟩
def k27 : Kd S27 := Kd.iso (Kd.pair (Kd.int .u32) (Kd.pair (Kd.int .u32) (Kd.pair (Kd.int .u32) (Kd.pair (Kd.int .i64) (Kd.pair (Kd.int .u32) (Kd.slice 53 k53)))))) (fun x : S27 => (x.f0, x.f1, x.f2, x.f3, x.f4, x.f5))
theorem k27_heap : Kd.Heap k27 := Kd.heap_iso _ (Kd.heap_pair (Kd.heap_int .u32) (Kd.heap_pair (Kd.heap_int .u32) (Kd.heap_pair (Kd.heap_int .u32) (Kd.heap_pair (Kd.heap_int .i64) (Kd.heap_pair (Kd.heap_int .u32) (Kd.heap_slice 53 k53_heap))))))
theorem k27_open {w : World} {x : S27} {cs : List Value} (h : k27.K w x cs) : ∃ A5 c5, cs = [.int .u32 x.f0, .int .u32 x.f1, .int .u32 x.f2, .int .i64 x.f3, .int .u32 x.f4, .slice A5 x.f5.length c5] ∧ x.f5.length ≤ c5 ∧ k53.C w A5 x.f5.length x.f5 := by
 obtain ⟨_, _, rfl, rfl, ⟨_, _, rfl, rfl, ⟨_, _, rfl, rfl, ⟨_, _, rfl, rfl, ⟨_, _, rfl, rfl, ⟨A5, c5, rfl, l5, g5⟩⟩⟩⟩⟩⟩ := h
 exact ⟨A5, c5, rfl, l5, g5⟩
theorem k27_openM {w : World} {base : Nat} {ok : Nat → Prop} {x : S27} {cs : List Value} (h : k27.M w base ok x cs) : ∃ v5, cs = [.int .u32 x.f0, .int .u32 x.f1, .int .u32 x.f2, .int .i64 x.f3, .int .u32 x.f4, v5] ∧ k53.R 53 w base ok v5 x.f5 := by
 obtain ⟨_, _, rfl, rfl, ⟨_, _, rfl, rfl, ⟨_, _, rfl, rfl, ⟨_, _, rfl, rfl, ⟨_, _, rfl, rfl, ⟨v5, rfl, g5⟩⟩⟩⟩⟩⟩ := h
 exact ⟨v5, rfl, g5⟩
theorem k27_mk (w : World) (x : S27) {A5 : Option Addr} {c5 : Nat} (l5 : x.f5.length ≤ c5) (g5 : k53.C w A5 x.f5.length x.f5) : k27.K w x [.int .u32 x.f0, .int .u32 x.f1, .int .u32 x.f2, .int .i64 x.f3, .int .u32 x.f4, .slice A5 x.f5.length c5] := ⟨[.int .u32 x.f0], [.int .u32 x.f1, .int .u32 x.f2, .int .i64 x.f3, .int .u32 x.f4, .slice A5 x.f5.length c5], rfl, rfl, ⟨[.int .u32 x.f1], [.int .u32 x.f2, .int .i64 x.f3, .int .u32 x.f4, .slice A5 x.f5.length c5], rfl, rfl, ⟨[.int .u32 x.f2], [.int .i64 x.f3, .int .u32 x.f4, .slice A5 x.f5.length c5], rfl, rfl, ⟨[.int .i64 x.f3], [.int .u32 x.f4, .slice A5 x.f5.length c5], rfl, rfl, ⟨[.int .u32 x.f4], [.slice A5 x.f5.length c5], rfl, rfl, ⟨A5, c5, rfl, l5, g5⟩⟩⟩⟩⟩⟩
theorem k27_mkM (w : World) (base : Nat) (ok : Nat → Prop) (x : S27) {v5 : Value} (g5 : k53.R 53 w base ok v5 x.f5) : k27.M w base ok x [.int .u32 x.f0, .int .u32 x.f1, .int .u32 x.f2, .int .i64 x.f3, .int .u32 x.f4, v5] := ⟨[.int .u32 x.f0], [.int .u32 x.f1, .int .u32 x.f2, .int .i64 x.f3, .int .u32 x.f4, v5], rfl, rfl, ⟨[.int .u32 x.f1], [.int .u32 x.f2, .int .i64 x.f3, .int .u32 x.f4, v5], rfl, rfl, ⟨[.int .u32 x.f2], [.int .i64 x.f3, .int .u32 x.f4, v5], rfl, rfl, ⟨[.int .i64 x.f3], [.int .u32 x.f4, v5], rfl, rfl, ⟨[.int .u32 x.f4], [v5], rfl, rfl, ⟨v5, rfl, g5⟩⟩⟩⟩⟩⟩
theorem k27_openF {W : World} {ok : Nat → Prop} {x : S27} {cs : List Value} (h : Kd.FK k27 W ok x cs) : ∃ A5 c5, cs = [.int .u32 x.f0, .int .u32 x.f1, .int .u32 x.f2, .int .i64 x.f3, .int .u32 x.f4, .slice A5 x.f5.length c5] ∧ x.f5.length ≤ c5 ∧ Kd.F k53 W ok A5 x.f5.length x.f5 := by
 obtain ⟨A5, c5, rfl, l5, _⟩ := k27_open (Kd.FK_now h)
 exact ⟨A5, c5, rfl, l5, (fun W' hW => by obtain ⟨A5_, c5_, he, l5_, g5_⟩ := k27_open (h W' hW); injection (Option.some.inj (show some (Value.slice A5 x.f5.length c5) = some (Value.slice A5_ x.f5.length c5_) from congrArg (fun l => l[5]?) he)) with ha_ _ _; rw [ha_]; exact g5_)⟩
theorem k27_mkF (W : World) (ok : Nat → Prop) (x : S27) {A5 : Option Addr} {c5 : Nat} (l5 : x.f5.length ≤ c5) (g5 : Kd.F k53 W ok A5 x.f5.length x.f5) : Kd.FK k27 W ok x [.int .u32 x.f0, .int .u32 x.f1, .int .u32 x.f2, .int .i64 x.f3, .int .u32 x.f4, .slice A5 x.f5.length c5] := fun W2 hW => k27_mk W2 x l5 (g5 W2 hW)
def rd_T27 (xs : List S27) (i : Int) : S27 := xs.getD i.toNat z27
theorem at_T27 {w : World} {A : Option Addr} {n : Nat} {xs : List S27} (h : Kd.C k27 w A n xs) (i : Int) (h0 : 0 ≤ i) (h1 : i < n) : ∃ ad A5 c5, A = some ad ∧ w.cell? (ad.add (i.toNat * 6)) = some (.int .u32 (rd_T27 xs i).f0) ∧ w.cell? ⟨(ad.add (i.toNat * 6)).block, (ad.add (i.toNat * 6)).off + 1, none⟩ = some (.int .u32 (rd_T27 xs i).f1) ∧ w.cell? ⟨(ad.add (i.toNat * 6)).block, (ad.add (i.toNat * 6)).off + 2, none⟩ = some (.int .u32 (rd_T27 xs i).f2) ∧ w.cell? ⟨(ad.add (i.toNat * 6)).block, (ad.add (i.toNat * 6)).off + 3, none⟩ = some (.int .i64 (rd_T27 xs i).f3) ∧ w.cell? ⟨(ad.add (i.toNat * 6)).block, (ad.add (i.toNat * 6)).off + 4, none⟩ = some (.int .u32 (rd_T27 xs i).f4) ∧ w.cell? ⟨(ad.add (i.toNat * 6)).block, (ad.add (i.toNat * 6)).off + 5, none⟩ = some (.slice A5 (rd_T27 xs i).f5.length c5) ∧ (rd_T27 xs i).f5.length ≤ c5 ∧ k53.C w A5 (rd_T27 xs i).f5.length (rd_T27 xs i).f5 := by
 obtain ⟨ad, c, e, _, hK, hc0⟩ := Kd.C_get h z27 i h0 h1
 have hc : ∀ j u, c[j]? = some u → w.cell? (ad.add (i.toNat * 6 + j)) = some u := hc0
 obtain ⟨A5, c5, rfl, l5, g5⟩ := k27_open hK
 exact ⟨ad, A5, c5, e, hc 0 _ rfl, by rw [← add_field _ _ 1 (by omega)]; exact hc 1 _ rfl, by rw [← add_field _ _ 2 (by omega)]; exact hc 2 _ rfl, by rw [← add_field _ _ 3 (by omega)]; exact hc 3 _ rfl, by rw [← add_field _ _ 4 (by omega)]; exact hc 4 _ rfl, by rw [← add_field _ _ 5 (by omega)]; exact hc 5 _ rfl, l5, g5⟩

def rd_L6 (xs : List (List S27)) (i : Int) : (List S27) := xs.getD i.toNat ([] : List S27)
theorem at_L6 {w : World} {A : Option Addr} {n : Nat} {xs : List (List S27)} (h : Kd.C (Kd.slice 27 k27) w A n xs) (i : Int) (h0 : 0 ≤ i) (h1 : i < n) : ∃ ad A0 c0, A = some ad ∧ w.cell? (ad.add i.toNat) = some (.slice A0 (rd_L6 xs i).length c0) ∧ (rd_L6 xs i).length ≤ c0 ∧ k27.C w A0 (rd_L6 xs i).length (rd_L6 xs i) := by
 obtain ⟨ad, c, e, _, hK, hc0⟩ := Kd.C_get h ([] : List S27) i h0 h1
 have hc : ∀ j u, c[j]? = some u → w.cell? (ad.add (i.toNat * 1 + j)) = some u := hc0
 obtain ⟨A0, c0, rfl, l0, g0⟩ := hK
 exact ⟨ad, A0, c0, e, by have hq := hc 0 _ rfl; rwa [Nat.mul_one, Nat.add_zero] at hq, l0, g0⟩

/-! #### struct type 59 -/
structure S59 where
 f0 : Int
 f1 : Int
 f2 : Int
def z59 : S59 := ⟨(0 : Int), (0 : Int), (0 : Int)⟩
def k59 : Kd S59 := Kd.iso (Kd.pair (Kd.int .u32) (Kd.pair (Kd.int .u32) (Kd.int .u32))) (fun x : S59 => (x.f0, x.f1, x.f2))
theorem k59_heap : Kd.Heap k59 := Kd.heap_iso _ (Kd.heap_pair (Kd.heap_int .u32) (Kd.heap_pair (Kd.heap_int .u32) (Kd.heap_int .u32)))
theorem k59_open {w : World} {x : S59} {cs : List Value} (h : k59.K w x cs) : cs = [.int .u32 x.f0, .int .u32 x.f1, .int .u32 x.f2] := by
 obtain ⟨_, _, rfl, rfl, ⟨_, _, rfl, rfl, rfl⟩⟩ := h
 exact rfl
theorem k59_openM {w : World} {base : Nat} {ok : Nat → Prop} {x : S59} {cs : List Value} (h : k59.M w base ok x cs) : cs = [.int .u32 x.f0, .int .u32 x.f1, .int .u32 x.f2] := by
 obtain ⟨_, _, rfl, rfl, ⟨_, _, rfl, rfl, rfl⟩⟩ := h
 exact rfl
theorem k59_mk (w : World) (x : S59)  : k59.K w x [.int .u32 x.f0, .int .u32 x.f1, .int .u32 x.f2] := ⟨[.int .u32 x.f0], [.int .u32 x.f1, .int .u32 x.f2], rfl, rfl, ⟨[.int .u32 x.f1], [.int .u32 x.f2], rfl, rfl, rfl⟩⟩
theorem k59_mkM (w : World) (base : Nat) (ok : Nat → Prop) (x : S59)  : k59.M w base ok x [.int .u32 x.f0, .int .u32 x.f1, .int .u32 x.f2] := ⟨[.int .u32 x.f0], [.int .u32 x.f1, .int .u32 x.f2], rfl, rfl, ⟨[.int .u32 x.f1], [.int .u32 x.f2], rfl, rfl, rfl⟩⟩
theorem k59_mkF (W : World) (ok : Nat → Prop) (x : S59) : Kd.FK k59 W ok x [.int .u32 x.f0, .int .u32 x.f1, .int .u32 x.f2] := fun W2 _ => k59_mk W2 x
def rd_T59 (xs : List S59) (i : Int) : S59 := xs.getD i.toNat z59
theorem at_T59 {w : World} {A : Option Addr} {n : Nat} {xs : List S59} (h : Kd.C k59 w A n xs) (i : Int) (h0 : 0 ≤ i) (h1 : i < n) : ∃ ad , A = some ad ∧ w.cell? (ad.add (i.toNat * 3)) = some (.int .u32 (rd_T59 xs i).f0) ∧ w.cell? ⟨(ad.add (i.toNat * 3)).block, (ad.add (i.toNat * 3)).off + 1, none⟩ = some (.int .u32 (rd_T59 xs i).f1) ∧ w.cell? ⟨(ad.add (i.toNat * 3)).block, (ad.add (i.toNat * 3)).off + 2, none⟩ = some (.int .u32 (rd_T59 xs i).f2) := by
 obtain ⟨ad, c, e, _, hK, hc0⟩ := Kd.C_get h z59 i h0 h1
 have hc : ∀ j u, c[j]? = some u → w.cell? (ad.add (i.toNat * 3 + j)) = some u := hc0
 obtain rfl := k59_open hK
 exact ⟨ad, e, hc 0 _ rfl, by rw [← add_field _ _ 1 (by omega)]; exact hc 1 _ rfl, by rw [← add_field _ _ 2 (by omega)]; exact hc 2 _ rfl⟩

/-! #### struct type 38 -/
structure S38 where
 f0 : Int
 f1 : Int
 f2 : Int
 f3 : Int
def z38 : S38 := ⟨(0 : Int), (0 : Int), (0 : Int), (0 : Int)⟩
def k38 : Kd S38 := Kd.iso (Kd.pair (Kd.int .u32) (Kd.pair (Kd.int .u32) (Kd.pair (Kd.int .u32) (Kd.int .i64)))) (fun x : S38 => (x.f0, x.f1, x.f2, x.f3))
theorem k38_heap : Kd.Heap k38 := Kd.heap_iso _ (Kd.heap_pair (Kd.heap_int .u32) (Kd.heap_pair (Kd.heap_int .u32) (Kd.heap_pair (Kd.heap_int .u32) (Kd.heap_int .i64))))
theorem k38_open {w : World} {x : S38} {cs : List Value} (h : k38.K w x cs) : cs = [.int .u32 x.f0, .int .u32 x.f1, .int .u32 x.f2, .int .i64 x.f3] := by
 obtain ⟨_, _, rfl, rfl, ⟨_, _, rfl, rfl, ⟨_, _, rfl, rfl, rfl⟩⟩⟩ := h
 exact rfl
theorem k38_openM {w : World} {base : Nat} {ok : Nat → Prop} {x : S38} {cs : List Value} (h : k38.M w base ok x cs) : cs = [.int .u32 x.f0, .int .u32 x.f1, .int .u32 x.f2, .int .i64 x.f3] := by
 obtain ⟨_, _, rfl, rfl, ⟨_, _, rfl, rfl, ⟨_, _, rfl, rfl, rfl⟩⟩⟩ := h
 exact rfl
theorem k38_mk (w : World) (x : S38)  : k38.K w x [.int .u32 x.f0, .int .u32 x.f1, .int .u32 x.f2, .int .i64 x.f3] := ⟨[.int .u32 x.f0], [.int .u32 x.f1, .int .u32 x.f2, .int .i64 x.f3], rfl, rfl, ⟨[.int .u32 x.f1], [.int .u32 x.f2, .int .i64 x.f3], rfl, rfl, ⟨[.int .u32 x.f2], [.int .i64 x.f3], rfl, rfl, rfl⟩⟩⟩
theorem k38_mkM (w : World) (base : Nat) (ok : Nat → Prop) (x : S38)  : k38.M w base ok x [.int .u32 x.f0, .int .u32 x.f1, .int .u32 x.f2, .int .i64 x.f3] := ⟨[.int .u32 x.f0], [.int .u32 x.f1, .int .u32 x.f2, .int .i64 x.f3], rfl, rfl, ⟨[.int .u32 x.f1], [.int .u32 x.f2, .int .i64 x.f3], rfl, rfl, ⟨[.int .u32 x.f2], [.int .i64 x.f3], rfl, rfl, rfl⟩⟩⟩
theorem k38_mkF (W : World) (ok : Nat → Prop) (x : S38) : Kd.FK k38 W ok x [.int .u32 x.f0, .int .u32 x.f1, .int .u32 x.f2, .int .i64 x.f3] := fun W2 _ => k38_mk W2 x
def rd_T38 (xs : List S38) (i : Int) : S38 := xs.getD i.toNat z38
theorem at_T38 {w : World} {A : Option Addr} {n : Nat} {xs : List S38} (h : Kd.C k38 w A n xs) (i : Int) (h0 : 0 ≤ i) (h1 : i < n) : ∃ ad , A = some ad ∧ w.cell? (ad.add (i.toNat * 4)) = some (.int .u32 (rd_T38 xs i).f0) ∧ w.cell? ⟨(ad.add (i.toNat * 4)).block, (ad.add (i.toNat * 4)).off + 1, none⟩ = some (.int .u32 (rd_T38 xs i).f1) ∧ w.cell? ⟨(ad.add (i.toNat * 4)).block, (ad.add (i.toNat * 4)).off + 2, none⟩ = some (.int .u32 (rd_T38 xs i).f2) ∧ w.cell? ⟨(ad.add (i.toNat * 4)).block, (ad.add (i.toNat * 4)).off + 3, none⟩ = some (.int .i64 (rd_T38 xs i).f3) := by
 obtain ⟨ad, c, e, _, hK, hc0⟩ := Kd.C_get h z38 i h0 h1
 have hc : ∀ j u, c[j]? = some u → w.cell? (ad.add (i.toNat * 4 + j)) = some u := hc0
 obtain rfl := k38_open hK
 exact ⟨ad, e, hc 0 _ rfl, by rw [← add_field _ _ 1 (by omega)]; exact hc 1 _ rfl, by rw [← add_field _ _ 2 (by omega)]; exact hc 2 _ rfl, by rw [← add_field _ _ 3 (by omega)]; exact hc 3 _ rfl⟩

/-! #### struct type 55 -/
structure S55 where
 f0 : Int
 f1 : S38
def z55 : S55 := ⟨(0 : Int), z38⟩
def k55 : Kd S55 := Kd.iso (Kd.pair (Kd.int .i64) k38) (fun x : S55 => (x.f0, x.f1))
theorem k55_heap : Kd.Heap k55 := Kd.heap_iso _ (Kd.heap_pair (Kd.heap_int .i64) k38_heap)
theorem k55_open {w : World} {x : S55} {cs : List Value} (h : k55.K w x cs) : cs = [.int .i64 x.f0, .int .u32 x.f1.f0, .int .u32 x.f1.f1, .int .u32 x.f1.f2, .int .i64 x.f1.f3] := by
 obtain ⟨_, _, rfl, rfl, s1⟩ := h
 obtain rfl := k38_open s1
 exact rfl
theorem k55_openM {w : World} {base : Nat} {ok : Nat → Prop} {x : S55} {cs : List Value} (h : k55.M w base ok x cs) : cs = [.int .i64 x.f0, .int .u32 x.f1.f0, .int .u32 x.f1.f1, .int .u32 x.f1.f2, .int .i64 x.f1.f3] := by
 obtain ⟨_, _, rfl, rfl, s1⟩ := h
 obtain rfl := k38_openM s1
 exact rfl
theorem k55_mk (w : World) (x : S55)  : k55.K w x [.int .i64 x.f0, .int .u32 x.f1.f0, .int .u32 x.f1.f1, .int .u32 x.f1.f2, .int .i64 x.f1.f3] := ⟨[.int .i64 x.f0], [.int .u32 x.f1.f0, .int .u32 x.f1.f1, .int .u32 x.f1.f2, .int .i64 x.f1.f3], rfl, rfl, (k38_mk w x.f1 )⟩
theorem k55_mkM (w : World) (base : Nat) (ok : Nat → Prop) (x : S55)  : k55.M w base ok x [.int .i64 x.f0, .int .u32 x.f1.f0, .int .u32 x.f1.f1, .int .u32 x.f1.f2, .int .i64 x.f1.f3] := ⟨[.int .i64 x.f0], [.int .u32 x.f1.f0, .int .u32 x.f1.f1, .int .u32 x.f1.f2, .int .i64 x.f1.f3], rfl, rfl, (k38_mkM w base ok x.f1 )⟩
theorem k55_mkF (W : World) (ok : Nat → Prop) (x : S55) : Kd.FK k55 W ok x [.int .i64 x.f0, .int .u32 x.f1.f0, .int .u32 x.f1.f1, .int .u32 x.f1.f2, .int .i64 x.f1.f3] := fun W2 _ => k55_mk W2 x
def rd_T55 (xs : List S55) (i : Int) : S55 := xs.getD i.toNat z55
theorem at_T55 {w : World} {A : Option Addr} {n : Nat} {xs : List S55} (h : Kd.C k55 w A n xs) (i : Int) (h0 : 0 ≤ i) (h1 : i < n) : ∃ ad , A = some ad ∧ w.cell? (ad.add (i.toNat * 5)) = some (.int .i64 (rd_T55 xs i).f0) ∧ w.cell? ⟨(ad.add (i.toNat * 5)).block, (ad.add (i.toNat * 5)).off + 1, none⟩ = some (.int .u32 (rd_T55 xs i).f1.f0) ∧ w.cell? ⟨(ad.add (i.toNat * 5)).block, (ad.add (i.toNat * 5)).off + 2, none⟩ = some (.int .u32 (rd_T55 xs i).f1.f1) ∧ w.cell? ⟨(ad.add (i.toNat * 5)).block, (ad.add (i.toNat * 5)).off + 3, none⟩ = some (.int .u32 (rd_T55 xs i).f1.f2) ∧ w.cell? ⟨(ad.add (i.toNat * 5)).block, (ad.add (i.toNat * 5)).off + 4, none⟩ = some (.int .i64 (rd_T55 xs i).f1.f3) := by
 obtain ⟨ad, c, e, _, hK, hc0⟩ := Kd.C_get h z55 i h0 h1
 have hc : ∀ j u, c[j]? = some u → w.cell? (ad.add (i.toNat * 5 + j)) = some u := hc0
 obtain rfl := k55_open hK
 exact ⟨ad, e, hc 0 _ rfl, by rw [← add_field _ _ 1 (by omega)]; exact hc 1 _ rfl, by rw [← add_field _ _ 2 (by omega)]; exact hc 2 _ rfl, by rw [← add_field _ _ 3 (by omega)]; exact hc 3 _ rfl, by rw [← add_field _ _ 4 (by omega)]; exact hc 4 _ rfl⟩

def rd_L10 (xs : List (List S55)) (i : Int) : (List S55) := xs.getD i.toNat ([] : List S55)
theorem at_L10 {w : World} {A : Option Addr} {n : Nat} {xs : List (List S55)} (h : Kd.C (Kd.slice 55 k55) w A n xs) (i : Int) (h0 : 0 ≤ i) (h1 : i < n) : ∃ ad A0 c0, A = some ad ∧ w.cell? (ad.add i.toNat) = some (.slice A0 (rd_L10 xs i).length c0) ∧ (rd_L10 xs i).length ≤ c0 ∧ k55.C w A0 (rd_L10 xs i).length (rd_L10 xs i) := by
 obtain ⟨ad, c, e, _, hK, hc0⟩ := Kd.C_get h ([] : List S55) i h0 h1
 have hc : ∀ j u, c[j]? = some u → w.cell? (ad.add (i.toNat * 1 + j)) = some u := hc0
 obtain ⟨A0, c0, rfl, l0, g0⟩ := hK
 exact ⟨ad, A0, c0, e, by have hq := hc 0 _ rfl; rwa [Nat.mul_one, Nat.add_zero] at hq, l0, g0⟩

/-! #### struct type 47 -/
structure S47 where
 f0 : (List S27)
 f1 : S27
 f2 : S27
 f3 : Int
def z47 : S47 := ⟨([] : List S27), z27, z27, (0 : Int)⟩
def k47 : Kd S47 := Kd.iso (Kd.pair (Kd.slice 27 k27) (Kd.pair k27 (Kd.pair k27 (Kd.int .i64)))) (fun x : S47 => (x.f0, x.f1, x.f2, x.f3))
theorem k47_heap : Kd.Heap k47 := Kd.heap_iso _ (Kd.heap_pair (Kd.heap_slice 27 k27_heap) (Kd.heap_pair k27_heap (Kd.heap_pair k27_heap (Kd.heap_int .i64))))
theorem k47_open {w : World} {x : S47} {cs : List Value} (h : k47.K w x cs) : ∃ A0 c0 A6 c6 A12 c12, cs = [.slice A0 x.f0.length c0, .int .u32 x.f1.f0, .int .u32 x.f1.f1, .int .u32 x.f1.f2, .int .i64 x.f1.f3, .int .u32 x.f1.f4, .slice A6 x.f1.f5.length c6, .int .u32 x.f2.f0, .int .u32 x.f2.f1, .int .u32 x.f2.f2, .int .i64 x.f2.f3, .int .u32 x.f2.f4, .slice A12 x.f2.f5.length c12, .int .i64 x.f3] ∧ x.f0.length ≤ c0 ∧ k27.C w A0 x.f0.length x.f0 ∧ x.f1.f5.length ≤ c6 ∧ k53.C w A6 x.f1.f5.length x.f1.f5 ∧ x.f2.f5.length ≤ c12 ∧ k53.C w A12 x.f2.f5.length x.f2.f5 := by
 obtain ⟨_, _, rfl, ⟨A0, c0, rfl, l0, g0⟩, ⟨_, _, rfl, s1, ⟨_, _, rfl, s7, rfl⟩⟩⟩ := h
 obtain ⟨A6, c6, rfl, l6, g6⟩ := k27_open s1
 obtain ⟨A12, c12, rfl, l12, g12⟩ := k27_open s7
 exact ⟨A0, c0, A6, c6, A12, c12, rfl, l0, g0, l6, g6, l12, g12⟩
theorem k47_openM {w : World} {base : Nat} {ok : Nat → Prop} {x : S47} {cs : List Value} (h : k47.M w base ok x cs) : ∃ v0 v6 v12, cs = [v0, .int .u32 x.f1.f0, .int .u32 x.f1.f1, .int .u32 x.f1.f2, .int .i64 x.f1.f3, .int .u32 x.f1.f4, v6, .int .u32 x.f2.f0, .int .u32 x.f2.f1, .int .u32 x.f2.f2, .int .i64 x.f2.f3, .int .u32 x.f2.f4, v12, .int .i64 x.f3] ∧ k27.R 27 w base ok v0 x.f0 ∧ k53.R 53 w base ok v6 x.f1.f5 ∧ k53.R 53 w base ok v12 x.f2.f5 := by
 obtain ⟨_, _, rfl, ⟨v0, rfl, g0⟩, ⟨_, _, rfl, s1, ⟨_, _, rfl, s7, rfl⟩⟩⟩ := h
 obtain ⟨v6, rfl, g6⟩ := k27_openM s1
 obtain ⟨v12, rfl, g12⟩ := k27_openM s7
 exact ⟨v0, v6, v12, rfl, g0, g6, g12⟩
theorem k47_mk (w : World) (x : S47) {A0 : Option Addr} {c0 : Nat} (l0 : x.f0.length ≤ c0) (g0 : k27.C w A0 x.f0.length x.f0) {A6 : Option Addr} {c6 : Nat} (l6 : x.f1.f5.length ≤ c6) (g6 : k53.C w A6 x.f1.f5.length x.f1.f5) {A12 : Option Addr} {c12 : Nat} (l12 : x.f2.f5.length ≤ c12) (g12 : k53.C w A12 x.f2.f5.length x.f2.f5) : k47.K w x [.slice A0 x.f0.length c0, .int .u32 x.f1.f0, .int .u32 x.f1.f1, .int .u32 x.f1.f2, .int .i64 x.f1.f3, .int .u32 x.f1.f4, .slice A6 x.f1.f5.length c6, .int .u32 x.f2.f0, .int .u32 x.f2.f1, .int .u32 x.f2.f2, .int .i64 x.f2.f3, .int .u32 x.f2.f4, .slice A12 x.f2.f5.length c12, .int .i64 x.f3] := ⟨[.slice A0 x.f0.length c0], [.int .u32 x.f1.f0, .int .u32 x.f1.f1, .int .u32 x.f1.f2, .int .i64 x.f1.f3, .int .u32 x.f1.f4, .slice A6 x.f1.f5.length c6, .int .u32 x.f2.f0, .int .u32 x.f2.f1, .int .u32 x.f2.f2, .int .i64 x.f2.f3, .int .u32 x.f2.f4, .slice A12 x.f2.f5.length c12, .int .i64 x.f3], rfl, ⟨A0, c0, rfl, l0, g0⟩, ⟨[.int .u32 x.f1.f0, .int .u32 x.f1.f1, .int .u32 x.f1.f2, .int .i64 x.f1.f3, .int .u32 x.f1.f4, .slice A6 x.f1.f5.length c6], [.int .u32 x.f2.f0, .int .u32 x.f2.f1, .int .u32 x.f2.f2, .int .i64 x.f2.f3, .int .u32 x.f2.f4, .slice A12 x.f2.f5.length c12, .int .i64 x.f3], rfl, (k27_mk w x.f1 l6 g6), ⟨[.int .u32 x.f2.f0, .int .u32 x.f2.f1, .int .u32 x.f2.f2, .int .i64 x.f2.f3, .int .u32 x.f2.f4, .slice A12 x.f2.f5.length c12], [.int .i64 x.f3], rfl, (k27_mk w x.f2 l12 g12), rfl⟩⟩⟩
theorem k47_mkM (w : World) (base : Nat) (ok : Nat → Prop) (x : S47) {v0 : Value} (g0 : k27.R 27 w base ok v0 x.f0) {v6 : Value} (g6 : k53.R 53 w base ok v6 x.f1.f5) {v12 : Value} (g12 : k53.R 53 w base ok v12 x.f2.f5) : k47.M w base ok x [v0, .int .u32 x.f1.f0, .int .u32 x.f1.f1, .int .u32 x.f1.f2, .int .i64 x.f1.f3, .int .u32 x.f1.f4, v6, .int .u32 x.f2.f0, .int .u32 x.f2.f1, .int .u32 x.f2.f2, .int .i64 x.f2.f3, .int .u32 x.f2.f4, v12, .int .i64 x.f3] := ⟨[v0], [.int .u32 x.f1.f0, .int .u32 x.f1.f1, .int .u32 x.f1.f2, .int .i64 x.f1.f3, .int .u32 x.f1.f4, v6, .int .u32 x.f2.f0, .int .u32 x.f2.f1, .int .u32 x.f2.f2, .int .i64 x.f2.f3, .int .u32 x.f2.f4, v12, .int .i64 x.f3], rfl, ⟨v0, rfl, g0⟩, ⟨[.int .u32 x.f1.f0, .int .u32 x.f1.f1, .int .u32 x.f1.f2, .int .i64 x.f1.f3, .int .u32 x.f1.f4, v6], [.int .u32 x.f2.f0, .int .u32 x.f2.f1, .int .u32 x.f2.f2, .int .i64 x.f2.f3, .int .u32 x.f2.f4, v12, .int .i64 x.f3], rfl, (k27_mkM w base ok x.f1 g6), ⟨[.int .u32 x.f2.f0, .int .u32 x.f2.f1, .int .u32 x.f2.f2, .int .i64 x.f2.f3, .int .u32 x.f2.f4, v12], [.int .i64 x.f3], rfl, (k27_mkM w base ok x.f2 g12), rfl⟩⟩⟩
theorem k47_openF {W : World} {ok : Nat → Prop} {x : S47} {cs : List Value} (h : Kd.FK k47 W ok x cs) : ∃ A0 c0 A6 c6 A12 c12, cs = [.slice A0 x.f0.length c0, .int .u32 x.f1.f0, .int .u32 x.f1.f1, .int .u32 x.f1.f2, .int .i64 x.f1.f3, .int .u32 x.f1.f4, .slice A6 x.f1.f5.length c6, .int .u32 x.f2.f0, .int .u32 x.f2.f1, .int .u32 x.f2.f2, .int .i64 x.f2.f3, .int .u32 x.f2.f4, .slice A12 x.f2.f5.length c12, .int .i64 x.f3] ∧ x.f0.length ≤ c0 ∧ Kd.F k27 W ok A0 x.f0.length x.f0 ∧ x.f1.f5.length ≤ c6 ∧ Kd.F k53 W ok A6 x.f1.f5.length x.f1.f5 ∧ x.f2.f5.length ≤ c12 ∧ Kd.F k53 W ok A12 x.f2.f5.length x.f2.f5 := by
 obtain ⟨A0, c0, A6, c6, A12, c12, rfl, l0, _, l6, _, l12, _⟩ := k47_open (Kd.FK_now h)
 exact ⟨A0, c0, A6, c6, A12, c12, rfl, l0, (fun W' hW => by obtain ⟨A0_, c0_, A6_, c6_, A12_, c12_, he, l0_, g0_, l6_, g6_, l12_, g12_⟩ := k47_open (h W' hW); injection (Option.some.inj (show some (Value.slice A0 x.f0.length c0) = some (Value.slice A0_ x.f0.length c0_) from congrArg (fun l => l[0]?) he)) with ha_ _ _; rw [ha_]; exact g0_), l6, (fun W' hW => by obtain ⟨A0_, c0_, A6_, c6_, A12_, c12_, he, l0_, g0_, l6_, g6_, l12_, g12_⟩ := k47_open (h W' hW); injection (Option.some.inj (show some (Value.slice A6 x.f1.f5.length c6) = some (Value.slice A6_ x.f1.f5.length c6_) from congrArg (fun l => l[6]?) he)) with ha_ _ _; rw [ha_]; exact g6_), l12, (fun W' hW => by obtain ⟨A0_, c0_, A6_, c6_, A12_, c12_, he, l0_, g0_, l6_, g6_, l12_, g12_⟩ := k47_open (h W' hW); injection (Option.some.inj (show some (Value.slice A12 x.f2.f5.length c12) = some (Value.slice A12_ x.f2.f5.length c12_) from congrArg (fun l => l[12]?) he)) with ha_ _ _; rw [ha_]; exact g12_)⟩
theorem k47_mkF (W : World) (ok : Nat → Prop) (x : S47) {A0 : Option Addr} {c0 : Nat} (l0 : x.f0.length ≤ c0) (g0 : Kd.F k27 W ok A0 x.f0.length x.f0) {A6 : Option Addr} {c6 : Nat} (l6 : x.f1.f5.length ≤ c6) (g6 : Kd.F k53 W ok A6 x.f1.f5.length x.f1.f5) {A12 : Option Addr} {c12 : Nat} (l12 : x.f2.f5.length ≤ c12) (g12 : Kd.F k53 W ok A12 x.f2.f5.length x.f2.f5) : Kd.FK k47 W ok x [.slice A0 x.f0.length c0, .int .u32 x.f1.f0, .int .u32 x.f1.f1, .int .u32 x.f1.f2, .int .i64 x.f1.f3, .int .u32 x.f1.f4, .slice A6 x.f1.f5.length c6, .int .u32 x.f2.f0, .int .u32 x.f2.f1, .int .u32 x.f2.f2, .int .i64 x.f2.f3, .int .u32 x.f2.f4, .slice A12 x.f2.f5.length c12, .int .i64 x.f3] := fun W2 hW => k47_mk W2 x l0 (g0 W2 hW) l6 (g6 W2 hW) l12 (g12 W2 hW)
def rd_T47 (xs : List S47) (i : Int) : S47 := xs.getD i.toNat z47
theorem at_T47 {w : World} {A : Option Addr} {n : Nat} {xs : List S47} (h : Kd.C k47 w A n xs) (i : Int) (h0 : 0 ≤ i) (h1 : i < n) : ∃ ad A0 c0 A6 c6 A12 c12, A = some ad ∧ w.cell? (ad.add (i.toNat * 14)) = some (.slice A0 (rd_T47 xs i).f0.length c0) ∧ w.cell? ⟨(ad.add (i.toNat * 14)).block, (ad.add (i.toNat * 14)).off + 1, none⟩ = some (.int .u32 (rd_T47 xs i).f1.f0) ∧ w.cell? ⟨(ad.add (i.toNat * 14)).block, (ad.add (i.toNat * 14)).off + 2, none⟩ = some (.int .u32 (rd_T47 xs i).f1.f1) ∧ w.cell? ⟨(ad.add (i.toNat * 14)).block, (ad.add (i.toNat * 14)).off + 3, none⟩ = some (.int .u32 (rd_T47 xs i).f1.f2) ∧ w.cell? ⟨(ad.add (i.toNat * 14)).block, (ad.add (i.toNat * 14)).off + 4, none⟩ = some (.int .i64 (rd_T47 xs i).f1.f3) ∧ w.cell? ⟨(ad.add (i.toNat * 14)).block, (ad.add (i.toNat * 14)).off + 5, none⟩ = some (.int .u32 (rd_T47 xs i).f1.f4) ∧ w.cell? ⟨(ad.add (i.toNat * 14)).block, (ad.add (i.toNat * 14)).off + 6, none⟩ = some (.slice A6 (rd_T47 xs i).f1.f5.length c6) ∧ w.cell? ⟨(ad.add (i.toNat * 14)).block, (ad.add (i.toNat * 14)).off + 7, none⟩ = some (.int .u32 (rd_T47 xs i).f2.f0) ∧ w.cell? ⟨(ad.add (i.toNat * 14)).block, (ad.add (i.toNat * 14)).off + 8, none⟩ = some (.int .u32 (rd_T47 xs i).f2.f1) ∧ w.cell? ⟨(ad.add (i.toNat * 14)).block, (ad.add (i.toNat * 14)).off + 9, none⟩ = some (.int .u32 (rd_T47 xs i).f2.f2) ∧ w.cell? ⟨(ad.add (i.toNat * 14)).block, (ad.add (i.toNat * 14)).off + 10, none⟩ = some (.int .i64 (rd_T47 xs i).f2.f3) ∧ w.cell? ⟨(ad.add (i.toNat * 14)).block, (ad.add (i.toNat * 14)).off + 11, none⟩ = some (.int .u32 (rd_T47 xs i).f2.f4) ∧ w.cell? ⟨(ad.add (i.toNat * 14)).block, (ad.add (i.toNat * 14)).off + 12, none⟩ = some (.slice A12 (rd_T47 xs i).f2.f5.length c12) ∧ w.cell? ⟨(ad.add (i.toNat * 14)).block, (ad.add (i.toNat * 14)).off + 13, none⟩ = some (.int .i64 (rd_T47 xs i).f3) ∧ (rd_T47 xs i).f0.length ≤ c0 ∧ k27.C w A0 (rd_T47 xs i).f0.length (rd_T47 xs i).f0 ∧ (rd_T47 xs i).f1.f5.length ≤ c6 ∧ k53.C w A6 (rd_T47 xs i).f1.f5.length (rd_T47 xs i).f1.f5 ∧ (rd_T47 xs i).f2.f5.length ≤ c12 ∧ k53.C w A12 (rd_T47 xs i).f2.f5.length (rd_T47 xs i).f2.f5 := by
 obtain ⟨ad, c, e, _, hK, hc0⟩ := Kd.C_get h z47 i h0 h1
 have hc : ∀ j u, c[j]? = some u → w.cell? (ad.add (i.toNat * 14 + j)) = some u := hc0
 obtain ⟨A0, c0, A6, c6, A12, c12, rfl, l0, g0, l6, g6, l12, g12⟩ := k47_open hK
 exact ⟨ad, A0, c0, A6, c6, A12, c12, e, hc 0 _ rfl, by rw [← add_field _ _ 1 (by omega)]; exact hc 1 _ rfl, by rw [← add_field _ _ 2 (by omega)]; exact hc 2 _ rfl, by rw [← add_field _ _ 3 (by omega)]; exact hc 3 _ rfl, by rw [← add_field _ _ 4 (by omega)]; exact hc 4 _ rfl, by rw [← add_field _ _ 5 (by omega)]; exact hc 5 _ rfl, by rw [← add_field _ _ 6 (by omega)]; exact hc 6 _ rfl, by rw [← add_field _ _ 7 (by omega)]; exact hc 7 _ rfl, by rw [← add_field _ _ 8 (by omega)]; exact hc 8 _ rfl, by rw [← add_field _ _ 9 (by omega)]; exact hc 9 _ rfl, by rw [← add_field _ _ 10 (by omega)]; exact hc 10 _ rfl, by rw [← add_field _ _ 11 (by omega)]; exact hc 11 _ rfl, by rw [← add_field _ _ 12 (by omega)]; exact hc 12 _ rfl, by rw [← add_field _ _ 13 (by omega)]; exact hc 13 _ rfl, l0, g0, l6, g6, l12, g12⟩

end Go.Proofs.Yteibolilodgjnaa.P

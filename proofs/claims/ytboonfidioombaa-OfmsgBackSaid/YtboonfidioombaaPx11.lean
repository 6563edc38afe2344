/- For each Go function a Lean function, and the proof that a call comes to what it tells: made by program out of the translation (the kit's print, with texts by hand put in). No condition. -/
import Derived.Test.YtboonfidioombaaSq
import Derived.Test.YtboonfidioombaaPx0
import Derived.Test.YtboonfidioombaaPx10
namespace Go.Proofs.Ytboonfidioombaa.P
open Go.RowKit Go.Proofs.Ytboonfidioombaa.HRows Go.Proofs.YtboonfidioombaaW.PrintWords Go.Proofs.YtboonfidioombaaW.PrintLast Go.Proofs.YtboonfidioombaaW.PrintMore
attribute [local go_sem] max2_int min2_int max_two min_two max_three min_three max_four min_four
set_option linter.unusedVariables false
set_option linter.unusedSimpArgs false
/-- The byte at a place of an address. -/
def partV (a : Int) (i : Nat) : Int := if i = 0 then a / 16777216 % 256 else if i = 1 then a / 65536 % 256 else if i = 2 then a / 256 % 256 else a % 256
def partsTo (a : Int) (i : Nat) : List Int := (List.range 4).map (fun j => if j < i then partV a j else 0)
theorem partsTo_set (a : Int) (i : Nat) (hi : i < 4) : (partsTo a i).set i (partV a i) = partsTo a (i + 1) := by
 unfold partsTo
 refine List.ext_getElem (by simp) (fun j h1 h2 => ?_)
 rw [List.getElem_set, List.getElem_map, List.getElem_map, List.getElem_range]
 by_cases e : i = j
 ·subst e; rw [if_pos rfl, if_pos (by omega)]
 ·rw [if_neg e]
  by_cases h : j < i
  ·rw [if_pos h, if_pos (by omega)]
  ·rw [if_neg h, if_neg (by omega)]
def bytes4 (a : Int) : List Int := [a / 16777216 % 256, a / 65536 % 256, a / 256 % 256, a % 256]
theorem partsTo_all (a : Int) : partsTo a 4 = bytes4 a := rfl
theorem partsTo_len (a : Int) (i : Nat) : (partsTo a i).length = 4 := by simp [partsTo]
theorem part_ok (a : Int) (i : Nat) (hi : i < 4) : addr_part.f a (i : Int) = some (partV a i) := by
 unfold addr_part.f partV shr
 have h : i = 0 ∨ i = 1 ∨ i = 2 ∨ i = 3 := by omega
 rcases h with rfl | rfl | rfl | rfl
 ·have e : wrap64 (24 - wrap64 (8 * ((0 : Nat) : Int))) = 24 := by decide +kernel
  rw [e]; rfl
 ·have e : wrap64 (24 - wrap64 (8 * ((1 : Nat) : Int))) = 16 := by decide +kernel
  rw [e]; rfl
 ·have e : wrap64 (24 - wrap64 (8 * ((2 : Nat) : Int))) = 8 := by decide +kernel
  rw [e]; rfl
 ·have e : wrap64 (24 - wrap64 (8 * ((3 : Nat) : Int))) = 0 := by decide +kernel
  rw [e]
  rw [if_pos (by omega), if_neg (by omega), if_neg (by omega), if_neg (by omega)]
  simp
def addr_Bytes.f (a0 : Int) : Option (List Int) := some (bytes4 a0)
set_option maxHeartbeats 1000000 in
theorem addr_Bytes.calls (a0 : Int) (r : List Int) (w : World) (h : addr_Bytes.f a0 = some r) :
  Calls Try.prog 41 #[.int .u32 a0] w fun e w' => ∃ v0_ : Value, e = .returned (v0_) ∧ Kd.R (Kd.int .u8) 5 w' w.heap.size (fun _ => True) v0_ r ∧ Below w.heap.size w w' := by
 obtain rfl := Option.some.inj h
 clear h
 go_enter Try.func41, Try.ntmps41
 go_wp2_with ((with_reducible refine gate_dst (N := 5) rfl ?_); refine Stop0.out ?_)
 refine ⟨?_⟩
 refine Kd.R_make (Kd.int .u8) (w0 := w) w.heap.size 5 (by rfl) (N := 5) (by rfl) 27 (.const (.int .i64 4)) (.const (.int .i64 4)) (by rfl) 4 (by rfl) (by rfl) Try.underlying27 (.int .u8 0) 1 info5 rfl (by decide) (by omega) 0 (ok := fun _ => True) (okp := fun _ => False) rfl (fun _ h => h.elim) trivial (by omega) (by decide) (Below.refl _ _) (Nat.le_refl _) ?_
 intro v1 w1 hR hB _ _
 have HR := m_ (show Kd.R (Kd.int .u8) 5 w1 w.heap.size (fun _ => True) v1 (partsTo a0 0) from hR)
 have HB := m_ hB
 obtain ⟨g, cap, rfl, _⟩ := Kd.R_form HR.out (by rw [partsTo_len]; omega)
 rw [partsTo_len] at HR ⊢
 clear hR hB
 go_wp2
 go_loopg [4, 8] 4 (fun gg _ s8 wr => ∃ i : Nat, i ≤ 4 ∧ 4 - i ≤ gg ∧ s8 = .int .i64 i ∧ Aside0 (Kd.R (Kd.int .u8) 5 wr w.heap.size (fun _ => True) (.slice (some ⟨g, 0, none⟩) 4 cap) (partsTo a0 i)) ∧ Aside0 (Below w.heap.size w wr))
 case atStart => exact ⟨0, by omega, by omega, rfl, HR, HB⟩
 case round =>
  clear HR HB
  obtain ⟨i, hi, hg, rfl, HR, HB⟩ := hrel
  by_cases hlt : i < 4
  ·have hlt' : (i : Int) < 4 := by omega
   go_wp2_with (go_at_call 50; refine Stop0.out ?_)
   refine ⟨?_⟩
   refine (addr_part.calls a0 (i : Int) (partV a0 i) _ (part_ok a0 i hlt)).mono ?_
   rintro e w2 ⟨rfl, hdr⟩
   have HR2 := m_ (Kd.R_below HR.out hdr.below)
   have HB2 := m_ (below_then HB.out HB.out.size hdr.below)
   have hgb := Kd.R_base HR2.out g rfl
   obtain ⟨c1, f1⟩ := Kd.R_celln 0 HR2.out (i : Int) (by omega) (by omega)
   have hput := Kd.R_putg HR2.out (i : Int) (partV a0 i)
   rw [Int.toNat_natCast] at c1 f1 hput
   rw [partsTo_set a0 i hlt] at hput
   have HP := m_ hput
   have HGB := m_ hgb
   clear hput hgb hdr HR HB HR2
   generalize partV a0 i = z at HP ⊢
   go_wp2
   clear c1 f1
   go_roundg (4 - (i + 1))
   case measure => omega
   case rel => exact ⟨i + 1, by omega, by omega, by go_num, ⟨HP.out.1⟩, ⟨HB2.out.setCell HGB.out _⟩⟩
  ·have hlt' : ¬ (i : Int) < 4 := by omega
   obtain rfl : i = 4 := by omega
   go_wp2
   go_ret
   exact ⟨_, rfl, HR.out, HB.out⟩
end Go.Proofs.Ytboonfidioombaa.P

/- For each Go function a Lean function, and the proof that a call comes to what it tells: made by program out of the translation (the kit's print, with texts by hand put in). No condition. -/
import Derived.Test.YtboonfidioombaaSq
import Derived.Test.YtboonfidioombaaPx0
namespace Go.Proofs.Ytboonfidioombaa.P
open Go.RowKit Go.Proofs.Ytboonfidioombaa.HRows Go.Proofs.YtboonfidioombaaW.PrintWords Go.Proofs.YtboonfidioombaaW.PrintLast Go.Proofs.YtboonfidioombaaW.PrintMore
attribute [local go_sem] max2_int min2_int max_two min_two max_three min_three max_four min_four
set_option linter.unusedVariables false
set_option linter.unusedSimpArgs false
/-- A row without elements, with room for some: of nil alone. -/
theorem growByte_calls (n : Nat) (hn : n ≤ 1000000000) (w : World) :
  Calls Try.prog 42 #[.slice none 0 0, .int .i64 (n : Int)] w fun e w' => ∃ v : Value, e = .returned v ∧ Kd.R (Kd.int .u8) 5 w' w.heap.size (fun _ => True) v [] ∧ Below w.heap.size w w' := by
 rcases Nat.eq_zero_or_pos n with h0 | h0
 ·subst h0
  go_enter Try.func42, Try.ntmps42
  go_wp2
  go_ret
  exact ⟨_, rfl, Kd.R_nil _ _ _ _ _, Below.refl _ _⟩
 ·have h1 : (0 : Int) < (n : Int) := by omega
  have h2 : decide (0 < n) = true := decide_eq_true h0
  have h3 : decide ((n : Int) > 0) = true := decide_eq_true h1
  go_enter Try.func42, Try.ntmps42
  go_wp2_with ((with_reducible refine gate_builtin (b := .append) (xs := #[.tmp 20, .tmp 21]) rfl ?_); refine Stop0.out ?_)
  refine ⟨?_⟩
  refine Kd.R_append_zeros (Kd.int .u8) (w0 := w) w.heap.size (by rfl) (.tmp 20) (.tmp 21) 27 3 5 (.int .u8 0) 1 (by rfl) Try.underlying27 (k := .i64) Try.underlying3 info5 rfl (by decide) (by omega) (.slice none 0 0) [] 0 (kx := .i64) (n : Int) (fun _ => True) (by rfl) (by rfl) rfl (fun _ _ => trivial) (Kd.R_nil _ _ _ _ _) (by omega) (Below.refl _ _) (Nat.le_refl _) (by simp; omega) ?_
  intro v1 w1 r1 r2 _ _
  obtain ⟨A1, c1, rfl⟩ := Kd.R_slice r1
  have r3 := Kd.R_take (m := 0) r1 (Nat.zero_le _)
  have HR := m_ r3
  have HB := m_ r2
  have hlen : ([] ++ List.replicate (n : Int).toNat (0 : Int)).length = n := by simp
  rw [hlen]
  clear r1 r2 r3 hlen
  go_wp2
  go_ret
  exact ⟨_, rfl, HR.out, HB.out⟩
def slices_Concat_byte_byte.f (l0 : List (List Int)) : Option (List Int) := if l0.length ≤ 1000 ∧ l0.flatten.length ≤ 100000000 then some l0.flatten else none
theorem byteRows_at {w : World} {A : Option Addr} {n : Nat} {xs : List (List Int)} (h : Kd.C (Kd.slice 5 (Kd.int .u8)) w A n xs) (i : Nat) (hi : i < n) : ∃ ad A0 c0, A = some ad ∧ w.cell? (ad.add i) = some (.slice A0 (xs.getD i []).length c0) ∧ (xs.getD i []).length ≤ c0 ∧ (Kd.int .u8).C w A0 (xs.getD i []).length (xs.getD i []) := by
 obtain ⟨ad, c, e, _, hK, hc0⟩ := Kd.C_get h ([] : List Int) (i : Int) (by omega) (by omega)
 have hc : ∀ j u, c[j]? = some u → w.cell? (ad.add (i * 1 + j)) = some u := hc0
 obtain ⟨A0, c0, rfl, l0, g0⟩ := hK
 rw [Int.toNat_natCast] at hc l0 g0
 exact ⟨ad, A0, c0, e, (by have hq := hc 0 _ rfl; rwa [Nat.mul_one, Nat.add_zero] at hq), l0, g0⟩
theorem take_flat (l : List (List Int)) (i : Nat) (hi : i < l.length) : (l.take (i + 1)).flatten = (l.take i).flatten ++ l.getD i [] := by
 rw [List.take_succ_eq_append_getElem hi, List.flatten_append, List.getD_eq_getElem?_getD, List.getElem?_eq_getElem hi]
 simp
theorem take_flat_le (l : List (List Int)) (i : Nat) : (l.take i).flatten.length ≤ l.flatten.length := by
 have h : l.flatten = (l.take i).flatten ++ (l.drop i).flatten := by rw [← List.flatten_append, List.take_append_drop]
 rw [h, List.length_append]
 omega
set_option maxHeartbeats 4000000 in
set_option maxRecDepth 100000 in
theorem slices_Concat_byte_byte.calls (A0 : Option Addr) (c0 : Nat) (l0 : List (List Int)) (r : List Int) (w : World) (hr0 : Kd.C (Kd.slice 5 (Kd.int .u8)) w A0 l0.length l0) (hc0 : l0.length ≤ c0) (h : slices_Concat_byte_byte.f l0 = some r) :
  Calls Try.prog 25 #[.slice A0 l0.length c0] w fun e w' => ∃ v0_ : Value, e = .returned (v0_) ∧ Kd.R (Kd.int .u8) 5 w' w.heap.size (fun _ => True) v0_ r ∧ Below w.heap.size w w' := by
 unfold slices_Concat_byte_byte.f at h
 split at h
 case isFalse => cases h
 case isTrue hb =>
 obtain rfl := Option.some.inj h
 clear h
 obtain ⟨hn, hfl⟩ := hb
 have HR := m_ hr0
 clear hr0 hc0
 go_enter Try.func25, Try.ntmps25
 go_wp2
 go_loopg [3, 5, 11] l0.length (fun gg s3 _ s11 wr => ∃ i : Nat, i ≤ l0.length ∧ l0.length - i ≤ gg ∧ s11 = .int .i64 i ∧ s3 = .int .i64 ((l0.take i).flatten.length : Nat) ∧ Aside0 (w = wr))
 case atStart => exact ⟨0, Nat.zero_le _, by omega, rfl, rfl, ⟨rfl⟩⟩
 case round =>
  obtain ⟨i, hi, hg, rfl, rfl, HW⟩ := hrel
  obtain rfl := HW.out
  by_cases hlt : i < l0.length
  ·have hlt' : (i : Int) < (l0.length : Int) := by omega
   obtain ⟨ad, A1, c1, rfl, hcell, _, _⟩ := byteRows_at HR.out i hlt
   have HT := m_ (take_flat l0 i hlt)
   have hle := take_flat_le l0 (i + 1)
   rw [HT.out, List.length_append] at hle
   have hnn : decide (((l0.take i).flatten.length : Int) + ((l0.getD i []).length : Int) < 0) = false := decide_eq_false (by omega)
   generalize hx : l0.getD i [] = x at hcell hle hnn
   have HX := m_ hx
   generalize hy : (l0.take i).flatten.length = y at hle hnn
   have HY := m_ hy
   clear hx hy
   go_wp2
   go_roundg (l0.length - (i + 1))
   case measure => omega
   case rel => exact ⟨i + 1, by omega, by omega, by go_num, by rw [HT.out, List.length_append, HX.out, HY.out]; go_num, ⟨rfl⟩⟩
  ·have hlt' : ¬ (i : Int) < (l0.length : Int) := by omega
   obtain rfl : i = l0.length := by omega
   have hk : (l0.take l0.length).flatten.length = l0.flatten.length := by rw [List.take_length]
   generalize (l0.take l0.length).flatten.length = y at hk ⊢
   have HK := m_ hk
   have hy : y ≤ 100000000 := by omega
   clear hk
   go_wp2_with (go_at_call 42; refine Stop0.out ?_)
   refine ⟨?_⟩
   refine (growByte_calls y (by omega) w).mono ?_
   rintro e w1 ⟨v1, rfl, hR1, hB1⟩
   have HR1 := m_ hR1
   have HB1 := m_ hB1
   clear hR1 hB1
   go_wp2
   go_loopg [6, 8, 27] l0.length (fun gg s6 _ s27 wr => ∃ i : Nat, i ≤ l0.length ∧ l0.length - i ≤ gg ∧ s27 = .int .i64 i ∧ Aside0 (Kd.R (Kd.int .u8) 5 wr w.heap.size (fun _ => True) s6 (l0.take i).flatten ∧ Below w.heap.size w wr))
   case atStart => exact ⟨0, Nat.zero_le _, by omega, rfl, ⟨HR1.out, HB1.out⟩⟩
   case round =>
    clear HR1 HB1
    obtain ⟨i, hi, hg, rfl, HI⟩ := hrel
    by_cases hlt : i < l0.length
    ·have hlt' : (i : Int) < (l0.length : Int) := by omega
     obtain ⟨ad, A1, c1, hA, hcell, hc1, hC⟩ := byteRows_at (Kd.C_below HR.out HI.out.2) i hlt
     cases hA
     have HT := m_ (take_flat l0 i hlt)
     have hle := take_flat_le l0 (i + 1)
     rw [HT.out, List.length_append] at hle
     generalize hx : l0.getD i [] = x at hcell hle hC hc1
     have HX := m_ hx
     have HC := m_ hC
     clear hx hC hc1
     go_wp2_with ((with_reducible refine gate_builtin (b := .append) (xs := #[.tmp 31, .tmp 32]) rfl ?_); refine Stop0.out ?_)
     refine ⟨?_⟩
     refine Kd.R_append_rows (Kd.int .u8) (w0 := w) w.heap.size (by rfl) (.tmp 31) (.tmp 32) 27 5 (.int .u8 0) 1 (by rfl) Try.underlying27 info5 rfl (by decide) (by omega) u6 (l0.take i).flatten x _ _ _ (fun _ => True) (fun _ => False) (by rfl) (by rfl) HI.out.1 HC.out (fun _ _ h => h) (fun _ h => h.elim) (fun _ _ => trivial) HI.out.2 HI.out.2.size (by omega) ?_
     intro v2 w2 r1 r2 _ _
     have HI2 := m_ (And.intro r1 r2)
     clear r1 r2
     go_wp2
     go_roundg (l0.length - (i + 1))
     case measure => omega
     case rel => exact ⟨i + 1, by omega, by omega, by go_num, ⟨by rw [HT.out, HX.out]; exact HI2.out.1, HI2.out.2⟩⟩
    ·have hlt' : ¬ (i : Int) < (l0.length : Int) := by omega
     obtain rfl : i = l0.length := by omega
     go_wp2
     go_ret
     refine ⟨_, rfl, ?_, HI.out.2⟩
     have := HI.out.1
     rwa [List.take_length] at this
def ofmsg_two.f (a0 : Int) : Option (List Int) := some (([(a0 / 256) % 256, (a0) % 256] : List Int))
set_option maxHeartbeats 8000000 in
set_option maxRecDepth 100000 in
theorem ofmsg_two.calls (a0 : Int) (r : List Int) (w : World) (h : ofmsg_two.f a0 = some r) :
  Calls Try.prog 26 #[.int .i64 a0] w fun e w' => ∃ v0_ : Value, e = .returned (v0_) ∧ Kd.R (Kd.int .u8) 5 w' w.heap.size (fun _ => True) v0_ r ∧ Below w.heap.size w w' := by
 have HB := m_ (Below.refl w.heap.size w)
 have H : (some (([(a0 / 256) % 256, (a0) % 256] : List Int))) = some r := h
 clear h
 obtain ⟨y128, hy128⟩ : ∃ y_ : List Int, y_ = (([(a0 / 256) % 256, (a0) % 256] : List Int)) := ⟨_, rfl⟩
 replace H : (some y128) = some r := by first | (rw [hy128]; with_reducible exact H) | (have H2_ := (Option.bind_some _ _).symm.trans H; rw [hy128]; with_reducible exact H2_) | (have H2_ := (Option.bind_some _ _).symm.trans H; with_reducible exact H2_) | with_reducible exact H | (rw [hy128]; exact H) | exact H
 have Ny128 := m_ hy128
 clear hy128
 obtain rfl := Option.some.inj H
 go_enter Try.func26, Try.ntmps26
 go_wp2_with (first | ((with_reducible refine gate_dst (N := 8) rfl ?_); refine Kd.R_lit (Kd.int .u8) _ 5 ?hg (N := 8) ?hd (xs := ([(a0 / 256) % 256, (a0) % 256] : List Int)) (inner := [.int .u8 ((a0 / 256) % 256), .int .u8 ((a0) % 256)]) (ok := fun _ => True) (okp := fun _ => True) ?hr ?hp (fun _ hk => hk) trivial (Below.refl _ _) (Nat.le_refl _) (by simp) ?_; (case hd => rfl); (case hg => rfl); (case hr => first | (go_simp; done) | (go_simp; rfl)); (case hp => exact (Reps.one (show Kd.M (Kd.int .u8) _ _ _ ((a0 / 256) % 256) [.int .u8 ((a0 / 256) % 256)] from rfl) (Reps.one (show Kd.M (Kd.int .u8) _ _ _ ((a0) % 256) [.int .u8 ((a0) % 256)] from rfl) (Reps.none _ _)))); intro v129 w2 ho3 hb hg_ hnew_; clear hg_ hnew_; (first | rw [← Ny128.out] at ho3 | (simp only [Int.reduceToNat] at ho3; rw [← Ny128.out] at ho3)); have HO130 := m_ (Kd.R_lower ho3 (below_size bz_)); replace HB := m_ (below_step bz_ hb); clear hb ho3))
 go_ret
 exact ⟨_, ew_, (Rz_ HO130.out), bz_⟩
def ofmsg_four.f (a0 : Int) : Option (List Int) := (ofmsg_two.f (wrap64 (a0 / 65536))).bind fun t131 => ((ofmsg_two.f (wrap64 (Go.bits .and .u32 a0 65535))).bind fun t134 => ((slices_Concat_byte_byte.f (([t131, t134] : List (List Int)))).bind fun t140 => (some t140)))
set_option maxHeartbeats 8000000 in
set_option maxRecDepth 100000 in
theorem ofmsg_four.calls (a0 : Int) (r : List Int) (w : World) (h : ofmsg_four.f a0 = some r) :
  Calls Try.prog 27 #[.int .u32 a0] w fun e w' => ∃ v0_ : Value, e = .returned (v0_) ∧ Kd.R (Kd.int .u8) 5 w' w.heap.size (fun _ => True) v0_ r ∧ Below w.heap.size w w' := by
 have HB := m_ (Below.refl w.heap.size w)
 have H : ((ofmsg_two.f (wrap64 (a0 / 65536))).bind fun t131 => ((ofmsg_two.f (wrap64 (Go.bits .and .u32 a0 65535))).bind fun t134 => ((slices_Concat_byte_byte.f (([t131, t134] : List (List Int)))).bind fun t140 => (some t140)))) = some r := h
 clear h
 replace H := Option.bind_eq_some_iff.mp H
 obtain ⟨t131, A20, H⟩ := H
 replace H : ((ofmsg_two.f (wrap64 (Go.bits .and .u32 a0 65535))).bind fun t134 => ((slices_Concat_byte_byte.f (([t131, t134] : List (List Int)))).bind fun t140 => (some t140))) = some r := H
 have A2 := m_ A20
 clear A20
 replace H := Option.bind_eq_some_iff.mp H
 obtain ⟨t134, A30, H⟩ := H
 replace H : ((slices_Concat_byte_byte.f (([t131, t134] : List (List Int)))).bind fun t140 => (some t140)) = some r := H
 have A3 := m_ A30
 clear A30
 obtain ⟨y137, hy137⟩ : ∃ y_ : List (List Int), y_ = (([t131, t134] : List (List Int))) := ⟨_, rfl⟩
 replace H : ((slices_Concat_byte_byte.f y137).bind fun t140 => (some t140)) = some r := by first | (rw [hy137]; with_reducible exact H) | (have H2_ := (Option.bind_some _ _).symm.trans H; rw [hy137]; with_reducible exact H2_) | (have H2_ := (Option.bind_some _ _).symm.trans H; with_reducible exact H2_) | with_reducible exact H | (rw [hy137]; exact H) | exact H
 have Ny137 := m_ hy137
 clear hy137
 replace H := Option.bind_eq_some_iff.mp H
 obtain ⟨t140, A40, H⟩ := H
 replace H : (some t140) = some r := H
 have A4 := m_ A40
 clear A40
 obtain rfl := Option.some.inj H
 go_enter Try.func27, Try.ntmps27
 go_wp2_with (first | ((with_reducible refine gate_callee (f := 26) rfl ?_); refine gL_ (some 6) Try.func26 #[.int .i64 (wrap64 (a0 / 65536))] ?_; (with_reducible refine (ofmsg_two.calls (wrap64 (a0 / 65536)) t131 _ A2.out).mono ?_); rintro e w5 ⟨v132, rfl, ho0, hb⟩; refine ⟨_, rfl, ?_⟩; have HO133 := m_ (Kd.R_lower ho0 (below_size bz_)); replace HB := m_ (below_step bz_ hb); (try clear hb); (try clear hb2); (try clear hk); (try clear hi); (try clear ho0)) | ((with_reducible refine gate_callee (f := 26) rfl ?_); refine gL_ (some 10) Try.func26 #[.int .i64 (wrap64 (Go.bits .and .u32 a0 65535))] ?_; (with_reducible refine (ofmsg_two.calls (wrap64 (Go.bits .and .u32 a0 65535)) t134 _ A3.out).mono ?_); rintro e w6 ⟨v135, rfl, ho0, hb⟩; refine ⟨_, rfl, ?_⟩; have HO136 := m_ (Kd.R_lower (Kd.R_new' ho0 (Kd.R_lt (Rz_ HO133.out))) (below_size bz_)); replace HO133 := m_ (Kd.R_elder' (Rz_ HO133.out) (Kd.R_base ho0) hb); replace HB := m_ (below_step bz_ hb); (try clear hb); (try clear hb2); (try clear hk); (try clear hi); (try clear ho0); obtain ⟨Ao7, co7, eo7⟩ := Kd.R_slice HO133.out; subst eo7; obtain ⟨Ao8, co8, eo8⟩ := Kd.R_slice HO136.out; subst eo8) | ((with_reducible refine gate_dst (N := 11) rfl ?_); refine Kd.N_lit (Kd.slice 5 (Kd.int .u8)) _ 27 ?hg (N' := 11) ?hd (xs := ([t131, t134] : List (List Int))) (inner := [.slice Ao7 t131.length co7, .slice Ao8 t134.length co8]) (ok := (fun _ => True)) (okp := (fun _ => True)) ?hr ?hp (fun _ hk => hk) ((show ∀ k_, w6.heap.size ≤ k_ → (fun _ => True) k_ from fun k_ hk => trivial) _ (Nat.le_refl _)) (Below.refl _ _) (Nat.le_refl _) (by simp) ?_; (case hd => rfl); (case hg => rfl); (case hr => first | (go_simp; done) | (go_simp; rfl)); (case hp => exact (Reps.one (show Kd.FK (Kd.slice 5 (Kd.int .u8)) _ _ t131 [.slice Ao7 t131.length co7] from (Kd.FK_slice_mk (Kd.R_reads' (Kd.R_mono (ok' := (fun _ => True)) (HO133.out) (fun k_ hk => trivial))).2.1 (Kd.R_F (Kd.R_mono (ok' := (fun _ => True)) (HO133.out) (fun k_ hk => trivial))))) (Reps.one (show Kd.FK (Kd.slice 5 (Kd.int .u8)) _ _ t134 [.slice Ao8 t134.length co8] from (Kd.FK_slice_mk (Kd.R_reads' (Kd.R_mono (ok' := (fun _ => True)) (HO136.out) (fun k_ hk => trivial))).2.1 (Kd.R_F (Kd.R_mono (ok' := (fun _ => True)) (HO136.out) (fun k_ hk => trivial))))) (Reps.none _ _)))); intro v138 w9 ho10 hb hg_ hnew_; clear hg_ hnew_; (first | rw [← Ny137.out] at ho10 | (simp only [Int.reduceToNat] at ho10; rw [← Ny137.out] at ho10)); have HO139 := m_ (Kd.N_lower ho10 (below_size bz_)); replace HB := m_ (below_step bz_ hb); clear HO133 HO136 hb ho10; obtain ⟨Ao11, co11, eo11⟩ := Kd.N_slice HO139.out; subst eo11) | ((with_reducible refine gate_callee (f := 25) rfl ?_); refine gL_ (some 12) Try.func25 #[.slice Ao11 y137.length co11] ?_; (with_reducible refine (slices_Concat_byte_byte.calls _ _ y137 t140 _ ?side1 ?side2 A4.out).mono ?_); (case side1 => exact Cd_ (Kd.N_reads' HO139.out).2.2); (case side2 => exact (Kd.N_reads' HO139.out).2.1); rintro e w12 ⟨v141, rfl, ho0, hb⟩; refine ⟨_, rfl, ?_⟩; have HO142 := m_ (Kd.R_lower ho0 (below_size bz_)); replace HO139 := m_ (Kd.N_elder' (Nz_ HO139.out) (Kd.R_base ho0) hb); replace HB := m_ (below_step bz_ hb); (try clear hb); (try clear hb2); (try clear hk); (try clear hi); (try clear ho0)))
 go_ret
 exact ⟨_, ew_, (Rz_ HO142.out), bz_⟩
def ofmsg_ruled.l0 : Nat → List Int → List (S59) → Int → Int → Option (List Int)
 | 0, _, _, _, _ => none
 | k + 1, x3, x20, x21, x22 => if x22 < x21 then (if 0 ≤ x22 then (if x22 < (x20.length : Int) then (if x3.length < 140737488355328 then (ofmsg_ruled.l0 k (x3 ++ [((rd_T59 x20 x22).f0) % 256]) x20 x21 (wrap64 (x22 + 1))) else (none)) else (none)) else (none)) else (some x3)
def ofmsg_ruled.f (k : Nat) (a0_0 : Int) (a0_1 : Int) (a0_2 : Int) (a0_3 : Int) (a0_4 : Int) (l0_5 : List (S59)) : Option (List Int) := (ofmsg_two.f (Go.bits .and .i64 a0_3 65535)).bind fun t144 => ((ofmsg_four.f a0_4).bind fun t147 => ((ofmsg_two.f (l0_5.length : Int)).bind fun t150 => ((slices_Concat_byte_byte.f (([t144, t147, t150] : List (List Int)))).bind fun t156 => (ofmsg_ruled.l0 k t156 l0_5 (l0_5.length : Int) 0))))
theorem ofmsg_ruled.mono_l : ∀ k, (∀ y0 y1 y2 y3, LeO (ofmsg_ruled.l0 k y0 y1 y2 y3) (ofmsg_ruled.l0 (k + 1) y0 y1 y2 y3))
 | 0 => fun _ _ _ _ r h => by simp [ofmsg_ruled.l0] at h
 | k + 1 => by
  have ih0 := ofmsg_ruled.mono_l k
  ·intro y0 y1 y2 y3
   unfold ofmsg_ruled.l0
   repeat' first
   | (with_reducible exact ih0 _ _ _ _)
   | (with_reducible exact LeO.refl _)
   | (with_reducible exact LeO.none _)
   | (with_reducible refine LeO.ite ?_ ?_)
   | (with_reducible refine LeO.bind ?_ (fun _ => ?_))
   | exact ih0 _ _ _ _
   | exact LeO.none _
   | refine LeO.ite ?_ ?_
   | refine LeO.bind ?_ (fun _ => ?_)
theorem ofmsg_ruled.mono : ∀ a0 a1 a2 a3 a4 a5 k, LeO (ofmsg_ruled.f k a0 a1 a2 a3 a4 a5) (ofmsg_ruled.f (k + 1) a0 a1 a2 a3 a4 a5) := by
 intro a0 a1 a2 a3 a4 a5 k
 have ih0 := ofmsg_ruled.mono_l k
 unfold ofmsg_ruled.f
 repeat' first
   | (with_reducible exact ih0 _ _ _ _)
   | (with_reducible exact LeO.refl _)
   | (with_reducible exact LeO.none _)
   | (with_reducible refine LeO.ite ?_ ?_)
   | (with_reducible refine LeO.bind ?_ (fun _ => ?_))
   | exact ih0 _ _ _ _
   | exact LeO.none _
   | refine LeO.ite ?_ ?_
   | refine LeO.bind ?_ (fun _ => ?_)
def ofmsg_ruled.T1 : Bool × List (List Nat × List Nat) := (true, [([], []), ([0], [0]), ([1], [1]), ([2], [2]), ([], []), ([4], [4]), ([5, 3], [5]), ([], []), ([7], [7]), ([8], [8]), ([9, 6], [9]), ([3, 6, 10], [3, 6, 10]), ([11, 10], [11]), ([12, 12, 0, 1, 2, 3, 4, 5, 6, 7, 8, 9, 10, 11, 12], [12])])
def ofmsg_ruled.B1 : List Nat := [0, 1, 3, 7, 0, 16, 63, 0, 128, 384, 1023, 2047, 4095, 8191]
theorem ofmsg_ruled.tab1 : rtab .any (opsOf Try.f40 1) = ofmsg_ruled.T1 := by kernel_rfl
theorem ofmsg_ruled.bits1 : waitsOk ofmsg_ruled.T1.2 ofmsg_ruled.B1 = true := by kernel_rfl
set_option maxHeartbeats 8000000 in
set_option maxRecDepth 100000 in
theorem ofmsg_ruled.calls (k : Nat) (a0_0 : Int) (a0_1 : Int) (a0_2 : Int) (a0_3 : Int) (a0_4 : Int) (A0_5 : Option Addr) (c0_5 : Nat) (l0_5 : List (S59)) (r : List Int) (w : World) (hr0_5 : Kd.C k59 w A0_5 l0_5.length l0_5) (hc0_5 : l0_5.length ≤ c0_5) (h : ofmsg_ruled.f k a0_0 a0_1 a0_2 a0_3 a0_4 l0_5 = some r) :
  Calls Try.prog 40 #[.agg #[.int .u32 a0_0, .int .u32 a0_1, .int .u32 a0_2, .int .i64 a0_3, .int .u32 a0_4, .slice A0_5 l0_5.length c0_5]] w fun e w' => ∃ v0_ : Value, e = .returned (v0_) ∧ Kd.R (Kd.int .u8) 5 w' w.heap.size (fun _ => True) v0_ r ∧ Below w.heap.size w w' := by
 have hu26 := Try.underlying26
 have hu59 := Try.underlying59
 have HR0_5 := m_ hr0_5
 have HC0_5 := m_ hc0_5
 clear hr0_5 hc0_5
 have HB := m_ (Below.refl w.heap.size w)
 have H : ((ofmsg_two.f (Go.bits .and .i64 a0_3 65535)).bind fun t144 => ((ofmsg_four.f a0_4).bind fun t147 => ((ofmsg_two.f (l0_5.length : Int)).bind fun t150 => ((slices_Concat_byte_byte.f (([t144, t147, t150] : List (List Int)))).bind fun t156 => (ofmsg_ruled.l0 k t156 l0_5 (l0_5.length : Int) 0))))) = some r := h
 clear h
 replace H := Option.bind_eq_some_iff.mp H
 obtain ⟨t144, A20, H⟩ := H
 replace H : ((ofmsg_four.f a0_4).bind fun t147 => ((ofmsg_two.f (l0_5.length : Int)).bind fun t150 => ((slices_Concat_byte_byte.f (([t144, t147, t150] : List (List Int)))).bind fun t156 => (ofmsg_ruled.l0 k t156 l0_5 (l0_5.length : Int) 0)))) = some r := H
 have A2 := m_ A20
 clear A20
 replace H := Option.bind_eq_some_iff.mp H
 obtain ⟨t147, A30, H⟩ := H
 replace H : ((ofmsg_two.f (l0_5.length : Int)).bind fun t150 => ((slices_Concat_byte_byte.f (([t144, t147, t150] : List (List Int)))).bind fun t156 => (ofmsg_ruled.l0 k t156 l0_5 (l0_5.length : Int) 0))) = some r := H
 have A3 := m_ A30
 clear A30
 replace H := Option.bind_eq_some_iff.mp H
 obtain ⟨t150, A40, H⟩ := H
 replace H : ((slices_Concat_byte_byte.f (([t144, t147, t150] : List (List Int)))).bind fun t156 => (ofmsg_ruled.l0 k t156 l0_5 (l0_5.length : Int) 0)) = some r := H
 have A4 := m_ A40
 clear A40
 obtain ⟨y153, hy153⟩ : ∃ y_ : List (List Int), y_ = (([t144, t147, t150] : List (List Int))) := ⟨_, rfl⟩
 replace H : ((slices_Concat_byte_byte.f y153).bind fun t156 => (ofmsg_ruled.l0 k t156 l0_5 (l0_5.length : Int) 0)) = some r := by first | (rw [hy153]; with_reducible exact H) | (have H2_ := (Option.bind_some _ _).symm.trans H; rw [hy153]; with_reducible exact H2_) | (have H2_ := (Option.bind_some _ _).symm.trans H; with_reducible exact H2_) | with_reducible exact H | (rw [hy153]; exact H) | exact H
 have Ny153 := m_ hy153
 clear hy153
 replace H := Option.bind_eq_some_iff.mp H
 obtain ⟨t156, A50, H⟩ := H
 replace H : (ofmsg_ruled.l0 k t156 l0_5 (l0_5.length : Int) 0) = some r := H
 have A5 := m_ A50
 clear A50
 have H' := m_ H
 clear H
 go_enter Try.func40, Try.ntmps40
 try go_wp2_with (first | ((with_reducible refine gate_dst (N := 1) rfl ?_); refine bx_ 1 26 #[.int .u32 a0_0, .int .u32 a0_1, .int .u32 a0_2, .int .i64 a0_3, .int .u32 a0_4, .slice A0_5 l0_5.length c0_5] ?_; intro gb143 hg w6 hbox hb; have BK143 := m_ (hbox); have GW143 := m_ ((gw_ : w.heap.size ≤ gb143)); have GE143 := m_ ((gw_ : w.heap.size ≤ gb143)); replace HB := m_ (below_step bz_ hb); clear hb hbox hg))
 replace BK143 := m_ (blk_drew BK143.out)
 replace HB := m_ (below_drew1 HB.out)
 refine start_ (n := 14) (S := fun w' => w'.cell? ⟨gb143, 0, none⟩ = some (.int .u32 a0_0) ∧ w'.cell? ⟨gb143, 1, none⟩ = some (.int .u32 a0_1) ∧ w'.cell? ⟨gb143, 2, none⟩ = some (.int .u32 a0_2) ∧ w'.cell? ⟨gb143, 3, none⟩ = some (.int .i64 a0_3) ∧ w'.cell? ⟨gb143, 4, none⟩ = some (.int .u32 a0_4) ∧ w'.cell? ⟨gb143, 5, none⟩ = some (.slice A0_5 l0_5.length c0_5)) (ds := []) (bs_ 14 0) (by kernel_rfl) rfl rfl ⟨(blk_cell BK143.out 0).trans rfl, (blk_cell BK143.out 1).trans rfl, (blk_cell BK143.out 2).trans rfl, (blk_cell BK143.out 3).trans rfl, (blk_cell BK143.out 4).trans rfl, (blk_cell BK143.out 5).trans rfl⟩ (fun hHeld => ?_); refine with_tabW ofmsg_ruled.tab1 ofmsg_ruled.bits1 (fun HT_ HW_ => ?_)
 generalize w6.drew = w7 at BK143 HB hHeld ⊢
 refine pz_ 0 6 ?_
 refine pz_ 4 10 ?_
 refine pz_ 7 13 ?_
 refine tz_ 1 7 ?_
 refine pz_ 2 8 ?_
 refine tz_ 5 11 ?_
 refine tz_ 8 14 ?_
 refine pz_ 9 15 ?_
 refine oz_ 3 (some 9) (fun K hK => ?_)
 refine gz_ Try.func26 #[.int .i64 (Go.bits .and .i64 a0_3 65535)] ?_
 with_reducible refine (ofmsg_two.calls (Go.bits .and .i64 a0_3 65535) t144 _ A2.out).mono ?_
 rintro e w8 ⟨v145, rfl, ho0, hb⟩
 refine ⟨_, rfl, ?_⟩
 have HO146 := m_ (Kd.R_lower ho0 (below_size bz_))
 replace BK143 := m_ (kl_ gb143 hb)
 replace HB := m_ (below_step bz_ hb)
 (try clear hb)
 (try clear hb2)
 (try clear hk)
 (try clear hi)
 (try clear ho0)
 refine hK.out _ _ ⟨(blk_cell BK143.out 0).trans rfl, (blk_cell BK143.out 1).trans rfl, (blk_cell BK143.out 2).trans rfl, (blk_cell BK143.out 3).trans rfl, (blk_cell BK143.out 4).trans rfl, (blk_cell BK143.out 5).trans rfl⟩ (fun hHeld => ?_)
 clear hK K
 refine nz_ (some 9) ?_
 refine oz_ 6 (some 12) (fun K hK => ?_)
 refine gz_ Try.func27 #[.int .u32 a0_4] ?_
 with_reducible refine (ofmsg_four.calls a0_4 t147 _ A3.out).mono ?_
 rintro e w9 ⟨v148, rfl, ho0, hb⟩
 refine ⟨_, rfl, ?_⟩
 have HO149 := m_ (Kd.R_lower (Kd.R_new' ho0 (Kd.R_lt (Rz_ HO146.out))) (below_size bz_))
 replace HO146 := m_ (Kd.R_elder' (Rz_ HO146.out) (Kd.R_base ho0) hb)
 replace BK143 := m_ (kl_ gb143 hb)
 replace HB := m_ (below_step bz_ hb)
 (try clear hb)
 (try clear hb2)
 (try clear hk)
 (try clear hi)
 (try clear ho0)
 refine hK.out _ _ ⟨(blk_cell BK143.out 0).trans rfl, (blk_cell BK143.out 1).trans rfl, (blk_cell BK143.out 2).trans rfl, (blk_cell BK143.out 3).trans rfl, (blk_cell BK143.out 4).trans rfl, (blk_cell BK143.out 5).trans rfl⟩ (fun hHeld => ?_)
 clear hK K
 refine nz_ (some 12) ?_
 refine oz_ 10 (some 16) (fun K hK => ?_)
 refine gz_ Try.func26 #[.int .i64 (l0_5.length : Int)] ?_
 with_reducible refine (ofmsg_two.calls (l0_5.length : Int) t150 _ A4.out).mono ?_
 rintro e w10 ⟨v151, rfl, ho0, hb⟩
 refine ⟨_, rfl, ?_⟩
 have HO152 := m_ (Kd.R_lower (Kd.R_new' (Kd.R_new' ho0 (Kd.R_lt (Rz_ HO146.out))) (Kd.R_lt (Rz_ HO149.out))) (below_size bz_))
 replace HO146 := m_ (Kd.R_elder' (Rz_ HO146.out) (Kd.R_base ho0) hb)
 replace HO149 := m_ (Kd.R_elder' (Rz_ HO149.out) (Kd.R_base ho0) hb)
 replace BK143 := m_ (kl_ gb143 hb)
 replace HB := m_ (below_step bz_ hb)
 (try clear hb)
 (try clear hb2)
 (try clear hk)
 (try clear hi)
 (try clear ho0)
 obtain ⟨Ao11, co11, eo11⟩ := Kd.R_slice HO146.out
 (first | subst eo11 | (injection eo11 with f1_ f2_ f3_; have f4_ := f1_.symm; have f5_ := f3_.symm; clear f1_ f2_ f3_; subst f4_; subst f5_))
 obtain ⟨Ao12, co12, eo12⟩ := Kd.R_slice HO149.out
 (first | subst eo12 | (injection eo12 with f1_ f2_ f3_; have f4_ := f1_.symm; have f5_ := f3_.symm; clear f1_ f2_ f3_; subst f4_; subst f5_))
 obtain ⟨Ao13, co13, eo13⟩ := Kd.R_slice HO152.out
 (first | subst eo13 | (injection eo13 with f1_ f2_ f3_; have f4_ := f1_.symm; have f5_ := f3_.symm; clear f1_ f2_ f3_; subst f4_; subst f5_))
 refine hK.out _ _ ⟨(blk_cell BK143.out 0).trans rfl, (blk_cell BK143.out 1).trans rfl, (blk_cell BK143.out 2).trans rfl, (blk_cell BK143.out 3).trans rfl, (blk_cell BK143.out 4).trans rfl, (blk_cell BK143.out 5).trans rfl⟩ (fun hHeld => ?_)
 clear hK K
 refine nz_ (some 16) ?_
 refine oz_ 11 (some 17) (fun K hK => ?_)
 refine Kd.N_lit_step (Kd.slice 5 (Kd.int .u8)) _ 27 ?hg (N' := 17) ?hd (xs := ([t144, t147, t150] : List (List Int))) (inner := [.slice Ao11 t144.length co11, .slice Ao12 t147.length co12, .slice Ao13 t150.length co13]) (ok := (fun k_ => k_ ≠ gb143)) (okp := (fun k_ => k_ ≠ gb143)) ?hr ?hp (fun _ hk => hk) ((show ∀ k_, w10.heap.size ≤ k_ → (fun k_ => k_ ≠ gb143) k_ from fun k_ hk => Kd.freshB (g := gb143) (o := .cells #[.int .u32 a0_0, .int .u32 a0_1, .int .u32 a0_2, .int .i64 a0_3, .int .u32 a0_4, .slice A0_5 l0_5.length c0_5] 26 (0, 0)) kz_ k_ hk) _ (Nat.le_refl _)) (Below.refl _ _) (Nat.le_refl _) (by simp) ?_; (case hd => rfl); (case hg => rfl); (case hr => first | (go_simp; done) | (go_simp; rfl)); (case hp => exact (Reps.one (show Kd.FK (Kd.slice 5 (Kd.int .u8)) _ _ t144 [.slice Ao11 t144.length co11] from (Kd.FK_slice_mk (Kd.R_reads' (Kd.R_mono (ok' := (fun k_ => k_ ≠ gb143)) (Kd.R_types (HO146.out) BK143.out (by decide)) (fun k_ hk => hk.2))).2.1 (Kd.R_F (Kd.R_mono (ok' := (fun k_ => k_ ≠ gb143)) (Kd.R_types (HO146.out) BK143.out (by decide)) (fun k_ hk => hk.2))))) (Reps.one (show Kd.FK (Kd.slice 5 (Kd.int .u8)) _ _ t147 [.slice Ao12 t147.length co12] from (Kd.FK_slice_mk (Kd.R_reads' (Kd.R_mono (ok' := (fun k_ => k_ ≠ gb143)) (Kd.R_types (HO149.out) BK143.out (by decide)) (fun k_ hk => hk.2))).2.1 (Kd.R_F (Kd.R_mono (ok' := (fun k_ => k_ ≠ gb143)) (Kd.R_types (HO149.out) BK143.out (by decide)) (fun k_ hk => hk.2))))) (Reps.one (show Kd.FK (Kd.slice 5 (Kd.int .u8)) _ _ t150 [.slice Ao13 t150.length co13] from (Kd.FK_slice_mk (Kd.R_reads' (Kd.R_mono (ok' := (fun k_ => k_ ≠ gb143)) (Kd.R_types (HO152.out) BK143.out (by decide)) (fun k_ hk => hk.2))).2.1 (Kd.R_F (Kd.R_mono (ok' := (fun k_ => k_ ≠ gb143)) (Kd.R_types (HO152.out) BK143.out (by decide)) (fun k_ hk => hk.2))))) (Reps.none _ _)))))
 intro v154 w14 ho15 hb hg_ hnew_
 clear hg_ hnew_
 (first | rw [← Ny153.out] at ho15 | (simp only [Int.reduceToNat] at ho15; rw [← Ny153.out] at ho15))
 have HO155 := m_ (Kd.N_lower ho15 (below_size bz_))
 replace BK143 := m_ (kl_ gb143 hb)
 replace HB := m_ (below_step bz_ hb)
 clear HO146 HO149 HO152 hb ho15
 obtain ⟨Ao16, co16, eo16⟩ := Kd.N_slice HO155.out
 (first | subst eo16 | (injection eo16 with f1_ f2_ f3_; have f4_ := f1_.symm; have f5_ := f3_.symm; clear f1_ f2_ f3_; subst f4_; subst f5_))
 refine hK.out _ _ ⟨(blk_cell BK143.out 0).trans rfl, (blk_cell BK143.out 1).trans rfl, (blk_cell BK143.out 2).trans rfl, (blk_cell BK143.out 3).trans rfl, (blk_cell BK143.out 4).trans rfl, (blk_cell BK143.out 5).trans rfl⟩ (fun hHeld => ?_)
 clear hK K
 refine nz_ (some 17) ?_
 refine oz_ 12 (some 18) (fun K hK => ?_)
 refine gz_ Try.func25 #[.slice Ao16 y153.length co16] ?_
 with_reducible refine (slices_Concat_byte_byte.calls _ _ y153 t156 _ ?side1 ?side2 A5.out).mono ?_
 (case side1 => exact Cd_ (Kd.N_reads' HO155.out).2.2)
 (case side2 => exact (Kd.N_reads' HO155.out).2.1)
 rintro e w17 ⟨v157, rfl, ho0, hb⟩
 refine ⟨_, rfl, ?_⟩
 have HO158 := m_ (Kd.R_lower ho0 (below_size bz_))
 replace HO155 := m_ (Kd.N_elder' (Nz_ HO155.out) (Kd.R_base ho0) hb)
 replace BK143 := m_ (kl_ gb143 hb)
 replace HB := m_ (below_step bz_ hb)
 (try clear hb)
 (try clear hb2)
 (try clear hk)
 (try clear hi)
 (try clear ho0)
 refine hK.out _ _ ⟨(blk_cell BK143.out 0).trans rfl, (blk_cell BK143.out 1).trans rfl, (blk_cell BK143.out 2).trans rfl, (blk_cell BK143.out 3).trans rfl, (blk_cell BK143.out 4).trans rfl, (blk_cell BK143.out 5).trans rfl⟩ (fun hHeld => ?_)
 clear hK K
 refine nz_ (some 18) ?_
 refine pz_ 13 3 ?_
 refine dz_ ?_
 have hcz18 := cz6_ BK143.out
 try go_wp2
 go_loopg [3, 22] k (fun kq v3 v22 w' => ∃ (x3_1 : List Int) (x22_1 : Int), v22 = .int .i64 x22_1 ∧ Aside0 (ofmsg_ruled.l0 kq x3_1 l0_5 (l0_5.length : Int) x22_1 = some r) ∧ Aside0 (kq ≤ k) ∧ Aside0 (Kd.R (Kd.int .u8) 5 w' w.heap.size (fun _ => True) v3 x3_1) ∧ Aside0 (w'.heap[gb143]? = some (.cells #[.int .u32 a0_0, .int .u32 a0_1, .int .u32 a0_2, .int .i64 a0_3, .int .u32 a0_4, (.slice A0_5 l0_5.length c0_5)] 26 (0, 0))) ∧ Aside0 (Below w.heap.size w w'))
 case atStart => exact ⟨(t156), (0), (by first | rfl | (simp; done) | (simp [*]; done)), H', ⟨Nat.le_refl _⟩, ⟨Rz_ HO158.out⟩, ⟨kz_⟩, ⟨bz_⟩⟩
 case round =>
  clear H'
  try clear c2
  try clear p2
  try clear c4
  (try clear hcz18)
  obtain ⟨x3_1, x22_1, rfl, HA, HK1, HO_3, BK143, HB⟩ := hrel
  cases gk with
  | zero => exact absurd HA.out (by simp [ofmsg_ruled.l0])
  | succ k1 =>
   have H := HA.out
   clear HA
   simp only [ofmsg_ruled.l0] at H
   by_cases c19 : x22_1 < (l0_5.length : Int)
   ·rw [if_pos c19] at H
    have c19b0 : decide (x22_1 < (l0_5.length : Int)) = true := decide_eq_true c19
    clear c19
    by_cases c20 : 0 ≤ x22_1
    ·rw [if_pos c20] at H
     have c20b0 : decide (0 ≤ x22_1) = true := decide_eq_true c20
     clear c20
     by_cases c21 : x22_1 < (l0_5.length : Int)
     ·rw [if_pos c21] at H
      have c21b0 : decide (x22_1 < (l0_5.length : Int)) = true := decide_eq_true c21
      clear c21
      by_cases c22 : x3_1.length < 140737488355328
      ·rw [if_pos c22] at H
       have LMc22 := m_ c22
       clear c22
       obtain ⟨y161, hy161⟩ : ∃ y_ : List Int, y_ = (x3_1 ++ [((rd_T59 l0_5 x22_1).f0) % 256]) := ⟨_, rfl⟩
       replace H : (ofmsg_ruled.l0 k1 y161 l0_5 (l0_5.length : Int) (wrap64 (x22_1 + 1))) = some r := by first | (rw [hy161]; with_reducible exact H) | (have H2_ := (Option.bind_some _ _).symm.trans H; rw [hy161]; with_reducible exact H2_) | (have H2_ := (Option.bind_some _ _).symm.trans H; with_reducible exact H2_) | with_reducible exact H | (rw [hy161]; exact H) | exact H
       have Ny161 := m_ hy161
       clear hy161
       have H' := m_ H
       clear H
       have p159 : 0 ≤ (x22_1 : Int) := od_
       have q159 : x22_1 < (l0_5.length : Int) := od_
       obtain ⟨ad159, e159, hx159_0, hx159_1⟩ := at_T59 HR0_5.out x22_1 p159 q159
       cases e159
       replace hx159_0 := kp_ HB.out hx159_0
       replace hx159_1 := kp_ HB.out hx159_1
       replace p159 := eq_true p159
       replace q159 := eq_true q159
       go_wp2_with (first | ((with_reducible refine gate_dst (N := 5) rfl ?_); refine bx_ 5 59 #[.int .i64 0, .bool false] ?_; intro gb160 hg w23 hbox hb; have BK160 := m_ (hbox); have GW160 := m_ ((gw_ : w.heap.size ≤ gb160)); have GE160 := m_ ((gw_ : w.heap.size ≤ gb160)); have NB143_160 := m_ ((gl_ : gb143 ≠ gb160)); have NB160_143 := m_ ((gr_ : gb160 ≠ gb143)); replace HO_3 := m_ (Kd.R_below (Rz_ HO_3.out) hb); replace BK143 := m_ (kl_ gb143 hb); replace HB := m_ (below_step bz_ hb); clear hb hbox hg; have hnb24 := NB160_143.out; have hnc24 := NB143_160.out; have hcz25 := cz2_ BK160.out) | ((with_reducible refine gate_builtin (b := .append) (xs := #[.tmp 26, .tmp 30]) rfl ?_); at_builtin; refine Kd.R_append (Kd.int .u8) (w0 := w) w.heap.size rfl (.tmp 26) (.tmp 30) 27 5 (.int .u8 0) 1 rfl Try.underlying27 info5 rfl (by decide) (by omega) u3 x3_1 (((rd_T59 l0_5 x22_1).f0) % 256) [.int .u8 (((rd_T59 l0_5 x22_1).f0) % 256)] (fun _ => True) (fun _ => False) rfl (by first | (go_simp; done) | (go_simp; rfl)) ?aP (fun _ hk => hk.elim) ?aF ?aO ?aB ?aS ?aL ?_; (case aP => exact rfl); (case aB => exact bz_); (case aF => exact (fun _ _ => trivial)); (case aO => exact (Kd.R_mono (Rf_ (Kd.R_types HO_3.out BK160.out (by decide))) (fun _ hk => trivial))); (case aS => exact (below_size bz_)); (case aL => have := LMc22.out; omega); intro v162 w26 ho hb hg hat; rw [← Ny161.out] at ho; have HO163 := m_ (ho); replace BK143 := m_ (blk_grown (g := gb143) (o := .cells #[.int .u32 a0_0, .int .u32 a0_1, .int .u32 a0_2, .int .i64 a0_3, .int .u32 a0_4, .slice (some ad159) l0_5.length c0_5] 26 (0, 0)) kb_ hg (Kd.R_ne HO_3.out BK143.out (by decide))); replace BK160 := m_ (blk_grown (g := gb160) (o := .cells #[.int .i64 ((rd_T59 l0_5 x22_1).f0), .bool ((rd_T59 l0_5 x22_1).f1)] 59 (0, 0)) kb_ hg (Kd.R_ne HO_3.out BK160.out (by decide))); replace HB := m_ (hb); clear HO_3 ho hb hg hat))
       go_roundg k1
       case measure => have := HK1.out; omega
       case rel => exact ⟨(y161), (wrap64 (x22_1 + 1)), (by first | rfl | (simp; done) | (simp [*]; done)), H', ⟨by have := HK1.out; omega⟩, ⟨Rz_ HO163.out⟩, ⟨kz_⟩, ⟨bz_⟩⟩
      ·rw [if_neg c22] at H
       exact absurd H (by simp)
     ·rw [if_neg c21] at H
      exact absurd H (by simp)
    ·rw [if_neg c20] at H
     exact absurd H (by simp)
   ·rw [if_neg c19] at H
    have c19b0 : decide (x22_1 < (l0_5.length : Int)) = false := decide_eq_false c19
    clear c19
    obtain rfl := Option.some.inj H
    go_wp2
    go_ret
    exact ⟨_, ew_, (Rz_ HO_3.out), bz_⟩
def addr_part.f (a0 : Int) (a1 : Int) : Option (Int) := if 0 ≤ (wrap64 (24 - (wrap64 (8 * a1)))) then (some ((shr .u32 a0 (wrap64 (24 - (wrap64 (8 * a1))))) % 256)) else (none)
set_option maxHeartbeats 8000000 in
set_option maxRecDepth 100000 in
theorem addr_part.calls (a0 : Int) (a1 : Int) (r : Int) (w : World) (h : addr_part.f a0 a1 = some r) :
  Calls Try.prog 50 #[.int .u32 a0, .int .i64 a1] w fun e w' => e = .returned (.int .u8 r) ∧ Drawn0 w w' := by
 have H : (if 0 ≤ (wrap64 (24 - (wrap64 (8 * a1)))) then (some ((shr .u32 a0 (wrap64 (24 - (wrap64 (8 * a1))))) % 256)) else (none)) = some r := h
 clear h
 obtain ⟨ji3, hji3⟩ : ∃ j_ : Int, (wrap64 (24 - (wrap64 (8 * a1)))) = j_ := ⟨_, rfl⟩
 replace H : (if 0 ≤ (ji3) then (some ((shr .u32 a0 (ji3)) % 256)) else (none)) = some r := by first | (rw [hji3] at H; exact H) | (simp only [hji3] at H ⊢; exact H)
 have hji3w : (IntKind.i64.wrap (24 - (wrap64 (8 * a1)))) = ji3 := (i64_w _).trans hji3
 by_cases c4 : 0 ≤ (ji3)
 ·rw [if_pos c4] at H
  have c4b0 := eq_true c4
  have c4b1 : decide (0 ≤ (ji3)) = true := decide_eq_true c4
  clear c4
  obtain ⟨ji5, hji5⟩ : ∃ j_ : Int, (shr .u32 a0 (ji3)) = j_ := ⟨_, rfl⟩
  replace H : (some ((ji5) % 256)) = some r := by first | (rw [hji5] at H; exact H) | (simp only [hji5] at H ⊢; exact H)
  have hji5_ : (a0 / 2 ^ min (ji3).toNat 32) = ji5 := hji5
  have hji5z : (ji3) ≤ 32 → (a0 / 2 ^ (ji3).toNat) = ji5 := shr_small hji5
  obtain rfl := Option.some.inj H
  go_enter Try.func50, Try.ntmps50
  go_wp2
  go_ret
  exact ⟨(by first | rfl | (simp; done) | (simp only [← hji3, ← hji5] <;> (first | rfl | simp)) | (simp [*]; done)), (by repeat (first | exact Drawn0.refl _ | apply Drawn0.step))⟩
 ·rw [if_neg c4] at H
  exact absurd H (by simp)
end Go.Proofs.Ytboonfidioombaa.P

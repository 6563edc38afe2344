/- For each Go function a Lean function, and the proof that a call comes to what it tells: made by program out of the translation (the kit's print, with texts by hand put in). No condition. -/
import Derived.Test.YtboonfidioombaaSq
import Derived.Test.YtboonfidioombaaPx0
namespace Go.Proofs.Ytboonfidioombaa.P
open Go.RowKit Go.Proofs.Ytboonfidioombaa.HRows Go.Proofs.YtboonfidioombaaW.PrintWords Go.Proofs.YtboonfidioombaaW.PrintLast Go.Proofs.YtboonfidioombaaW.PrintMore
attribute [local go_sem] max2_int min2_int max_two min_two max_three min_three max_four min_four
set_option linter.unusedVariables false
set_option linter.unusedSimpArgs false
def stolonref16_number.f (a0 : Int) (a1 : Int) : Option (List Int) := (some (([((Int.tdiv a0 16777216) % 4294967296) % 256, ((Int.tdiv a0 65536) % 4294967296) % 256, ((Int.tdiv a0 256) % 4294967296) % 256, (Int.tmod a0 256) % 256] : List Int) : List Int)).bind fun y315 => (if 0 ≤ (wrap64 (4 - a1)) then (if (wrap64 (4 - a1)) ≤ (y315.length : Int) then (some (y315.drop ((wrap64 (4 - a1)) : Int).toNat)) else (none)) else (none))
set_option maxHeartbeats 8000000 in
set_option maxRecDepth 100000 in
theorem stolonref16_number.calls (a0 : Int) (a1 : Int) (r : List Int) (w : World) (h : stolonref16_number.f a0 a1 = some r) :
  Calls Try.prog 28 #[.int .u32 a0, .int .i64 a1] w fun e w' => ∃ v0_ : Value, e = .returned (v0_) ∧ Kd.Q (Kd.int .u8) 5 w' w.heap.size (fun _ => True) v0_ r ∧ Below w.heap.size w w' := by
 have HB := m_ (Below.refl w.heap.size w)
 have H : ((some (([((Int.tdiv a0 16777216) % 4294967296) % 256, ((Int.tdiv a0 65536) % 4294967296) % 256, ((Int.tdiv a0 256) % 4294967296) % 256, (Int.tmod a0 256) % 256] : List Int) : List Int)).bind fun y315 => (if 0 ≤ (wrap64 (4 - a1)) then (if (wrap64 (4 - a1)) ≤ (y315.length : Int) then (some (y315.drop ((wrap64 (4 - a1)) : Int).toNat)) else (none)) else (none))) = some r := h
 clear h
 obtain ⟨y315, hy315⟩ : ∃ y_ : List Int, y_ = (([((Int.tdiv a0 16777216) % 4294967296) % 256, ((Int.tdiv a0 65536) % 4294967296) % 256, ((Int.tdiv a0 256) % 4294967296) % 256, (Int.tmod a0 256) % 256] : List Int)) := ⟨_, rfl⟩
 replace H : (if 0 ≤ (wrap64 (4 - a1)) then (if (wrap64 (4 - a1)) ≤ (y315.length : Int) then (some (y315.drop ((wrap64 (4 - a1)) : Int).toNat)) else (none)) else (none)) = some r := by first | (rw [hy315]; with_reducible exact H) | (have H2_ := (Option.bind_some _ _).symm.trans H; rw [hy315]; with_reducible exact H2_) | (have H2_ := (Option.bind_some _ _).symm.trans H; with_reducible exact H2_) | with_reducible exact H | (rw [hy315]; exact H) | exact H
 have Ny315 := m_ hy315
 clear hy315
 obtain ⟨ji3, hji3⟩ : ∃ j_ : Int, (wrap64 (4 - a1)) = j_ := ⟨_, rfl⟩
 replace H : (if 0 ≤ (ji3) then (if (ji3) ≤ (y315.length : Int) then (some (y315.drop ((ji3) : Int).toNat)) else (none)) else (none)) = some r := by first | (rw [hji3] at H; exact H) | (simp only [hji3] at H ⊢; exact H)
 have hji3w : (IntKind.i64.wrap (4 - a1)) = ji3 := (i64_w _).trans hji3
 by_cases c4 : 0 ≤ (ji3)
 ·rw [if_pos c4] at H
  have c4b0 := eq_true c4
  have c4b1 : decide (0 ≤ (ji3)) = true := decide_eq_true c4
  clear c4
  by_cases c5 : (ji3) ≤ (y315.length : Int)
  ·rw [if_pos c5] at H
   have c5b0 := eq_true c5
   have c5b1 : decide ((ji3) ≤ (y315.length : Int)) = true := decide_eq_true c5
   clear c5
   obtain ⟨y318, hy318⟩ : ∃ y_ : List Int, y_ = (y315.drop ((ji3) : Int).toNat) := ⟨_, rfl⟩
   replace H : (some y318) = some r := by first | (rw [hy318]; with_reducible exact H) | (have H2_ := (Option.bind_some _ _).symm.trans H; rw [hy318]; with_reducible exact H2_) | (have H2_ := (Option.bind_some _ _).symm.trans H; with_reducible exact H2_) | with_reducible exact H | (rw [hy318]; exact H) | exact H
   have Ny318 := m_ hy318
   clear hy318
   obtain rfl := Option.some.inj H
   go_enter Try.func28, Try.ntmps28
   go_wp2_with (first | ((with_reducible refine gate_dst (N := 20) rfl ?_); refine Kd.R_lit (Kd.int .u8) _ 5 ?hg (N := 20) ?hd (xs := ([((Int.tdiv a0 16777216) % 4294967296) % 256, ((Int.tdiv a0 65536) % 4294967296) % 256, ((Int.tdiv a0 256) % 4294967296) % 256, (Int.tmod a0 256) % 256] : List Int)) (inner := [.int .u8 (((Int.tdiv a0 16777216) % 4294967296) % 256), .int .u8 (((Int.tdiv a0 65536) % 4294967296) % 256), .int .u8 (((Int.tdiv a0 256) % 4294967296) % 256), .int .u8 ((Int.tmod a0 256) % 256)]) (ok := fun _ => True) (okp := fun _ => True) ?hr ?hp (fun _ hk => hk) trivial (Below.refl _ _) (Nat.le_refl _) (by simp) ?_; (case hd => rfl); (case hg => rfl); (case hr => first | (go_simp; done) | (go_simp; rfl)); (case hp => exact (Reps.one (show Kd.M (Kd.int .u8) _ _ _ (((Int.tdiv a0 16777216) % 4294967296) % 256) [.int .u8 (((Int.tdiv a0 16777216) % 4294967296) % 256)] from rfl) (Reps.one (show Kd.M (Kd.int .u8) _ _ _ (((Int.tdiv a0 65536) % 4294967296) % 256) [.int .u8 (((Int.tdiv a0 65536) % 4294967296) % 256)] from rfl) (Reps.one (show Kd.M (Kd.int .u8) _ _ _ (((Int.tdiv a0 256) % 4294967296) % 256) [.int .u8 (((Int.tdiv a0 256) % 4294967296) % 256)] from rfl) (Reps.one (show Kd.M (Kd.int .u8) _ _ _ ((Int.tmod a0 256) % 256) [.int .u8 ((Int.tmod a0 256) % 256)] from rfl) (Reps.none _ _)))))); intro v316 w6 ho7 hb hg_ hnew_; clear hg_ hnew_; (first | rw [← Ny315.out] at ho7 | (simp only [Int.reduceToNat] at ho7; rw [← Ny315.out] at ho7)); have HO317 := m_ (Kd.R_lower ho7 (below_size bz_)); replace HB := m_ (below_step bz_ hb); clear hb ho7; obtain ⟨Ao8, co8, eo8⟩ := Kd.R_slice HO317.out; subst eo8; have q9 : ((ji3) : Int) ≤ ((y315.length : Int) : Int) := od_; obtain ⟨i09, hi09, _, hsz9, _⟩ := info_parts info5; have hcut9 := cut_from (P := Try.prog) 27 5 .i64 Try.underlying27 hi09 1 hsz9 Ao8 y315.length co8 (ji3) od_ q9; have hr9 := Kd.Q_drop (k := ((ji3) : Int).toNat) (Kd.Q_of_R HO317.out) (by omega); obtain ⟨A9, hA9⟩ : ∃ A1, A1 = (if co8 = ((ji3) : Int).toNat then Ao8 else (Ao8 : Option Addr).map (·.add (((ji3) : Int).toNat * 1))) := ⟨_, rfl⟩; obtain ⟨c9, hc9⟩ : ∃ c1, c1 = co8 - ((ji3) : Int).toNat := ⟨_, rfl⟩; have hy9 : y318.length = y315.length - ((ji3) : Int).toNat := (by rw [Ny318.out, List.length_drop]); rw [← Ny318.out] at hr9; rw [← hy9, ← hA9, ← hc9] at hcut9; replace hr9 : Kd.Q (Kd.int .u8) 5 w6 w.heap.size (fun _ => True) (.slice A9 y318.length c9) y318 := (by rw [hA9, hc9, hy9]; exact hr9); have HE9 : Aside0 ((Value.slice A9 y318.length c9).ownBlock = (.slice Ao8 y315.length co8 : Value).ownBlock) := ⟨by rw [hA9]; split <;> (cases (Ao8 : Option Addr) <;> first | rfl | (simp only [Option.map, Value.ownBlock, Addr.add]; split <;> rfl))⟩; clear hy9 hi09 hsz9 HO317 hA9 hc9; have HO320 := m_ hr9; clear hr9; replace q9 := eq_true q9))
   go_ret
   exact ⟨_, (by first | rfl | (simp [errW_none, errW_some] <;> rfl) | (simp only [← hji3]; first | rfl | (simp [errW_none, errW_some] <;> rfl)) | (simp [*, errW_none, errW_some] <;> rfl)), (Qz_ HO320.out), bz_⟩
  ·rw [if_neg c5] at H
   exact absurd H (by simp)
 ·rw [if_neg c4] at H
  exact absurd H (by simp)
end Go.Proofs.Ytboonfidioombaa.P

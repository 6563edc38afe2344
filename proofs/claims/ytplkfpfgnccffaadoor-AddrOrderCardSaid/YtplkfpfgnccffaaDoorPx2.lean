/- For each Go function a Lean function, and the proof that a call comes to what it tells: made by program out of the translation (the kit's print, with texts by hand put in). No condition. -/
import Derived.Test.YtplkfpfgnccffaaDoorSq
import Derived.Test.YtplkfpfgnccffaaDoorPx0
namespace Go.Proofs.YtplkfpfgnccffaaDoor.P
open Go.RowKit Go.Proofs.YtplkfpfgnccffaaDoor.HRows Go.Proofs.YtplkfpfgnccffaaDoorW.PrintWords Go.Proofs.YtplkfpfgnccffaaDoorW.PrintLast Go.Proofs.YtplkfpfgnccffaaDoorW.PrintMore
attribute [local go_sem] max2_int min2_int max_two min_two max_three min_three max_four min_four   -- for this text's walks alone
set_option linter.unusedVariables false
set_option linter.unusedSimpArgs false

/-! ### stolonref01_figures: function 32 -/
def stolonref01_figures.f (a0 : Int) : Option (ByteArray) := (some (([(wrap64 (48 + (Int.tmod a0 10))) % 256] : List Int) : List Int)).bind fun y115 => (if a0 ≥ 10 then ((some (([(wrap64 (48 + (Int.tmod (wrap64 (Int.tdiv a0 10)) 10))) % 256] : List Int) : List Int)).bind fun y118 => (if (strOfNums y118).size + (strOfNums y115).size ≤ 9223372036854775807 then (if a0 ≥ 100 then ((some (([(wrap64 (48 + (wrap64 (Int.tdiv a0 100)))) % 256] : List Int) : List Int)).bind fun y121 => (if (strOfNums y121).size + ((strOfNums y118) ++ (strOfNums y115)).size ≤ 9223372036854775807 then (some ((strOfNums y121) ++ ((strOfNums y118) ++ (strOfNums y115)))) else (none))) else (some ((strOfNums y118) ++ (strOfNums y115)))) else (none))) else (if a0 ≥ 100 then ((some (([(wrap64 (48 + (wrap64 (Int.tdiv a0 100)))) % 256] : List Int) : List Int)).bind fun y124 => (if (strOfNums y124).size + (strOfNums y115).size ≤ 9223372036854775807 then (some ((strOfNums y124) ++ (strOfNums y115))) else (none))) else (some (strOfNums y115))))
set_option maxHeartbeats 8000000 in
set_option maxRecDepth 100000 in
theorem stolonref01_figures.calls (a0 : Int) (r : ByteArray) (w : World) (h : stolonref01_figures.f a0 = some r) :
  Calls Tryd.prog 32 #[.int .i64 a0] w fun e w' => e = .returned (.string r) ∧ Below w.heap.size w w' := by
 have HB := m_ (Below.refl w.heap.size w)
 have H : ((some (([(wrap64 (48 + (Int.tmod a0 10))) % 256] : List Int) : List Int)).bind fun y115 => (if a0 ≥ 10 then ((some (([(wrap64 (48 + (Int.tmod (wrap64 (Int.tdiv a0 10)) 10))) % 256] : List Int) : List Int)).bind fun y118 => (if (strOfNums y118).size + (strOfNums y115).size ≤ 9223372036854775807 then (if a0 ≥ 100 then ((some (([(wrap64 (48 + (wrap64 (Int.tdiv a0 100)))) % 256] : List Int) : List Int)).bind fun y121 => (if (strOfNums y121).size + ((strOfNums y118) ++ (strOfNums y115)).size ≤ 9223372036854775807 then (some ((strOfNums y121) ++ ((strOfNums y118) ++ (strOfNums y115)))) else (none))) else (some ((strOfNums y118) ++ (strOfNums y115)))) else (none))) else (if a0 ≥ 100 then ((some (([(wrap64 (48 + (wrap64 (Int.tdiv a0 100)))) % 256] : List Int) : List Int)).bind fun y124 => (if (strOfNums y124).size + (strOfNums y115).size ≤ 9223372036854775807 then (some ((strOfNums y124) ++ (strOfNums y115))) else (none))) else (some (strOfNums y115))))) = some r := h
 clear h
 obtain ⟨y115, hy115⟩ : ∃ y_ : List Int, y_ = (([(wrap64 (48 + (Int.tmod a0 10))) % 256] : List Int)) := ⟨_, rfl⟩
 replace H : (if a0 ≥ 10 then ((some (([(wrap64 (48 + (Int.tmod (wrap64 (Int.tdiv a0 10)) 10))) % 256] : List Int) : List Int)).bind fun y118 => (if (strOfNums y118).size + (strOfNums y115).size ≤ 9223372036854775807 then (if a0 ≥ 100 then ((some (([(wrap64 (48 + (wrap64 (Int.tdiv a0 100)))) % 256] : List Int) : List Int)).bind fun y121 => (if (strOfNums y121).size + ((strOfNums y118) ++ (strOfNums y115)).size ≤ 9223372036854775807 then (some ((strOfNums y121) ++ ((strOfNums y118) ++ (strOfNums y115)))) else (none))) else (some ((strOfNums y118) ++ (strOfNums y115)))) else (none))) else (if a0 ≥ 100 then ((some (([(wrap64 (48 + (wrap64 (Int.tdiv a0 100)))) % 256] : List Int) : List Int)).bind fun y124 => (if (strOfNums y124).size + (strOfNums y115).size ≤ 9223372036854775807 then (some ((strOfNums y124) ++ (strOfNums y115))) else (none))) else (some (strOfNums y115)))) = some r := by first | (rw [hy115]; with_reducible exact H) | (have H2_ := (Option.bind_some _ _).symm.trans H; rw [hy115]; with_reducible exact H2_) | (have H2_ := (Option.bind_some _ _).symm.trans H; with_reducible exact H2_) | with_reducible exact H | (rw [hy115]; exact H) | exact H
 have Ny115 := m_ hy115
 clear hy115
 by_cases c2 : a0 ≥ 10
 ·rw [if_pos c2] at H
  have c2b0 : decide (10 ≤ a0) = true := decide_eq_true c2
  clear c2
  obtain ⟨y118, hy118⟩ : ∃ y_ : List Int, y_ = (([(wrap64 (48 + (Int.tmod (wrap64 (Int.tdiv a0 10)) 10))) % 256] : List Int)) := ⟨_, rfl⟩
  replace H : (if (strOfNums y118).size + (strOfNums y115).size ≤ 9223372036854775807 then (if a0 ≥ 100 then ((some (([(wrap64 (48 + (wrap64 (Int.tdiv a0 100)))) % 256] : List Int) : List Int)).bind fun y121 => (if (strOfNums y121).size + ((strOfNums y118) ++ (strOfNums y115)).size ≤ 9223372036854775807 then (some ((strOfNums y121) ++ ((strOfNums y118) ++ (strOfNums y115)))) else (none))) else (some ((strOfNums y118) ++ (strOfNums y115)))) else (none)) = some r := by first | (rw [hy118]; with_reducible exact H) | (have H2_ := (Option.bind_some _ _).symm.trans H; rw [hy118]; with_reducible exact H2_) | (have H2_ := (Option.bind_some _ _).symm.trans H; with_reducible exact H2_) | with_reducible exact H | (rw [hy118]; exact H) | exact H
  have Ny118 := m_ hy118
  clear hy118
  by_cases c3 : (strOfNums y118).size + (strOfNums y115).size ≤ 9223372036854775807
  ·rw [if_pos c3] at H
   have c3b0 := eq_true c3
   have c3b1 : decide ((strOfNums y118).size + (strOfNums y115).size ≤ 9223372036854775807) = true := decide_eq_true c3
   try have c3b2 : (9223372036854775807 < (strOfNums y118).size + (strOfNums y115).size) = False := eq_false (Nat.not_lt.2 c3)
   by_cases c4 : a0 ≥ 100
   ·rw [if_pos c4] at H
    have c4b0 : decide (100 ≤ a0) = true := decide_eq_true c4
    clear c4
    obtain ⟨y121, hy121⟩ : ∃ y_ : List Int, y_ = (([(wrap64 (48 + (wrap64 (Int.tdiv a0 100)))) % 256] : List Int)) := ⟨_, rfl⟩
    replace H : (if (strOfNums y121).size + ((strOfNums y118) ++ (strOfNums y115)).size ≤ 9223372036854775807 then (some ((strOfNums y121) ++ ((strOfNums y118) ++ (strOfNums y115)))) else (none)) = some r := by first | (rw [hy121]; with_reducible exact H) | (have H2_ := (Option.bind_some _ _).symm.trans H; rw [hy121]; with_reducible exact H2_) | (have H2_ := (Option.bind_some _ _).symm.trans H; with_reducible exact H2_) | with_reducible exact H | (rw [hy121]; exact H) | exact H
    have Ny121 := m_ hy121
    clear hy121
    by_cases c5 : (strOfNums y121).size + ((strOfNums y118) ++ (strOfNums y115)).size ≤ 9223372036854775807
    ·rw [if_pos c5] at H
     have c5b0 := eq_true c5
     have c5b1 : decide ((strOfNums y121).size + ((strOfNums y118) ++ (strOfNums y115)).size ≤ 9223372036854775807) = true := decide_eq_true c5
     try have c5b2 : (9223372036854775807 < (strOfNums y121).size + ((strOfNums y118) ++ (strOfNums y115)).size) = False := eq_false (Nat.not_lt.2 c5)
     (try have c5b3 := c5b2)
     (try simp only [ByteArray.size_append, show (⟨#[46]⟩ : ByteArray).size = 1 from rfl] at c5b3)
     obtain rfl := Option.some.inj H
     go_enter Tryd.func32, Tryd.ntmps32
     go_wp2_with (first | ((with_reducible refine gate_dst (N := 8) rfl ?_); refine Kd.R_lit (Kd.int .u8) _ 5 ?hg (N := 8) ?hd (xs := ([(wrap64 (48 + (Int.tmod a0 10))) % 256] : List Int)) (inner := [.int .u8 ((wrap64 (48 + (Int.tmod a0 10))) % 256)]) (ok := fun _ => True) (okp := fun _ => True) ?hr ?hp (fun _ hk => hk) trivial (Below.refl _ _) (Nat.le_refl _) (by simp) ?_; (case hd => rfl); (case hg => rfl); (case hr => first | (go_simp; done) | (go_simp; rfl)); (case hp => exact (Reps.one (show Kd.M (Kd.int .u8) _ _ _ ((wrap64 (48 + (Int.tmod a0 10))) % 256) [.int .u8 ((wrap64 (48 + (Int.tmod a0 10))) % 256)] from rfl) (Reps.none _ _))); intro v116 w6 ho7 hb hg_ hnew_; clear hg_ hnew_; (first | rw [← Ny115.out] at ho7 | (simp only [Int.reduceToNat] at ho7; rw [← Ny115.out] at ho7)); have HO117 := m_ (Kd.R_lower ho7 (below_size bz_)); replace HB := m_ (below_step bz_ hb); clear hb ho7; have hcv8 := own_string (P := Tryd.prog) Tryd.underlying22 Tryd.underlying5 Tryd.underlying9 (Kd.own_of_R HO117.out)) | ((with_reducible refine gate_dst (N := 17) rfl ?_); refine Kd.R_lit (Kd.int .u8) _ 5 ?hg (N := 17) ?hd (xs := ([(wrap64 (48 + (Int.tmod (wrap64 (Int.tdiv a0 10)) 10))) % 256] : List Int)) (inner := [.int .u8 ((wrap64 (48 + (Int.tmod (wrap64 (Int.tdiv a0 10)) 10))) % 256)]) (ok := fun _ => True) (okp := fun _ => True) ?hr ?hp (fun _ hk => hk) trivial (Below.refl _ _) (Nat.le_refl _) (by simp) ?_; (case hd => rfl); (case hg => rfl); (case hr => first | (go_simp; done) | (go_simp; rfl)); (case hp => exact (Reps.one (show Kd.M (Kd.int .u8) _ _ _ ((wrap64 (48 + (Int.tmod (wrap64 (Int.tdiv a0 10)) 10))) % 256) [.int .u8 ((wrap64 (48 + (Int.tmod (wrap64 (Int.tdiv a0 10)) 10))) % 256)] from rfl) (Reps.none _ _))); intro v119 w9 ho10 hb hg_ hnew_; clear hg_ hnew_; (first | rw [← Ny118.out] at ho10 | (simp only [Int.reduceToNat] at ho10; rw [← Ny118.out] at ho10)); have HO120 := m_ (Kd.R_lower (Kd.R_new' ho10 (Kd.R_lt (Rz_ HO117.out))) (below_size bz_)); replace HO117 := m_ (Kd.R_elder' (Rz_ HO117.out) (Kd.R_base ho10) hb); replace HB := m_ (below_step bz_ hb); clear hb ho10; have hcv11 := own_string (P := Tryd.prog) Tryd.underlying22 Tryd.underlying5 Tryd.underlying9 (Kd.own_of_R HO120.out)) | ((with_reducible refine gate_dst (N := 27) rfl ?_); refine Kd.R_lit (Kd.int .u8) _ 5 ?hg (N := 27) ?hd (xs := ([(wrap64 (48 + (wrap64 (Int.tdiv a0 100)))) % 256] : List Int)) (inner := [.int .u8 ((wrap64 (48 + (wrap64 (Int.tdiv a0 100)))) % 256)]) (ok := fun _ => True) (okp := fun _ => True) ?hr ?hp (fun _ hk => hk) trivial (Below.refl _ _) (Nat.le_refl _) (by simp) ?_; (case hd => rfl); (case hg => rfl); (case hr => first | (go_simp; done) | (go_simp; rfl)); (case hp => exact (Reps.one (show Kd.M (Kd.int .u8) _ _ _ ((wrap64 (48 + (wrap64 (Int.tdiv a0 100)))) % 256) [.int .u8 ((wrap64 (48 + (wrap64 (Int.tdiv a0 100)))) % 256)] from rfl) (Reps.none _ _))); intro v122 w12 ho13 hb hg_ hnew_; clear hg_ hnew_; (first | rw [← Ny121.out] at ho13 | (simp only [Int.reduceToNat] at ho13; rw [← Ny121.out] at ho13)); have HO123 := m_ (Kd.R_lower (Kd.R_new' (Kd.R_new' ho13 (Kd.R_lt (Rz_ HO117.out))) (Kd.R_lt (Rz_ HO120.out))) (below_size bz_)); replace HO117 := m_ (Kd.R_elder' (Rz_ HO117.out) (Kd.R_base ho13) hb); replace HO120 := m_ (Kd.R_elder' (Rz_ HO120.out) (Kd.R_base ho13) hb); replace HB := m_ (below_step bz_ hb); clear hb ho13; have hcv14 := own_string (P := Tryd.prog) Tryd.underlying22 Tryd.underlying5 Tryd.underlying9 (Kd.own_of_R HO123.out)))
     go_ret
     exact ⟨ew_, bz_⟩
    ·rw [if_neg c5] at H
     exact absurd H (by simp)
   ·rw [if_neg c4] at H
    have c4b0 : decide (100 ≤ a0) = false := decide_eq_false c4
    clear c4
    obtain rfl := Option.some.inj H
    go_enter Tryd.func32, Tryd.ntmps32
    go_wp2_with (first | ((with_reducible refine gate_dst (N := 8) rfl ?_); refine Kd.R_lit (Kd.int .u8) _ 5 ?hg (N := 8) ?hd (xs := ([(wrap64 (48 + (Int.tmod a0 10))) % 256] : List Int)) (inner := [.int .u8 ((wrap64 (48 + (Int.tmod a0 10))) % 256)]) (ok := fun _ => True) (okp := fun _ => True) ?hr ?hp (fun _ hk => hk) trivial (Below.refl _ _) (Nat.le_refl _) (by simp) ?_; (case hd => rfl); (case hg => rfl); (case hr => first | (go_simp; done) | (go_simp; rfl)); (case hp => exact (Reps.one (show Kd.M (Kd.int .u8) _ _ _ ((wrap64 (48 + (Int.tmod a0 10))) % 256) [.int .u8 ((wrap64 (48 + (Int.tmod a0 10))) % 256)] from rfl) (Reps.none _ _))); intro v116 w15 ho16 hb hg_ hnew_; clear hg_ hnew_; (first | rw [← Ny115.out] at ho16 | (simp only [Int.reduceToNat] at ho16; rw [← Ny115.out] at ho16)); have HO117 := m_ (Kd.R_lower ho16 (below_size bz_)); replace HB := m_ (below_step bz_ hb); clear hb ho16; have hcv17 := own_string (P := Tryd.prog) Tryd.underlying22 Tryd.underlying5 Tryd.underlying9 (Kd.own_of_R HO117.out)) | ((with_reducible refine gate_dst (N := 17) rfl ?_); refine Kd.R_lit (Kd.int .u8) _ 5 ?hg (N := 17) ?hd (xs := ([(wrap64 (48 + (Int.tmod (wrap64 (Int.tdiv a0 10)) 10))) % 256] : List Int)) (inner := [.int .u8 ((wrap64 (48 + (Int.tmod (wrap64 (Int.tdiv a0 10)) 10))) % 256)]) (ok := fun _ => True) (okp := fun _ => True) ?hr ?hp (fun _ hk => hk) trivial (Below.refl _ _) (Nat.le_refl _) (by simp) ?_; (case hd => rfl); (case hg => rfl); (case hr => first | (go_simp; done) | (go_simp; rfl)); (case hp => exact (Reps.one (show Kd.M (Kd.int .u8) _ _ _ ((wrap64 (48 + (Int.tmod (wrap64 (Int.tdiv a0 10)) 10))) % 256) [.int .u8 ((wrap64 (48 + (Int.tmod (wrap64 (Int.tdiv a0 10)) 10))) % 256)] from rfl) (Reps.none _ _))); intro v119 w18 ho19 hb hg_ hnew_; clear hg_ hnew_; (first | rw [← Ny118.out] at ho19 | (simp only [Int.reduceToNat] at ho19; rw [← Ny118.out] at ho19)); have HO120 := m_ (Kd.R_lower (Kd.R_new' ho19 (Kd.R_lt (Rz_ HO117.out))) (below_size bz_)); replace HO117 := m_ (Kd.R_elder' (Rz_ HO117.out) (Kd.R_base ho19) hb); replace HB := m_ (below_step bz_ hb); clear hb ho19; have hcv20 := own_string (P := Tryd.prog) Tryd.underlying22 Tryd.underlying5 Tryd.underlying9 (Kd.own_of_R HO120.out)))
    go_ret
    exact ⟨ew_, bz_⟩
  ·rw [if_neg c3] at H
   exact absurd H (by simp)
 ·rw [if_neg c2] at H
  have c2b0 : decide (10 ≤ a0) = false := decide_eq_false c2
  clear c2
  by_cases c21 : a0 ≥ 100
  ·rw [if_pos c21] at H
   have c21b0 : decide (100 ≤ a0) = true := decide_eq_true c21
   clear c21
   obtain ⟨y124, hy124⟩ : ∃ y_ : List Int, y_ = (([(wrap64 (48 + (wrap64 (Int.tdiv a0 100)))) % 256] : List Int)) := ⟨_, rfl⟩
   replace H : (if (strOfNums y124).size + (strOfNums y115).size ≤ 9223372036854775807 then (some ((strOfNums y124) ++ (strOfNums y115))) else (none)) = some r := by first | (rw [hy124]; with_reducible exact H) | (have H2_ := (Option.bind_some _ _).symm.trans H; rw [hy124]; with_reducible exact H2_) | (have H2_ := (Option.bind_some _ _).symm.trans H; with_reducible exact H2_) | with_reducible exact H | (rw [hy124]; exact H) | exact H
   have Ny124 := m_ hy124
   clear hy124
   by_cases c22 : (strOfNums y124).size + (strOfNums y115).size ≤ 9223372036854775807
   ·rw [if_pos c22] at H
    have c22b0 := eq_true c22
    have c22b1 : decide ((strOfNums y124).size + (strOfNums y115).size ≤ 9223372036854775807) = true := decide_eq_true c22
    try have c22b2 : (9223372036854775807 < (strOfNums y124).size + (strOfNums y115).size) = False := eq_false (Nat.not_lt.2 c22)
    obtain rfl := Option.some.inj H
    go_enter Tryd.func32, Tryd.ntmps32
    go_wp2_with (first | ((with_reducible refine gate_dst (N := 8) rfl ?_); refine Kd.R_lit (Kd.int .u8) _ 5 ?hg (N := 8) ?hd (xs := ([(wrap64 (48 + (Int.tmod a0 10))) % 256] : List Int)) (inner := [.int .u8 ((wrap64 (48 + (Int.tmod a0 10))) % 256)]) (ok := fun _ => True) (okp := fun _ => True) ?hr ?hp (fun _ hk => hk) trivial (Below.refl _ _) (Nat.le_refl _) (by simp) ?_; (case hd => rfl); (case hg => rfl); (case hr => first | (go_simp; done) | (go_simp; rfl)); (case hp => exact (Reps.one (show Kd.M (Kd.int .u8) _ _ _ ((wrap64 (48 + (Int.tmod a0 10))) % 256) [.int .u8 ((wrap64 (48 + (Int.tmod a0 10))) % 256)] from rfl) (Reps.none _ _))); intro v116 w23 ho24 hb hg_ hnew_; clear hg_ hnew_; (first | rw [← Ny115.out] at ho24 | (simp only [Int.reduceToNat] at ho24; rw [← Ny115.out] at ho24)); have HO117 := m_ (Kd.R_lower ho24 (below_size bz_)); replace HB := m_ (below_step bz_ hb); clear hb ho24; have hcv25 := own_string (P := Tryd.prog) Tryd.underlying22 Tryd.underlying5 Tryd.underlying9 (Kd.own_of_R HO117.out)) | ((with_reducible refine gate_dst (N := 27) rfl ?_); refine Kd.R_lit (Kd.int .u8) _ 5 ?hg (N := 27) ?hd (xs := ([(wrap64 (48 + (wrap64 (Int.tdiv a0 100)))) % 256] : List Int)) (inner := [.int .u8 ((wrap64 (48 + (wrap64 (Int.tdiv a0 100)))) % 256)]) (ok := fun _ => True) (okp := fun _ => True) ?hr ?hp (fun _ hk => hk) trivial (Below.refl _ _) (Nat.le_refl _) (by simp) ?_; (case hd => rfl); (case hg => rfl); (case hr => first | (go_simp; done) | (go_simp; rfl)); (case hp => exact (Reps.one (show Kd.M (Kd.int .u8) _ _ _ ((wrap64 (48 + (wrap64 (Int.tdiv a0 100)))) % 256) [.int .u8 ((wrap64 (48 + (wrap64 (Int.tdiv a0 100)))) % 256)] from rfl) (Reps.none _ _))); intro v125 w26 ho27 hb hg_ hnew_; clear hg_ hnew_; (first | rw [← Ny124.out] at ho27 | (simp only [Int.reduceToNat] at ho27; rw [← Ny124.out] at ho27)); have HO126 := m_ (Kd.R_lower (Kd.R_new' ho27 (Kd.R_lt (Rz_ HO117.out))) (below_size bz_)); replace HO117 := m_ (Kd.R_elder' (Rz_ HO117.out) (Kd.R_base ho27) hb); replace HB := m_ (below_step bz_ hb); clear hb ho27; have hcv28 := own_string (P := Tryd.prog) Tryd.underlying22 Tryd.underlying5 Tryd.underlying9 (Kd.own_of_R HO126.out)))
    go_ret
    exact ⟨ew_, bz_⟩
   ·rw [if_neg c22] at H
    exact absurd H (by simp)
  ·rw [if_neg c21] at H
   have c21b0 : decide (100 ≤ a0) = false := decide_eq_false c21
   clear c21
   obtain rfl := Option.some.inj H
   go_enter Tryd.func32, Tryd.ntmps32
   go_wp2_with (first | ((with_reducible refine gate_dst (N := 8) rfl ?_); refine Kd.R_lit (Kd.int .u8) _ 5 ?hg (N := 8) ?hd (xs := ([(wrap64 (48 + (Int.tmod a0 10))) % 256] : List Int)) (inner := [.int .u8 ((wrap64 (48 + (Int.tmod a0 10))) % 256)]) (ok := fun _ => True) (okp := fun _ => True) ?hr ?hp (fun _ hk => hk) trivial (Below.refl _ _) (Nat.le_refl _) (by simp) ?_; (case hd => rfl); (case hg => rfl); (case hr => first | (go_simp; done) | (go_simp; rfl)); (case hp => exact (Reps.one (show Kd.M (Kd.int .u8) _ _ _ ((wrap64 (48 + (Int.tmod a0 10))) % 256) [.int .u8 ((wrap64 (48 + (Int.tmod a0 10))) % 256)] from rfl) (Reps.none _ _))); intro v116 w29 ho30 hb hg_ hnew_; clear hg_ hnew_; (first | rw [← Ny115.out] at ho30 | (simp only [Int.reduceToNat] at ho30; rw [← Ny115.out] at ho30)); have HO117 := m_ (Kd.R_lower ho30 (below_size bz_)); replace HB := m_ (below_step bz_ hb); clear hb ho30; have hcv31 := own_string (P := Tryd.prog) Tryd.underlying22 Tryd.underlying5 Tryd.underlying9 (Kd.own_of_R HO117.out)))
   go_ret
   exact ⟨ew_, bz_⟩

end Go.Proofs.YtplkfpfgnccffaaDoor.P

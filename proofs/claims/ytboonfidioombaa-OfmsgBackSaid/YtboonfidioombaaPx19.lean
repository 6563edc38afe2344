/- For each Go function a Lean function, and the proof that a call comes to what it tells: made by program out of the translation (the kit's print, with texts by hand put in). No condition. -/
import Derived.Test.YtboonfidioombaaSq
import Derived.Test.YtboonfidioombaaPx0
import Derived.Test.YtboonfidioombaaPx13
import Derived.Test.YtboonfidioombaaPx14
import Derived.Test.YtboonfidioombaaPx18
namespace Go.Proofs.Ytboonfidioombaa.P
open Go.RowKit Go.Proofs.Ytboonfidioombaa.HRows Go.Proofs.YtboonfidioombaaW.PrintWords Go.Proofs.YtboonfidioombaaW.PrintLast Go.Proofs.YtboonfidioombaaW.PrintMore
attribute [local go_sem] max2_int min2_int max_two min_two max_three min_three max_four min_four
set_option linter.unusedVariables false
set_option linter.unusedSimpArgs false
def stolonlaw16_shown.f (k : Nat)  : Option (Bool) := (ofmsg_Encode.f k 3 5 0 0 0 0 0 ([] : List (S59)) 0 false ([] : List Int)).bind fun bt281 => ((some (([] : List Int) : List Int)).bind fun y285 => (if y285.length + bt281.1.length < 140737488355328 then ((some (y285 ++ bt281.1 : List Int)).bind fun y288 => (if y288.length < 140737488355328 then ((ofmsg_Split.f k (y288 ++ [0])).bind fun bt294 => (if bt281.2 = 0 then ((stolonref01_Same.f k bt281.1 (([0, 7, 3, 0, 0, 0, 5] : List Int))).bind fun t304 => (if t304 = true then (if bt294.2.2 = 0 then (if (bt294.1.length : Int) = 1 then (if 0 < (bt294.1.length : Int) then (if ((rd_T29 bt294.1 0).f1) = 5 then (some ((bt294.2.1.length : Int) == 1)) else (none)) else (none)) else (none)) else (none)) else (none))) else (none))) else (none))) else (none)))
theorem stolonlaw16_shown.mono : ∀ k, LeO (stolonlaw16_shown.f k ) (stolonlaw16_shown.f (k + 1) ) := by
 intro  k
 unfold stolonlaw16_shown.f
 repeat' first
   | (with_reducible exact ofmsg_Encode.mono _ _ _ _ _ _ _ _ _ _ _ _)
   | (with_reducible exact ofmsg_Split.mono _ _)
   | (with_reducible exact stolonref01_Same.mono _ _ _)
   | (with_reducible exact LeO.refl _)
   | (with_reducible exact LeO.none _)
   | (with_reducible refine LeO.ite ?_ ?_)
   | (with_reducible refine LeO.bind ?_ (fun _ => ?_))
   | exact ofmsg_Encode.mono _ _ _ _ _ _ _ _ _ _ _ _
   | exact ofmsg_Split.mono _ _
   | exact stolonref01_Same.mono _ _ _
   | exact LeO.none _
   | refine LeO.ite ?_ ?_
   | refine LeO.bind ?_ (fun _ => ?_)
set_option maxHeartbeats 8000000 in
set_option maxRecDepth 100000 in
theorem stolonlaw16_shown.calls (k : Nat)  (r : Bool) (w : World) (h : stolonlaw16_shown.f k  = some r) :
  Calls Try.prog 11 #[] w fun e w' => e = .returned (.bool r) ∧ Below w.heap.size w w' := by
 have hu29 := Try.underlying29
 have HB := m_ (Below.refl w.heap.size w)
 have H : ((ofmsg_Encode.f k 3 5 0 0 0 0 0 ([] : List (S59)) 0 false ([] : List Int)).bind fun bt281 => ((some (([] : List Int) : List Int)).bind fun y285 => (if y285.length + bt281.1.length < 140737488355328 then ((some (y285 ++ bt281.1 : List Int)).bind fun y288 => (if y288.length < 140737488355328 then ((ofmsg_Split.f k (y288 ++ [0])).bind fun bt294 => (if bt281.2 = 0 then ((stolonref01_Same.f k bt281.1 (([0, 7, 3, 0, 0, 0, 5] : List Int))).bind fun t304 => (if t304 = true then (if bt294.2.2 = 0 then (if (bt294.1.length : Int) = 1 then (if 0 < (bt294.1.length : Int) then (if ((rd_T29 bt294.1 0).f1) = 5 then (some ((bt294.2.1.length : Int) == 1)) else (none)) else (none)) else (none)) else (none)) else (none))) else (none))) else (none))) else (none)))) = some r := h
 clear h
 replace H := Option.bind_eq_some_iff.mp H
 obtain ⟨⟨t281, t284⟩, A10, H⟩ := H
 replace H : ((some (([] : List Int) : List Int)).bind fun y285 => (if y285.length + t281.length < 140737488355328 then ((some (y285 ++ t281 : List Int)).bind fun y288 => (if y288.length < 140737488355328 then ((ofmsg_Split.f k (y288 ++ [0])).bind fun bt294 => (if t284 = 0 then ((stolonref01_Same.f k t281 (([0, 7, 3, 0, 0, 0, 5] : List Int))).bind fun t304 => (if t304 = true then (if bt294.2.2 = 0 then (if (bt294.1.length : Int) = 1 then (if 0 < (bt294.1.length : Int) then (if ((rd_T29 bt294.1 0).f1) = 5 then (some ((bt294.2.1.length : Int) == 1)) else (none)) else (none)) else (none)) else (none)) else (none))) else (none))) else (none))) else (none))) = some r := H
 have A1 := m_ A10
 clear A10
 obtain ⟨y285, hy285⟩ : ∃ y_ : List Int, y_ = (([] : List Int)) := ⟨_, rfl⟩
 replace H : (if y285.length + t281.length < 140737488355328 then ((some (y285 ++ t281 : List Int)).bind fun y288 => (if y288.length < 140737488355328 then ((ofmsg_Split.f k (y288 ++ [0])).bind fun bt294 => (if t284 = 0 then ((stolonref01_Same.f k t281 (([0, 7, 3, 0, 0, 0, 5] : List Int))).bind fun t304 => (if t304 = true then (if bt294.2.2 = 0 then (if (bt294.1.length : Int) = 1 then (if 0 < (bt294.1.length : Int) then (if ((rd_T29 bt294.1 0).f1) = 5 then (some ((bt294.2.1.length : Int) == 1)) else (none)) else (none)) else (none)) else (none)) else (none))) else (none))) else (none))) else (none)) = some r := by first | (rw [hy285]; with_reducible exact H) | (have H2_ := (Option.bind_some _ _).symm.trans H; rw [hy285]; with_reducible exact H2_) | (have H2_ := (Option.bind_some _ _).symm.trans H; with_reducible exact H2_) | with_reducible exact H | (rw [hy285]; exact H) | exact H
 have Ny285 := m_ hy285
 clear hy285
 by_cases c2 : y285.length + t281.length < 140737488355328
 ·rw [if_pos c2] at H
  have LMc2 := m_ c2
  clear c2
  obtain ⟨y288, hy288⟩ : ∃ y_ : List Int, y_ = (y285 ++ t281) := ⟨_, rfl⟩
  replace H : (if y288.length < 140737488355328 then ((ofmsg_Split.f k (y288 ++ [0])).bind fun bt294 => (if t284 = 0 then ((stolonref01_Same.f k t281 (([0, 7, 3, 0, 0, 0, 5] : List Int))).bind fun t304 => (if t304 = true then (if bt294.2.2 = 0 then (if (bt294.1.length : Int) = 1 then (if 0 < (bt294.1.length : Int) then (if ((rd_T29 bt294.1 0).f1) = 5 then (some ((bt294.2.1.length : Int) == 1)) else (none)) else (none)) else (none)) else (none)) else (none))) else (none))) else (none)) = some r := by first | (rw [hy288]; with_reducible exact H) | (have H2_ := (Option.bind_some _ _).symm.trans H; rw [hy288]; with_reducible exact H2_) | (have H2_ := (Option.bind_some _ _).symm.trans H; with_reducible exact H2_) | with_reducible exact H | (rw [hy288]; exact H) | exact H
  have Ny288 := m_ hy288
  clear hy288
  by_cases c3 : y288.length < 140737488355328
  ·rw [if_pos c3] at H
   have LMc3 := m_ c3
   clear c3
   obtain ⟨y291, hy291⟩ : ∃ y_ : List Int, y_ = (y288 ++ [0]) := ⟨_, rfl⟩
   replace H : ((ofmsg_Split.f k y291).bind fun bt294 => (if t284 = 0 then ((stolonref01_Same.f k t281 (([0, 7, 3, 0, 0, 0, 5] : List Int))).bind fun t304 => (if t304 = true then (if bt294.2.2 = 0 then (if (bt294.1.length : Int) = 1 then (if 0 < (bt294.1.length : Int) then (if ((rd_T29 bt294.1 0).f1) = 5 then (some ((bt294.2.1.length : Int) == 1)) else (none)) else (none)) else (none)) else (none)) else (none))) else (none))) = some r := by first | (rw [hy291]; with_reducible exact H) | (have H2_ := (Option.bind_some _ _).symm.trans H; rw [hy291]; with_reducible exact H2_) | (have H2_ := (Option.bind_some _ _).symm.trans H; with_reducible exact H2_) | with_reducible exact H | (rw [hy291]; exact H) | exact H
   have Ny291 := m_ hy291
   clear hy291
   replace H := Option.bind_eq_some_iff.mp H
   obtain ⟨⟨t294, t297, t300⟩, A40, H⟩ := H
   replace H : (if t284 = 0 then ((stolonref01_Same.f k t281 (([0, 7, 3, 0, 0, 0, 5] : List Int))).bind fun t304 => (if t304 = true then (if t300 = 0 then (if (t294.length : Int) = 1 then (if 0 < (t294.length : Int) then (if ((rd_T29 t294 0).f1) = 5 then (some ((t297.length : Int) == 1)) else (none)) else (none)) else (none)) else (none)) else (none))) else (none)) = some r := H
   have A4 := m_ A40
   clear A40
   by_cases c5 : t284 = 0
   ·rw [if_pos c5] at H
    have c5b0 : (t284 == 0) = true := beq_iff_eq.mpr c5
    have c5b1 : (t284 != 0) = false := bne_eq_false_iff_eq.mpr c5
    clear c5
    obtain ⟨y301, hy301⟩ : ∃ y_ : List Int, y_ = (([0, 7, 3, 0, 0, 0, 5] : List Int)) := ⟨_, rfl⟩
    replace H : ((stolonref01_Same.f k t281 y301).bind fun t304 => (if t304 = true then (if t300 = 0 then (if (t294.length : Int) = 1 then (if 0 < (t294.length : Int) then (if ((rd_T29 t294 0).f1) = 5 then (some ((t297.length : Int) == 1)) else (none)) else (none)) else (none)) else (none)) else (none))) = some r := by first | (rw [hy301]; with_reducible exact H) | (have H2_ := (Option.bind_some _ _).symm.trans H; rw [hy301]; with_reducible exact H2_) | (have H2_ := (Option.bind_some _ _).symm.trans H; with_reducible exact H2_) | with_reducible exact H | (rw [hy301]; exact H) | exact H
    have Ny301 := m_ hy301
    clear hy301
    replace H := Option.bind_eq_some_iff.mp H
    obtain ⟨t304, A60, H⟩ := H
    replace H : (if t304 = true then (if t300 = 0 then (if (t294.length : Int) = 1 then (if 0 < (t294.length : Int) then (if ((rd_T29 t294 0).f1) = 5 then (some ((t297.length : Int) == 1)) else (none)) else (none)) else (none)) else (none)) else (none)) = some r := H
    have A6 := m_ A60
    clear A60
    by_cases c7 : t304 = true
    ·subst c7
     have H1 : (if t300 = 0 then (if (t294.length : Int) = 1 then (if 0 < (t294.length : Int) then (if ((rd_T29 t294 0).f1) = 5 then (some ((t297.length : Int) == 1)) else (none)) else (none)) else (none)) else (none)) = some r := by rw [if_pos rfl] at H; exact H
     clear H
     have H := H1
     clear H1
     by_cases c8 : t300 = 0
     ·rw [if_pos c8] at H
      have c8b0 : (t300 == 0) = true := beq_iff_eq.mpr c8
      have c8b1 : (t300 != 0) = false := bne_eq_false_iff_eq.mpr c8
      clear c8
      by_cases c9 : (t294.length : Int) = 1
      ·rw [if_pos c9] at H
       have c9b0 : ((t294.length : Int) == 1) = true := beq_iff_eq.mpr c9
       have c9b1 : ((t294.length : Int) != 1) = false := bne_eq_false_iff_eq.mpr c9
       clear c9
       by_cases c10 : 0 < (t294.length : Int)
       ·rw [if_pos c10] at H
        have c10b0 : decide (0 < (t294.length : Int)) = true := decide_eq_true c10
        have c10b1 : decide (0 < t294.length) = true := decide_eq_true (by omega)
        clear c10
        by_cases c11 : ((rd_T29 t294 0).f1) = 5
        ·rw [if_pos c11] at H
         have c11b0 : (((rd_T29 t294 0).f1) == 5) = true := beq_iff_eq.mpr c11
         have c11b1 : (((rd_T29 t294 0).f1) != 5) = false := bne_eq_false_iff_eq.mpr c11
         clear c11
         obtain rfl := Option.some.inj H
         go_enter Try.func11, Try.ntmps11
         go_wp2_with (first | ((with_reducible refine gate_callee (f := 12) rfl ?_); refine gL_ (some 8) Try.func12 #[.agg #[.int .u8 3, .int .u32 5, .int .u32 0, .int .u32 0, .int .u32 0, .int .i64 0, .int .u32 0, .slice none 0 0, .int .i64 0, .bool false, .slice none 0 0]] ?_; (refine (ofmsg_Encode.calls k 3 5 0 0 0 0 0 _ _ ([] : List (S59)) 0 false _ _ ([] : List Int) t281 t284 _ ?side1 ?side2 ?side3 ?side4 A1.out).mono ?_); (case side1 => exact Kd.C_nil _ _); (case side2 => exact Nat.le_refl _); (case side3 => exact Kd.C_nil _ _); (case side4 => exact Nat.le_refl _); rintro e w12 ⟨v282, rfl, ho0, hb⟩; refine ⟨_, rfl, ?_⟩; have HO283 := m_ (Kd.R_lower ho0 (below_size bz_)); replace HB := m_ (below_step bz_ hb); (try clear hb); (try clear hb2); (try clear hk); (try clear hi); (try clear ho0)) | ((with_reducible refine gate_dst (N := 12) rfl ?_); (try (refine gate_guard (by rfl) ?_; dsimp only)); refine Kd.R_lit (Kd.int .u8) _ 5 ?hg (N := 12) ?hd (xs := ([] : List Int)) (inner := []) (ok := fun _ => True) (okp := fun _ => True) ?hr ?hp (fun _ hk => hk) trivial (Below.refl _ _) (Nat.le_refl _) (by simp) ?_; (case hd => rfl); (case hg => rfl); (case hr => first | (go_simp; done) | (go_simp; rfl)); (case hp => exact (Reps.none _ _)); intro v286 w13 ho14 hb hg_ hnew_; clear hg_ hnew_; (first | rw [← Ny285.out] at ho14 | (simp only [Int.reduceToNat] at ho14; rw [← Ny285.out] at ho14)); have HO287 := m_ (Kd.R_lower (Kd.R_new' ho14 (Kd.R_lt (Rz_ HO283.out))) (below_size bz_)); replace HO283 := m_ (Kd.R_elder' (Rz_ HO283.out) (Kd.R_base ho14) hb); replace HB := m_ (below_step bz_ hb); clear hb ho14; obtain ⟨Ao16, co16, eo16⟩ := Kd.R_slice HO283.out; subst eo16) | ((with_reducible refine gate_builtin (b := .append) (xs := #[.tmp 12, .tmp 13]) rfl ?_); (try (refine gate_guard (by rfl) ?_; dsimp only)); at_builtin; refine Kd.R_append_rows (Kd.int .u8) (w0 := w) w.heap.size rfl (.tmp 12) (.tmp 13) 27 5 (.int .u8 0) 1 rfl Try.underlying27 info5 rfl (by decide) (by omega) v286 y285 t281 _ _ _ (fun k_ => some k_ ≠ (.slice Ao16 t281.length co16 : Value).ownBlock) (fun _ => False) rfl rfl ?aO ?aR (fun _ _ h => h) (fun _ h => h.elim) ?aF ?aB ?aS ?aL ?_; (case aR => exact Cd_ (Kd.R_reads' HO283.out).2.2); (case aB => exact bz_); (case aF => exact (fun k_ hk => Kd.fresh' (Kd.R_lt (Rz_ HO283.out)) k_ hk)); (case aO => exact (Ry_ (Kd.R_mono HO287.out (fun _ hk => hk.2)))); (case aS => exact (below_size bz_)); (case aL => have := LMc2.out; omega); intro v289 w15 ho hb hg hat; rw [← Ny288.out] at ho; have HO290 := m_ (ho); replace HO283 := m_ (Kd.R_after (ok := (fun _ => True)) (Rz_ HO283.out) hg hat); replace HB := m_ (hb); clear HO287 ho hb hg hat) | ((with_reducible refine gate_builtin (b := .append) (xs := #[.tmp 14, .tmp 15]) rfl ?_); (try (refine gate_guard (by rfl) ?_; dsimp only)); at_builtin; refine Kd.R_append (Kd.int .u8) (w0 := w) w.heap.size rfl (.tmp 14) (.tmp 15) 27 5 (.int .u8 0) 1 rfl Try.underlying27 info5 rfl (by decide) (by omega) v289 y288 0 [.int .u8 0] (fun k_ => some k_ ≠ (.slice Ao16 t281.length co16 : Value).ownBlock) (fun _ => False) rfl rfl ?aP (fun _ hk => hk.elim) ?aF ?aO ?aB ?aS ?aL ?_; (case aP => exact rfl); (case aB => exact bz_); (case aF => exact (fun k_ hk => Kd.fresh' (Kd.R_lt (Rz_ HO283.out)) k_ hk)); (case aO => exact (Rz_ HO290.out)); (case aS => exact (below_size bz_)); (case aL => have := LMc3.out; omega); intro v292 w17 ho hb hg hat; rw [← Ny291.out] at ho; have HO293 := m_ (ho); replace HO283 := m_ (Kd.R_after (ok := (fun _ => True)) (Rz_ HO283.out) hg hat); replace HB := m_ (hb); clear HO290 ho hb hg hat; obtain ⟨Ao18, co18, eo18⟩ := Kd.R_slice HO293.out; subst eo18) | ((with_reducible refine gate_callee (f := 21) rfl ?_); refine gL_ (some 17) Try.func21 #[.slice Ao18 y291.length co18] ?_; (with_reducible refine (ofmsg_Split.calls k (fun k_ => some k_ = (.slice Ao18 y291.length co18 : Value).ownBlock) _ _ y291 t294 t297 t300 _ ?side1 A4.out).mono ?_); (case side1 => exact Kd.R_V (Kd.R_tight rfl (HO293.out))); rintro e w19 ⟨v295, v298, rfl, ho0, ho1, hb⟩; refine ⟨_, rfl, ?_⟩; have HO296 := m_ (Kd.S_lower (Kd.S_new' (Kd.S_new' (Kd.S_mono (ok' := fun k_ => True) ho0 (fun _ hk_ => trivial)) (Kd.R_lt (Rz_ HO283.out))) (Kd.R_lt (Rz_ HO293.out))) (below_size bz_)); have HO299 := m_ (Kd.V_lower (Kd.V_mono (ok' := fun k_ => some k_ ≠ (v295 : Value).ownBlock ∧ some k_ ≠ (.slice Ao16 t281.length co16 : Value).ownBlock) ho1 (fun k_ hk_ => ⟨hk_.2, Or.elim hk_.1 (fun hs_ => ((HO293.out).1 k_ hs_.symm)) (fun hn_ => (Kd.fresh' (Kd.R_lt (Rz_ HO283.out)) k_ hn_))⟩)) (below_size bz_)); replace HO283 := m_ (Kd.R_below (Rz_ HO283.out) hb); replace HO293 := m_ (Kd.R_below (Rz_ HO293.out) hb); replace HB := m_ (below_step bz_ hb); (try clear hb); (try clear hb2); (try clear hk); (try clear hi); (try clear ho0); (try clear ho1)) | ((with_reducible refine gate_dst (N := 25) rfl ?_); (try (refine gate_guard (by rfl) ?_; dsimp only)); refine Kd.R_lit (Kd.int .u8) _ 5 ?hg (N := 25) ?hd (xs := ([0, 7, 3, 0, 0, 0, 5] : List Int)) (inner := [.int .u8 0, .int .u8 7, .int .u8 3, .int .u8 0, .int .u8 0, .int .u8 0, .int .u8 5]) (ok := fun _ => True) (okp := fun _ => True) ?hr ?hp (fun _ hk => hk) trivial (Below.refl _ _) (Nat.le_refl _) (by simp) ?_; (case hd => rfl); (case hg => rfl); (case hr => first | (go_simp; done) | (go_simp; rfl)); (case hp => exact (Reps.one (show Kd.M (Kd.int .u8) _ _ _ 0 [.int .u8 0] from rfl) (Reps.one (show Kd.M (Kd.int .u8) _ _ _ 7 [.int .u8 7] from rfl) (Reps.one (show Kd.M (Kd.int .u8) _ _ _ 3 [.int .u8 3] from rfl) (Reps.one (show Kd.M (Kd.int .u8) _ _ _ 0 [.int .u8 0] from rfl) (Reps.one (show Kd.M (Kd.int .u8) _ _ _ 0 [.int .u8 0] from rfl) (Reps.one (show Kd.M (Kd.int .u8) _ _ _ 0 [.int .u8 0] from rfl) (Reps.one (show Kd.M (Kd.int .u8) _ _ _ 5 [.int .u8 5] from rfl) (Reps.none _ _))))))))); intro v302 w20 ho21 hb hg_ hnew_; clear hg_ hnew_; (first | rw [← Ny301.out] at ho21 | (simp only [Int.reduceToNat] at ho21; rw [← Ny301.out] at ho21)); have HO303 := m_ (Kd.R_lower (Kd.R_new' (Kd.R_new' ho21 (Kd.R_lt (Rz_ HO283.out))) (Kd.R_lt (Rz_ HO293.out))) (below_size bz_)); replace HO283 := m_ (Kd.R_elder' (Rz_ HO283.out) (Kd.R_base ho21) hb); replace HO293 := m_ (Kd.R_elder' (Rz_ HO293.out) (Kd.R_base ho21) hb); replace HO296 := m_ (Kd.S_elder' (Sz_ HO296.out) (Kd.R_base ho21) hb); replace HO299 := m_ (Kd.V_elder' (Vz_ HO299.out) (Kd.R_base ho21) hb); replace HB := m_ (below_step bz_ hb); clear hb ho21; obtain ⟨Ao22, co22, eo22⟩ := Kd.R_slice HO303.out; subst eo22) | (go_at_call 16; (with_reducible refine (stolonref01_Same.calls k _ _ t281 _ _ y301 true _ ?side1 ?side2 ?side3 ?side4 A6.out).mono ?_); (case side1 => exact Cd_ (Kd.R_reads' HO283.out).2.2); (case side2 => exact (Kd.R_reads' HO283.out).2.1); (case side3 => exact Cd_ (Kd.R_reads' HO303.out).2.2); (case side4 => exact (Kd.R_reads' HO303.out).2.1); rintro e w' ⟨rfl, ⟨nd, rfl⟩⟩; obtain ⟨Ao23, co23, eo23⟩ := Kd.S_slice HO296.out; subst eo23; have p305 : 0 ≤ (0 : Int) := (by omega); have q305 : 0 < (t294.length : Int) := od_; obtain ⟨ad305, A305_7, c305_7, A305_10, c305_10, e305, hx305_0, hx305_1, hx305_2, hx305_3, hx305_4, hx305_5, hx305_6, hx305_7, hx305_8, hx305_9, hx305_10, hl305_7, hi305_7, hl305_10, hi305_10⟩ := at_T29 (Kd.S_reads' HO296.out).2.2 0 p305 q305; cases e305; obtain ⟨ce305, hce305, hMe305, hcc305⟩ := Kd.S_get HO296.out z29 0 p305 (by first | exact q305 | exact od_ | (have e_ := (Kd.S_reads' HO296.out).1; omega)); obtain ⟨ve305_7, ve305_10, rfl, ge305_7, ge305_10⟩ := k29_openM hMe305; have hv305_7 := hcc305 7 _ rfl; rw [add_field _ _ 7 (by omega)] at hv305_7; replace hv305_7 := Option.some.inj (hv305_7.symm.trans hx305_7); rw [hv305_7] at ge305_7; have HL305_7 := m_ (show Kd.R k59 59 _ _ _ _ ((rd_T29 t294 0).f2.f5) from ge305_7); clear hv305_7 ge305_7; have hv305_10 := hcc305 10 _ rfl; rw [add_field _ _ 10 (by omega)] at hv305_10; replace hv305_10 := Option.some.inj (hv305_10.symm.trans hx305_10); rw [hv305_10] at ge305_10; have HL305_10 := m_ (show Kd.R (Kd.int .u8) 5 _ _ _ _ ((rd_T29 t294 0).f5) from ge305_10); clear hv305_10 ge305_10 hcc305 hce305; have qi305 : (0 < t294.length) = True := eq_true (by omega); (try rw [show ((0 : Int)).toNat = 0 from rfl] at hx305_0); (try rw [show 0 * 11 = 0 from rfl] at hx305_0); (try rw [Addr.add_zero'] at hx305_0); (try rw [show ((0 : Int)).toNat = 0 from rfl] at hx305_1); (try rw [show 0 * 11 = 0 from rfl] at hx305_1); (try rw [Addr.add_zero'] at hx305_1); (try rw [show ((0 : Int)).toNat = 0 from rfl] at hx305_2); (try rw [show 0 * 11 = 0 from rfl] at hx305_2); (try rw [Addr.add_zero'] at hx305_2); (try rw [show ((0 : Int)).toNat = 0 from rfl] at hx305_3); (try rw [show 0 * 11 = 0 from rfl] at hx305_3); (try rw [Addr.add_zero'] at hx305_3); (try rw [show ((0 : Int)).toNat = 0 from rfl] at hx305_4); (try rw [show 0 * 11 = 0 from rfl] at hx305_4); (try rw [Addr.add_zero'] at hx305_4); (try rw [show ((0 : Int)).toNat = 0 from rfl] at hx305_5); (try rw [show 0 * 11 = 0 from rfl] at hx305_5); (try rw [Addr.add_zero'] at hx305_5); (try rw [show ((0 : Int)).toNat = 0 from rfl] at hx305_6); (try rw [show 0 * 11 = 0 from rfl] at hx305_6); (try rw [Addr.add_zero'] at hx305_6); (try rw [show ((0 : Int)).toNat = 0 from rfl] at hx305_7); (try rw [show 0 * 11 = 0 from rfl] at hx305_7); (try rw [Addr.add_zero'] at hx305_7); (try rw [show ((0 : Int)).toNat = 0 from rfl] at hx305_8); (try rw [show 0 * 11 = 0 from rfl] at hx305_8); (try rw [Addr.add_zero'] at hx305_8); (try rw [show ((0 : Int)).toNat = 0 from rfl] at hx305_9); (try rw [show 0 * 11 = 0 from rfl] at hx305_9); (try rw [Addr.add_zero'] at hx305_9); (try rw [show ((0 : Int)).toNat = 0 from rfl] at hx305_10); (try rw [show 0 * 11 = 0 from rfl] at hx305_10); (try rw [Addr.add_zero'] at hx305_10); have HR305_7 := m_ hi305_7; have HC305_7 := m_ hl305_7; clear hi305_7 hl305_7; have HR305_10 := m_ hi305_10; have HC305_10 := m_ hl305_10; clear hi305_10 hl305_10; replace p305 := eq_true p305; replace q305 := eq_true q305; obtain ⟨Ao24, co24, eo24⟩ := Kd.V_slice HO299.out; subst eo24))
         go_ret
         exact ⟨ew_, bz_⟩
        ·rw [if_neg c11] at H
         exact absurd H (by simp)
       ·rw [if_neg c10] at H
        exact absurd H (by simp)
      ·rw [if_neg c9] at H
       exact absurd H (by simp)
     ·rw [if_neg c8] at H
      exact absurd H (by simp)
    ·replace c7 := Bool.eq_false_iff.mpr c7
     subst c7
     have H1 : (none) = some r := by rw [if_neg (show ¬ (false = true) by decide)] at H; exact H
     clear H
     have H := H1
     clear H1
     exact absurd H (by simp)
   ·rw [if_neg c5] at H
    exact absurd H (by simp)
  ·rw [if_neg c3] at H
   exact absurd H (by simp)
 ·rw [if_neg c2] at H
  exact absurd H (by simp)
def stolonref01_Asked.f (a0 : Int) : Option (Bool) := if a0 ≥ 3758096640 then (some (decide (a0 ≤ 4026531839))) else (some false)
set_option maxHeartbeats 8000000 in
set_option maxRecDepth 100000 in
theorem stolonref01_Asked.calls (a0 : Int) (r : Bool) (w : World) (h : stolonref01_Asked.f a0 = some r) :
  Calls Try.prog 32 #[.int .u32 a0] w fun e w' => e = .returned (.bool r) ∧ Drawn0 w w' := by
 have H : (if a0 ≥ 3758096640 then (some (decide (a0 ≤ 4026531839))) else (some false)) = some r := h
 clear h
 by_cases c2 : a0 ≥ 3758096640
 ·rw [if_pos c2] at H
  have c2b0 : decide (3758096640 ≤ a0) = true := decide_eq_true c2
  clear c2
  obtain rfl := Option.some.inj H
  go_enter Try.func32, Try.ntmps32
  go_wp2
  go_ret
  exact ⟨(by first | rfl | (simp; done) | (simp [*]; done)), (by repeat (first | exact Drawn0.refl _ | apply Drawn0.step))⟩
 ·rw [if_neg c2] at H
  have c2b0 : decide (3758096640 ≤ a0) = false := decide_eq_false c2
  clear c2
  obtain rfl := Option.some.inj H
  go_enter Try.func32, Try.ntmps32
  go_wp2
  go_ret
  exact ⟨(by first | rfl | (simp; done) | (simp [*]; done)), (by repeat (first | exact Drawn0.refl _ | apply Drawn0.step))⟩
end Go.Proofs.Ytboonfidioombaa.P

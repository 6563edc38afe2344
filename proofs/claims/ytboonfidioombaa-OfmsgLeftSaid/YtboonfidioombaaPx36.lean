/- For each Go function a Lean function, and the proof that a call comes to what it tells: made by program out of the translation (the kit's print, with texts by hand put in). No condition. -/
import Derived.Test.YtboonfidioombaaSq
import Derived.Test.YtboonfidioombaaPx0
import Derived.Test.YtboonfidioombaaPx13
import Derived.Test.YtboonfidioombaaPx14
import Derived.Test.YtboonfidioombaaPx18
import Derived.Test.YtboonfidioombaaPx19
namespace Go.Proofs.Ytboonfidioombaa.P
open Go.RowKit Go.Proofs.Ytboonfidioombaa.HRows Go.Proofs.YtboonfidioombaaW.PrintWords Go.Proofs.YtboonfidioombaaW.PrintLast Go.Proofs.YtboonfidioombaaW.PrintMore
attribute [local go_sem] max2_int min2_int max_two min_two max_three min_three max_four min_four   -- for this text's walks alone
set_option linter.unusedVariables false
set_option linter.unusedSimpArgs false

/-! ### stolonlaw16_OfmsgLeft: function 8 -/
def stolonlaw16_OfmsgLeft.l0 : Nat → List Int → Bool → List (S29) → List Int → List Int → Int → Option (Bool)
 | 0, _, _, _, _, _, _ => none
 | k + 1, x0, x3, x4, x5, x7, x8 => if x8 < (x4.length : Int) then (if 0 ≤ x8 then ((ofmsg_Encode.f k ((rd_T29 x4 x8).f0) ((rd_T29 x4 x8).f1) ((rd_T29 x4 x8).f2.f0) ((rd_T29 x4 x8).f2.f1) ((rd_T29 x4 x8).f2.f2) ((rd_T29 x4 x8).f2.f3) ((rd_T29 x4 x8).f2.f4) ((rd_T29 x4 x8).f2.f5) ((rd_T29 x4 x8).f3) ((rd_T29 x4 x8).f4) ((rd_T29 x4 x8).f5)).bind fun bt779 => (if bt779.2 = 0 then (if x7.length + bt779.1.length < 140737488355328 then (stolonlaw16_OfmsgLeft.l0 k x0 x3 x4 x5 (x7 ++ bt779.1) (wrap64 (x8 + 1))) else (none)) else (some false))) else (none)) else (if x3 = true then (if x7.length + x5.length < 140737488355328 then ((stolonref01_Same.f k (x7 ++ x5) x0).bind fun t789 => (some t789)) else (none)) else (some false))
def stolonlaw16_OfmsgLeft.f (k : Nat) (l0 : List Int) : Option (Bool) := (stolonlaw16_shown.f k).bind fun t770 => (if (l0.length : Int) > 3000 then (some t770) else ((ofmsg_Split.f k l0).bind fun bt771 => (stolonlaw16_OfmsgLeft.l0 k l0 t770 bt771.1 bt771.2.1 ([] : List Int) 0)))
theorem stolonlaw16_OfmsgLeft.mono_l : ∀ k, (∀ y0 y1 y2 y3 y4 y5, LeO (stolonlaw16_OfmsgLeft.l0 k y0 y1 y2 y3 y4 y5) (stolonlaw16_OfmsgLeft.l0 (k + 1) y0 y1 y2 y3 y4 y5))
 | 0 => fun _ _ _ _ _ _ r h => by simp [stolonlaw16_OfmsgLeft.l0] at h
 | k + 1 => by
  have ih0 := stolonlaw16_OfmsgLeft.mono_l k
  ·intro y0 y1 y2 y3 y4 y5
   unfold stolonlaw16_OfmsgLeft.l0
   repeat' first
   | (with_reducible exact ih0 _ _ _ _ _ _)
   | (with_reducible exact ofmsg_Encode.mono _ _ _ _ _ _ _ _ _ _ _ _)
   | (with_reducible exact ofmsg_Split.mono _ _)
   | (with_reducible exact stolonlaw16_shown.mono _)
   | (with_reducible exact stolonref01_Same.mono _ _ _)
   | (with_reducible exact LeO.refl _)
   | (with_reducible exact LeO.none _)
   | (with_reducible refine LeO.ite ?_ ?_)
   | (with_reducible refine LeO.bind ?_ (fun _ => ?_))
   | exact ih0 _ _ _ _ _ _
   | exact ofmsg_Encode.mono _ _ _ _ _ _ _ _ _ _ _ _
   | exact ofmsg_Split.mono _ _
   | exact stolonlaw16_shown.mono _
   | exact stolonref01_Same.mono _ _ _
   | exact LeO.none _
   | refine LeO.ite ?_ ?_
   | refine LeO.bind ?_ (fun _ => ?_)
theorem stolonlaw16_OfmsgLeft.mono : ∀ a0 k, LeO (stolonlaw16_OfmsgLeft.f k a0) (stolonlaw16_OfmsgLeft.f (k + 1) a0) := by
 intro a0 k
 have ih0 := stolonlaw16_OfmsgLeft.mono_l k
 unfold stolonlaw16_OfmsgLeft.f
 repeat' first
   | (with_reducible exact ih0 _ _ _ _ _ _)
   | (with_reducible exact ofmsg_Encode.mono _ _ _ _ _ _ _ _ _ _ _ _)
   | (with_reducible exact ofmsg_Split.mono _ _)
   | (with_reducible exact stolonlaw16_shown.mono _)
   | (with_reducible exact stolonref01_Same.mono _ _ _)
   | (with_reducible exact LeO.refl _)
   | (with_reducible exact LeO.none _)
   | (with_reducible refine LeO.ite ?_ ?_)
   | (with_reducible refine LeO.bind ?_ (fun _ => ?_))
   | exact ih0 _ _ _ _ _ _
   | exact ofmsg_Encode.mono _ _ _ _ _ _ _ _ _ _ _ _
   | exact ofmsg_Split.mono _ _
   | exact stolonlaw16_shown.mono _
   | exact stolonref01_Same.mono _ _ _
   | exact LeO.none _
   | refine LeO.ite ?_ ?_
   | refine LeO.bind ?_ (fun _ => ?_)
set_option maxHeartbeats 8000000 in
set_option maxRecDepth 100000 in
theorem stolonlaw16_OfmsgLeft.calls (k : Nat) (A0 : Option Addr) (c0 : Nat) (l0 : List Int) (r : Bool) (w : World) (hr0 : Kd.C (Kd.int .u8) w A0 l0.length l0) (hc0 : l0.length ≤ c0) (hTrue : Aside0 (r = true)) (h : stolonlaw16_OfmsgLeft.f k l0 = some r) :
  Calls Try.prog 8 #[.slice A0 l0.length c0] w fun e w' => e = .returned (.bool r) ∧ Below w.heap.size w w' := by
 have hu29 := Try.underlying29
 have HR0 := m_ hr0
 have HC0 := m_ hc0
 clear hr0 hc0
 have HB := m_ (Below.refl w.heap.size w)
 have H : ((stolonlaw16_shown.f k).bind fun t770 => (if (l0.length : Int) > 3000 then (some t770) else ((ofmsg_Split.f k l0).bind fun bt771 => (stolonlaw16_OfmsgLeft.l0 k l0 t770 bt771.1 bt771.2.1 ([] : List Int) 0)))) = some r := h
 clear h
 replace H := Option.bind_eq_some_iff.mp H
 obtain ⟨t770, A20, H⟩ := H
 replace H : (if (l0.length : Int) > 3000 then (some t770) else ((ofmsg_Split.f k l0).bind fun bt771 => (stolonlaw16_OfmsgLeft.l0 k l0 t770 bt771.1 bt771.2.1 ([] : List Int) 0))) = some r := H
 have A2 := m_ A20
 clear A20
 by_cases c3 : (l0.length : Int) > 3000
 ·rw [if_pos c3] at H
  have c3b0 : decide (3000 < (l0.length : Int)) = true := decide_eq_true c3
  have c3b1 : decide (3000 < l0.length) = true := decide_eq_true (by omega)
  clear c3
  obtain rfl := Option.some.inj H
  go_enter Try.func8, Try.ntmps8
  go_wp2_with (first | ((with_reducible refine gate_callee (f := 11) rfl ?_); refine gL_ (some 11) Try.func11 #[] ?_; (with_reducible refine (stolonlaw16_shown.calls k  t770 _ A2.out).mono ?_); rintro e w4 ⟨rfl, hb⟩; refine ⟨_, rfl, ?_⟩; replace HB := m_ (below_step bz_ hb); (try clear hb); (try clear hb2); (try clear hk); (try clear hi)))
  go_ret
  exact ⟨by first | rfl | (simp [errW_none, errW_some] <;> rfl) | (simp [*, errW_none, errW_some] <;> rfl), by repeat (first | (with_reducible first | exact HB.out | apply below_alloc | apply pw_below_drewN | apply below_drew1) | exact HB.out)⟩
 ·rw [if_neg c3] at H
  have c3b0 : decide (3000 < (l0.length : Int)) = false := decide_eq_false c3
  have c3b1 : decide (3000 < l0.length) = false := decide_eq_false (by omega)
  clear c3
  replace H := Option.bind_eq_some_iff.mp H
  obtain ⟨⟨t771, t774, t777⟩, A50, H⟩ := H
  replace H : (stolonlaw16_OfmsgLeft.l0 k l0 t770 t771 t774 ([] : List Int) 0) = some r := H
  have A5 := m_ A50
  clear A50
  have H' := m_ H
  clear H
  go_enter Try.func8, Try.ntmps8
  go_wp2_with (first | ((with_reducible refine gate_callee (f := 11) rfl ?_); refine gL_ (some 11) Try.func11 #[] ?_; (with_reducible refine (stolonlaw16_shown.calls k  t770 _ A2.out).mono ?_); rintro e w6 ⟨rfl, hb⟩; refine ⟨_, rfl, ?_⟩; replace HB := m_ (below_step bz_ hb); (try clear hb); (try clear hb2); (try clear hk); (try clear hi)) | ((with_reducible refine gate_callee (f := 21) rfl ?_); refine gL_ (some 18) Try.func21 #[.slice A0 l0.length c0] ?_; (with_reducible refine (ofmsg_Split.calls k (fun k_ => k_ < w.heap.size) _ _ l0 t771 t774 t777 _ ?side1 A5.out).mono ?_); (case side1 => exact Kd.V_mk HC0.out (Kd.F_below (Kd.C_F (Kd.heap_int .u8) HR0.out) bz_)); rintro e w7 ⟨v772, v775, rfl, ho0, ho1, hb⟩; refine ⟨_, rfl, ?_⟩; have HO773 := m_ (Kd.S_lower (Kd.S_mono (ok' := fun k_ => True) ho0 (fun _ hk_ => trivial)) (below_size bz_)); have HO776 := m_ (Kd.V_lower (Kd.V_mono (ok' := fun k_ => some k_ ≠ (v772 : Value).ownBlock) ho1 (fun k_ hk_ => hk_.2)) (below_size bz_)); replace HB := m_ (below_step bz_ hb); (try clear hb); (try clear hb2); (try clear hk); (try clear hi); (try clear ho0); (try clear ho1)))
  go_loopg [7, 8] k (fun kq v7 v8 w' => ∃ (x7_1 : List Int) (x8_1 : Int), v8 = .int .i64 x8_1 ∧ Aside0 (stolonlaw16_OfmsgLeft.l0 kq l0 t770 t771 t774 x7_1 x8_1 = some r) ∧ Aside0 (kq ≤ k) ∧ Aside0 (Kd.S k29 29 w' w.heap.size (fun k_ => some k_ ≠ (v7 : Value).ownBlock) v772 t771) ∧ Aside0 (Kd.V (Kd.int .u8) 5 w' w.heap.size (fun k_ => some k_ ≠ (v772 : Value).ownBlock ∧ some k_ ≠ (v7 : Value).ownBlock) v775 t774) ∧ Aside0 (Kd.R (Kd.int .u8) 5 w' w.heap.size (fun _ => True) v7 x7_1) ∧ Aside0 (Below w.heap.size w w'))
  case atStart => exact ⟨(([] : List Int)), (0), (by first | rfl | (simp; done) | (simp [*]; done)), H', ⟨Nat.le_refl _⟩, ⟨Sy_ (Kd.S_mono HO773.out (fun _ hk => (by simp [Value.ownBlock])))⟩, ⟨Vy_ (Kd.V_mono HO776.out (fun _ hk => ⟨hk, (by simp [Value.ownBlock])⟩))⟩, ⟨by first | exact Kd.R_nil _ _ _ _ _ | exact Kd.N_nil _ _ _ _ _ | exact Kd.V_nil _ _ _ _ _ | exact Kd.Q_nil _ _ _ _ _ | exact Kd.S_nil _ _ _ _ _⟩, ⟨bz_⟩⟩
  case round =>
   clear H'
   try clear c1
   try clear c2
   try clear p2
   try clear c3
   try clear c3b0
   try clear c3b1
   obtain ⟨x7_1, x8_1, rfl, HA, HK1, HO_4, HO_5, HO_7, HB⟩ := hrel
   cases gk with
   | zero => exact absurd HA.out (by simp [stolonlaw16_OfmsgLeft.l0])
   | succ k1 =>
    have H := HA.out
    clear HA
    simp only [stolonlaw16_OfmsgLeft.l0] at H
    by_cases c8 : x8_1 < (t771.length : Int)
    ·rw [if_pos c8] at H
     have c8b0 : decide (x8_1 < (t771.length : Int)) = true := decide_eq_true c8
     clear c8
     by_cases c9 : 0 ≤ x8_1
     ·rw [if_pos c9] at H
      have c9b0 : decide (0 ≤ x8_1) = true := decide_eq_true c9
      clear c9
      replace H := Option.bind_eq_some_iff.mp H
      obtain ⟨⟨t779, t782⟩, A100, H⟩ := H
      replace H : (if t782 = 0 then (if x7_1.length + t779.length < 140737488355328 then (stolonlaw16_OfmsgLeft.l0 k1 l0 t770 t771 t774 (x7_1 ++ t779) (wrap64 (x8_1 + 1))) else (none)) else (some false)) = some r := H
      have A10 := m_ A100
      clear A100
      by_cases c11 : t782 = 0
      ·rw [if_pos c11] at H
       have c11b0 : (t782 == 0) = true := beq_iff_eq.mpr c11
       have c11b1 : (t782 != 0) = false := bne_eq_false_iff_eq.mpr c11
       clear c11
       by_cases c12 : x7_1.length + t779.length < 140737488355328
       ·rw [if_pos c12] at H
        have LMc12 := m_ c12
        clear c12
        obtain ⟨y783, hy783⟩ : ∃ y_ : List Int, y_ = (x7_1 ++ t779) := ⟨_, rfl⟩
        replace H : (stolonlaw16_OfmsgLeft.l0 k1 l0 t770 t771 t774 y783 (wrap64 (x8_1 + 1))) = some r := by first | (rw [hy783]; with_reducible exact H) | (have H2_ := (Option.bind_some _ _).symm.trans H; rw [hy783]; with_reducible exact H2_) | (have H2_ := (Option.bind_some _ _).symm.trans H; with_reducible exact H2_) | with_reducible exact H | (rw [hy783]; exact H) | exact H
        have Ny783 := m_ hy783
        clear hy783
        have H' := m_ H
        clear H
        obtain ⟨Ao13, co13, eo13⟩ := Kd.S_slice HO_4.out
        subst eo13
        have p778 : 0 ≤ (x8_1 : Int) := of_decide_eq_true (by first | (with_reducible assumption) | assumption)
        have q778 : x8_1 < (t771.length : Int) := of_decide_eq_true (by first | (with_reducible assumption) | assumption)
        obtain ⟨ad778, A778_7, c778_7, A778_10, c778_10, e778, hx778_0, hx778_1, hx778_2, hx778_3, hx778_4, hx778_5, hx778_6, hx778_7, hx778_8, hx778_9, hx778_10, hl778_7, hi778_7, hl778_10, hi778_10⟩ := at_T29 (Kd.S_reads' HO_4.out).2.2 x8_1 p778 q778
        cases e778
        obtain ⟨ce778, hce778, hMe778, hcc778⟩ := Kd.S_get HO_4.out z29 x8_1 p778 (by first | exact q778 | exact of_decide_eq_true (by first | (with_reducible assumption) | assumption) | (have e_ := (Kd.S_reads' HO_4.out).1; omega))
        obtain ⟨ve778_7, ve778_10, rfl, ge778_7, ge778_10⟩ := k29_openM hMe778
        have hv778_7 := hcc778 7 _ rfl
        rw [add_field _ _ 7 (by omega)] at hv778_7
        replace hv778_7 := Option.some.inj (hv778_7.symm.trans hx778_7)
        rw [hv778_7] at ge778_7
        have HL778_7 := m_ (show Kd.R k59 59 _ _ _ _ ((rd_T29 t771 x8_1).f2.f5) from ge778_7)
        clear hv778_7 ge778_7
        have hv778_10 := hcc778 10 _ rfl
        rw [add_field _ _ 10 (by omega)] at hv778_10
        replace hv778_10 := Option.some.inj (hv778_10.symm.trans hx778_10)
        rw [hv778_10] at ge778_10
        have HL778_10 := m_ (show Kd.R (Kd.int .u8) 5 _ _ _ _ ((rd_T29 t771 x8_1).f5) from ge778_10)
        clear hv778_10 ge778_10 hcc778 hce778
        have HR778_7 := m_ hi778_7
        have HC778_7 := m_ hl778_7
        clear hi778_7 hl778_7
        have HR778_10 := m_ hi778_10
        have HC778_10 := m_ hl778_10
        clear hi778_10 hl778_10
        replace p778 := eq_true p778
        replace q778 := eq_true q778
        go_wp2_with (first | ((with_reducible refine gate_callee (f := 12) rfl ?_); refine gL_ (some 33) Try.func12 #[.agg #[.int .u8 ((rd_T29 t771 x8_1).f0), .int .u32 ((rd_T29 t771 x8_1).f1), .int .u32 ((rd_T29 t771 x8_1).f2.f0), .int .u32 ((rd_T29 t771 x8_1).f2.f1), .int .u32 ((rd_T29 t771 x8_1).f2.f2), .int .i64 ((rd_T29 t771 x8_1).f2.f3), .int .u32 ((rd_T29 t771 x8_1).f2.f4), .slice A778_7 ((rd_T29 t771 x8_1).f2.f5).length c778_7, .int .i64 ((rd_T29 t771 x8_1).f3), .bool ((rd_T29 t771 x8_1).f4), .slice A778_10 ((rd_T29 t771 x8_1).f5).length c778_10]] ?_; (with_reducible refine (ofmsg_Encode.calls k1 ((rd_T29 t771 x8_1).f0) ((rd_T29 t771 x8_1).f1) ((rd_T29 t771 x8_1).f2.f0) ((rd_T29 t771 x8_1).f2.f1) ((rd_T29 t771 x8_1).f2.f2) ((rd_T29 t771 x8_1).f2.f3) ((rd_T29 t771 x8_1).f2.f4) _ _ ((rd_T29 t771 x8_1).f2.f5) ((rd_T29 t771 x8_1).f3) ((rd_T29 t771 x8_1).f4) _ _ ((rd_T29 t771 x8_1).f5) t779 t782 _ ?side1 ?side2 ?side3 ?side4 A10.out).mono ?_); (case side1 => exact Cd_ (by repeat (first | (with_reducible exact HR778_7.out) | (with_reducible refine Kd.C_alloc ?_ _) | (with_reducible refine Kd.C_drewN ?_ _) | (with_reducible refine Kd.C_drew ?_) | exact HR778_7.out))); (case side2 => exact HC778_7.out); (case side3 => exact Cd_ (by repeat (first | (with_reducible exact HR778_10.out) | (with_reducible refine Kd.C_alloc ?_ _) | (with_reducible refine Kd.C_drewN ?_ _) | (with_reducible refine Kd.C_drew ?_) | exact HR778_10.out))); (case side4 => exact HC778_10.out); rintro e w14 ⟨v780, rfl, ho0, hb⟩; refine ⟨_, rfl, ?_⟩; have HO781 := m_ (Kd.R_lower (Kd.R_new' (Kd.R_new' ho0 (Kd.R_lt (Rz_ HO_7.out))) (Kd.R_lt (Rz_ HL778_10.out))) (below_size bz_)); replace HO_4 := m_ (Kd.S_elder' (Sz_ HO_4.out) (Kd.R_base ho0) hb); replace HO_5 := m_ (Kd.V_elder' (Vz_ HO_5.out) (Kd.R_base ho0) hb); replace HO_7 := m_ (Kd.R_elder' (Rz_ HO_7.out) (Kd.R_base ho0) hb); replace HL778_7 := m_ (Kd.R_below (Rz_ HL778_7.out) hb); replace HL778_10 := m_ (Kd.R_elder' (Rz_ HL778_10.out) (Kd.R_base ho0) hb); replace HR778_7 := m_ (Kd.C_below (by repeat (first | (with_reducible exact HR778_7.out) | (with_reducible refine Kd.C_alloc ?_ _) | (with_reducible refine Kd.C_drewN ?_ _) | (with_reducible refine Kd.C_drew ?_) | exact HR778_7.out)) hb); replace HR778_10 := m_ (Kd.C_below (by repeat (first | (with_reducible exact HR778_10.out) | (with_reducible refine Kd.C_alloc ?_ _) | (with_reducible refine Kd.C_drewN ?_ _) | (with_reducible refine Kd.C_drew ?_) | exact HR778_10.out)) hb); replace HB := m_ (below_step bz_ hb); (try clear hb); (try clear hb2); (try clear hk); (try clear hi); (try clear ho0); obtain ⟨Ao16, co16, eo16⟩ := Kd.R_slice HO781.out; subst eo16) | ((with_reducible refine gate_builtin (b := .append) (xs := #[.tmp 38, .tmp 39]) rfl ?_); (try (refine gate_guard (by rfl) ?_; dsimp only)); at_builtin; refine Kd.R_append_rows (Kd.int .u8) (w0 := w) w.heap.size rfl (.tmp 38) (.tmp 39) 27 5 (.int .u8 0) 1 rfl Try.underlying27 info5 rfl (by decide) (by omega) u7 x7_1 t779 _ _ _ (fun k_ => some k_ ≠ (.slice Ao16 t779.length co16 : Value).ownBlock) (fun _ => False) rfl rfl ?aO ?aR (fun _ _ h => h) (fun _ h => h.elim) ?aF ?aB ?aS ?aL ?_; (case aR => exact Cd_ (Kd.R_reads' HO781.out).2.2); (case aB => exact bz_); (case aF => exact (fun k_ hk => Kd.fresh' (Kd.R_lt (Rz_ HO781.out)) k_ hk)); (case aO => exact (Ry_ (Kd.R_mono HO_7.out (fun _ hk => hk.2)))); (case aS => exact (below_size bz_)); (case aL => have := LMc12.out; omega); intro v784 w15 ho hb hg hat; rw [← Ny783.out] at ho; have HO785 := m_ (ho); replace HO_4 := m_ (Kd.S_after (ok := (fun k_ => some k_ ≠ (.slice Ao16 t779.length co16 : Value).ownBlock)) (Sy_ (Kd.S_mono HO_4.out (fun _ hk => ⟨hk.2, hk.1⟩))) hg hat); replace HO_5 := m_ (Kd.V_afterv (ok := (fun k_ => some k_ ≠ (.slice (some ad778) t771.length co13 : Value).ownBlock ∧ some k_ ≠ (.slice Ao16 t779.length co16 : Value).ownBlock)) (Vy_ (Kd.V_mono HO_5.out (fun _ hk => ⟨⟨hk.1.1, hk.2⟩, hk.1.2⟩))) hg hat); replace HL778_7 := m_ (Kd.R_after (ok := (fun k_ => some k_ ≠ (.slice (some ad778) t771.length co13 : Value).ownBlock)) (Ry_ (Kd.R_mono HL778_7.out (fun _ hk => ⟨hk.2, hk.1⟩))) hg hat); replace HL778_10 := m_ (Kd.R_after (ok := (fun k_ => some k_ ≠ (.slice (some ad778) t771.length co13 : Value).ownBlock ∧ some k_ ≠ (.slice Ao16 t779.length co16 : Value).ownBlock)) (Ry_ (Kd.R_mono HL778_10.out (fun _ hk => ⟨⟨hk.1.2, hk.2⟩, hk.1.1⟩))) hg hat); replace HO781 := m_ (Kd.R_after (ok := (fun k_ => some k_ ≠ (.slice A778_10 ((rd_T29 t771 x8_1).f5).length c778_10 : Value).ownBlock)) (Ry_ (Kd.R_mono HO781.out (fun _ hk => ⟨hk.2, hk.1.2⟩))) hg hat); replace HB := m_ (hb); clear HO_7 ho hb hg hat))
        go_roundg k1
        case measure => have := HK1.out; omega
        case rel => exact ⟨(y783), (wrap64 (x8_1 + 1)), (by first | rfl | (simp; done) | (simp [*]; done)), H', ⟨by have := HK1.out; omega⟩, ⟨Sy_ (Kd.S_mono HO_4.out (fun _ hk => hk.2))⟩, ⟨Vy_ (Kd.V_mono HO_5.out (fun _ hk => ⟨hk.1.1, hk.2⟩))⟩, ⟨Ry_ (Kd.R_mono HO785.out (fun _ hk => trivial))⟩, ⟨bz_⟩⟩
       ·rw [if_neg c12] at H
        exact absurd H (by simp)
      ·rw [if_neg c11] at H
       have c11b0 : (t782 == 0) = false := beq_eq_false_iff_ne.mpr c11
       have c11b1 : (t782 != 0) = true := bne_iff_ne.mpr c11
       exact absurd ((Option.some.inj H).trans hTrue.out) (by simp)
     ·rw [if_neg c9] at H
      exact absurd H (by simp)
    ·rw [if_neg c8] at H
     have c8b0 : decide (x8_1 < (t771.length : Int)) = false := decide_eq_false c8
     clear c8
     by_cases c17 : t770 = true
     ·subst c17
      have H1 : (if x7_1.length + t774.length < 140737488355328 then ((stolonref01_Same.f k1 (x7_1 ++ t774) l0).bind fun t789 => (some t789)) else (none)) = some r := by rw [if_pos rfl] at H; exact H
      clear H
      have H := H1
      clear H1
      by_cases c18 : x7_1.length + t774.length < 140737488355328
      ·rw [if_pos c18] at H
       have LMc18 := m_ c18
       clear c18
       obtain ⟨y786, hy786⟩ : ∃ y_ : List Int, y_ = (x7_1 ++ t774) := ⟨_, rfl⟩
       replace H : ((stolonref01_Same.f k1 y786 l0).bind fun t789 => (some t789)) = some r := by first | (rw [hy786]; with_reducible exact H) | (have H2_ := (Option.bind_some _ _).symm.trans H; rw [hy786]; with_reducible exact H2_) | (have H2_ := (Option.bind_some _ _).symm.trans H; with_reducible exact H2_) | with_reducible exact H | (rw [hy786]; exact H) | exact H
       have Ny786 := m_ hy786
       clear hy786
       replace H := Option.bind_eq_some_iff.mp H
       obtain ⟨t789, A190, H⟩ := H
       replace H : (some t789) = some r := H
       have A19 := m_ A190
       clear A190
       obtain rfl := Option.some.inj H
       obtain ⟨Ao20, co20, eo20⟩ := Kd.S_slice HO_4.out
       subst eo20
       obtain ⟨Ao22, co22, eo22⟩ := Kd.V_slice HO_5.out
       subst eo22
       go_wp2_with (first | ((with_reducible refine gate_builtin (b := .append) (xs := #[.tmp 43, .tmp 44]) rfl ?_); (try (refine gate_guard (by rfl) ?_; dsimp only)); at_builtin; refine Kd.R_append_rows (Kd.int .u8) (w0 := w) w.heap.size rfl (.tmp 43) (.tmp 44) 27 5 (.int .u8 0) 1 rfl Try.underlying27 info5 rfl (by decide) (by omega) u7 x7_1 t774 _ _ _ (fun _ => True) (fun _ => False) rfl rfl ?aO ?aR (fun _ _ h => h) (fun _ h => h.elim) ?aF ?aB ?aS ?aL ?_; (case aR => exact Cd_ (Kd.V_reads' HO_5.out).2.2); (case aB => exact bz_); (case aF => exact (fun _ _ => trivial)); (case aO => exact (Rz_ HO_7.out)); (case aS => exact (below_size bz_)); (case aL => have := LMc18.out; omega); intro v787 w21 ho hb hg hat; rw [← Ny786.out] at ho; have HO788 := m_ (ho); replace HO_4 := m_ (Kd.S_after (ok := (fun _ => True)) (Sy_ (Kd.S_mono HO_4.out (fun _ hk => ⟨trivial, hk⟩))) hg hat); replace HO_5 := m_ (Kd.V_afterv (ok := (fun k_ => some k_ ≠ (.slice Ao20 t771.length co20 : Value).ownBlock)) (Vz_ HO_5.out) hg hat); replace HB := m_ (hb); clear HO_7 ho hb hg hat; obtain ⟨Ao23, co23, eo23⟩ := Kd.R_slice HO788.out; subst eo23) | (go_at_call 16; (with_reducible refine (stolonref01_Same.calls k1 _ _ y786 _ _ l0 t789 _ ?side1 ?side2 ?side3 ?side4 A19.out).mono ?_); (case side1 => exact Cd_ (Kd.R_reads' HO788.out).2.2); (case side2 => exact (Kd.R_reads' HO788.out).2.1); (case side3 => exact Cd_ (Kd.C_below HR0.out HB.out)); (case side4 => exact HC0.out); rintro e w' ⟨rfl, ⟨nd, rfl⟩⟩))
       go_ret
       exact ⟨by first | rfl | (simp [errW_none, errW_some] <;> rfl) | (simp [*, errW_none, errW_some] <;> rfl), by repeat (first | (with_reducible first | exact HB.out | apply below_alloc | apply pw_below_drewN | apply below_drew1) | exact HB.out)⟩
      ·rw [if_neg c18] at H
       exact absurd H (by simp)
     ·replace c17 := Bool.eq_false_iff.mpr c17
      subst c17
      have H1 : (some false) = some r := by rw [if_neg (show ¬ (false = true) by decide)] at H; exact H
      clear H
      have H := H1
      clear H1
      exact absurd ((Option.some.inj H).trans hTrue.out) (by simp)

end Go.Proofs.Ytboonfidioombaa.P

/- For each Go function a Lean function, and the proof that a call comes to what it tells: made by program out of the translation (the kit's print, with texts by hand put in). No condition. -/
import Derived.Test.YtboonfidioombaaSq
import Derived.Test.YtboonfidioombaaPx0
import Derived.Test.YtboonfidioombaaPx13
import Derived.Test.YtboonfidioombaaPx18
import Derived.Test.YtboonfidioombaaPx19
import Derived.Test.YtboonfidioombaaPx31
namespace Go.Proofs.Ytboonfidioombaa.P
open Go.RowKit Go.Proofs.Ytboonfidioombaa.HRows Go.Proofs.YtboonfidioombaaW.PrintWords Go.Proofs.YtboonfidioombaaW.PrintLast Go.Proofs.YtboonfidioombaaW.PrintMore
attribute [local go_sem] max2_int min2_int max_two min_two max_three min_three max_four min_four
set_option linter.unusedVariables false
set_option linter.unusedSimpArgs false
def stolonlaw16_OfmsgStreams.l0 : Nat → List (S29) → Int → Bool → List Int → Int → Option (Bool)
 | 0, _, _, _, _, _ => none
 | k + 1, x0, x1, x5, x6, x7 => if x7 < (x0.length : Int) then (if 0 ≤ x7 then (if (wrap64 ((((rd_T29 x0 x7).f5).length : Int) + (((rd_T29 x0 x7).f2.f5).length : Int))) > 3000 then (some x5) else ((ofmsg_Encode.f k ((rd_T29 x0 x7).f0) ((rd_T29 x0 x7).f1) ((rd_T29 x0 x7).f2.f0) ((rd_T29 x0 x7).f2.f1) ((rd_T29 x0 x7).f2.f2) ((rd_T29 x0 x7).f2.f3) ((rd_T29 x0 x7).f2.f4) ((rd_T29 x0 x7).f2.f5) ((rd_T29 x0 x7).f3) ((rd_T29 x0 x7).f4) ((rd_T29 x0 x7).f5)).bind fun bt750 => (if bt750.2 = 0 then (if x6.length + bt750.1.length < 140737488355328 then (stolonlaw16_OfmsgStreams.l0 k x0 x1 x5 (x6 ++ bt750.1) (wrap64 (x7 + 1))) else (none)) else (some x5)))) else (none)) else (if 0 ≤ (mn (mx x1 0) (x6.length : Int)) then (if (mn (mx x1 0) (x6.length : Int)) ≤ (x6.length : Int) then ((ofmsg_Split.f k (x6.take ((mn (mx x1 0) (x6.length : Int)) : Int).toNat)).bind fun bt709 => ((some (([] : List Int) : List Int)).bind fun y716 => (if y716.length + bt709.2.1.length < 140737488355328 then ((some (y716 ++ bt709.2.1 : List Int)).bind fun y719 => ((some (x6.drop ((mn (mx x1 0) (x6.length : Int)) : Int).toNat : List Int)).bind fun y722 => (if y719.length + y722.length < 140737488355328 then ((ofmsg_Split.f k (y719 ++ y722)).bind fun bt730 => (if x5 = true then (if bt709.2.2 = 0 then (if bt730.2.2 = 0 then (if (bt730.2.1.length : Int) = 0 then ((some (([] : List (S29)) : List (S29))).bind fun y737 => (if y737.length + bt709.1.length < 1353245080339 then ((some (y737 ++ bt709.1 : List (S29))).bind fun y740 => (if y740.length + bt730.1.length < 1353245080339 then ((stolonref16_Msgs.f k (y740 ++ bt730.1) x0).bind fun t746 => (some t746)) else (none))) else (none))) else (some false)) else (some false)) else (some false)) else (some false))) else (none)))) else (none)))) else (none)) else (none))
def stolonlaw16_OfmsgStreams.f (k : Nat) (l0 : List (S29)) (a1 : Int) : Option (Bool) := (stolonlaw16_shown.f k).bind fun t703 => (if (l0.length : Int) > 30 then (some t703) else (stolonlaw16_OfmsgStreams.l0 k l0 a1 t703 ([] : List Int) 0))
theorem stolonlaw16_OfmsgStreams.mono_l : ∀ k, (∀ y0 y1 y2 y3 y4, LeO (stolonlaw16_OfmsgStreams.l0 k y0 y1 y2 y3 y4) (stolonlaw16_OfmsgStreams.l0 (k + 1) y0 y1 y2 y3 y4))
 | 0 => fun _ _ _ _ _ r h => by simp [stolonlaw16_OfmsgStreams.l0] at h
 | k + 1 => by
  have ih0 := stolonlaw16_OfmsgStreams.mono_l k
  ·intro y0 y1 y2 y3 y4
   unfold stolonlaw16_OfmsgStreams.l0
   repeat' first
   | (with_reducible exact ih0 _ _ _ _ _)
   | (with_reducible exact ofmsg_Encode.mono _ _ _ _ _ _ _ _ _ _ _ _)
   | (with_reducible exact ofmsg_Split.mono _ _)
   | (with_reducible exact stolonlaw16_shown.mono _)
   | (with_reducible exact stolonref16_Msgs.mono _ _ _)
   | (with_reducible exact LeO.refl _)
   | (with_reducible exact LeO.none _)
   | (with_reducible refine LeO.ite ?_ ?_)
   | (with_reducible refine LeO.bind ?_ (fun _ => ?_))
   | exact ih0 _ _ _ _ _
   | exact ofmsg_Encode.mono _ _ _ _ _ _ _ _ _ _ _ _
   | exact ofmsg_Split.mono _ _
   | exact stolonlaw16_shown.mono _
   | exact stolonref16_Msgs.mono _ _ _
   | exact LeO.none _
   | refine LeO.ite ?_ ?_
   | refine LeO.bind ?_ (fun _ => ?_)
theorem stolonlaw16_OfmsgStreams.mono : ∀ a0 a1 k, LeO (stolonlaw16_OfmsgStreams.f k a0 a1) (stolonlaw16_OfmsgStreams.f (k + 1) a0 a1) := by
 intro a0 a1 k
 have ih0 := stolonlaw16_OfmsgStreams.mono_l k
 unfold stolonlaw16_OfmsgStreams.f
 repeat' first
   | (with_reducible exact ih0 _ _ _ _ _)
   | (with_reducible exact ofmsg_Encode.mono _ _ _ _ _ _ _ _ _ _ _ _)
   | (with_reducible exact ofmsg_Split.mono _ _)
   | (with_reducible exact stolonlaw16_shown.mono _)
   | (with_reducible exact stolonref16_Msgs.mono _ _ _)
   | (with_reducible exact LeO.refl _)
   | (with_reducible exact LeO.none _)
   | (with_reducible refine LeO.ite ?_ ?_)
   | (with_reducible refine LeO.bind ?_ (fun _ => ?_))
   | exact ih0 _ _ _ _ _
   | exact ofmsg_Encode.mono _ _ _ _ _ _ _ _ _ _ _ _
   | exact ofmsg_Split.mono _ _
   | exact stolonlaw16_shown.mono _
   | exact stolonref16_Msgs.mono _ _ _
   | exact LeO.none _
   | refine LeO.ite ?_ ?_
   | refine LeO.bind ?_ (fun _ => ?_)
def stolonlaw16_OfmsgStreams.T8 : Bool × List (List Nat × List Nat) := (true, [([], []), ([], []), ([0, 1], [0, 1]), ([2], [2]), ([3], [3]), ([4], [4]), ([], []), ([], []), ([6, 7], [6, 7]), ([8], [8]), ([9], [9]), ([10], [10]), ([11], [11]), ([5, 12], [5, 12]), ([13], [13])])
def stolonlaw16_OfmsgStreams.B8 : List Nat := [0, 0, 3, 7, 15, 31, 0, 0, 192, 448, 960, 1984, 4032, 8191, 16383]
theorem stolonlaw16_OfmsgStreams.tab8 : rtab .any (opsOf Try.f6 8) = stolonlaw16_OfmsgStreams.T8 := by kernel_rfl
theorem stolonlaw16_OfmsgStreams.bits8 : waitsOk stolonlaw16_OfmsgStreams.T8.2 stolonlaw16_OfmsgStreams.B8 = true := by kernel_rfl
def stolonlaw16_OfmsgStreams.T16 : Bool × List (List Nat × List Nat) := (true, [([], []), ([], []), ([0, 1], [0, 1]), ([], []), ([], []), ([3, 4], [3, 4]), ([2, 5, 2], [2, 5]), ([6, 6], [6]), ([7], [7]), ([8], [8]), ([8], [8]), ([8], [8]), ([9, 7, 0, 1, 2, 3, 4, 5, 6, 7, 8, 9], [9]), ([10, 12, 0, 1, 2, 3, 4, 5, 6, 7, 8, 9, 10, 12], [10]), ([11, 13, 0, 1, 2, 3, 4, 5, 6, 7, 8, 9, 10, 11, 12, 13], [11])])
def stolonlaw16_OfmsgStreams.B16 : List Nat := [0, 0, 3, 0, 0, 24, 63, 127, 255, 511, 511, 511, 1023, 6143, 16383]
theorem stolonlaw16_OfmsgStreams.tab16 : rtab .any (opsOf Try.f6 16) = stolonlaw16_OfmsgStreams.T16 := by kernel_rfl
theorem stolonlaw16_OfmsgStreams.bits16 : waitsOk stolonlaw16_OfmsgStreams.T16.2 stolonlaw16_OfmsgStreams.B16 = true := by kernel_rfl
set_option maxHeartbeats 8000000 in
set_option maxRecDepth 100000 in
theorem stolonlaw16_OfmsgStreams.calls (k : Nat) (A0 : Option Addr) (c0 : Nat) (l0 : List (S29)) (a1 : Int) (r : Bool) (w : World) (hr0 : Kd.C k29 w A0 l0.length l0) (hc0 : l0.length ≤ c0) (hTrue : Aside0 (r = true)) (h : stolonlaw16_OfmsgStreams.f k l0 a1 = some r) :
  Calls Try.prog 6 #[.slice A0 l0.length c0, .int .i64 a1] w fun e w' => e = .returned (.bool r) ∧ Below w.heap.size w w' := by
 have hu29 := Try.underlying29
 have HR0 := m_ hr0
 have HC0 := m_ hc0
 clear hr0 hc0
 have HB := m_ (Below.refl w.heap.size w)
 have H : ((stolonlaw16_shown.f k).bind fun t703 => (if (l0.length : Int) > 30 then (some t703) else (stolonlaw16_OfmsgStreams.l0 k l0 a1 t703 ([] : List Int) 0))) = some r := h
 clear h
 replace H := Option.bind_eq_some_iff.mp H
 obtain ⟨t703, A30, H⟩ := H
 replace H : (if (l0.length : Int) > 30 then (some t703) else (stolonlaw16_OfmsgStreams.l0 k l0 a1 t703 ([] : List Int) 0)) = some r := H
 have A3 := m_ A30
 clear A30
 by_cases c4 : (l0.length : Int) > 30
 ·rw [if_pos c4] at H
  have c4b0 : decide (30 < (l0.length : Int)) = true := decide_eq_true c4
  have c4b1 : decide (30 < l0.length) = true := decide_eq_true (by omega)
  clear c4
  obtain rfl := Option.some.inj H
  go_enter Try.func6, Try.ntmps6
  go_wp2_with (first | ((with_reducible refine gate_callee (f := 11) rfl ?_); refine gL_ (some 17) Try.func11 #[] ?_; (with_reducible refine (stolonlaw16_shown.calls k  t703 _ A3.out).mono ?_); rintro e w5 ⟨rfl, hb⟩; refine ⟨_, rfl, ?_⟩; replace HB := m_ (below_step bz_ hb); (try clear hb); (try clear hb2); (try clear hk); (try clear hi)))
  go_ret
  exact ⟨ew_, bz_⟩
 ·rw [if_neg c4] at H
  have c4b0 : decide (30 < (l0.length : Int)) = false := decide_eq_false c4
  have c4b1 : decide (30 < l0.length) = false := decide_eq_false (by omega)
  clear c4
  have H' := m_ H
  clear H
  go_enter Try.func6, Try.ntmps6
  go_wp2_with (first | ((with_reducible refine gate_callee (f := 11) rfl ?_); refine gL_ (some 17) Try.func11 #[] ?_; (with_reducible refine (stolonlaw16_shown.calls k  t703 _ A3.out).mono ?_); rintro e w6 ⟨rfl, hb⟩; refine ⟨_, rfl, ?_⟩; replace HB := m_ (below_step bz_ hb); (try clear hb); (try clear hb2); (try clear hk); (try clear hi)))
  go_loopg [6, 7] k (fun kq v6 v7 w' => ∃ (x6_1 : List Int) (x7_1 : Int), v7 = .int .i64 x7_1 ∧ Aside0 (stolonlaw16_OfmsgStreams.l0 kq l0 a1 t703 x6_1 x7_1 = some r) ∧ Aside0 (kq ≤ k) ∧ Aside0 (Kd.R (Kd.int .u8) 5 w' w.heap.size (fun _ => True) v6 x6_1) ∧ Aside0 (Below w.heap.size w w'))
  case atStart => exact ⟨(([] : List Int)), (0), (by first | rfl | (simp; done) | (simp [*]; done)), H', ⟨Nat.le_refl _⟩, ⟨by first | exact Kd.R_nil _ _ _ _ _ | exact Kd.N_nil _ _ _ _ _ | exact Kd.V_nil _ _ _ _ _ | exact Kd.Q_nil _ _ _ _ _ | exact Kd.S_nil _ _ _ _ _⟩, ⟨bz_⟩⟩
  case round =>
   clear H'
   try clear c1
   try clear p2
   try clear c4
   try clear c4b0
   try clear c4b1
   try clear c6
   obtain ⟨x6_1, x7_1, rfl, HA, HK1, HO_6, HB⟩ := hrel
   cases gk with
   | zero => exact absurd HA.out (by simp [stolonlaw16_OfmsgStreams.l0])
   | succ k1 =>
    have H := HA.out
    clear HA
    simp only [stolonlaw16_OfmsgStreams.l0] at H
    by_cases c7 : x7_1 < (l0.length : Int)
    ·rw [if_pos c7] at H
     have c7b0 : decide (x7_1 < (l0.length : Int)) = true := decide_eq_true c7
     clear c7
     by_cases c8 : 0 ≤ x7_1
     ·rw [if_pos c8] at H
      have c8b0 : decide (0 ≤ x7_1) = true := decide_eq_true c8
      clear c8
      by_cases c9 : (wrap64 ((((rd_T29 l0 x7_1).f5).length : Int) + (((rd_T29 l0 x7_1).f2.f5).length : Int))) > 3000
      ·rw [if_pos c9] at H
       have c9b0 : decide (3000 < (wrap64 ((((rd_T29 l0 x7_1).f5).length : Int) + (((rd_T29 l0 x7_1).f2.f5).length : Int)))) = true := decide_eq_true c9
       clear c9
       obtain rfl := Option.some.inj H
       try go_wp2
       replace HO_6 := m_ (Kd.R_drew HO_6.out)
       replace HB := m_ (below_drew1 HB.out)
       have p747 : 0 ≤ (x7_1 : Int) := od_
       have q747 : x7_1 < (l0.length : Int) := od_
       obtain ⟨ad747, A747_7, c747_7, A747_10, c747_10, e747, hx747_0, hx747_1, hx747_2, hx747_3, hx747_4, hx747_5, hx747_6, hx747_7, hx747_8, hx747_9, hx747_10, hl747_7, hi747_7, hl747_10, hi747_10⟩ := at_T29 HR0.out x7_1 p747 q747
       have hw747_10 := hx747_10
       have hw747_9 := hx747_9
       have hw747_8 := hx747_8
       have hw747_7 := hx747_7
       have hw747_6 := hx747_6
       have hw747_5 := hx747_5
       have hw747_4 := hx747_4
       have hw747_3 := hx747_3
       have hw747_2 := hx747_2
       have hw747_1 := hx747_1
       have hw747_0 := hx747_0
       cases e747
       replace hx747_0 := kp_ HB.out hx747_0
       replace hx747_1 := kp_ HB.out hx747_1
       replace hx747_2 := kp_ HB.out hx747_2
       replace hx747_3 := kp_ HB.out hx747_3
       replace hx747_4 := kp_ HB.out hx747_4
       replace hx747_5 := kp_ HB.out hx747_5
       replace hx747_6 := kp_ HB.out hx747_6
       replace hx747_7 := kp_ HB.out hx747_7
       replace hx747_8 := kp_ HB.out hx747_8
       replace hx747_9 := kp_ HB.out hx747_9
       replace hx747_10 := kp_ HB.out hx747_10
       have HR747_7 := m_ hi747_7
       have HC747_7 := m_ hl747_7
       clear hi747_7 hl747_7
       have HR747_10 := m_ hi747_10
       have HC747_10 := m_ hl747_10
       clear hi747_10 hl747_10
       replace p747 := eq_true p747
       replace q747 := eq_true q747
       have p748 : 0 ≤ (x7_1 : Int) := od_
       have q748 : x7_1 < (l0.length : Int) := od_
       obtain ⟨ad748, A748_7, c748_7, A748_10, c748_10, e748, hx748_0, hx748_1, hx748_2, hx748_3, hx748_4, hx748_5, hx748_6, hx748_7, hx748_8, hx748_9, hx748_10, hl748_7, hi748_7, hl748_10, hi748_10⟩ := at_T29 HR0.out x7_1 p748 q748
       have hw748_10 := hx748_10
       have hw748_9 := hx748_9
       have hw748_8 := hx748_8
       have hw748_7 := hx748_7
       have hw748_6 := hx748_6
       have hw748_5 := hx748_5
       have hw748_4 := hx748_4
       have hw748_3 := hx748_3
       have hw748_2 := hx748_2
       have hw748_1 := hx748_1
       have hw748_0 := hx748_0
       obtain rfl : ad747 = ad748 := (by injection e748)
       replace hx748_0 := kp_ HB.out hx748_0
       replace hx748_1 := kp_ HB.out hx748_1
       replace hx748_2 := kp_ HB.out hx748_2
       replace hx748_3 := kp_ HB.out hx748_3
       replace hx748_4 := kp_ HB.out hx748_4
       replace hx748_5 := kp_ HB.out hx748_5
       replace hx748_6 := kp_ HB.out hx748_6
       replace hx748_7 := kp_ HB.out hx748_7
       replace hx748_8 := kp_ HB.out hx748_8
       replace hx748_9 := kp_ HB.out hx748_9
       replace hx748_10 := kp_ HB.out hx748_10
       have HR748_7 := m_ hi748_7
       have HC748_7 := m_ hl748_7
       clear hi748_7 hl748_7
       have HR748_10 := m_ hi748_10
       have HC748_10 := m_ hl748_10
       clear hi748_10 hl748_10
       replace p748 := eq_true p748
       replace q748 := eq_true q748
       have ea_ := Option.some.inj (hx747_7.symm.trans hx748_7)
       injection ea_ with ea_ en_ ec_
       subst ea_
       subst ec_
       clear en_
       have ea_ := Option.some.inj (hx747_10.symm.trans hx748_10)
       injection ea_ with ea_ en_ ec_
       subst ea_
       subst ec_
       clear en_
       refine start_ (n := 15) (S := fun w' => w'.cell? (ad747.add ((x7_1).toNat * 11)) = some (.int .u8 ((rd_T29 l0 x7_1).f0)) ∧ w'.cell? ⟨(ad747.add ((x7_1).toNat * 11)).block, (ad747.add ((x7_1).toNat * 11)).off + 1, none⟩ = some (.int .u32 ((rd_T29 l0 x7_1).f1)) ∧ w'.cell? ⟨(ad747.add ((x7_1).toNat * 11)).block, (ad747.add ((x7_1).toNat * 11)).off + 2, none⟩ = some (.int .u32 ((rd_T29 l0 x7_1).f2.f0)) ∧ w'.cell? ⟨(ad747.add ((x7_1).toNat * 11)).block, (ad747.add ((x7_1).toNat * 11)).off + 3, none⟩ = some (.int .u32 ((rd_T29 l0 x7_1).f2.f1)) ∧ w'.cell? ⟨(ad747.add ((x7_1).toNat * 11)).block, (ad747.add ((x7_1).toNat * 11)).off + 4, none⟩ = some (.int .u32 ((rd_T29 l0 x7_1).f2.f2)) ∧ w'.cell? ⟨(ad747.add ((x7_1).toNat * 11)).block, (ad747.add ((x7_1).toNat * 11)).off + 5, none⟩ = some (.int .i64 ((rd_T29 l0 x7_1).f2.f3)) ∧ w'.cell? ⟨(ad747.add ((x7_1).toNat * 11)).block, (ad747.add ((x7_1).toNat * 11)).off + 6, none⟩ = some (.int .u32 ((rd_T29 l0 x7_1).f2.f4)) ∧ w'.cell? ⟨(ad747.add ((x7_1).toNat * 11)).block, (ad747.add ((x7_1).toNat * 11)).off + 7, none⟩ = some (.slice A747_7 ((rd_T29 l0 x7_1).f2.f5).length c747_7) ∧ w'.cell? ⟨(ad747.add ((x7_1).toNat * 11)).block, (ad747.add ((x7_1).toNat * 11)).off + 8, none⟩ = some (.int .i64 ((rd_T29 l0 x7_1).f3)) ∧ w'.cell? ⟨(ad747.add ((x7_1).toNat * 11)).block, (ad747.add ((x7_1).toNat * 11)).off + 9, none⟩ = some (.bool ((rd_T29 l0 x7_1).f4)) ∧ w'.cell? ⟨(ad747.add ((x7_1).toNat * 11)).block, (ad747.add ((x7_1).toNat * 11)).off + 10, none⟩ = some (.slice A747_10 ((rd_T29 l0 x7_1).f5).length c747_10) ∧ w'.cell? (ad747.add ((x7_1).toNat * 11)) = some (.int .u8 ((rd_T29 l0 x7_1).f0)) ∧ w'.cell? ⟨(ad747.add ((x7_1).toNat * 11)).block, (ad747.add ((x7_1).toNat * 11)).off + 1, none⟩ = some (.int .u32 ((rd_T29 l0 x7_1).f1)) ∧ w'.cell? ⟨(ad747.add ((x7_1).toNat * 11)).block, (ad747.add ((x7_1).toNat * 11)).off + 2, none⟩ = some (.int .u32 ((rd_T29 l0 x7_1).f2.f0)) ∧ w'.cell? ⟨(ad747.add ((x7_1).toNat * 11)).block, (ad747.add ((x7_1).toNat * 11)).off + 3, none⟩ = some (.int .u32 ((rd_T29 l0 x7_1).f2.f1)) ∧ w'.cell? ⟨(ad747.add ((x7_1).toNat * 11)).block, (ad747.add ((x7_1).toNat * 11)).off + 4, none⟩ = some (.int .u32 ((rd_T29 l0 x7_1).f2.f2)) ∧ w'.cell? ⟨(ad747.add ((x7_1).toNat * 11)).block, (ad747.add ((x7_1).toNat * 11)).off + 5, none⟩ = some (.int .i64 ((rd_T29 l0 x7_1).f2.f3)) ∧ w'.cell? ⟨(ad747.add ((x7_1).toNat * 11)).block, (ad747.add ((x7_1).toNat * 11)).off + 6, none⟩ = some (.int .u32 ((rd_T29 l0 x7_1).f2.f4)) ∧ w'.cell? ⟨(ad747.add ((x7_1).toNat * 11)).block, (ad747.add ((x7_1).toNat * 11)).off + 7, none⟩ = some (.slice A747_7 ((rd_T29 l0 x7_1).f2.f5).length c747_7) ∧ w'.cell? ⟨(ad747.add ((x7_1).toNat * 11)).block, (ad747.add ((x7_1).toNat * 11)).off + 8, none⟩ = some (.int .i64 ((rd_T29 l0 x7_1).f3)) ∧ w'.cell? ⟨(ad747.add ((x7_1).toNat * 11)).block, (ad747.add ((x7_1).toNat * 11)).off + 9, none⟩ = some (.bool ((rd_T29 l0 x7_1).f4)) ∧ w'.cell? ⟨(ad747.add ((x7_1).toNat * 11)).block, (ad747.add ((x7_1).toNat * 11)).off + 10, none⟩ = some (.slice A747_10 ((rd_T29 l0 x7_1).f5).length c747_10)) (ds := []) (bs_ 15 0) (by kernel_rfl) rfl rfl ⟨(kp_ HB.out hw747_0), (kp_ HB.out hw747_1), (kp_ HB.out hw747_2), (kp_ HB.out hw747_3), (kp_ HB.out hw747_4), (kp_ HB.out hw747_5), (kp_ HB.out hw747_6), (kp_ HB.out hw747_7), (kp_ HB.out hw747_8), (kp_ HB.out hw747_9), (kp_ HB.out hw747_10), (kp_ HB.out hw748_0), (kp_ HB.out hw748_1), (kp_ HB.out hw748_2), (kp_ HB.out hw748_3), (kp_ HB.out hw748_4), (kp_ HB.out hw748_5), (kp_ HB.out hw748_6), (kp_ HB.out hw748_7), (kp_ HB.out hw748_8), (kp_ HB.out hw748_9), (kp_ HB.out hw748_10)⟩ (fun hHeld => ?_); refine with_tabW stolonlaw16_OfmsgStreams.tab8 stolonlaw16_OfmsgStreams.bits8 (fun HT_ HW_ => ?_)
       generalize wr.drew = w10 at HO_6 HB HR747_10 HR747_7 HR748_10 HR748_7 hx747_0 hx747_1 hx747_10 hx747_2 hx747_3 hx747_4 hx747_5 hx747_6 hx747_7 hx747_8 hx747_9 hx748_0 hx748_1 hx748_10 hx748_2 hx748_3 hx748_4 hx748_5 hx748_6 hx748_7 hx748_8 hx748_9 hHeld ⊢
       refine pz_ 0 28 ?_
       refine pz_ 1 29 ?_
       refine pz_ 2 30 ?_
       refine pz_ 3 31 ?_
       refine pz_ 6 34 ?_
       refine pz_ 7 35 ?_
       refine pz_ 8 36 ?_
       refine pz_ 9 37 ?_
       refine pz_ 10 38 ?_
       refine tz_ 4 32 ?_
       refine pz_ 5 33 ?_
       refine tz_ 11 39 ?_
       refine pz_ 12 40 ?_
       refine pz_ 13 41 ?_
       refine pz_ 14 42 ?_
       refine dz_ ?_
       try go_wp2
       go_ret
       exact ⟨ew_, bz_⟩
      ·rw [if_neg c9] at H
       have c9b0 : decide (3000 < (wrap64 ((((rd_T29 l0 x7_1).f5).length : Int) + (((rd_T29 l0 x7_1).f2.f5).length : Int)))) = false := decide_eq_false c9
       clear c9
       replace H := Option.bind_eq_some_iff.mp H
       obtain ⟨⟨t750, t753⟩, A110, H⟩ := H
       replace H : (if t753 = 0 then (if x6_1.length + t750.length < 140737488355328 then (stolonlaw16_OfmsgStreams.l0 k1 l0 a1 t703 (x6_1 ++ t750) (wrap64 (x7_1 + 1))) else (none)) else (some t703)) = some r := H
       have A11 := m_ A110
       clear A110
       by_cases c12 : t753 = 0
       ·rw [if_pos c12] at H
        have c12b0 : (t753 == 0) = true := beq_iff_eq.mpr c12
        have c12b1 : (t753 != 0) = false := bne_eq_false_iff_eq.mpr c12
        clear c12
        by_cases c13 : x6_1.length + t750.length < 140737488355328
        ·rw [if_pos c13] at H
         have LMc13 := m_ c13
         clear c13
         obtain ⟨y754, hy754⟩ : ∃ y_ : List Int, y_ = (x6_1 ++ t750) := ⟨_, rfl⟩
         replace H : (stolonlaw16_OfmsgStreams.l0 k1 l0 a1 t703 y754 (wrap64 (x7_1 + 1))) = some r := by first | (rw [hy754]; with_reducible exact H) | (have H2_ := (Option.bind_some _ _).symm.trans H; rw [hy754]; with_reducible exact H2_) | (have H2_ := (Option.bind_some _ _).symm.trans H; with_reducible exact H2_) | with_reducible exact H | (rw [hy754]; exact H) | exact H
         have Ny754 := m_ hy754
         clear hy754
         have H' := m_ H
         clear H
         try go_wp2
         replace HO_6 := m_ (Kd.R_drew HO_6.out)
         replace HB := m_ (below_drew1 HB.out)
         have p747 : 0 ≤ (x7_1 : Int) := od_
         have q747 : x7_1 < (l0.length : Int) := od_
         obtain ⟨ad747, A747_7, c747_7, A747_10, c747_10, e747, hx747_0, hx747_1, hx747_2, hx747_3, hx747_4, hx747_5, hx747_6, hx747_7, hx747_8, hx747_9, hx747_10, hl747_7, hi747_7, hl747_10, hi747_10⟩ := at_T29 HR0.out x7_1 p747 q747
         have hw747_10 := hx747_10
         have hw747_9 := hx747_9
         have hw747_8 := hx747_8
         have hw747_7 := hx747_7
         have hw747_6 := hx747_6
         have hw747_5 := hx747_5
         have hw747_4 := hx747_4
         have hw747_3 := hx747_3
         have hw747_2 := hx747_2
         have hw747_1 := hx747_1
         have hw747_0 := hx747_0
         cases e747
         replace hx747_0 := kp_ HB.out hx747_0
         replace hx747_1 := kp_ HB.out hx747_1
         replace hx747_2 := kp_ HB.out hx747_2
         replace hx747_3 := kp_ HB.out hx747_3
         replace hx747_4 := kp_ HB.out hx747_4
         replace hx747_5 := kp_ HB.out hx747_5
         replace hx747_6 := kp_ HB.out hx747_6
         replace hx747_7 := kp_ HB.out hx747_7
         replace hx747_8 := kp_ HB.out hx747_8
         replace hx747_9 := kp_ HB.out hx747_9
         replace hx747_10 := kp_ HB.out hx747_10
         have HR747_7 := m_ hi747_7
         have HC747_7 := m_ hl747_7
         clear hi747_7 hl747_7
         have HR747_10 := m_ hi747_10
         have HC747_10 := m_ hl747_10
         clear hi747_10 hl747_10
         replace p747 := eq_true p747
         replace q747 := eq_true q747
         have p748 : 0 ≤ (x7_1 : Int) := od_
         have q748 : x7_1 < (l0.length : Int) := od_
         obtain ⟨ad748, A748_7, c748_7, A748_10, c748_10, e748, hx748_0, hx748_1, hx748_2, hx748_3, hx748_4, hx748_5, hx748_6, hx748_7, hx748_8, hx748_9, hx748_10, hl748_7, hi748_7, hl748_10, hi748_10⟩ := at_T29 HR0.out x7_1 p748 q748
         have hw748_10 := hx748_10
         have hw748_9 := hx748_9
         have hw748_8 := hx748_8
         have hw748_7 := hx748_7
         have hw748_6 := hx748_6
         have hw748_5 := hx748_5
         have hw748_4 := hx748_4
         have hw748_3 := hx748_3
         have hw748_2 := hx748_2
         have hw748_1 := hx748_1
         have hw748_0 := hx748_0
         obtain rfl : ad747 = ad748 := (by injection e748)
         replace hx748_0 := kp_ HB.out hx748_0
         replace hx748_1 := kp_ HB.out hx748_1
         replace hx748_2 := kp_ HB.out hx748_2
         replace hx748_3 := kp_ HB.out hx748_3
         replace hx748_4 := kp_ HB.out hx748_4
         replace hx748_5 := kp_ HB.out hx748_5
         replace hx748_6 := kp_ HB.out hx748_6
         replace hx748_7 := kp_ HB.out hx748_7
         replace hx748_8 := kp_ HB.out hx748_8
         replace hx748_9 := kp_ HB.out hx748_9
         replace hx748_10 := kp_ HB.out hx748_10
         have HR748_7 := m_ hi748_7
         have HC748_7 := m_ hl748_7
         clear hi748_7 hl748_7
         have HR748_10 := m_ hi748_10
         have HC748_10 := m_ hl748_10
         clear hi748_10 hl748_10
         replace p748 := eq_true p748
         replace q748 := eq_true q748
         have ea_ := Option.some.inj (hx747_7.symm.trans hx748_7)
         injection ea_ with ea_ en_ ec_
         subst ea_
         subst ec_
         clear en_
         have ea_ := Option.some.inj (hx747_10.symm.trans hx748_10)
         injection ea_ with ea_ en_ ec_
         subst ea_
         subst ec_
         clear en_
         refine start_ (n := 15) (S := fun w' => w'.cell? (ad747.add ((x7_1).toNat * 11)) = some (.int .u8 ((rd_T29 l0 x7_1).f0)) ∧ w'.cell? ⟨(ad747.add ((x7_1).toNat * 11)).block, (ad747.add ((x7_1).toNat * 11)).off + 1, none⟩ = some (.int .u32 ((rd_T29 l0 x7_1).f1)) ∧ w'.cell? ⟨(ad747.add ((x7_1).toNat * 11)).block, (ad747.add ((x7_1).toNat * 11)).off + 2, none⟩ = some (.int .u32 ((rd_T29 l0 x7_1).f2.f0)) ∧ w'.cell? ⟨(ad747.add ((x7_1).toNat * 11)).block, (ad747.add ((x7_1).toNat * 11)).off + 3, none⟩ = some (.int .u32 ((rd_T29 l0 x7_1).f2.f1)) ∧ w'.cell? ⟨(ad747.add ((x7_1).toNat * 11)).block, (ad747.add ((x7_1).toNat * 11)).off + 4, none⟩ = some (.int .u32 ((rd_T29 l0 x7_1).f2.f2)) ∧ w'.cell? ⟨(ad747.add ((x7_1).toNat * 11)).block, (ad747.add ((x7_1).toNat * 11)).off + 5, none⟩ = some (.int .i64 ((rd_T29 l0 x7_1).f2.f3)) ∧ w'.cell? ⟨(ad747.add ((x7_1).toNat * 11)).block, (ad747.add ((x7_1).toNat * 11)).off + 6, none⟩ = some (.int .u32 ((rd_T29 l0 x7_1).f2.f4)) ∧ w'.cell? ⟨(ad747.add ((x7_1).toNat * 11)).block, (ad747.add ((x7_1).toNat * 11)).off + 7, none⟩ = some (.slice A747_7 ((rd_T29 l0 x7_1).f2.f5).length c747_7) ∧ w'.cell? ⟨(ad747.add ((x7_1).toNat * 11)).block, (ad747.add ((x7_1).toNat * 11)).off + 8, none⟩ = some (.int .i64 ((rd_T29 l0 x7_1).f3)) ∧ w'.cell? ⟨(ad747.add ((x7_1).toNat * 11)).block, (ad747.add ((x7_1).toNat * 11)).off + 9, none⟩ = some (.bool ((rd_T29 l0 x7_1).f4)) ∧ w'.cell? ⟨(ad747.add ((x7_1).toNat * 11)).block, (ad747.add ((x7_1).toNat * 11)).off + 10, none⟩ = some (.slice A747_10 ((rd_T29 l0 x7_1).f5).length c747_10) ∧ w'.cell? (ad747.add ((x7_1).toNat * 11)) = some (.int .u8 ((rd_T29 l0 x7_1).f0)) ∧ w'.cell? ⟨(ad747.add ((x7_1).toNat * 11)).block, (ad747.add ((x7_1).toNat * 11)).off + 1, none⟩ = some (.int .u32 ((rd_T29 l0 x7_1).f1)) ∧ w'.cell? ⟨(ad747.add ((x7_1).toNat * 11)).block, (ad747.add ((x7_1).toNat * 11)).off + 2, none⟩ = some (.int .u32 ((rd_T29 l0 x7_1).f2.f0)) ∧ w'.cell? ⟨(ad747.add ((x7_1).toNat * 11)).block, (ad747.add ((x7_1).toNat * 11)).off + 3, none⟩ = some (.int .u32 ((rd_T29 l0 x7_1).f2.f1)) ∧ w'.cell? ⟨(ad747.add ((x7_1).toNat * 11)).block, (ad747.add ((x7_1).toNat * 11)).off + 4, none⟩ = some (.int .u32 ((rd_T29 l0 x7_1).f2.f2)) ∧ w'.cell? ⟨(ad747.add ((x7_1).toNat * 11)).block, (ad747.add ((x7_1).toNat * 11)).off + 5, none⟩ = some (.int .i64 ((rd_T29 l0 x7_1).f2.f3)) ∧ w'.cell? ⟨(ad747.add ((x7_1).toNat * 11)).block, (ad747.add ((x7_1).toNat * 11)).off + 6, none⟩ = some (.int .u32 ((rd_T29 l0 x7_1).f2.f4)) ∧ w'.cell? ⟨(ad747.add ((x7_1).toNat * 11)).block, (ad747.add ((x7_1).toNat * 11)).off + 7, none⟩ = some (.slice A747_7 ((rd_T29 l0 x7_1).f2.f5).length c747_7) ∧ w'.cell? ⟨(ad747.add ((x7_1).toNat * 11)).block, (ad747.add ((x7_1).toNat * 11)).off + 8, none⟩ = some (.int .i64 ((rd_T29 l0 x7_1).f3)) ∧ w'.cell? ⟨(ad747.add ((x7_1).toNat * 11)).block, (ad747.add ((x7_1).toNat * 11)).off + 9, none⟩ = some (.bool ((rd_T29 l0 x7_1).f4)) ∧ w'.cell? ⟨(ad747.add ((x7_1).toNat * 11)).block, (ad747.add ((x7_1).toNat * 11)).off + 10, none⟩ = some (.slice A747_10 ((rd_T29 l0 x7_1).f5).length c747_10)) (ds := []) (bs_ 15 0) (by kernel_rfl) rfl rfl ⟨(kp_ HB.out hw747_0), (kp_ HB.out hw747_1), (kp_ HB.out hw747_2), (kp_ HB.out hw747_3), (kp_ HB.out hw747_4), (kp_ HB.out hw747_5), (kp_ HB.out hw747_6), (kp_ HB.out hw747_7), (kp_ HB.out hw747_8), (kp_ HB.out hw747_9), (kp_ HB.out hw747_10), (kp_ HB.out hw748_0), (kp_ HB.out hw748_1), (kp_ HB.out hw748_2), (kp_ HB.out hw748_3), (kp_ HB.out hw748_4), (kp_ HB.out hw748_5), (kp_ HB.out hw748_6), (kp_ HB.out hw748_7), (kp_ HB.out hw748_8), (kp_ HB.out hw748_9), (kp_ HB.out hw748_10)⟩ (fun hHeld => ?_); refine with_tabW stolonlaw16_OfmsgStreams.tab8 stolonlaw16_OfmsgStreams.bits8 (fun HT_ HW_ => ?_)
         generalize wr.drew = w14 at HO_6 HB HR747_10 HR747_7 HR748_10 HR748_7 hx747_0 hx747_1 hx747_10 hx747_2 hx747_3 hx747_4 hx747_5 hx747_6 hx747_7 hx747_8 hx747_9 hx748_0 hx748_1 hx748_10 hx748_2 hx748_3 hx748_4 hx748_5 hx748_6 hx748_7 hx748_8 hx748_9 hHeld ⊢
         refine pz_ 0 28 ?_
         refine pz_ 1 29 ?_
         refine pz_ 2 30 ?_
         refine pz_ 3 31 ?_
         refine pz_ 6 34 ?_
         refine pz_ 7 35 ?_
         refine pz_ 8 36 ?_
         refine pz_ 9 37 ?_
         refine pz_ 10 38 ?_
         refine tz_ 4 32 ?_
         refine pz_ 5 33 ?_
         refine tz_ 11 39 ?_
         refine pz_ 12 40 ?_
         refine pz_ 13 41 ?_
         refine pz_ 14 42 ?_
         refine dz_ ?_
         have p749 : 0 ≤ (x7_1 : Int) := od_
         have q749 : x7_1 < (l0.length : Int) := od_
         obtain ⟨ad749, A749_7, c749_7, A749_10, c749_10, e749, hx749_0, hx749_1, hx749_2, hx749_3, hx749_4, hx749_5, hx749_6, hx749_7, hx749_8, hx749_9, hx749_10, hl749_7, hi749_7, hl749_10, hi749_10⟩ := at_T29 HR0.out x7_1 p749 q749
         obtain rfl : ad747 = ad749 := (by injection e749)
         replace hx749_0 := kp_ HB.out hx749_0
         replace hx749_1 := kp_ HB.out hx749_1
         replace hx749_2 := kp_ HB.out hx749_2
         replace hx749_3 := kp_ HB.out hx749_3
         replace hx749_4 := kp_ HB.out hx749_4
         replace hx749_5 := kp_ HB.out hx749_5
         replace hx749_6 := kp_ HB.out hx749_6
         replace hx749_7 := kp_ HB.out hx749_7
         replace hx749_8 := kp_ HB.out hx749_8
         replace hx749_9 := kp_ HB.out hx749_9
         replace hx749_10 := kp_ HB.out hx749_10
         have HR749_7 := m_ hi749_7
         have HC749_7 := m_ hl749_7
         clear hi749_7 hl749_7
         have HR749_10 := m_ hi749_10
         have HC749_10 := m_ hl749_10
         clear hi749_10 hl749_10
         replace p749 := eq_true p749
         replace q749 := eq_true q749
         have ea_ := Option.some.inj (hx747_7.symm.trans hx749_7)
         injection ea_ with ea_ en_ ec_
         subst ea_
         subst ec_
         clear en_
         have ea_ := Option.some.inj (hx747_10.symm.trans hx749_10)
         injection ea_ with ea_ en_ ec_
         subst ea_
         subst ec_
         clear en_
         try go_wp2_with (first | ((with_reducible refine gate_callee (f := 12) rfl ?_); refine gL_ (some 49) Try.func12 #[.agg #[.int .u8 ((rd_T29 l0 x7_1).f0), .int .u32 ((rd_T29 l0 x7_1).f1), .int .u32 ((rd_T29 l0 x7_1).f2.f0), .int .u32 ((rd_T29 l0 x7_1).f2.f1), .int .u32 ((rd_T29 l0 x7_1).f2.f2), .int .i64 ((rd_T29 l0 x7_1).f2.f3), .int .u32 ((rd_T29 l0 x7_1).f2.f4), .slice A747_7 ((rd_T29 l0 x7_1).f2.f5).length c747_7, .int .i64 ((rd_T29 l0 x7_1).f3), .bool ((rd_T29 l0 x7_1).f4), .slice A747_10 ((rd_T29 l0 x7_1).f5).length c747_10]] ?_; (with_reducible refine (ofmsg_Encode.calls k1 ((rd_T29 l0 x7_1).f0) ((rd_T29 l0 x7_1).f1) ((rd_T29 l0 x7_1).f2.f0) ((rd_T29 l0 x7_1).f2.f1) ((rd_T29 l0 x7_1).f2.f2) ((rd_T29 l0 x7_1).f2.f3) ((rd_T29 l0 x7_1).f2.f4) _ _ ((rd_T29 l0 x7_1).f2.f5) ((rd_T29 l0 x7_1).f3) ((rd_T29 l0 x7_1).f4) _ _ ((rd_T29 l0 x7_1).f5) t750 t753 _ ?side1 ?side2 ?side3 ?side4 A11.out).mono ?_); (case side1 => exact Cd_ (Kd.C_below HR749_7.out HB.out)); (case side2 => exact HC749_7.out); (case side3 => exact Cd_ (Kd.C_below HR749_10.out HB.out)); (case side4 => exact HC749_10.out); rintro e w15 ⟨v751, rfl, ho0, hb⟩; refine ⟨_, rfl, ?_⟩; have HO752 := m_ (Kd.R_lower (Kd.R_new' ho0 (Kd.R_lt (Rz_ HO_6.out))) (below_size bz_)); replace HO_6 := m_ (Kd.R_elder' (Rz_ HO_6.out) (Kd.R_base ho0) hb); replace HB := m_ (below_step bz_ hb); (try clear hb); (try clear hb2); (try clear hk); (try clear hi); (try clear ho0); obtain ⟨Ao17, co17, eo17⟩ := Kd.R_slice HO752.out; subst eo17) | ((with_reducible refine gate_builtin (b := .append) (xs := #[.tmp 55, .tmp 56]) rfl ?_); (try (refine gate_guard (by rfl) ?_; dsimp only)); at_builtin; refine Kd.R_append_rows (Kd.int .u8) (w0 := w) w.heap.size rfl (.tmp 55) (.tmp 56) 27 5 (.int .u8 0) 1 rfl Try.underlying27 info5 rfl (by decide) (by omega) u6 x6_1 t750 _ _ _ (fun k_ => some k_ ≠ (.slice Ao17 t750.length co17 : Value).ownBlock) (fun _ => False) rfl rfl ?aO ?aR (fun _ _ h => h) (fun _ h => h.elim) ?aF ?aB ?aS ?aL ?_; (case aR => exact Cd_ (Kd.R_reads' HO752.out).2.2); (case aB => exact bz_); (case aF => exact (fun k_ hk => Kd.fresh' (Kd.R_lt (Rz_ HO752.out)) k_ hk)); (case aO => exact (Ry_ (Kd.R_mono HO_6.out (fun _ hk => hk.2)))); (case aS => exact (below_size bz_)); (case aL => have := LMc13.out; omega); intro v755 w16 ho hb hg hat; rw [← Ny754.out] at ho; have HO756 := m_ (ho); replace HO752 := m_ (Kd.R_after (ok := (fun _ => True)) (Rz_ HO752.out) hg hat); replace HB := m_ (hb); clear HO_6 ho hb hg hat))
         go_roundg k1
         case measure => have := HK1.out; omega
         case rel => exact ⟨(y754), (wrap64 (x7_1 + 1)), (by first | rfl | (simp; done) | (simp [*]; done)), H', ⟨by have := HK1.out; omega⟩, ⟨Ry_ (Kd.R_mono HO756.out (fun _ hk => trivial))⟩, ⟨bz_⟩⟩
        ·rw [if_neg c13] at H
         exact absurd H (by simp)
       ·rw [if_neg c12] at H
        have c12b0 : (t753 == 0) = false := beq_eq_false_iff_ne.mpr c12
        have c12b1 : (t753 != 0) = true := bne_iff_ne.mpr c12
        obtain rfl := Option.some.inj H
        try go_wp2
        replace HO_6 := m_ (Kd.R_drew HO_6.out)
        replace HB := m_ (below_drew1 HB.out)
        have p747 : 0 ≤ (x7_1 : Int) := od_
        have q747 : x7_1 < (l0.length : Int) := od_
        obtain ⟨ad747, A747_7, c747_7, A747_10, c747_10, e747, hx747_0, hx747_1, hx747_2, hx747_3, hx747_4, hx747_5, hx747_6, hx747_7, hx747_8, hx747_9, hx747_10, hl747_7, hi747_7, hl747_10, hi747_10⟩ := at_T29 HR0.out x7_1 p747 q747
        have hw747_10 := hx747_10
        have hw747_9 := hx747_9
        have hw747_8 := hx747_8
        have hw747_7 := hx747_7
        have hw747_6 := hx747_6
        have hw747_5 := hx747_5
        have hw747_4 := hx747_4
        have hw747_3 := hx747_3
        have hw747_2 := hx747_2
        have hw747_1 := hx747_1
        have hw747_0 := hx747_0
        cases e747
        replace hx747_0 := kp_ HB.out hx747_0
        replace hx747_1 := kp_ HB.out hx747_1
        replace hx747_2 := kp_ HB.out hx747_2
        replace hx747_3 := kp_ HB.out hx747_3
        replace hx747_4 := kp_ HB.out hx747_4
        replace hx747_5 := kp_ HB.out hx747_5
        replace hx747_6 := kp_ HB.out hx747_6
        replace hx747_7 := kp_ HB.out hx747_7
        replace hx747_8 := kp_ HB.out hx747_8
        replace hx747_9 := kp_ HB.out hx747_9
        replace hx747_10 := kp_ HB.out hx747_10
        have HR747_7 := m_ hi747_7
        have HC747_7 := m_ hl747_7
        clear hi747_7 hl747_7
        have HR747_10 := m_ hi747_10
        have HC747_10 := m_ hl747_10
        clear hi747_10 hl747_10
        replace p747 := eq_true p747
        replace q747 := eq_true q747
        have p748 : 0 ≤ (x7_1 : Int) := od_
        have q748 : x7_1 < (l0.length : Int) := od_
        obtain ⟨ad748, A748_7, c748_7, A748_10, c748_10, e748, hx748_0, hx748_1, hx748_2, hx748_3, hx748_4, hx748_5, hx748_6, hx748_7, hx748_8, hx748_9, hx748_10, hl748_7, hi748_7, hl748_10, hi748_10⟩ := at_T29 HR0.out x7_1 p748 q748
        have hw748_10 := hx748_10
        have hw748_9 := hx748_9
        have hw748_8 := hx748_8
        have hw748_7 := hx748_7
        have hw748_6 := hx748_6
        have hw748_5 := hx748_5
        have hw748_4 := hx748_4
        have hw748_3 := hx748_3
        have hw748_2 := hx748_2
        have hw748_1 := hx748_1
        have hw748_0 := hx748_0
        obtain rfl : ad747 = ad748 := (by injection e748)
        replace hx748_0 := kp_ HB.out hx748_0
        replace hx748_1 := kp_ HB.out hx748_1
        replace hx748_2 := kp_ HB.out hx748_2
        replace hx748_3 := kp_ HB.out hx748_3
        replace hx748_4 := kp_ HB.out hx748_4
        replace hx748_5 := kp_ HB.out hx748_5
        replace hx748_6 := kp_ HB.out hx748_6
        replace hx748_7 := kp_ HB.out hx748_7
        replace hx748_8 := kp_ HB.out hx748_8
        replace hx748_9 := kp_ HB.out hx748_9
        replace hx748_10 := kp_ HB.out hx748_10
        have HR748_7 := m_ hi748_7
        have HC748_7 := m_ hl748_7
        clear hi748_7 hl748_7
        have HR748_10 := m_ hi748_10
        have HC748_10 := m_ hl748_10
        clear hi748_10 hl748_10
        replace p748 := eq_true p748
        replace q748 := eq_true q748
        have ea_ := Option.some.inj (hx747_7.symm.trans hx748_7)
        injection ea_ with ea_ en_ ec_
        subst ea_
        subst ec_
        clear en_
        have ea_ := Option.some.inj (hx747_10.symm.trans hx748_10)
        injection ea_ with ea_ en_ ec_
        subst ea_
        subst ec_
        clear en_
        refine start_ (n := 15) (S := fun w' => w'.cell? (ad747.add ((x7_1).toNat * 11)) = some (.int .u8 ((rd_T29 l0 x7_1).f0)) ∧ w'.cell? ⟨(ad747.add ((x7_1).toNat * 11)).block, (ad747.add ((x7_1).toNat * 11)).off + 1, none⟩ = some (.int .u32 ((rd_T29 l0 x7_1).f1)) ∧ w'.cell? ⟨(ad747.add ((x7_1).toNat * 11)).block, (ad747.add ((x7_1).toNat * 11)).off + 2, none⟩ = some (.int .u32 ((rd_T29 l0 x7_1).f2.f0)) ∧ w'.cell? ⟨(ad747.add ((x7_1).toNat * 11)).block, (ad747.add ((x7_1).toNat * 11)).off + 3, none⟩ = some (.int .u32 ((rd_T29 l0 x7_1).f2.f1)) ∧ w'.cell? ⟨(ad747.add ((x7_1).toNat * 11)).block, (ad747.add ((x7_1).toNat * 11)).off + 4, none⟩ = some (.int .u32 ((rd_T29 l0 x7_1).f2.f2)) ∧ w'.cell? ⟨(ad747.add ((x7_1).toNat * 11)).block, (ad747.add ((x7_1).toNat * 11)).off + 5, none⟩ = some (.int .i64 ((rd_T29 l0 x7_1).f2.f3)) ∧ w'.cell? ⟨(ad747.add ((x7_1).toNat * 11)).block, (ad747.add ((x7_1).toNat * 11)).off + 6, none⟩ = some (.int .u32 ((rd_T29 l0 x7_1).f2.f4)) ∧ w'.cell? ⟨(ad747.add ((x7_1).toNat * 11)).block, (ad747.add ((x7_1).toNat * 11)).off + 7, none⟩ = some (.slice A747_7 ((rd_T29 l0 x7_1).f2.f5).length c747_7) ∧ w'.cell? ⟨(ad747.add ((x7_1).toNat * 11)).block, (ad747.add ((x7_1).toNat * 11)).off + 8, none⟩ = some (.int .i64 ((rd_T29 l0 x7_1).f3)) ∧ w'.cell? ⟨(ad747.add ((x7_1).toNat * 11)).block, (ad747.add ((x7_1).toNat * 11)).off + 9, none⟩ = some (.bool ((rd_T29 l0 x7_1).f4)) ∧ w'.cell? ⟨(ad747.add ((x7_1).toNat * 11)).block, (ad747.add ((x7_1).toNat * 11)).off + 10, none⟩ = some (.slice A747_10 ((rd_T29 l0 x7_1).f5).length c747_10) ∧ w'.cell? (ad747.add ((x7_1).toNat * 11)) = some (.int .u8 ((rd_T29 l0 x7_1).f0)) ∧ w'.cell? ⟨(ad747.add ((x7_1).toNat * 11)).block, (ad747.add ((x7_1).toNat * 11)).off + 1, none⟩ = some (.int .u32 ((rd_T29 l0 x7_1).f1)) ∧ w'.cell? ⟨(ad747.add ((x7_1).toNat * 11)).block, (ad747.add ((x7_1).toNat * 11)).off + 2, none⟩ = some (.int .u32 ((rd_T29 l0 x7_1).f2.f0)) ∧ w'.cell? ⟨(ad747.add ((x7_1).toNat * 11)).block, (ad747.add ((x7_1).toNat * 11)).off + 3, none⟩ = some (.int .u32 ((rd_T29 l0 x7_1).f2.f1)) ∧ w'.cell? ⟨(ad747.add ((x7_1).toNat * 11)).block, (ad747.add ((x7_1).toNat * 11)).off + 4, none⟩ = some (.int .u32 ((rd_T29 l0 x7_1).f2.f2)) ∧ w'.cell? ⟨(ad747.add ((x7_1).toNat * 11)).block, (ad747.add ((x7_1).toNat * 11)).off + 5, none⟩ = some (.int .i64 ((rd_T29 l0 x7_1).f2.f3)) ∧ w'.cell? ⟨(ad747.add ((x7_1).toNat * 11)).block, (ad747.add ((x7_1).toNat * 11)).off + 6, none⟩ = some (.int .u32 ((rd_T29 l0 x7_1).f2.f4)) ∧ w'.cell? ⟨(ad747.add ((x7_1).toNat * 11)).block, (ad747.add ((x7_1).toNat * 11)).off + 7, none⟩ = some (.slice A747_7 ((rd_T29 l0 x7_1).f2.f5).length c747_7) ∧ w'.cell? ⟨(ad747.add ((x7_1).toNat * 11)).block, (ad747.add ((x7_1).toNat * 11)).off + 8, none⟩ = some (.int .i64 ((rd_T29 l0 x7_1).f3)) ∧ w'.cell? ⟨(ad747.add ((x7_1).toNat * 11)).block, (ad747.add ((x7_1).toNat * 11)).off + 9, none⟩ = some (.bool ((rd_T29 l0 x7_1).f4)) ∧ w'.cell? ⟨(ad747.add ((x7_1).toNat * 11)).block, (ad747.add ((x7_1).toNat * 11)).off + 10, none⟩ = some (.slice A747_10 ((rd_T29 l0 x7_1).f5).length c747_10)) (ds := []) (bs_ 15 0) (by kernel_rfl) rfl rfl ⟨(kp_ HB.out hw747_0), (kp_ HB.out hw747_1), (kp_ HB.out hw747_2), (kp_ HB.out hw747_3), (kp_ HB.out hw747_4), (kp_ HB.out hw747_5), (kp_ HB.out hw747_6), (kp_ HB.out hw747_7), (kp_ HB.out hw747_8), (kp_ HB.out hw747_9), (kp_ HB.out hw747_10), (kp_ HB.out hw748_0), (kp_ HB.out hw748_1), (kp_ HB.out hw748_2), (kp_ HB.out hw748_3), (kp_ HB.out hw748_4), (kp_ HB.out hw748_5), (kp_ HB.out hw748_6), (kp_ HB.out hw748_7), (kp_ HB.out hw748_8), (kp_ HB.out hw748_9), (kp_ HB.out hw748_10)⟩ (fun hHeld => ?_); refine with_tabW stolonlaw16_OfmsgStreams.tab8 stolonlaw16_OfmsgStreams.bits8 (fun HT_ HW_ => ?_)
        generalize wr.drew = w18 at HO_6 HB HR747_10 HR747_7 HR748_10 HR748_7 hx747_0 hx747_1 hx747_10 hx747_2 hx747_3 hx747_4 hx747_5 hx747_6 hx747_7 hx747_8 hx747_9 hx748_0 hx748_1 hx748_10 hx748_2 hx748_3 hx748_4 hx748_5 hx748_6 hx748_7 hx748_8 hx748_9 hHeld ⊢
        refine pz_ 0 28 ?_
        refine pz_ 1 29 ?_
        refine pz_ 2 30 ?_
        refine pz_ 3 31 ?_
        refine pz_ 6 34 ?_
        refine pz_ 7 35 ?_
        refine pz_ 8 36 ?_
        refine pz_ 9 37 ?_
        refine pz_ 10 38 ?_
        refine tz_ 4 32 ?_
        refine pz_ 5 33 ?_
        refine tz_ 11 39 ?_
        refine pz_ 12 40 ?_
        refine pz_ 13 41 ?_
        refine pz_ 14 42 ?_
        refine dz_ ?_
        have p749 : 0 ≤ (x7_1 : Int) := od_
        have q749 : x7_1 < (l0.length : Int) := od_
        obtain ⟨ad749, A749_7, c749_7, A749_10, c749_10, e749, hx749_0, hx749_1, hx749_2, hx749_3, hx749_4, hx749_5, hx749_6, hx749_7, hx749_8, hx749_9, hx749_10, hl749_7, hi749_7, hl749_10, hi749_10⟩ := at_T29 HR0.out x7_1 p749 q749
        obtain rfl : ad747 = ad749 := (by injection e749)
        replace hx749_0 := kp_ HB.out hx749_0
        replace hx749_1 := kp_ HB.out hx749_1
        replace hx749_2 := kp_ HB.out hx749_2
        replace hx749_3 := kp_ HB.out hx749_3
        replace hx749_4 := kp_ HB.out hx749_4
        replace hx749_5 := kp_ HB.out hx749_5
        replace hx749_6 := kp_ HB.out hx749_6
        replace hx749_7 := kp_ HB.out hx749_7
        replace hx749_8 := kp_ HB.out hx749_8
        replace hx749_9 := kp_ HB.out hx749_9
        replace hx749_10 := kp_ HB.out hx749_10
        have HR749_7 := m_ hi749_7
        have HC749_7 := m_ hl749_7
        clear hi749_7 hl749_7
        have HR749_10 := m_ hi749_10
        have HC749_10 := m_ hl749_10
        clear hi749_10 hl749_10
        replace p749 := eq_true p749
        replace q749 := eq_true q749
        have ea_ := Option.some.inj (hx747_7.symm.trans hx749_7)
        injection ea_ with ea_ en_ ec_
        subst ea_
        subst ec_
        clear en_
        have ea_ := Option.some.inj (hx747_10.symm.trans hx749_10)
        injection ea_ with ea_ en_ ec_
        subst ea_
        subst ec_
        clear en_
        try go_wp2_with (first | ((with_reducible refine gate_callee (f := 12) rfl ?_); refine gL_ (some 49) Try.func12 #[.agg #[.int .u8 ((rd_T29 l0 x7_1).f0), .int .u32 ((rd_T29 l0 x7_1).f1), .int .u32 ((rd_T29 l0 x7_1).f2.f0), .int .u32 ((rd_T29 l0 x7_1).f2.f1), .int .u32 ((rd_T29 l0 x7_1).f2.f2), .int .i64 ((rd_T29 l0 x7_1).f2.f3), .int .u32 ((rd_T29 l0 x7_1).f2.f4), .slice A747_7 ((rd_T29 l0 x7_1).f2.f5).length c747_7, .int .i64 ((rd_T29 l0 x7_1).f3), .bool ((rd_T29 l0 x7_1).f4), .slice A747_10 ((rd_T29 l0 x7_1).f5).length c747_10]] ?_; (with_reducible refine (ofmsg_Encode.calls k1 ((rd_T29 l0 x7_1).f0) ((rd_T29 l0 x7_1).f1) ((rd_T29 l0 x7_1).f2.f0) ((rd_T29 l0 x7_1).f2.f1) ((rd_T29 l0 x7_1).f2.f2) ((rd_T29 l0 x7_1).f2.f3) ((rd_T29 l0 x7_1).f2.f4) _ _ ((rd_T29 l0 x7_1).f2.f5) ((rd_T29 l0 x7_1).f3) ((rd_T29 l0 x7_1).f4) _ _ ((rd_T29 l0 x7_1).f5) t750 t753 _ ?side1 ?side2 ?side3 ?side4 A11.out).mono ?_); (case side1 => exact Cd_ (Kd.C_below HR749_7.out HB.out)); (case side2 => exact HC749_7.out); (case side3 => exact Cd_ (Kd.C_below HR749_10.out HB.out)); (case side4 => exact HC749_10.out); rintro e w19 ⟨v751, rfl, ho0, hb⟩; refine ⟨_, rfl, ?_⟩; have HO752 := m_ (Kd.R_lower (Kd.R_new' ho0 (Kd.R_lt (Rz_ HO_6.out))) (below_size bz_)); replace HO_6 := m_ (Kd.R_elder' (Rz_ HO_6.out) (Kd.R_base ho0) hb); replace HB := m_ (below_step bz_ hb); (try clear hb); (try clear hb2); (try clear hk); (try clear hi); (try clear ho0)))
        go_ret
        exact ⟨ew_, bz_⟩
     ·rw [if_neg c8] at H
      exact absurd H (by simp)
    ·rw [if_neg c7] at H
     have c7b0 : decide (x7_1 < (l0.length : Int)) = false := decide_eq_false c7
     clear c7
     obtain ⟨ji20, hji20⟩ : ∃ j_ : Int, (mx a1 0) = j_ := ⟨_, rfl⟩
     replace H : (if 0 ≤ (mn (ji20) (x6_1.length : Int)) then (if (mn (ji20) (x6_1.length : Int)) ≤ (x6_1.length : Int) then ((ofmsg_Split.f k1 (x6_1.take ((mn (ji20) (x6_1.length : Int)) : Int).toNat)).bind fun bt709 => ((some (([] : List Int) : List Int)).bind fun y716 => (if y716.length + bt709.2.1.length < 140737488355328 then ((some (y716 ++ bt709.2.1 : List Int)).bind fun y719 => ((some (x6_1.drop ((mn (ji20) (x6_1.length : Int)) : Int).toNat : List Int)).bind fun y722 => (if y719.length + y722.length < 140737488355328 then ((ofmsg_Split.f k1 (y719 ++ y722)).bind fun bt730 => (if t703 = true then (if bt709.2.2 = 0 then (if bt730.2.2 = 0 then (if (bt730.2.1.length : Int) = 0 then ((some (([] : List (S29)) : List (S29))).bind fun y737 => (if y737.length + bt709.1.length < 1353245080339 then ((some (y737 ++ bt709.1 : List (S29))).bind fun y740 => (if y740.length + bt730.1.length < 1353245080339 then ((stolonref16_Msgs.f k1 (y740 ++ bt730.1) l0).bind fun t746 => (some t746)) else (none))) else (none))) else (some false)) else (some false)) else (some false)) else (some false))) else (none)))) else (none)))) else (none)) else (none)) = some r := by first | (rw [hji20] at H; exact H) | (simp only [hji20] at H ⊢; exact H)
     have hji20_ : (if a1 < 0 then 0 else a1) = ji20 := hji20
     obtain ⟨ji21, hji21⟩ : ∃ j_ : Int, (mn (ji20) (x6_1.length : Int)) = j_ := ⟨_, rfl⟩
     replace H : (if 0 ≤ (ji21) then (if (ji21) ≤ (x6_1.length : Int) then ((ofmsg_Split.f k1 (x6_1.take ((ji21) : Int).toNat)).bind fun bt709 => ((some (([] : List Int) : List Int)).bind fun y716 => (if y716.length + bt709.2.1.length < 140737488355328 then ((some (y716 ++ bt709.2.1 : List Int)).bind fun y719 => ((some (x6_1.drop ((ji21) : Int).toNat : List Int)).bind fun y722 => (if y719.length + y722.length < 140737488355328 then ((ofmsg_Split.f k1 (y719 ++ y722)).bind fun bt730 => (if t703 = true then (if bt709.2.2 = 0 then (if bt730.2.2 = 0 then (if (bt730.2.1.length : Int) = 0 then ((some (([] : List (S29)) : List (S29))).bind fun y737 => (if y737.length + bt709.1.length < 1353245080339 then ((some (y737 ++ bt709.1 : List (S29))).bind fun y740 => (if y740.length + bt730.1.length < 1353245080339 then ((stolonref16_Msgs.f k1 (y740 ++ bt730.1) l0).bind fun t746 => (some t746)) else (none))) else (none))) else (some false)) else (some false)) else (some false)) else (some false))) else (none)))) else (none)))) else (none)) else (none)) = some r := by first | (rw [hji21] at H; exact H) | (simp only [hji21] at H ⊢; exact H)
     have hji21_ : (if (x6_1.length : Int) < (ji20) then (x6_1.length : Int) else (ji20)) = ji21 := hji21
     by_cases c22 : 0 ≤ (ji21)
     ·rw [if_pos c22] at H
      have c22b0 := eq_true c22
      have c22b1 : decide (0 ≤ (ji21)) = true := decide_eq_true c22
      clear c22
      by_cases c23 : (ji21) ≤ (x6_1.length : Int)
      ·rw [if_pos c23] at H
       have c23b0 := eq_true c23
       have c23b1 : decide ((ji21) ≤ (x6_1.length : Int)) = true := decide_eq_true c23
       clear c23
       obtain ⟨y704, hy704⟩ : ∃ y_ : List Int, y_ = (x6_1.take ((ji21) : Int).toNat) := ⟨_, rfl⟩
       replace H : ((ofmsg_Split.f k1 y704).bind fun bt709 => ((some (([] : List Int) : List Int)).bind fun y716 => (if y716.length + bt709.2.1.length < 140737488355328 then ((some (y716 ++ bt709.2.1 : List Int)).bind fun y719 => ((some (x6_1.drop ((ji21) : Int).toNat : List Int)).bind fun y722 => (if y719.length + y722.length < 140737488355328 then ((ofmsg_Split.f k1 (y719 ++ y722)).bind fun bt730 => (if t703 = true then (if bt709.2.2 = 0 then (if bt730.2.2 = 0 then (if (bt730.2.1.length : Int) = 0 then ((some (([] : List (S29)) : List (S29))).bind fun y737 => (if y737.length + bt709.1.length < 1353245080339 then ((some (y737 ++ bt709.1 : List (S29))).bind fun y740 => (if y740.length + bt730.1.length < 1353245080339 then ((stolonref16_Msgs.f k1 (y740 ++ bt730.1) l0).bind fun t746 => (some t746)) else (none))) else (none))) else (some false)) else (some false)) else (some false)) else (some false))) else (none)))) else (none)))) = some r := by first | (rw [hy704]; with_reducible exact H) | (have H2_ := (Option.bind_some _ _).symm.trans H; rw [hy704]; with_reducible exact H2_) | (have H2_ := (Option.bind_some _ _).symm.trans H; with_reducible exact H2_) | with_reducible exact H | (rw [hy704]; exact H) | exact H
       have Ny704 := m_ hy704
       clear hy704
       replace H := Option.bind_eq_some_iff.mp H
       obtain ⟨⟨t709, t712, t715⟩, A240, H⟩ := H
       replace H : ((some (([] : List Int) : List Int)).bind fun y716 => (if y716.length + t712.length < 140737488355328 then ((some (y716 ++ t712 : List Int)).bind fun y719 => ((some (x6_1.drop ((ji21) : Int).toNat : List Int)).bind fun y722 => (if y719.length + y722.length < 140737488355328 then ((ofmsg_Split.f k1 (y719 ++ y722)).bind fun bt730 => (if t703 = true then (if t715 = 0 then (if bt730.2.2 = 0 then (if (bt730.2.1.length : Int) = 0 then ((some (([] : List (S29)) : List (S29))).bind fun y737 => (if y737.length + t709.length < 1353245080339 then ((some (y737 ++ t709 : List (S29))).bind fun y740 => (if y740.length + bt730.1.length < 1353245080339 then ((stolonref16_Msgs.f k1 (y740 ++ bt730.1) l0).bind fun t746 => (some t746)) else (none))) else (none))) else (some false)) else (some false)) else (some false)) else (some false))) else (none)))) else (none))) = some r := H
       have A24 := m_ A240
       clear A240
       obtain ⟨y716, hy716⟩ : ∃ y_ : List Int, y_ = (([] : List Int)) := ⟨_, rfl⟩
       replace H : (if y716.length + t712.length < 140737488355328 then ((some (y716 ++ t712 : List Int)).bind fun y719 => ((some (x6_1.drop ((ji21) : Int).toNat : List Int)).bind fun y722 => (if y719.length + y722.length < 140737488355328 then ((ofmsg_Split.f k1 (y719 ++ y722)).bind fun bt730 => (if t703 = true then (if t715 = 0 then (if bt730.2.2 = 0 then (if (bt730.2.1.length : Int) = 0 then ((some (([] : List (S29)) : List (S29))).bind fun y737 => (if y737.length + t709.length < 1353245080339 then ((some (y737 ++ t709 : List (S29))).bind fun y740 => (if y740.length + bt730.1.length < 1353245080339 then ((stolonref16_Msgs.f k1 (y740 ++ bt730.1) l0).bind fun t746 => (some t746)) else (none))) else (none))) else (some false)) else (some false)) else (some false)) else (some false))) else (none)))) else (none)) = some r := by first | (rw [hy716]; with_reducible exact H) | (have H2_ := (Option.bind_some _ _).symm.trans H; rw [hy716]; with_reducible exact H2_) | (have H2_ := (Option.bind_some _ _).symm.trans H; with_reducible exact H2_) | with_reducible exact H | (rw [hy716]; exact H) | exact H
       have Ny716 := m_ hy716
       clear hy716
       by_cases c25 : y716.length + t712.length < 140737488355328
       ·rw [if_pos c25] at H
        have LMc25 := m_ c25
        clear c25
        obtain ⟨y719, hy719⟩ : ∃ y_ : List Int, y_ = (y716 ++ t712) := ⟨_, rfl⟩
        replace H : ((some (x6_1.drop ((ji21) : Int).toNat : List Int)).bind fun y722 => (if y719.length + y722.length < 140737488355328 then ((ofmsg_Split.f k1 (y719 ++ y722)).bind fun bt730 => (if t703 = true then (if t715 = 0 then (if bt730.2.2 = 0 then (if (bt730.2.1.length : Int) = 0 then ((some (([] : List (S29)) : List (S29))).bind fun y737 => (if y737.length + t709.length < 1353245080339 then ((some (y737 ++ t709 : List (S29))).bind fun y740 => (if y740.length + bt730.1.length < 1353245080339 then ((stolonref16_Msgs.f k1 (y740 ++ bt730.1) l0).bind fun t746 => (some t746)) else (none))) else (none))) else (some false)) else (some false)) else (some false)) else (some false))) else (none))) = some r := by first | (rw [hy719]; with_reducible exact H) | (have H2_ := (Option.bind_some _ _).symm.trans H; rw [hy719]; with_reducible exact H2_) | (have H2_ := (Option.bind_some _ _).symm.trans H; with_reducible exact H2_) | with_reducible exact H | (rw [hy719]; exact H) | exact H
        have Ny719 := m_ hy719
        clear hy719
        have c26b0 := eq_true (od_ : 0 ≤ (ji21))
        have c27b0 := eq_true (od_ : (ji21) ≤ (x6_1.length : Int))
        obtain ⟨y722, hy722⟩ : ∃ y_ : List Int, y_ = (x6_1.drop ((ji21) : Int).toNat) := ⟨_, rfl⟩
        replace H : (if y719.length + y722.length < 140737488355328 then ((ofmsg_Split.f k1 (y719 ++ y722)).bind fun bt730 => (if t703 = true then (if t715 = 0 then (if bt730.2.2 = 0 then (if (bt730.2.1.length : Int) = 0 then ((some (([] : List (S29)) : List (S29))).bind fun y737 => (if y737.length + t709.length < 1353245080339 then ((some (y737 ++ t709 : List (S29))).bind fun y740 => (if y740.length + bt730.1.length < 1353245080339 then ((stolonref16_Msgs.f k1 (y740 ++ bt730.1) l0).bind fun t746 => (some t746)) else (none))) else (none))) else (some false)) else (some false)) else (some false)) else (some false))) else (none)) = some r := by first | (rw [hy722]; with_reducible exact H) | (have H2_ := (Option.bind_some _ _).symm.trans H; rw [hy722]; with_reducible exact H2_) | (have H2_ := (Option.bind_some _ _).symm.trans H; with_reducible exact H2_) | with_reducible exact H | (rw [hy722]; exact H) | exact H
        have Ny722 := m_ hy722
        clear hy722
        by_cases c28 : y719.length + y722.length < 140737488355328
        ·rw [if_pos c28] at H
         have LMc28 := m_ c28
         clear c28
         obtain ⟨y727, hy727⟩ : ∃ y_ : List Int, y_ = (y719 ++ y722) := ⟨_, rfl⟩
         replace H : ((ofmsg_Split.f k1 y727).bind fun bt730 => (if t703 = true then (if t715 = 0 then (if bt730.2.2 = 0 then (if (bt730.2.1.length : Int) = 0 then ((some (([] : List (S29)) : List (S29))).bind fun y737 => (if y737.length + t709.length < 1353245080339 then ((some (y737 ++ t709 : List (S29))).bind fun y740 => (if y740.length + bt730.1.length < 1353245080339 then ((stolonref16_Msgs.f k1 (y740 ++ bt730.1) l0).bind fun t746 => (some t746)) else (none))) else (none))) else (some false)) else (some false)) else (some false)) else (some false))) = some r := by first | (rw [hy727]; with_reducible exact H) | (have H2_ := (Option.bind_some _ _).symm.trans H; rw [hy727]; with_reducible exact H2_) | (have H2_ := (Option.bind_some _ _).symm.trans H; with_reducible exact H2_) | with_reducible exact H | (rw [hy727]; exact H) | exact H
         have Ny727 := m_ hy727
         clear hy727
         replace H := Option.bind_eq_some_iff.mp H
         obtain ⟨⟨t730, t733, t736⟩, A290, H⟩ := H
         replace H : (if t703 = true then (if t715 = 0 then (if t736 = 0 then (if (t733.length : Int) = 0 then ((some (([] : List (S29)) : List (S29))).bind fun y737 => (if y737.length + t709.length < 1353245080339 then ((some (y737 ++ t709 : List (S29))).bind fun y740 => (if y740.length + t730.length < 1353245080339 then ((stolonref16_Msgs.f k1 (y740 ++ t730) l0).bind fun t746 => (some t746)) else (none))) else (none))) else (some false)) else (some false)) else (some false)) else (some false)) = some r := H
         have A29 := m_ A290
         clear A290
         by_cases c30 : t703 = true
         ·subst c30
          have H1 : (if t715 = 0 then (if t736 = 0 then (if (t733.length : Int) = 0 then ((some (([] : List (S29)) : List (S29))).bind fun y737 => (if y737.length + t709.length < 1353245080339 then ((some (y737 ++ t709 : List (S29))).bind fun y740 => (if y740.length + t730.length < 1353245080339 then ((stolonref16_Msgs.f k1 (y740 ++ t730) l0).bind fun t746 => (some t746)) else (none))) else (none))) else (some false)) else (some false)) else (some false)) = some r := by rw [if_pos rfl] at H; exact H
          clear H
          have H := H1
          clear H1
          by_cases c31 : t715 = 0
          ·rw [if_pos c31] at H
           have c31b0 : (t715 == 0) = true := beq_iff_eq.mpr c31
           have c31b1 : (t715 != 0) = false := bne_eq_false_iff_eq.mpr c31
           clear c31
           by_cases c32 : t736 = 0
           ·rw [if_pos c32] at H
            have c32b0 : (t736 == 0) = true := beq_iff_eq.mpr c32
            have c32b1 : (t736 != 0) = false := bne_eq_false_iff_eq.mpr c32
            clear c32
            by_cases c33 : (t733.length : Int) = 0
            ·rw [if_pos c33] at H
             have c33b0 : ((t733.length : Int) == 0) = true := beq_iff_eq.mpr c33
             have c33b1 : ((t733.length : Int) != 0) = false := bne_eq_false_iff_eq.mpr c33
             clear c33
             obtain ⟨y737, hy737⟩ : ∃ y_ : List (S29), y_ = (([] : List (S29))) := ⟨_, rfl⟩
             replace H : (if y737.length + t709.length < 1353245080339 then ((some (y737 ++ t709 : List (S29))).bind fun y740 => (if y740.length + t730.length < 1353245080339 then ((stolonref16_Msgs.f k1 (y740 ++ t730) l0).bind fun t746 => (some t746)) else (none))) else (none)) = some r := by first | (rw [hy737]; with_reducible exact H) | (have H2_ := (Option.bind_some _ _).symm.trans H; rw [hy737]; with_reducible exact H2_) | (have H2_ := (Option.bind_some _ _).symm.trans H; with_reducible exact H2_) | with_reducible exact H | (rw [hy737]; exact H) | exact H
             have Ny737 := m_ hy737
             clear hy737
             by_cases c34 : y737.length + t709.length < 1353245080339
             ·rw [if_pos c34] at H
              have LMc34 := m_ c34
              clear c34
              obtain ⟨y740, hy740⟩ : ∃ y_ : List (S29), y_ = (y737 ++ t709) := ⟨_, rfl⟩
              replace H : (if y740.length + t730.length < 1353245080339 then ((stolonref16_Msgs.f k1 (y740 ++ t730) l0).bind fun t746 => (some t746)) else (none)) = some r := by first | (rw [hy740]; with_reducible exact H) | (have H2_ := (Option.bind_some _ _).symm.trans H; rw [hy740]; with_reducible exact H2_) | (have H2_ := (Option.bind_some _ _).symm.trans H; with_reducible exact H2_) | with_reducible exact H | (rw [hy740]; exact H) | exact H
              have Ny740 := m_ hy740
              clear hy740
              by_cases c35 : y740.length + t730.length < 1353245080339
              ·rw [if_pos c35] at H
               have LMc35 := m_ c35
               clear c35
               obtain ⟨y743, hy743⟩ : ∃ y_ : List (S29), y_ = (y740 ++ t730) := ⟨_, rfl⟩
               replace H : ((stolonref16_Msgs.f k1 y743 l0).bind fun t746 => (some t746)) = some r := by first | (rw [hy743]; with_reducible exact H) | (have H2_ := (Option.bind_some _ _).symm.trans H; rw [hy743]; with_reducible exact H2_) | (have H2_ := (Option.bind_some _ _).symm.trans H; with_reducible exact H2_) | with_reducible exact H | (rw [hy743]; exact H) | exact H
               have Ny743 := m_ hy743
               clear hy743
               replace H := Option.bind_eq_some_iff.mp H
               obtain ⟨t746, A360, H⟩ := H
               replace H : (some t746) = some r := H
               have A36 := m_ A360
               clear A360
               obtain rfl := Option.some.inj H
               obtain ⟨Ao37, co37, eo37⟩ := Kd.R_slice HO_6.out
               subst eo37
               have q38 : ((ji21) : Int) ≤ ((x6_1.length : Int) : Int) := od_
               obtain ⟨i038, hi038, _, hsz38, _⟩ := info_parts info5
               have hroom38 : x6_1.length ≤ co37 := (Kd.R_reads' HO_6.out).2.1
               have hC38 : Kd.F (Kd.int .u8) _ _ Ao37 x6_1.length x6_1 := (Kd.V_at (base := w.heap.size) (Kd.R_V HO_6.out)).2.2
               have hcut38 := cut_to (P := Try.prog) 27 5 .i64 Try.underlying27 hi038 Ao37 x6_1.length co37 (ji21) od_ q38 hroom38
               have hr38 := Kd.F_take (m := ((ji21) : Int).toNat) hC38 (by omega)
               have hy38 : y704.length = ((ji21) : Int).toNat := (by rw [Ny704.out, List.length_take]; omega)
               rw [← Ny704.out] at hr38
               rw [← hy38] at hcut38
               have HO708 := m_ (show Kd.V (Kd.int .u8) 5 _ w.heap.size _ (.slice Ao37 y704.length co37) y704 from Kd.V_mk (by omega) hr38)
               have HC708 := m_ (show y704.length ≤ co37 from by omega)
               clear hr38 hC38 hroom38 hi038 hsz38
               have KY38 := m_ hy38
               clear hy38
               replace q38 := eq_true q38
               try go_wp2_with (first | ((with_reducible refine gate_callee (f := 21) rfl ?_); refine gL_ (some 67) Try.func21 #[.slice Ao37 y704.length co37] ?_; (with_reducible refine (ofmsg_Split.calls k1 (fun k_ => True) _ _ y704 t709 t712 t715 _ ?side1 A24.out).mono ?_); (case side1 => exact HO708.out); rintro e w39 ⟨v710, v713, rfl, ho0, ho1, hb⟩; (try replace ho0 := Kd.S_N ho0); refine ⟨_, rfl, ?_⟩; have HO711 := m_ (Kd.N_lower (Kd.N_mono (ok' := fun k_ => True) ho0 (fun k_ hk_ => trivial)) (below_size bz_)); have HO714 := m_ (Kd.V_lower (Kd.V_mono (ok' := fun k_ => some k_ ≠ (v710 : Value).ownBlock) ho1 (fun k_ hk_ => hk_.2)) (below_size bz_)); replace HO_6 := m_ (Kd.R_below (Rz_ HO_6.out) hb); replace HO708 := m_ (Kd.V_elder' (Vz_ HO708.out) (Kd.N_base ho0) hb); replace HB := m_ (below_step bz_ hb); (try clear hb); (try clear hb2); (try clear hk); (try clear hi); (try clear ho0); (try clear ho1)))
               replace HO_6 := m_ (Kd.R_drew HO_6.out)
               replace HO708 := m_ (Kd.V_drew HO708.out)
               replace HO711 := m_ (Kd.N_drew HO711.out)
               replace HO714 := m_ (Kd.V_drew HO714.out)
               replace HB := m_ (below_drew1 HB.out)
               have q41 : ((ji21) : Int) ≤ ((x6_1.length : Int) : Int) := od_
               obtain ⟨i041, hi041, _, hsz41, _⟩ := info_parts info5
               have hroom41 : x6_1.length ≤ co37 := (Kd.R_reads' HO_6.out).2.1
               have hC41 : Kd.F (Kd.int .u8) _ _ Ao37 x6_1.length x6_1 := (Kd.V_at (base := w.heap.size) (Kd.R_V (Kd.R_apart' (HO_6.out) (Kd.N_typed HO711.out) (by decide)))).2.2
               have q041 : (0 : Int) ≤ ((ji21) : Int) := od_
               have hcut41 := cut_from (P := Try.prog) 27 5 .i64 Try.underlying27 hi041 1 hsz41 Ao37 x6_1.length co37 (ji21) q041 q41
               have hr41 := Kd.F_cut (m := ((ji21) : Int).toNat) (c := co37) hC41 (by omega) hroom41
               obtain ⟨A41, hA41⟩ : ∃ A1, A1 = (if co37 = ((ji21) : Int).toNat then Ao37 else (Ao37 : Option Addr).map (·.add (((ji21) : Int).toNat * 1))) := ⟨_, rfl⟩
               obtain ⟨c41, hc41⟩ : ∃ c1, c1 = co37 - ((ji21) : Int).toNat := ⟨_, rfl⟩
               have hy41 : y722.length = x6_1.length - ((ji21) : Int).toNat := (by rw [Ny722.out, List.length_drop] <;> omega)
               rw [show (x6_1).drop ((ji21) : Int).toNat = y722 from Ny722.out.symm] at hr41
               replace hr41 : Kd.F (Kd.int .u8) _ _ A41 y722.length y722 := (by rw [hA41]; exact hr41)
               rw [← hy41, ← hA41, ← hc41] at hcut41
               have HO726 := m_ (show Kd.V (Kd.int .u8) 5 _ w.heap.size _ (.slice A41 y722.length c41) y722 from Kd.V_mk (by rw [hy41, hc41]; exact Nat.sub_le_sub_right hroom41 _) hr41)
               have HC726 := m_ (show y722.length ≤ c41 from by rw [hy41, hc41]; exact Nat.sub_le_sub_right hroom41 _)
               clear hr41 hC41 hroom41 hi041 hsz41 hc41
               have KY41 := m_ hy41
               have KA41 := m_ hA41
               clear hy41 hA41
               replace q41 := eq_true q41
               refine start_ (n := 15) (S := fun w' => True) (ds := []) (bs_ 15 0) (by kernel_rfl) rfl rfl trivial (fun hHeld => ?_); refine with_tabW stolonlaw16_OfmsgStreams.tab16 stolonlaw16_OfmsgStreams.bits16 (fun HT_ HW_ => ?_)
               generalize w39.drew = w40 at HO_6 HO708 HO711 HO714 HB HO726 hHeld ⊢
               refine pz_ 1 73 ?_
               refine pz_ 3 75 ?_
               refine pz_ 4 76 ?_
               refine pz_ 5 77 ?_
               refine oz_ 0 (some 72) (fun K hK => ?_)
               refine Kd.R_lit_step (Kd.int .u8) _ 5 ?hg (N := 72) ?hd (xs := ([] : List Int)) (inner := []) (ok := fun _ => True) (okp := fun _ => True) ?hr ?hp (fun _ hk => hk) trivial (Below.refl _ _) (Nat.le_refl _) (by simp) ?_; (case hd => rfl); (case hg => rfl); (case hr => first | (go_simp; done) | (go_simp; rfl)); (case hp => exact (Reps.none _ _))
               intro v717 w42 ho43 hb hg_ hnew_
               clear hg_ hnew_
               (first | rw [← Ny716.out] at ho43 | (simp only [Int.reduceToNat] at ho43; rw [← Ny716.out] at ho43))
               have HO718 := m_ (Kd.R_lower (Kd.R_new' ho43 (Kd.R_lt (Rz_ HO_6.out))) (below_size bz_))
               replace HO_6 := m_ (Kd.R_elder' (Rz_ HO_6.out) (Kd.R_base ho43) hb)
               replace HO708 := m_ (Kd.V_elder' (Vz_ HO708.out) (Kd.R_base ho43) hb)
               replace HO711 := m_ (Kd.N_elder' (Nz_ HO711.out) (Kd.R_base ho43) hb)
               replace HO714 := m_ (Kd.V_elder' (Vz_ HO714.out) (Kd.R_base ho43) hb)
               replace HO726 := m_ (Kd.V_elder' (Vz_ HO726.out) (Kd.R_base ho43) hb)
               replace HB := m_ (below_step bz_ hb)
               clear hb ho43
               obtain ⟨Ao45, co45, eo45⟩ := Kd.V_slice HO714.out
               (first | subst eo45 | (injection eo45 with f1_ f2_ f3_; have f4_ := f1_.symm; have f5_ := f3_.symm; clear f1_ f2_ f3_; subst f4_; subst f5_))
               refine hK.out _ _ trivial (fun hHeld => ?_)
               clear hK K
               refine nz_ (some 72) ?_
               refine oz_ 2 (some 74) (fun K hK => ?_)
               refine Kd.R_append_rows_step (Kd.int .u8) (w0 := w) w.heap.size (by rfl) (.tmp 72) (.tmp 73) 27 5 (.int .u8 0) 1 rfl Try.underlying27 info5 rfl (by decide) (by omega) v717 y716 t712 _ _ _ (fun k_ => some k_ ≠ (.slice Ao37 x6_1.length co37 : Value).ownBlock) (fun _ => False) rfl rfl ?aO ?aR (fun _ _ h => h) (fun _ h => h.elim) ?aF ?aB ?aS ?aL ?_
               (case aR => exact Cd_ (Kd.V_reads' HO714.out).2.2)
               (case aB => exact bz_)
               (case aF => exact (fun k_ hk => Kd.fresh' (Kd.R_lt (Rz_ HO_6.out)) k_ hk))
               (case aO => exact (Ry_ (Kd.R_mono HO718.out (fun _ hk => hk.2))))
               (case aS => exact (below_size bz_))
               (case aL => have := LMc25.out; omega)
               intro v720 w44 ho hb hg hat
               rw [← Ny719.out] at ho
               have HO721 := m_ (ho)
               replace HO_6 := m_ (Kd.R_after (ok := (fun _ => True)) (Rz_ HO_6.out) hg hat)
               replace HO708 := m_ (Kd.V_afterv (ok := (fun k_ => some k_ ≠ (v710 : Value).ownBlock)) (Vy_ (Kd.V_mono HO708.out (fun _ hk => ⟨hk.1.2, hk.2⟩))) hg hat)
               replace HO711 := m_ (Kd.N_afterv (ok := (fun _ => True)) (Nz_ HO711.out) hg hat)
               replace HO714 := m_ (Kd.V_afterv (ok := (fun k_ => some k_ ≠ (v710 : Value).ownBlock)) (Vz_ HO714.out) hg hat)
               replace HO726 := m_ (Kd.V_afterv (ok := (fun k_ => some k_ ≠ (v710 : Value).ownBlock)) (Vy_ (Kd.V_mono HO726.out (fun _ hk => ⟨hk.1.2, hk.2⟩))) hg hat)
               replace HB := m_ (hb)
               clear HO718 ho hb hg hat
               refine hK.out _ _ trivial (fun hHeld => ?_)
               clear hK K
               refine nz_ (some 74) ?_
               refine oz_ 6 (some 78) (fun K hK => ?_)
               refine Kd.R_append_rows_step (Kd.int .u8) (w0 := w) w.heap.size (by rfl) (.tmp 74) (.tmp 77) 27 5 (.int .u8 0) 1 rfl Try.underlying27 info5 rfl (by decide) (by omega) v720 y719 y722 _ _ _ (fun k_ => some k_ ≠ (.slice Ao37 x6_1.length co37 : Value).ownBlock) (fun _ => False) rfl rfl ?aO ?aR (fun _ _ h => h) (fun _ h => h.elim) ?aF ?aB ?aS ?aL ?_
               (case aR => exact Cd_ (Kd.V_reads' HO726.out).2.2)
               (case aB => exact bz_)
               (case aF => exact (fun k_ hk => Kd.fresh' (Kd.R_lt (Rz_ HO_6.out)) k_ hk))
               (case aO => exact (Rz_ HO721.out))
               (case aS => exact (below_size bz_))
               (case aL => have := LMc28.out; omega)
               intro v728 w46 ho hb hg hat
               rw [← Ny727.out] at ho
               have HO729 := m_ (ho)
               replace HO_6 := m_ (Kd.R_after (ok := (fun _ => True)) (Rz_ HO_6.out) hg hat)
               replace HO708 := m_ (Kd.V_afterv (ok := (fun k_ => some k_ ≠ (v710 : Value).ownBlock)) (Vz_ HO708.out) hg hat)
               replace HO711 := m_ (Kd.N_afterv (ok := (fun _ => True)) (Nz_ HO711.out) hg hat)
               replace HO714 := m_ (Kd.V_afterv (ok := (fun k_ => some k_ ≠ (v710 : Value).ownBlock)) (Vz_ HO714.out) hg hat)
               replace HO726 := m_ (Kd.V_afterv (ok := (fun k_ => some k_ ≠ (v710 : Value).ownBlock)) (Vz_ HO726.out) hg hat)
               replace HB := m_ (hb)
               clear HO721 ho hb hg hat
               obtain ⟨Ao47, co47, eo47⟩ := Kd.R_slice HO729.out
               (first | subst eo47 | (injection eo47 with f1_ f2_ f3_; have f4_ := f1_.symm; have f5_ := f3_.symm; clear f1_ f2_ f3_; subst f4_; subst f5_))
               refine hK.out _ _ trivial (fun hHeld => ?_)
               clear hK K
               refine nz_ (some 78) ?_
               refine oz_ 7 (some 79) (fun K hK => ?_)
               refine gz_ Try.func21 #[.slice Ao47 y727.length co47] ?_
               with_reducible refine (ofmsg_Split.calls k1 (fun k_ => some k_ = (.slice Ao47 y727.length co47 : Value).ownBlock) _ _ y727 t730 t733 t736 _ ?side1 A29.out).mono ?_
               (case side1 => exact Kd.R_V (Kd.R_tight rfl (Kd.R_apart' (HO729.out) (Kd.N_typed HO711.out) (by decide))))
               rintro e w48 ⟨v731, v734, rfl, ho0, ho1, hb⟩
               (try replace ho0 := Kd.S_N ho0)
               (try replace ho0 := (fun (P_ : Nat → Prop) => Kd.N_mono (ok' := fun k_ => P_ k_ ∨ _ ≤ k_) ho0 (fun _ h_ => Or.inr h_)) (fun k_ => some k_ = (.slice Ao47 y727.length co47 : Value).ownBlock))
               refine ⟨_, rfl, ?_⟩
               have HO732 := m_ (Kd.N_lower (Kd.N_mono (ok' := fun k_ => some k_ ≠ (.slice Ao37 x6_1.length co37 : Value).ownBlock ∧ some k_ ≠ (v710 : Value).ownBlock) ho0 (fun k_ hk_ => ⟨Or.elim hk_ (fun hs_ => ((Kd.R_apart' (HO729.out) (Kd.N_typed HO711.out) (by decide)).1 k_ hs_.symm).1) (fun hn_ => (Kd.fresh' (Kd.R_lt (Rz_ HO_6.out)) k_ hn_)), Or.elim hk_ (fun hs_ => ((Kd.R_apart' (HO729.out) (Kd.N_typed HO711.out) (by decide)).1 k_ hs_.symm).2) (fun hn_ => (Kd.fresh' (Kd.N_lt (Nz_ HO711.out)) k_ hn_))⟩)) (below_size bz_))
               have HO735 := m_ (Kd.V_lower (Kd.V_mono (ok' := fun k_ => some k_ ≠ (v731 : Value).ownBlock ∧ some k_ ≠ (.slice Ao37 x6_1.length co37 : Value).ownBlock ∧ some k_ ≠ (v710 : Value).ownBlock) ho1 (fun k_ hk_ => ⟨hk_.2, Or.elim hk_.1 (fun hs_ => ((Kd.R_apart' (HO729.out) (Kd.N_typed HO711.out) (by decide)).1 k_ hs_.symm).1) (fun hn_ => (Kd.fresh' (Kd.R_lt (Rz_ HO_6.out)) k_ hn_)), Or.elim hk_.1 (fun hs_ => ((Kd.R_apart' (HO729.out) (Kd.N_typed HO711.out) (by decide)).1 k_ hs_.symm).2) (fun hn_ => (Kd.fresh' (Kd.N_lt (Nz_ HO711.out)) k_ hn_))⟩)) (below_size bz_))
               replace HO_6 := m_ (Kd.R_below (Rz_ HO_6.out) hb)
               replace HO708 := m_ (Kd.V_elder' (Vz_ HO708.out) (Kd.N_base ho0) hb)
               replace HO711 := m_ (Kd.N_elder' (Nz_ HO711.out) (Kd.N_base ho0) hb)
               replace HO714 := m_ (Kd.V_elder' (Vz_ HO714.out) (Kd.N_base ho0) hb)
               replace HO726 := m_ (Kd.V_elder' (Vz_ HO726.out) (Kd.N_base ho0) hb)
               replace HO729 := m_ (Kd.R_below (Rz_ HO729.out) hb)
               replace HB := m_ (below_step bz_ hb)
               (try clear hb)
               (try clear hb2)
               (try clear hk)
               (try clear hi)
               (try clear ho0)
               (try clear ho1)
               refine hK.out _ _ trivial (fun hHeld => ?_)
               clear hK K
               refine nz_ (some 79) ?_
               refine pz_ 8 71 ?_
               refine pz_ 9 80 ?_
               refine pz_ 10 81 ?_
               refine pz_ 11 82 ?_
               refine pz_ 12 14 ?_
               refine pz_ 13 15 ?_
               refine pz_ 14 16 ?_
               refine dz_ ?_
               obtain ⟨Ao49, co49, eo49⟩ := Kd.V_slice HO735.out
               subst eo49
               try go_wp2_with (first | ((with_reducible refine gate_dst (N := 98) rfl ?_); (try (refine gate_guard (by rfl) ?_; dsimp only)); refine Kd.N_lit k29 _ 29 ?hg (N' := 98) ?hd (xs := ([] : List (S29))) (inner := []) (ok := (fun k_ => some k_ ≠ (.slice Ao37 x6_1.length co37 : Value).ownBlock ∧ some k_ ≠ (v710 : Value).ownBlock ∧ some k_ ≠ (.slice Ao47 y727.length co47 : Value).ownBlock ∧ some k_ ≠ (v731 : Value).ownBlock)) (okp := (fun k_ => some k_ ≠ (.slice Ao37 x6_1.length co37 : Value).ownBlock ∧ some k_ ≠ (v710 : Value).ownBlock ∧ some k_ ≠ (.slice Ao47 y727.length co47 : Value).ownBlock ∧ some k_ ≠ (v731 : Value).ownBlock)) ?hr ?hp (fun _ hk => hk) ((show ∀ k_, w48.heap.size ≤ k_ → (fun k_ => some k_ ≠ (.slice Ao37 x6_1.length co37 : Value).ownBlock ∧ some k_ ≠ (v710 : Value).ownBlock ∧ some k_ ≠ (.slice Ao47 y727.length co47 : Value).ownBlock ∧ some k_ ≠ (v731 : Value).ownBlock) k_ from fun k_ hk => ⟨Kd.fresh' (Kd.R_lt (Rz_ HO_6.out)) k_ hk, Kd.fresh' (Kd.N_lt (Nz_ HO711.out)) k_ hk, Kd.fresh' (Kd.R_lt (Rz_ HO729.out)) k_ hk, Kd.fresh' (Kd.N_lt (Nz_ HO732.out)) k_ hk⟩) _ (Nat.le_refl _)) (Below.refl _ _) (Nat.le_refl _) (by simp) ?_; (case hd => rfl); (case hg => rfl); (case hr => first | (go_simp; done) | (go_simp; rfl)); (case hp => exact (Reps.none _ _)); intro v738 w50 ho51 hb hg_ hnew_; clear hg_ hnew_; (first | rw [← Ny737.out] at ho51 | (simp only [Int.reduceToNat] at ho51; rw [← Ny737.out] at ho51)); have HO739 := m_ (Kd.N_lower ho51 (below_size bz_)); replace HO_6 := m_ (Kd.R_below (Rz_ HO_6.out) hb); replace HO708 := m_ (Kd.V_elder' (Vz_ HO708.out) (Kd.N_base ho51) hb); replace HO711 := m_ (Kd.N_elder' (Nz_ HO711.out) (Kd.N_base ho51) hb); replace HO714 := m_ (Kd.V_elder' (Vz_ HO714.out) (Kd.N_base ho51) hb); replace HO726 := m_ (Kd.V_elder' (Vz_ HO726.out) (Kd.N_base ho51) hb); replace HO729 := m_ (Kd.R_below (Rz_ HO729.out) hb); replace HO732 := m_ (Kd.N_elder' (Nz_ HO732.out) (Kd.N_base ho51) hb); replace HO735 := m_ (Kd.V_elder' (Vz_ HO735.out) (Kd.N_base ho51) hb); replace HB := m_ (below_step bz_ hb); clear hb ho51; obtain ⟨Ao53, co53, eo53⟩ := Kd.N_slice HO711.out; subst eo53) | ((with_reducible refine gate_builtin (b := .append) (xs := #[.tmp 98, .tmp 99]) rfl ?_); (try (refine gate_guard (by rfl) ?_; dsimp only)); at_builtin; refine Kd.N_append_rows k29 (w0 := w) w.heap.size rfl (.tmp 98) (.tmp 99) 43 29 (.agg #[(.int .u8 0), (.int .u32 0), (.int .u32 0), (.int .u32 0), (.int .u32 0), (.int .i64 0), (.int .u32 0), (.slice none 0 0), (.int .i64 0), (.bool false), (.slice none 0 0)]) 104 rfl Try.underlying43 info29 rfl (by decide) (by omega) v738 y737 t709 _ _ _ (fun k_ => some k_ ≠ (.slice Ao47 y727.length co47 : Value).ownBlock ∧ some k_ ≠ (v731 : Value).ownBlock) (fun k_ => ((fun k_ => some k_ ≠ (.slice Ao47 y727.length co47 : Value).ownBlock ∧ some k_ ≠ (v731 : Value).ownBlock)) k_ ∧ some k_ ≠ (v738 : Value).ownBlock) rfl rfl ?aO ?aR (fun _ hk => hk) ?aF ?aB ?aS ?aL ?_; (case aR => exact (by skip; exact Kd.N_F (Kd.N_mono (ok' := (fun k_ => ((fun k_ => some k_ ≠ (.slice Ao47 y727.length co47 : Value).ownBlock ∧ some k_ ≠ (v731 : Value).ownBlock)) k_ ∧ some k_ ≠ (v738 : Value).ownBlock)) (HO711.out) (fun k_ hk => ⟨⟨hk.1.1.2, hk.1.2⟩, hk.2⟩)))); (case aB => exact bz_); (case aF => exact (fun k_ hk => ⟨Kd.fresh' (Kd.R_lt (Rz_ HO729.out)) k_ hk, Kd.fresh' (Kd.N_lt (Nz_ HO732.out)) k_ hk⟩)); (case aO => exact (Ny_ (Kd.N_mono HO739.out (fun _ hk => ⟨hk.2.2.1, hk.2.2.2⟩)))); (case aS => exact (below_size bz_)); (case aL => have := LMc34.out; omega); intro v741 w52 ho hb hg hat; rw [← Ny740.out] at ho; have HO742 := m_ (ho); replace HO_6 := m_ (Kd.R_over' (Rz_ HO_6.out) (Kd.N_typed (Nz_ HO739.out)) (by decide) hg); replace HO708 := m_ (Kd.V_afterv (ok := (fun k_ => some k_ ≠ (.slice Ao53 t709.length co53 : Value).ownBlock ∧ some k_ ≠ (.slice Ao47 y727.length co47 : Value).ownBlock ∧ some k_ ≠ (v731 : Value).ownBlock)) (Vy_ (Kd.V_mono HO708.out (fun _ hk => ⟨⟨hk.1.1.1, ⟨hk.1.1.2, hk.1.2⟩⟩, hk.2⟩))) hg hat); replace HO711 := m_ (Kd.N_afterv (ok := (fun k_ => some k_ ≠ (.slice Ao47 y727.length co47 : Value).ownBlock ∧ some k_ ≠ (v731 : Value).ownBlock)) (Ny_ (Kd.N_mono HO711.out (fun _ hk => ⟨⟨hk.1.1.2, hk.1.2⟩, hk.2⟩))) hg hat); replace HO714 := m_ (Kd.V_afterv (ok := (fun k_ => some k_ ≠ (.slice Ao53 t709.length co53 : Value).ownBlock ∧ some k_ ≠ (.slice Ao47 y727.length co47 : Value).ownBlock ∧ some k_ ≠ (v731 : Value).ownBlock)) (Vy_ (Kd.V_mono HO714.out (fun _ hk => ⟨⟨hk.1.1.1, ⟨hk.1.1.2, hk.1.2⟩⟩, hk.2⟩))) hg hat); replace HO726 := m_ (Kd.V_afterv (ok := (fun k_ => some k_ ≠ (.slice Ao53 t709.length co53 : Value).ownBlock ∧ some k_ ≠ (.slice Ao47 y727.length co47 : Value).ownBlock ∧ some k_ ≠ (v731 : Value).ownBlock)) (Vy_ (Kd.V_mono HO726.out (fun _ hk => ⟨⟨hk.1.1.1, ⟨hk.1.1.2, hk.1.2⟩⟩, hk.2⟩))) hg hat); replace HO729 := m_ (Kd.R_over' (Rz_ HO729.out) (Kd.N_typed (Nz_ HO739.out)) (by decide) hg); replace HO732 := m_ (Kd.N_afterv (ok := (fun k_ => some k_ ≠ (.slice Ao37 x6_1.length co37 : Value).ownBlock ∧ some k_ ≠ (.slice Ao53 t709.length co53 : Value).ownBlock)) (Nz_ HO732.out) hg hat); replace HO735 := m_ (Kd.V_afterv (ok := (fun k_ => some k_ ≠ (.slice Ao37 x6_1.length co37 : Value).ownBlock ∧ some k_ ≠ (.slice Ao53 t709.length co53 : Value).ownBlock ∧ some k_ ≠ (v731 : Value).ownBlock)) (Vy_ (Kd.V_mono HO735.out (fun _ hk => ⟨⟨hk.1.2.1, ⟨hk.1.2.2, hk.1.1⟩⟩, hk.2⟩))) hg hat); replace HB := m_ (hb); clear HO739 ho hb hg hat; obtain ⟨Ao55, co55, eo55⟩ := Kd.N_slice HO732.out; subst eo55) | ((with_reducible refine gate_builtin (b := .append) (xs := #[.tmp 100, .tmp 101]) rfl ?_); (try (refine gate_guard (by rfl) ?_; dsimp only)); at_builtin; refine Kd.N_append_rows k29 (w0 := w) w.heap.size rfl (.tmp 100) (.tmp 101) 43 29 (.agg #[(.int .u8 0), (.int .u32 0), (.int .u32 0), (.int .u32 0), (.int .u32 0), (.int .i64 0), (.int .u32 0), (.slice none 0 0), (.int .i64 0), (.bool false), (.slice none 0 0)]) 104 rfl Try.underlying43 info29 rfl (by decide) (by omega) v741 y740 t730 _ _ _ (fun _ => True) (fun k_ => ((fun _ => True)) k_ ∧ some k_ ≠ (v741 : Value).ownBlock) rfl rfl ?aO ?aR (fun _ hk => hk) ?aF ?aB ?aS ?aL ?_; (case aR => exact (by skip; exact Kd.N_F (Kd.N_mono (ok' := (fun k_ => ((fun _ => True)) k_ ∧ some k_ ≠ (v741 : Value).ownBlock)) (HO732.out) (fun k_ hk => ⟨trivial, hk.2⟩)))); (case aB => exact bz_); (case aF => exact (fun _ _ => trivial)); (case aO => exact (Ny_ (Kd.N_mono HO742.out (fun _ hk => trivial)))); (case aS => exact (below_size bz_)); (case aL => have := LMc35.out; omega); intro v744 w54 ho hb hg hat; rw [← Ny743.out] at ho; have HO745 := m_ (ho); replace HO_6 := m_ (Kd.R_over' (Rz_ HO_6.out) (Kd.N_typed (Nz_ HO742.out)) (by decide) hg); replace HO708 := m_ (Kd.V_afterv (ok := (fun k_ => some k_ ≠ (.slice Ao53 t709.length co53 : Value).ownBlock ∧ some k_ ≠ (.slice Ao47 y727.length co47 : Value).ownBlock ∧ some k_ ≠ (.slice Ao55 t730.length co55 : Value).ownBlock)) (Vz_ HO708.out) hg hat); replace HO711 := m_ (Kd.N_afterv (ok := (fun k_ => some k_ ≠ (.slice Ao47 y727.length co47 : Value).ownBlock ∧ some k_ ≠ (.slice Ao55 t730.length co55 : Value).ownBlock)) (Nz_ HO711.out) hg hat); replace HO714 := m_ (Kd.V_afterv (ok := (fun k_ => some k_ ≠ (.slice Ao53 t709.length co53 : Value).ownBlock ∧ some k_ ≠ (.slice Ao47 y727.length co47 : Value).ownBlock ∧ some k_ ≠ (.slice Ao55 t730.length co55 : Value).ownBlock)) (Vz_ HO714.out) hg hat); replace HO726 := m_ (Kd.V_afterv (ok := (fun k_ => some k_ ≠ (.slice Ao53 t709.length co53 : Value).ownBlock ∧ some k_ ≠ (.slice Ao47 y727.length co47 : Value).ownBlock ∧ some k_ ≠ (.slice Ao55 t730.length co55 : Value).ownBlock)) (Vz_ HO726.out) hg hat); replace HO729 := m_ (Kd.R_over' (Rz_ HO729.out) (Kd.N_typed (Nz_ HO742.out)) (by decide) hg); replace HO732 := m_ (Kd.N_afterv (ok := (fun k_ => some k_ ≠ (.slice Ao37 x6_1.length co37 : Value).ownBlock ∧ some k_ ≠ (.slice Ao53 t709.length co53 : Value).ownBlock)) (Nz_ HO732.out) hg hat); replace HO735 := m_ (Kd.V_afterv (ok := (fun k_ => some k_ ≠ (.slice Ao37 x6_1.length co37 : Value).ownBlock ∧ some k_ ≠ (.slice Ao53 t709.length co53 : Value).ownBlock ∧ some k_ ≠ (.slice Ao55 t730.length co55 : Value).ownBlock)) (Vz_ HO735.out) hg hat); replace HB := m_ (hb); clear HO742 ho hb hg hat; obtain ⟨Ao56, co56, eo56⟩ := Kd.N_slice HO745.out; subst eo56) | (go_at_call 23; (with_reducible refine (stolonref16_Msgs.calls k1 _ _ y743 _ _ l0 t746 _ ?side1 ?side2 ?side3 ?side4 A36.out).mono ?_); (case side1 => exact Cd_ (Kd.N_reads' HO745.out).2.2); (case side2 => exact (Kd.N_reads' HO745.out).2.1); (case side3 => exact Cd_ (Kd.C_below HR0.out HB.out)); (case side4 => exact HC0.out); rintro e w57 ⟨rfl, hb⟩; replace HO_6 := m_ (Kd.R_below (Rz_ HO_6.out) hb); replace HO708 := m_ (Kd.V_below (Vz_ HO708.out) hb); replace HO711 := m_ (Kd.N_below (Nz_ HO711.out) hb); replace HO714 := m_ (Kd.V_below (Vz_ HO714.out) hb); replace HO726 := m_ (Kd.V_below (Vz_ HO726.out) hb); replace HO729 := m_ (Kd.R_below (Rz_ HO729.out) hb); replace HO732 := m_ (Kd.N_below (Nz_ HO732.out) hb); replace HO735 := m_ (Kd.V_below (Vz_ HO735.out) hb); replace HO745 := m_ (Kd.N_below (Nz_ HO745.out) hb); replace HB := m_ (below_step bz_ hb); (try clear hb); (try clear hb2); (try clear hk); (try clear hi)))
               go_ret
               exact ⟨(by first | rfl | (simp [errW_none, errW_some] <;> rfl) | (simp only [← hji20, ← hji21]; first | rfl | (simp [errW_none, errW_some] <;> rfl)) | (simp [*, errW_none, errW_some] <;> rfl)), bz_⟩
              ·rw [if_neg c35] at H
               exact absurd H (by simp)
             ·rw [if_neg c34] at H
              exact absurd H (by simp)
            ·rw [if_neg c33] at H
             have c33b0 : ((t733.length : Int) == 0) = false := beq_eq_false_iff_ne.mpr c33
             have c33b1 : ((t733.length : Int) != 0) = true := bne_iff_ne.mpr c33
             have c33b2 : ¬ (t733 = []) := fun h_ => c33 (by rw [h_]; rfl)
             exact absurd ((Option.some.inj H).trans hTrue.out) (by simp)
           ·rw [if_neg c32] at H
            have c32b0 : (t736 == 0) = false := beq_eq_false_iff_ne.mpr c32
            have c32b1 : (t736 != 0) = true := bne_iff_ne.mpr c32
            exact absurd ((Option.some.inj H).trans hTrue.out) (by simp)
          ·rw [if_neg c31] at H
           have c31b0 : (t715 == 0) = false := beq_eq_false_iff_ne.mpr c31
           have c31b1 : (t715 != 0) = true := bne_iff_ne.mpr c31
           exact absurd ((Option.some.inj H).trans hTrue.out) (by simp)
         ·replace c30 := Bool.eq_false_iff.mpr c30
          subst c30
          have H1 : (some false) = some r := by rw [if_neg (show ¬ (false = true) by decide)] at H; exact H
          clear H
          have H := H1
          clear H1
          exact absurd ((Option.some.inj H).trans hTrue.out) (by simp)
        ·rw [if_neg c28] at H
         exact absurd H (by simp)
       ·rw [if_neg c25] at H
        exact absurd H (by simp)
      ·rw [if_neg c23] at H
       exact absurd H (by simp)
     ·rw [if_neg c22] at H
      exact absurd H (by simp)
end Go.Proofs.Ytboonfidioombaa.P

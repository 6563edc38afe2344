/- For each Go function a Lean function, and the proof that a call comes to what it tells: made by program out of the translation (the kit's print, with texts by hand put in). No condition. -/
import Derived.Test.YtboonfidioombaaSq
import Derived.Test.YtboonfidioombaaPx0
import Derived.Test.YtboonfidioombaaPx25
namespace Go.Proofs.Ytboonfidioombaa.P
open Go.RowKit Go.Proofs.Ytboonfidioombaa.HRows Go.Proofs.YtboonfidioombaaW.PrintWords Go.Proofs.YtboonfidioombaaW.PrintLast Go.Proofs.YtboonfidioombaaW.PrintMore
attribute [local go_sem] max2_int min2_int max_two min_two max_three min_three max_four min_four
set_option linter.unusedVariables false
set_option linter.unusedSimpArgs false
def stolonref16_Msgs.l0 : Nat → List (S29) → List (S29) → Int → Option (Bool)
 | 0, _, _, _ => none
 | k + 1, x0, x1, x5 => if x5 < (x0.length : Int) then (if 0 ≤ x5 then (if x5 < (x1.length : Int) then ((stolonref16_Same.f k ((rd_T29 x0 x5).f0) ((rd_T29 x0 x5).f1) ((rd_T29 x0 x5).f2.f0) ((rd_T29 x0 x5).f2.f1) ((rd_T29 x0 x5).f2.f2) ((rd_T29 x0 x5).f2.f3) ((rd_T29 x0 x5).f2.f4) ((rd_T29 x0 x5).f2.f5) ((rd_T29 x0 x5).f3) ((rd_T29 x0 x5).f4) ((rd_T29 x0 x5).f5) ((rd_T29 x1 x5).f0) ((rd_T29 x1 x5).f1) ((rd_T29 x1 x5).f2.f0) ((rd_T29 x1 x5).f2.f1) ((rd_T29 x1 x5).f2.f2) ((rd_T29 x1 x5).f2.f3) ((rd_T29 x1 x5).f2.f4) ((rd_T29 x1 x5).f2.f5) ((rd_T29 x1 x5).f3) ((rd_T29 x1 x5).f4) ((rd_T29 x1 x5).f5)).bind fun t582 => (if t582 = true then (stolonref16_Msgs.l0 k x0 x1 (wrap64 (x5 + 1))) else (some false))) else (none)) else (none)) else (some true)
def stolonref16_Msgs.f (k : Nat) (l0 : List (S29)) (l1 : List (S29)) : Option (Bool) := if (l0.length : Int) = (l1.length : Int) then (stolonref16_Msgs.l0 k l0 l1 0) else (some false)
theorem stolonref16_Msgs.mono_l : ∀ k, (∀ y0 y1 y2, LeO (stolonref16_Msgs.l0 k y0 y1 y2) (stolonref16_Msgs.l0 (k + 1) y0 y1 y2))
 | 0 => fun _ _ _ r h => by simp [stolonref16_Msgs.l0] at h
 | k + 1 => by
  have ih0 := stolonref16_Msgs.mono_l k
  ·intro y0 y1 y2
   unfold stolonref16_Msgs.l0
   repeat' first
   | (with_reducible exact ih0 _ _ _)
   | (with_reducible exact stolonref16_Same.mono _ _ _ _ _ _ _ _ _ _ _ _ _ _ _ _ _ _ _ _ _ _ _)
   | (with_reducible exact LeO.refl _)
   | (with_reducible exact LeO.none _)
   | (with_reducible refine LeO.ite ?_ ?_)
   | (with_reducible refine LeO.bind ?_ (fun _ => ?_))
   | exact ih0 _ _ _
   | exact stolonref16_Same.mono _ _ _ _ _ _ _ _ _ _ _ _ _ _ _ _ _ _ _ _ _ _ _
   | exact LeO.none _
   | refine LeO.ite ?_ ?_
   | refine LeO.bind ?_ (fun _ => ?_)
theorem stolonref16_Msgs.mono : ∀ a0 a1 k, LeO (stolonref16_Msgs.f k a0 a1) (stolonref16_Msgs.f (k + 1) a0 a1) := by
 intro a0 a1 k
 have ih0 := stolonref16_Msgs.mono_l k
 unfold stolonref16_Msgs.f
 repeat' first
   | (with_reducible exact ih0 _ _ _)
   | (with_reducible exact stolonref16_Same.mono _ _ _ _ _ _ _ _ _ _ _ _ _ _ _ _ _ _ _ _ _ _ _)
   | (with_reducible exact LeO.refl _)
   | (with_reducible exact LeO.none _)
   | (with_reducible refine LeO.ite ?_ ?_)
   | (with_reducible refine LeO.bind ?_ (fun _ => ?_))
   | exact ih0 _ _ _
   | exact stolonref16_Same.mono _ _ _ _ _ _ _ _ _ _ _ _ _ _ _ _ _ _ _ _ _ _ _
   | exact LeO.none _
   | refine LeO.ite ?_ ?_
   | refine LeO.bind ?_ (fun _ => ?_)
def stolonref16_Msgs.T6 : Bool × List (List Nat × List Nat) := (true, [([], []), ([], []), ([0, 1], [0, 1]), ([2], [2]), ([], []), ([], []), ([4, 5], [4, 5]), ([6], [6]), ([3, 7], [3, 7]), ([8, 8, 0, 1, 2, 3, 4, 5, 6, 7, 8], [8])])
def stolonref16_Msgs.B6 : List Nat := [0, 0, 3, 7, 0, 0, 48, 112, 255, 511]
theorem stolonref16_Msgs.tab6 : rtab .any (opsOf Try.f23 6) = stolonref16_Msgs.T6 := by kernel_rfl
theorem stolonref16_Msgs.bits6 : waitsOk stolonref16_Msgs.T6.2 stolonref16_Msgs.B6 = true := by kernel_rfl
set_option maxHeartbeats 8000000 in
set_option maxRecDepth 100000 in
theorem stolonref16_Msgs.calls (k : Nat) (A0 : Option Addr) (c0 : Nat) (l0 : List (S29)) (A1 : Option Addr) (c1 : Nat) (l1 : List (S29)) (r : Bool) (w : World) (hr0 : Kd.C k29 w A0 l0.length l0) (hc0 : l0.length ≤ c0) (hr1 : Kd.C k29 w A1 l1.length l1) (hc1 : l1.length ≤ c1) (h : stolonref16_Msgs.f k l0 l1 = some r) :
  Calls Try.prog 23 #[.slice A0 l0.length c0, .slice A1 l1.length c1] w fun e w' => e = .returned (.bool r) ∧ Below w.heap.size w w' := by
 have hu29 := Try.underlying29
 have HR0 := m_ hr0
 have HC0 := m_ hc0
 clear hr0 hc0
 have HR1 := m_ hr1
 have HC1 := m_ hc1
 clear hr1 hc1
 have HB := m_ (Below.refl w.heap.size w)
 have H : (if (l0.length : Int) = (l1.length : Int) then (stolonref16_Msgs.l0 k l0 l1 0) else (some false)) = some r := h
 clear h
 by_cases c3 : (l0.length : Int) = (l1.length : Int)
 ·rw [if_pos c3] at H
  have c3b0 : ((l0.length : Int) == (l1.length : Int)) = true := beq_iff_eq.mpr c3
  have c3b1 : ((l0.length : Int) != (l1.length : Int)) = false := bne_eq_false_iff_eq.mpr c3
  have c3b2 : (l0.length == l1.length) = true := by first | simpa using c3 | (simp at c3 ⊢; omega)
  clear c3
  have H' := m_ H
  clear H
  go_enter Try.func23, Try.ntmps23
  go_wp2
  go_loopg [5] k (fun kq v5 w' => ∃ (x5_1 : Int), v5 = .int .i64 x5_1 ∧ Aside0 (stolonref16_Msgs.l0 kq l0 l1 x5_1 = some r) ∧ Aside0 (kq ≤ k) ∧ Aside0 (Below w.heap.size w w'))
  case atStart => exact ⟨(0), (by first | rfl | (simp; done) | (simp [*]; done)), H', ⟨Nat.le_refl _⟩, ⟨bz_⟩⟩
  case round =>
   clear H'
   try clear c1
   try clear c2
   try clear p2
   try clear c3
   try clear c3b0
   try clear c3b1
   try clear c3b2
   obtain ⟨x5_1, rfl, HA, HK1, HB⟩ := hrel
   cases gk with
   | zero => exact absurd HA.out (by simp [stolonref16_Msgs.l0])
   | succ k1 =>
    have H := HA.out
    clear HA
    simp only [stolonref16_Msgs.l0] at H
    by_cases c4 : x5_1 < (l0.length : Int)
    ·rw [if_pos c4] at H
     have c4b0 : decide (x5_1 < (l0.length : Int)) = true := decide_eq_true c4
     clear c4
     by_cases c5 : 0 ≤ x5_1
     ·rw [if_pos c5] at H
      have c5b0 : decide (0 ≤ x5_1) = true := decide_eq_true c5
      clear c5
      by_cases c6 : x5_1 < (l1.length : Int)
      ·rw [if_pos c6] at H
       have c6b0 : decide (x5_1 < (l1.length : Int)) = true := decide_eq_true c6
       clear c6
       replace H := Option.bind_eq_some_iff.mp H
       obtain ⟨t582, A70, H⟩ := H
       replace H : (if t582 = true then (stolonref16_Msgs.l0 k1 l0 l1 (wrap64 (x5_1 + 1))) else (some false)) = some r := H
       have A7 := m_ A70
       clear A70
       by_cases c8 : t582 = true
       ·subst c8
        have H1 : (stolonref16_Msgs.l0 k1 l0 l1 (wrap64 (x5_1 + 1))) = some r := by rw [if_pos rfl] at H; exact H
        clear H
        have H := H1
        clear H1
        have H' := m_ H
        clear H
        try go_wp2
        replace HB := m_ (below_drew1 HB.out)
        have p580 : 0 ≤ (x5_1 : Int) := od_
        have q580 : x5_1 < (l0.length : Int) := od_
        obtain ⟨ad580, A580_7, c580_7, A580_10, c580_10, e580, hx580_0, hx580_1, hx580_2, hx580_3, hx580_4, hx580_5, hx580_6, hx580_7, hx580_8, hx580_9, hx580_10, hl580_7, hi580_7, hl580_10, hi580_10⟩ := at_T29 HR0.out x5_1 p580 q580
        have hw580_10 := hx580_10
        have hw580_9 := hx580_9
        have hw580_8 := hx580_8
        have hw580_7 := hx580_7
        have hw580_6 := hx580_6
        have hw580_5 := hx580_5
        have hw580_4 := hx580_4
        have hw580_3 := hx580_3
        have hw580_2 := hx580_2
        have hw580_1 := hx580_1
        have hw580_0 := hx580_0
        cases e580
        replace hx580_0 := kp_ HB.out hx580_0
        replace hx580_1 := kp_ HB.out hx580_1
        replace hx580_2 := kp_ HB.out hx580_2
        replace hx580_3 := kp_ HB.out hx580_3
        replace hx580_4 := kp_ HB.out hx580_4
        replace hx580_5 := kp_ HB.out hx580_5
        replace hx580_6 := kp_ HB.out hx580_6
        replace hx580_7 := kp_ HB.out hx580_7
        replace hx580_8 := kp_ HB.out hx580_8
        replace hx580_9 := kp_ HB.out hx580_9
        replace hx580_10 := kp_ HB.out hx580_10
        have HR580_7 := m_ hi580_7
        have HC580_7 := m_ hl580_7
        clear hi580_7 hl580_7
        have HR580_10 := m_ hi580_10
        have HC580_10 := m_ hl580_10
        clear hi580_10 hl580_10
        replace p580 := eq_true p580
        replace q580 := eq_true q580
        have p581 : 0 ≤ (x5_1 : Int) := od_
        have q581 : x5_1 < (l1.length : Int) := od_
        obtain ⟨ad581, A581_7, c581_7, A581_10, c581_10, e581, hx581_0, hx581_1, hx581_2, hx581_3, hx581_4, hx581_5, hx581_6, hx581_7, hx581_8, hx581_9, hx581_10, hl581_7, hi581_7, hl581_10, hi581_10⟩ := at_T29 HR1.out x5_1 p581 q581
        have hw581_10 := hx581_10
        have hw581_9 := hx581_9
        have hw581_8 := hx581_8
        have hw581_7 := hx581_7
        have hw581_6 := hx581_6
        have hw581_5 := hx581_5
        have hw581_4 := hx581_4
        have hw581_3 := hx581_3
        have hw581_2 := hx581_2
        have hw581_1 := hx581_1
        have hw581_0 := hx581_0
        cases e581
        replace hx581_0 := kp_ HB.out hx581_0
        replace hx581_1 := kp_ HB.out hx581_1
        replace hx581_2 := kp_ HB.out hx581_2
        replace hx581_3 := kp_ HB.out hx581_3
        replace hx581_4 := kp_ HB.out hx581_4
        replace hx581_5 := kp_ HB.out hx581_5
        replace hx581_6 := kp_ HB.out hx581_6
        replace hx581_7 := kp_ HB.out hx581_7
        replace hx581_8 := kp_ HB.out hx581_8
        replace hx581_9 := kp_ HB.out hx581_9
        replace hx581_10 := kp_ HB.out hx581_10
        have HR581_7 := m_ hi581_7
        have HC581_7 := m_ hl581_7
        clear hi581_7 hl581_7
        have HR581_10 := m_ hi581_10
        have HC581_10 := m_ hl581_10
        clear hi581_10 hl581_10
        replace p581 := eq_true p581
        replace q581 := eq_true q581
        refine start_ (n := 10) (S := fun w' => w'.cell? (ad580.add ((x5_1).toNat * 11)) = some (.int .u8 ((rd_T29 l0 x5_1).f0)) ∧ w'.cell? ⟨(ad580.add ((x5_1).toNat * 11)).block, (ad580.add ((x5_1).toNat * 11)).off + 1, none⟩ = some (.int .u32 ((rd_T29 l0 x5_1).f1)) ∧ w'.cell? ⟨(ad580.add ((x5_1).toNat * 11)).block, (ad580.add ((x5_1).toNat * 11)).off + 2, none⟩ = some (.int .u32 ((rd_T29 l0 x5_1).f2.f0)) ∧ w'.cell? ⟨(ad580.add ((x5_1).toNat * 11)).block, (ad580.add ((x5_1).toNat * 11)).off + 3, none⟩ = some (.int .u32 ((rd_T29 l0 x5_1).f2.f1)) ∧ w'.cell? ⟨(ad580.add ((x5_1).toNat * 11)).block, (ad580.add ((x5_1).toNat * 11)).off + 4, none⟩ = some (.int .u32 ((rd_T29 l0 x5_1).f2.f2)) ∧ w'.cell? ⟨(ad580.add ((x5_1).toNat * 11)).block, (ad580.add ((x5_1).toNat * 11)).off + 5, none⟩ = some (.int .i64 ((rd_T29 l0 x5_1).f2.f3)) ∧ w'.cell? ⟨(ad580.add ((x5_1).toNat * 11)).block, (ad580.add ((x5_1).toNat * 11)).off + 6, none⟩ = some (.int .u32 ((rd_T29 l0 x5_1).f2.f4)) ∧ w'.cell? ⟨(ad580.add ((x5_1).toNat * 11)).block, (ad580.add ((x5_1).toNat * 11)).off + 7, none⟩ = some (.slice A580_7 ((rd_T29 l0 x5_1).f2.f5).length c580_7) ∧ w'.cell? ⟨(ad580.add ((x5_1).toNat * 11)).block, (ad580.add ((x5_1).toNat * 11)).off + 8, none⟩ = some (.int .i64 ((rd_T29 l0 x5_1).f3)) ∧ w'.cell? ⟨(ad580.add ((x5_1).toNat * 11)).block, (ad580.add ((x5_1).toNat * 11)).off + 9, none⟩ = some (.bool ((rd_T29 l0 x5_1).f4)) ∧ w'.cell? ⟨(ad580.add ((x5_1).toNat * 11)).block, (ad580.add ((x5_1).toNat * 11)).off + 10, none⟩ = some (.slice A580_10 ((rd_T29 l0 x5_1).f5).length c580_10) ∧ w'.cell? (ad581.add ((x5_1).toNat * 11)) = some (.int .u8 ((rd_T29 l1 x5_1).f0)) ∧ w'.cell? ⟨(ad581.add ((x5_1).toNat * 11)).block, (ad581.add ((x5_1).toNat * 11)).off + 1, none⟩ = some (.int .u32 ((rd_T29 l1 x5_1).f1)) ∧ w'.cell? ⟨(ad581.add ((x5_1).toNat * 11)).block, (ad581.add ((x5_1).toNat * 11)).off + 2, none⟩ = some (.int .u32 ((rd_T29 l1 x5_1).f2.f0)) ∧ w'.cell? ⟨(ad581.add ((x5_1).toNat * 11)).block, (ad581.add ((x5_1).toNat * 11)).off + 3, none⟩ = some (.int .u32 ((rd_T29 l1 x5_1).f2.f1)) ∧ w'.cell? ⟨(ad581.add ((x5_1).toNat * 11)).block, (ad581.add ((x5_1).toNat * 11)).off + 4, none⟩ = some (.int .u32 ((rd_T29 l1 x5_1).f2.f2)) ∧ w'.cell? ⟨(ad581.add ((x5_1).toNat * 11)).block, (ad581.add ((x5_1).toNat * 11)).off + 5, none⟩ = some (.int .i64 ((rd_T29 l1 x5_1).f2.f3)) ∧ w'.cell? ⟨(ad581.add ((x5_1).toNat * 11)).block, (ad581.add ((x5_1).toNat * 11)).off + 6, none⟩ = some (.int .u32 ((rd_T29 l1 x5_1).f2.f4)) ∧ w'.cell? ⟨(ad581.add ((x5_1).toNat * 11)).block, (ad581.add ((x5_1).toNat * 11)).off + 7, none⟩ = some (.slice A581_7 ((rd_T29 l1 x5_1).f2.f5).length c581_7) ∧ w'.cell? ⟨(ad581.add ((x5_1).toNat * 11)).block, (ad581.add ((x5_1).toNat * 11)).off + 8, none⟩ = some (.int .i64 ((rd_T29 l1 x5_1).f3)) ∧ w'.cell? ⟨(ad581.add ((x5_1).toNat * 11)).block, (ad581.add ((x5_1).toNat * 11)).off + 9, none⟩ = some (.bool ((rd_T29 l1 x5_1).f4)) ∧ w'.cell? ⟨(ad581.add ((x5_1).toNat * 11)).block, (ad581.add ((x5_1).toNat * 11)).off + 10, none⟩ = some (.slice A581_10 ((rd_T29 l1 x5_1).f5).length c581_10)) (ds := []) (bs_ 10 0) (by kernel_rfl) rfl rfl ⟨(kp_ HB.out hw580_0), (kp_ HB.out hw580_1), (kp_ HB.out hw580_2), (kp_ HB.out hw580_3), (kp_ HB.out hw580_4), (kp_ HB.out hw580_5), (kp_ HB.out hw580_6), (kp_ HB.out hw580_7), (kp_ HB.out hw580_8), (kp_ HB.out hw580_9), (kp_ HB.out hw580_10), (kp_ HB.out hw581_0), (kp_ HB.out hw581_1), (kp_ HB.out hw581_2), (kp_ HB.out hw581_3), (kp_ HB.out hw581_4), (kp_ HB.out hw581_5), (kp_ HB.out hw581_6), (kp_ HB.out hw581_7), (kp_ HB.out hw581_8), (kp_ HB.out hw581_9), (kp_ HB.out hw581_10)⟩ (fun hHeld => ?_); refine with_tabW stolonref16_Msgs.tab6 stolonref16_Msgs.bits6 (fun HT_ HW_ => ?_)
        generalize wr.drew = w9 at HB HR580_10 HR580_7 HR581_10 HR581_7 hx580_0 hx580_1 hx580_10 hx580_2 hx580_3 hx580_4 hx580_5 hx580_6 hx580_7 hx580_8 hx580_9 hx581_0 hx581_1 hx581_10 hx581_2 hx581_3 hx581_4 hx581_5 hx581_6 hx581_7 hx581_8 hx581_9 hHeld ⊢
        refine pz_ 0 18 ?_
        refine pz_ 1 19 ?_
        refine pz_ 2 20 ?_
        refine pz_ 4 22 ?_
        refine pz_ 5 23 ?_
        refine pz_ 6 24 ?_
        refine tz_ 3 21 ?_
        refine tz_ 7 25 ?_
        refine oz_ 8 (some 26) (fun K hK => ?_)
        refine gz_ Try.func18 #[.agg #[.int .u8 ((rd_T29 l0 x5_1).f0), .int .u32 ((rd_T29 l0 x5_1).f1), .int .u32 ((rd_T29 l0 x5_1).f2.f0), .int .u32 ((rd_T29 l0 x5_1).f2.f1), .int .u32 ((rd_T29 l0 x5_1).f2.f2), .int .i64 ((rd_T29 l0 x5_1).f2.f3), .int .u32 ((rd_T29 l0 x5_1).f2.f4), .slice A580_7 ((rd_T29 l0 x5_1).f2.f5).length c580_7, .int .i64 ((rd_T29 l0 x5_1).f3), .bool ((rd_T29 l0 x5_1).f4), .slice A580_10 ((rd_T29 l0 x5_1).f5).length c580_10], .agg #[.int .u8 ((rd_T29 l1 x5_1).f0), .int .u32 ((rd_T29 l1 x5_1).f1), .int .u32 ((rd_T29 l1 x5_1).f2.f0), .int .u32 ((rd_T29 l1 x5_1).f2.f1), .int .u32 ((rd_T29 l1 x5_1).f2.f2), .int .i64 ((rd_T29 l1 x5_1).f2.f3), .int .u32 ((rd_T29 l1 x5_1).f2.f4), .slice A581_7 ((rd_T29 l1 x5_1).f2.f5).length c581_7, .int .i64 ((rd_T29 l1 x5_1).f3), .bool ((rd_T29 l1 x5_1).f4), .slice A581_10 ((rd_T29 l1 x5_1).f5).length c581_10]] ?_
        with_reducible refine (stolonref16_Same.calls k1 ((rd_T29 l0 x5_1).f0) ((rd_T29 l0 x5_1).f1) ((rd_T29 l0 x5_1).f2.f0) ((rd_T29 l0 x5_1).f2.f1) ((rd_T29 l0 x5_1).f2.f2) ((rd_T29 l0 x5_1).f2.f3) ((rd_T29 l0 x5_1).f2.f4) _ _ ((rd_T29 l0 x5_1).f2.f5) ((rd_T29 l0 x5_1).f3) ((rd_T29 l0 x5_1).f4) _ _ ((rd_T29 l0 x5_1).f5) ((rd_T29 l1 x5_1).f0) ((rd_T29 l1 x5_1).f1) ((rd_T29 l1 x5_1).f2.f0) ((rd_T29 l1 x5_1).f2.f1) ((rd_T29 l1 x5_1).f2.f2) ((rd_T29 l1 x5_1).f2.f3) ((rd_T29 l1 x5_1).f2.f4) _ _ ((rd_T29 l1 x5_1).f2.f5) ((rd_T29 l1 x5_1).f3) ((rd_T29 l1 x5_1).f4) _ _ ((rd_T29 l1 x5_1).f5) true _ ?side1 ?side2 ?side3 ?side4 ?side5 ?side6 ?side7 ?side8 A7.out).mono ?_
        (case side1 => exact Cd_ (Kd.C_below HR580_7.out HB.out))
        (case side2 => exact HC580_7.out)
        (case side3 => exact Cd_ (Kd.C_below HR580_10.out HB.out))
        (case side4 => exact HC580_10.out)
        (case side5 => exact Cd_ (Kd.C_below HR581_7.out HB.out))
        (case side6 => exact HC581_7.out)
        (case side7 => exact Cd_ (Kd.C_below HR581_10.out HB.out))
        (case side8 => exact HC581_10.out)
        rintro e w10 ⟨rfl, hb⟩
        refine ⟨_, rfl, ?_⟩
        replace HB := m_ (below_step bz_ hb)
        (try clear hb)
        (try clear hb2)
        (try clear hk)
        (try clear hi)
        refine hK.out _ _ ⟨(kp_ HB.out hw580_0), (kp_ HB.out hw580_1), (kp_ HB.out hw580_2), (kp_ HB.out hw580_3), (kp_ HB.out hw580_4), (kp_ HB.out hw580_5), (kp_ HB.out hw580_6), (kp_ HB.out hw580_7), (kp_ HB.out hw580_8), (kp_ HB.out hw580_9), (kp_ HB.out hw580_10), (kp_ HB.out hw581_0), (kp_ HB.out hw581_1), (kp_ HB.out hw581_2), (kp_ HB.out hw581_3), (kp_ HB.out hw581_4), (kp_ HB.out hw581_5), (kp_ HB.out hw581_6), (kp_ HB.out hw581_7), (kp_ HB.out hw581_8), (kp_ HB.out hw581_9), (kp_ HB.out hw581_10)⟩ (fun hHeld => ?_)
        clear hK K
        refine nz_ (some 26) ?_
        refine pz_ 9 6 ?_
        refine dz_ ?_
        try go_wp2
        go_roundg k1
        case measure => have := HK1.out; omega
        case rel => exact ⟨(wrap64 (x5_1 + 1)), (by first | rfl | (simp; done) | (simp [*]; done)), H', ⟨by have := HK1.out; omega⟩, ⟨bz_⟩⟩
       ·replace c8 := Bool.eq_false_iff.mpr c8
        subst c8
        have H1 : (some false) = some r := by rw [if_neg (show ¬ (false = true) by decide)] at H; exact H
        clear H
        have H := H1
        clear H1
        obtain rfl := Option.some.inj H
        try go_wp2
        replace HB := m_ (below_drew1 HB.out)
        have p580 : 0 ≤ (x5_1 : Int) := od_
        have q580 : x5_1 < (l0.length : Int) := od_
        obtain ⟨ad580, A580_7, c580_7, A580_10, c580_10, e580, hx580_0, hx580_1, hx580_2, hx580_3, hx580_4, hx580_5, hx580_6, hx580_7, hx580_8, hx580_9, hx580_10, hl580_7, hi580_7, hl580_10, hi580_10⟩ := at_T29 HR0.out x5_1 p580 q580
        have hw580_10 := hx580_10
        have hw580_9 := hx580_9
        have hw580_8 := hx580_8
        have hw580_7 := hx580_7
        have hw580_6 := hx580_6
        have hw580_5 := hx580_5
        have hw580_4 := hx580_4
        have hw580_3 := hx580_3
        have hw580_2 := hx580_2
        have hw580_1 := hx580_1
        have hw580_0 := hx580_0
        cases e580
        replace hx580_0 := kp_ HB.out hx580_0
        replace hx580_1 := kp_ HB.out hx580_1
        replace hx580_2 := kp_ HB.out hx580_2
        replace hx580_3 := kp_ HB.out hx580_3
        replace hx580_4 := kp_ HB.out hx580_4
        replace hx580_5 := kp_ HB.out hx580_5
        replace hx580_6 := kp_ HB.out hx580_6
        replace hx580_7 := kp_ HB.out hx580_7
        replace hx580_8 := kp_ HB.out hx580_8
        replace hx580_9 := kp_ HB.out hx580_9
        replace hx580_10 := kp_ HB.out hx580_10
        have HR580_7 := m_ hi580_7
        have HC580_7 := m_ hl580_7
        clear hi580_7 hl580_7
        have HR580_10 := m_ hi580_10
        have HC580_10 := m_ hl580_10
        clear hi580_10 hl580_10
        replace p580 := eq_true p580
        replace q580 := eq_true q580
        have p581 : 0 ≤ (x5_1 : Int) := od_
        have q581 : x5_1 < (l1.length : Int) := od_
        obtain ⟨ad581, A581_7, c581_7, A581_10, c581_10, e581, hx581_0, hx581_1, hx581_2, hx581_3, hx581_4, hx581_5, hx581_6, hx581_7, hx581_8, hx581_9, hx581_10, hl581_7, hi581_7, hl581_10, hi581_10⟩ := at_T29 HR1.out x5_1 p581 q581
        have hw581_10 := hx581_10
        have hw581_9 := hx581_9
        have hw581_8 := hx581_8
        have hw581_7 := hx581_7
        have hw581_6 := hx581_6
        have hw581_5 := hx581_5
        have hw581_4 := hx581_4
        have hw581_3 := hx581_3
        have hw581_2 := hx581_2
        have hw581_1 := hx581_1
        have hw581_0 := hx581_0
        cases e581
        replace hx581_0 := kp_ HB.out hx581_0
        replace hx581_1 := kp_ HB.out hx581_1
        replace hx581_2 := kp_ HB.out hx581_2
        replace hx581_3 := kp_ HB.out hx581_3
        replace hx581_4 := kp_ HB.out hx581_4
        replace hx581_5 := kp_ HB.out hx581_5
        replace hx581_6 := kp_ HB.out hx581_6
        replace hx581_7 := kp_ HB.out hx581_7
        replace hx581_8 := kp_ HB.out hx581_8
        replace hx581_9 := kp_ HB.out hx581_9
        replace hx581_10 := kp_ HB.out hx581_10
        have HR581_7 := m_ hi581_7
        have HC581_7 := m_ hl581_7
        clear hi581_7 hl581_7
        have HR581_10 := m_ hi581_10
        have HC581_10 := m_ hl581_10
        clear hi581_10 hl581_10
        replace p581 := eq_true p581
        replace q581 := eq_true q581
        refine start_ (n := 10) (S := fun w' => w'.cell? (ad580.add ((x5_1).toNat * 11)) = some (.int .u8 ((rd_T29 l0 x5_1).f0)) ∧ w'.cell? ⟨(ad580.add ((x5_1).toNat * 11)).block, (ad580.add ((x5_1).toNat * 11)).off + 1, none⟩ = some (.int .u32 ((rd_T29 l0 x5_1).f1)) ∧ w'.cell? ⟨(ad580.add ((x5_1).toNat * 11)).block, (ad580.add ((x5_1).toNat * 11)).off + 2, none⟩ = some (.int .u32 ((rd_T29 l0 x5_1).f2.f0)) ∧ w'.cell? ⟨(ad580.add ((x5_1).toNat * 11)).block, (ad580.add ((x5_1).toNat * 11)).off + 3, none⟩ = some (.int .u32 ((rd_T29 l0 x5_1).f2.f1)) ∧ w'.cell? ⟨(ad580.add ((x5_1).toNat * 11)).block, (ad580.add ((x5_1).toNat * 11)).off + 4, none⟩ = some (.int .u32 ((rd_T29 l0 x5_1).f2.f2)) ∧ w'.cell? ⟨(ad580.add ((x5_1).toNat * 11)).block, (ad580.add ((x5_1).toNat * 11)).off + 5, none⟩ = some (.int .i64 ((rd_T29 l0 x5_1).f2.f3)) ∧ w'.cell? ⟨(ad580.add ((x5_1).toNat * 11)).block, (ad580.add ((x5_1).toNat * 11)).off + 6, none⟩ = some (.int .u32 ((rd_T29 l0 x5_1).f2.f4)) ∧ w'.cell? ⟨(ad580.add ((x5_1).toNat * 11)).block, (ad580.add ((x5_1).toNat * 11)).off + 7, none⟩ = some (.slice A580_7 ((rd_T29 l0 x5_1).f2.f5).length c580_7) ∧ w'.cell? ⟨(ad580.add ((x5_1).toNat * 11)).block, (ad580.add ((x5_1).toNat * 11)).off + 8, none⟩ = some (.int .i64 ((rd_T29 l0 x5_1).f3)) ∧ w'.cell? ⟨(ad580.add ((x5_1).toNat * 11)).block, (ad580.add ((x5_1).toNat * 11)).off + 9, none⟩ = some (.bool ((rd_T29 l0 x5_1).f4)) ∧ w'.cell? ⟨(ad580.add ((x5_1).toNat * 11)).block, (ad580.add ((x5_1).toNat * 11)).off + 10, none⟩ = some (.slice A580_10 ((rd_T29 l0 x5_1).f5).length c580_10) ∧ w'.cell? (ad581.add ((x5_1).toNat * 11)) = some (.int .u8 ((rd_T29 l1 x5_1).f0)) ∧ w'.cell? ⟨(ad581.add ((x5_1).toNat * 11)).block, (ad581.add ((x5_1).toNat * 11)).off + 1, none⟩ = some (.int .u32 ((rd_T29 l1 x5_1).f1)) ∧ w'.cell? ⟨(ad581.add ((x5_1).toNat * 11)).block, (ad581.add ((x5_1).toNat * 11)).off + 2, none⟩ = some (.int .u32 ((rd_T29 l1 x5_1).f2.f0)) ∧ w'.cell? ⟨(ad581.add ((x5_1).toNat * 11)).block, (ad581.add ((x5_1).toNat * 11)).off + 3, none⟩ = some (.int .u32 ((rd_T29 l1 x5_1).f2.f1)) ∧ w'.cell? ⟨(ad581.add ((x5_1).toNat * 11)).block, (ad581.add ((x5_1).toNat * 11)).off + 4, none⟩ = some (.int .u32 ((rd_T29 l1 x5_1).f2.f2)) ∧ w'.cell? ⟨(ad581.add ((x5_1).toNat * 11)).block, (ad581.add ((x5_1).toNat * 11)).off + 5, none⟩ = some (.int .i64 ((rd_T29 l1 x5_1).f2.f3)) ∧ w'.cell? ⟨(ad581.add ((x5_1).toNat * 11)).block, (ad581.add ((x5_1).toNat * 11)).off + 6, none⟩ = some (.int .u32 ((rd_T29 l1 x5_1).f2.f4)) ∧ w'.cell? ⟨(ad581.add ((x5_1).toNat * 11)).block, (ad581.add ((x5_1).toNat * 11)).off + 7, none⟩ = some (.slice A581_7 ((rd_T29 l1 x5_1).f2.f5).length c581_7) ∧ w'.cell? ⟨(ad581.add ((x5_1).toNat * 11)).block, (ad581.add ((x5_1).toNat * 11)).off + 8, none⟩ = some (.int .i64 ((rd_T29 l1 x5_1).f3)) ∧ w'.cell? ⟨(ad581.add ((x5_1).toNat * 11)).block, (ad581.add ((x5_1).toNat * 11)).off + 9, none⟩ = some (.bool ((rd_T29 l1 x5_1).f4)) ∧ w'.cell? ⟨(ad581.add ((x5_1).toNat * 11)).block, (ad581.add ((x5_1).toNat * 11)).off + 10, none⟩ = some (.slice A581_10 ((rd_T29 l1 x5_1).f5).length c581_10)) (ds := []) (bs_ 10 0) (by kernel_rfl) rfl rfl ⟨(kp_ HB.out hw580_0), (kp_ HB.out hw580_1), (kp_ HB.out hw580_2), (kp_ HB.out hw580_3), (kp_ HB.out hw580_4), (kp_ HB.out hw580_5), (kp_ HB.out hw580_6), (kp_ HB.out hw580_7), (kp_ HB.out hw580_8), (kp_ HB.out hw580_9), (kp_ HB.out hw580_10), (kp_ HB.out hw581_0), (kp_ HB.out hw581_1), (kp_ HB.out hw581_2), (kp_ HB.out hw581_3), (kp_ HB.out hw581_4), (kp_ HB.out hw581_5), (kp_ HB.out hw581_6), (kp_ HB.out hw581_7), (kp_ HB.out hw581_8), (kp_ HB.out hw581_9), (kp_ HB.out hw581_10)⟩ (fun hHeld => ?_); refine with_tabW stolonref16_Msgs.tab6 stolonref16_Msgs.bits6 (fun HT_ HW_ => ?_)
        generalize wr.drew = w11 at HB HR580_10 HR580_7 HR581_10 HR581_7 hx580_0 hx580_1 hx580_10 hx580_2 hx580_3 hx580_4 hx580_5 hx580_6 hx580_7 hx580_8 hx580_9 hx581_0 hx581_1 hx581_10 hx581_2 hx581_3 hx581_4 hx581_5 hx581_6 hx581_7 hx581_8 hx581_9 hHeld ⊢
        refine pz_ 0 18 ?_
        refine pz_ 1 19 ?_
        refine pz_ 2 20 ?_
        refine pz_ 4 22 ?_
        refine pz_ 5 23 ?_
        refine pz_ 6 24 ?_
        refine tz_ 3 21 ?_
        refine tz_ 7 25 ?_
        refine oz_ 8 (some 26) (fun K hK => ?_)
        refine gz_ Try.func18 #[.agg #[.int .u8 ((rd_T29 l0 x5_1).f0), .int .u32 ((rd_T29 l0 x5_1).f1), .int .u32 ((rd_T29 l0 x5_1).f2.f0), .int .u32 ((rd_T29 l0 x5_1).f2.f1), .int .u32 ((rd_T29 l0 x5_1).f2.f2), .int .i64 ((rd_T29 l0 x5_1).f2.f3), .int .u32 ((rd_T29 l0 x5_1).f2.f4), .slice A580_7 ((rd_T29 l0 x5_1).f2.f5).length c580_7, .int .i64 ((rd_T29 l0 x5_1).f3), .bool ((rd_T29 l0 x5_1).f4), .slice A580_10 ((rd_T29 l0 x5_1).f5).length c580_10], .agg #[.int .u8 ((rd_T29 l1 x5_1).f0), .int .u32 ((rd_T29 l1 x5_1).f1), .int .u32 ((rd_T29 l1 x5_1).f2.f0), .int .u32 ((rd_T29 l1 x5_1).f2.f1), .int .u32 ((rd_T29 l1 x5_1).f2.f2), .int .i64 ((rd_T29 l1 x5_1).f2.f3), .int .u32 ((rd_T29 l1 x5_1).f2.f4), .slice A581_7 ((rd_T29 l1 x5_1).f2.f5).length c581_7, .int .i64 ((rd_T29 l1 x5_1).f3), .bool ((rd_T29 l1 x5_1).f4), .slice A581_10 ((rd_T29 l1 x5_1).f5).length c581_10]] ?_
        with_reducible refine (stolonref16_Same.calls k1 ((rd_T29 l0 x5_1).f0) ((rd_T29 l0 x5_1).f1) ((rd_T29 l0 x5_1).f2.f0) ((rd_T29 l0 x5_1).f2.f1) ((rd_T29 l0 x5_1).f2.f2) ((rd_T29 l0 x5_1).f2.f3) ((rd_T29 l0 x5_1).f2.f4) _ _ ((rd_T29 l0 x5_1).f2.f5) ((rd_T29 l0 x5_1).f3) ((rd_T29 l0 x5_1).f4) _ _ ((rd_T29 l0 x5_1).f5) ((rd_T29 l1 x5_1).f0) ((rd_T29 l1 x5_1).f1) ((rd_T29 l1 x5_1).f2.f0) ((rd_T29 l1 x5_1).f2.f1) ((rd_T29 l1 x5_1).f2.f2) ((rd_T29 l1 x5_1).f2.f3) ((rd_T29 l1 x5_1).f2.f4) _ _ ((rd_T29 l1 x5_1).f2.f5) ((rd_T29 l1 x5_1).f3) ((rd_T29 l1 x5_1).f4) _ _ ((rd_T29 l1 x5_1).f5) false _ ?side1 ?side2 ?side3 ?side4 ?side5 ?side6 ?side7 ?side8 A7.out).mono ?_
        (case side1 => exact Cd_ (Kd.C_below HR580_7.out HB.out))
        (case side2 => exact HC580_7.out)
        (case side3 => exact Cd_ (Kd.C_below HR580_10.out HB.out))
        (case side4 => exact HC580_10.out)
        (case side5 => exact Cd_ (Kd.C_below HR581_7.out HB.out))
        (case side6 => exact HC581_7.out)
        (case side7 => exact Cd_ (Kd.C_below HR581_10.out HB.out))
        (case side8 => exact HC581_10.out)
        rintro e w12 ⟨rfl, hb⟩
        refine ⟨_, rfl, ?_⟩
        replace HB := m_ (below_step bz_ hb)
        (try clear hb)
        (try clear hb2)
        (try clear hk)
        (try clear hi)
        refine hK.out _ _ ⟨(kp_ HB.out hw580_0), (kp_ HB.out hw580_1), (kp_ HB.out hw580_2), (kp_ HB.out hw580_3), (kp_ HB.out hw580_4), (kp_ HB.out hw580_5), (kp_ HB.out hw580_6), (kp_ HB.out hw580_7), (kp_ HB.out hw580_8), (kp_ HB.out hw580_9), (kp_ HB.out hw580_10), (kp_ HB.out hw581_0), (kp_ HB.out hw581_1), (kp_ HB.out hw581_2), (kp_ HB.out hw581_3), (kp_ HB.out hw581_4), (kp_ HB.out hw581_5), (kp_ HB.out hw581_6), (kp_ HB.out hw581_7), (kp_ HB.out hw581_8), (kp_ HB.out hw581_9), (kp_ HB.out hw581_10)⟩ (fun hHeld => ?_)
        clear hK K
        refine nz_ (some 26) ?_
        refine pz_ 9 6 ?_
        refine dz_ ?_
        try go_wp2
        go_ret
        exact ⟨ew_, bz_⟩
      ·rw [if_neg c6] at H
       exact absurd H (by simp)
     ·rw [if_neg c5] at H
      exact absurd H (by simp)
    ·rw [if_neg c4] at H
     have c4b0 : decide (x5_1 < (l0.length : Int)) = false := decide_eq_false c4
     clear c4
     obtain rfl := Option.some.inj H
     go_wp2
     go_ret
     exact ⟨ew_, bz_⟩
 ·rw [if_neg c3] at H
  have c3b0 : ((l0.length : Int) == (l1.length : Int)) = false := beq_eq_false_iff_ne.mpr c3
  have c3b1 : ((l0.length : Int) != (l1.length : Int)) = true := bne_iff_ne.mpr c3
  have c3b2 : (l0.length == l1.length) = false := by first | simpa using c3 | (simp at c3 ⊢; omega)
  obtain rfl := Option.some.inj H
  go_enter Try.func23, Try.ntmps23
  go_wp2
  go_ret
  exact ⟨ew_, bz_⟩
end Go.Proofs.Ytboonfidioombaa.P

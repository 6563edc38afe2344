/- For each Go function a Lean function, and the proof that a call comes to what it tells: made by program out of the translation (the kit's print, with texts by hand put in). No condition. -/
import Derived.Test.YtfomnmdjbdohgaaSq
import Derived.Test.YtfomnmdjbdohgaaPx0
import Derived.Test.YtfomnmdjbdohgaaPx28
namespace Go.Proofs.Ytfomnmdjbdohgaa.P
open Go.RowKit Go.Proofs.Ytfomnmdjbdohgaa.HRows Go.Proofs.YtfomnmdjbdohgaaW.PrintWords Go.Proofs.YtfomnmdjbdohgaaW.PrintLast Go.Proofs.YtfomnmdjbdohgaaW.PrintMore
attribute [local go_sem] max2_int min2_int max_two min_two max_three min_three max_four min_four
set_option linter.unusedVariables false
set_option linter.unusedSimpArgs false
def stolonref16_Msgs.l0 : Nat → List (S32) → List (S32) → Int → Option (Bool)
 | 0, _, _, _ => none
 | k + 1, x0, x1, x5 => if x5 < (x0.length : Int) then (if 0 ≤ x5 then (if x5 < (x1.length : Int) then ((stolonref16_Same.f k ((rd_T32 x0 x5).f0) ((rd_T32 x0 x5).f1) ((rd_T32 x0 x5).f2.f0) ((rd_T32 x0 x5).f2.f1) ((rd_T32 x0 x5).f2.f2) ((rd_T32 x0 x5).f2.f3) ((rd_T32 x0 x5).f2.f4) ((rd_T32 x0 x5).f2.f5) ((rd_T32 x0 x5).f3) ((rd_T32 x0 x5).f4) ((rd_T32 x0 x5).f5) ((rd_T32 x1 x5).f0) ((rd_T32 x1 x5).f1) ((rd_T32 x1 x5).f2.f0) ((rd_T32 x1 x5).f2.f1) ((rd_T32 x1 x5).f2.f2) ((rd_T32 x1 x5).f2.f3) ((rd_T32 x1 x5).f2.f4) ((rd_T32 x1 x5).f2.f5) ((rd_T32 x1 x5).f3) ((rd_T32 x1 x5).f4) ((rd_T32 x1 x5).f5)).bind fun t302 => (if t302 = true then (stolonref16_Msgs.l0 k x0 x1 (wrap64 (x5 + 1))) else (some false))) else (none)) else (none)) else (some true)
def stolonref16_Msgs.f (k : Nat) (l0 : List (S32)) (l1 : List (S32)) : Option (Bool) := if (l0.length : Int) = (l1.length : Int) then (stolonref16_Msgs.l0 k l0 l1 0) else (some false)
def stolonref16_Msgs.T6 : Bool × List (List Nat × List Nat) := (true, [([], []), ([], []), ([0, 1], [0, 1]), ([2], [2]), ([], []), ([], []), ([4, 5], [4, 5]), ([6], [6]), ([3, 7], [3, 7]), ([8, 8, 0, 1, 2, 3, 4, 5, 6, 7, 8], [8])])
def stolonref16_Msgs.B6 : List Nat := [0, 0, 3, 7, 0, 0, 48, 112, 255, 511]
theorem stolonref16_Msgs.tab6 : rtab .any (opsOf Try.f18 6) = stolonref16_Msgs.T6 := by kernel_rfl
theorem stolonref16_Msgs.bits6 : waitsOk stolonref16_Msgs.T6.2 stolonref16_Msgs.B6 = true := by kernel_rfl
set_option maxHeartbeats 8000000 in
set_option maxRecDepth 100000 in
theorem stolonref16_Msgs.calls (k : Nat) (A0 : Option Addr) (c0 : Nat) (l0 : List (S32)) (A1 : Option Addr) (c1 : Nat) (l1 : List (S32)) (r : Bool) (w : World) (hr0 : Kd.C k32 w A0 l0.length l0) (hc0 : l0.length ≤ c0) (hr1 : Kd.C k32 w A1 l1.length l1) (hc1 : l1.length ≤ c1) (h : stolonref16_Msgs.f k l0 l1 = some r) :
  Calls Try.prog 18 #[.slice A0 l0.length c0, .slice A1 l1.length c1] w fun e w' => e = .returned (.bool r) ∧ Below w.heap.size w w' := by
 have hu32 := Try.underlying32
 have HR0 := m_ hr0
 have HC0 := m_ hc0
 clear hr0 hc0
 have HR1 := m_ hr1
 have HC1 := m_ hc1
 clear hr1 hc1
 have HB := m_ (Below.refl w.heap.size w)
 have H : (if (l0.length : Int) = (l1.length : Int) then (stolonref16_Msgs.l0 k l0 l1 0) else (some false)) = some r := h
 clear h
 by_cases c3 : (l0.length : Int) = (l1.length : Int)
 ·rw [if_pos c3] at H
  have c3b0 : ((l0.length : Int) == (l1.length : Int)) = true := beq_iff_eq.mpr c3
  have c3b1 : ((l0.length : Int) != (l1.length : Int)) = false := bne_eq_false_iff_eq.mpr c3
  have c3b2 : (l0.length == l1.length) = true := by first | simpa using c3 | (simp at c3 ⊢; omega)
  clear c3
  have H' := m_ H
  clear H
  go_enter Try.func18, Try.ntmps18
  go_wp2
  go_loopg [5] k (fun kq v5 w' => ∃ (x5_1 : Int), v5 = .int .i64 x5_1 ∧ Aside0 (stolonref16_Msgs.l0 kq l0 l1 x5_1 = some r) ∧ Aside0 (kq ≤ k) ∧ Aside0 (Below w.heap.size w w'))
  case atStart => exact ⟨(0), (by first | rfl | (simp; done) | (simp [*]; done)), H', ⟨Nat.le_refl _⟩, ⟨bz_⟩⟩
  case round =>
   clear H'
   try clear c1
   try clear p2
   try clear c3
   try clear c3b0
   try clear c3b1
   try clear c3b2
   obtain ⟨x5_1, rfl, HA, HK1, HB⟩ := hrel
   cases gk with
   | zero => exact absurd HA.out (by simp [stolonref16_Msgs.l0])
   | succ k1 =>
    have H := HA.out
    clear HA
    simp only [stolonref16_Msgs.l0] at H
    by_cases c4 : x5_1 < (l0.length : Int)
    ·rw [if_pos c4] at H
     have c4b0 : decide (x5_1 < (l0.length : Int)) = true := decide_eq_true c4
     clear c4
     by_cases c5 : 0 ≤ x5_1
     ·rw [if_pos c5] at H
      have c5b0 : decide (0 ≤ x5_1) = true := decide_eq_true c5
      clear c5
      by_cases c6 : x5_1 < (l1.length : Int)
      ·rw [if_pos c6] at H
       have c6b0 : decide (x5_1 < (l1.length : Int)) = true := decide_eq_true c6
       clear c6
       replace H := Option.bind_eq_some_iff.mp H
       obtain ⟨t302, A70, H⟩ := H
       replace H : (if t302 = true then (stolonref16_Msgs.l0 k1 l0 l1 (wrap64 (x5_1 + 1))) else (some false)) = some r := H
       have A7 := m_ A70
       clear A70
       by_cases c8 : t302 = true
       ·subst c8
        have H1 : (stolonref16_Msgs.l0 k1 l0 l1 (wrap64 (x5_1 + 1))) = some r := by rw [if_pos rfl] at H; exact H
        clear H
        have H := H1
        clear H1
        have H' := m_ H
        clear H
        try go_wp2
        replace HB := m_ (below_drew1 HB.out)
        have p300 : 0 ≤ (x5_1 : Int) := od_
        have q300 : x5_1 < (l0.length : Int) := od_
        obtain ⟨ad300, A300_7, c300_7, A300_10, c300_10, e300, hx300_0, hx300_1, hx300_2, hx300_3, hx300_4, hx300_5, hx300_6, hx300_7, hx300_8, hx300_9, hx300_10, hl300_7, hi300_7, hl300_10, hi300_10⟩ := at_T32 HR0.out x5_1 p300 q300
        have hw300_10 := hx300_10
        have hw300_9 := hx300_9
        have hw300_8 := hx300_8
        have hw300_7 := hx300_7
        have hw300_6 := hx300_6
        have hw300_5 := hx300_5
        have hw300_4 := hx300_4
        have hw300_3 := hx300_3
        have hw300_2 := hx300_2
        have hw300_1 := hx300_1
        have hw300_0 := hx300_0
        cases e300
        replace hx300_0 := kp_ HB.out hx300_0
        replace hx300_1 := kp_ HB.out hx300_1
        replace hx300_2 := kp_ HB.out hx300_2
        replace hx300_3 := kp_ HB.out hx300_3
        replace hx300_4 := kp_ HB.out hx300_4
        replace hx300_5 := kp_ HB.out hx300_5
        replace hx300_6 := kp_ HB.out hx300_6
        replace hx300_7 := kp_ HB.out hx300_7
        replace hx300_8 := kp_ HB.out hx300_8
        replace hx300_9 := kp_ HB.out hx300_9
        replace hx300_10 := kp_ HB.out hx300_10
        have HR300_7 := m_ hi300_7
        have HC300_7 := m_ hl300_7
        clear hi300_7 hl300_7
        have HR300_10 := m_ hi300_10
        have HC300_10 := m_ hl300_10
        clear hi300_10 hl300_10
        replace p300 := eq_true p300
        replace q300 := eq_true q300
        have p301 : 0 ≤ (x5_1 : Int) := od_
        have q301 : x5_1 < (l1.length : Int) := od_
        obtain ⟨ad301, A301_7, c301_7, A301_10, c301_10, e301, hx301_0, hx301_1, hx301_2, hx301_3, hx301_4, hx301_5, hx301_6, hx301_7, hx301_8, hx301_9, hx301_10, hl301_7, hi301_7, hl301_10, hi301_10⟩ := at_T32 HR1.out x5_1 p301 q301
        have hw301_10 := hx301_10
        have hw301_9 := hx301_9
        have hw301_8 := hx301_8
        have hw301_7 := hx301_7
        have hw301_6 := hx301_6
        have hw301_5 := hx301_5
        have hw301_4 := hx301_4
        have hw301_3 := hx301_3
        have hw301_2 := hx301_2
        have hw301_1 := hx301_1
        have hw301_0 := hx301_0
        cases e301
        replace hx301_0 := kp_ HB.out hx301_0
        replace hx301_1 := kp_ HB.out hx301_1
        replace hx301_2 := kp_ HB.out hx301_2
        replace hx301_3 := kp_ HB.out hx301_3
        replace hx301_4 := kp_ HB.out hx301_4
        replace hx301_5 := kp_ HB.out hx301_5
        replace hx301_6 := kp_ HB.out hx301_6
        replace hx301_7 := kp_ HB.out hx301_7
        replace hx301_8 := kp_ HB.out hx301_8
        replace hx301_9 := kp_ HB.out hx301_9
        replace hx301_10 := kp_ HB.out hx301_10
        have HR301_7 := m_ hi301_7
        have HC301_7 := m_ hl301_7
        clear hi301_7 hl301_7
        have HR301_10 := m_ hi301_10
        have HC301_10 := m_ hl301_10
        clear hi301_10 hl301_10
        replace p301 := eq_true p301
        replace q301 := eq_true q301
        refine start_ (n := 10) (S := fun w' => w'.cell? (ad300.add ((x5_1).toNat * 11)) = some (.int .u8 ((rd_T32 l0 x5_1).f0)) ∧ w'.cell? ⟨(ad300.add ((x5_1).toNat * 11)).block, (ad300.add ((x5_1).toNat * 11)).off + 1, none⟩ = some (.int .u32 ((rd_T32 l0 x5_1).f1)) ∧ w'.cell? ⟨(ad300.add ((x5_1).toNat * 11)).block, (ad300.add ((x5_1).toNat * 11)).off + 2, none⟩ = some (.int .u32 ((rd_T32 l0 x5_1).f2.f0)) ∧ w'.cell? ⟨(ad300.add ((x5_1).toNat * 11)).block, (ad300.add ((x5_1).toNat * 11)).off + 3, none⟩ = some (.int .u32 ((rd_T32 l0 x5_1).f2.f1)) ∧ w'.cell? ⟨(ad300.add ((x5_1).toNat * 11)).block, (ad300.add ((x5_1).toNat * 11)).off + 4, none⟩ = some (.int .u32 ((rd_T32 l0 x5_1).f2.f2)) ∧ w'.cell? ⟨(ad300.add ((x5_1).toNat * 11)).block, (ad300.add ((x5_1).toNat * 11)).off + 5, none⟩ = some (.int .i64 ((rd_T32 l0 x5_1).f2.f3)) ∧ w'.cell? ⟨(ad300.add ((x5_1).toNat * 11)).block, (ad300.add ((x5_1).toNat * 11)).off + 6, none⟩ = some (.int .u32 ((rd_T32 l0 x5_1).f2.f4)) ∧ w'.cell? ⟨(ad300.add ((x5_1).toNat * 11)).block, (ad300.add ((x5_1).toNat * 11)).off + 7, none⟩ = some (.slice A300_7 ((rd_T32 l0 x5_1).f2.f5).length c300_7) ∧ w'.cell? ⟨(ad300.add ((x5_1).toNat * 11)).block, (ad300.add ((x5_1).toNat * 11)).off + 8, none⟩ = some (.int .i64 ((rd_T32 l0 x5_1).f3)) ∧ w'.cell? ⟨(ad300.add ((x5_1).toNat * 11)).block, (ad300.add ((x5_1).toNat * 11)).off + 9, none⟩ = some (.bool ((rd_T32 l0 x5_1).f4)) ∧ w'.cell? ⟨(ad300.add ((x5_1).toNat * 11)).block, (ad300.add ((x5_1).toNat * 11)).off + 10, none⟩ = some (.slice A300_10 ((rd_T32 l0 x5_1).f5).length c300_10) ∧ w'.cell? (ad301.add ((x5_1).toNat * 11)) = some (.int .u8 ((rd_T32 l1 x5_1).f0)) ∧ w'.cell? ⟨(ad301.add ((x5_1).toNat * 11)).block, (ad301.add ((x5_1).toNat * 11)).off + 1, none⟩ = some (.int .u32 ((rd_T32 l1 x5_1).f1)) ∧ w'.cell? ⟨(ad301.add ((x5_1).toNat * 11)).block, (ad301.add ((x5_1).toNat * 11)).off + 2, none⟩ = some (.int .u32 ((rd_T32 l1 x5_1).f2.f0)) ∧ w'.cell? ⟨(ad301.add ((x5_1).toNat * 11)).block, (ad301.add ((x5_1).toNat * 11)).off + 3, none⟩ = some (.int .u32 ((rd_T32 l1 x5_1).f2.f1)) ∧ w'.cell? ⟨(ad301.add ((x5_1).toNat * 11)).block, (ad301.add ((x5_1).toNat * 11)).off + 4, none⟩ = some (.int .u32 ((rd_T32 l1 x5_1).f2.f2)) ∧ w'.cell? ⟨(ad301.add ((x5_1).toNat * 11)).block, (ad301.add ((x5_1).toNat * 11)).off + 5, none⟩ = some (.int .i64 ((rd_T32 l1 x5_1).f2.f3)) ∧ w'.cell? ⟨(ad301.add ((x5_1).toNat * 11)).block, (ad301.add ((x5_1).toNat * 11)).off + 6, none⟩ = some (.int .u32 ((rd_T32 l1 x5_1).f2.f4)) ∧ w'.cell? ⟨(ad301.add ((x5_1).toNat * 11)).block, (ad301.add ((x5_1).toNat * 11)).off + 7, none⟩ = some (.slice A301_7 ((rd_T32 l1 x5_1).f2.f5).length c301_7) ∧ w'.cell? ⟨(ad301.add ((x5_1).toNat * 11)).block, (ad301.add ((x5_1).toNat * 11)).off + 8, none⟩ = some (.int .i64 ((rd_T32 l1 x5_1).f3)) ∧ w'.cell? ⟨(ad301.add ((x5_1).toNat * 11)).block, (ad301.add ((x5_1).toNat * 11)).off + 9, none⟩ = some (.bool ((rd_T32 l1 x5_1).f4)) ∧ w'.cell? ⟨(ad301.add ((x5_1).toNat * 11)).block, (ad301.add ((x5_1).toNat * 11)).off + 10, none⟩ = some (.slice A301_10 ((rd_T32 l1 x5_1).f5).length c301_10)) (ds := []) (bs_ 10 0) (by kernel_rfl) rfl rfl ⟨(kp_ HB.out hw300_0), (kp_ HB.out hw300_1), (kp_ HB.out hw300_2), (kp_ HB.out hw300_3), (kp_ HB.out hw300_4), (kp_ HB.out hw300_5), (kp_ HB.out hw300_6), (kp_ HB.out hw300_7), (kp_ HB.out hw300_8), (kp_ HB.out hw300_9), (kp_ HB.out hw300_10), (kp_ HB.out hw301_0), (kp_ HB.out hw301_1), (kp_ HB.out hw301_2), (kp_ HB.out hw301_3), (kp_ HB.out hw301_4), (kp_ HB.out hw301_5), (kp_ HB.out hw301_6), (kp_ HB.out hw301_7), (kp_ HB.out hw301_8), (kp_ HB.out hw301_9), (kp_ HB.out hw301_10)⟩ (fun hHeld => ?_); refine with_tabW stolonref16_Msgs.tab6 stolonref16_Msgs.bits6 (fun HT_ HW_ => ?_)
        generalize wr.drew = w9 at HB HR300_10 HR300_7 HR301_10 HR301_7 hx300_0 hx300_1 hx300_10 hx300_2 hx300_3 hx300_4 hx300_5 hx300_6 hx300_7 hx300_8 hx300_9 hx301_0 hx301_1 hx301_10 hx301_2 hx301_3 hx301_4 hx301_5 hx301_6 hx301_7 hx301_8 hx301_9 hHeld ⊢
        refine pz_ 0 18 ?_
        refine pz_ 1 19 ?_
        refine pz_ 2 20 ?_
        refine pz_ 4 22 ?_
        refine pz_ 5 23 ?_
        refine pz_ 6 24 ?_
        refine tz_ 3 21 ?_
        refine tz_ 7 25 ?_
        refine oz_ 8 (some 26) (fun K hK => ?_)
        refine gz_ Try.func31 #[.agg #[.int .u8 ((rd_T32 l0 x5_1).f0), .int .u32 ((rd_T32 l0 x5_1).f1), .int .u32 ((rd_T32 l0 x5_1).f2.f0), .int .u32 ((rd_T32 l0 x5_1).f2.f1), .int .u32 ((rd_T32 l0 x5_1).f2.f2), .int .i64 ((rd_T32 l0 x5_1).f2.f3), .int .u32 ((rd_T32 l0 x5_1).f2.f4), .slice A300_7 ((rd_T32 l0 x5_1).f2.f5).length c300_7, .int .i64 ((rd_T32 l0 x5_1).f3), .bool ((rd_T32 l0 x5_1).f4), .slice A300_10 ((rd_T32 l0 x5_1).f5).length c300_10], .agg #[.int .u8 ((rd_T32 l1 x5_1).f0), .int .u32 ((rd_T32 l1 x5_1).f1), .int .u32 ((rd_T32 l1 x5_1).f2.f0), .int .u32 ((rd_T32 l1 x5_1).f2.f1), .int .u32 ((rd_T32 l1 x5_1).f2.f2), .int .i64 ((rd_T32 l1 x5_1).f2.f3), .int .u32 ((rd_T32 l1 x5_1).f2.f4), .slice A301_7 ((rd_T32 l1 x5_1).f2.f5).length c301_7, .int .i64 ((rd_T32 l1 x5_1).f3), .bool ((rd_T32 l1 x5_1).f4), .slice A301_10 ((rd_T32 l1 x5_1).f5).length c301_10]] ?_
        with_reducible refine (stolonref16_Same.calls k1 ((rd_T32 l0 x5_1).f0) ((rd_T32 l0 x5_1).f1) ((rd_T32 l0 x5_1).f2.f0) ((rd_T32 l0 x5_1).f2.f1) ((rd_T32 l0 x5_1).f2.f2) ((rd_T32 l0 x5_1).f2.f3) ((rd_T32 l0 x5_1).f2.f4) _ _ ((rd_T32 l0 x5_1).f2.f5) ((rd_T32 l0 x5_1).f3) ((rd_T32 l0 x5_1).f4) _ _ ((rd_T32 l0 x5_1).f5) ((rd_T32 l1 x5_1).f0) ((rd_T32 l1 x5_1).f1) ((rd_T32 l1 x5_1).f2.f0) ((rd_T32 l1 x5_1).f2.f1) ((rd_T32 l1 x5_1).f2.f2) ((rd_T32 l1 x5_1).f2.f3) ((rd_T32 l1 x5_1).f2.f4) _ _ ((rd_T32 l1 x5_1).f2.f5) ((rd_T32 l1 x5_1).f3) ((rd_T32 l1 x5_1).f4) _ _ ((rd_T32 l1 x5_1).f5) true _ ?side1 ?side2 ?side3 ?side4 ?side5 ?side6 ?side7 ?side8 A7.out).mono ?_
        (case side1 => exact Cd_ (Kd.C_below HR300_7.out HB.out))
        (case side2 => exact HC300_7.out)
        (case side3 => exact Cd_ (Kd.C_below HR300_10.out HB.out))
        (case side4 => exact HC300_10.out)
        (case side5 => exact Cd_ (Kd.C_below HR301_7.out HB.out))
        (case side6 => exact HC301_7.out)
        (case side7 => exact Cd_ (Kd.C_below HR301_10.out HB.out))
        (case side8 => exact HC301_10.out)
        rintro e w10 ⟨rfl, hb⟩
        refine ⟨_, rfl, ?_⟩
        replace HB := m_ (below_step bz_ hb)
        (try clear hb)
        (try clear hb2)
        (try clear hk)
        (try clear hi)
        refine hK.out _ _ ⟨(kp_ HB.out hw300_0), (kp_ HB.out hw300_1), (kp_ HB.out hw300_2), (kp_ HB.out hw300_3), (kp_ HB.out hw300_4), (kp_ HB.out hw300_5), (kp_ HB.out hw300_6), (kp_ HB.out hw300_7), (kp_ HB.out hw300_8), (kp_ HB.out hw300_9), (kp_ HB.out hw300_10), (kp_ HB.out hw301_0), (kp_ HB.out hw301_1), (kp_ HB.out hw301_2), (kp_ HB.out hw301_3), (kp_ HB.out hw301_4), (kp_ HB.out hw301_5), (kp_ HB.out hw301_6), (kp_ HB.out hw301_7), (kp_ HB.out hw301_8), (kp_ HB.out hw301_9), (kp_ HB.out hw301_10)⟩ (fun hHeld => ?_)
        clear hK K
        refine nz_ (some 26) ?_
        refine pz_ 9 6 ?_
        refine dz_ ?_
        try go_wp2
        go_roundg k1
        case measure => have := HK1.out; omega
        case rel => exact ⟨(wrap64 (x5_1 + 1)), (by first | rfl | (simp; done) | (simp [*]; done)), H', ⟨by have := HK1.out; omega⟩, ⟨bz_⟩⟩
       ·replace c8 := Bool.eq_false_iff.mpr c8
        subst c8
        have H1 : (some false) = some r := by rw [if_neg (show ¬ (false = true) by decide)] at H; exact H
        clear H
        have H := H1
        clear H1
        obtain rfl := Option.some.inj H
        try go_wp2
        replace HB := m_ (below_drew1 HB.out)
        have p300 : 0 ≤ (x5_1 : Int) := od_
        have q300 : x5_1 < (l0.length : Int) := od_
        obtain ⟨ad300, A300_7, c300_7, A300_10, c300_10, e300, hx300_0, hx300_1, hx300_2, hx300_3, hx300_4, hx300_5, hx300_6, hx300_7, hx300_8, hx300_9, hx300_10, hl300_7, hi300_7, hl300_10, hi300_10⟩ := at_T32 HR0.out x5_1 p300 q300
        have hw300_10 := hx300_10
        have hw300_9 := hx300_9
        have hw300_8 := hx300_8
        have hw300_7 := hx300_7
        have hw300_6 := hx300_6
        have hw300_5 := hx300_5
        have hw300_4 := hx300_4
        have hw300_3 := hx300_3
        have hw300_2 := hx300_2
        have hw300_1 := hx300_1
        have hw300_0 := hx300_0
        cases e300
        replace hx300_0 := kp_ HB.out hx300_0
        replace hx300_1 := kp_ HB.out hx300_1
        replace hx300_2 := kp_ HB.out hx300_2
        replace hx300_3 := kp_ HB.out hx300_3
        replace hx300_4 := kp_ HB.out hx300_4
        replace hx300_5 := kp_ HB.out hx300_5
        replace hx300_6 := kp_ HB.out hx300_6
        replace hx300_7 := kp_ HB.out hx300_7
        replace hx300_8 := kp_ HB.out hx300_8
        replace hx300_9 := kp_ HB.out hx300_9
        replace hx300_10 := kp_ HB.out hx300_10
        have HR300_7 := m_ hi300_7
        have HC300_7 := m_ hl300_7
        clear hi300_7 hl300_7
        have HR300_10 := m_ hi300_10
        have HC300_10 := m_ hl300_10
        clear hi300_10 hl300_10
        replace p300 := eq_true p300
        replace q300 := eq_true q300
        have p301 : 0 ≤ (x5_1 : Int) := od_
        have q301 : x5_1 < (l1.length : Int) := od_
        obtain ⟨ad301, A301_7, c301_7, A301_10, c301_10, e301, hx301_0, hx301_1, hx301_2, hx301_3, hx301_4, hx301_5, hx301_6, hx301_7, hx301_8, hx301_9, hx301_10, hl301_7, hi301_7, hl301_10, hi301_10⟩ := at_T32 HR1.out x5_1 p301 q301
        have hw301_10 := hx301_10
        have hw301_9 := hx301_9
        have hw301_8 := hx301_8
        have hw301_7 := hx301_7
        have hw301_6 := hx301_6
        have hw301_5 := hx301_5
        have hw301_4 := hx301_4
        have hw301_3 := hx301_3
        have hw301_2 := hx301_2
        have hw301_1 := hx301_1
        have hw301_0 := hx301_0
        cases e301
        replace hx301_0 := kp_ HB.out hx301_0
        replace hx301_1 := kp_ HB.out hx301_1
        replace hx301_2 := kp_ HB.out hx301_2
        replace hx301_3 := kp_ HB.out hx301_3
        replace hx301_4 := kp_ HB.out hx301_4
        replace hx301_5 := kp_ HB.out hx301_5
        replace hx301_6 := kp_ HB.out hx301_6
        replace hx301_7 := kp_ HB.out hx301_7
        replace hx301_8 := kp_ HB.out hx301_8
        replace hx301_9 := kp_ HB.out hx301_9
        replace hx301_10 := kp_ HB.out hx301_10
        have HR301_7 := m_ hi301_7
        have HC301_7 := m_ hl301_7
        clear hi301_7 hl301_7
        have HR301_10 := m_ hi301_10
        have HC301_10 := m_ hl301_10
        clear hi301_10 hl301_10
        replace p301 := eq_true p301
        replace q301 := eq_true q301
        refine start_ (n := 10) (S := fun w' => w'.cell? (ad300.add ((x5_1).toNat * 11)) = some (.int .u8 ((rd_T32 l0 x5_1).f0)) ∧ w'.cell? ⟨(ad300.add ((x5_1).toNat * 11)).block, (ad300.add ((x5_1).toNat * 11)).off + 1, none⟩ = some (.int .u32 ((rd_T32 l0 x5_1).f1)) ∧ w'.cell? ⟨(ad300.add ((x5_1).toNat * 11)).block, (ad300.add ((x5_1).toNat * 11)).off + 2, none⟩ = some (.int .u32 ((rd_T32 l0 x5_1).f2.f0)) ∧ w'.cell? ⟨(ad300.add ((x5_1).toNat * 11)).block, (ad300.add ((x5_1).toNat * 11)).off + 3, none⟩ = some (.int .u32 ((rd_T32 l0 x5_1).f2.f1)) ∧ w'.cell? ⟨(ad300.add ((x5_1).toNat * 11)).block, (ad300.add ((x5_1).toNat * 11)).off + 4, none⟩ = some (.int .u32 ((rd_T32 l0 x5_1).f2.f2)) ∧ w'.cell? ⟨(ad300.add ((x5_1).toNat * 11)).block, (ad300.add ((x5_1).toNat * 11)).off + 5, none⟩ = some (.int .i64 ((rd_T32 l0 x5_1).f2.f3)) ∧ w'.cell? ⟨(ad300.add ((x5_1).toNat * 11)).block, (ad300.add ((x5_1).toNat * 11)).off + 6, none⟩ = some (.int .u32 ((rd_T32 l0 x5_1).f2.f4)) ∧ w'.cell? ⟨(ad300.add ((x5_1).toNat * 11)).block, (ad300.add ((x5_1).toNat * 11)).off + 7, none⟩ = some (.slice A300_7 ((rd_T32 l0 x5_1).f2.f5).length c300_7) ∧ w'.cell? ⟨(ad300.add ((x5_1).toNat * 11)).block, (ad300.add ((x5_1).toNat * 11)).off + 8, none⟩ = some (.int .i64 ((rd_T32 l0 x5_1).f3)) ∧ w'.cell? ⟨(ad300.add ((x5_1).toNat * 11)).block, (ad300.add ((x5_1).toNat * 11)).off + 9, none⟩ = some (.bool ((rd_T32 l0 x5_1).f4)) ∧ w'.cell? ⟨(ad300.add ((x5_1).toNat * 11)).block, (ad300.add ((x5_1).toNat * 11)).off + 10, none⟩ = some (.slice A300_10 ((rd_T32 l0 x5_1).f5).length c300_10) ∧ w'.cell? (ad301.add ((x5_1).toNat * 11)) = some (.int .u8 ((rd_T32 l1 x5_1).f0)) ∧ w'.cell? ⟨(ad301.add ((x5_1).toNat * 11)).block, (ad301.add ((x5_1).toNat * 11)).off + 1, none⟩ = some (.int .u32 ((rd_T32 l1 x5_1).f1)) ∧ w'.cell? ⟨(ad301.add ((x5_1).toNat * 11)).block, (ad301.add ((x5_1).toNat * 11)).off + 2, none⟩ = some (.int .u32 ((rd_T32 l1 x5_1).f2.f0)) ∧ w'.cell? ⟨(ad301.add ((x5_1).toNat * 11)).block, (ad301.add ((x5_1).toNat * 11)).off + 3, none⟩ = some (.int .u32 ((rd_T32 l1 x5_1).f2.f1)) ∧ w'.cell? ⟨(ad301.add ((x5_1).toNat * 11)).block, (ad301.add ((x5_1).toNat * 11)).off + 4, none⟩ = some (.int .u32 ((rd_T32 l1 x5_1).f2.f2)) ∧ w'.cell? ⟨(ad301.add ((x5_1).toNat * 11)).block, (ad301.add ((x5_1).toNat * 11)).off + 5, none⟩ = some (.int .i64 ((rd_T32 l1 x5_1).f2.f3)) ∧ w'.cell? ⟨(ad301.add ((x5_1).toNat * 11)).block, (ad301.add ((x5_1).toNat * 11)).off + 6, none⟩ = some (.int .u32 ((rd_T32 l1 x5_1).f2.f4)) ∧ w'.cell? ⟨(ad301.add ((x5_1).toNat * 11)).block, (ad301.add ((x5_1).toNat * 11)).off + 7, none⟩ = some (.slice A301_7 ((rd_T32 l1 x5_1).f2.f5).length c301_7) ∧ w'.cell? ⟨(ad301.add ((x5_1).toNat * 11)).block, (ad301.add ((x5_1).toNat * 11)).off + 8, none⟩ = some (.int .i64 ((rd_T32 l1 x5_1).f3)) ∧ w'.cell? ⟨(ad301.add ((x5_1).toNat * 11)).block, (ad301.add ((x5_1).toNat * 11)).off + 9, none⟩ = some (.bool ((rd_T32 l1 x5_1).f4)) ∧ w'.cell? ⟨(ad301.add ((x5_1).toNat * 11)).block, (ad301.add ((x5_1).toNat * 11)).off + 10, none⟩ = some (.slice A301_10 ((rd_T32 l1 x5_1).f5).length c301_10)) (ds := []) (bs_ 10 0) (by kernel_rfl) rfl rfl ⟨(kp_ HB.out hw300_0), (kp_ HB.out hw300_1), (kp_ HB.out hw300_2), (kp_ HB.out hw300_3), (kp_ HB.out hw300_4), (kp_ HB.out hw300_5), (kp_ HB.out hw300_6), (kp_ HB.out hw300_7), (kp_ HB.out hw300_8), (kp_ HB.out hw300_9), (kp_ HB.out hw300_10), (kp_ HB.out hw301_0), (kp_ HB.out hw301_1), (kp_ HB.out hw301_2), (kp_ HB.out hw301_3), (kp_ HB.out hw301_4), (kp_ HB.out hw301_5), (kp_ HB.out hw301_6), (kp_ HB.out hw301_7), (kp_ HB.out hw301_8), (kp_ HB.out hw301_9), (kp_ HB.out hw301_10)⟩ (fun hHeld => ?_); refine with_tabW stolonref16_Msgs.tab6 stolonref16_Msgs.bits6 (fun HT_ HW_ => ?_)
        generalize wr.drew = w11 at HB HR300_10 HR300_7 HR301_10 HR301_7 hx300_0 hx300_1 hx300_10 hx300_2 hx300_3 hx300_4 hx300_5 hx300_6 hx300_7 hx300_8 hx300_9 hx301_0 hx301_1 hx301_10 hx301_2 hx301_3 hx301_4 hx301_5 hx301_6 hx301_7 hx301_8 hx301_9 hHeld ⊢
        refine pz_ 0 18 ?_
        refine pz_ 1 19 ?_
        refine pz_ 2 20 ?_
        refine pz_ 4 22 ?_
        refine pz_ 5 23 ?_
        refine pz_ 6 24 ?_
        refine tz_ 3 21 ?_
        refine tz_ 7 25 ?_
        refine oz_ 8 (some 26) (fun K hK => ?_)
        refine gz_ Try.func31 #[.agg #[.int .u8 ((rd_T32 l0 x5_1).f0), .int .u32 ((rd_T32 l0 x5_1).f1), .int .u32 ((rd_T32 l0 x5_1).f2.f0), .int .u32 ((rd_T32 l0 x5_1).f2.f1), .int .u32 ((rd_T32 l0 x5_1).f2.f2), .int .i64 ((rd_T32 l0 x5_1).f2.f3), .int .u32 ((rd_T32 l0 x5_1).f2.f4), .slice A300_7 ((rd_T32 l0 x5_1).f2.f5).length c300_7, .int .i64 ((rd_T32 l0 x5_1).f3), .bool ((rd_T32 l0 x5_1).f4), .slice A300_10 ((rd_T32 l0 x5_1).f5).length c300_10], .agg #[.int .u8 ((rd_T32 l1 x5_1).f0), .int .u32 ((rd_T32 l1 x5_1).f1), .int .u32 ((rd_T32 l1 x5_1).f2.f0), .int .u32 ((rd_T32 l1 x5_1).f2.f1), .int .u32 ((rd_T32 l1 x5_1).f2.f2), .int .i64 ((rd_T32 l1 x5_1).f2.f3), .int .u32 ((rd_T32 l1 x5_1).f2.f4), .slice A301_7 ((rd_T32 l1 x5_1).f2.f5).length c301_7, .int .i64 ((rd_T32 l1 x5_1).f3), .bool ((rd_T32 l1 x5_1).f4), .slice A301_10 ((rd_T32 l1 x5_1).f5).length c301_10]] ?_
        with_reducible refine (stolonref16_Same.calls k1 ((rd_T32 l0 x5_1).f0) ((rd_T32 l0 x5_1).f1) ((rd_T32 l0 x5_1).f2.f0) ((rd_T32 l0 x5_1).f2.f1) ((rd_T32 l0 x5_1).f2.f2) ((rd_T32 l0 x5_1).f2.f3) ((rd_T32 l0 x5_1).f2.f4) _ _ ((rd_T32 l0 x5_1).f2.f5) ((rd_T32 l0 x5_1).f3) ((rd_T32 l0 x5_1).f4) _ _ ((rd_T32 l0 x5_1).f5) ((rd_T32 l1 x5_1).f0) ((rd_T32 l1 x5_1).f1) ((rd_T32 l1 x5_1).f2.f0) ((rd_T32 l1 x5_1).f2.f1) ((rd_T32 l1 x5_1).f2.f2) ((rd_T32 l1 x5_1).f2.f3) ((rd_T32 l1 x5_1).f2.f4) _ _ ((rd_T32 l1 x5_1).f2.f5) ((rd_T32 l1 x5_1).f3) ((rd_T32 l1 x5_1).f4) _ _ ((rd_T32 l1 x5_1).f5) false _ ?side1 ?side2 ?side3 ?side4 ?side5 ?side6 ?side7 ?side8 A7.out).mono ?_
        (case side1 => exact Cd_ (Kd.C_below HR300_7.out HB.out))
        (case side2 => exact HC300_7.out)
        (case side3 => exact Cd_ (Kd.C_below HR300_10.out HB.out))
        (case side4 => exact HC300_10.out)
        (case side5 => exact Cd_ (Kd.C_below HR301_7.out HB.out))
        (case side6 => exact HC301_7.out)
        (case side7 => exact Cd_ (Kd.C_below HR301_10.out HB.out))
        (case side8 => exact HC301_10.out)
        rintro e w12 ⟨rfl, hb⟩
        refine ⟨_, rfl, ?_⟩
        replace HB := m_ (below_step bz_ hb)
        (try clear hb)
        (try clear hb2)
        (try clear hk)
        (try clear hi)
        refine hK.out _ _ ⟨(kp_ HB.out hw300_0), (kp_ HB.out hw300_1), (kp_ HB.out hw300_2), (kp_ HB.out hw300_3), (kp_ HB.out hw300_4), (kp_ HB.out hw300_5), (kp_ HB.out hw300_6), (kp_ HB.out hw300_7), (kp_ HB.out hw300_8), (kp_ HB.out hw300_9), (kp_ HB.out hw300_10), (kp_ HB.out hw301_0), (kp_ HB.out hw301_1), (kp_ HB.out hw301_2), (kp_ HB.out hw301_3), (kp_ HB.out hw301_4), (kp_ HB.out hw301_5), (kp_ HB.out hw301_6), (kp_ HB.out hw301_7), (kp_ HB.out hw301_8), (kp_ HB.out hw301_9), (kp_ HB.out hw301_10)⟩ (fun hHeld => ?_)
        clear hK K
        refine nz_ (some 26) ?_
        refine pz_ 9 6 ?_
        refine dz_ ?_
        try go_wp2
        go_ret
        exact ⟨ew_, bz_⟩
      ·rw [if_neg c6] at H
       exact absurd H (by simp)
     ·rw [if_neg c5] at H
      exact absurd H (by simp)
    ·rw [if_neg c4] at H
     have c4b0 : decide (x5_1 < (l0.length : Int)) = false := decide_eq_false c4
     clear c4
     obtain rfl := Option.some.inj H
     go_wp2
     go_ret
     exact ⟨ew_, bz_⟩
 ·rw [if_neg c3] at H
  have c3b0 : ((l0.length : Int) == (l1.length : Int)) = false := beq_eq_false_iff_ne.mpr c3
  have c3b1 : ((l0.length : Int) != (l1.length : Int)) = true := bne_iff_ne.mpr c3
  have c3b2 : (l0.length == l1.length) = false := by first | simpa using c3 | (simp at c3 ⊢; omega)
  obtain rfl := Option.some.inj H
  go_enter Try.func18, Try.ntmps18
  go_wp2
  go_ret
  exact ⟨ew_, bz_⟩
-- NOT PRINTED: function 3 (stolonlaw17_SwtchHears)
end Go.Proofs.Ytfomnmdjbdohgaa.P

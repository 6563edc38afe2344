/- For each Go function a Lean function, and the proof that a call comes to what it tells: made by program out of the translation (the kit's print, with texts by hand put in). No condition. -/
import Derived.Test.YtfomnmdjbdohgaaSq
import Derived.Test.YtfomnmdjbdohgaaPx0
import Derived.Test.YtfomnmdjbdohgaaPx26
namespace Go.Proofs.Ytfomnmdjbdohgaa.P
open Go.RowKit Go.Proofs.Ytfomnmdjbdohgaa.HRows Go.Proofs.YtfomnmdjbdohgaaW.PrintWords Go.Proofs.YtfomnmdjbdohgaaW.PrintLast Go.Proofs.YtfomnmdjbdohgaaW.PrintMore
attribute [local go_sem] max2_int min2_int max_two min_two max_three min_three max_four min_four
set_option linter.unusedVariables false
set_option linter.unusedSimpArgs false
def stolonref15_Rows.l0 : Nat → List (S29) → List (S29) → Int → Option (Bool)
 | 0, _, _, _ => none
 | k + 1, x0, x1, x5 => if x5 < (x0.length : Int) then (if 0 ≤ x5 then (if x5 < (x1.length : Int) then ((stolonref15_Same.f k ((rd_T29 x0 x5).f0) ((rd_T29 x0 x5).f1) ((rd_T29 x0 x5).f2) ((rd_T29 x0 x5).f3) ((rd_T29 x0 x5).f4) ((rd_T29 x0 x5).f5) ((rd_T29 x1 x5).f0) ((rd_T29 x1 x5).f1) ((rd_T29 x1 x5).f2) ((rd_T29 x1 x5).f3) ((rd_T29 x1 x5).f4) ((rd_T29 x1 x5).f5)).bind fun t290 => (if t290 = true then (stolonref15_Rows.l0 k x0 x1 (wrap64 (x5 + 1))) else (some false))) else (none)) else (none)) else (some true)
def stolonref15_Rows.f (k : Nat) (l0 : List (S29)) (l1 : List (S29)) : Option (Bool) := if (l0.length : Int) = (l1.length : Int) then (stolonref15_Rows.l0 k l0 l1 0) else (some false)
def stolonref15_Rows.T6 : Bool × List (List Nat × List Nat) := (true, [([], []), ([], []), ([0, 1], [0, 1]), ([2], [2]), ([], []), ([], []), ([4, 5], [4, 5]), ([6], [6]), ([3, 7], [3, 7]), ([8, 8, 0, 1, 2, 3, 4, 5, 6, 7, 8], [8])])
def stolonref15_Rows.B6 : List Nat := [0, 0, 3, 7, 0, 0, 48, 112, 255, 511]
theorem stolonref15_Rows.tab6 : rtab .any (opsOf Try.f30 6) = stolonref15_Rows.T6 := by kernel_rfl
theorem stolonref15_Rows.bits6 : waitsOk stolonref15_Rows.T6.2 stolonref15_Rows.B6 = true := by kernel_rfl
set_option maxHeartbeats 8000000 in
set_option maxRecDepth 100000 in
theorem stolonref15_Rows.calls (k : Nat) (A0 : Option Addr) (c0 : Nat) (l0 : List (S29)) (A1 : Option Addr) (c1 : Nat) (l1 : List (S29)) (r : Bool) (w : World) (hr0 : Kd.C k29 w A0 l0.length l0) (hc0 : l0.length ≤ c0) (hr1 : Kd.C k29 w A1 l1.length l1) (hc1 : l1.length ≤ c1) (h : stolonref15_Rows.f k l0 l1 = some r) :
  Calls Try.prog 30 #[.slice A0 l0.length c0, .slice A1 l1.length c1] w fun e w' => e = .returned (.bool r) ∧ Below w.heap.size w w' := by
 have hu29 := Try.underlying29
 have HR0 := m_ hr0
 have HC0 := m_ hc0
 clear hr0 hc0
 have HR1 := m_ hr1
 have HC1 := m_ hc1
 clear hr1 hc1
 have HB := m_ (Below.refl w.heap.size w)
 have H : (if (l0.length : Int) = (l1.length : Int) then (stolonref15_Rows.l0 k l0 l1 0) else (some false)) = some r := h
 clear h
 by_cases c3 : (l0.length : Int) = (l1.length : Int)
 ·rw [if_pos c3] at H
  have c3b0 : ((l0.length : Int) == (l1.length : Int)) = true := beq_iff_eq.mpr c3
  have c3b1 : ((l0.length : Int) != (l1.length : Int)) = false := bne_eq_false_iff_eq.mpr c3
  have c3b2 : (l0.length == l1.length) = true := by first | simpa using c3 | (simp at c3 ⊢; omega)
  clear c3
  have H' := m_ H
  clear H
  go_enter Try.func30, Try.ntmps30
  go_wp2
  go_loopg [5] k (fun kq v5 w' => ∃ (x5_1 : Int), v5 = .int .i64 x5_1 ∧ Aside0 (stolonref15_Rows.l0 kq l0 l1 x5_1 = some r) ∧ Aside0 (kq ≤ k) ∧ Aside0 (Below w.heap.size w w'))
  case atStart => exact ⟨(0), (by first | rfl | (simp; done) | (simp [*]; done)), H', ⟨Nat.le_refl _⟩, ⟨bz_⟩⟩
  case round =>
   clear H'
   try clear c1
   try clear p2
   try clear c3
   try clear c3b0
   try clear c3b1
   try clear c3b2
   obtain ⟨x5_1, rfl, HA, HK1, HB⟩ := hrel
   cases gk with
   | zero => exact absurd HA.out (by simp [stolonref15_Rows.l0])
   | succ k1 =>
    have H := HA.out
    clear HA
    simp only [stolonref15_Rows.l0] at H
    by_cases c4 : x5_1 < (l0.length : Int)
    ·rw [if_pos c4] at H
     have c4b0 : decide (x5_1 < (l0.length : Int)) = true := decide_eq_true c4
     clear c4
     by_cases c5 : 0 ≤ x5_1
     ·rw [if_pos c5] at H
      have c5b0 : decide (0 ≤ x5_1) = true := decide_eq_true c5
      clear c5
      by_cases c6 : x5_1 < (l1.length : Int)
      ·rw [if_pos c6] at H
       have c6b0 : decide (x5_1 < (l1.length : Int)) = true := decide_eq_true c6
       clear c6
       replace H := Option.bind_eq_some_iff.mp H
       obtain ⟨t290, A70, H⟩ := H
       replace H : (if t290 = true then (stolonref15_Rows.l0 k1 l0 l1 (wrap64 (x5_1 + 1))) else (some false)) = some r := H
       have A7 := m_ A70
       clear A70
       by_cases c8 : t290 = true
       ·subst c8
        have H1 : (stolonref15_Rows.l0 k1 l0 l1 (wrap64 (x5_1 + 1))) = some r := by rw [if_pos rfl] at H; exact H
        clear H
        have H := H1
        clear H1
        have H' := m_ H
        clear H
        try go_wp2
        replace HB := m_ (below_drew1 HB.out)
        have p288 : 0 ≤ (x5_1 : Int) := od_
        have q288 : x5_1 < (l0.length : Int) := od_
        obtain ⟨ad288, A288_5, c288_5, e288, hx288_0, hx288_1, hx288_2, hx288_3, hx288_4, hx288_5, hl288_5, hi288_5⟩ := at_T29 HR0.out x5_1 p288 q288
        have hw288_5 := hx288_5
        have hw288_4 := hx288_4
        have hw288_3 := hx288_3
        have hw288_2 := hx288_2
        have hw288_1 := hx288_1
        have hw288_0 := hx288_0
        cases e288
        replace hx288_0 := kp_ HB.out hx288_0
        replace hx288_1 := kp_ HB.out hx288_1
        replace hx288_2 := kp_ HB.out hx288_2
        replace hx288_3 := kp_ HB.out hx288_3
        replace hx288_4 := kp_ HB.out hx288_4
        replace hx288_5 := kp_ HB.out hx288_5
        have HR288_5 := m_ hi288_5
        have HC288_5 := m_ hl288_5
        clear hi288_5 hl288_5
        replace p288 := eq_true p288
        replace q288 := eq_true q288
        have p289 : 0 ≤ (x5_1 : Int) := od_
        have q289 : x5_1 < (l1.length : Int) := od_
        obtain ⟨ad289, A289_5, c289_5, e289, hx289_0, hx289_1, hx289_2, hx289_3, hx289_4, hx289_5, hl289_5, hi289_5⟩ := at_T29 HR1.out x5_1 p289 q289
        have hw289_5 := hx289_5
        have hw289_4 := hx289_4
        have hw289_3 := hx289_3
        have hw289_2 := hx289_2
        have hw289_1 := hx289_1
        have hw289_0 := hx289_0
        cases e289
        replace hx289_0 := kp_ HB.out hx289_0
        replace hx289_1 := kp_ HB.out hx289_1
        replace hx289_2 := kp_ HB.out hx289_2
        replace hx289_3 := kp_ HB.out hx289_3
        replace hx289_4 := kp_ HB.out hx289_4
        replace hx289_5 := kp_ HB.out hx289_5
        have HR289_5 := m_ hi289_5
        have HC289_5 := m_ hl289_5
        clear hi289_5 hl289_5
        replace p289 := eq_true p289
        replace q289 := eq_true q289
        refine start_ (n := 10) (S := fun w' => w'.cell? (ad288.add ((x5_1).toNat * 6)) = some (.int .u32 ((rd_T29 l0 x5_1).f0)) ∧ w'.cell? ⟨(ad288.add ((x5_1).toNat * 6)).block, (ad288.add ((x5_1).toNat * 6)).off + 1, none⟩ = some (.int .u32 ((rd_T29 l0 x5_1).f1)) ∧ w'.cell? ⟨(ad288.add ((x5_1).toNat * 6)).block, (ad288.add ((x5_1).toNat * 6)).off + 2, none⟩ = some (.int .u32 ((rd_T29 l0 x5_1).f2)) ∧ w'.cell? ⟨(ad288.add ((x5_1).toNat * 6)).block, (ad288.add ((x5_1).toNat * 6)).off + 3, none⟩ = some (.int .i64 ((rd_T29 l0 x5_1).f3)) ∧ w'.cell? ⟨(ad288.add ((x5_1).toNat * 6)).block, (ad288.add ((x5_1).toNat * 6)).off + 4, none⟩ = some (.int .u32 ((rd_T29 l0 x5_1).f4)) ∧ w'.cell? ⟨(ad288.add ((x5_1).toNat * 6)).block, (ad288.add ((x5_1).toNat * 6)).off + 5, none⟩ = some (.slice A288_5 ((rd_T29 l0 x5_1).f5).length c288_5) ∧ w'.cell? (ad289.add ((x5_1).toNat * 6)) = some (.int .u32 ((rd_T29 l1 x5_1).f0)) ∧ w'.cell? ⟨(ad289.add ((x5_1).toNat * 6)).block, (ad289.add ((x5_1).toNat * 6)).off + 1, none⟩ = some (.int .u32 ((rd_T29 l1 x5_1).f1)) ∧ w'.cell? ⟨(ad289.add ((x5_1).toNat * 6)).block, (ad289.add ((x5_1).toNat * 6)).off + 2, none⟩ = some (.int .u32 ((rd_T29 l1 x5_1).f2)) ∧ w'.cell? ⟨(ad289.add ((x5_1).toNat * 6)).block, (ad289.add ((x5_1).toNat * 6)).off + 3, none⟩ = some (.int .i64 ((rd_T29 l1 x5_1).f3)) ∧ w'.cell? ⟨(ad289.add ((x5_1).toNat * 6)).block, (ad289.add ((x5_1).toNat * 6)).off + 4, none⟩ = some (.int .u32 ((rd_T29 l1 x5_1).f4)) ∧ w'.cell? ⟨(ad289.add ((x5_1).toNat * 6)).block, (ad289.add ((x5_1).toNat * 6)).off + 5, none⟩ = some (.slice A289_5 ((rd_T29 l1 x5_1).f5).length c289_5)) (ds := []) (bs_ 10 0) (by kernel_rfl) rfl rfl ⟨(kp_ HB.out hw288_0), (kp_ HB.out hw288_1), (kp_ HB.out hw288_2), (kp_ HB.out hw288_3), (kp_ HB.out hw288_4), (kp_ HB.out hw288_5), (kp_ HB.out hw289_0), (kp_ HB.out hw289_1), (kp_ HB.out hw289_2), (kp_ HB.out hw289_3), (kp_ HB.out hw289_4), (kp_ HB.out hw289_5)⟩ (fun hHeld => ?_); refine with_tabW stolonref15_Rows.tab6 stolonref15_Rows.bits6 (fun HT_ HW_ => ?_)
        generalize wr.drew = w9 at HB HR288_5 HR289_5 hx288_0 hx288_1 hx288_2 hx288_3 hx288_4 hx288_5 hx289_0 hx289_1 hx289_2 hx289_3 hx289_4 hx289_5 hHeld ⊢
        refine pz_ 0 18 ?_
        refine pz_ 1 19 ?_
        refine pz_ 2 20 ?_
        refine pz_ 4 22 ?_
        refine pz_ 5 23 ?_
        refine pz_ 6 24 ?_
        refine tz_ 3 21 ?_
        refine tz_ 7 25 ?_
        refine oz_ 8 (some 26) (fun K hK => ?_)
        refine gz_ Try.func20 #[.agg #[.int .u32 ((rd_T29 l0 x5_1).f0), .int .u32 ((rd_T29 l0 x5_1).f1), .int .u32 ((rd_T29 l0 x5_1).f2), .int .i64 ((rd_T29 l0 x5_1).f3), .int .u32 ((rd_T29 l0 x5_1).f4), .slice A288_5 ((rd_T29 l0 x5_1).f5).length c288_5], .agg #[.int .u32 ((rd_T29 l1 x5_1).f0), .int .u32 ((rd_T29 l1 x5_1).f1), .int .u32 ((rd_T29 l1 x5_1).f2), .int .i64 ((rd_T29 l1 x5_1).f3), .int .u32 ((rd_T29 l1 x5_1).f4), .slice A289_5 ((rd_T29 l1 x5_1).f5).length c289_5]] ?_
        with_reducible refine (stolonref15_Same.calls k1 ((rd_T29 l0 x5_1).f0) ((rd_T29 l0 x5_1).f1) ((rd_T29 l0 x5_1).f2) ((rd_T29 l0 x5_1).f3) ((rd_T29 l0 x5_1).f4) _ _ ((rd_T29 l0 x5_1).f5) ((rd_T29 l1 x5_1).f0) ((rd_T29 l1 x5_1).f1) ((rd_T29 l1 x5_1).f2) ((rd_T29 l1 x5_1).f3) ((rd_T29 l1 x5_1).f4) _ _ ((rd_T29 l1 x5_1).f5) true _ ?side1 ?side2 ?side3 ?side4 A7.out).mono ?_
        (case side1 => exact Cd_ (Kd.C_below HR288_5.out HB.out))
        (case side2 => exact HC288_5.out)
        (case side3 => exact Cd_ (Kd.C_below HR289_5.out HB.out))
        (case side4 => exact HC289_5.out)
        rintro e w10 ⟨rfl, hb⟩
        refine ⟨_, rfl, ?_⟩
        replace HB := m_ (below_step bz_ hb)
        (try clear hb)
        (try clear hb2)
        (try clear hk)
        (try clear hi)
        refine hK.out _ _ ⟨(kp_ HB.out hw288_0), (kp_ HB.out hw288_1), (kp_ HB.out hw288_2), (kp_ HB.out hw288_3), (kp_ HB.out hw288_4), (kp_ HB.out hw288_5), (kp_ HB.out hw289_0), (kp_ HB.out hw289_1), (kp_ HB.out hw289_2), (kp_ HB.out hw289_3), (kp_ HB.out hw289_4), (kp_ HB.out hw289_5)⟩ (fun hHeld => ?_)
        clear hK K
        refine nz_ (some 26) ?_
        refine pz_ 9 6 ?_
        refine dz_ ?_
        try go_wp2
        go_roundg k1
        case measure => have := HK1.out; omega
        case rel => exact ⟨(wrap64 (x5_1 + 1)), (by first | rfl | (simp; done) | (simp [*]; done)), H', ⟨by have := HK1.out; omega⟩, ⟨bz_⟩⟩
       ·replace c8 := Bool.eq_false_iff.mpr c8
        subst c8
        have H1 : (some false) = some r := by rw [if_neg (show ¬ (false = true) by decide)] at H; exact H
        clear H
        have H := H1
        clear H1
        obtain rfl := Option.some.inj H
        try go_wp2
        replace HB := m_ (below_drew1 HB.out)
        have p288 : 0 ≤ (x5_1 : Int) := od_
        have q288 : x5_1 < (l0.length : Int) := od_
        obtain ⟨ad288, A288_5, c288_5, e288, hx288_0, hx288_1, hx288_2, hx288_3, hx288_4, hx288_5, hl288_5, hi288_5⟩ := at_T29 HR0.out x5_1 p288 q288
        have hw288_5 := hx288_5
        have hw288_4 := hx288_4
        have hw288_3 := hx288_3
        have hw288_2 := hx288_2
        have hw288_1 := hx288_1
        have hw288_0 := hx288_0
        cases e288
        replace hx288_0 := kp_ HB.out hx288_0
        replace hx288_1 := kp_ HB.out hx288_1
        replace hx288_2 := kp_ HB.out hx288_2
        replace hx288_3 := kp_ HB.out hx288_3
        replace hx288_4 := kp_ HB.out hx288_4
        replace hx288_5 := kp_ HB.out hx288_5
        have HR288_5 := m_ hi288_5
        have HC288_5 := m_ hl288_5
        clear hi288_5 hl288_5
        replace p288 := eq_true p288
        replace q288 := eq_true q288
        have p289 : 0 ≤ (x5_1 : Int) := od_
        have q289 : x5_1 < (l1.length : Int) := od_
        obtain ⟨ad289, A289_5, c289_5, e289, hx289_0, hx289_1, hx289_2, hx289_3, hx289_4, hx289_5, hl289_5, hi289_5⟩ := at_T29 HR1.out x5_1 p289 q289
        have hw289_5 := hx289_5
        have hw289_4 := hx289_4
        have hw289_3 := hx289_3
        have hw289_2 := hx289_2
        have hw289_1 := hx289_1
        have hw289_0 := hx289_0
        cases e289
        replace hx289_0 := kp_ HB.out hx289_0
        replace hx289_1 := kp_ HB.out hx289_1
        replace hx289_2 := kp_ HB.out hx289_2
        replace hx289_3 := kp_ HB.out hx289_3
        replace hx289_4 := kp_ HB.out hx289_4
        replace hx289_5 := kp_ HB.out hx289_5
        have HR289_5 := m_ hi289_5
        have HC289_5 := m_ hl289_5
        clear hi289_5 hl289_5
        replace p289 := eq_true p289
        replace q289 := eq_true q289
        refine start_ (n := 10) (S := fun w' => w'.cell? (ad288.add ((x5_1).toNat * 6)) = some (.int .u32 ((rd_T29 l0 x5_1).f0)) ∧ w'.cell? ⟨(ad288.add ((x5_1).toNat * 6)).block, (ad288.add ((x5_1).toNat * 6)).off + 1, none⟩ = some (.int .u32 ((rd_T29 l0 x5_1).f1)) ∧ w'.cell? ⟨(ad288.add ((x5_1).toNat * 6)).block, (ad288.add ((x5_1).toNat * 6)).off + 2, none⟩ = some (.int .u32 ((rd_T29 l0 x5_1).f2)) ∧ w'.cell? ⟨(ad288.add ((x5_1).toNat * 6)).block, (ad288.add ((x5_1).toNat * 6)).off + 3, none⟩ = some (.int .i64 ((rd_T29 l0 x5_1).f3)) ∧ w'.cell? ⟨(ad288.add ((x5_1).toNat * 6)).block, (ad288.add ((x5_1).toNat * 6)).off + 4, none⟩ = some (.int .u32 ((rd_T29 l0 x5_1).f4)) ∧ w'.cell? ⟨(ad288.add ((x5_1).toNat * 6)).block, (ad288.add ((x5_1).toNat * 6)).off + 5, none⟩ = some (.slice A288_5 ((rd_T29 l0 x5_1).f5).length c288_5) ∧ w'.cell? (ad289.add ((x5_1).toNat * 6)) = some (.int .u32 ((rd_T29 l1 x5_1).f0)) ∧ w'.cell? ⟨(ad289.add ((x5_1).toNat * 6)).block, (ad289.add ((x5_1).toNat * 6)).off + 1, none⟩ = some (.int .u32 ((rd_T29 l1 x5_1).f1)) ∧ w'.cell? ⟨(ad289.add ((x5_1).toNat * 6)).block, (ad289.add ((x5_1).toNat * 6)).off + 2, none⟩ = some (.int .u32 ((rd_T29 l1 x5_1).f2)) ∧ w'.cell? ⟨(ad289.add ((x5_1).toNat * 6)).block, (ad289.add ((x5_1).toNat * 6)).off + 3, none⟩ = some (.int .i64 ((rd_T29 l1 x5_1).f3)) ∧ w'.cell? ⟨(ad289.add ((x5_1).toNat * 6)).block, (ad289.add ((x5_1).toNat * 6)).off + 4, none⟩ = some (.int .u32 ((rd_T29 l1 x5_1).f4)) ∧ w'.cell? ⟨(ad289.add ((x5_1).toNat * 6)).block, (ad289.add ((x5_1).toNat * 6)).off + 5, none⟩ = some (.slice A289_5 ((rd_T29 l1 x5_1).f5).length c289_5)) (ds := []) (bs_ 10 0) (by kernel_rfl) rfl rfl ⟨(kp_ HB.out hw288_0), (kp_ HB.out hw288_1), (kp_ HB.out hw288_2), (kp_ HB.out hw288_3), (kp_ HB.out hw288_4), (kp_ HB.out hw288_5), (kp_ HB.out hw289_0), (kp_ HB.out hw289_1), (kp_ HB.out hw289_2), (kp_ HB.out hw289_3), (kp_ HB.out hw289_4), (kp_ HB.out hw289_5)⟩ (fun hHeld => ?_); refine with_tabW stolonref15_Rows.tab6 stolonref15_Rows.bits6 (fun HT_ HW_ => ?_)
        generalize wr.drew = w11 at HB HR288_5 HR289_5 hx288_0 hx288_1 hx288_2 hx288_3 hx288_4 hx288_5 hx289_0 hx289_1 hx289_2 hx289_3 hx289_4 hx289_5 hHeld ⊢
        refine pz_ 0 18 ?_
        refine pz_ 1 19 ?_
        refine pz_ 2 20 ?_
        refine pz_ 4 22 ?_
        refine pz_ 5 23 ?_
        refine pz_ 6 24 ?_
        refine tz_ 3 21 ?_
        refine tz_ 7 25 ?_
        refine oz_ 8 (some 26) (fun K hK => ?_)
        refine gz_ Try.func20 #[.agg #[.int .u32 ((rd_T29 l0 x5_1).f0), .int .u32 ((rd_T29 l0 x5_1).f1), .int .u32 ((rd_T29 l0 x5_1).f2), .int .i64 ((rd_T29 l0 x5_1).f3), .int .u32 ((rd_T29 l0 x5_1).f4), .slice A288_5 ((rd_T29 l0 x5_1).f5).length c288_5], .agg #[.int .u32 ((rd_T29 l1 x5_1).f0), .int .u32 ((rd_T29 l1 x5_1).f1), .int .u32 ((rd_T29 l1 x5_1).f2), .int .i64 ((rd_T29 l1 x5_1).f3), .int .u32 ((rd_T29 l1 x5_1).f4), .slice A289_5 ((rd_T29 l1 x5_1).f5).length c289_5]] ?_
        with_reducible refine (stolonref15_Same.calls k1 ((rd_T29 l0 x5_1).f0) ((rd_T29 l0 x5_1).f1) ((rd_T29 l0 x5_1).f2) ((rd_T29 l0 x5_1).f3) ((rd_T29 l0 x5_1).f4) _ _ ((rd_T29 l0 x5_1).f5) ((rd_T29 l1 x5_1).f0) ((rd_T29 l1 x5_1).f1) ((rd_T29 l1 x5_1).f2) ((rd_T29 l1 x5_1).f3) ((rd_T29 l1 x5_1).f4) _ _ ((rd_T29 l1 x5_1).f5) false _ ?side1 ?side2 ?side3 ?side4 A7.out).mono ?_
        (case side1 => exact Cd_ (Kd.C_below HR288_5.out HB.out))
        (case side2 => exact HC288_5.out)
        (case side3 => exact Cd_ (Kd.C_below HR289_5.out HB.out))
        (case side4 => exact HC289_5.out)
        rintro e w12 ⟨rfl, hb⟩
        refine ⟨_, rfl, ?_⟩
        replace HB := m_ (below_step bz_ hb)
        (try clear hb)
        (try clear hb2)
        (try clear hk)
        (try clear hi)
        refine hK.out _ _ ⟨(kp_ HB.out hw288_0), (kp_ HB.out hw288_1), (kp_ HB.out hw288_2), (kp_ HB.out hw288_3), (kp_ HB.out hw288_4), (kp_ HB.out hw288_5), (kp_ HB.out hw289_0), (kp_ HB.out hw289_1), (kp_ HB.out hw289_2), (kp_ HB.out hw289_3), (kp_ HB.out hw289_4), (kp_ HB.out hw289_5)⟩ (fun hHeld => ?_)
        clear hK K
        refine nz_ (some 26) ?_
        refine pz_ 9 6 ?_
        refine dz_ ?_
        try go_wp2
        go_ret
        exact ⟨ew_, bz_⟩
      ·rw [if_neg c6] at H
       exact absurd H (by simp)
     ·rw [if_neg c5] at H
      exact absurd H (by simp)
    ·rw [if_neg c4] at H
     have c4b0 : decide (x5_1 < (l0.length : Int)) = false := decide_eq_false c4
     clear c4
     obtain rfl := Option.some.inj H
     go_wp2
     go_ret
     exact ⟨ew_, bz_⟩
 ·rw [if_neg c3] at H
  have c3b0 : ((l0.length : Int) == (l1.length : Int)) = false := beq_eq_false_iff_ne.mpr c3
  have c3b1 : ((l0.length : Int) != (l1.length : Int)) = true := bne_iff_ne.mpr c3
  have c3b2 : (l0.length == l1.length) = false := by first | simpa using c3 | (simp at c3 ⊢; omega)
  obtain rfl := Option.some.inj H
  go_enter Try.func30, Try.ntmps30
  go_wp2
  go_ret
  exact ⟨ew_, bz_⟩
def stolonref17_Same.f (k : Nat) (a0_0 : Int) (l0_1 : List (S29)) (a1_0 : Int) (l1_1 : List (S29)) : Option (Bool) := if a0_0 = a1_0 then ((stolonref15_Rows.f k l0_1 l1_1).bind fun t293 => (some t293)) else (some false)
set_option maxHeartbeats 8000000 in
set_option maxRecDepth 100000 in
theorem stolonref17_Same.calls (k : Nat) (a0_0 : Int) (A0_1 : Option Addr) (c0_1 : Nat) (l0_1 : List (S29)) (a1_0 : Int) (A1_1 : Option Addr) (c1_1 : Nat) (l1_1 : List (S29)) (r : Bool) (w : World) (hr0_1 : Kd.C k29 w A0_1 l0_1.length l0_1) (hc0_1 : l0_1.length ≤ c0_1) (hr1_1 : Kd.C k29 w A1_1 l1_1.length l1_1) (hc1_1 : l1_1.length ≤ c1_1) (h : stolonref17_Same.f k a0_0 l0_1 a1_0 l1_1 = some r) :
  Calls Try.prog 17 #[.agg #[.int .i64 a0_0, .slice A0_1 l0_1.length c0_1], .agg #[.int .i64 a1_0, .slice A1_1 l1_1.length c1_1]] w fun e w' => e = .returned (.bool r) ∧ Below w.heap.size w w' := by
 have hu24 := Try.underlying24
 have HR0_1 := m_ hr0_1
 have HC0_1 := m_ hc0_1
 clear hr0_1 hc0_1
 have HR1_1 := m_ hr1_1
 have HC1_1 := m_ hc1_1
 clear hr1_1 hc1_1
 have HB := m_ (Below.refl w.heap.size w)
 have H : (if a0_0 = a1_0 then ((stolonref15_Rows.f k l0_1 l1_1).bind fun t293 => (some t293)) else (some false)) = some r := h
 clear h
 by_cases c3 : a0_0 = a1_0
 ·rw [if_pos c3] at H
  have c3b0 : (a0_0 == a1_0) = true := beq_iff_eq.mpr c3
  have c3b1 : (a0_0 != a1_0) = false := bne_eq_false_iff_eq.mpr c3
  clear c3
  replace H := Option.bind_eq_some_iff.mp H
  obtain ⟨t293, A40, H⟩ := H
  replace H : (some t293) = some r := H
  have A4 := m_ A40
  clear A40
  obtain rfl := Option.some.inj H
  go_enter Try.func17, Try.ntmps17
  go_wp2_with (first | ((with_reducible refine gate_dst (N := 2) rfl ?_); refine bx_ 2 24 #[.int .i64 a0_0, .slice A0_1 l0_1.length c0_1] ?_; intro gb291 hg w5 hbox hb; have BK291 := m_ (hbox); have GW291 := m_ ((gw_ : w.heap.size ≤ gb291)); have GE291 := m_ ((gw_ : w.heap.size ≤ gb291)); replace HB := m_ (below_step bz_ hb); clear hb hbox hg) | ((with_reducible refine gate_dst (N := 3) rfl ?_); refine bx_ 3 24 #[.int .i64 a1_0, .slice A1_1 l1_1.length c1_1] ?_; intro gb292 hg w6 hbox hb; have BK292 := m_ (hbox); have GW292 := m_ ((gw_ : w.heap.size ≤ gb292)); have GE292 := m_ ((gw_ : w.heap.size ≤ gb292)); have NB291_292 := m_ ((gl_ : gb291 ≠ gb292)); have NB292_291 := m_ ((gr_ : gb292 ≠ gb291)); replace BK291 := m_ (kl_ gb291 hb); replace HB := m_ (below_step bz_ hb); clear hb hbox hg; have hnb7 := NB291_292.out; have hnc7 := NB292_291.out; have hcz8 := cz2_ BK291.out; have hcz9 := cz2_ BK292.out) | (go_at_call 30; (with_reducible refine (stolonref15_Rows.calls k _ _ l0_1 _ _ l1_1 t293 _ ?side1 ?side2 ?side3 ?side4 A4.out).mono ?_); (case side1 => exact Cd_ (Kd.C_below HR0_1.out HB.out)); (case side2 => exact HC0_1.out); (case side3 => exact Cd_ (Kd.C_below HR1_1.out HB.out)); (case side4 => exact HC1_1.out); rintro e w10 ⟨rfl, hb⟩; replace BK291 := m_ (kl_ gb291 hb); replace BK292 := m_ (kl_ gb292 hb); replace HB := m_ (below_step bz_ hb); (try clear hb); (try clear hb2); (try clear hk); (try clear hi)))
  go_ret
  exact ⟨ew_, bz_⟩
 ·rw [if_neg c3] at H
  have c3b0 : (a0_0 == a1_0) = false := beq_eq_false_iff_ne.mpr c3
  have c3b1 : (a0_0 != a1_0) = true := bne_iff_ne.mpr c3
  obtain rfl := Option.some.inj H
  go_enter Try.func17, Try.ntmps17
  go_wp2_with (first | ((with_reducible refine gate_dst (N := 2) rfl ?_); refine bx_ 2 24 #[.int .i64 a0_0, .slice A0_1 l0_1.length c0_1] ?_; intro gb291 hg w11 hbox hb; have BK291 := m_ (hbox); have GW291 := m_ ((gw_ : w.heap.size ≤ gb291)); have GE291 := m_ ((gw_ : w.heap.size ≤ gb291)); replace HB := m_ (below_step bz_ hb); clear hb hbox hg) | ((with_reducible refine gate_dst (N := 3) rfl ?_); refine bx_ 3 24 #[.int .i64 a1_0, .slice A1_1 l1_1.length c1_1] ?_; intro gb292 hg w12 hbox hb; have BK292 := m_ (hbox); have GW292 := m_ ((gw_ : w.heap.size ≤ gb292)); have GE292 := m_ ((gw_ : w.heap.size ≤ gb292)); have NB291_292 := m_ ((gl_ : gb291 ≠ gb292)); have NB292_291 := m_ ((gr_ : gb292 ≠ gb291)); replace BK291 := m_ (kl_ gb291 hb); replace HB := m_ (below_step bz_ hb); clear hb hbox hg; have hnb13 := NB291_292.out; have hnc13 := NB292_291.out; have hcz14 := cz2_ BK291.out; have hcz15 := cz2_ BK292.out))
  go_ret
  exact ⟨ew_, bz_⟩
def stolonref01_Same.l0 : Nat → List Int → List Int → Int → Option (Bool)
 | 0, _, _, _ => none
 | k + 1, x0, x1, x5 => if x5 < (x0.length : Int) then (if 0 ≤ x5 then (if x5 < (x1.length : Int) then (if (rd x0 x5) = (rd x1 x5) then (stolonref01_Same.l0 k x0 x1 (wrap64 (x5 + 1))) else (some false)) else (none)) else (none)) else (some true)
def stolonref01_Same.f (k : Nat) (l0 : List Int) (l1 : List Int) : Option (Bool) := if (l0.length : Int) = (l1.length : Int) then (stolonref01_Same.l0 k l0 l1 0) else (some false)
set_option maxHeartbeats 8000000 in
set_option maxRecDepth 100000 in
theorem stolonref01_Same.calls (k : Nat) (A0 : Option Addr) (c0 : Nat) (l0 : List Int) (A1 : Option Addr) (c1 : Nat) (l1 : List Int) (r : Bool) (w : World) (hr0 : Kd.C (Kd.int .u8) w A0 l0.length l0) (hc0 : l0.length ≤ c0) (hr1 : Kd.C (Kd.int .u8) w A1 l1.length l1) (hc1 : l1.length ≤ c1) (h : stolonref01_Same.f k l0 l1 = some r) :
  Calls Try.prog 43 #[.slice A0 l0.length c0, .slice A1 l1.length c1] w fun e w' => e = .returned (.bool r) ∧ Drawn0 w w' := by
 have HR0 := m_ hr0
 have HC0 := m_ hc0
 clear hr0 hc0
 have HR1 := m_ hr1
 have HC1 := m_ hc1
 clear hr1 hc1
 have H : (if (l0.length : Int) = (l1.length : Int) then (stolonref01_Same.l0 k l0 l1 0) else (some false)) = some r := h
 clear h
 by_cases c3 : (l0.length : Int) = (l1.length : Int)
 ·rw [if_pos c3] at H
  have c3b0 : ((l0.length : Int) == (l1.length : Int)) = true := beq_iff_eq.mpr c3
  have c3b1 : ((l0.length : Int) != (l1.length : Int)) = false := bne_eq_false_iff_eq.mpr c3
  have c3b2 : (l0.length == l1.length) = true := by first | simpa using c3 | (simp at c3 ⊢; omega)
  clear c3
  have H' := m_ H
  clear H
  go_enter Try.func43, Try.ntmps43
  go_wp2
  repeat (go_quiet (fail); try go_wp2)
  go_loopg [5] k (fun kq v5 w' => ∃ (x5_1 : Int), v5 = .int .i64 x5_1 ∧ Aside0 (stolonref01_Same.l0 kq l0 l1 x5_1 = some r) ∧ Aside0 (kq ≤ k) ∧ Drawn0 w w')
  case atStart => exact ⟨(0), (by first | rfl | (simp; done) | (simp [*]; done)), H', ⟨Nat.le_refl _⟩, by repeat (first | exact Drawn0.refl _ | apply Drawn0.step)⟩
  case round =>
   clear H'
   try clear c1
   try clear p2
   try clear c3
   try clear c3b0
   try clear c3b1
   try clear c3b2
   obtain ⟨x5_1, rfl, HA, HK1, ⟨m1, rfl⟩⟩ := hrel
   cases gk with
   | zero => exact absurd HA.out (by simp [stolonref01_Same.l0])
   | succ k1 =>
    have H := HA.out
    clear HA
    simp only [stolonref01_Same.l0] at H
    by_cases c4 : x5_1 < (l0.length : Int)
    ·rw [if_pos c4] at H
     have c4b0 : decide (x5_1 < (l0.length : Int)) = true := decide_eq_true c4
     clear c4
     by_cases c5 : 0 ≤ x5_1
     ·rw [if_pos c5] at H
      have c5b0 : decide (0 ≤ x5_1) = true := decide_eq_true c5
      clear c5
      by_cases c6 : x5_1 < (l1.length : Int)
      ·rw [if_pos c6] at H
       have c6b0 : decide (x5_1 < (l1.length : Int)) = true := decide_eq_true c6
       clear c6
       by_cases c7 : (rd l0 x5_1) = (rd l1 x5_1)
       ·rw [if_pos c7] at H
        have c7b0 : ((rd l0 x5_1) == (rd l1 x5_1)) = true := beq_iff_eq.mpr c7
        have c7b1 : ((rd l0 x5_1) != (rd l1 x5_1)) = false := bne_eq_false_iff_eq.mpr c7
        clear c7
        have H' := m_ H
        clear H
        have p294 : 0 ≤ (x5_1 : Int) := od_
        have q294 : x5_1 < (l0.length : Int) := od_
        obtain ⟨ad294, e294, hx294_0⟩ := Kd.at_int HR0.out x5_1 p294 q294
        cases e294
        replace p294 := eq_true p294
        replace q294 := eq_true q294
        have p295 : 0 ≤ (x5_1 : Int) := od_
        have q295 : x5_1 < (l1.length : Int) := od_
        obtain ⟨ad295, e295, hx295_0⟩ := Kd.at_int HR1.out x5_1 p295 q295
        cases e295
        replace p295 := eq_true p295
        replace q295 := eq_true q295
        go_wp2
        repeat (go_quiet (fail); try go_wp2)
        go_roundg k1
        case measure => have := HK1.out; omega
        case rel => exact ⟨(wrap64 (x5_1 + 1)), (by first | rfl | (simp; done) | (simp [*]; done)), H', ⟨by have := HK1.out; omega⟩, by repeat (first | exact Drawn0.refl _ | apply Drawn0.step)⟩
       ·rw [if_neg c7] at H
        have c7b0 : ((rd l0 x5_1) == (rd l1 x5_1)) = false := beq_eq_false_iff_ne.mpr c7
        have c7b1 : ((rd l0 x5_1) != (rd l1 x5_1)) = true := bne_iff_ne.mpr c7
        obtain rfl := Option.some.inj H
        have p294 : 0 ≤ (x5_1 : Int) := od_
        have q294 : x5_1 < (l0.length : Int) := od_
        obtain ⟨ad294, e294, hx294_0⟩ := Kd.at_int HR0.out x5_1 p294 q294
        cases e294
        replace p294 := eq_true p294
        replace q294 := eq_true q294
        have p295 : 0 ≤ (x5_1 : Int) := od_
        have q295 : x5_1 < (l1.length : Int) := od_
        obtain ⟨ad295, e295, hx295_0⟩ := Kd.at_int HR1.out x5_1 p295 q295
        cases e295
        replace p295 := eq_true p295
        replace q295 := eq_true q295
        go_wp2
        repeat (go_quiet (fail); try go_wp2)
        go_ret
        exact ⟨(by first | rfl | (simp; done) | (simp [*]; done)), (by repeat (first | exact Drawn0.refl _ | apply Drawn0.step))⟩
      ·rw [if_neg c6] at H
       exact absurd H (by simp)
     ·rw [if_neg c5] at H
      exact absurd H (by simp)
    ·rw [if_neg c4] at H
     have c4b0 : decide (x5_1 < (l0.length : Int)) = false := decide_eq_false c4
     clear c4
     obtain rfl := Option.some.inj H
     go_wp2
     repeat (go_quiet (fail); try go_wp2)
     go_ret
     exact ⟨(by first | rfl | (simp; done) | (simp [*]; done)), (by repeat (first | exact Drawn0.refl _ | apply Drawn0.step))⟩
 ·rw [if_neg c3] at H
  have c3b0 : ((l0.length : Int) == (l1.length : Int)) = false := beq_eq_false_iff_ne.mpr c3
  have c3b1 : ((l0.length : Int) != (l1.length : Int)) = true := bne_iff_ne.mpr c3
  have c3b2 : (l0.length == l1.length) = false := by first | simpa using c3 | (simp at c3 ⊢; omega)
  obtain rfl := Option.some.inj H
  go_enter Try.func43, Try.ntmps43
  go_wp2
  repeat (go_quiet (fail); try go_wp2)
  go_ret
  exact ⟨(by first | rfl | (simp; done) | (simp [*]; done)), (by repeat (first | exact Drawn0.refl _ | apply Drawn0.step))⟩
end Go.Proofs.Ytfomnmdjbdohgaa.P

/- For each Go function a Lean function, and the proof that a call comes to what it tells: made by program out of the translation (the kit's print, with texts by hand put in). No condition. -/
import Derived.Test.YtfomnmdjbdohgaaSq
import Derived.Test.YtfomnmdjbdohgaaPx0
import Derived.Test.YtfomnmdjbdohgaaPx18
import Derived.Test.YtfomnmdjbdohgaaPx19
namespace Go.Proofs.Ytfomnmdjbdohgaa.P
open Go.RowKit Go.Proofs.Ytfomnmdjbdohgaa.HRows Go.Proofs.YtfomnmdjbdohgaaW.PrintWords Go.Proofs.YtfomnmdjbdohgaaW.PrintLast Go.Proofs.YtfomnmdjbdohgaaW.PrintMore
attribute [local go_sem] max2_int min2_int max_two min_two max_three min_three max_four min_four
set_option linter.unusedVariables false
set_option linter.unusedSimpArgs false
def stolonref15_Table.l0 : Nat → List (S29) → Int → Option (Bool)
 | 0, _, _ => none
 | k + 1, x0, x3 => if x3 < (x0.length : Int) then (if 0 ≤ x3 then ((stolonref15_Right.f k ((rd_T29 x0 x3).f0) ((rd_T29 x0 x3).f1) ((rd_T29 x0 x3).f2) ((rd_T29 x0 x3).f3) ((rd_T29 x0 x3).f4) ((rd_T29 x0 x3).f5)).bind fun t225 => (if t225 = true then (if x3 > 0 then (if 0 ≤ (wrap64 (x3 - 1)) then (if (wrap64 (x3 - 1)) < (x0.length : Int) then ((stolonref15_less.f ((rd_T29 x0 (wrap64 (x3 - 1))).f0) ((rd_T29 x0 (wrap64 (x3 - 1))).f1) ((rd_T29 x0 (wrap64 (x3 - 1))).f2) ((rd_T29 x0 (wrap64 (x3 - 1))).f3) ((rd_T29 x0 (wrap64 (x3 - 1))).f4) ((rd_T29 x0 (wrap64 (x3 - 1))).f5) ((rd_T29 x0 x3).f0) ((rd_T29 x0 x3).f1) ((rd_T29 x0 x3).f2) ((rd_T29 x0 x3).f3) ((rd_T29 x0 x3).f4) ((rd_T29 x0 x3).f5)).bind fun t228 => (if t228 = true then (stolonref15_Table.l0 k x0 (wrap64 (x3 + 1))) else (some false))) else (none)) else (none)) else (stolonref15_Table.l0 k x0 (wrap64 (x3 + 1)))) else (some false))) else (none)) else (some true)
def stolonref15_Table.f (k : Nat) (l0 : List (S29)) : Option (Bool) := stolonref15_Table.l0 k l0 0
def stolonref15_Table.T5 : Bool × List (List Nat × List Nat) := (true, [([], []), ([0], [0]), ([1], [1]), ([2], [2]), ([3, 2], [2, 3]), ([4, 2, 2], [2, 4]), ([5], [5]), ([5], [5]), ([7, 5], [5, 7]), ([6, 8, 5], [5, 6, 8]), ([9, 5], [5, 9]), ([5], [5]), ([5], [5]), ([11, 12, 5], [5, 11, 12]), ([13, 5], [5, 13]), ([10, 14, 5, 5], [5, 10, 14]), ([15, 5], [5, 15]), ([5, 16, 2], [2, 5, 16]), ([2, 17], [2, 17])])
def stolonref15_Table.B5 : List Nat := [0, 1, 3, 7, 15, 31, 63, 63, 191, 511, 1023, 63, 63, 6207, 14399, 32767, 65535, 131071, 262143]
theorem stolonref15_Table.tab5 : rtab .any (opsOf Try.f26 5) = stolonref15_Table.T5 := by kernel_rfl
theorem stolonref15_Table.bits5 : waitsOk stolonref15_Table.T5.2 stolonref15_Table.B5 = true := by kernel_rfl
set_option maxHeartbeats 8000000 in
set_option maxRecDepth 100000 in
theorem stolonref15_Table.calls (k : Nat) (A0 : Option Addr) (c0 : Nat) (l0 : List (S29)) (r : Bool) (w : World) (hr0 : Kd.C k29 w A0 l0.length l0) (hc0 : l0.length ≤ c0) (h : stolonref15_Table.f k l0 = some r) :
  Calls Try.prog 26 #[.slice A0 l0.length c0] w fun e w' => e = .returned (.bool r) ∧ Below w.heap.size w w' := by
 have hu29 := Try.underlying29
 have HR0 := m_ hr0
 have HC0 := m_ hc0
 clear hr0 hc0
 have HB := m_ (Below.refl w.heap.size w)
 have H : (stolonref15_Table.l0 k l0 0) = some r := h
 clear h
 have H' := m_ H
 clear H
 go_enter Try.func26, Try.ntmps26
 go_wp2
 go_loopg [3] k (fun kq v3 w' => ∃ (x3_1 : Int), v3 = .int .i64 x3_1 ∧ Aside0 (stolonref15_Table.l0 kq l0 x3_1 = some r) ∧ Aside0 (kq ≤ k) ∧ Aside0 (Below w.heap.size w w'))
 case atStart => exact ⟨(0), (by first | rfl | (simp; done) | (simp [*]; done)), H', ⟨Nat.le_refl _⟩, ⟨bz_⟩⟩
 case round =>
  clear H'
  obtain ⟨x3_1, rfl, HA, HK1, HB⟩ := hrel
  cases gk with
  | zero => exact absurd HA.out (by simp [stolonref15_Table.l0])
  | succ k1 =>
   have H := HA.out
   clear HA
   simp only [stolonref15_Table.l0] at H
   by_cases c2 : x3_1 < (l0.length : Int)
   ·rw [if_pos c2] at H
    have c2b0 : decide (x3_1 < (l0.length : Int)) = true := decide_eq_true c2
    clear c2
    by_cases c3 : 0 ≤ x3_1
    ·rw [if_pos c3] at H
     have c3b0 : decide (0 ≤ x3_1) = true := decide_eq_true c3
     clear c3
     replace H := Option.bind_eq_some_iff.mp H
     obtain ⟨t225, A40, H⟩ := H
     replace H : (if t225 = true then (if x3_1 > 0 then (if 0 ≤ (wrap64 (x3_1 - 1)) then (if (wrap64 (x3_1 - 1)) < (l0.length : Int) then ((stolonref15_less.f ((rd_T29 l0 (wrap64 (x3_1 - 1))).f0) ((rd_T29 l0 (wrap64 (x3_1 - 1))).f1) ((rd_T29 l0 (wrap64 (x3_1 - 1))).f2) ((rd_T29 l0 (wrap64 (x3_1 - 1))).f3) ((rd_T29 l0 (wrap64 (x3_1 - 1))).f4) ((rd_T29 l0 (wrap64 (x3_1 - 1))).f5) ((rd_T29 l0 x3_1).f0) ((rd_T29 l0 x3_1).f1) ((rd_T29 l0 x3_1).f2) ((rd_T29 l0 x3_1).f3) ((rd_T29 l0 x3_1).f4) ((rd_T29 l0 x3_1).f5)).bind fun t228 => (if t228 = true then (stolonref15_Table.l0 k1 l0 (wrap64 (x3_1 + 1))) else (some false))) else (none)) else (none)) else (stolonref15_Table.l0 k1 l0 (wrap64 (x3_1 + 1)))) else (some false)) = some r := H
     have A4 := m_ A40
     clear A40
     by_cases c5 : t225 = true
     ·subst c5
      have H1 : (if x3_1 > 0 then (if 0 ≤ (wrap64 (x3_1 - 1)) then (if (wrap64 (x3_1 - 1)) < (l0.length : Int) then ((stolonref15_less.f ((rd_T29 l0 (wrap64 (x3_1 - 1))).f0) ((rd_T29 l0 (wrap64 (x3_1 - 1))).f1) ((rd_T29 l0 (wrap64 (x3_1 - 1))).f2) ((rd_T29 l0 (wrap64 (x3_1 - 1))).f3) ((rd_T29 l0 (wrap64 (x3_1 - 1))).f4) ((rd_T29 l0 (wrap64 (x3_1 - 1))).f5) ((rd_T29 l0 x3_1).f0) ((rd_T29 l0 x3_1).f1) ((rd_T29 l0 x3_1).f2) ((rd_T29 l0 x3_1).f3) ((rd_T29 l0 x3_1).f4) ((rd_T29 l0 x3_1).f5)).bind fun t228 => (if t228 = true then (stolonref15_Table.l0 k1 l0 (wrap64 (x3_1 + 1))) else (some false))) else (none)) else (none)) else (stolonref15_Table.l0 k1 l0 (wrap64 (x3_1 + 1)))) = some r := by rw [if_pos rfl] at H; exact H
      clear H
      have H := H1
      clear H1
      by_cases c6 : x3_1 > 0
      ·rw [if_pos c6] at H
       have c6b0 : decide (0 < x3_1) = true := decide_eq_true c6
       clear c6
       obtain ⟨ji7, hji7⟩ : ∃ j_ : Int, (wrap64 (x3_1 - 1)) = j_ := ⟨_, rfl⟩
       replace H : (if 0 ≤ (ji7) then (if (ji7) < (l0.length : Int) then ((stolonref15_less.f ((rd_T29 l0 (ji7)).f0) ((rd_T29 l0 (ji7)).f1) ((rd_T29 l0 (ji7)).f2) ((rd_T29 l0 (ji7)).f3) ((rd_T29 l0 (ji7)).f4) ((rd_T29 l0 (ji7)).f5) ((rd_T29 l0 x3_1).f0) ((rd_T29 l0 x3_1).f1) ((rd_T29 l0 x3_1).f2) ((rd_T29 l0 x3_1).f3) ((rd_T29 l0 x3_1).f4) ((rd_T29 l0 x3_1).f5)).bind fun t228 => (if t228 = true then (stolonref15_Table.l0 k1 l0 (wrap64 (x3_1 + 1))) else (some false))) else (none)) else (none)) = some r := by first | (rw [hji7] at H; exact H) | (simp only [hji7] at H ⊢; exact H)
       (try rw [hji7] at A4)
       have hji7w : (IntKind.i64.wrap (x3_1 - 1)) = ji7 := (i64_w _).trans hji7
       by_cases c8 : 0 ≤ (ji7)
       ·rw [if_pos c8] at H
        have c8b0 : decide (0 ≤ (ji7)) = true := decide_eq_true c8
        clear c8
        by_cases c9 : (ji7) < (l0.length : Int)
        ·rw [if_pos c9] at H
         have c9b0 : decide ((ji7) < (l0.length : Int)) = true := decide_eq_true c9
         clear c9
         replace H := Option.bind_eq_some_iff.mp H
         obtain ⟨t228, A100, H⟩ := H
         replace H : (if t228 = true then (stolonref15_Table.l0 k1 l0 (wrap64 (x3_1 + 1))) else (some false)) = some r := H
         have A10 := m_ A100
         clear A100
         by_cases c11 : t228 = true
         ·subst c11
          have H1 : (stolonref15_Table.l0 k1 l0 (wrap64 (x3_1 + 1))) = some r := by rw [if_pos rfl] at H; exact H
          clear H
          have H := H1
          clear H1
          have H' := m_ H
          clear H
          have p224 : 0 ≤ (x3_1 : Int) := od_
          have q224 : x3_1 < (l0.length : Int) := od_
          obtain ⟨ad224, A224_5, c224_5, e224, hx224_0, hx224_1, hx224_2, hx224_3, hx224_4, hx224_5, hl224_5, hi224_5⟩ := at_T29 HR0.out x3_1 p224 q224
          cases e224
          replace hx224_0 := kp_ HB.out hx224_0
          replace hx224_1 := kp_ HB.out hx224_1
          replace hx224_2 := kp_ HB.out hx224_2
          replace hx224_3 := kp_ HB.out hx224_3
          replace hx224_4 := kp_ HB.out hx224_4
          replace hx224_5 := kp_ HB.out hx224_5
          have HR224_5 := m_ hi224_5
          have HC224_5 := m_ hl224_5
          clear hi224_5 hl224_5
          replace p224 := eq_true p224
          replace q224 := eq_true q224
          try go_wp2_with (first | ((with_reducible refine gate_callee (f := 21) rfl ?_); refine gL_ (some 15) Try.func21 #[.agg #[.int .u32 ((rd_T29 l0 x3_1).f0), .int .u32 ((rd_T29 l0 x3_1).f1), .int .u32 ((rd_T29 l0 x3_1).f2), .int .i64 ((rd_T29 l0 x3_1).f3), .int .u32 ((rd_T29 l0 x3_1).f4), .slice A224_5 ((rd_T29 l0 x3_1).f5).length c224_5]] ?_; (with_reducible refine (stolonref15_Right.calls k1 ((rd_T29 l0 x3_1).f0) ((rd_T29 l0 x3_1).f1) ((rd_T29 l0 x3_1).f2) ((rd_T29 l0 x3_1).f3) ((rd_T29 l0 x3_1).f4) _ _ ((rd_T29 l0 x3_1).f5) true _ ?side1 ?side2 A4.out).mono ?_); (case side1 => exact Cd_ (Kd.C_below HR224_5.out HB.out)); (case side2 => exact HC224_5.out); rintro e w12 ⟨rfl, hb⟩; refine ⟨_, rfl, ?_⟩; replace HB := m_ (below_step bz_ hb); (try clear hb); (try clear hb2); (try clear hk); (try clear hi)))
          replace HB := m_ (below_drew1 HB.out)
          have p226 : 0 ≤ ((ji7) : Int) := od_
          have q226 : (ji7) < (l0.length : Int) := od_
          obtain ⟨ad226, A226_5, c226_5, e226, hx226_0, hx226_1, hx226_2, hx226_3, hx226_4, hx226_5, hl226_5, hi226_5⟩ := at_T29 HR0.out (ji7) p226 q226
          have hw226_5 := hx226_5
          have hw226_4 := hx226_4
          have hw226_3 := hx226_3
          have hw226_2 := hx226_2
          have hw226_1 := hx226_1
          have hw226_0 := hx226_0
          obtain rfl : ad224 = ad226 := (by injection e226)
          replace hx226_0 := kp_ HB.out hx226_0
          replace hx226_1 := kp_ HB.out hx226_1
          replace hx226_2 := kp_ HB.out hx226_2
          replace hx226_3 := kp_ HB.out hx226_3
          replace hx226_4 := kp_ HB.out hx226_4
          replace hx226_5 := kp_ HB.out hx226_5
          have HR226_5 := m_ hi226_5
          have HC226_5 := m_ hl226_5
          clear hi226_5 hl226_5
          replace p226 := eq_true p226
          replace q226 := eq_true q226
          have p227 : 0 ≤ (x3_1 : Int) := od_
          have q227 : x3_1 < (l0.length : Int) := od_
          obtain ⟨ad227, A227_5, c227_5, e227, hx227_0, hx227_1, hx227_2, hx227_3, hx227_4, hx227_5, hl227_5, hi227_5⟩ := at_T29 HR0.out x3_1 p227 q227
          have hw227_5 := hx227_5
          have hw227_4 := hx227_4
          have hw227_3 := hx227_3
          have hw227_2 := hx227_2
          have hw227_1 := hx227_1
          have hw227_0 := hx227_0
          obtain rfl : ad224 = ad227 := (by injection e227)
          replace hx227_0 := kp_ HB.out hx227_0
          replace hx227_1 := kp_ HB.out hx227_1
          replace hx227_2 := kp_ HB.out hx227_2
          replace hx227_3 := kp_ HB.out hx227_3
          replace hx227_4 := kp_ HB.out hx227_4
          replace hx227_5 := kp_ HB.out hx227_5
          have HR227_5 := m_ hi227_5
          have HC227_5 := m_ hl227_5
          clear hi227_5 hl227_5
          replace p227 := eq_true p227
          replace q227 := eq_true q227
          refine start_ (n := 19) (S := fun w' => w'.cell? (ad224.add (((ji7)).toNat * 6)) = some (.int .u32 ((rd_T29 l0 (ji7)).f0)) ∧ w'.cell? ⟨(ad224.add (((ji7)).toNat * 6)).block, (ad224.add (((ji7)).toNat * 6)).off + 1, none⟩ = some (.int .u32 ((rd_T29 l0 (ji7)).f1)) ∧ w'.cell? ⟨(ad224.add (((ji7)).toNat * 6)).block, (ad224.add (((ji7)).toNat * 6)).off + 2, none⟩ = some (.int .u32 ((rd_T29 l0 (ji7)).f2)) ∧ w'.cell? ⟨(ad224.add (((ji7)).toNat * 6)).block, (ad224.add (((ji7)).toNat * 6)).off + 3, none⟩ = some (.int .i64 ((rd_T29 l0 (ji7)).f3)) ∧ w'.cell? ⟨(ad224.add (((ji7)).toNat * 6)).block, (ad224.add (((ji7)).toNat * 6)).off + 4, none⟩ = some (.int .u32 ((rd_T29 l0 (ji7)).f4)) ∧ w'.cell? ⟨(ad224.add (((ji7)).toNat * 6)).block, (ad224.add (((ji7)).toNat * 6)).off + 5, none⟩ = some (.slice A226_5 ((rd_T29 l0 (ji7)).f5).length c226_5) ∧ w'.cell? (ad224.add ((x3_1).toNat * 6)) = some (.int .u32 ((rd_T29 l0 x3_1).f0)) ∧ w'.cell? ⟨(ad224.add ((x3_1).toNat * 6)).block, (ad224.add ((x3_1).toNat * 6)).off + 1, none⟩ = some (.int .u32 ((rd_T29 l0 x3_1).f1)) ∧ w'.cell? ⟨(ad224.add ((x3_1).toNat * 6)).block, (ad224.add ((x3_1).toNat * 6)).off + 2, none⟩ = some (.int .u32 ((rd_T29 l0 x3_1).f2)) ∧ w'.cell? ⟨(ad224.add ((x3_1).toNat * 6)).block, (ad224.add ((x3_1).toNat * 6)).off + 3, none⟩ = some (.int .i64 ((rd_T29 l0 x3_1).f3)) ∧ w'.cell? ⟨(ad224.add ((x3_1).toNat * 6)).block, (ad224.add ((x3_1).toNat * 6)).off + 4, none⟩ = some (.int .u32 ((rd_T29 l0 x3_1).f4)) ∧ w'.cell? ⟨(ad224.add ((x3_1).toNat * 6)).block, (ad224.add ((x3_1).toNat * 6)).off + 5, none⟩ = some (.slice A227_5 ((rd_T29 l0 x3_1).f5).length c227_5)) (ds := []) (bs_ 19 0) (by kernel_rfl) rfl rfl ⟨(kp_ HB.out hw226_0), (kp_ HB.out hw226_1), (kp_ HB.out hw226_2), (kp_ HB.out hw226_3), (kp_ HB.out hw226_4), (kp_ HB.out hw226_5), (kp_ HB.out hw227_0), (kp_ HB.out hw227_1), (kp_ HB.out hw227_2), (kp_ HB.out hw227_3), (kp_ HB.out hw227_4), (kp_ HB.out hw227_5)⟩ (fun hHeld => ?_); refine with_tabW stolonref15_Table.tab5 stolonref15_Table.bits5 (fun HT_ HW_ => ?_)
          generalize w12.drew = w13 at HB HR226_5 HR227_5 hx226_0 hx226_1 hx226_2 hx226_3 hx226_4 hx226_5 hx227_0 hx227_1 hx227_2 hx227_3 hx227_4 hx227_5 hHeld ⊢
          refine pz_ 0 16 ?_
          refine pz_ 1 17 ?_
          refine pz_ 2 18 ?_
          refine pz_ 3 19 ?_
          refine pz_ 4 20 ?_
          refine pz_ 5 21 ?_
          refine pz_ 6 22 ?_
          refine pz_ 7 23 ?_
          refine pz_ 8 24 ?_
          refine pz_ 9 25 ?_
          refine pz_ 11 27 ?_
          refine pz_ 12 28 ?_
          refine pz_ 13 29 ?_
          refine tz_ 10 26 ?_
          refine tz_ 14 30 ?_
          refine oz_ 15 (some 31) (fun K hK => ?_)
          refine goes_ Try.func35 (by kernel_rfl) rfl #[.agg #[.int .u32 ((rd_T29 l0 (ji7)).f0), .int .u32 ((rd_T29 l0 (ji7)).f1), .int .u32 ((rd_T29 l0 (ji7)).f2), .int .i64 ((rd_T29 l0 (ji7)).f3), .int .u32 ((rd_T29 l0 (ji7)).f4), .slice A226_5 ((rd_T29 l0 (ji7)).f5).length c226_5], .agg #[.int .u32 ((rd_T29 l0 x3_1).f0), .int .u32 ((rd_T29 l0 x3_1).f1), .int .u32 ((rd_T29 l0 x3_1).f2), .int .i64 ((rd_T29 l0 x3_1).f3), .int .u32 ((rd_T29 l0 x3_1).f4), .slice A227_5 ((rd_T29 l0 x3_1).f5).length c227_5]] (by rfl) rfl rfl (by (try simp only [List.map_toArray, List.map_cons, List.map_nil]); first | done | (simp only [hji7]; rfl) | rfl | (simp only [List.length_drop, List.length_take]; rfl)) ?_
          with_reducible refine (stolonref15_less.calls ((rd_T29 l0 (ji7)).f0) ((rd_T29 l0 (ji7)).f1) ((rd_T29 l0 (ji7)).f2) ((rd_T29 l0 (ji7)).f3) ((rd_T29 l0 (ji7)).f4) _ _ ((rd_T29 l0 (ji7)).f5) ((rd_T29 l0 x3_1).f0) ((rd_T29 l0 x3_1).f1) ((rd_T29 l0 x3_1).f2) ((rd_T29 l0 x3_1).f3) ((rd_T29 l0 x3_1).f4) _ _ ((rd_T29 l0 x3_1).f5) true _ ?side1 ?side2 ?side3 ?side4 A10.out).mono ?_
          (case side1 => exact Cd_ (Kd.C_below HR226_5.out HB.out))
          (case side2 => exact HC226_5.out)
          (case side3 => exact Cd_ (Kd.C_below HR227_5.out HB.out))
          (case side4 => exact HC227_5.out)
          rintro e w14 ⟨rfl, hb⟩
          refine ⟨_, rfl, ?_⟩
          replace HB := m_ (below_step bz_ hb)
          (try clear hb)
          (try clear hb2)
          (try clear hk)
          (try clear hi)
          refine hK.out _ _ ⟨(kp_ HB.out hw226_0), (kp_ HB.out hw226_1), (kp_ HB.out hw226_2), (kp_ HB.out hw226_3), (kp_ HB.out hw226_4), (kp_ HB.out hw226_5), (kp_ HB.out hw227_0), (kp_ HB.out hw227_1), (kp_ HB.out hw227_2), (kp_ HB.out hw227_3), (kp_ HB.out hw227_4), (kp_ HB.out hw227_5)⟩ (fun hHeld => ?_)
          clear hK K
          refine nz_ (some 31) ?_
          refine pz_ 16 32 ?_
          refine pz_ 17 33 ?_
          refine pz_ 18 34 ?_
          refine dz_ ?_
          try go_wp2
          go_roundg k1
          case measure => have := HK1.out; omega
          case rel => exact ⟨(wrap64 (x3_1 + 1)), (by first | rfl | (simp; done) | (simp [*]; done)), H', ⟨by have := HK1.out; omega⟩, ⟨bz_⟩⟩
         ·replace c11 := Bool.eq_false_iff.mpr c11
          subst c11
          have H1 : (some false) = some r := by rw [if_neg (show ¬ (false = true) by decide)] at H; exact H
          clear H
          have H := H1
          clear H1
          obtain rfl := Option.some.inj H
          have p224 : 0 ≤ (x3_1 : Int) := od_
          have q224 : x3_1 < (l0.length : Int) := od_
          obtain ⟨ad224, A224_5, c224_5, e224, hx224_0, hx224_1, hx224_2, hx224_3, hx224_4, hx224_5, hl224_5, hi224_5⟩ := at_T29 HR0.out x3_1 p224 q224
          cases e224
          replace hx224_0 := kp_ HB.out hx224_0
          replace hx224_1 := kp_ HB.out hx224_1
          replace hx224_2 := kp_ HB.out hx224_2
          replace hx224_3 := kp_ HB.out hx224_3
          replace hx224_4 := kp_ HB.out hx224_4
          replace hx224_5 := kp_ HB.out hx224_5
          have HR224_5 := m_ hi224_5
          have HC224_5 := m_ hl224_5
          clear hi224_5 hl224_5
          replace p224 := eq_true p224
          replace q224 := eq_true q224
          try go_wp2_with (first | ((with_reducible refine gate_callee (f := 21) rfl ?_); refine gL_ (some 15) Try.func21 #[.agg #[.int .u32 ((rd_T29 l0 x3_1).f0), .int .u32 ((rd_T29 l0 x3_1).f1), .int .u32 ((rd_T29 l0 x3_1).f2), .int .i64 ((rd_T29 l0 x3_1).f3), .int .u32 ((rd_T29 l0 x3_1).f4), .slice A224_5 ((rd_T29 l0 x3_1).f5).length c224_5]] ?_; (with_reducible refine (stolonref15_Right.calls k1 ((rd_T29 l0 x3_1).f0) ((rd_T29 l0 x3_1).f1) ((rd_T29 l0 x3_1).f2) ((rd_T29 l0 x3_1).f3) ((rd_T29 l0 x3_1).f4) _ _ ((rd_T29 l0 x3_1).f5) true _ ?side1 ?side2 A4.out).mono ?_); (case side1 => exact Cd_ (Kd.C_below HR224_5.out HB.out)); (case side2 => exact HC224_5.out); rintro e w15 ⟨rfl, hb⟩; refine ⟨_, rfl, ?_⟩; replace HB := m_ (below_step bz_ hb); (try clear hb); (try clear hb2); (try clear hk); (try clear hi)))
          replace HB := m_ (below_drew1 HB.out)
          have p226 : 0 ≤ ((ji7) : Int) := od_
          have q226 : (ji7) < (l0.length : Int) := od_
          obtain ⟨ad226, A226_5, c226_5, e226, hx226_0, hx226_1, hx226_2, hx226_3, hx226_4, hx226_5, hl226_5, hi226_5⟩ := at_T29 HR0.out (ji7) p226 q226
          have hw226_5 := hx226_5
          have hw226_4 := hx226_4
          have hw226_3 := hx226_3
          have hw226_2 := hx226_2
          have hw226_1 := hx226_1
          have hw226_0 := hx226_0
          obtain rfl : ad224 = ad226 := (by injection e226)
          replace hx226_0 := kp_ HB.out hx226_0
          replace hx226_1 := kp_ HB.out hx226_1
          replace hx226_2 := kp_ HB.out hx226_2
          replace hx226_3 := kp_ HB.out hx226_3
          replace hx226_4 := kp_ HB.out hx226_4
          replace hx226_5 := kp_ HB.out hx226_5
          have HR226_5 := m_ hi226_5
          have HC226_5 := m_ hl226_5
          clear hi226_5 hl226_5
          replace p226 := eq_true p226
          replace q226 := eq_true q226
          have p227 : 0 ≤ (x3_1 : Int) := od_
          have q227 : x3_1 < (l0.length : Int) := od_
          obtain ⟨ad227, A227_5, c227_5, e227, hx227_0, hx227_1, hx227_2, hx227_3, hx227_4, hx227_5, hl227_5, hi227_5⟩ := at_T29 HR0.out x3_1 p227 q227
          have hw227_5 := hx227_5
          have hw227_4 := hx227_4
          have hw227_3 := hx227_3
          have hw227_2 := hx227_2
          have hw227_1 := hx227_1
          have hw227_0 := hx227_0
          obtain rfl : ad224 = ad227 := (by injection e227)
          replace hx227_0 := kp_ HB.out hx227_0
          replace hx227_1 := kp_ HB.out hx227_1
          replace hx227_2 := kp_ HB.out hx227_2
          replace hx227_3 := kp_ HB.out hx227_3
          replace hx227_4 := kp_ HB.out hx227_4
          replace hx227_5 := kp_ HB.out hx227_5
          have HR227_5 := m_ hi227_5
          have HC227_5 := m_ hl227_5
          clear hi227_5 hl227_5
          replace p227 := eq_true p227
          replace q227 := eq_true q227
          refine start_ (n := 19) (S := fun w' => w'.cell? (ad224.add (((ji7)).toNat * 6)) = some (.int .u32 ((rd_T29 l0 (ji7)).f0)) ∧ w'.cell? ⟨(ad224.add (((ji7)).toNat * 6)).block, (ad224.add (((ji7)).toNat * 6)).off + 1, none⟩ = some (.int .u32 ((rd_T29 l0 (ji7)).f1)) ∧ w'.cell? ⟨(ad224.add (((ji7)).toNat * 6)).block, (ad224.add (((ji7)).toNat * 6)).off + 2, none⟩ = some (.int .u32 ((rd_T29 l0 (ji7)).f2)) ∧ w'.cell? ⟨(ad224.add (((ji7)).toNat * 6)).block, (ad224.add (((ji7)).toNat * 6)).off + 3, none⟩ = some (.int .i64 ((rd_T29 l0 (ji7)).f3)) ∧ w'.cell? ⟨(ad224.add (((ji7)).toNat * 6)).block, (ad224.add (((ji7)).toNat * 6)).off + 4, none⟩ = some (.int .u32 ((rd_T29 l0 (ji7)).f4)) ∧ w'.cell? ⟨(ad224.add (((ji7)).toNat * 6)).block, (ad224.add (((ji7)).toNat * 6)).off + 5, none⟩ = some (.slice A226_5 ((rd_T29 l0 (ji7)).f5).length c226_5) ∧ w'.cell? (ad224.add ((x3_1).toNat * 6)) = some (.int .u32 ((rd_T29 l0 x3_1).f0)) ∧ w'.cell? ⟨(ad224.add ((x3_1).toNat * 6)).block, (ad224.add ((x3_1).toNat * 6)).off + 1, none⟩ = some (.int .u32 ((rd_T29 l0 x3_1).f1)) ∧ w'.cell? ⟨(ad224.add ((x3_1).toNat * 6)).block, (ad224.add ((x3_1).toNat * 6)).off + 2, none⟩ = some (.int .u32 ((rd_T29 l0 x3_1).f2)) ∧ w'.cell? ⟨(ad224.add ((x3_1).toNat * 6)).block, (ad224.add ((x3_1).toNat * 6)).off + 3, none⟩ = some (.int .i64 ((rd_T29 l0 x3_1).f3)) ∧ w'.cell? ⟨(ad224.add ((x3_1).toNat * 6)).block, (ad224.add ((x3_1).toNat * 6)).off + 4, none⟩ = some (.int .u32 ((rd_T29 l0 x3_1).f4)) ∧ w'.cell? ⟨(ad224.add ((x3_1).toNat * 6)).block, (ad224.add ((x3_1).toNat * 6)).off + 5, none⟩ = some (.slice A227_5 ((rd_T29 l0 x3_1).f5).length c227_5)) (ds := []) (bs_ 19 0) (by kernel_rfl) rfl rfl ⟨(kp_ HB.out hw226_0), (kp_ HB.out hw226_1), (kp_ HB.out hw226_2), (kp_ HB.out hw226_3), (kp_ HB.out hw226_4), (kp_ HB.out hw226_5), (kp_ HB.out hw227_0), (kp_ HB.out hw227_1), (kp_ HB.out hw227_2), (kp_ HB.out hw227_3), (kp_ HB.out hw227_4), (kp_ HB.out hw227_5)⟩ (fun hHeld => ?_); refine with_tabW stolonref15_Table.tab5 stolonref15_Table.bits5 (fun HT_ HW_ => ?_)
          generalize w15.drew = w16 at HB HR226_5 HR227_5 hx226_0 hx226_1 hx226_2 hx226_3 hx226_4 hx226_5 hx227_0 hx227_1 hx227_2 hx227_3 hx227_4 hx227_5 hHeld ⊢
          refine pz_ 0 16 ?_
          refine pz_ 1 17 ?_
          refine pz_ 2 18 ?_
          refine pz_ 3 19 ?_
          refine pz_ 4 20 ?_
          refine pz_ 5 21 ?_
          refine pz_ 6 22 ?_
          refine pz_ 7 23 ?_
          refine pz_ 8 24 ?_
          refine pz_ 9 25 ?_
          refine pz_ 11 27 ?_
          refine pz_ 12 28 ?_
          refine pz_ 13 29 ?_
          refine tz_ 10 26 ?_
          refine tz_ 14 30 ?_
          refine oz_ 15 (some 31) (fun K hK => ?_)
          refine goes_ Try.func35 (by kernel_rfl) rfl #[.agg #[.int .u32 ((rd_T29 l0 (ji7)).f0), .int .u32 ((rd_T29 l0 (ji7)).f1), .int .u32 ((rd_T29 l0 (ji7)).f2), .int .i64 ((rd_T29 l0 (ji7)).f3), .int .u32 ((rd_T29 l0 (ji7)).f4), .slice A226_5 ((rd_T29 l0 (ji7)).f5).length c226_5], .agg #[.int .u32 ((rd_T29 l0 x3_1).f0), .int .u32 ((rd_T29 l0 x3_1).f1), .int .u32 ((rd_T29 l0 x3_1).f2), .int .i64 ((rd_T29 l0 x3_1).f3), .int .u32 ((rd_T29 l0 x3_1).f4), .slice A227_5 ((rd_T29 l0 x3_1).f5).length c227_5]] (by rfl) rfl rfl (by (try simp only [List.map_toArray, List.map_cons, List.map_nil]); first | done | (simp only [hji7]; rfl) | rfl | (simp only [List.length_drop, List.length_take]; rfl)) ?_
          with_reducible refine (stolonref15_less.calls ((rd_T29 l0 (ji7)).f0) ((rd_T29 l0 (ji7)).f1) ((rd_T29 l0 (ji7)).f2) ((rd_T29 l0 (ji7)).f3) ((rd_T29 l0 (ji7)).f4) _ _ ((rd_T29 l0 (ji7)).f5) ((rd_T29 l0 x3_1).f0) ((rd_T29 l0 x3_1).f1) ((rd_T29 l0 x3_1).f2) ((rd_T29 l0 x3_1).f3) ((rd_T29 l0 x3_1).f4) _ _ ((rd_T29 l0 x3_1).f5) false _ ?side1 ?side2 ?side3 ?side4 A10.out).mono ?_
          (case side1 => exact Cd_ (Kd.C_below HR226_5.out HB.out))
          (case side2 => exact HC226_5.out)
          (case side3 => exact Cd_ (Kd.C_below HR227_5.out HB.out))
          (case side4 => exact HC227_5.out)
          rintro e w17 ⟨rfl, hb⟩
          refine ⟨_, rfl, ?_⟩
          replace HB := m_ (below_step bz_ hb)
          (try clear hb)
          (try clear hb2)
          (try clear hk)
          (try clear hi)
          refine hK.out _ _ ⟨(kp_ HB.out hw226_0), (kp_ HB.out hw226_1), (kp_ HB.out hw226_2), (kp_ HB.out hw226_3), (kp_ HB.out hw226_4), (kp_ HB.out hw226_5), (kp_ HB.out hw227_0), (kp_ HB.out hw227_1), (kp_ HB.out hw227_2), (kp_ HB.out hw227_3), (kp_ HB.out hw227_4), (kp_ HB.out hw227_5)⟩ (fun hHeld => ?_)
          clear hK K
          refine nz_ (some 31) ?_
          refine pz_ 16 32 ?_
          refine pz_ 17 33 ?_
          refine pz_ 18 34 ?_
          refine dz_ ?_
          try go_wp2
          go_ret
          exact ⟨(by first | rfl | (simp [errW_none, errW_some] <;> rfl) | (simp only [← hji7]; first | rfl | (simp [errW_none, errW_some] <;> rfl)) | (simp [*, errW_none, errW_some] <;> rfl)), bz_⟩
        ·rw [if_neg c9] at H
         exact absurd H (by simp)
       ·rw [if_neg c8] at H
        exact absurd H (by simp)
      ·rw [if_neg c6] at H
       have c6b0 : decide (0 < x3_1) = false := decide_eq_false c6
       clear c6
       have H' := m_ H
       clear H
       have p224 : 0 ≤ (x3_1 : Int) := od_
       have q224 : x3_1 < (l0.length : Int) := od_
       obtain ⟨ad224, A224_5, c224_5, e224, hx224_0, hx224_1, hx224_2, hx224_3, hx224_4, hx224_5, hl224_5, hi224_5⟩ := at_T29 HR0.out x3_1 p224 q224
       cases e224
       replace hx224_0 := kp_ HB.out hx224_0
       replace hx224_1 := kp_ HB.out hx224_1
       replace hx224_2 := kp_ HB.out hx224_2
       replace hx224_3 := kp_ HB.out hx224_3
       replace hx224_4 := kp_ HB.out hx224_4
       replace hx224_5 := kp_ HB.out hx224_5
       have HR224_5 := m_ hi224_5
       have HC224_5 := m_ hl224_5
       clear hi224_5 hl224_5
       replace p224 := eq_true p224
       replace q224 := eq_true q224
       try go_wp2_with (first | ((with_reducible refine gate_callee (f := 21) rfl ?_); refine gL_ (some 15) Try.func21 #[.agg #[.int .u32 ((rd_T29 l0 x3_1).f0), .int .u32 ((rd_T29 l0 x3_1).f1), .int .u32 ((rd_T29 l0 x3_1).f2), .int .i64 ((rd_T29 l0 x3_1).f3), .int .u32 ((rd_T29 l0 x3_1).f4), .slice A224_5 ((rd_T29 l0 x3_1).f5).length c224_5]] ?_; (with_reducible refine (stolonref15_Right.calls k1 ((rd_T29 l0 x3_1).f0) ((rd_T29 l0 x3_1).f1) ((rd_T29 l0 x3_1).f2) ((rd_T29 l0 x3_1).f3) ((rd_T29 l0 x3_1).f4) _ _ ((rd_T29 l0 x3_1).f5) true _ ?side1 ?side2 A4.out).mono ?_); (case side1 => exact Cd_ (Kd.C_below HR224_5.out HB.out)); (case side2 => exact HC224_5.out); rintro e w18 ⟨rfl, hb⟩; refine ⟨_, rfl, ?_⟩; replace HB := m_ (below_step bz_ hb); (try clear hb); (try clear hb2); (try clear hk); (try clear hi)))
       replace HB := m_ (below_drew1 HB.out)
       refine start_ (n := 19) (S := fun w' => True) (ds := []) (bs_ 19 0) (by kernel_rfl) rfl rfl trivial (fun hHeld => ?_); refine with_tabW stolonref15_Table.tab5 stolonref15_Table.bits5 (fun HT_ HW_ => ?_)
       generalize w18.drew = w19 at HB hHeld ⊢
       refine pz_ 0 16 ?_
       refine pz_ 1 17 ?_
       refine pz_ 2 18 ?_
       refine pz_ 3 19 ?_
       refine pz_ 4 20 ?_
       refine pz_ 5 21 ?_
       refine pz_ 6 22 ?_
       refine pz_ 7 23 ?_
       refine pz_ 8 24 ?_
       refine pz_ 9 25 ?_
       refine pz_ 10 26 ?_
       refine pz_ 11 27 ?_
       refine pz_ 12 28 ?_
       refine pz_ 13 29 ?_
       refine pz_ 14 30 ?_
       refine pz_ 15 31 ?_
       refine pz_ 16 32 ?_
       refine pz_ 17 33 ?_
       refine pz_ 18 34 ?_
       refine dz_ ?_
       try go_wp2
       go_roundg k1
       case measure => have := HK1.out; omega
       case rel => exact ⟨(wrap64 (x3_1 + 1)), (by first | rfl | (simp; done) | (simp [*]; done)), H', ⟨by have := HK1.out; omega⟩, ⟨bz_⟩⟩
     ·replace c5 := Bool.eq_false_iff.mpr c5
      subst c5
      have H1 : (some false) = some r := by rw [if_neg (show ¬ (false = true) by decide)] at H; exact H
      clear H
      have H := H1
      clear H1
      obtain rfl := Option.some.inj H
      have p224 : 0 ≤ (x3_1 : Int) := od_
      have q224 : x3_1 < (l0.length : Int) := od_
      obtain ⟨ad224, A224_5, c224_5, e224, hx224_0, hx224_1, hx224_2, hx224_3, hx224_4, hx224_5, hl224_5, hi224_5⟩ := at_T29 HR0.out x3_1 p224 q224
      cases e224
      replace hx224_0 := kp_ HB.out hx224_0
      replace hx224_1 := kp_ HB.out hx224_1
      replace hx224_2 := kp_ HB.out hx224_2
      replace hx224_3 := kp_ HB.out hx224_3
      replace hx224_4 := kp_ HB.out hx224_4
      replace hx224_5 := kp_ HB.out hx224_5
      have HR224_5 := m_ hi224_5
      have HC224_5 := m_ hl224_5
      clear hi224_5 hl224_5
      replace p224 := eq_true p224
      replace q224 := eq_true q224
      try go_wp2_with (first | ((with_reducible refine gate_callee (f := 21) rfl ?_); refine gL_ (some 15) Try.func21 #[.agg #[.int .u32 ((rd_T29 l0 x3_1).f0), .int .u32 ((rd_T29 l0 x3_1).f1), .int .u32 ((rd_T29 l0 x3_1).f2), .int .i64 ((rd_T29 l0 x3_1).f3), .int .u32 ((rd_T29 l0 x3_1).f4), .slice A224_5 ((rd_T29 l0 x3_1).f5).length c224_5]] ?_; (with_reducible refine (stolonref15_Right.calls k1 ((rd_T29 l0 x3_1).f0) ((rd_T29 l0 x3_1).f1) ((rd_T29 l0 x3_1).f2) ((rd_T29 l0 x3_1).f3) ((rd_T29 l0 x3_1).f4) _ _ ((rd_T29 l0 x3_1).f5) false _ ?side1 ?side2 A4.out).mono ?_); (case side1 => exact Cd_ (Kd.C_below HR224_5.out HB.out)); (case side2 => exact HC224_5.out); rintro e w20 ⟨rfl, hb⟩; refine ⟨_, rfl, ?_⟩; replace HB := m_ (below_step bz_ hb); (try clear hb); (try clear hb2); (try clear hk); (try clear hi)))
      replace HB := m_ (below_drew1 HB.out)
      refine start_ (n := 19) (S := fun w' => True) (ds := []) (bs_ 19 0) (by kernel_rfl) rfl rfl trivial (fun hHeld => ?_); refine with_tabW stolonref15_Table.tab5 stolonref15_Table.bits5 (fun HT_ HW_ => ?_)
      generalize w20.drew = w21 at HB hHeld ⊢
      refine pz_ 0 16 ?_
      refine pz_ 1 17 ?_
      refine pz_ 2 18 ?_
      refine pz_ 3 19 ?_
      refine pz_ 4 20 ?_
      refine pz_ 5 21 ?_
      refine pz_ 6 22 ?_
      refine pz_ 7 23 ?_
      refine pz_ 8 24 ?_
      refine pz_ 9 25 ?_
      refine pz_ 10 26 ?_
      refine pz_ 11 27 ?_
      refine pz_ 12 28 ?_
      refine pz_ 13 29 ?_
      refine pz_ 14 30 ?_
      refine pz_ 15 31 ?_
      refine pz_ 16 32 ?_
      refine pz_ 17 33 ?_
      refine pz_ 18 34 ?_
      refine dz_ ?_
      try go_wp2
      go_ret
      exact ⟨ew_, bz_⟩
    ·rw [if_neg c3] at H
     exact absurd H (by simp)
   ·rw [if_neg c2] at H
    have c2b0 : decide (x3_1 < (l0.length : Int)) = false := decide_eq_false c2
    clear c2
    obtain rfl := Option.some.inj H
    go_wp2
    go_ret
    exact ⟨ew_, bz_⟩
end Go.Proofs.Ytfomnmdjbdohgaa.P

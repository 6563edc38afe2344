/- For each Go function a Lean function, and the proof that a call comes to what it tells: made by program out of the translation (the kit's print, with texts by hand put in). No condition. -/
import Derived.Test.YteibolilodgjnaaSq
import Derived.Test.YteibolilodgjnaaPx0
import Derived.Test.YteibolilodgjnaaPx12
import Derived.Test.YteibolilodgjnaaPx13
namespace Go.Proofs.Yteibolilodgjnaa.P
open Go.RowKit Go.Proofs.Yteibolilodgjnaa.HRows Go.Proofs.YteibolilodgjnaaW.PrintWords Go.Proofs.YteibolilodgjnaaW.PrintLast Go.Proofs.YteibolilodgjnaaW.PrintMore
attribute [local go_sem] max2_int min2_int max_two min_two max_three min_three max_four min_four   -- for this text's walks alone
set_option linter.unusedVariables false
set_option linter.unusedSimpArgs false

/-! ### stolonref15_Table: function 9 -/
def stolonref15_Table.l0 : Nat → List (S27) → Int → Option (Bool)
 | 0, _, _ => none
 | k + 1, x0, x3 => if x3 < (x0.length : Int) then (if 0 ≤ x3 then ((stolonref15_Right.f k ((rd_T27 x0 x3).f0) ((rd_T27 x0 x3).f1) ((rd_T27 x0 x3).f2) ((rd_T27 x0 x3).f3) ((rd_T27 x0 x3).f4) ((rd_T27 x0 x3).f5)).bind fun t180 => (if t180 = true then (if x3 > 0 then (if 0 ≤ (wrap64 (x3 - 1)) then (if (wrap64 (x3 - 1)) < (x0.length : Int) then ((stolonref15_less.f ((rd_T27 x0 (wrap64 (x3 - 1))).f0) ((rd_T27 x0 (wrap64 (x3 - 1))).f1) ((rd_T27 x0 (wrap64 (x3 - 1))).f2) ((rd_T27 x0 (wrap64 (x3 - 1))).f3) ((rd_T27 x0 (wrap64 (x3 - 1))).f4) ((rd_T27 x0 (wrap64 (x3 - 1))).f5) ((rd_T27 x0 x3).f0) ((rd_T27 x0 x3).f1) ((rd_T27 x0 x3).f2) ((rd_T27 x0 x3).f3) ((rd_T27 x0 x3).f4) ((rd_T27 x0 x3).f5)).bind fun t183 => (if t183 = true then (stolonref15_Table.l0 k x0 (wrap64 (x3 + 1))) else (some false))) else (none)) else (none)) else (stolonref15_Table.l0 k x0 (wrap64 (x3 + 1)))) else (some false))) else (none)) else (some true)
def stolonref15_Table.f (k : Nat) (l0 : List (S27)) : Option (Bool) := stolonref15_Table.l0 k l0 0
theorem stolonref15_Table.mono_l : ∀ k, (∀ y0 y1, LeO (stolonref15_Table.l0 k y0 y1) (stolonref15_Table.l0 (k + 1) y0 y1))
 | 0 => fun _ _ r h => by simp [stolonref15_Table.l0] at h
 | k + 1 => by
  have ih0 := stolonref15_Table.mono_l k
  ·intro y0 y1
   unfold stolonref15_Table.l0
   repeat' first
   | (with_reducible exact ih0 _ _)
   | (with_reducible exact stolonref15_Right.mono _ _ _ _ _ _ _)
   | (with_reducible exact LeO.refl _)
   | (with_reducible exact LeO.none _)
   | (with_reducible refine LeO.ite ?_ ?_)
   | (with_reducible refine LeO.bind ?_ (fun _ => ?_))
   | exact ih0 _ _
   | exact stolonref15_Right.mono _ _ _ _ _ _ _
   | exact LeO.none _
   | refine LeO.ite ?_ ?_
   | refine LeO.bind ?_ (fun _ => ?_)
theorem stolonref15_Table.mono : ∀ a0 k, LeO (stolonref15_Table.f k a0) (stolonref15_Table.f (k + 1) a0) := by
 intro a0 k
 have ih0 := stolonref15_Table.mono_l k
 unfold stolonref15_Table.f
 repeat' first
   | (with_reducible exact ih0 _ _)
   | (with_reducible exact stolonref15_Right.mono _ _ _ _ _ _ _)
   | (with_reducible exact LeO.refl _)
   | (with_reducible exact LeO.none _)
   | (with_reducible refine LeO.ite ?_ ?_)
   | (with_reducible refine LeO.bind ?_ (fun _ => ?_))
   | exact ih0 _ _
   | exact stolonref15_Right.mono _ _ _ _ _ _ _
   | exact LeO.none _
   | refine LeO.ite ?_ ?_
   | refine LeO.bind ?_ (fun _ => ?_)
def stolonref15_Table.T5 : Bool × List (List Nat × List Nat) := (true, [([], []), ([0], [0]), ([1], [1]), ([2], [2]), ([3, 2], [2, 3]), ([4, 2, 2], [2, 4]), ([5], [5]), ([5], [5]), ([7, 5], [5, 7]), ([6, 8, 5], [5, 6, 8]), ([9, 5], [5, 9]), ([5], [5]), ([5], [5]), ([11, 12, 5], [5, 11, 12]), ([13, 5], [5, 13]), ([10, 14, 5, 5], [5, 10, 14]), ([15, 5], [5, 15]), ([5, 16, 2], [2, 5, 16]), ([2, 17], [2, 17])])
def stolonref15_Table.B5 : List Nat := [0, 1, 3, 7, 15, 31, 63, 63, 191, 511, 1023, 63, 63, 6207, 14399, 32767, 65535, 131071, 262143]
theorem stolonref15_Table.tab5 : rtab .any (opsOf Try.f9 5) = stolonref15_Table.T5 := by kernel_rfl
theorem stolonref15_Table.bits5 : waitsOk stolonref15_Table.T5.2 stolonref15_Table.B5 = true := by kernel_rfl
set_option maxHeartbeats 8000000 in
set_option maxRecDepth 100000 in
theorem stolonref15_Table.calls (k : Nat) (A0 : Option Addr) (c0 : Nat) (l0 : List (S27)) (r : Bool) (w : World) (hr0 : Kd.C k27 w A0 l0.length l0) (hc0 : l0.length ≤ c0) (h : stolonref15_Table.f k l0 = some r) :
  Calls Try.prog 9 #[.slice A0 l0.length c0] w fun e w' => e = .returned (.bool r) ∧ Below w.heap.size w w' := by
 have hu27 := Try.underlying27
 have HR0 := m_ hr0
 have HC0 := m_ hc0
 clear hr0 hc0
 have HB := m_ (Below.refl w.heap.size w)
 have H : (stolonref15_Table.l0 k l0 0) = some r := h
 clear h
 have H' := m_ H
 clear H
 go_enter Try.func9, Try.ntmps9
 go_wp2
 go_loopg [3] k (fun kq v3 w' => ∃ (x3_1 : Int), v3 = .int .i64 x3_1 ∧ Aside0 (stolonref15_Table.l0 kq l0 x3_1 = some r) ∧ Aside0 (kq ≤ k) ∧ Aside0 (Below w.heap.size w w'))
 case atStart => exact ⟨(0), (by first | rfl | (simp; done) | (simp [*]; done)), H', ⟨Nat.le_refl _⟩, ⟨by repeat (first | (with_reducible first | exact HB.out | apply pa_ | apply pn_ | apply pd_) | exact HB.out)⟩⟩
 case round =>
  clear H'
  obtain ⟨x3_1, rfl, HA, HK1, HB⟩ := hrel
  cases gk with
  | zero => exact absurd HA.out (by simp [stolonref15_Table.l0])
  | succ k1 =>
   have H := HA.out
   clear HA
   simp only [stolonref15_Table.l0] at H
   by_cases c2 : x3_1 < (l0.length : Int)
   ·rw [if_pos c2] at H
    have c2b0 : decide (x3_1 < (l0.length : Int)) = true := decide_eq_true c2
    clear c2
    by_cases c3 : 0 ≤ x3_1
    ·rw [if_pos c3] at H
     have c3b0 : decide (0 ≤ x3_1) = true := decide_eq_true c3
     clear c3
     replace H := Option.bind_eq_some_iff.mp H
     obtain ⟨t180, A40, H⟩ := H
     replace H : (if t180 = true then (if x3_1 > 0 then (if 0 ≤ (wrap64 (x3_1 - 1)) then (if (wrap64 (x3_1 - 1)) < (l0.length : Int) then ((stolonref15_less.f ((rd_T27 l0 (wrap64 (x3_1 - 1))).f0) ((rd_T27 l0 (wrap64 (x3_1 - 1))).f1) ((rd_T27 l0 (wrap64 (x3_1 - 1))).f2) ((rd_T27 l0 (wrap64 (x3_1 - 1))).f3) ((rd_T27 l0 (wrap64 (x3_1 - 1))).f4) ((rd_T27 l0 (wrap64 (x3_1 - 1))).f5) ((rd_T27 l0 x3_1).f0) ((rd_T27 l0 x3_1).f1) ((rd_T27 l0 x3_1).f2) ((rd_T27 l0 x3_1).f3) ((rd_T27 l0 x3_1).f4) ((rd_T27 l0 x3_1).f5)).bind fun t183 => (if t183 = true then (stolonref15_Table.l0 k1 l0 (wrap64 (x3_1 + 1))) else (some false))) else (none)) else (none)) else (stolonref15_Table.l0 k1 l0 (wrap64 (x3_1 + 1)))) else (some false)) = some r := H
     have A4 := m_ A40
     clear A40
     by_cases c5 : t180 = true
     ·subst c5
      have H1 : (if x3_1 > 0 then (if 0 ≤ (wrap64 (x3_1 - 1)) then (if (wrap64 (x3_1 - 1)) < (l0.length : Int) then ((stolonref15_less.f ((rd_T27 l0 (wrap64 (x3_1 - 1))).f0) ((rd_T27 l0 (wrap64 (x3_1 - 1))).f1) ((rd_T27 l0 (wrap64 (x3_1 - 1))).f2) ((rd_T27 l0 (wrap64 (x3_1 - 1))).f3) ((rd_T27 l0 (wrap64 (x3_1 - 1))).f4) ((rd_T27 l0 (wrap64 (x3_1 - 1))).f5) ((rd_T27 l0 x3_1).f0) ((rd_T27 l0 x3_1).f1) ((rd_T27 l0 x3_1).f2) ((rd_T27 l0 x3_1).f3) ((rd_T27 l0 x3_1).f4) ((rd_T27 l0 x3_1).f5)).bind fun t183 => (if t183 = true then (stolonref15_Table.l0 k1 l0 (wrap64 (x3_1 + 1))) else (some false))) else (none)) else (none)) else (stolonref15_Table.l0 k1 l0 (wrap64 (x3_1 + 1)))) = some r := by rw [if_pos rfl] at H; exact H
      clear H
      have H := H1
      clear H1
      by_cases c6 : x3_1 > 0
      ·rw [if_pos c6] at H
       have c6b0 : decide (0 < x3_1) = true := decide_eq_true c6
       clear c6
       obtain ⟨ji7, hji7⟩ : ∃ j_ : Int, (wrap64 (x3_1 - 1)) = j_ := ⟨_, rfl⟩
       replace H : (if 0 ≤ (ji7) then (if (ji7) < (l0.length : Int) then ((stolonref15_less.f ((rd_T27 l0 (ji7)).f0) ((rd_T27 l0 (ji7)).f1) ((rd_T27 l0 (ji7)).f2) ((rd_T27 l0 (ji7)).f3) ((rd_T27 l0 (ji7)).f4) ((rd_T27 l0 (ji7)).f5) ((rd_T27 l0 x3_1).f0) ((rd_T27 l0 x3_1).f1) ((rd_T27 l0 x3_1).f2) ((rd_T27 l0 x3_1).f3) ((rd_T27 l0 x3_1).f4) ((rd_T27 l0 x3_1).f5)).bind fun t183 => (if t183 = true then (stolonref15_Table.l0 k1 l0 (wrap64 (x3_1 + 1))) else (some false))) else (none)) else (none)) = some r := by first | (rw [hji7] at H; exact H) | (simp only [hji7] at H ⊢; exact H)
       (try rw [hji7] at A4)
       have hji7w : (IntKind.i64.wrap (x3_1 - 1)) = ji7 := (i64_w _).trans hji7
       by_cases c8 : 0 ≤ (ji7)
       ·rw [if_pos c8] at H
        have c8b0 : decide (0 ≤ (ji7)) = true := decide_eq_true c8
        clear c8
        by_cases c9 : (ji7) < (l0.length : Int)
        ·rw [if_pos c9] at H
         have c9b0 : decide ((ji7) < (l0.length : Int)) = true := decide_eq_true c9
         clear c9
         replace H := Option.bind_eq_some_iff.mp H
         obtain ⟨t183, A100, H⟩ := H
         replace H : (if t183 = true then (stolonref15_Table.l0 k1 l0 (wrap64 (x3_1 + 1))) else (some false)) = some r := H
         have A10 := m_ A100
         clear A100
         by_cases c11 : t183 = true
         ·subst c11
          have H1 : (stolonref15_Table.l0 k1 l0 (wrap64 (x3_1 + 1))) = some r := by rw [if_pos rfl] at H; exact H
          clear H
          have H := H1
          clear H1
          have H' := m_ H
          clear H
          have p179 : 0 ≤ (x3_1 : Int) := of_decide_eq_true (by first | (with_reducible assumption) | assumption)
          have q179 : x3_1 < (l0.length : Int) := of_decide_eq_true (by first | (with_reducible assumption) | assumption)
          obtain ⟨ad179, A179_5, c179_5, e179, hx179_0, hx179_1, hx179_2, hx179_3, hx179_4, hx179_5, hl179_5, hi179_5⟩ := at_T27 HR0.out x3_1 p179 q179
          cases e179
          replace hx179_0 := kp_ HB.out hx179_0
          replace hx179_1 := kp_ HB.out hx179_1
          replace hx179_2 := kp_ HB.out hx179_2
          replace hx179_3 := kp_ HB.out hx179_3
          replace hx179_4 := kp_ HB.out hx179_4
          replace hx179_5 := kp_ HB.out hx179_5
          have HR179_5 := m_ hi179_5
          have HC179_5 := m_ hl179_5
          clear hi179_5 hl179_5
          replace p179 := eq_true p179
          replace q179 := eq_true q179
          try go_wp2_with (first | ((with_reducible refine gate_callee (f := 17) rfl ?_); refine goesL_ (some 15) rfl rfl Try.func17 (by kernel_rfl) rfl #[.agg #[.int .u32 ((rd_T27 l0 x3_1).f0), .int .u32 ((rd_T27 l0 x3_1).f1), .int .u32 ((rd_T27 l0 x3_1).f2), .int .i64 ((rd_T27 l0 x3_1).f3), .int .u32 ((rd_T27 l0 x3_1).f4), .slice A179_5 ((rd_T27 l0 x3_1).f5).length c179_5]] rfl (by (try simp only [List.map_toArray, List.map_cons, List.map_nil]); first | done | rfl | (simp only [List.length_drop, List.length_take]; rfl)) ?_; (with_reducible refine (stolonref15_Right.calls k1 ((rd_T27 l0 x3_1).f0) ((rd_T27 l0 x3_1).f1) ((rd_T27 l0 x3_1).f2) ((rd_T27 l0 x3_1).f3) ((rd_T27 l0 x3_1).f4) _ _ ((rd_T27 l0 x3_1).f5) true _ ?side1 ?side2 A4.out).mono ?_); (case side1 => repeat (first | exact (Kd.C_below HR179_5.out HB.out) | (with_reducible refine Kd.C_alloc ?_ _) | (with_reducible refine Kd.C_drewN ?_ _) | (with_reducible refine Kd.C_drew ?_))); (case side2 => exact HC179_5.out); rintro e w12 ⟨rfl, hb⟩; refine ⟨_, rfl, ?_⟩; have n0_ := m_ (below_step (by repeat (first | (with_reducible first | exact HB.out | apply pa_ | apply pn_ | apply pd_) | exact HB.out)) hb); clear HB; have HB := n0_; clear n0_; (try clear hb); (try clear hb2); (try clear hk); (try clear hi)))
          have n0_ := m_ (pd_ HB.out)
          clear HB
          have HB := n0_
          clear n0_
          have p181 : 0 ≤ ((ji7) : Int) := of_decide_eq_true (by first | (with_reducible assumption) | assumption)
          have q181 : (ji7) < (l0.length : Int) := of_decide_eq_true (by first | (with_reducible assumption) | assumption)
          obtain ⟨ad181, A181_5, c181_5, e181, hx181_0, hx181_1, hx181_2, hx181_3, hx181_4, hx181_5, hl181_5, hi181_5⟩ := at_T27 HR0.out (ji7) p181 q181
          have hw181_5 := hx181_5
          have hw181_4 := hx181_4
          have hw181_3 := hx181_3
          have hw181_2 := hx181_2
          have hw181_1 := hx181_1
          have hw181_0 := hx181_0
          obtain rfl : ad179 = ad181 := (by injection e181)
          replace hx181_0 := kp_ HB.out hx181_0
          replace hx181_1 := kp_ HB.out hx181_1
          replace hx181_2 := kp_ HB.out hx181_2
          replace hx181_3 := kp_ HB.out hx181_3
          replace hx181_4 := kp_ HB.out hx181_4
          replace hx181_5 := kp_ HB.out hx181_5
          have HR181_5 := m_ hi181_5
          have HC181_5 := m_ hl181_5
          clear hi181_5 hl181_5
          replace p181 := eq_true p181
          replace q181 := eq_true q181
          have p182 : 0 ≤ (x3_1 : Int) := of_decide_eq_true (by first | (with_reducible assumption) | assumption)
          have q182 : x3_1 < (l0.length : Int) := of_decide_eq_true (by first | (with_reducible assumption) | assumption)
          obtain ⟨ad182, A182_5, c182_5, e182, hx182_0, hx182_1, hx182_2, hx182_3, hx182_4, hx182_5, hl182_5, hi182_5⟩ := at_T27 HR0.out x3_1 p182 q182
          have hw182_5 := hx182_5
          have hw182_4 := hx182_4
          have hw182_3 := hx182_3
          have hw182_2 := hx182_2
          have hw182_1 := hx182_1
          have hw182_0 := hx182_0
          obtain rfl : ad179 = ad182 := (by injection e182)
          replace hx182_0 := kp_ HB.out hx182_0
          replace hx182_1 := kp_ HB.out hx182_1
          replace hx182_2 := kp_ HB.out hx182_2
          replace hx182_3 := kp_ HB.out hx182_3
          replace hx182_4 := kp_ HB.out hx182_4
          replace hx182_5 := kp_ HB.out hx182_5
          have HR182_5 := m_ hi182_5
          have HC182_5 := m_ hl182_5
          clear hi182_5 hl182_5
          replace p182 := eq_true p182
          replace q182 := eq_true q182
          refine start_ (n := 19) (S := fun w' => w'.cell? (ad179.add (((ji7)).toNat * 6)) = some (.int .u32 ((rd_T27 l0 (ji7)).f0)) ∧ w'.cell? ⟨(ad179.add (((ji7)).toNat * 6)).block, (ad179.add (((ji7)).toNat * 6)).off + 1, none⟩ = some (.int .u32 ((rd_T27 l0 (ji7)).f1)) ∧ w'.cell? ⟨(ad179.add (((ji7)).toNat * 6)).block, (ad179.add (((ji7)).toNat * 6)).off + 2, none⟩ = some (.int .u32 ((rd_T27 l0 (ji7)).f2)) ∧ w'.cell? ⟨(ad179.add (((ji7)).toNat * 6)).block, (ad179.add (((ji7)).toNat * 6)).off + 3, none⟩ = some (.int .i64 ((rd_T27 l0 (ji7)).f3)) ∧ w'.cell? ⟨(ad179.add (((ji7)).toNat * 6)).block, (ad179.add (((ji7)).toNat * 6)).off + 4, none⟩ = some (.int .u32 ((rd_T27 l0 (ji7)).f4)) ∧ w'.cell? ⟨(ad179.add (((ji7)).toNat * 6)).block, (ad179.add (((ji7)).toNat * 6)).off + 5, none⟩ = some (.slice A181_5 ((rd_T27 l0 (ji7)).f5).length c181_5) ∧ w'.cell? (ad179.add ((x3_1).toNat * 6)) = some (.int .u32 ((rd_T27 l0 x3_1).f0)) ∧ w'.cell? ⟨(ad179.add ((x3_1).toNat * 6)).block, (ad179.add ((x3_1).toNat * 6)).off + 1, none⟩ = some (.int .u32 ((rd_T27 l0 x3_1).f1)) ∧ w'.cell? ⟨(ad179.add ((x3_1).toNat * 6)).block, (ad179.add ((x3_1).toNat * 6)).off + 2, none⟩ = some (.int .u32 ((rd_T27 l0 x3_1).f2)) ∧ w'.cell? ⟨(ad179.add ((x3_1).toNat * 6)).block, (ad179.add ((x3_1).toNat * 6)).off + 3, none⟩ = some (.int .i64 ((rd_T27 l0 x3_1).f3)) ∧ w'.cell? ⟨(ad179.add ((x3_1).toNat * 6)).block, (ad179.add ((x3_1).toNat * 6)).off + 4, none⟩ = some (.int .u32 ((rd_T27 l0 x3_1).f4)) ∧ w'.cell? ⟨(ad179.add ((x3_1).toNat * 6)).block, (ad179.add ((x3_1).toNat * 6)).off + 5, none⟩ = some (.slice A182_5 ((rd_T27 l0 x3_1).f5).length c182_5)) (ds := []) (bs_ 19 0) (by kernel_rfl) rfl rfl ⟨(kp_ HB.out hw181_0), (kp_ HB.out hw181_1), (kp_ HB.out hw181_2), (kp_ HB.out hw181_3), (kp_ HB.out hw181_4), (kp_ HB.out hw181_5), (kp_ HB.out hw182_0), (kp_ HB.out hw182_1), (kp_ HB.out hw182_2), (kp_ HB.out hw182_3), (kp_ HB.out hw182_4), (kp_ HB.out hw182_5)⟩ (fun hHeld => ?_); refine with_tabW stolonref15_Table.tab5 stolonref15_Table.bits5 (fun HT_ HW_ => ?_)
          generalize w12.drew = w13 at HB HR181_5 HR182_5 hx181_0 hx181_1 hx181_2 hx181_3 hx181_4 hx181_5 hx182_0 hx182_1 hx182_2 hx182_3 hx182_4 hx182_5 hHeld ⊢
          refine pure_ (i := 0) (N := some 16) (v := ?_) (a' := ?_) (bs_ 19 1) rfl rfl (any_of HT_.out (by kernel_rfl)) (fun _ _ _ h => h) (Or.inl ⟨by rfl, ?_⟩) ?_ ?_
          rotate_left
          ·intro w'
           go_simp
           with_reducible rfl
          rotate_left
          ·simp only [Act.put, a1_, a2_, a3_, i64_w, i32_w]
           rfl
          refine pure_ (i := 1) (N := some 17) (v := ?_) (a' := ?_) (bs_ 19 3) rfl rfl (any_of HT_.out (by kernel_rfl)) (fun _ _ _ h => h) (Or.inl ⟨by rfl, ?_⟩) ?_ ?_
          rotate_left
          ·intro w'
           go_simp
           with_reducible rfl
          rotate_left
          ·simp only [Act.put, a1_, a2_, a3_, i64_w, i32_w]
           rfl
          refine pure_ (i := 2) (N := some 18) (v := ?_) (a' := ?_) (bs_ 19 7) rfl rfl (any_of HT_.out (by kernel_rfl)) (fun _ _ _ h => h) (Or.inl ⟨by rfl, ?_⟩) ?_ ?_
          rotate_left
          ·intro w'
           go_simp
           with_reducible rfl
          rotate_left
          ·simp only [Act.put, a1_, a2_, a3_, i64_w, i32_w]
           rfl
          refine pure_ (i := 3) (N := some 19) (v := ?_) (a' := ?_) (bs_ 19 15) rfl rfl (any_of HT_.out (by kernel_rfl)) (fun _ _ _ h => h) (Or.inl ⟨by rfl, ?_⟩) ?_ ?_
          rotate_left
          ·intro w'
           go_simp
           with_reducible rfl
          rotate_left
          ·simp only [Act.put, a1_, a2_, a3_, i64_w, i32_w]
           rfl
          refine pure_ (i := 4) (N := some 20) (v := ?_) (a' := ?_) (bs_ 19 31) rfl rfl (any_of HT_.out (by kernel_rfl)) (fun _ _ _ h => h) (Or.inl ⟨by rfl, ?_⟩) ?_ ?_
          rotate_left
          ·intro w'
           go_simp
           with_reducible rfl
          rotate_left
          ·simp only [Act.put, a1_, a2_, a3_, i64_w, i32_w]
           rfl
          refine pure_ (i := 5) (N := some 21) (v := ?_) (a' := ?_) (bs_ 19 63) rfl rfl (any_of HT_.out (by kernel_rfl)) (fun _ _ _ h => h) (Or.inl ⟨by rfl, ?_⟩) ?_ ?_
          rotate_left
          ·intro w'
           go_simp
           with_reducible rfl
          rotate_left
          ·simp only [Act.put, a1_, a2_, a3_, i64_w, i32_w]
           rfl
          refine pure_ (i := 6) (N := some 22) (v := ?_) (a' := ?_) (bs_ 19 127) rfl rfl (any_of HT_.out (by kernel_rfl)) (fun _ _ _ h => h) (Or.inl ⟨by rfl, ?_⟩) ?_ ?_
          rotate_left
          ·intro w'
           go_simp
           with_reducible rfl
          rotate_left
          ·simp only [Act.put, a1_, a2_, a3_, i64_w, i32_w]
           rfl
          refine pure_ (i := 7) (N := some 23) (v := ?_) (a' := ?_) (bs_ 19 255) rfl rfl (any_of HT_.out (by kernel_rfl)) (fun _ _ _ h => h) (Or.inl ⟨by rfl, ?_⟩) ?_ ?_
          rotate_left
          ·intro w'
           go_simp
           with_reducible rfl
          rotate_left
          ·simp only [Act.put, a1_, a2_, a3_, i64_w, i32_w]
           rfl
          refine pure_ (i := 8) (N := some 24) (v := ?_) (a' := ?_) (bs_ 19 511) rfl rfl (any_of HT_.out (by kernel_rfl)) (fun _ _ _ h => h) (Or.inl ⟨by rfl, ?_⟩) ?_ ?_
          rotate_left
          ·intro w'
           go_simp
           with_reducible rfl
          rotate_left
          ·simp only [Act.put, a1_, a2_, a3_, i64_w, i32_w]
           rfl
          refine pure_ (i := 9) (N := some 25) (v := ?_) (a' := ?_) (bs_ 19 1023) rfl rfl (any_of HT_.out (by kernel_rfl)) (fun _ _ _ h => h) (Or.inl ⟨by rfl, ?_⟩) ?_ ?_
          rotate_left
          ·intro w'
           go_simp
           with_reducible rfl
          rotate_left
          ·simp only [Act.put, a1_, a2_, a3_, i64_w, i32_w]
           rfl
          refine pure_ (i := 11) (N := some 27) (v := ?_) (a' := ?_) (bs_ 19 3071) rfl rfl (any_of HT_.out (by kernel_rfl)) (fun _ _ _ h => h) (Or.inl ⟨by rfl, ?_⟩) ?_ ?_
          rotate_left
          ·intro w'
           go_simp
           with_reducible rfl
          rotate_left
          ·simp only [Act.put, a1_, a2_, a3_, i64_w, i32_w]
           rfl
          refine pure_ (i := 12) (N := some 28) (v := ?_) (a' := ?_) (bs_ 19 7167) rfl rfl (any_of HT_.out (by kernel_rfl)) (fun _ _ _ h => h) (Or.inl ⟨by rfl, ?_⟩) ?_ ?_
          rotate_left
          ·intro w'
           go_simp
           with_reducible rfl
          rotate_left
          ·simp only [Act.put, a1_, a2_, a3_, i64_w, i32_w]
           rfl
          refine pure_ (i := 13) (N := some 29) (v := ?_) (a' := ?_) (bs_ 19 15359) rfl rfl (any_of HT_.out (by kernel_rfl)) (fun _ _ _ h => h) (Or.inl ⟨by rfl, ?_⟩) ?_ ?_
          rotate_left
          ·intro w'
           go_simp
           with_reducible rfl
          rotate_left
          ·simp only [Act.put, a1_, a2_, a3_, i64_w, i32_w]
           rfl
          refine take_ (i := 10) (N := some 26) (v := ?_) (a' := ?_) (bs_ 19 16383) rfl rfl (take_ofW HT_.out HW_.out (by kernel_rfl)) (fun _ _ _ h => h) (Or.inl ⟨by rfl, ?_⟩) hHeld ?_ ?_
          rotate_left
          ·rintro w' ⟨s0, s1, s2, s3, s4, s5, s6, s7, s8, s9, s10, s11⟩
           (try simp only [add_plain] at s0 s1 s2 s3 s4 s5 s6 s7 s8 s9 s10 s11)
           go_simp
           with_reducible rfl
          rotate_left
          ·simp only [Act.put, a1_, a2_, a3_, i64_w, i32_w]
           rfl
          refine take_ (i := 14) (N := some 30) (v := ?_) (a' := ?_) (bs_ 19 32767) rfl rfl (take_ofW HT_.out HW_.out (by kernel_rfl)) (fun _ _ _ h => h) (Or.inl ⟨by rfl, ?_⟩) hHeld ?_ ?_
          rotate_left
          ·rintro w' ⟨s0, s1, s2, s3, s4, s5, s6, s7, s8, s9, s10, s11⟩
           (try simp only [add_plain] at s0 s1 s2 s3 s4 s5 s6 s7 s8 s9 s10 s11)
           go_simp
           with_reducible rfl
          rotate_left
          ·simp only [Act.put, a1_, a2_, a3_, i64_w, i32_w]
           rfl
          refine one_ (i := 15) (N := some 31) (bs_ 19 65535) rfl rfl (one_of HT_.out (by kernel_rfl)) (by decide) (fun K hK => ?_)
          refine goes_ Try.func22 (by kernel_rfl) rfl #[.agg #[.int .u32 ((rd_T27 l0 (ji7)).f0), .int .u32 ((rd_T27 l0 (ji7)).f1), .int .u32 ((rd_T27 l0 (ji7)).f2), .int .i64 ((rd_T27 l0 (ji7)).f3), .int .u32 ((rd_T27 l0 (ji7)).f4), .slice A181_5 ((rd_T27 l0 (ji7)).f5).length c181_5], .agg #[.int .u32 ((rd_T27 l0 x3_1).f0), .int .u32 ((rd_T27 l0 x3_1).f1), .int .u32 ((rd_T27 l0 x3_1).f2), .int .i64 ((rd_T27 l0 x3_1).f3), .int .u32 ((rd_T27 l0 x3_1).f4), .slice A182_5 ((rd_T27 l0 x3_1).f5).length c182_5]] (by rfl) rfl rfl (by (try simp only [List.map_toArray, List.map_cons, List.map_nil]); first | done | (simp only [hji7]; rfl) | rfl | (simp only [List.length_drop, List.length_take]; rfl)) ?_
          with_reducible refine (stolonref15_less.calls ((rd_T27 l0 (ji7)).f0) ((rd_T27 l0 (ji7)).f1) ((rd_T27 l0 (ji7)).f2) ((rd_T27 l0 (ji7)).f3) ((rd_T27 l0 (ji7)).f4) _ _ ((rd_T27 l0 (ji7)).f5) ((rd_T27 l0 x3_1).f0) ((rd_T27 l0 x3_1).f1) ((rd_T27 l0 x3_1).f2) ((rd_T27 l0 x3_1).f3) ((rd_T27 l0 x3_1).f4) _ _ ((rd_T27 l0 x3_1).f5) true _ ?side1 ?side2 ?side3 ?side4 A10.out).mono ?_
          (case side1 => repeat (first | exact (Kd.C_below HR181_5.out HB.out) | (with_reducible refine Kd.C_alloc ?_ _) | (with_reducible refine Kd.C_drewN ?_ _) | (with_reducible refine Kd.C_drew ?_)))
          (case side2 => exact HC181_5.out)
          (case side3 => repeat (first | exact (Kd.C_below HR182_5.out HB.out) | (with_reducible refine Kd.C_alloc ?_ _) | (with_reducible refine Kd.C_drewN ?_ _) | (with_reducible refine Kd.C_drew ?_)))
          (case side4 => exact HC182_5.out)
          rintro e w14 ⟨rfl, hb⟩
          refine ⟨_, rfl, ?_⟩
          have n0_ := m_ (below_step (by repeat (first | (with_reducible first | exact HB.out | apply pa_ | apply pn_ | apply pd_) | exact HB.out)) hb)
          clear HB
          have HB := n0_
          clear n0_
          (try clear hb)
          (try clear hb2)
          (try clear hk)
          (try clear hi)
          refine hK.out _ _ ⟨(kp_ HB.out hw181_0), (kp_ HB.out hw181_1), (kp_ HB.out hw181_2), (kp_ HB.out hw181_3), (kp_ HB.out hw181_4), (kp_ HB.out hw181_5), (kp_ HB.out hw182_0), (kp_ HB.out hw182_1), (kp_ HB.out hw182_2), (kp_ HB.out hw182_3), (kp_ HB.out hw182_4), (kp_ HB.out hw182_5)⟩ (fun hHeld => ?_)
          clear hK K
          refine norm_ (a' := ?_) ?_ ?_
          rotate_left
          ·show Act.put _ (some 31) _ = _
           simp only [Act.put, a1_, a2_, a3_, i64_w, i32_w]
           rfl
          refine pure_ (i := 16) (N := some 32) (v := ?_) (a' := ?_) (bs_ 19 131071) rfl rfl (any_of HT_.out (by kernel_rfl)) (fun _ _ _ h => h) (Or.inl ⟨by rfl, ?_⟩) ?_ ?_
          rotate_left
          ·intro w'
           go_simp
           with_reducible rfl
          rotate_left
          ·simp only [Act.put, a1_, a2_, a3_, i64_w, i32_w]
           rfl
          refine pure_ (i := 17) (N := some 33) (v := ?_) (a' := ?_) (bs_ 19 262143) rfl rfl (any_of HT_.out (by kernel_rfl)) (fun _ _ _ h => h) (Or.inl ⟨by rfl, ?_⟩) ?_ ?_
          rotate_left
          ·intro w'
           go_simp
           with_reducible rfl
          rotate_left
          ·simp only [Act.put, a1_, a2_, a3_, i64_w, i32_w]
           rfl
          refine pure_ (i := 18) (N := some 34) (v := ?_) (a' := ?_) (bs_ 19 524287) rfl rfl (any_of HT_.out (by kernel_rfl)) (fun _ _ _ h => h) (Or.inl ⟨by rfl, ?_⟩) ?_ ?_
          rotate_left
          ·intro w'
           go_simp
           with_reducible rfl
          rotate_left
          ·simp only [Act.put, a1_, a2_, a3_, i64_w, i32_w]
           rfl
          refine done_ (done_of HT_.out (by kernel_rfl)) ?_
          try go_wp2
          go_roundg k1
          case measure => have := HK1.out; omega
          case rel => exact ⟨(wrap64 (x3_1 + 1)), (by first | rfl | (simp; done) | (simp [*]; done)), H', ⟨by have := HK1.out; omega⟩, ⟨by repeat (first | (with_reducible first | exact HB.out | apply pa_ | apply pn_ | apply pd_) | exact HB.out)⟩⟩
         ·replace c11 := Bool.eq_false_iff.mpr c11
          subst c11
          have H1 : (some false) = some r := by rw [if_neg (show ¬ (false = true) by decide)] at H; exact H
          clear H
          have H := H1
          clear H1
          obtain rfl := Option.some.inj H
          have p179 : 0 ≤ (x3_1 : Int) := of_decide_eq_true (by first | (with_reducible assumption) | assumption)
          have q179 : x3_1 < (l0.length : Int) := of_decide_eq_true (by first | (with_reducible assumption) | assumption)
          obtain ⟨ad179, A179_5, c179_5, e179, hx179_0, hx179_1, hx179_2, hx179_3, hx179_4, hx179_5, hl179_5, hi179_5⟩ := at_T27 HR0.out x3_1 p179 q179
          cases e179
          replace hx179_0 := kp_ HB.out hx179_0
          replace hx179_1 := kp_ HB.out hx179_1
          replace hx179_2 := kp_ HB.out hx179_2
          replace hx179_3 := kp_ HB.out hx179_3
          replace hx179_4 := kp_ HB.out hx179_4
          replace hx179_5 := kp_ HB.out hx179_5
          have HR179_5 := m_ hi179_5
          have HC179_5 := m_ hl179_5
          clear hi179_5 hl179_5
          replace p179 := eq_true p179
          replace q179 := eq_true q179
          try go_wp2_with (first | ((with_reducible refine gate_callee (f := 17) rfl ?_); refine goesL_ (some 15) rfl rfl Try.func17 (by kernel_rfl) rfl #[.agg #[.int .u32 ((rd_T27 l0 x3_1).f0), .int .u32 ((rd_T27 l0 x3_1).f1), .int .u32 ((rd_T27 l0 x3_1).f2), .int .i64 ((rd_T27 l0 x3_1).f3), .int .u32 ((rd_T27 l0 x3_1).f4), .slice A179_5 ((rd_T27 l0 x3_1).f5).length c179_5]] rfl (by (try simp only [List.map_toArray, List.map_cons, List.map_nil]); first | done | rfl | (simp only [List.length_drop, List.length_take]; rfl)) ?_; (with_reducible refine (stolonref15_Right.calls k1 ((rd_T27 l0 x3_1).f0) ((rd_T27 l0 x3_1).f1) ((rd_T27 l0 x3_1).f2) ((rd_T27 l0 x3_1).f3) ((rd_T27 l0 x3_1).f4) _ _ ((rd_T27 l0 x3_1).f5) true _ ?side1 ?side2 A4.out).mono ?_); (case side1 => repeat (first | exact (Kd.C_below HR179_5.out HB.out) | (with_reducible refine Kd.C_alloc ?_ _) | (with_reducible refine Kd.C_drewN ?_ _) | (with_reducible refine Kd.C_drew ?_))); (case side2 => exact HC179_5.out); rintro e w15 ⟨rfl, hb⟩; refine ⟨_, rfl, ?_⟩; have n0_ := m_ (below_step (by repeat (first | (with_reducible first | exact HB.out | apply pa_ | apply pn_ | apply pd_) | exact HB.out)) hb); clear HB; have HB := n0_; clear n0_; (try clear hb); (try clear hb2); (try clear hk); (try clear hi)))
          have n0_ := m_ (pd_ HB.out)
          clear HB
          have HB := n0_
          clear n0_
          have p181 : 0 ≤ ((ji7) : Int) := of_decide_eq_true (by first | (with_reducible assumption) | assumption)
          have q181 : (ji7) < (l0.length : Int) := of_decide_eq_true (by first | (with_reducible assumption) | assumption)
          obtain ⟨ad181, A181_5, c181_5, e181, hx181_0, hx181_1, hx181_2, hx181_3, hx181_4, hx181_5, hl181_5, hi181_5⟩ := at_T27 HR0.out (ji7) p181 q181
          have hw181_5 := hx181_5
          have hw181_4 := hx181_4
          have hw181_3 := hx181_3
          have hw181_2 := hx181_2
          have hw181_1 := hx181_1
          have hw181_0 := hx181_0
          obtain rfl : ad179 = ad181 := (by injection e181)
          replace hx181_0 := kp_ HB.out hx181_0
          replace hx181_1 := kp_ HB.out hx181_1
          replace hx181_2 := kp_ HB.out hx181_2
          replace hx181_3 := kp_ HB.out hx181_3
          replace hx181_4 := kp_ HB.out hx181_4
          replace hx181_5 := kp_ HB.out hx181_5
          have HR181_5 := m_ hi181_5
          have HC181_5 := m_ hl181_5
          clear hi181_5 hl181_5
          replace p181 := eq_true p181
          replace q181 := eq_true q181
          have p182 : 0 ≤ (x3_1 : Int) := of_decide_eq_true (by first | (with_reducible assumption) | assumption)
          have q182 : x3_1 < (l0.length : Int) := of_decide_eq_true (by first | (with_reducible assumption) | assumption)
          obtain ⟨ad182, A182_5, c182_5, e182, hx182_0, hx182_1, hx182_2, hx182_3, hx182_4, hx182_5, hl182_5, hi182_5⟩ := at_T27 HR0.out x3_1 p182 q182
          have hw182_5 := hx182_5
          have hw182_4 := hx182_4
          have hw182_3 := hx182_3
          have hw182_2 := hx182_2
          have hw182_1 := hx182_1
          have hw182_0 := hx182_0
          obtain rfl : ad179 = ad182 := (by injection e182)
          replace hx182_0 := kp_ HB.out hx182_0
          replace hx182_1 := kp_ HB.out hx182_1
          replace hx182_2 := kp_ HB.out hx182_2
          replace hx182_3 := kp_ HB.out hx182_3
          replace hx182_4 := kp_ HB.out hx182_4
          replace hx182_5 := kp_ HB.out hx182_5
          have HR182_5 := m_ hi182_5
          have HC182_5 := m_ hl182_5
          clear hi182_5 hl182_5
          replace p182 := eq_true p182
          replace q182 := eq_true q182
          refine start_ (n := 19) (S := fun w' => w'.cell? (ad179.add (((ji7)).toNat * 6)) = some (.int .u32 ((rd_T27 l0 (ji7)).f0)) ∧ w'.cell? ⟨(ad179.add (((ji7)).toNat * 6)).block, (ad179.add (((ji7)).toNat * 6)).off + 1, none⟩ = some (.int .u32 ((rd_T27 l0 (ji7)).f1)) ∧ w'.cell? ⟨(ad179.add (((ji7)).toNat * 6)).block, (ad179.add (((ji7)).toNat * 6)).off + 2, none⟩ = some (.int .u32 ((rd_T27 l0 (ji7)).f2)) ∧ w'.cell? ⟨(ad179.add (((ji7)).toNat * 6)).block, (ad179.add (((ji7)).toNat * 6)).off + 3, none⟩ = some (.int .i64 ((rd_T27 l0 (ji7)).f3)) ∧ w'.cell? ⟨(ad179.add (((ji7)).toNat * 6)).block, (ad179.add (((ji7)).toNat * 6)).off + 4, none⟩ = some (.int .u32 ((rd_T27 l0 (ji7)).f4)) ∧ w'.cell? ⟨(ad179.add (((ji7)).toNat * 6)).block, (ad179.add (((ji7)).toNat * 6)).off + 5, none⟩ = some (.slice A181_5 ((rd_T27 l0 (ji7)).f5).length c181_5) ∧ w'.cell? (ad179.add ((x3_1).toNat * 6)) = some (.int .u32 ((rd_T27 l0 x3_1).f0)) ∧ w'.cell? ⟨(ad179.add ((x3_1).toNat * 6)).block, (ad179.add ((x3_1).toNat * 6)).off + 1, none⟩ = some (.int .u32 ((rd_T27 l0 x3_1).f1)) ∧ w'.cell? ⟨(ad179.add ((x3_1).toNat * 6)).block, (ad179.add ((x3_1).toNat * 6)).off + 2, none⟩ = some (.int .u32 ((rd_T27 l0 x3_1).f2)) ∧ w'.cell? ⟨(ad179.add ((x3_1).toNat * 6)).block, (ad179.add ((x3_1).toNat * 6)).off + 3, none⟩ = some (.int .i64 ((rd_T27 l0 x3_1).f3)) ∧ w'.cell? ⟨(ad179.add ((x3_1).toNat * 6)).block, (ad179.add ((x3_1).toNat * 6)).off + 4, none⟩ = some (.int .u32 ((rd_T27 l0 x3_1).f4)) ∧ w'.cell? ⟨(ad179.add ((x3_1).toNat * 6)).block, (ad179.add ((x3_1).toNat * 6)).off + 5, none⟩ = some (.slice A182_5 ((rd_T27 l0 x3_1).f5).length c182_5)) (ds := []) (bs_ 19 0) (by kernel_rfl) rfl rfl ⟨(kp_ HB.out hw181_0), (kp_ HB.out hw181_1), (kp_ HB.out hw181_2), (kp_ HB.out hw181_3), (kp_ HB.out hw181_4), (kp_ HB.out hw181_5), (kp_ HB.out hw182_0), (kp_ HB.out hw182_1), (kp_ HB.out hw182_2), (kp_ HB.out hw182_3), (kp_ HB.out hw182_4), (kp_ HB.out hw182_5)⟩ (fun hHeld => ?_); refine with_tabW stolonref15_Table.tab5 stolonref15_Table.bits5 (fun HT_ HW_ => ?_)
          generalize w15.drew = w16 at HB HR181_5 HR182_5 hx181_0 hx181_1 hx181_2 hx181_3 hx181_4 hx181_5 hx182_0 hx182_1 hx182_2 hx182_3 hx182_4 hx182_5 hHeld ⊢
          refine pure_ (i := 0) (N := some 16) (v := ?_) (a' := ?_) (bs_ 19 1) rfl rfl (any_of HT_.out (by kernel_rfl)) (fun _ _ _ h => h) (Or.inl ⟨by rfl, ?_⟩) ?_ ?_
          rotate_left
          ·intro w'
           go_simp
           with_reducible rfl
          rotate_left
          ·simp only [Act.put, a1_, a2_, a3_, i64_w, i32_w]
           rfl
          refine pure_ (i := 1) (N := some 17) (v := ?_) (a' := ?_) (bs_ 19 3) rfl rfl (any_of HT_.out (by kernel_rfl)) (fun _ _ _ h => h) (Or.inl ⟨by rfl, ?_⟩) ?_ ?_
          rotate_left
          ·intro w'
           go_simp
           with_reducible rfl
          rotate_left
          ·simp only [Act.put, a1_, a2_, a3_, i64_w, i32_w]
           rfl
          refine pure_ (i := 2) (N := some 18) (v := ?_) (a' := ?_) (bs_ 19 7) rfl rfl (any_of HT_.out (by kernel_rfl)) (fun _ _ _ h => h) (Or.inl ⟨by rfl, ?_⟩) ?_ ?_
          rotate_left
          ·intro w'
           go_simp
           with_reducible rfl
          rotate_left
          ·simp only [Act.put, a1_, a2_, a3_, i64_w, i32_w]
           rfl
          refine pure_ (i := 3) (N := some 19) (v := ?_) (a' := ?_) (bs_ 19 15) rfl rfl (any_of HT_.out (by kernel_rfl)) (fun _ _ _ h => h) (Or.inl ⟨by rfl, ?_⟩) ?_ ?_
          rotate_left
          ·intro w'
           go_simp
           with_reducible rfl
          rotate_left
          ·simp only [Act.put, a1_, a2_, a3_, i64_w, i32_w]
           rfl
          refine pure_ (i := 4) (N := some 20) (v := ?_) (a' := ?_) (bs_ 19 31) rfl rfl (any_of HT_.out (by kernel_rfl)) (fun _ _ _ h => h) (Or.inl ⟨by rfl, ?_⟩) ?_ ?_
          rotate_left
          ·intro w'
           go_simp
           with_reducible rfl
          rotate_left
          ·simp only [Act.put, a1_, a2_, a3_, i64_w, i32_w]
           rfl
          refine pure_ (i := 5) (N := some 21) (v := ?_) (a' := ?_) (bs_ 19 63) rfl rfl (any_of HT_.out (by kernel_rfl)) (fun _ _ _ h => h) (Or.inl ⟨by rfl, ?_⟩) ?_ ?_
          rotate_left
          ·intro w'
           go_simp
           with_reducible rfl
          rotate_left
          ·simp only [Act.put, a1_, a2_, a3_, i64_w, i32_w]
           rfl
          refine pure_ (i := 6) (N := some 22) (v := ?_) (a' := ?_) (bs_ 19 127) rfl rfl (any_of HT_.out (by kernel_rfl)) (fun _ _ _ h => h) (Or.inl ⟨by rfl, ?_⟩) ?_ ?_
          rotate_left
          ·intro w'
           go_simp
           with_reducible rfl
          rotate_left
          ·simp only [Act.put, a1_, a2_, a3_, i64_w, i32_w]
           rfl
          refine pure_ (i := 7) (N := some 23) (v := ?_) (a' := ?_) (bs_ 19 255) rfl rfl (any_of HT_.out (by kernel_rfl)) (fun _ _ _ h => h) (Or.inl ⟨by rfl, ?_⟩) ?_ ?_
          rotate_left
          ·intro w'
           go_simp
           with_reducible rfl
          rotate_left
          ·simp only [Act.put, a1_, a2_, a3_, i64_w, i32_w]
           rfl
          refine pure_ (i := 8) (N := some 24) (v := ?_) (a' := ?_) (bs_ 19 511) rfl rfl (any_of HT_.out (by kernel_rfl)) (fun _ _ _ h => h) (Or.inl ⟨by rfl, ?_⟩) ?_ ?_
          rotate_left
          ·intro w'
           go_simp
           with_reducible rfl
          rotate_left
          ·simp only [Act.put, a1_, a2_, a3_, i64_w, i32_w]
           rfl
          refine pure_ (i := 9) (N := some 25) (v := ?_) (a' := ?_) (bs_ 19 1023) rfl rfl (any_of HT_.out (by kernel_rfl)) (fun _ _ _ h => h) (Or.inl ⟨by rfl, ?_⟩) ?_ ?_
          rotate_left
          ·intro w'
           go_simp
           with_reducible rfl
          rotate_left
          ·simp only [Act.put, a1_, a2_, a3_, i64_w, i32_w]
           rfl
          refine pure_ (i := 11) (N := some 27) (v := ?_) (a' := ?_) (bs_ 19 3071) rfl rfl (any_of HT_.out (by kernel_rfl)) (fun _ _ _ h => h) (Or.inl ⟨by rfl, ?_⟩) ?_ ?_
          rotate_left
          ·intro w'
           go_simp
           with_reducible rfl
          rotate_left
          ·simp only [Act.put, a1_, a2_, a3_, i64_w, i32_w]
           rfl
          refine pure_ (i := 12) (N := some 28) (v := ?_) (a' := ?_) (bs_ 19 7167) rfl rfl (any_of HT_.out (by kernel_rfl)) (fun _ _ _ h => h) (Or.inl ⟨by rfl, ?_⟩) ?_ ?_
          rotate_left
          ·intro w'
           go_simp
           with_reducible rfl
          rotate_left
          ·simp only [Act.put, a1_, a2_, a3_, i64_w, i32_w]
           rfl
          refine pure_ (i := 13) (N := some 29) (v := ?_) (a' := ?_) (bs_ 19 15359) rfl rfl (any_of HT_.out (by kernel_rfl)) (fun _ _ _ h => h) (Or.inl ⟨by rfl, ?_⟩) ?_ ?_
          rotate_left
          ·intro w'
           go_simp
           with_reducible rfl
          rotate_left
          ·simp only [Act.put, a1_, a2_, a3_, i64_w, i32_w]
           rfl
          refine take_ (i := 10) (N := some 26) (v := ?_) (a' := ?_) (bs_ 19 16383) rfl rfl (take_ofW HT_.out HW_.out (by kernel_rfl)) (fun _ _ _ h => h) (Or.inl ⟨by rfl, ?_⟩) hHeld ?_ ?_
          rotate_left
          ·rintro w' ⟨s0, s1, s2, s3, s4, s5, s6, s7, s8, s9, s10, s11⟩
           (try simp only [add_plain] at s0 s1 s2 s3 s4 s5 s6 s7 s8 s9 s10 s11)
           go_simp
           with_reducible rfl
          rotate_left
          ·simp only [Act.put, a1_, a2_, a3_, i64_w, i32_w]
           rfl
          refine take_ (i := 14) (N := some 30) (v := ?_) (a' := ?_) (bs_ 19 32767) rfl rfl (take_ofW HT_.out HW_.out (by kernel_rfl)) (fun _ _ _ h => h) (Or.inl ⟨by rfl, ?_⟩) hHeld ?_ ?_
          rotate_left
          ·rintro w' ⟨s0, s1, s2, s3, s4, s5, s6, s7, s8, s9, s10, s11⟩
           (try simp only [add_plain] at s0 s1 s2 s3 s4 s5 s6 s7 s8 s9 s10 s11)
           go_simp
           with_reducible rfl
          rotate_left
          ·simp only [Act.put, a1_, a2_, a3_, i64_w, i32_w]
           rfl
          refine one_ (i := 15) (N := some 31) (bs_ 19 65535) rfl rfl (one_of HT_.out (by kernel_rfl)) (by decide) (fun K hK => ?_)
          refine goes_ Try.func22 (by kernel_rfl) rfl #[.agg #[.int .u32 ((rd_T27 l0 (ji7)).f0), .int .u32 ((rd_T27 l0 (ji7)).f1), .int .u32 ((rd_T27 l0 (ji7)).f2), .int .i64 ((rd_T27 l0 (ji7)).f3), .int .u32 ((rd_T27 l0 (ji7)).f4), .slice A181_5 ((rd_T27 l0 (ji7)).f5).length c181_5], .agg #[.int .u32 ((rd_T27 l0 x3_1).f0), .int .u32 ((rd_T27 l0 x3_1).f1), .int .u32 ((rd_T27 l0 x3_1).f2), .int .i64 ((rd_T27 l0 x3_1).f3), .int .u32 ((rd_T27 l0 x3_1).f4), .slice A182_5 ((rd_T27 l0 x3_1).f5).length c182_5]] (by rfl) rfl rfl (by (try simp only [List.map_toArray, List.map_cons, List.map_nil]); first | done | (simp only [hji7]; rfl) | rfl | (simp only [List.length_drop, List.length_take]; rfl)) ?_
          with_reducible refine (stolonref15_less.calls ((rd_T27 l0 (ji7)).f0) ((rd_T27 l0 (ji7)).f1) ((rd_T27 l0 (ji7)).f2) ((rd_T27 l0 (ji7)).f3) ((rd_T27 l0 (ji7)).f4) _ _ ((rd_T27 l0 (ji7)).f5) ((rd_T27 l0 x3_1).f0) ((rd_T27 l0 x3_1).f1) ((rd_T27 l0 x3_1).f2) ((rd_T27 l0 x3_1).f3) ((rd_T27 l0 x3_1).f4) _ _ ((rd_T27 l0 x3_1).f5) false _ ?side1 ?side2 ?side3 ?side4 A10.out).mono ?_
          (case side1 => repeat (first | exact (Kd.C_below HR181_5.out HB.out) | (with_reducible refine Kd.C_alloc ?_ _) | (with_reducible refine Kd.C_drewN ?_ _) | (with_reducible refine Kd.C_drew ?_)))
          (case side2 => exact HC181_5.out)
          (case side3 => repeat (first | exact (Kd.C_below HR182_5.out HB.out) | (with_reducible refine Kd.C_alloc ?_ _) | (with_reducible refine Kd.C_drewN ?_ _) | (with_reducible refine Kd.C_drew ?_)))
          (case side4 => exact HC182_5.out)
          rintro e w17 ⟨rfl, hb⟩
          refine ⟨_, rfl, ?_⟩
          have n0_ := m_ (below_step (by repeat (first | (with_reducible first | exact HB.out | apply pa_ | apply pn_ | apply pd_) | exact HB.out)) hb)
          clear HB
          have HB := n0_
          clear n0_
          (try clear hb)
          (try clear hb2)
          (try clear hk)
          (try clear hi)
          refine hK.out _ _ ⟨(kp_ HB.out hw181_0), (kp_ HB.out hw181_1), (kp_ HB.out hw181_2), (kp_ HB.out hw181_3), (kp_ HB.out hw181_4), (kp_ HB.out hw181_5), (kp_ HB.out hw182_0), (kp_ HB.out hw182_1), (kp_ HB.out hw182_2), (kp_ HB.out hw182_3), (kp_ HB.out hw182_4), (kp_ HB.out hw182_5)⟩ (fun hHeld => ?_)
          clear hK K
          refine norm_ (a' := ?_) ?_ ?_
          rotate_left
          ·show Act.put _ (some 31) _ = _
           simp only [Act.put, a1_, a2_, a3_, i64_w, i32_w]
           rfl
          refine pure_ (i := 16) (N := some 32) (v := ?_) (a' := ?_) (bs_ 19 131071) rfl rfl (any_of HT_.out (by kernel_rfl)) (fun _ _ _ h => h) (Or.inl ⟨by rfl, ?_⟩) ?_ ?_
          rotate_left
          ·intro w'
           go_simp
           with_reducible rfl
          rotate_left
          ·simp only [Act.put, a1_, a2_, a3_, i64_w, i32_w]
           rfl
          refine pure_ (i := 17) (N := some 33) (v := ?_) (a' := ?_) (bs_ 19 262143) rfl rfl (any_of HT_.out (by kernel_rfl)) (fun _ _ _ h => h) (Or.inl ⟨by rfl, ?_⟩) ?_ ?_
          rotate_left
          ·intro w'
           go_simp
           with_reducible rfl
          rotate_left
          ·simp only [Act.put, a1_, a2_, a3_, i64_w, i32_w]
           rfl
          refine pure_ (i := 18) (N := some 34) (v := ?_) (a' := ?_) (bs_ 19 524287) rfl rfl (any_of HT_.out (by kernel_rfl)) (fun _ _ _ h => h) (Or.inl ⟨by rfl, ?_⟩) ?_ ?_
          rotate_left
          ·intro w'
           go_simp
           with_reducible rfl
          rotate_left
          ·simp only [Act.put, a1_, a2_, a3_, i64_w, i32_w]
           rfl
          refine done_ (done_of HT_.out (by kernel_rfl)) ?_
          try go_wp2
          go_ret
          exact ⟨by first | rfl | (simp [errW_none, errW_some] <;> rfl) | (simp only [← hji7]; first | rfl | (simp [errW_none, errW_some] <;> rfl)) | (simp [*, errW_none, errW_some] <;> rfl), by repeat (first | (with_reducible first | exact HB.out | apply pa_ | apply pn_ | apply pd_) | exact HB.out)⟩
        ·rw [if_neg c9] at H
         exact absurd H (by simp)
       ·rw [if_neg c8] at H
        exact absurd H (by simp)
      ·rw [if_neg c6] at H
       have c6b0 : decide (0 < x3_1) = false := decide_eq_false c6
       clear c6
       have H' := m_ H
       clear H
       have p179 : 0 ≤ (x3_1 : Int) := of_decide_eq_true (by first | (with_reducible assumption) | assumption)
       have q179 : x3_1 < (l0.length : Int) := of_decide_eq_true (by first | (with_reducible assumption) | assumption)
       obtain ⟨ad179, A179_5, c179_5, e179, hx179_0, hx179_1, hx179_2, hx179_3, hx179_4, hx179_5, hl179_5, hi179_5⟩ := at_T27 HR0.out x3_1 p179 q179
       cases e179
       replace hx179_0 := kp_ HB.out hx179_0
       replace hx179_1 := kp_ HB.out hx179_1
       replace hx179_2 := kp_ HB.out hx179_2
       replace hx179_3 := kp_ HB.out hx179_3
       replace hx179_4 := kp_ HB.out hx179_4
       replace hx179_5 := kp_ HB.out hx179_5
       have HR179_5 := m_ hi179_5
       have HC179_5 := m_ hl179_5
       clear hi179_5 hl179_5
       replace p179 := eq_true p179
       replace q179 := eq_true q179
       try go_wp2_with (first | ((with_reducible refine gate_callee (f := 17) rfl ?_); refine goesL_ (some 15) rfl rfl Try.func17 (by kernel_rfl) rfl #[.agg #[.int .u32 ((rd_T27 l0 x3_1).f0), .int .u32 ((rd_T27 l0 x3_1).f1), .int .u32 ((rd_T27 l0 x3_1).f2), .int .i64 ((rd_T27 l0 x3_1).f3), .int .u32 ((rd_T27 l0 x3_1).f4), .slice A179_5 ((rd_T27 l0 x3_1).f5).length c179_5]] rfl (by (try simp only [List.map_toArray, List.map_cons, List.map_nil]); first | done | rfl | (simp only [List.length_drop, List.length_take]; rfl)) ?_; (with_reducible refine (stolonref15_Right.calls k1 ((rd_T27 l0 x3_1).f0) ((rd_T27 l0 x3_1).f1) ((rd_T27 l0 x3_1).f2) ((rd_T27 l0 x3_1).f3) ((rd_T27 l0 x3_1).f4) _ _ ((rd_T27 l0 x3_1).f5) true _ ?side1 ?side2 A4.out).mono ?_); (case side1 => repeat (first | exact (Kd.C_below HR179_5.out HB.out) | (with_reducible refine Kd.C_alloc ?_ _) | (with_reducible refine Kd.C_drewN ?_ _) | (with_reducible refine Kd.C_drew ?_))); (case side2 => exact HC179_5.out); rintro e w18 ⟨rfl, hb⟩; refine ⟨_, rfl, ?_⟩; have n0_ := m_ (below_step (by repeat (first | (with_reducible first | exact HB.out | apply pa_ | apply pn_ | apply pd_) | exact HB.out)) hb); clear HB; have HB := n0_; clear n0_; (try clear hb); (try clear hb2); (try clear hk); (try clear hi)))
       have n0_ := m_ (pd_ HB.out)
       clear HB
       have HB := n0_
       clear n0_
       refine start_ (n := 19) (S := fun w' => True) (ds := []) (bs_ 19 0) (by kernel_rfl) rfl rfl trivial (fun hHeld => ?_); refine with_tabW stolonref15_Table.tab5 stolonref15_Table.bits5 (fun HT_ HW_ => ?_)
       generalize w18.drew = w19 at HB hHeld ⊢
       refine pure_ (i := 0) (N := some 16) (v := ?_) (a' := ?_) (bs_ 19 1) rfl rfl (any_of HT_.out (by kernel_rfl)) (fun _ _ _ h => h) (Or.inl ⟨by rfl, ?_⟩) ?_ ?_
       rotate_left
       ·intro w'
        go_simp
        with_reducible rfl
       rotate_left
       ·simp only [Act.put, a1_, a2_, a3_, i64_w, i32_w]
        rfl
       refine pure_ (i := 1) (N := some 17) (v := ?_) (a' := ?_) (bs_ 19 3) rfl rfl (any_of HT_.out (by kernel_rfl)) (fun _ _ _ h => h) (Or.inl ⟨by rfl, ?_⟩) ?_ ?_
       rotate_left
       ·intro w'
        go_simp
        with_reducible rfl
       rotate_left
       ·simp only [Act.put, a1_, a2_, a3_, i64_w, i32_w]
        rfl
       refine pure_ (i := 2) (N := some 18) (v := ?_) (a' := ?_) (bs_ 19 7) rfl rfl (any_of HT_.out (by kernel_rfl)) (fun _ _ _ h => h) (Or.inl ⟨by rfl, ?_⟩) ?_ ?_
       rotate_left
       ·intro w'
        go_simp
        with_reducible rfl
       rotate_left
       ·simp only [Act.put, a1_, a2_, a3_, i64_w, i32_w]
        rfl
       refine pure_ (i := 3) (N := some 19) (v := ?_) (a' := ?_) (bs_ 19 15) rfl rfl (any_of HT_.out (by kernel_rfl)) (fun _ _ _ h => h) (Or.inl ⟨by rfl, ?_⟩) ?_ ?_
       rotate_left
       ·intro w'
        go_simp
        with_reducible rfl
       rotate_left
       ·simp only [Act.put, a1_, a2_, a3_, i64_w, i32_w]
        rfl
       refine pure_ (i := 4) (N := some 20) (v := ?_) (a' := ?_) (bs_ 19 31) rfl rfl (any_of HT_.out (by kernel_rfl)) (fun _ _ _ h => h) (Or.inl ⟨by rfl, ?_⟩) ?_ ?_
       rotate_left
       ·intro w'
        go_simp
        with_reducible rfl
       rotate_left
       ·simp only [Act.put, a1_, a2_, a3_, i64_w, i32_w]
        rfl
       refine pure_ (i := 5) (N := some 21) (v := ?_) (a' := ?_) (bs_ 19 63) rfl rfl (any_of HT_.out (by kernel_rfl)) (fun _ _ _ h => h) (Or.inl ⟨by rfl, ?_⟩) ?_ ?_
       rotate_left
       ·intro w'
        go_simp
        with_reducible rfl
       rotate_left
       ·simp only [Act.put, a1_, a2_, a3_, i64_w, i32_w]
        rfl
       refine pure_ (i := 6) (N := some 22) (v := undef) (a' := ?_) (bs_ 19 127) rfl rfl (any_of HT_.out (by kernel_rfl)) (fun _ _ _ h => h) (Or.inr ⟨by rfl, rfl⟩) ?_ ?_
       rotate_left
       ·simp only [Act.put, a1_, a2_, a3_, i64_w, i32_w]
        rfl
       refine pure_ (i := 7) (N := some 23) (v := undef) (a' := ?_) (bs_ 19 255) rfl rfl (any_of HT_.out (by kernel_rfl)) (fun _ _ _ h => h) (Or.inr ⟨by rfl, rfl⟩) ?_ ?_
       rotate_left
       ·simp only [Act.put, a1_, a2_, a3_, i64_w, i32_w]
        rfl
       refine pure_ (i := 8) (N := some 24) (v := undef) (a' := ?_) (bs_ 19 511) rfl rfl (any_of HT_.out (by kernel_rfl)) (fun _ _ _ h => h) (Or.inr ⟨by rfl, rfl⟩) ?_ ?_
       rotate_left
       ·simp only [Act.put, a1_, a2_, a3_, i64_w, i32_w]
        rfl
       refine pure_ (i := 9) (N := some 25) (v := undef) (a' := ?_) (bs_ 19 1023) rfl rfl (any_of HT_.out (by kernel_rfl)) (fun _ _ _ h => h) (Or.inr ⟨by rfl, rfl⟩) ?_ ?_
       rotate_left
       ·simp only [Act.put, a1_, a2_, a3_, i64_w, i32_w]
        rfl
       refine pure_ (i := 10) (N := some 26) (v := undef) (a' := ?_) (bs_ 19 2047) rfl rfl (any_of HT_.out (by kernel_rfl)) (fun _ _ _ h => h) (Or.inr ⟨by rfl, rfl⟩) ?_ ?_
       rotate_left
       ·simp only [Act.put, a1_, a2_, a3_, i64_w, i32_w]
        rfl
       refine pure_ (i := 11) (N := some 27) (v := undef) (a' := ?_) (bs_ 19 4095) rfl rfl (any_of HT_.out (by kernel_rfl)) (fun _ _ _ h => h) (Or.inr ⟨by rfl, rfl⟩) ?_ ?_
       rotate_left
       ·simp only [Act.put, a1_, a2_, a3_, i64_w, i32_w]
        rfl
       refine pure_ (i := 12) (N := some 28) (v := undef) (a' := ?_) (bs_ 19 8191) rfl rfl (any_of HT_.out (by kernel_rfl)) (fun _ _ _ h => h) (Or.inr ⟨by rfl, rfl⟩) ?_ ?_
       rotate_left
       ·simp only [Act.put, a1_, a2_, a3_, i64_w, i32_w]
        rfl
       refine pure_ (i := 13) (N := some 29) (v := undef) (a' := ?_) (bs_ 19 16383) rfl rfl (any_of HT_.out (by kernel_rfl)) (fun _ _ _ h => h) (Or.inr ⟨by rfl, rfl⟩) ?_ ?_
       rotate_left
       ·simp only [Act.put, a1_, a2_, a3_, i64_w, i32_w]
        rfl
       refine pure_ (i := 14) (N := some 30) (v := undef) (a' := ?_) (bs_ 19 32767) rfl rfl (any_of HT_.out (by kernel_rfl)) (fun _ _ _ h => h) (Or.inr ⟨by rfl, rfl⟩) ?_ ?_
       rotate_left
       ·simp only [Act.put, a1_, a2_, a3_, i64_w, i32_w]
        rfl
       refine pure_ (i := 15) (N := some 31) (v := undef) (a' := ?_) (bs_ 19 65535) rfl rfl (any_of HT_.out (by kernel_rfl)) (fun _ _ _ h => h) (Or.inr ⟨by rfl, rfl⟩) ?_ ?_
       rotate_left
       ·simp only [Act.put, a1_, a2_, a3_, i64_w, i32_w]
        rfl
       refine pure_ (i := 16) (N := some 32) (v := undef) (a' := ?_) (bs_ 19 131071) rfl rfl (any_of HT_.out (by kernel_rfl)) (fun _ _ _ h => h) (Or.inr ⟨by rfl, rfl⟩) ?_ ?_
       rotate_left
       ·simp only [Act.put, a1_, a2_, a3_, i64_w, i32_w]
        rfl
       refine pure_ (i := 17) (N := some 33) (v := ?_) (a' := ?_) (bs_ 19 262143) rfl rfl (any_of HT_.out (by kernel_rfl)) (fun _ _ _ h => h) (Or.inl ⟨by rfl, ?_⟩) ?_ ?_
       rotate_left
       ·intro w'
        go_simp
        with_reducible rfl
       rotate_left
       ·simp only [Act.put, a1_, a2_, a3_, i64_w, i32_w]
        rfl
       refine pure_ (i := 18) (N := some 34) (v := ?_) (a' := ?_) (bs_ 19 524287) rfl rfl (any_of HT_.out (by kernel_rfl)) (fun _ _ _ h => h) (Or.inl ⟨by rfl, ?_⟩) ?_ ?_
       rotate_left
       ·intro w'
        go_simp
        with_reducible rfl
       rotate_left
       ·simp only [Act.put, a1_, a2_, a3_, i64_w, i32_w]
        rfl
       refine done_ (done_of HT_.out (by kernel_rfl)) ?_
       try go_wp2
       go_roundg k1
       case measure => have := HK1.out; omega
       case rel => exact ⟨(wrap64 (x3_1 + 1)), (by first | rfl | (simp; done) | (simp [*]; done)), H', ⟨by have := HK1.out; omega⟩, ⟨by repeat (first | (with_reducible first | exact HB.out | apply pa_ | apply pn_ | apply pd_) | exact HB.out)⟩⟩
     ·replace c5 := Bool.eq_false_iff.mpr c5
      subst c5
      have H1 : (some false) = some r := by rw [if_neg (show ¬ (false = true) by decide)] at H; exact H
      clear H
      have H := H1
      clear H1
      obtain rfl := Option.some.inj H
      have p179 : 0 ≤ (x3_1 : Int) := of_decide_eq_true (by first | (with_reducible assumption) | assumption)
      have q179 : x3_1 < (l0.length : Int) := of_decide_eq_true (by first | (with_reducible assumption) | assumption)
      obtain ⟨ad179, A179_5, c179_5, e179, hx179_0, hx179_1, hx179_2, hx179_3, hx179_4, hx179_5, hl179_5, hi179_5⟩ := at_T27 HR0.out x3_1 p179 q179
      cases e179
      replace hx179_0 := kp_ HB.out hx179_0
      replace hx179_1 := kp_ HB.out hx179_1
      replace hx179_2 := kp_ HB.out hx179_2
      replace hx179_3 := kp_ HB.out hx179_3
      replace hx179_4 := kp_ HB.out hx179_4
      replace hx179_5 := kp_ HB.out hx179_5
      have HR179_5 := m_ hi179_5
      have HC179_5 := m_ hl179_5
      clear hi179_5 hl179_5
      replace p179 := eq_true p179
      replace q179 := eq_true q179
      try go_wp2_with (first | ((with_reducible refine gate_callee (f := 17) rfl ?_); refine goesL_ (some 15) rfl rfl Try.func17 (by kernel_rfl) rfl #[.agg #[.int .u32 ((rd_T27 l0 x3_1).f0), .int .u32 ((rd_T27 l0 x3_1).f1), .int .u32 ((rd_T27 l0 x3_1).f2), .int .i64 ((rd_T27 l0 x3_1).f3), .int .u32 ((rd_T27 l0 x3_1).f4), .slice A179_5 ((rd_T27 l0 x3_1).f5).length c179_5]] rfl (by (try simp only [List.map_toArray, List.map_cons, List.map_nil]); first | done | rfl | (simp only [List.length_drop, List.length_take]; rfl)) ?_; (with_reducible refine (stolonref15_Right.calls k1 ((rd_T27 l0 x3_1).f0) ((rd_T27 l0 x3_1).f1) ((rd_T27 l0 x3_1).f2) ((rd_T27 l0 x3_1).f3) ((rd_T27 l0 x3_1).f4) _ _ ((rd_T27 l0 x3_1).f5) false _ ?side1 ?side2 A4.out).mono ?_); (case side1 => repeat (first | exact (Kd.C_below HR179_5.out HB.out) | (with_reducible refine Kd.C_alloc ?_ _) | (with_reducible refine Kd.C_drewN ?_ _) | (with_reducible refine Kd.C_drew ?_))); (case side2 => exact HC179_5.out); rintro e w20 ⟨rfl, hb⟩; refine ⟨_, rfl, ?_⟩; have n0_ := m_ (below_step (by repeat (first | (with_reducible first | exact HB.out | apply pa_ | apply pn_ | apply pd_) | exact HB.out)) hb); clear HB; have HB := n0_; clear n0_; (try clear hb); (try clear hb2); (try clear hk); (try clear hi)))
      have n0_ := m_ (pd_ HB.out)
      clear HB
      have HB := n0_
      clear n0_
      refine start_ (n := 19) (S := fun w' => True) (ds := []) (bs_ 19 0) (by kernel_rfl) rfl rfl trivial (fun hHeld => ?_); refine with_tabW stolonref15_Table.tab5 stolonref15_Table.bits5 (fun HT_ HW_ => ?_)
      generalize w20.drew = w21 at HB hHeld ⊢
      refine pure_ (i := 0) (N := some 16) (v := ?_) (a' := ?_) (bs_ 19 1) rfl rfl (any_of HT_.out (by kernel_rfl)) (fun _ _ _ h => h) (Or.inl ⟨by rfl, ?_⟩) ?_ ?_
      rotate_left
      ·intro w'
       go_simp
       with_reducible rfl
      rotate_left
      ·simp only [Act.put, a1_, a2_, a3_, i64_w, i32_w]
       rfl
      refine pure_ (i := 1) (N := some 17) (v := ?_) (a' := ?_) (bs_ 19 3) rfl rfl (any_of HT_.out (by kernel_rfl)) (fun _ _ _ h => h) (Or.inl ⟨by rfl, ?_⟩) ?_ ?_
      rotate_left
      ·intro w'
       go_simp
       with_reducible rfl
      rotate_left
      ·simp only [Act.put, a1_, a2_, a3_, i64_w, i32_w]
       rfl
      refine pure_ (i := 2) (N := some 18) (v := ?_) (a' := ?_) (bs_ 19 7) rfl rfl (any_of HT_.out (by kernel_rfl)) (fun _ _ _ h => h) (Or.inl ⟨by rfl, ?_⟩) ?_ ?_
      rotate_left
      ·intro w'
       go_simp
       with_reducible rfl
      rotate_left
      ·simp only [Act.put, a1_, a2_, a3_, i64_w, i32_w]
       rfl
      refine pure_ (i := 3) (N := some 19) (v := undef) (a' := ?_) (bs_ 19 15) rfl rfl (any_of HT_.out (by kernel_rfl)) (fun _ _ _ h => h) (Or.inr ⟨by rfl, rfl⟩) ?_ ?_
      rotate_left
      ·simp only [Act.put, a1_, a2_, a3_, i64_w, i32_w]
       rfl
      refine pure_ (i := 4) (N := some 20) (v := undef) (a' := ?_) (bs_ 19 31) rfl rfl (any_of HT_.out (by kernel_rfl)) (fun _ _ _ h => h) (Or.inr ⟨by rfl, rfl⟩) ?_ ?_
      rotate_left
      ·simp only [Act.put, a1_, a2_, a3_, i64_w, i32_w]
       rfl
      refine pure_ (i := 5) (N := some 21) (v := undef) (a' := ?_) (bs_ 19 63) rfl rfl (any_of HT_.out (by kernel_rfl)) (fun _ _ _ h => h) (Or.inr ⟨by rfl, rfl⟩) ?_ ?_
      rotate_left
      ·simp only [Act.put, a1_, a2_, a3_, i64_w, i32_w]
       rfl
      refine pure_ (i := 6) (N := some 22) (v := undef) (a' := ?_) (bs_ 19 127) rfl rfl (any_of HT_.out (by kernel_rfl)) (fun _ _ _ h => h) (Or.inr ⟨by rfl, rfl⟩) ?_ ?_
      rotate_left
      ·simp only [Act.put, a1_, a2_, a3_, i64_w, i32_w]
       rfl
      refine pure_ (i := 7) (N := some 23) (v := undef) (a' := ?_) (bs_ 19 255) rfl rfl (any_of HT_.out (by kernel_rfl)) (fun _ _ _ h => h) (Or.inr ⟨by rfl, rfl⟩) ?_ ?_
      rotate_left
      ·simp only [Act.put, a1_, a2_, a3_, i64_w, i32_w]
       rfl
      refine pure_ (i := 8) (N := some 24) (v := undef) (a' := ?_) (bs_ 19 511) rfl rfl (any_of HT_.out (by kernel_rfl)) (fun _ _ _ h => h) (Or.inr ⟨by rfl, rfl⟩) ?_ ?_
      rotate_left
      ·simp only [Act.put, a1_, a2_, a3_, i64_w, i32_w]
       rfl
      refine pure_ (i := 9) (N := some 25) (v := undef) (a' := ?_) (bs_ 19 1023) rfl rfl (any_of HT_.out (by kernel_rfl)) (fun _ _ _ h => h) (Or.inr ⟨by rfl, rfl⟩) ?_ ?_
      rotate_left
      ·simp only [Act.put, a1_, a2_, a3_, i64_w, i32_w]
       rfl
      refine pure_ (i := 10) (N := some 26) (v := undef) (a' := ?_) (bs_ 19 2047) rfl rfl (any_of HT_.out (by kernel_rfl)) (fun _ _ _ h => h) (Or.inr ⟨by rfl, rfl⟩) ?_ ?_
      rotate_left
      ·simp only [Act.put, a1_, a2_, a3_, i64_w, i32_w]
       rfl
      refine pure_ (i := 11) (N := some 27) (v := undef) (a' := ?_) (bs_ 19 4095) rfl rfl (any_of HT_.out (by kernel_rfl)) (fun _ _ _ h => h) (Or.inr ⟨by rfl, rfl⟩) ?_ ?_
      rotate_left
      ·simp only [Act.put, a1_, a2_, a3_, i64_w, i32_w]
       rfl
      refine pure_ (i := 12) (N := some 28) (v := undef) (a' := ?_) (bs_ 19 8191) rfl rfl (any_of HT_.out (by kernel_rfl)) (fun _ _ _ h => h) (Or.inr ⟨by rfl, rfl⟩) ?_ ?_
      rotate_left
      ·simp only [Act.put, a1_, a2_, a3_, i64_w, i32_w]
       rfl
      refine pure_ (i := 13) (N := some 29) (v := undef) (a' := ?_) (bs_ 19 16383) rfl rfl (any_of HT_.out (by kernel_rfl)) (fun _ _ _ h => h) (Or.inr ⟨by rfl, rfl⟩) ?_ ?_
      rotate_left
      ·simp only [Act.put, a1_, a2_, a3_, i64_w, i32_w]
       rfl
      refine pure_ (i := 14) (N := some 30) (v := undef) (a' := ?_) (bs_ 19 32767) rfl rfl (any_of HT_.out (by kernel_rfl)) (fun _ _ _ h => h) (Or.inr ⟨by rfl, rfl⟩) ?_ ?_
      rotate_left
      ·simp only [Act.put, a1_, a2_, a3_, i64_w, i32_w]
       rfl
      refine pure_ (i := 15) (N := some 31) (v := undef) (a' := ?_) (bs_ 19 65535) rfl rfl (any_of HT_.out (by kernel_rfl)) (fun _ _ _ h => h) (Or.inr ⟨by rfl, rfl⟩) ?_ ?_
      rotate_left
      ·simp only [Act.put, a1_, a2_, a3_, i64_w, i32_w]
       rfl
      refine pure_ (i := 16) (N := some 32) (v := undef) (a' := ?_) (bs_ 19 131071) rfl rfl (any_of HT_.out (by kernel_rfl)) (fun _ _ _ h => h) (Or.inr ⟨by rfl, rfl⟩) ?_ ?_
      rotate_left
      ·simp only [Act.put, a1_, a2_, a3_, i64_w, i32_w]
       rfl
      refine pure_ (i := 17) (N := some 33) (v := undef) (a' := ?_) (bs_ 19 262143) rfl rfl (any_of HT_.out (by kernel_rfl)) (fun _ _ _ h => h) (Or.inr ⟨by rfl, rfl⟩) ?_ ?_
      rotate_left
      ·simp only [Act.put, a1_, a2_, a3_, i64_w, i32_w]
       rfl
      refine pure_ (i := 18) (N := some 34) (v := ?_) (a' := ?_) (bs_ 19 524287) rfl rfl (any_of HT_.out (by kernel_rfl)) (fun _ _ _ h => h) (Or.inl ⟨by rfl, ?_⟩) ?_ ?_
      rotate_left
      ·intro w'
       go_simp
       with_reducible rfl
      rotate_left
      ·simp only [Act.put, a1_, a2_, a3_, i64_w, i32_w]
       rfl
      refine done_ (done_of HT_.out (by kernel_rfl)) ?_
      try go_wp2
      go_ret
      exact ⟨by first | rfl | (simp [errW_none, errW_some] <;> rfl) | (simp [*, errW_none, errW_some] <;> rfl), by repeat (first | (with_reducible first | exact HB.out | apply pa_ | apply pn_ | apply pd_) | exact HB.out)⟩
    ·rw [if_neg c3] at H
     exact absurd H (by simp)
   ·rw [if_neg c2] at H
    have c2b0 : decide (x3_1 < (l0.length : Int)) = false := decide_eq_false c2
    clear c2
    obtain rfl := Option.some.inj H
    go_wp2
    go_ret
    exact ⟨by first | rfl | (simp [errW_none, errW_some] <;> rfl) | (simp [*, errW_none, errW_some] <;> rfl), by repeat (first | (with_reducible first | exact HB.out | apply pa_ | apply pn_ | apply pd_) | exact HB.out)⟩

end Go.Proofs.Yteibolilodgjnaa.P

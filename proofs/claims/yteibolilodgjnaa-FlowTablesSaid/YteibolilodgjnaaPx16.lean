/- For each Go function a Lean function, and the proof that a call comes to what it tells: made by program out of the translation (the kit's print, with texts by hand put in). No condition. -/
import Derived.Test.YteibolilodgjnaaSq
import Derived.Test.YteibolilodgjnaaPx0
import Derived.Test.YteibolilodgjnaaPx15
namespace Go.Proofs.Yteibolilodgjnaa.P
open Go.RowKit Go.Proofs.Yteibolilodgjnaa.HRows Go.Proofs.YteibolilodgjnaaW.PrintWords Go.Proofs.YteibolilodgjnaaW.PrintLast Go.Proofs.YteibolilodgjnaaW.PrintMore
attribute [local go_sem] max2_int min2_int max_two min_two max_three min_three max_four min_four   -- for this text's walks alone
set_option linter.unusedVariables false
set_option linter.unusedSimpArgs false

/-! ### stolonref15_Rows: function 11 -/
def stolonref15_Rows.l0 : Nat → List (S27) → List (S27) → Int → Option (Bool)
 | 0, _, _, _ => none
 | k + 1, x0, x1, x5 => if x5 < (x0.length : Int) then (if 0 ≤ x5 then (if x5 < (x1.length : Int) then ((stolonref15_Same.f k ((rd_T27 x0 x5).f0) ((rd_T27 x0 x5).f1) ((rd_T27 x0 x5).f2) ((rd_T27 x0 x5).f3) ((rd_T27 x0 x5).f4) ((rd_T27 x0 x5).f5) ((rd_T27 x1 x5).f0) ((rd_T27 x1 x5).f1) ((rd_T27 x1 x5).f2) ((rd_T27 x1 x5).f3) ((rd_T27 x1 x5).f4) ((rd_T27 x1 x5).f5)).bind fun t190 => (if t190 = true then (stolonref15_Rows.l0 k x0 x1 (wrap64 (x5 + 1))) else (some false))) else (none)) else (none)) else (some true)
def stolonref15_Rows.f (k : Nat) (l0 : List (S27)) (l1 : List (S27)) : Option (Bool) := if (l0.length : Int) = (l1.length : Int) then (stolonref15_Rows.l0 k l0 l1 0) else (some false)
theorem stolonref15_Rows.mono_l : ∀ k, (∀ y0 y1 y2, LeO (stolonref15_Rows.l0 k y0 y1 y2) (stolonref15_Rows.l0 (k + 1) y0 y1 y2))
 | 0 => fun _ _ _ r h => by simp [stolonref15_Rows.l0] at h
 | k + 1 => by
  have ih0 := stolonref15_Rows.mono_l k
  ·intro y0 y1 y2
   unfold stolonref15_Rows.l0
   repeat' first
   | (with_reducible exact ih0 _ _ _)
   | (with_reducible exact stolonref15_Same.mono _ _ _ _ _ _ _ _ _ _ _ _ _)
   | (with_reducible exact LeO.refl _)
   | (with_reducible exact LeO.none _)
   | (with_reducible refine LeO.ite ?_ ?_)
   | (with_reducible refine LeO.bind ?_ (fun _ => ?_))
   | exact ih0 _ _ _
   | exact stolonref15_Same.mono _ _ _ _ _ _ _ _ _ _ _ _ _
   | exact LeO.none _
   | refine LeO.ite ?_ ?_
   | refine LeO.bind ?_ (fun _ => ?_)
theorem stolonref15_Rows.mono : ∀ a0 a1 k, LeO (stolonref15_Rows.f k a0 a1) (stolonref15_Rows.f (k + 1) a0 a1) := by
 intro a0 a1 k
 have ih0 := stolonref15_Rows.mono_l k
 unfold stolonref15_Rows.f
 repeat' first
   | (with_reducible exact ih0 _ _ _)
   | (with_reducible exact stolonref15_Same.mono _ _ _ _ _ _ _ _ _ _ _ _ _)
   | (with_reducible exact LeO.refl _)
   | (with_reducible exact LeO.none _)
   | (with_reducible refine LeO.ite ?_ ?_)
   | (with_reducible refine LeO.bind ?_ (fun _ => ?_))
   | exact ih0 _ _ _
   | exact stolonref15_Same.mono _ _ _ _ _ _ _ _ _ _ _ _ _
   | exact LeO.none _
   | refine LeO.ite ?_ ?_
   | refine LeO.bind ?_ (fun _ => ?_)
def stolonref15_Rows.T6 : Bool × List (List Nat × List Nat) := (true, [([], []), ([], []), ([0, 1], [0, 1]), ([2], [2]), ([], []), ([], []), ([4, 5], [4, 5]), ([6], [6]), ([3, 7], [3, 7]), ([8, 8, 0, 1, 2, 3, 4, 5, 6, 7, 8], [8])])
def stolonref15_Rows.B6 : List Nat := [0, 0, 3, 7, 0, 0, 48, 112, 255, 511]
theorem stolonref15_Rows.tab6 : rtab .any (opsOf Try.f11 6) = stolonref15_Rows.T6 := by kernel_rfl
theorem stolonref15_Rows.bits6 : waitsOk stolonref15_Rows.T6.2 stolonref15_Rows.B6 = true := by kernel_rfl
set_option maxHeartbeats 8000000 in
set_option maxRecDepth 100000 in
theorem stolonref15_Rows.calls (k : Nat) (A0 : Option Addr) (c0 : Nat) (l0 : List (S27)) (A1 : Option Addr) (c1 : Nat) (l1 : List (S27)) (r : Bool) (w : World) (hr0 : Kd.C k27 w A0 l0.length l0) (hc0 : l0.length ≤ c0) (hr1 : Kd.C k27 w A1 l1.length l1) (hc1 : l1.length ≤ c1) (h : stolonref15_Rows.f k l0 l1 = some r) :
  Calls Try.prog 11 #[.slice A0 l0.length c0, .slice A1 l1.length c1] w fun e w' => e = .returned (.bool r) ∧ Below w.heap.size w w' := by
 have hu27 := Try.underlying27
 have HR0 := m_ hr0
 have HC0 := m_ hc0
 clear hr0 hc0
 have HR1 := m_ hr1
 have HC1 := m_ hc1
 clear hr1 hc1
 have HB := m_ (Below.refl w.heap.size w)
 have H : (if (l0.length : Int) = (l1.length : Int) then (stolonref15_Rows.l0 k l0 l1 0) else (some false)) = some r := h
 clear h
 by_cases c3 : (l0.length : Int) = (l1.length : Int)
 ·rw [if_pos c3] at H
  have c3b0 : ((l0.length : Int) == (l1.length : Int)) = true := beq_iff_eq.mpr c3
  have c3b1 : ((l0.length : Int) != (l1.length : Int)) = false := bne_eq_false_iff_eq.mpr c3
  have c3b2 : (l0.length == l1.length) = true := by first | simpa using c3 | (simp at c3 ⊢; omega)
  clear c3
  have H' := m_ H
  clear H
  go_enter Try.func11, Try.ntmps11
  go_wp2
  go_loopg [5] k (fun kq v5 w' => ∃ (x5_1 : Int), v5 = .int .i64 x5_1 ∧ Aside0 (stolonref15_Rows.l0 kq l0 l1 x5_1 = some r) ∧ Aside0 (kq ≤ k) ∧ Aside0 (Below w.heap.size w w'))
  case atStart => exact ⟨(0), (by first | rfl | (simp; done) | (simp [*]; done)), H', ⟨Nat.le_refl _⟩, ⟨by repeat (first | (with_reducible first | exact HB.out | apply pa_ | apply pn_ | apply pd_) | exact HB.out)⟩⟩
  case round =>
   clear H'
   try clear c1
   try clear p2
   try clear c3
   try clear c3b0
   try clear c3b1
   try clear c3b2
   obtain ⟨x5_1, rfl, HA, HK1, HB⟩ := hrel
   cases gk with
   | zero => exact absurd HA.out (by simp [stolonref15_Rows.l0])
   | succ k1 =>
    have H := HA.out
    clear HA
    simp only [stolonref15_Rows.l0] at H
    by_cases c4 : x5_1 < (l0.length : Int)
    ·rw [if_pos c4] at H
     have c4b0 : decide (x5_1 < (l0.length : Int)) = true := decide_eq_true c4
     clear c4
     by_cases c5 : 0 ≤ x5_1
     ·rw [if_pos c5] at H
      have c5b0 : decide (0 ≤ x5_1) = true := decide_eq_true c5
      clear c5
      by_cases c6 : x5_1 < (l1.length : Int)
      ·rw [if_pos c6] at H
       have c6b0 : decide (x5_1 < (l1.length : Int)) = true := decide_eq_true c6
       clear c6
       replace H := Option.bind_eq_some_iff.mp H
       obtain ⟨t190, A70, H⟩ := H
       replace H : (if t190 = true then (stolonref15_Rows.l0 k1 l0 l1 (wrap64 (x5_1 + 1))) else (some false)) = some r := H
       have A7 := m_ A70
       clear A70
       by_cases c8 : t190 = true
       ·subst c8
        have H1 : (stolonref15_Rows.l0 k1 l0 l1 (wrap64 (x5_1 + 1))) = some r := by rw [if_pos rfl] at H; exact H
        clear H
        have H := H1
        clear H1
        have H' := m_ H
        clear H
        try go_wp2
        have n0_ := m_ (pd_ HB.out)
        clear HB
        have HB := n0_
        clear n0_
        have p188 : 0 ≤ (x5_1 : Int) := of_decide_eq_true (by first | (with_reducible assumption) | assumption)
        have q188 : x5_1 < (l0.length : Int) := of_decide_eq_true (by first | (with_reducible assumption) | assumption)
        obtain ⟨ad188, A188_5, c188_5, e188, hx188_0, hx188_1, hx188_2, hx188_3, hx188_4, hx188_5, hl188_5, hi188_5⟩ := at_T27 HR0.out x5_1 p188 q188
        have hw188_5 := hx188_5
        have hw188_4 := hx188_4
        have hw188_3 := hx188_3
        have hw188_2 := hx188_2
        have hw188_1 := hx188_1
        have hw188_0 := hx188_0
        cases e188
        replace hx188_0 := kp_ HB.out hx188_0
        replace hx188_1 := kp_ HB.out hx188_1
        replace hx188_2 := kp_ HB.out hx188_2
        replace hx188_3 := kp_ HB.out hx188_3
        replace hx188_4 := kp_ HB.out hx188_4
        replace hx188_5 := kp_ HB.out hx188_5
        have HR188_5 := m_ hi188_5
        have HC188_5 := m_ hl188_5
        clear hi188_5 hl188_5
        replace p188 := eq_true p188
        replace q188 := eq_true q188
        have p189 : 0 ≤ (x5_1 : Int) := of_decide_eq_true (by first | (with_reducible assumption) | assumption)
        have q189 : x5_1 < (l1.length : Int) := of_decide_eq_true (by first | (with_reducible assumption) | assumption)
        obtain ⟨ad189, A189_5, c189_5, e189, hx189_0, hx189_1, hx189_2, hx189_3, hx189_4, hx189_5, hl189_5, hi189_5⟩ := at_T27 HR1.out x5_1 p189 q189
        have hw189_5 := hx189_5
        have hw189_4 := hx189_4
        have hw189_3 := hx189_3
        have hw189_2 := hx189_2
        have hw189_1 := hx189_1
        have hw189_0 := hx189_0
        cases e189
        replace hx189_0 := kp_ HB.out hx189_0
        replace hx189_1 := kp_ HB.out hx189_1
        replace hx189_2 := kp_ HB.out hx189_2
        replace hx189_3 := kp_ HB.out hx189_3
        replace hx189_4 := kp_ HB.out hx189_4
        replace hx189_5 := kp_ HB.out hx189_5
        have HR189_5 := m_ hi189_5
        have HC189_5 := m_ hl189_5
        clear hi189_5 hl189_5
        replace p189 := eq_true p189
        replace q189 := eq_true q189
        refine start_ (n := 10) (S := fun w' => w'.cell? (ad188.add ((x5_1).toNat * 6)) = some (.int .u32 ((rd_T27 l0 x5_1).f0)) ∧ w'.cell? ⟨(ad188.add ((x5_1).toNat * 6)).block, (ad188.add ((x5_1).toNat * 6)).off + 1, none⟩ = some (.int .u32 ((rd_T27 l0 x5_1).f1)) ∧ w'.cell? ⟨(ad188.add ((x5_1).toNat * 6)).block, (ad188.add ((x5_1).toNat * 6)).off + 2, none⟩ = some (.int .u32 ((rd_T27 l0 x5_1).f2)) ∧ w'.cell? ⟨(ad188.add ((x5_1).toNat * 6)).block, (ad188.add ((x5_1).toNat * 6)).off + 3, none⟩ = some (.int .i64 ((rd_T27 l0 x5_1).f3)) ∧ w'.cell? ⟨(ad188.add ((x5_1).toNat * 6)).block, (ad188.add ((x5_1).toNat * 6)).off + 4, none⟩ = some (.int .u32 ((rd_T27 l0 x5_1).f4)) ∧ w'.cell? ⟨(ad188.add ((x5_1).toNat * 6)).block, (ad188.add ((x5_1).toNat * 6)).off + 5, none⟩ = some (.slice A188_5 ((rd_T27 l0 x5_1).f5).length c188_5) ∧ w'.cell? (ad189.add ((x5_1).toNat * 6)) = some (.int .u32 ((rd_T27 l1 x5_1).f0)) ∧ w'.cell? ⟨(ad189.add ((x5_1).toNat * 6)).block, (ad189.add ((x5_1).toNat * 6)).off + 1, none⟩ = some (.int .u32 ((rd_T27 l1 x5_1).f1)) ∧ w'.cell? ⟨(ad189.add ((x5_1).toNat * 6)).block, (ad189.add ((x5_1).toNat * 6)).off + 2, none⟩ = some (.int .u32 ((rd_T27 l1 x5_1).f2)) ∧ w'.cell? ⟨(ad189.add ((x5_1).toNat * 6)).block, (ad189.add ((x5_1).toNat * 6)).off + 3, none⟩ = some (.int .i64 ((rd_T27 l1 x5_1).f3)) ∧ w'.cell? ⟨(ad189.add ((x5_1).toNat * 6)).block, (ad189.add ((x5_1).toNat * 6)).off + 4, none⟩ = some (.int .u32 ((rd_T27 l1 x5_1).f4)) ∧ w'.cell? ⟨(ad189.add ((x5_1).toNat * 6)).block, (ad189.add ((x5_1).toNat * 6)).off + 5, none⟩ = some (.slice A189_5 ((rd_T27 l1 x5_1).f5).length c189_5)) (ds := []) (bs_ 10 0) (by kernel_rfl) rfl rfl ⟨(kp_ HB.out hw188_0), (kp_ HB.out hw188_1), (kp_ HB.out hw188_2), (kp_ HB.out hw188_3), (kp_ HB.out hw188_4), (kp_ HB.out hw188_5), (kp_ HB.out hw189_0), (kp_ HB.out hw189_1), (kp_ HB.out hw189_2), (kp_ HB.out hw189_3), (kp_ HB.out hw189_4), (kp_ HB.out hw189_5)⟩ (fun hHeld => ?_); refine with_tabW stolonref15_Rows.tab6 stolonref15_Rows.bits6 (fun HT_ HW_ => ?_)
        generalize wr.drew = w9 at HB HR188_5 HR189_5 hx188_0 hx188_1 hx188_2 hx188_3 hx188_4 hx188_5 hx189_0 hx189_1 hx189_2 hx189_3 hx189_4 hx189_5 hHeld ⊢
        refine pure_ (i := 0) (N := some 18) (v := ?_) (a' := ?_) (bs_ 10 1) rfl rfl (any_of HT_.out (by kernel_rfl)) (fun _ _ _ h => h) (Or.inl ⟨by rfl, ?_⟩) ?_ ?_
        rotate_left
        ·intro w'
         go_simp
         with_reducible rfl
        rotate_left
        ·simp only [Act.put, a1_, a2_, a3_, i64_w, i32_w]
         rfl
        refine pure_ (i := 1) (N := some 19) (v := ?_) (a' := ?_) (bs_ 10 3) rfl rfl (any_of HT_.out (by kernel_rfl)) (fun _ _ _ h => h) (Or.inl ⟨by rfl, ?_⟩) ?_ ?_
        rotate_left
        ·intro w'
         go_simp
         with_reducible rfl
        rotate_left
        ·simp only [Act.put, a1_, a2_, a3_, i64_w, i32_w]
         rfl
        refine pure_ (i := 2) (N := some 20) (v := ?_) (a' := ?_) (bs_ 10 7) rfl rfl (any_of HT_.out (by kernel_rfl)) (fun _ _ _ h => h) (Or.inl ⟨by rfl, ?_⟩) ?_ ?_
        rotate_left
        ·intro w'
         go_simp
         with_reducible rfl
        rotate_left
        ·simp only [Act.put, a1_, a2_, a3_, i64_w, i32_w]
         rfl
        refine pure_ (i := 4) (N := some 22) (v := ?_) (a' := ?_) (bs_ 10 23) rfl rfl (any_of HT_.out (by kernel_rfl)) (fun _ _ _ h => h) (Or.inl ⟨by rfl, ?_⟩) ?_ ?_
        rotate_left
        ·intro w'
         go_simp
         with_reducible rfl
        rotate_left
        ·simp only [Act.put, a1_, a2_, a3_, i64_w, i32_w]
         rfl
        refine pure_ (i := 5) (N := some 23) (v := ?_) (a' := ?_) (bs_ 10 55) rfl rfl (any_of HT_.out (by kernel_rfl)) (fun _ _ _ h => h) (Or.inl ⟨by rfl, ?_⟩) ?_ ?_
        rotate_left
        ·intro w'
         go_simp
         with_reducible rfl
        rotate_left
        ·simp only [Act.put, a1_, a2_, a3_, i64_w, i32_w]
         rfl
        refine pure_ (i := 6) (N := some 24) (v := ?_) (a' := ?_) (bs_ 10 119) rfl rfl (any_of HT_.out (by kernel_rfl)) (fun _ _ _ h => h) (Or.inl ⟨by rfl, ?_⟩) ?_ ?_
        rotate_left
        ·intro w'
         go_simp
         with_reducible rfl
        rotate_left
        ·simp only [Act.put, a1_, a2_, a3_, i64_w, i32_w]
         rfl
        refine take_ (i := 3) (N := some 21) (v := ?_) (a' := ?_) (bs_ 10 127) rfl rfl (take_ofW HT_.out HW_.out (by kernel_rfl)) (fun _ _ _ h => h) (Or.inl ⟨by rfl, ?_⟩) hHeld ?_ ?_
        rotate_left
        ·rintro w' ⟨s0, s1, s2, s3, s4, s5, s6, s7, s8, s9, s10, s11⟩
         (try simp only [add_plain] at s0 s1 s2 s3 s4 s5 s6 s7 s8 s9 s10 s11)
         go_simp
         with_reducible rfl
        rotate_left
        ·simp only [Act.put, a1_, a2_, a3_, i64_w, i32_w]
         rfl
        refine take_ (i := 7) (N := some 25) (v := ?_) (a' := ?_) (bs_ 10 255) rfl rfl (take_ofW HT_.out HW_.out (by kernel_rfl)) (fun _ _ _ h => h) (Or.inl ⟨by rfl, ?_⟩) hHeld ?_ ?_
        rotate_left
        ·rintro w' ⟨s0, s1, s2, s3, s4, s5, s6, s7, s8, s9, s10, s11⟩
         (try simp only [add_plain] at s0 s1 s2 s3 s4 s5 s6 s7 s8 s9 s10 s11)
         go_simp
         with_reducible rfl
        rotate_left
        ·simp only [Act.put, a1_, a2_, a3_, i64_w, i32_w]
         rfl
        refine one_ (i := 8) (N := some 26) (bs_ 10 511) rfl rfl (one_of HT_.out (by kernel_rfl)) (by decide) (fun K hK => ?_)
        refine goes_ Try.func14 (by kernel_rfl) rfl #[.agg #[.int .u32 ((rd_T27 l0 x5_1).f0), .int .u32 ((rd_T27 l0 x5_1).f1), .int .u32 ((rd_T27 l0 x5_1).f2), .int .i64 ((rd_T27 l0 x5_1).f3), .int .u32 ((rd_T27 l0 x5_1).f4), .slice A188_5 ((rd_T27 l0 x5_1).f5).length c188_5], .agg #[.int .u32 ((rd_T27 l1 x5_1).f0), .int .u32 ((rd_T27 l1 x5_1).f1), .int .u32 ((rd_T27 l1 x5_1).f2), .int .i64 ((rd_T27 l1 x5_1).f3), .int .u32 ((rd_T27 l1 x5_1).f4), .slice A189_5 ((rd_T27 l1 x5_1).f5).length c189_5]] (by rfl) rfl rfl (by (try simp only [List.map_toArray, List.map_cons, List.map_nil]); first | done | rfl | (simp only [List.length_drop, List.length_take]; rfl)) ?_
        with_reducible refine (stolonref15_Same.calls k1 ((rd_T27 l0 x5_1).f0) ((rd_T27 l0 x5_1).f1) ((rd_T27 l0 x5_1).f2) ((rd_T27 l0 x5_1).f3) ((rd_T27 l0 x5_1).f4) _ _ ((rd_T27 l0 x5_1).f5) ((rd_T27 l1 x5_1).f0) ((rd_T27 l1 x5_1).f1) ((rd_T27 l1 x5_1).f2) ((rd_T27 l1 x5_1).f3) ((rd_T27 l1 x5_1).f4) _ _ ((rd_T27 l1 x5_1).f5) true _ ?side1 ?side2 ?side3 ?side4 A7.out).mono ?_
        (case side1 => repeat (first | exact (Kd.C_below HR188_5.out HB.out) | (with_reducible refine Kd.C_alloc ?_ _) | (with_reducible refine Kd.C_drewN ?_ _) | (with_reducible refine Kd.C_drew ?_)))
        (case side2 => exact HC188_5.out)
        (case side3 => repeat (first | exact (Kd.C_below HR189_5.out HB.out) | (with_reducible refine Kd.C_alloc ?_ _) | (with_reducible refine Kd.C_drewN ?_ _) | (with_reducible refine Kd.C_drew ?_)))
        (case side4 => exact HC189_5.out)
        rintro e w10 ⟨rfl, hb⟩
        refine ⟨_, rfl, ?_⟩
        have n0_ := m_ (below_step (by repeat (first | (with_reducible first | exact HB.out | apply pa_ | apply pn_ | apply pd_) | exact HB.out)) hb)
        clear HB
        have HB := n0_
        clear n0_
        (try clear hb)
        (try clear hb2)
        (try clear hk)
        (try clear hi)
        refine hK.out _ _ ⟨(kp_ HB.out hw188_0), (kp_ HB.out hw188_1), (kp_ HB.out hw188_2), (kp_ HB.out hw188_3), (kp_ HB.out hw188_4), (kp_ HB.out hw188_5), (kp_ HB.out hw189_0), (kp_ HB.out hw189_1), (kp_ HB.out hw189_2), (kp_ HB.out hw189_3), (kp_ HB.out hw189_4), (kp_ HB.out hw189_5)⟩ (fun hHeld => ?_)
        clear hK K
        refine norm_ (a' := ?_) ?_ ?_
        rotate_left
        ·show Act.put _ (some 26) _ = _
         simp only [Act.put, a1_, a2_, a3_, i64_w, i32_w]
         rfl
        refine pure_ (i := 9) (N := some 6) (v := ?_) (a' := ?_) (bs_ 10 1023) rfl rfl (any_of HT_.out (by kernel_rfl)) (fun _ _ _ h => h) (Or.inl ⟨by rfl, ?_⟩) ?_ ?_
        rotate_left
        ·intro w'
         go_simp
         with_reducible rfl
        rotate_left
        ·simp only [Act.put, a1_, a2_, a3_, i64_w, i32_w]
         rfl
        refine done_ (done_of HT_.out (by kernel_rfl)) ?_
        try go_wp2
        go_roundg k1
        case measure => have := HK1.out; omega
        case rel => exact ⟨(wrap64 (x5_1 + 1)), (by first | rfl | (simp; done) | (simp [*]; done)), H', ⟨by have := HK1.out; omega⟩, ⟨by repeat (first | (with_reducible first | exact HB.out | apply pa_ | apply pn_ | apply pd_) | exact HB.out)⟩⟩
       ·replace c8 := Bool.eq_false_iff.mpr c8
        subst c8
        have H1 : (some false) = some r := by rw [if_neg (show ¬ (false = true) by decide)] at H; exact H
        clear H
        have H := H1
        clear H1
        obtain rfl := Option.some.inj H
        try go_wp2
        have n0_ := m_ (pd_ HB.out)
        clear HB
        have HB := n0_
        clear n0_
        have p188 : 0 ≤ (x5_1 : Int) := of_decide_eq_true (by first | (with_reducible assumption) | assumption)
        have q188 : x5_1 < (l0.length : Int) := of_decide_eq_true (by first | (with_reducible assumption) | assumption)
        obtain ⟨ad188, A188_5, c188_5, e188, hx188_0, hx188_1, hx188_2, hx188_3, hx188_4, hx188_5, hl188_5, hi188_5⟩ := at_T27 HR0.out x5_1 p188 q188
        have hw188_5 := hx188_5
        have hw188_4 := hx188_4
        have hw188_3 := hx188_3
        have hw188_2 := hx188_2
        have hw188_1 := hx188_1
        have hw188_0 := hx188_0
        cases e188
        replace hx188_0 := kp_ HB.out hx188_0
        replace hx188_1 := kp_ HB.out hx188_1
        replace hx188_2 := kp_ HB.out hx188_2
        replace hx188_3 := kp_ HB.out hx188_3
        replace hx188_4 := kp_ HB.out hx188_4
        replace hx188_5 := kp_ HB.out hx188_5
        have HR188_5 := m_ hi188_5
        have HC188_5 := m_ hl188_5
        clear hi188_5 hl188_5
        replace p188 := eq_true p188
        replace q188 := eq_true q188
        have p189 : 0 ≤ (x5_1 : Int) := of_decide_eq_true (by first | (with_reducible assumption) | assumption)
        have q189 : x5_1 < (l1.length : Int) := of_decide_eq_true (by first | (with_reducible assumption) | assumption)
        obtain ⟨ad189, A189_5, c189_5, e189, hx189_0, hx189_1, hx189_2, hx189_3, hx189_4, hx189_5, hl189_5, hi189_5⟩ := at_T27 HR1.out x5_1 p189 q189
        have hw189_5 := hx189_5
        have hw189_4 := hx189_4
        have hw189_3 := hx189_3
        have hw189_2 := hx189_2
        have hw189_1 := hx189_1
        have hw189_0 := hx189_0
        cases e189
        replace hx189_0 := kp_ HB.out hx189_0
        replace hx189_1 := kp_ HB.out hx189_1
        replace hx189_2 := kp_ HB.out hx189_2
        replace hx189_3 := kp_ HB.out hx189_3
        replace hx189_4 := kp_ HB.out hx189_4
        replace hx189_5 := kp_ HB.out hx189_5
        have HR189_5 := m_ hi189_5
        have HC189_5 := m_ hl189_5
        clear hi189_5 hl189_5
        replace p189 := eq_true p189
        replace q189 := eq_true q189
        refine start_ (n := 10) (S := fun w' => w'.cell? (ad188.add ((x5_1).toNat * 6)) = some (.int .u32 ((rd_T27 l0 x5_1).f0)) ∧ w'.cell? ⟨(ad188.add ((x5_1).toNat * 6)).block, (ad188.add ((x5_1).toNat * 6)).off + 1, none⟩ = some (.int .u32 ((rd_T27 l0 x5_1).f1)) ∧ w'.cell? ⟨(ad188.add ((x5_1).toNat * 6)).block, (ad188.add ((x5_1).toNat * 6)).off + 2, none⟩ = some (.int .u32 ((rd_T27 l0 x5_1).f2)) ∧ w'.cell? ⟨(ad188.add ((x5_1).toNat * 6)).block, (ad188.add ((x5_1).toNat * 6)).off + 3, none⟩ = some (.int .i64 ((rd_T27 l0 x5_1).f3)) ∧ w'.cell? ⟨(ad188.add ((x5_1).toNat * 6)).block, (ad188.add ((x5_1).toNat * 6)).off + 4, none⟩ = some (.int .u32 ((rd_T27 l0 x5_1).f4)) ∧ w'.cell? ⟨(ad188.add ((x5_1).toNat * 6)).block, (ad188.add ((x5_1).toNat * 6)).off + 5, none⟩ = some (.slice A188_5 ((rd_T27 l0 x5_1).f5).length c188_5) ∧ w'.cell? (ad189.add ((x5_1).toNat * 6)) = some (.int .u32 ((rd_T27 l1 x5_1).f0)) ∧ w'.cell? ⟨(ad189.add ((x5_1).toNat * 6)).block, (ad189.add ((x5_1).toNat * 6)).off + 1, none⟩ = some (.int .u32 ((rd_T27 l1 x5_1).f1)) ∧ w'.cell? ⟨(ad189.add ((x5_1).toNat * 6)).block, (ad189.add ((x5_1).toNat * 6)).off + 2, none⟩ = some (.int .u32 ((rd_T27 l1 x5_1).f2)) ∧ w'.cell? ⟨(ad189.add ((x5_1).toNat * 6)).block, (ad189.add ((x5_1).toNat * 6)).off + 3, none⟩ = some (.int .i64 ((rd_T27 l1 x5_1).f3)) ∧ w'.cell? ⟨(ad189.add ((x5_1).toNat * 6)).block, (ad189.add ((x5_1).toNat * 6)).off + 4, none⟩ = some (.int .u32 ((rd_T27 l1 x5_1).f4)) ∧ w'.cell? ⟨(ad189.add ((x5_1).toNat * 6)).block, (ad189.add ((x5_1).toNat * 6)).off + 5, none⟩ = some (.slice A189_5 ((rd_T27 l1 x5_1).f5).length c189_5)) (ds := []) (bs_ 10 0) (by kernel_rfl) rfl rfl ⟨(kp_ HB.out hw188_0), (kp_ HB.out hw188_1), (kp_ HB.out hw188_2), (kp_ HB.out hw188_3), (kp_ HB.out hw188_4), (kp_ HB.out hw188_5), (kp_ HB.out hw189_0), (kp_ HB.out hw189_1), (kp_ HB.out hw189_2), (kp_ HB.out hw189_3), (kp_ HB.out hw189_4), (kp_ HB.out hw189_5)⟩ (fun hHeld => ?_); refine with_tabW stolonref15_Rows.tab6 stolonref15_Rows.bits6 (fun HT_ HW_ => ?_)
        generalize wr.drew = w11 at HB HR188_5 HR189_5 hx188_0 hx188_1 hx188_2 hx188_3 hx188_4 hx188_5 hx189_0 hx189_1 hx189_2 hx189_3 hx189_4 hx189_5 hHeld ⊢
        refine pure_ (i := 0) (N := some 18) (v := ?_) (a' := ?_) (bs_ 10 1) rfl rfl (any_of HT_.out (by kernel_rfl)) (fun _ _ _ h => h) (Or.inl ⟨by rfl, ?_⟩) ?_ ?_
        rotate_left
        ·intro w'
         go_simp
         with_reducible rfl
        rotate_left
        ·simp only [Act.put, a1_, a2_, a3_, i64_w, i32_w]
         rfl
        refine pure_ (i := 1) (N := some 19) (v := ?_) (a' := ?_) (bs_ 10 3) rfl rfl (any_of HT_.out (by kernel_rfl)) (fun _ _ _ h => h) (Or.inl ⟨by rfl, ?_⟩) ?_ ?_
        rotate_left
        ·intro w'
         go_simp
         with_reducible rfl
        rotate_left
        ·simp only [Act.put, a1_, a2_, a3_, i64_w, i32_w]
         rfl
        refine pure_ (i := 2) (N := some 20) (v := ?_) (a' := ?_) (bs_ 10 7) rfl rfl (any_of HT_.out (by kernel_rfl)) (fun _ _ _ h => h) (Or.inl ⟨by rfl, ?_⟩) ?_ ?_
        rotate_left
        ·intro w'
         go_simp
         with_reducible rfl
        rotate_left
        ·simp only [Act.put, a1_, a2_, a3_, i64_w, i32_w]
         rfl
        refine pure_ (i := 4) (N := some 22) (v := ?_) (a' := ?_) (bs_ 10 23) rfl rfl (any_of HT_.out (by kernel_rfl)) (fun _ _ _ h => h) (Or.inl ⟨by rfl, ?_⟩) ?_ ?_
        rotate_left
        ·intro w'
         go_simp
         with_reducible rfl
        rotate_left
        ·simp only [Act.put, a1_, a2_, a3_, i64_w, i32_w]
         rfl
        refine pure_ (i := 5) (N := some 23) (v := ?_) (a' := ?_) (bs_ 10 55) rfl rfl (any_of HT_.out (by kernel_rfl)) (fun _ _ _ h => h) (Or.inl ⟨by rfl, ?_⟩) ?_ ?_
        rotate_left
        ·intro w'
         go_simp
         with_reducible rfl
        rotate_left
        ·simp only [Act.put, a1_, a2_, a3_, i64_w, i32_w]
         rfl
        refine pure_ (i := 6) (N := some 24) (v := ?_) (a' := ?_) (bs_ 10 119) rfl rfl (any_of HT_.out (by kernel_rfl)) (fun _ _ _ h => h) (Or.inl ⟨by rfl, ?_⟩) ?_ ?_
        rotate_left
        ·intro w'
         go_simp
         with_reducible rfl
        rotate_left
        ·simp only [Act.put, a1_, a2_, a3_, i64_w, i32_w]
         rfl
        refine take_ (i := 3) (N := some 21) (v := ?_) (a' := ?_) (bs_ 10 127) rfl rfl (take_ofW HT_.out HW_.out (by kernel_rfl)) (fun _ _ _ h => h) (Or.inl ⟨by rfl, ?_⟩) hHeld ?_ ?_
        rotate_left
        ·rintro w' ⟨s0, s1, s2, s3, s4, s5, s6, s7, s8, s9, s10, s11⟩
         (try simp only [add_plain] at s0 s1 s2 s3 s4 s5 s6 s7 s8 s9 s10 s11)
         go_simp
         with_reducible rfl
        rotate_left
        ·simp only [Act.put, a1_, a2_, a3_, i64_w, i32_w]
         rfl
        refine take_ (i := 7) (N := some 25) (v := ?_) (a' := ?_) (bs_ 10 255) rfl rfl (take_ofW HT_.out HW_.out (by kernel_rfl)) (fun _ _ _ h => h) (Or.inl ⟨by rfl, ?_⟩) hHeld ?_ ?_
        rotate_left
        ·rintro w' ⟨s0, s1, s2, s3, s4, s5, s6, s7, s8, s9, s10, s11⟩
         (try simp only [add_plain] at s0 s1 s2 s3 s4 s5 s6 s7 s8 s9 s10 s11)
         go_simp
         with_reducible rfl
        rotate_left
        ·simp only [Act.put, a1_, a2_, a3_, i64_w, i32_w]
         rfl
        refine one_ (i := 8) (N := some 26) (bs_ 10 511) rfl rfl (one_of HT_.out (by kernel_rfl)) (by decide) (fun K hK => ?_)
        refine goes_ Try.func14 (by kernel_rfl) rfl #[.agg #[.int .u32 ((rd_T27 l0 x5_1).f0), .int .u32 ((rd_T27 l0 x5_1).f1), .int .u32 ((rd_T27 l0 x5_1).f2), .int .i64 ((rd_T27 l0 x5_1).f3), .int .u32 ((rd_T27 l0 x5_1).f4), .slice A188_5 ((rd_T27 l0 x5_1).f5).length c188_5], .agg #[.int .u32 ((rd_T27 l1 x5_1).f0), .int .u32 ((rd_T27 l1 x5_1).f1), .int .u32 ((rd_T27 l1 x5_1).f2), .int .i64 ((rd_T27 l1 x5_1).f3), .int .u32 ((rd_T27 l1 x5_1).f4), .slice A189_5 ((rd_T27 l1 x5_1).f5).length c189_5]] (by rfl) rfl rfl (by (try simp only [List.map_toArray, List.map_cons, List.map_nil]); first | done | rfl | (simp only [List.length_drop, List.length_take]; rfl)) ?_
        with_reducible refine (stolonref15_Same.calls k1 ((rd_T27 l0 x5_1).f0) ((rd_T27 l0 x5_1).f1) ((rd_T27 l0 x5_1).f2) ((rd_T27 l0 x5_1).f3) ((rd_T27 l0 x5_1).f4) _ _ ((rd_T27 l0 x5_1).f5) ((rd_T27 l1 x5_1).f0) ((rd_T27 l1 x5_1).f1) ((rd_T27 l1 x5_1).f2) ((rd_T27 l1 x5_1).f3) ((rd_T27 l1 x5_1).f4) _ _ ((rd_T27 l1 x5_1).f5) false _ ?side1 ?side2 ?side3 ?side4 A7.out).mono ?_
        (case side1 => repeat (first | exact (Kd.C_below HR188_5.out HB.out) | (with_reducible refine Kd.C_alloc ?_ _) | (with_reducible refine Kd.C_drewN ?_ _) | (with_reducible refine Kd.C_drew ?_)))
        (case side2 => exact HC188_5.out)
        (case side3 => repeat (first | exact (Kd.C_below HR189_5.out HB.out) | (with_reducible refine Kd.C_alloc ?_ _) | (with_reducible refine Kd.C_drewN ?_ _) | (with_reducible refine Kd.C_drew ?_)))
        (case side4 => exact HC189_5.out)
        rintro e w12 ⟨rfl, hb⟩
        refine ⟨_, rfl, ?_⟩
        have n0_ := m_ (below_step (by repeat (first | (with_reducible first | exact HB.out | apply pa_ | apply pn_ | apply pd_) | exact HB.out)) hb)
        clear HB
        have HB := n0_
        clear n0_
        (try clear hb)
        (try clear hb2)
        (try clear hk)
        (try clear hi)
        refine hK.out _ _ ⟨(kp_ HB.out hw188_0), (kp_ HB.out hw188_1), (kp_ HB.out hw188_2), (kp_ HB.out hw188_3), (kp_ HB.out hw188_4), (kp_ HB.out hw188_5), (kp_ HB.out hw189_0), (kp_ HB.out hw189_1), (kp_ HB.out hw189_2), (kp_ HB.out hw189_3), (kp_ HB.out hw189_4), (kp_ HB.out hw189_5)⟩ (fun hHeld => ?_)
        clear hK K
        refine norm_ (a' := ?_) ?_ ?_
        rotate_left
        ·show Act.put _ (some 26) _ = _
         simp only [Act.put, a1_, a2_, a3_, i64_w, i32_w]
         rfl
        refine pure_ (i := 9) (N := some 6) (v := ?_) (a' := ?_) (bs_ 10 1023) rfl rfl (any_of HT_.out (by kernel_rfl)) (fun _ _ _ h => h) (Or.inl ⟨by rfl, ?_⟩) ?_ ?_
        rotate_left
        ·intro w'
         go_simp
         with_reducible rfl
        rotate_left
        ·simp only [Act.put, a1_, a2_, a3_, i64_w, i32_w]
         rfl
        refine done_ (done_of HT_.out (by kernel_rfl)) ?_
        try go_wp2
        go_ret
        exact ⟨by first | rfl | (simp [errW_none, errW_some] <;> rfl) | (simp [*, errW_none, errW_some] <;> rfl), by repeat (first | (with_reducible first | exact HB.out | apply pa_ | apply pn_ | apply pd_) | exact HB.out)⟩
      ·rw [if_neg c6] at H
       exact absurd H (by simp)
     ·rw [if_neg c5] at H
      exact absurd H (by simp)
    ·rw [if_neg c4] at H
     have c4b0 : decide (x5_1 < (l0.length : Int)) = false := decide_eq_false c4
     clear c4
     obtain rfl := Option.some.inj H
     go_wp2
     go_ret
     exact ⟨by first | rfl | (simp [errW_none, errW_some] <;> rfl) | (simp [*, errW_none, errW_some] <;> rfl), by repeat (first | (with_reducible first | exact HB.out | apply pa_ | apply pn_ | apply pd_) | exact HB.out)⟩
 ·rw [if_neg c3] at H
  have c3b0 : ((l0.length : Int) == (l1.length : Int)) = false := beq_eq_false_iff_ne.mpr c3
  have c3b1 : ((l0.length : Int) != (l1.length : Int)) = true := bne_iff_ne.mpr c3
  have c3b2 : (l0.length == l1.length) = false := by first | simpa using c3 | (simp at c3 ⊢; omega)
  obtain rfl := Option.some.inj H
  go_enter Try.func11, Try.ntmps11
  go_wp2
  go_ret
  exact ⟨by first | rfl | (simp [errW_none, errW_some] <;> rfl) | (simp [*, errW_none, errW_some] <;> rfl), by repeat (first | (with_reducible first | exact HB.out | apply pa_ | apply pn_ | apply pd_) | exact HB.out)⟩

end Go.Proofs.Yteibolilodgjnaa.P

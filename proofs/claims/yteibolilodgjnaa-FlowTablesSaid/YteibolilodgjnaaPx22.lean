/- For each Go function a Lean function, and the proof that a call comes to what it tells: made by program out of the translation (the kit's print, with texts by hand put in). No condition. -/
import Derived.Test.YteibolilodgjnaaSq
import Derived.Test.YteibolilodgjnaaPx0
import Derived.Test.YteibolilodgjnaaPx2
import Derived.Test.YteibolilodgjnaaPx6
import Derived.Test.YteibolilodgjnaaPx21
namespace Go.Proofs.Yteibolilodgjnaa.P
open Go.RowKit Go.Proofs.Yteibolilodgjnaa.HRows Go.Proofs.YteibolilodgjnaaW.PrintWords Go.Proofs.YteibolilodgjnaaW.PrintLast Go.Proofs.YteibolilodgjnaaW.PrintMore
attribute [local go_sem] max2_int min2_int max_two min_two max_three min_three max_four min_four   -- for this text's walks alone
set_option linter.unusedVariables false
set_option linter.unusedSimpArgs false

attribute [local go_sem high] eqA59
/-! ### flow_Same: function 19 -/
def flow_Same.f (k : Nat) (a0_0 : Int) (a0_1 : Int) (a0_2 : Int) (a0_3 : Int) (a0_4 : Int) (l0_5 : List (S53)) (a1_0 : Int) (a1_1 : Int) (a1_2 : Int) (a1_3 : Int) (a1_4 : Int) (l1_5 : List (S53)) : Option (Bool) := (flow_of.f a0_0 a0_1 a0_2 a0_3 a0_4 l0_5).bind fun bt283 => ((flow_of.f a1_0 a1_1 a1_2 a1_3 a1_4 l1_5).bind fun bt286 => (if (bt283.1 == bt286.1 && (bt283.2.1 == bt286.2.1 && (bt283.2.2 == bt286.2.2))) = true then (if a0_3 = a1_3 then (if a0_4 = a1_4 then ((api_Out.f k l0_5 l1_5).bind fun t289 => (some t289)) else (some false)) else (some false)) else (some false)))
theorem flow_Same.mono : ∀ a0 a1 a2 a3 a4 a5 a6 a7 a8 a9 a10 a11 k, LeO (flow_Same.f k a0 a1 a2 a3 a4 a5 a6 a7 a8 a9 a10 a11) (flow_Same.f (k + 1) a0 a1 a2 a3 a4 a5 a6 a7 a8 a9 a10 a11) := by
 intro a0 a1 a2 a3 a4 a5 a6 a7 a8 a9 a10 a11 k
 unfold flow_Same.f
 repeat' first
   | (with_reducible exact api_Out.mono _ _ _)
   | (with_reducible exact LeO.refl _)
   | (with_reducible exact LeO.none _)
   | (with_reducible refine LeO.ite ?_ ?_)
   | (with_reducible refine LeO.bind ?_ (fun _ => ?_))
   | exact api_Out.mono _ _ _
   | exact LeO.none _
   | refine LeO.ite ?_ ?_
   | refine LeO.bind ?_ (fun _ => ?_)
def flow_Same.T1 : Bool × List (List Nat × List Nat) := (true, [([], []), ([0], [0]), ([], []), ([2, 1], [2]), ([1, 3], [1, 3]), ([4, 3], [4]), ([5], [5]), ([6, 5], [5, 6]), ([5], [5]), ([8, 5], [5, 8]), ([7, 9, 5], [5, 7, 9]), ([5, 10], [5, 10]), ([11, 5], [11]), ([12], [12]), ([13, 12], [12, 13]), ([12], [12]), ([15, 12], [12, 15]), ([14, 16, 12], [12, 14, 16]), ([12, 17], [12, 17]), ([18, 12], [18]), ([19], [19]), ([20, 19], [19, 20]), ([19], [19]), ([22, 19], [19, 22]), ([21, 23, 19, 19], [19, 21, 23]), ([19, 24], [19, 24]), ([25, 24, 0, 1, 2, 3, 4, 5, 6, 7, 8, 9, 10, 11, 12, 13, 14, 15, 16, 17, 18, 19, 20, 21, 22, 23, 24, 25], [25])])
def flow_Same.B1 : List Nat := [0, 1, 0, 7, 15, 31, 63, 127, 63, 319, 1023, 2047, 4095, 8191, 16383, 8191, 40959, 131071, 262143, 524287, 1048575, 2097151, 1048575, 5242879, 16777215, 33554431, 67108863]
theorem flow_Same.tab1 : rtab .any (opsOf Try.f19 1) = flow_Same.T1 := by kernel_rfl
theorem flow_Same.bits1 : waitsOk flow_Same.T1.2 flow_Same.B1 = true := by kernel_rfl
set_option maxHeartbeats 8000000 in
set_option maxRecDepth 100000 in
theorem flow_Same.calls (k : Nat) (a0_0 : Int) (a0_1 : Int) (a0_2 : Int) (a0_3 : Int) (a0_4 : Int) (A0_5 : Option Addr) (c0_5 : Nat) (l0_5 : List (S53)) (a1_0 : Int) (a1_1 : Int) (a1_2 : Int) (a1_3 : Int) (a1_4 : Int) (A1_5 : Option Addr) (c1_5 : Nat) (l1_5 : List (S53)) (r : Bool) (w : World) (hr0_5 : Kd.C k53 w A0_5 l0_5.length l0_5) (hc0_5 : l0_5.length ≤ c0_5) (hr1_5 : Kd.C k53 w A1_5 l1_5.length l1_5) (hc1_5 : l1_5.length ≤ c1_5) (h : flow_Same.f k a0_0 a0_1 a0_2 a0_3 a0_4 l0_5 a1_0 a1_1 a1_2 a1_3 a1_4 l1_5 = some r) :
  Calls Try.prog 19 #[.agg #[.int .u32 a0_0, .int .u32 a0_1, .int .u32 a0_2, .int .i64 a0_3, .int .u32 a0_4, .slice A0_5 l0_5.length c0_5], .agg #[.int .u32 a1_0, .int .u32 a1_1, .int .u32 a1_2, .int .i64 a1_3, .int .u32 a1_4, .slice A1_5 l1_5.length c1_5]] w fun e w' => e = .returned (.bool r) ∧ Below w.heap.size w w' := by
 have hu27 := Try.underlying27
 have HR0_5 := m_ hr0_5
 have HC0_5 := m_ hc0_5
 clear hr0_5 hc0_5
 have HR1_5 := m_ hr1_5
 have HC1_5 := m_ hc1_5
 clear hr1_5 hc1_5
 have HB := m_ (Below.refl w.heap.size w)
 have H : ((flow_of.f a0_0 a0_1 a0_2 a0_3 a0_4 l0_5).bind fun bt283 => ((flow_of.f a1_0 a1_1 a1_2 a1_3 a1_4 l1_5).bind fun bt286 => (if (bt283.1 == bt286.1 && (bt283.2.1 == bt286.2.1 && (bt283.2.2 == bt286.2.2))) = true then (if a0_3 = a1_3 then (if a0_4 = a1_4 then ((api_Out.f k l0_5 l1_5).bind fun t289 => (some t289)) else (some false)) else (some false)) else (some false)))) = some r := h
 clear h
 replace H := Option.bind_eq_some_iff.mp H
 obtain ⟨⟨t283, t284, t285⟩, A30, H⟩ := H
 replace H : ((flow_of.f a1_0 a1_1 a1_2 a1_3 a1_4 l1_5).bind fun bt286 => (if (t283 == bt286.1 && (t284 == bt286.2.1 && (t285 == bt286.2.2))) = true then (if a0_3 = a1_3 then (if a0_4 = a1_4 then ((api_Out.f k l0_5 l1_5).bind fun t289 => (some t289)) else (some false)) else (some false)) else (some false))) = some r := H
 have A3 := m_ A30
 clear A30
 replace H := Option.bind_eq_some_iff.mp H
 obtain ⟨⟨t286, t287, t288⟩, A40, H⟩ := H
 replace H : (if (t283 == t286 && (t284 == t287 && (t285 == t288))) = true then (if a0_3 = a1_3 then (if a0_4 = a1_4 then ((api_Out.f k l0_5 l1_5).bind fun t289 => (some t289)) else (some false)) else (some false)) else (some false)) = some r := H
 have A4 := m_ A40
 clear A40
 by_cases c5 : (t283 == t286 && (t284 == t287 && (t285 == t288))) = true
 ·rw [if_pos c5] at H
  have c5b0 : (t283 == t286 && (t284 == t287 && (t285 == t288))) = true := c5
  (try (have c5b1 : decide (t283 = t286 && (t284 == t287 && (t285 == t288))) = true := by simpa using c5))
  (try (have c5b2 : (t283 == t286 && (t284 == t287 && (t285 == t288))) = true := by simpa using c5))
  clear c5
  by_cases c6 : a0_3 = a1_3
  ·rw [if_pos c6] at H
   have c6b0 : (a0_3 == a1_3) = true := beq_iff_eq.mpr c6
   have c6b1 : (a0_3 != a1_3) = false := bne_eq_false_iff_eq.mpr c6
   clear c6
   by_cases c7 : a0_4 = a1_4
   ·rw [if_pos c7] at H
    have c7b0 : (a0_4 == a1_4) = true := beq_iff_eq.mpr c7
    have c7b1 : (a0_4 != a1_4) = false := bne_eq_false_iff_eq.mpr c7
    clear c7
    replace H := Option.bind_eq_some_iff.mp H
    obtain ⟨t289, A80, H⟩ := H
    replace H : (some t289) = some r := H
    have A8 := m_ A80
    clear A80
    obtain rfl := Option.some.inj H
    go_enter Try.func19, Try.ntmps19
    try go_wp2_with (first | ((with_reducible refine gate_dst (N := 2) rfl ?_); refine box_event ?hg (N := 2) ?hd (cs := #[.int .u32 a0_0, .int .u32 a0_1, .int .u32 a0_2, .int .i64 a0_3, .int .u32 a0_4, .slice A0_5 l0_5.length c0_5]) (t := 27) ?hr ?_; (case hd => rfl); (case hg => rfl); (case hr => first | (go_simp; done) | (go_simp; rfl)); intro gb281 hg w9 hbox hb; have n0_ := m_ (below_step (by repeat (first | (with_reducible first | exact HB.out | apply pa_ | apply pn_ | apply pd_) | exact HB.out)) hb); have n1_ := m_ (hbox); have n2_ := m_ ((by rw [hg]; exact (below_size (by repeat (first | (with_reducible first | exact HB.out | apply pa_ | apply pn_ | apply pd_) | exact HB.out))) : w.heap.size ≤ gb281)); have n3_ := m_ ((by rw [hg]; exact (below_size (by repeat (first | (with_reducible first | exact HB.out | apply pa_ | apply pn_ | apply pd_) | exact HB.out))) : w.heap.size ≤ gb281)); clear HB; have HB := n0_; have BK281 := n1_; have GW281 := n2_; have GE281 := n3_; clear n0_ n1_ n2_ n3_; clear hb hbox hg) | ((with_reducible refine gate_dst (N := 3) rfl ?_); refine box_event ?hg (N := 3) ?hd (cs := #[.int .u32 a1_0, .int .u32 a1_1, .int .u32 a1_2, .int .i64 a1_3, .int .u32 a1_4, .slice A1_5 l1_5.length c1_5]) (t := 27) ?hr ?_; (case hd => rfl); (case hg => rfl); (case hr => first | (go_simp; done) | (go_simp; rfl)); intro gb282 hg w10 hbox hb; have n0_ := m_ (blk_below (g := gb281) (o := .cells #[.int .u32 a0_0, .int .u32 a0_1, .int .u32 a0_2, .int .i64 a0_3, .int .u32 a0_4, .slice A0_5 l0_5.length c0_5] 27 (0, 0)) (by (with_reducible repeat (first | refine bn_ ?_ _ | refine bd_ ?_ | refine ba_ ?_ _)); exact BK281.out) hb); have n1_ := m_ (below_step (by repeat (first | (with_reducible first | exact HB.out | apply pa_ | apply pn_ | apply pd_ | refine below_set ?_ GE281.out) | exact HB.out)) hb); have n2_ := m_ (hbox); have n3_ := m_ ((by rw [hg]; exact (below_size (by repeat (first | (with_reducible first | exact HB.out | apply pa_ | apply pn_ | apply pd_ | refine below_set ?_ GE281.out) | exact HB.out))) : w.heap.size ≤ gb282)); have n4_ := m_ ((by rw [hg]; exact (below_size (by repeat (first | (with_reducible first | exact HB.out | apply pa_ | apply pn_ | apply pd_ | refine below_set ?_ GE281.out) | exact HB.out))) : w.heap.size ≤ gb282)); have n5_ := m_ ((by rw [hg]; exact Nat.ne_of_lt (blk_lt (g := gb281) (o := .cells #[.int .u32 a0_0, .int .u32 a0_1, .int .u32 a0_2, .int .i64 a0_3, .int .u32 a0_4, .slice A0_5 l0_5.length c0_5] 27 (0, 0)) (by (with_reducible repeat (first | refine bn_ ?_ _ | refine bd_ ?_ | refine ba_ ?_ _)); exact BK281.out)) : gb281 ≠ gb282)); have n6_ := m_ ((by rw [hg]; exact Nat.ne_of_gt (blk_lt (g := gb281) (o := .cells #[.int .u32 a0_0, .int .u32 a0_1, .int .u32 a0_2, .int .i64 a0_3, .int .u32 a0_4, .slice A0_5 l0_5.length c0_5] 27 (0, 0)) (by (with_reducible repeat (first | refine bn_ ?_ _ | refine bd_ ?_ | refine ba_ ?_ _)); exact BK281.out)) : gb282 ≠ gb281)); clear BK281; clear HB; have BK281 := n0_; have HB := n1_; have BK282 := n2_; have GW282 := n3_; have GE282 := n4_; have NB281_282 := n5_; have NB282_281 := n6_; clear n0_ n1_ n2_ n3_ n4_ n5_ n6_; clear hb hbox hg))
    have n0_ := m_ (bd_ BK281.out)
    have n1_ := m_ (bd_ BK282.out)
    have n2_ := m_ (pd_ HB.out)
    clear BK281
    clear BK282
    clear HB
    have BK281 := n0_
    have BK282 := n1_
    have HB := n2_
    clear n0_ n1_ n2_
    refine start_ (n := 27) (S := fun w' => w'.cell? ⟨gb281, 0, none⟩ = some (.int .u32 a0_0) ∧ w'.cell? ⟨gb281, 1, none⟩ = some (.int .u32 a0_1) ∧ w'.cell? ⟨gb281, 2, none⟩ = some (.int .u32 a0_2) ∧ w'.cell? ⟨gb281, 3, none⟩ = some (.int .i64 a0_3) ∧ w'.cell? ⟨gb281, 4, none⟩ = some (.int .u32 a0_4) ∧ w'.cell? ⟨gb281, 5, none⟩ = some (.slice A0_5 l0_5.length c0_5) ∧ w'.cell? ⟨gb282, 0, none⟩ = some (.int .u32 a1_0) ∧ w'.cell? ⟨gb282, 1, none⟩ = some (.int .u32 a1_1) ∧ w'.cell? ⟨gb282, 2, none⟩ = some (.int .u32 a1_2) ∧ w'.cell? ⟨gb282, 3, none⟩ = some (.int .i64 a1_3) ∧ w'.cell? ⟨gb282, 4, none⟩ = some (.int .u32 a1_4) ∧ w'.cell? ⟨gb282, 5, none⟩ = some (.slice A1_5 l1_5.length c1_5)) (ds := []) (bs_ 27 0) (by kernel_rfl) rfl rfl ⟨(bc_ BK281.out 0).trans rfl, (bc_ BK281.out 1).trans rfl, (bc_ BK281.out 2).trans rfl, (bc_ BK281.out 3).trans rfl, (bc_ BK281.out 4).trans rfl, (bc_ BK281.out 5).trans rfl, (bc_ BK282.out 0).trans rfl, (bc_ BK282.out 1).trans rfl, (bc_ BK282.out 2).trans rfl, (bc_ BK282.out 3).trans rfl, (bc_ BK282.out 4).trans rfl, (bc_ BK282.out 5).trans rfl⟩ (fun hHeld => ?_); refine with_tabW flow_Same.tab1 flow_Same.bits1 (fun HT_ HW_ => ?_)
    generalize w10.drew = w11 at BK281 BK282 HB hHeld ⊢
    refine take_ (i := 0) (N := some 5) (v := ?_) (a' := ?_) (bs_ 27 1) rfl rfl (take_ofW HT_.out HW_.out (by kernel_rfl)) (fun _ _ _ h => h) (Or.inl ⟨by rfl, ?_⟩) hHeld ?_ ?_
    rotate_left
    ·rintro w' ⟨s0, s1, s2, s3, s4, s5, s6, s7, s8, s9, s10, s11⟩
     (try simp only [add_plain] at s0 s1 s2 s3 s4 s5 s6 s7 s8 s9 s10 s11)
     go_simp
     with_reducible rfl
    rotate_left
    ·simp only [Act.put, a1_, a2_, a3_, i64_w, i32_w]
     rfl
    refine take_ (i := 2) (N := some 7) (v := ?_) (a' := ?_) (bs_ 27 5) rfl rfl (take_ofW HT_.out HW_.out (by kernel_rfl)) (fun _ _ _ h => h) (Or.inl ⟨by rfl, ?_⟩) hHeld ?_ ?_
    rotate_left
    ·rintro w' ⟨s0, s1, s2, s3, s4, s5, s6, s7, s8, s9, s10, s11⟩
     (try simp only [add_plain] at s0 s1 s2 s3 s4 s5 s6 s7 s8 s9 s10 s11)
     go_simp
     with_reducible rfl
    rotate_left
    ·simp only [Act.put, a1_, a2_, a3_, i64_w, i32_w]
     rfl
    refine one_ (i := 1) (N := some 6) (bs_ 27 7) rfl rfl (one_of HT_.out (by kernel_rfl)) (by decide) (fun K hK => ?_)
    refine goes_ Try.func24 (by kernel_rfl) rfl #[.agg #[.int .u32 a0_0, .int .u32 a0_1, .int .u32 a0_2, .int .i64 a0_3, .int .u32 a0_4, .slice A0_5 l0_5.length c0_5]] (by rfl) rfl rfl (by (try simp only [List.map_toArray, List.map_cons, List.map_nil]); first | done | rfl | (simp only [List.length_drop, List.length_take]; rfl)) ?_
    with_reducible refine (flow_of.calls a0_0 a0_1 a0_2 a0_3 a0_4 _ _ l0_5 t283 t284 t285 _ ?side1 ?side2 A3.out).mono ?_
    (case side1 => repeat (first | exact (Kd.C_below HR0_5.out HB.out) | (with_reducible refine Kd.C_alloc ?_ _) | (with_reducible refine Kd.C_drewN ?_ _) | (with_reducible refine Kd.C_drew ?_)))
    (case side2 => exact HC0_5.out)
    rintro e w12 ⟨rfl, hb⟩
    refine ⟨_, rfl, ?_⟩
    have n0_ := m_ (blk_below (g := gb281) (o := .cells #[.int .u32 a0_0, .int .u32 a0_1, .int .u32 a0_2, .int .i64 a0_3, .int .u32 a0_4, .slice A0_5 l0_5.length c0_5] 27 (0, 0)) (by (with_reducible repeat (first | refine bn_ ?_ _ | refine bd_ ?_ | refine ba_ ?_ _)); exact BK281.out) hb)
    have n1_ := m_ (blk_below (g := gb282) (o := .cells #[.int .u32 a1_0, .int .u32 a1_1, .int .u32 a1_2, .int .i64 a1_3, .int .u32 a1_4, .slice A1_5 l1_5.length c1_5] 27 (0, 0)) (by (with_reducible repeat (first | refine bn_ ?_ _ | refine bd_ ?_ | refine ba_ ?_ _)); exact BK282.out) hb)
    have n2_ := m_ (below_step (by repeat (first | (with_reducible first | exact HB.out | apply pa_ | apply pn_ | apply pd_ | refine below_set ?_ GE281.out | refine below_set ?_ GE282.out) | exact HB.out)) hb)
    clear BK281
    clear BK282
    clear HB
    have BK281 := n0_
    have BK282 := n1_
    have HB := n2_
    clear n0_ n1_ n2_
    (try clear hb)
    (try clear hb2)
    (try clear hk)
    (try clear hi)
    refine hK.out _ _ ⟨(bc_ BK281.out 0).trans rfl, (bc_ BK281.out 1).trans rfl, (bc_ BK281.out 2).trans rfl, (bc_ BK281.out 3).trans rfl, (bc_ BK281.out 4).trans rfl, (bc_ BK281.out 5).trans rfl, (bc_ BK282.out 0).trans rfl, (bc_ BK282.out 1).trans rfl, (bc_ BK282.out 2).trans rfl, (bc_ BK282.out 3).trans rfl, (bc_ BK282.out 4).trans rfl, (bc_ BK282.out 5).trans rfl⟩ (fun hHeld => ?_)
    clear hK K
    refine norm_ (a' := ?_) ?_ ?_
    rotate_left
    ·show Act.put _ (some 6) _ = _
     simp only [Act.put, a1_, a2_, a3_, i64_w, i32_w]
     rfl
    refine one_ (i := 3) (N := some 8) (bs_ 27 15) rfl rfl (one_of HT_.out (by kernel_rfl)) (by decide) (fun K hK => ?_)
    refine goes_ Try.func24 (by kernel_rfl) rfl #[.agg #[.int .u32 a1_0, .int .u32 a1_1, .int .u32 a1_2, .int .i64 a1_3, .int .u32 a1_4, .slice A1_5 l1_5.length c1_5]] (by rfl) rfl rfl (by (try simp only [List.map_toArray, List.map_cons, List.map_nil]); first | done | rfl | (simp only [List.length_drop, List.length_take]; rfl)) ?_
    with_reducible refine (flow_of.calls a1_0 a1_1 a1_2 a1_3 a1_4 _ _ l1_5 t286 t287 t288 _ ?side1 ?side2 A4.out).mono ?_
    (case side1 => repeat (first | exact (Kd.C_below HR1_5.out HB.out) | (with_reducible refine Kd.C_alloc ?_ _) | (with_reducible refine Kd.C_drewN ?_ _) | (with_reducible refine Kd.C_drew ?_)))
    (case side2 => exact HC1_5.out)
    rintro e w13 ⟨rfl, hb⟩
    refine ⟨_, rfl, ?_⟩
    have n0_ := m_ (blk_below (g := gb281) (o := .cells #[.int .u32 a0_0, .int .u32 a0_1, .int .u32 a0_2, .int .i64 a0_3, .int .u32 a0_4, .slice A0_5 l0_5.length c0_5] 27 (0, 0)) (by (with_reducible repeat (first | refine bn_ ?_ _ | refine bd_ ?_ | refine ba_ ?_ _)); exact BK281.out) hb)
    have n1_ := m_ (blk_below (g := gb282) (o := .cells #[.int .u32 a1_0, .int .u32 a1_1, .int .u32 a1_2, .int .i64 a1_3, .int .u32 a1_4, .slice A1_5 l1_5.length c1_5] 27 (0, 0)) (by (with_reducible repeat (first | refine bn_ ?_ _ | refine bd_ ?_ | refine ba_ ?_ _)); exact BK282.out) hb)
    have n2_ := m_ (below_step (by repeat (first | (with_reducible first | exact HB.out | apply pa_ | apply pn_ | apply pd_ | refine below_set ?_ GE281.out | refine below_set ?_ GE282.out) | exact HB.out)) hb)
    clear BK281
    clear BK282
    clear HB
    have BK281 := n0_
    have BK282 := n1_
    have HB := n2_
    clear n0_ n1_ n2_
    (try clear hb)
    (try clear hb2)
    (try clear hk)
    (try clear hi)
    refine hK.out _ _ ⟨(bc_ BK281.out 0).trans rfl, (bc_ BK281.out 1).trans rfl, (bc_ BK281.out 2).trans rfl, (bc_ BK281.out 3).trans rfl, (bc_ BK281.out 4).trans rfl, (bc_ BK281.out 5).trans rfl, (bc_ BK282.out 0).trans rfl, (bc_ BK282.out 1).trans rfl, (bc_ BK282.out 2).trans rfl, (bc_ BK282.out 3).trans rfl, (bc_ BK282.out 4).trans rfl, (bc_ BK282.out 5).trans rfl⟩ (fun hHeld => ?_)
    clear hK K
    refine norm_ (a' := ?_) ?_ ?_
    rotate_left
    ·show Act.put _ (some 8) _ = _
     simp only [Act.put, a1_, a2_, a3_, i64_w, i32_w]
     rfl
    refine pure_ (i := 4) (N := some 9) (v := ?_) (a' := ?_) (bs_ 27 31) rfl rfl (any_of HT_.out (by kernel_rfl)) (fun _ _ _ h => h) (Or.inl ⟨by rfl, ?_⟩) ?_ ?_
    rotate_left
    ·intro w'
     go_simp
     with_reducible rfl
    rotate_left
    ·simp only [Act.put, a1_, a2_, a3_, i64_w, i32_w]
     rfl
    refine pure_ (i := 5) (N := some 10) (v := ?_) (a' := ?_) (bs_ 27 63) rfl rfl (any_of HT_.out (by kernel_rfl)) (fun _ _ _ h => h) (Or.inl ⟨by rfl, ?_⟩) ?_ ?_
    rotate_left
    ·intro w'
     go_simp
     with_reducible rfl
    rotate_left
    ·simp only [Act.put, a1_, a2_, a3_, i64_w, i32_w]
     rfl
    refine pure_ (i := 6) (N := some 11) (v := ?_) (a' := ?_) (bs_ 27 127) rfl rfl (any_of HT_.out (by kernel_rfl)) (fun _ _ _ h => h) (Or.inl ⟨by rfl, ?_⟩) ?_ ?_
    rotate_left
    ·intro w'
     go_simp
     with_reducible rfl
    rotate_left
    ·simp only [Act.put, a1_, a2_, a3_, i64_w, i32_w]
     rfl
    refine pure_ (i := 8) (N := some 13) (v := ?_) (a' := ?_) (bs_ 27 383) rfl rfl (any_of HT_.out (by kernel_rfl)) (fun _ _ _ h => h) (Or.inl ⟨by rfl, ?_⟩) ?_ ?_
    rotate_left
    ·intro w'
     go_simp
     with_reducible rfl
    rotate_left
    ·simp only [Act.put, a1_, a2_, a3_, i64_w, i32_w]
     rfl
    refine take_ (i := 7) (N := some 12) (v := ?_) (a' := ?_) (bs_ 27 511) rfl rfl (take_ofW HT_.out HW_.out (by kernel_rfl)) (fun _ _ _ h => h) (Or.inl ⟨by rfl, ?_⟩) hHeld ?_ ?_
    rotate_left
    ·rintro w' ⟨s0, s1, s2, s3, s4, s5, s6, s7, s8, s9, s10, s11⟩
     (try simp only [add_plain] at s0 s1 s2 s3 s4 s5 s6 s7 s8 s9 s10 s11)
     go_simp
     with_reducible rfl
    rotate_left
    ·simp only [Act.put, a1_, a2_, a3_, i64_w, i32_w]
     rfl
    refine take_ (i := 9) (N := some 14) (v := ?_) (a' := ?_) (bs_ 27 1023) rfl rfl (take_ofW HT_.out HW_.out (by kernel_rfl)) (fun _ _ _ h => h) (Or.inl ⟨by rfl, ?_⟩) hHeld ?_ ?_
    rotate_left
    ·rintro w' ⟨s0, s1, s2, s3, s4, s5, s6, s7, s8, s9, s10, s11⟩
     (try simp only [add_plain] at s0 s1 s2 s3 s4 s5 s6 s7 s8 s9 s10 s11)
     go_simp
     with_reducible rfl
    rotate_left
    ·simp only [Act.put, a1_, a2_, a3_, i64_w, i32_w]
     rfl
    refine pure_ (i := 10) (N := some 15) (v := ?_) (a' := ?_) (bs_ 27 2047) rfl rfl (any_of HT_.out (by kernel_rfl)) (fun _ _ _ h => h) (Or.inl ⟨by rfl, ?_⟩) ?_ ?_
    rotate_left
    ·intro w'
     go_simp
     with_reducible rfl
    rotate_left
    ·simp only [Act.put, a1_, a2_, a3_, i64_w, i32_w]
     rfl
    refine pure_ (i := 11) (N := some 16) (v := ?_) (a' := ?_) (bs_ 27 4095) rfl rfl (any_of HT_.out (by kernel_rfl)) (fun _ _ _ h => h) (Or.inl ⟨by rfl, ?_⟩) ?_ ?_
    rotate_left
    ·intro w'
     go_simp
     with_reducible rfl
    rotate_left
    ·simp only [Act.put, a1_, a2_, a3_, i64_w, i32_w]
     rfl
    refine pure_ (i := 12) (N := some 17) (v := ?_) (a' := ?_) (bs_ 27 8191) rfl rfl (any_of HT_.out (by kernel_rfl)) (fun _ _ _ h => h) (Or.inl ⟨by rfl, ?_⟩) ?_ ?_
    rotate_left
    ·intro w'
     go_simp
     with_reducible rfl
    rotate_left
    ·simp only [Act.put, a1_, a2_, a3_, i64_w, i32_w]
     rfl
    refine pure_ (i := 13) (N := some 18) (v := ?_) (a' := ?_) (bs_ 27 16383) rfl rfl (any_of HT_.out (by kernel_rfl)) (fun _ _ _ h => h) (Or.inl ⟨by rfl, ?_⟩) ?_ ?_
    rotate_left
    ·intro w'
     go_simp
     with_reducible rfl
    rotate_left
    ·simp only [Act.put, a1_, a2_, a3_, i64_w, i32_w]
     rfl
    refine pure_ (i := 15) (N := some 20) (v := ?_) (a' := ?_) (bs_ 27 49151) rfl rfl (any_of HT_.out (by kernel_rfl)) (fun _ _ _ h => h) (Or.inl ⟨by rfl, ?_⟩) ?_ ?_
    rotate_left
    ·intro w'
     go_simp
     with_reducible rfl
    rotate_left
    ·simp only [Act.put, a1_, a2_, a3_, i64_w, i32_w]
     rfl
    refine take_ (i := 14) (N := some 19) (v := ?_) (a' := ?_) (bs_ 27 65535) rfl rfl (take_ofW HT_.out HW_.out (by kernel_rfl)) (fun _ _ _ h => h) (Or.inl ⟨by rfl, ?_⟩) hHeld ?_ ?_
    rotate_left
    ·rintro w' ⟨s0, s1, s2, s3, s4, s5, s6, s7, s8, s9, s10, s11⟩
     (try simp only [add_plain] at s0 s1 s2 s3 s4 s5 s6 s7 s8 s9 s10 s11)
     go_simp
     with_reducible rfl
    rotate_left
    ·simp only [Act.put, a1_, a2_, a3_, i64_w, i32_w]
     rfl
    refine take_ (i := 16) (N := some 21) (v := ?_) (a' := ?_) (bs_ 27 131071) rfl rfl (take_ofW HT_.out HW_.out (by kernel_rfl)) (fun _ _ _ h => h) (Or.inl ⟨by rfl, ?_⟩) hHeld ?_ ?_
    rotate_left
    ·rintro w' ⟨s0, s1, s2, s3, s4, s5, s6, s7, s8, s9, s10, s11⟩
     (try simp only [add_plain] at s0 s1 s2 s3 s4 s5 s6 s7 s8 s9 s10 s11)
     go_simp
     with_reducible rfl
    rotate_left
    ·simp only [Act.put, a1_, a2_, a3_, i64_w, i32_w]
     rfl
    refine pure_ (i := 17) (N := some 22) (v := ?_) (a' := ?_) (bs_ 27 262143) rfl rfl (any_of HT_.out (by kernel_rfl)) (fun _ _ _ h => h) (Or.inl ⟨by rfl, ?_⟩) ?_ ?_
    rotate_left
    ·intro w'
     go_simp
     with_reducible rfl
    rotate_left
    ·simp only [Act.put, a1_, a2_, a3_, i64_w, i32_w]
     rfl
    refine pure_ (i := 18) (N := some 23) (v := ?_) (a' := ?_) (bs_ 27 524287) rfl rfl (any_of HT_.out (by kernel_rfl)) (fun _ _ _ h => h) (Or.inl ⟨by rfl, ?_⟩) ?_ ?_
    rotate_left
    ·intro w'
     go_simp
     with_reducible rfl
    rotate_left
    ·simp only [Act.put, a1_, a2_, a3_, i64_w, i32_w]
     rfl
    refine pure_ (i := 19) (N := some 24) (v := ?_) (a' := ?_) (bs_ 27 1048575) rfl rfl (any_of HT_.out (by kernel_rfl)) (fun _ _ _ h => h) (Or.inl ⟨by rfl, ?_⟩) ?_ ?_
    rotate_left
    ·intro w'
     go_simp
     with_reducible rfl
    rotate_left
    ·simp only [Act.put, a1_, a2_, a3_, i64_w, i32_w]
     rfl
    refine pure_ (i := 20) (N := some 25) (v := ?_) (a' := ?_) (bs_ 27 2097151) rfl rfl (any_of HT_.out (by kernel_rfl)) (fun _ _ _ h => h) (Or.inl ⟨by rfl, ?_⟩) ?_ ?_
    rotate_left
    ·intro w'
     go_simp
     with_reducible rfl
    rotate_left
    ·simp only [Act.put, a1_, a2_, a3_, i64_w, i32_w]
     rfl
    refine pure_ (i := 22) (N := some 27) (v := ?_) (a' := ?_) (bs_ 27 6291455) rfl rfl (any_of HT_.out (by kernel_rfl)) (fun _ _ _ h => h) (Or.inl ⟨by rfl, ?_⟩) ?_ ?_
    rotate_left
    ·intro w'
     go_simp
     with_reducible rfl
    rotate_left
    ·simp only [Act.put, a1_, a2_, a3_, i64_w, i32_w]
     rfl
    refine take_ (i := 21) (N := some 26) (v := ?_) (a' := ?_) (bs_ 27 8388607) rfl rfl (take_ofW HT_.out HW_.out (by kernel_rfl)) (fun _ _ _ h => h) (Or.inl ⟨by rfl, ?_⟩) hHeld ?_ ?_
    rotate_left
    ·rintro w' ⟨s0, s1, s2, s3, s4, s5, s6, s7, s8, s9, s10, s11⟩
     (try simp only [add_plain] at s0 s1 s2 s3 s4 s5 s6 s7 s8 s9 s10 s11)
     go_simp
     with_reducible rfl
    rotate_left
    ·simp only [Act.put, a1_, a2_, a3_, i64_w, i32_w]
     rfl
    refine take_ (i := 23) (N := some 28) (v := ?_) (a' := ?_) (bs_ 27 16777215) rfl rfl (take_ofW HT_.out HW_.out (by kernel_rfl)) (fun _ _ _ h => h) (Or.inl ⟨by rfl, ?_⟩) hHeld ?_ ?_
    rotate_left
    ·rintro w' ⟨s0, s1, s2, s3, s4, s5, s6, s7, s8, s9, s10, s11⟩
     (try simp only [add_plain] at s0 s1 s2 s3 s4 s5 s6 s7 s8 s9 s10 s11)
     go_simp
     with_reducible rfl
    rotate_left
    ·simp only [Act.put, a1_, a2_, a3_, i64_w, i32_w]
     rfl
    refine one_ (i := 24) (N := some 29) (bs_ 27 33554431) rfl rfl (one_of HT_.out (by kernel_rfl)) (by decide) (fun K hK => ?_)
    refine goes_ Try.func32 (by kernel_rfl) rfl #[.slice A0_5 l0_5.length c0_5, .slice A1_5 l1_5.length c1_5] (by rfl) rfl rfl (by (try simp only [List.map_toArray, List.map_cons, List.map_nil]); first | done | rfl | (simp only [List.length_drop, List.length_take]; rfl)) ?_
    with_reducible refine (api_Out.calls k _ _ l0_5 _ _ l1_5 t289 _ ?side1 ?side2 ?side3 ?side4 A8.out).mono ?_
    (case side1 => repeat (first | exact (Kd.C_below HR0_5.out HB.out) | (with_reducible refine Kd.C_alloc ?_ _) | (with_reducible refine Kd.C_drewN ?_ _) | (with_reducible refine Kd.C_drew ?_)))
    (case side2 => exact HC0_5.out)
    (case side3 => repeat (first | exact (Kd.C_below HR1_5.out HB.out) | (with_reducible refine Kd.C_alloc ?_ _) | (with_reducible refine Kd.C_drewN ?_ _) | (with_reducible refine Kd.C_drew ?_)))
    (case side4 => exact HC1_5.out)
    rintro e w' ⟨rfl, ⟨nd, rfl⟩⟩
    refine ⟨_, rfl, ?_⟩
    refine hK.out _ _ ⟨(bc_ BK281.out 0).trans rfl, (bc_ BK281.out 1).trans rfl, (bc_ BK281.out 2).trans rfl, (bc_ BK281.out 3).trans rfl, (bc_ BK281.out 4).trans rfl, (bc_ BK281.out 5).trans rfl, (bc_ BK282.out 0).trans rfl, (bc_ BK282.out 1).trans rfl, (bc_ BK282.out 2).trans rfl, (bc_ BK282.out 3).trans rfl, (bc_ BK282.out 4).trans rfl, (bc_ BK282.out 5).trans rfl⟩ (fun hHeld => ?_)
    clear hK K
    refine norm_ (a' := ?_) ?_ ?_
    rotate_left
    ·show Act.put _ (some 29) _ = _
     simp only [Act.put, a1_, a2_, a3_, i64_w, i32_w]
     rfl
    refine pure_ (i := 25) (N := some 30) (v := ?_) (a' := ?_) (bs_ 27 67108863) rfl rfl (any_of HT_.out (by kernel_rfl)) (fun _ _ _ h => h) (Or.inl ⟨by rfl, ?_⟩) ?_ ?_
    rotate_left
    ·intro w'
     go_simp
     with_reducible rfl
    rotate_left
    ·simp only [Act.put, a1_, a2_, a3_, i64_w, i32_w]
     rfl
    refine pure_ (i := 26) (N := some 4) (v := ?_) (a' := ?_) (bs_ 27 134217727) rfl rfl (any_of HT_.out (by kernel_rfl)) (fun _ _ _ h => h) (Or.inl ⟨by rfl, ?_⟩) ?_ ?_
    rotate_left
    ·intro w'
     go_simp
     with_reducible rfl
    rotate_left
    ·simp only [Act.put, a1_, a2_, a3_, i64_w, i32_w]
     rfl
    refine done_ (done_of HT_.out (by kernel_rfl)) ?_
    try go_wp2
    go_ret
    exact ⟨by first | rfl | (simp [errW_none, errW_some] <;> rfl) | (simp [*, errW_none, errW_some] <;> rfl), by repeat (first | (with_reducible first | exact HB.out | apply pa_ | apply pn_ | apply pd_ | refine below_set ?_ GE281.out | refine below_set ?_ GE282.out) | exact HB.out)⟩
   ·rw [if_neg c7] at H
    have c7b0 : (a0_4 == a1_4) = false := beq_eq_false_iff_ne.mpr c7
    have c7b1 : (a0_4 != a1_4) = true := bne_iff_ne.mpr c7
    obtain rfl := Option.some.inj H
    go_enter Try.func19, Try.ntmps19
    try go_wp2_with (first | ((with_reducible refine gate_dst (N := 2) rfl ?_); refine box_event ?hg (N := 2) ?hd (cs := #[.int .u32 a0_0, .int .u32 a0_1, .int .u32 a0_2, .int .i64 a0_3, .int .u32 a0_4, .slice A0_5 l0_5.length c0_5]) (t := 27) ?hr ?_; (case hd => rfl); (case hg => rfl); (case hr => first | (go_simp; done) | (go_simp; rfl)); intro gb281 hg w14 hbox hb; have n0_ := m_ (below_step (by repeat (first | (with_reducible first | exact HB.out | apply pa_ | apply pn_ | apply pd_) | exact HB.out)) hb); have n1_ := m_ (hbox); have n2_ := m_ ((by rw [hg]; exact (below_size (by repeat (first | (with_reducible first | exact HB.out | apply pa_ | apply pn_ | apply pd_) | exact HB.out))) : w.heap.size ≤ gb281)); have n3_ := m_ ((by rw [hg]; exact (below_size (by repeat (first | (with_reducible first | exact HB.out | apply pa_ | apply pn_ | apply pd_) | exact HB.out))) : w.heap.size ≤ gb281)); clear HB; have HB := n0_; have BK281 := n1_; have GW281 := n2_; have GE281 := n3_; clear n0_ n1_ n2_ n3_; clear hb hbox hg) | ((with_reducible refine gate_dst (N := 3) rfl ?_); refine box_event ?hg (N := 3) ?hd (cs := #[.int .u32 a1_0, .int .u32 a1_1, .int .u32 a1_2, .int .i64 a1_3, .int .u32 a1_4, .slice A1_5 l1_5.length c1_5]) (t := 27) ?hr ?_; (case hd => rfl); (case hg => rfl); (case hr => first | (go_simp; done) | (go_simp; rfl)); intro gb282 hg w15 hbox hb; have n0_ := m_ (blk_below (g := gb281) (o := .cells #[.int .u32 a0_0, .int .u32 a0_1, .int .u32 a0_2, .int .i64 a0_3, .int .u32 a0_4, .slice A0_5 l0_5.length c0_5] 27 (0, 0)) (by (with_reducible repeat (first | refine bn_ ?_ _ | refine bd_ ?_ | refine ba_ ?_ _)); exact BK281.out) hb); have n1_ := m_ (below_step (by repeat (first | (with_reducible first | exact HB.out | apply pa_ | apply pn_ | apply pd_ | refine below_set ?_ GE281.out) | exact HB.out)) hb); have n2_ := m_ (hbox); have n3_ := m_ ((by rw [hg]; exact (below_size (by repeat (first | (with_reducible first | exact HB.out | apply pa_ | apply pn_ | apply pd_ | refine below_set ?_ GE281.out) | exact HB.out))) : w.heap.size ≤ gb282)); have n4_ := m_ ((by rw [hg]; exact (below_size (by repeat (first | (with_reducible first | exact HB.out | apply pa_ | apply pn_ | apply pd_ | refine below_set ?_ GE281.out) | exact HB.out))) : w.heap.size ≤ gb282)); have n5_ := m_ ((by rw [hg]; exact Nat.ne_of_lt (blk_lt (g := gb281) (o := .cells #[.int .u32 a0_0, .int .u32 a0_1, .int .u32 a0_2, .int .i64 a0_3, .int .u32 a0_4, .slice A0_5 l0_5.length c0_5] 27 (0, 0)) (by (with_reducible repeat (first | refine bn_ ?_ _ | refine bd_ ?_ | refine ba_ ?_ _)); exact BK281.out)) : gb281 ≠ gb282)); have n6_ := m_ ((by rw [hg]; exact Nat.ne_of_gt (blk_lt (g := gb281) (o := .cells #[.int .u32 a0_0, .int .u32 a0_1, .int .u32 a0_2, .int .i64 a0_3, .int .u32 a0_4, .slice A0_5 l0_5.length c0_5] 27 (0, 0)) (by (with_reducible repeat (first | refine bn_ ?_ _ | refine bd_ ?_ | refine ba_ ?_ _)); exact BK281.out)) : gb282 ≠ gb281)); clear BK281; clear HB; have BK281 := n0_; have HB := n1_; have BK282 := n2_; have GW282 := n3_; have GE282 := n4_; have NB281_282 := n5_; have NB282_281 := n6_; clear n0_ n1_ n2_ n3_ n4_ n5_ n6_; clear hb hbox hg))
    have n0_ := m_ (bd_ BK281.out)
    have n1_ := m_ (bd_ BK282.out)
    have n2_ := m_ (pd_ HB.out)
    clear BK281
    clear BK282
    clear HB
    have BK281 := n0_
    have BK282 := n1_
    have HB := n2_
    clear n0_ n1_ n2_
    refine start_ (n := 27) (S := fun w' => w'.cell? ⟨gb281, 0, none⟩ = some (.int .u32 a0_0) ∧ w'.cell? ⟨gb281, 1, none⟩ = some (.int .u32 a0_1) ∧ w'.cell? ⟨gb281, 2, none⟩ = some (.int .u32 a0_2) ∧ w'.cell? ⟨gb281, 3, none⟩ = some (.int .i64 a0_3) ∧ w'.cell? ⟨gb281, 4, none⟩ = some (.int .u32 a0_4) ∧ w'.cell? ⟨gb281, 5, none⟩ = some (.slice A0_5 l0_5.length c0_5) ∧ w'.cell? ⟨gb282, 0, none⟩ = some (.int .u32 a1_0) ∧ w'.cell? ⟨gb282, 1, none⟩ = some (.int .u32 a1_1) ∧ w'.cell? ⟨gb282, 2, none⟩ = some (.int .u32 a1_2) ∧ w'.cell? ⟨gb282, 3, none⟩ = some (.int .i64 a1_3) ∧ w'.cell? ⟨gb282, 4, none⟩ = some (.int .u32 a1_4) ∧ w'.cell? ⟨gb282, 5, none⟩ = some (.slice A1_5 l1_5.length c1_5)) (ds := []) (bs_ 27 0) (by kernel_rfl) rfl rfl ⟨(bc_ BK281.out 0).trans rfl, (bc_ BK281.out 1).trans rfl, (bc_ BK281.out 2).trans rfl, (bc_ BK281.out 3).trans rfl, (bc_ BK281.out 4).trans rfl, (bc_ BK281.out 5).trans rfl, (bc_ BK282.out 0).trans rfl, (bc_ BK282.out 1).trans rfl, (bc_ BK282.out 2).trans rfl, (bc_ BK282.out 3).trans rfl, (bc_ BK282.out 4).trans rfl, (bc_ BK282.out 5).trans rfl⟩ (fun hHeld => ?_); refine with_tabW flow_Same.tab1 flow_Same.bits1 (fun HT_ HW_ => ?_)
    generalize w15.drew = w16 at BK281 BK282 HB hHeld ⊢
    refine take_ (i := 0) (N := some 5) (v := ?_) (a' := ?_) (bs_ 27 1) rfl rfl (take_ofW HT_.out HW_.out (by kernel_rfl)) (fun _ _ _ h => h) (Or.inl ⟨by rfl, ?_⟩) hHeld ?_ ?_
    rotate_left
    ·rintro w' ⟨s0, s1, s2, s3, s4, s5, s6, s7, s8, s9, s10, s11⟩
     (try simp only [add_plain] at s0 s1 s2 s3 s4 s5 s6 s7 s8 s9 s10 s11)
     go_simp
     with_reducible rfl
    rotate_left
    ·simp only [Act.put, a1_, a2_, a3_, i64_w, i32_w]
     rfl
    refine take_ (i := 2) (N := some 7) (v := ?_) (a' := ?_) (bs_ 27 5) rfl rfl (take_ofW HT_.out HW_.out (by kernel_rfl)) (fun _ _ _ h => h) (Or.inl ⟨by rfl, ?_⟩) hHeld ?_ ?_
    rotate_left
    ·rintro w' ⟨s0, s1, s2, s3, s4, s5, s6, s7, s8, s9, s10, s11⟩
     (try simp only [add_plain] at s0 s1 s2 s3 s4 s5 s6 s7 s8 s9 s10 s11)
     go_simp
     with_reducible rfl
    rotate_left
    ·simp only [Act.put, a1_, a2_, a3_, i64_w, i32_w]
     rfl
    refine one_ (i := 1) (N := some 6) (bs_ 27 7) rfl rfl (one_of HT_.out (by kernel_rfl)) (by decide) (fun K hK => ?_)
    refine goes_ Try.func24 (by kernel_rfl) rfl #[.agg #[.int .u32 a0_0, .int .u32 a0_1, .int .u32 a0_2, .int .i64 a0_3, .int .u32 a0_4, .slice A0_5 l0_5.length c0_5]] (by rfl) rfl rfl (by (try simp only [List.map_toArray, List.map_cons, List.map_nil]); first | done | rfl | (simp only [List.length_drop, List.length_take]; rfl)) ?_
    with_reducible refine (flow_of.calls a0_0 a0_1 a0_2 a0_3 a0_4 _ _ l0_5 t283 t284 t285 _ ?side1 ?side2 A3.out).mono ?_
    (case side1 => repeat (first | exact (Kd.C_below HR0_5.out HB.out) | (with_reducible refine Kd.C_alloc ?_ _) | (with_reducible refine Kd.C_drewN ?_ _) | (with_reducible refine Kd.C_drew ?_)))
    (case side2 => exact HC0_5.out)
    rintro e w17 ⟨rfl, hb⟩
    refine ⟨_, rfl, ?_⟩
    have n0_ := m_ (blk_below (g := gb281) (o := .cells #[.int .u32 a0_0, .int .u32 a0_1, .int .u32 a0_2, .int .i64 a0_3, .int .u32 a0_4, .slice A0_5 l0_5.length c0_5] 27 (0, 0)) (by (with_reducible repeat (first | refine bn_ ?_ _ | refine bd_ ?_ | refine ba_ ?_ _)); exact BK281.out) hb)
    have n1_ := m_ (blk_below (g := gb282) (o := .cells #[.int .u32 a1_0, .int .u32 a1_1, .int .u32 a1_2, .int .i64 a1_3, .int .u32 a1_4, .slice A1_5 l1_5.length c1_5] 27 (0, 0)) (by (with_reducible repeat (first | refine bn_ ?_ _ | refine bd_ ?_ | refine ba_ ?_ _)); exact BK282.out) hb)
    have n2_ := m_ (below_step (by repeat (first | (with_reducible first | exact HB.out | apply pa_ | apply pn_ | apply pd_ | refine below_set ?_ GE281.out | refine below_set ?_ GE282.out) | exact HB.out)) hb)
    clear BK281
    clear BK282
    clear HB
    have BK281 := n0_
    have BK282 := n1_
    have HB := n2_
    clear n0_ n1_ n2_
    (try clear hb)
    (try clear hb2)
    (try clear hk)
    (try clear hi)
    refine hK.out _ _ ⟨(bc_ BK281.out 0).trans rfl, (bc_ BK281.out 1).trans rfl, (bc_ BK281.out 2).trans rfl, (bc_ BK281.out 3).trans rfl, (bc_ BK281.out 4).trans rfl, (bc_ BK281.out 5).trans rfl, (bc_ BK282.out 0).trans rfl, (bc_ BK282.out 1).trans rfl, (bc_ BK282.out 2).trans rfl, (bc_ BK282.out 3).trans rfl, (bc_ BK282.out 4).trans rfl, (bc_ BK282.out 5).trans rfl⟩ (fun hHeld => ?_)
    clear hK K
    refine norm_ (a' := ?_) ?_ ?_
    rotate_left
    ·show Act.put _ (some 6) _ = _
     simp only [Act.put, a1_, a2_, a3_, i64_w, i32_w]
     rfl
    refine one_ (i := 3) (N := some 8) (bs_ 27 15) rfl rfl (one_of HT_.out (by kernel_rfl)) (by decide) (fun K hK => ?_)
    refine goes_ Try.func24 (by kernel_rfl) rfl #[.agg #[.int .u32 a1_0, .int .u32 a1_1, .int .u32 a1_2, .int .i64 a1_3, .int .u32 a1_4, .slice A1_5 l1_5.length c1_5]] (by rfl) rfl rfl (by (try simp only [List.map_toArray, List.map_cons, List.map_nil]); first | done | rfl | (simp only [List.length_drop, List.length_take]; rfl)) ?_
    with_reducible refine (flow_of.calls a1_0 a1_1 a1_2 a1_3 a1_4 _ _ l1_5 t286 t287 t288 _ ?side1 ?side2 A4.out).mono ?_
    (case side1 => repeat (first | exact (Kd.C_below HR1_5.out HB.out) | (with_reducible refine Kd.C_alloc ?_ _) | (with_reducible refine Kd.C_drewN ?_ _) | (with_reducible refine Kd.C_drew ?_)))
    (case side2 => exact HC1_5.out)
    rintro e w18 ⟨rfl, hb⟩
    refine ⟨_, rfl, ?_⟩
    have n0_ := m_ (blk_below (g := gb281) (o := .cells #[.int .u32 a0_0, .int .u32 a0_1, .int .u32 a0_2, .int .i64 a0_3, .int .u32 a0_4, .slice A0_5 l0_5.length c0_5] 27 (0, 0)) (by (with_reducible repeat (first | refine bn_ ?_ _ | refine bd_ ?_ | refine ba_ ?_ _)); exact BK281.out) hb)
    have n1_ := m_ (blk_below (g := gb282) (o := .cells #[.int .u32 a1_0, .int .u32 a1_1, .int .u32 a1_2, .int .i64 a1_3, .int .u32 a1_4, .slice A1_5 l1_5.length c1_5] 27 (0, 0)) (by (with_reducible repeat (first | refine bn_ ?_ _ | refine bd_ ?_ | refine ba_ ?_ _)); exact BK282.out) hb)
    have n2_ := m_ (below_step (by repeat (first | (with_reducible first | exact HB.out | apply pa_ | apply pn_ | apply pd_ | refine below_set ?_ GE281.out | refine below_set ?_ GE282.out) | exact HB.out)) hb)
    clear BK281
    clear BK282
    clear HB
    have BK281 := n0_
    have BK282 := n1_
    have HB := n2_
    clear n0_ n1_ n2_
    (try clear hb)
    (try clear hb2)
    (try clear hk)
    (try clear hi)
    refine hK.out _ _ ⟨(bc_ BK281.out 0).trans rfl, (bc_ BK281.out 1).trans rfl, (bc_ BK281.out 2).trans rfl, (bc_ BK281.out 3).trans rfl, (bc_ BK281.out 4).trans rfl, (bc_ BK281.out 5).trans rfl, (bc_ BK282.out 0).trans rfl, (bc_ BK282.out 1).trans rfl, (bc_ BK282.out 2).trans rfl, (bc_ BK282.out 3).trans rfl, (bc_ BK282.out 4).trans rfl, (bc_ BK282.out 5).trans rfl⟩ (fun hHeld => ?_)
    clear hK K
    refine norm_ (a' := ?_) ?_ ?_
    rotate_left
    ·show Act.put _ (some 8) _ = _
     simp only [Act.put, a1_, a2_, a3_, i64_w, i32_w]
     rfl
    refine pure_ (i := 4) (N := some 9) (v := ?_) (a' := ?_) (bs_ 27 31) rfl rfl (any_of HT_.out (by kernel_rfl)) (fun _ _ _ h => h) (Or.inl ⟨by rfl, ?_⟩) ?_ ?_
    rotate_left
    ·intro w'
     go_simp
     with_reducible rfl
    rotate_left
    ·simp only [Act.put, a1_, a2_, a3_, i64_w, i32_w]
     rfl
    refine pure_ (i := 5) (N := some 10) (v := ?_) (a' := ?_) (bs_ 27 63) rfl rfl (any_of HT_.out (by kernel_rfl)) (fun _ _ _ h => h) (Or.inl ⟨by rfl, ?_⟩) ?_ ?_
    rotate_left
    ·intro w'
     go_simp
     with_reducible rfl
    rotate_left
    ·simp only [Act.put, a1_, a2_, a3_, i64_w, i32_w]
     rfl
    refine pure_ (i := 6) (N := some 11) (v := ?_) (a' := ?_) (bs_ 27 127) rfl rfl (any_of HT_.out (by kernel_rfl)) (fun _ _ _ h => h) (Or.inl ⟨by rfl, ?_⟩) ?_ ?_
    rotate_left
    ·intro w'
     go_simp
     with_reducible rfl
    rotate_left
    ·simp only [Act.put, a1_, a2_, a3_, i64_w, i32_w]
     rfl
    refine pure_ (i := 8) (N := some 13) (v := ?_) (a' := ?_) (bs_ 27 383) rfl rfl (any_of HT_.out (by kernel_rfl)) (fun _ _ _ h => h) (Or.inl ⟨by rfl, ?_⟩) ?_ ?_
    rotate_left
    ·intro w'
     go_simp
     with_reducible rfl
    rotate_left
    ·simp only [Act.put, a1_, a2_, a3_, i64_w, i32_w]
     rfl
    refine take_ (i := 7) (N := some 12) (v := ?_) (a' := ?_) (bs_ 27 511) rfl rfl (take_ofW HT_.out HW_.out (by kernel_rfl)) (fun _ _ _ h => h) (Or.inl ⟨by rfl, ?_⟩) hHeld ?_ ?_
    rotate_left
    ·rintro w' ⟨s0, s1, s2, s3, s4, s5, s6, s7, s8, s9, s10, s11⟩
     (try simp only [add_plain] at s0 s1 s2 s3 s4 s5 s6 s7 s8 s9 s10 s11)
     go_simp
     with_reducible rfl
    rotate_left
    ·simp only [Act.put, a1_, a2_, a3_, i64_w, i32_w]
     rfl
    refine take_ (i := 9) (N := some 14) (v := ?_) (a' := ?_) (bs_ 27 1023) rfl rfl (take_ofW HT_.out HW_.out (by kernel_rfl)) (fun _ _ _ h => h) (Or.inl ⟨by rfl, ?_⟩) hHeld ?_ ?_
    rotate_left
    ·rintro w' ⟨s0, s1, s2, s3, s4, s5, s6, s7, s8, s9, s10, s11⟩
     (try simp only [add_plain] at s0 s1 s2 s3 s4 s5 s6 s7 s8 s9 s10 s11)
     go_simp
     with_reducible rfl
    rotate_left
    ·simp only [Act.put, a1_, a2_, a3_, i64_w, i32_w]
     rfl
    refine pure_ (i := 10) (N := some 15) (v := ?_) (a' := ?_) (bs_ 27 2047) rfl rfl (any_of HT_.out (by kernel_rfl)) (fun _ _ _ h => h) (Or.inl ⟨by rfl, ?_⟩) ?_ ?_
    rotate_left
    ·intro w'
     go_simp
     with_reducible rfl
    rotate_left
    ·simp only [Act.put, a1_, a2_, a3_, i64_w, i32_w]
     rfl
    refine pure_ (i := 11) (N := some 16) (v := ?_) (a' := ?_) (bs_ 27 4095) rfl rfl (any_of HT_.out (by kernel_rfl)) (fun _ _ _ h => h) (Or.inl ⟨by rfl, ?_⟩) ?_ ?_
    rotate_left
    ·intro w'
     go_simp
     with_reducible rfl
    rotate_left
    ·simp only [Act.put, a1_, a2_, a3_, i64_w, i32_w]
     rfl
    refine pure_ (i := 12) (N := some 17) (v := ?_) (a' := ?_) (bs_ 27 8191) rfl rfl (any_of HT_.out (by kernel_rfl)) (fun _ _ _ h => h) (Or.inl ⟨by rfl, ?_⟩) ?_ ?_
    rotate_left
    ·intro w'
     go_simp
     with_reducible rfl
    rotate_left
    ·simp only [Act.put, a1_, a2_, a3_, i64_w, i32_w]
     rfl
    refine pure_ (i := 13) (N := some 18) (v := ?_) (a' := ?_) (bs_ 27 16383) rfl rfl (any_of HT_.out (by kernel_rfl)) (fun _ _ _ h => h) (Or.inl ⟨by rfl, ?_⟩) ?_ ?_
    rotate_left
    ·intro w'
     go_simp
     with_reducible rfl
    rotate_left
    ·simp only [Act.put, a1_, a2_, a3_, i64_w, i32_w]
     rfl
    refine pure_ (i := 15) (N := some 20) (v := ?_) (a' := ?_) (bs_ 27 49151) rfl rfl (any_of HT_.out (by kernel_rfl)) (fun _ _ _ h => h) (Or.inl ⟨by rfl, ?_⟩) ?_ ?_
    rotate_left
    ·intro w'
     go_simp
     with_reducible rfl
    rotate_left
    ·simp only [Act.put, a1_, a2_, a3_, i64_w, i32_w]
     rfl
    refine take_ (i := 14) (N := some 19) (v := ?_) (a' := ?_) (bs_ 27 65535) rfl rfl (take_ofW HT_.out HW_.out (by kernel_rfl)) (fun _ _ _ h => h) (Or.inl ⟨by rfl, ?_⟩) hHeld ?_ ?_
    rotate_left
    ·rintro w' ⟨s0, s1, s2, s3, s4, s5, s6, s7, s8, s9, s10, s11⟩
     (try simp only [add_plain] at s0 s1 s2 s3 s4 s5 s6 s7 s8 s9 s10 s11)
     go_simp
     with_reducible rfl
    rotate_left
    ·simp only [Act.put, a1_, a2_, a3_, i64_w, i32_w]
     rfl
    refine take_ (i := 16) (N := some 21) (v := ?_) (a' := ?_) (bs_ 27 131071) rfl rfl (take_ofW HT_.out HW_.out (by kernel_rfl)) (fun _ _ _ h => h) (Or.inl ⟨by rfl, ?_⟩) hHeld ?_ ?_
    rotate_left
    ·rintro w' ⟨s0, s1, s2, s3, s4, s5, s6, s7, s8, s9, s10, s11⟩
     (try simp only [add_plain] at s0 s1 s2 s3 s4 s5 s6 s7 s8 s9 s10 s11)
     go_simp
     with_reducible rfl
    rotate_left
    ·simp only [Act.put, a1_, a2_, a3_, i64_w, i32_w]
     rfl
    refine pure_ (i := 17) (N := some 22) (v := ?_) (a' := ?_) (bs_ 27 262143) rfl rfl (any_of HT_.out (by kernel_rfl)) (fun _ _ _ h => h) (Or.inl ⟨by rfl, ?_⟩) ?_ ?_
    rotate_left
    ·intro w'
     go_simp
     with_reducible rfl
    rotate_left
    ·simp only [Act.put, a1_, a2_, a3_, i64_w, i32_w]
     rfl
    refine pure_ (i := 18) (N := some 23) (v := ?_) (a' := ?_) (bs_ 27 524287) rfl rfl (any_of HT_.out (by kernel_rfl)) (fun _ _ _ h => h) (Or.inl ⟨by rfl, ?_⟩) ?_ ?_
    rotate_left
    ·intro w'
     go_simp
     with_reducible rfl
    rotate_left
    ·simp only [Act.put, a1_, a2_, a3_, i64_w, i32_w]
     rfl
    refine pure_ (i := 19) (N := some 24) (v := ?_) (a' := ?_) (bs_ 27 1048575) rfl rfl (any_of HT_.out (by kernel_rfl)) (fun _ _ _ h => h) (Or.inl ⟨by rfl, ?_⟩) ?_ ?_
    rotate_left
    ·intro w'
     go_simp
     with_reducible rfl
    rotate_left
    ·simp only [Act.put, a1_, a2_, a3_, i64_w, i32_w]
     rfl
    refine pure_ (i := 20) (N := some 25) (v := undef) (a' := ?_) (bs_ 27 2097151) rfl rfl (any_of HT_.out (by kernel_rfl)) (fun _ _ _ h => h) (Or.inr ⟨by rfl, rfl⟩) ?_ ?_
    rotate_left
    ·simp only [Act.put, a1_, a2_, a3_, i64_w, i32_w]
     rfl
    refine pure_ (i := 21) (N := some 26) (v := undef) (a' := ?_) (bs_ 27 4194303) rfl rfl (any_of HT_.out (by kernel_rfl)) (fun _ _ _ h => h) (Or.inr ⟨by rfl, rfl⟩) ?_ ?_
    rotate_left
    ·simp only [Act.put, a1_, a2_, a3_, i64_w, i32_w]
     rfl
    refine pure_ (i := 22) (N := some 27) (v := undef) (a' := ?_) (bs_ 27 8388607) rfl rfl (any_of HT_.out (by kernel_rfl)) (fun _ _ _ h => h) (Or.inr ⟨by rfl, rfl⟩) ?_ ?_
    rotate_left
    ·simp only [Act.put, a1_, a2_, a3_, i64_w, i32_w]
     rfl
    refine pure_ (i := 23) (N := some 28) (v := undef) (a' := ?_) (bs_ 27 16777215) rfl rfl (any_of HT_.out (by kernel_rfl)) (fun _ _ _ h => h) (Or.inr ⟨by rfl, rfl⟩) ?_ ?_
    rotate_left
    ·simp only [Act.put, a1_, a2_, a3_, i64_w, i32_w]
     rfl
    refine pure_ (i := 24) (N := some 29) (v := undef) (a' := ?_) (bs_ 27 33554431) rfl rfl (any_of HT_.out (by kernel_rfl)) (fun _ _ _ h => h) (Or.inr ⟨by rfl, rfl⟩) ?_ ?_
    rotate_left
    ·simp only [Act.put, a1_, a2_, a3_, i64_w, i32_w]
     rfl
    refine pure_ (i := 25) (N := some 30) (v := ?_) (a' := ?_) (bs_ 27 67108863) rfl rfl (any_of HT_.out (by kernel_rfl)) (fun _ _ _ h => h) (Or.inl ⟨by rfl, ?_⟩) ?_ ?_
    rotate_left
    ·intro w'
     go_simp
     with_reducible rfl
    rotate_left
    ·simp only [Act.put, a1_, a2_, a3_, i64_w, i32_w]
     rfl
    refine pure_ (i := 26) (N := some 4) (v := ?_) (a' := ?_) (bs_ 27 134217727) rfl rfl (any_of HT_.out (by kernel_rfl)) (fun _ _ _ h => h) (Or.inl ⟨by rfl, ?_⟩) ?_ ?_
    rotate_left
    ·intro w'
     go_simp
     with_reducible rfl
    rotate_left
    ·simp only [Act.put, a1_, a2_, a3_, i64_w, i32_w]
     rfl
    refine done_ (done_of HT_.out (by kernel_rfl)) ?_
    try go_wp2
    go_ret
    exact ⟨by first | rfl | (simp [errW_none, errW_some] <;> rfl) | (simp [*, errW_none, errW_some] <;> rfl), by repeat (first | (with_reducible first | exact HB.out | apply pa_ | apply pn_ | apply pd_ | refine below_set ?_ GE281.out | refine below_set ?_ GE282.out) | exact HB.out)⟩
  ·rw [if_neg c6] at H
   have c6b0 : (a0_3 == a1_3) = false := beq_eq_false_iff_ne.mpr c6
   have c6b1 : (a0_3 != a1_3) = true := bne_iff_ne.mpr c6
   obtain rfl := Option.some.inj H
   go_enter Try.func19, Try.ntmps19
   try go_wp2_with (first | ((with_reducible refine gate_dst (N := 2) rfl ?_); refine box_event ?hg (N := 2) ?hd (cs := #[.int .u32 a0_0, .int .u32 a0_1, .int .u32 a0_2, .int .i64 a0_3, .int .u32 a0_4, .slice A0_5 l0_5.length c0_5]) (t := 27) ?hr ?_; (case hd => rfl); (case hg => rfl); (case hr => first | (go_simp; done) | (go_simp; rfl)); intro gb281 hg w19 hbox hb; have n0_ := m_ (below_step (by repeat (first | (with_reducible first | exact HB.out | apply pa_ | apply pn_ | apply pd_) | exact HB.out)) hb); have n1_ := m_ (hbox); have n2_ := m_ ((by rw [hg]; exact (below_size (by repeat (first | (with_reducible first | exact HB.out | apply pa_ | apply pn_ | apply pd_) | exact HB.out))) : w.heap.size ≤ gb281)); have n3_ := m_ ((by rw [hg]; exact (below_size (by repeat (first | (with_reducible first | exact HB.out | apply pa_ | apply pn_ | apply pd_) | exact HB.out))) : w.heap.size ≤ gb281)); clear HB; have HB := n0_; have BK281 := n1_; have GW281 := n2_; have GE281 := n3_; clear n0_ n1_ n2_ n3_; clear hb hbox hg) | ((with_reducible refine gate_dst (N := 3) rfl ?_); refine box_event ?hg (N := 3) ?hd (cs := #[.int .u32 a1_0, .int .u32 a1_1, .int .u32 a1_2, .int .i64 a1_3, .int .u32 a1_4, .slice A1_5 l1_5.length c1_5]) (t := 27) ?hr ?_; (case hd => rfl); (case hg => rfl); (case hr => first | (go_simp; done) | (go_simp; rfl)); intro gb282 hg w20 hbox hb; have n0_ := m_ (blk_below (g := gb281) (o := .cells #[.int .u32 a0_0, .int .u32 a0_1, .int .u32 a0_2, .int .i64 a0_3, .int .u32 a0_4, .slice A0_5 l0_5.length c0_5] 27 (0, 0)) (by (with_reducible repeat (first | refine bn_ ?_ _ | refine bd_ ?_ | refine ba_ ?_ _)); exact BK281.out) hb); have n1_ := m_ (below_step (by repeat (first | (with_reducible first | exact HB.out | apply pa_ | apply pn_ | apply pd_ | refine below_set ?_ GE281.out) | exact HB.out)) hb); have n2_ := m_ (hbox); have n3_ := m_ ((by rw [hg]; exact (below_size (by repeat (first | (with_reducible first | exact HB.out | apply pa_ | apply pn_ | apply pd_ | refine below_set ?_ GE281.out) | exact HB.out))) : w.heap.size ≤ gb282)); have n4_ := m_ ((by rw [hg]; exact (below_size (by repeat (first | (with_reducible first | exact HB.out | apply pa_ | apply pn_ | apply pd_ | refine below_set ?_ GE281.out) | exact HB.out))) : w.heap.size ≤ gb282)); have n5_ := m_ ((by rw [hg]; exact Nat.ne_of_lt (blk_lt (g := gb281) (o := .cells #[.int .u32 a0_0, .int .u32 a0_1, .int .u32 a0_2, .int .i64 a0_3, .int .u32 a0_4, .slice A0_5 l0_5.length c0_5] 27 (0, 0)) (by (with_reducible repeat (first | refine bn_ ?_ _ | refine bd_ ?_ | refine ba_ ?_ _)); exact BK281.out)) : gb281 ≠ gb282)); have n6_ := m_ ((by rw [hg]; exact Nat.ne_of_gt (blk_lt (g := gb281) (o := .cells #[.int .u32 a0_0, .int .u32 a0_1, .int .u32 a0_2, .int .i64 a0_3, .int .u32 a0_4, .slice A0_5 l0_5.length c0_5] 27 (0, 0)) (by (with_reducible repeat (first | refine bn_ ?_ _ | refine bd_ ?_ | refine ba_ ?_ _)); exact BK281.out)) : gb282 ≠ gb281)); clear BK281; clear HB; have BK281 := n0_; have HB := n1_; have BK282 := n2_; have GW282 := n3_; have GE282 := n4_; have NB281_282 := n5_; have NB282_281 := n6_; clear n0_ n1_ n2_ n3_ n4_ n5_ n6_; clear hb hbox hg))
   have n0_ := m_ (bd_ BK281.out)
   have n1_ := m_ (bd_ BK282.out)
   have n2_ := m_ (pd_ HB.out)
   clear BK281
   clear BK282
   clear HB
   have BK281 := n0_
   have BK282 := n1_
   have HB := n2_
   clear n0_ n1_ n2_
   refine start_ (n := 27) (S := fun w' => w'.cell? ⟨gb281, 0, none⟩ = some (.int .u32 a0_0) ∧ w'.cell? ⟨gb281, 1, none⟩ = some (.int .u32 a0_1) ∧ w'.cell? ⟨gb281, 2, none⟩ = some (.int .u32 a0_2) ∧ w'.cell? ⟨gb281, 3, none⟩ = some (.int .i64 a0_3) ∧ w'.cell? ⟨gb281, 4, none⟩ = some (.int .u32 a0_4) ∧ w'.cell? ⟨gb281, 5, none⟩ = some (.slice A0_5 l0_5.length c0_5) ∧ w'.cell? ⟨gb282, 0, none⟩ = some (.int .u32 a1_0) ∧ w'.cell? ⟨gb282, 1, none⟩ = some (.int .u32 a1_1) ∧ w'.cell? ⟨gb282, 2, none⟩ = some (.int .u32 a1_2) ∧ w'.cell? ⟨gb282, 3, none⟩ = some (.int .i64 a1_3) ∧ w'.cell? ⟨gb282, 4, none⟩ = some (.int .u32 a1_4) ∧ w'.cell? ⟨gb282, 5, none⟩ = some (.slice A1_5 l1_5.length c1_5)) (ds := []) (bs_ 27 0) (by kernel_rfl) rfl rfl ⟨(bc_ BK281.out 0).trans rfl, (bc_ BK281.out 1).trans rfl, (bc_ BK281.out 2).trans rfl, (bc_ BK281.out 3).trans rfl, (bc_ BK281.out 4).trans rfl, (bc_ BK281.out 5).trans rfl, (bc_ BK282.out 0).trans rfl, (bc_ BK282.out 1).trans rfl, (bc_ BK282.out 2).trans rfl, (bc_ BK282.out 3).trans rfl, (bc_ BK282.out 4).trans rfl, (bc_ BK282.out 5).trans rfl⟩ (fun hHeld => ?_); refine with_tabW flow_Same.tab1 flow_Same.bits1 (fun HT_ HW_ => ?_)
   generalize w20.drew = w21 at BK281 BK282 HB hHeld ⊢
   refine take_ (i := 0) (N := some 5) (v := ?_) (a' := ?_) (bs_ 27 1) rfl rfl (take_ofW HT_.out HW_.out (by kernel_rfl)) (fun _ _ _ h => h) (Or.inl ⟨by rfl, ?_⟩) hHeld ?_ ?_
   rotate_left
   ·rintro w' ⟨s0, s1, s2, s3, s4, s5, s6, s7, s8, s9, s10, s11⟩
    (try simp only [add_plain] at s0 s1 s2 s3 s4 s5 s6 s7 s8 s9 s10 s11)
    go_simp
    with_reducible rfl
   rotate_left
   ·simp only [Act.put, a1_, a2_, a3_, i64_w, i32_w]
    rfl
   refine take_ (i := 2) (N := some 7) (v := ?_) (a' := ?_) (bs_ 27 5) rfl rfl (take_ofW HT_.out HW_.out (by kernel_rfl)) (fun _ _ _ h => h) (Or.inl ⟨by rfl, ?_⟩) hHeld ?_ ?_
   rotate_left
   ·rintro w' ⟨s0, s1, s2, s3, s4, s5, s6, s7, s8, s9, s10, s11⟩
    (try simp only [add_plain] at s0 s1 s2 s3 s4 s5 s6 s7 s8 s9 s10 s11)
    go_simp
    with_reducible rfl
   rotate_left
   ·simp only [Act.put, a1_, a2_, a3_, i64_w, i32_w]
    rfl
   refine one_ (i := 1) (N := some 6) (bs_ 27 7) rfl rfl (one_of HT_.out (by kernel_rfl)) (by decide) (fun K hK => ?_)
   refine goes_ Try.func24 (by kernel_rfl) rfl #[.agg #[.int .u32 a0_0, .int .u32 a0_1, .int .u32 a0_2, .int .i64 a0_3, .int .u32 a0_4, .slice A0_5 l0_5.length c0_5]] (by rfl) rfl rfl (by (try simp only [List.map_toArray, List.map_cons, List.map_nil]); first | done | rfl | (simp only [List.length_drop, List.length_take]; rfl)) ?_
   with_reducible refine (flow_of.calls a0_0 a0_1 a0_2 a0_3 a0_4 _ _ l0_5 t283 t284 t285 _ ?side1 ?side2 A3.out).mono ?_
   (case side1 => repeat (first | exact (Kd.C_below HR0_5.out HB.out) | (with_reducible refine Kd.C_alloc ?_ _) | (with_reducible refine Kd.C_drewN ?_ _) | (with_reducible refine Kd.C_drew ?_)))
   (case side2 => exact HC0_5.out)
   rintro e w22 ⟨rfl, hb⟩
   refine ⟨_, rfl, ?_⟩
   have n0_ := m_ (blk_below (g := gb281) (o := .cells #[.int .u32 a0_0, .int .u32 a0_1, .int .u32 a0_2, .int .i64 a0_3, .int .u32 a0_4, .slice A0_5 l0_5.length c0_5] 27 (0, 0)) (by (with_reducible repeat (first | refine bn_ ?_ _ | refine bd_ ?_ | refine ba_ ?_ _)); exact BK281.out) hb)
   have n1_ := m_ (blk_below (g := gb282) (o := .cells #[.int .u32 a1_0, .int .u32 a1_1, .int .u32 a1_2, .int .i64 a1_3, .int .u32 a1_4, .slice A1_5 l1_5.length c1_5] 27 (0, 0)) (by (with_reducible repeat (first | refine bn_ ?_ _ | refine bd_ ?_ | refine ba_ ?_ _)); exact BK282.out) hb)
   have n2_ := m_ (below_step (by repeat (first | (with_reducible first | exact HB.out | apply pa_ | apply pn_ | apply pd_ | refine below_set ?_ GE281.out | refine below_set ?_ GE282.out) | exact HB.out)) hb)
   clear BK281
   clear BK282
   clear HB
   have BK281 := n0_
   have BK282 := n1_
   have HB := n2_
   clear n0_ n1_ n2_
   (try clear hb)
   (try clear hb2)
   (try clear hk)
   (try clear hi)
   refine hK.out _ _ ⟨(bc_ BK281.out 0).trans rfl, (bc_ BK281.out 1).trans rfl, (bc_ BK281.out 2).trans rfl, (bc_ BK281.out 3).trans rfl, (bc_ BK281.out 4).trans rfl, (bc_ BK281.out 5).trans rfl, (bc_ BK282.out 0).trans rfl, (bc_ BK282.out 1).trans rfl, (bc_ BK282.out 2).trans rfl, (bc_ BK282.out 3).trans rfl, (bc_ BK282.out 4).trans rfl, (bc_ BK282.out 5).trans rfl⟩ (fun hHeld => ?_)
   clear hK K
   refine norm_ (a' := ?_) ?_ ?_
   rotate_left
   ·show Act.put _ (some 6) _ = _
    simp only [Act.put, a1_, a2_, a3_, i64_w, i32_w]
    rfl
   refine one_ (i := 3) (N := some 8) (bs_ 27 15) rfl rfl (one_of HT_.out (by kernel_rfl)) (by decide) (fun K hK => ?_)
   refine goes_ Try.func24 (by kernel_rfl) rfl #[.agg #[.int .u32 a1_0, .int .u32 a1_1, .int .u32 a1_2, .int .i64 a1_3, .int .u32 a1_4, .slice A1_5 l1_5.length c1_5]] (by rfl) rfl rfl (by (try simp only [List.map_toArray, List.map_cons, List.map_nil]); first | done | rfl | (simp only [List.length_drop, List.length_take]; rfl)) ?_
   with_reducible refine (flow_of.calls a1_0 a1_1 a1_2 a1_3 a1_4 _ _ l1_5 t286 t287 t288 _ ?side1 ?side2 A4.out).mono ?_
   (case side1 => repeat (first | exact (Kd.C_below HR1_5.out HB.out) | (with_reducible refine Kd.C_alloc ?_ _) | (with_reducible refine Kd.C_drewN ?_ _) | (with_reducible refine Kd.C_drew ?_)))
   (case side2 => exact HC1_5.out)
   rintro e w23 ⟨rfl, hb⟩
   refine ⟨_, rfl, ?_⟩
   have n0_ := m_ (blk_below (g := gb281) (o := .cells #[.int .u32 a0_0, .int .u32 a0_1, .int .u32 a0_2, .int .i64 a0_3, .int .u32 a0_4, .slice A0_5 l0_5.length c0_5] 27 (0, 0)) (by (with_reducible repeat (first | refine bn_ ?_ _ | refine bd_ ?_ | refine ba_ ?_ _)); exact BK281.out) hb)
   have n1_ := m_ (blk_below (g := gb282) (o := .cells #[.int .u32 a1_0, .int .u32 a1_1, .int .u32 a1_2, .int .i64 a1_3, .int .u32 a1_4, .slice A1_5 l1_5.length c1_5] 27 (0, 0)) (by (with_reducible repeat (first | refine bn_ ?_ _ | refine bd_ ?_ | refine ba_ ?_ _)); exact BK282.out) hb)
   have n2_ := m_ (below_step (by repeat (first | (with_reducible first | exact HB.out | apply pa_ | apply pn_ | apply pd_ | refine below_set ?_ GE281.out | refine below_set ?_ GE282.out) | exact HB.out)) hb)
   clear BK281
   clear BK282
   clear HB
   have BK281 := n0_
   have BK282 := n1_
   have HB := n2_
   clear n0_ n1_ n2_
   (try clear hb)
   (try clear hb2)
   (try clear hk)
   (try clear hi)
   refine hK.out _ _ ⟨(bc_ BK281.out 0).trans rfl, (bc_ BK281.out 1).trans rfl, (bc_ BK281.out 2).trans rfl, (bc_ BK281.out 3).trans rfl, (bc_ BK281.out 4).trans rfl, (bc_ BK281.out 5).trans rfl, (bc_ BK282.out 0).trans rfl, (bc_ BK282.out 1).trans rfl, (bc_ BK282.out 2).trans rfl, (bc_ BK282.out 3).trans rfl, (bc_ BK282.out 4).trans rfl, (bc_ BK282.out 5).trans rfl⟩ (fun hHeld => ?_)
   clear hK K
   refine norm_ (a' := ?_) ?_ ?_
   rotate_left
   ·show Act.put _ (some 8) _ = _
    simp only [Act.put, a1_, a2_, a3_, i64_w, i32_w]
    rfl
   refine pure_ (i := 4) (N := some 9) (v := ?_) (a' := ?_) (bs_ 27 31) rfl rfl (any_of HT_.out (by kernel_rfl)) (fun _ _ _ h => h) (Or.inl ⟨by rfl, ?_⟩) ?_ ?_
   rotate_left
   ·intro w'
    go_simp
    with_reducible rfl
   rotate_left
   ·simp only [Act.put, a1_, a2_, a3_, i64_w, i32_w]
    rfl
   refine pure_ (i := 5) (N := some 10) (v := ?_) (a' := ?_) (bs_ 27 63) rfl rfl (any_of HT_.out (by kernel_rfl)) (fun _ _ _ h => h) (Or.inl ⟨by rfl, ?_⟩) ?_ ?_
   rotate_left
   ·intro w'
    go_simp
    with_reducible rfl
   rotate_left
   ·simp only [Act.put, a1_, a2_, a3_, i64_w, i32_w]
    rfl
   refine pure_ (i := 6) (N := some 11) (v := ?_) (a' := ?_) (bs_ 27 127) rfl rfl (any_of HT_.out (by kernel_rfl)) (fun _ _ _ h => h) (Or.inl ⟨by rfl, ?_⟩) ?_ ?_
   rotate_left
   ·intro w'
    go_simp
    with_reducible rfl
   rotate_left
   ·simp only [Act.put, a1_, a2_, a3_, i64_w, i32_w]
    rfl
   refine pure_ (i := 8) (N := some 13) (v := ?_) (a' := ?_) (bs_ 27 383) rfl rfl (any_of HT_.out (by kernel_rfl)) (fun _ _ _ h => h) (Or.inl ⟨by rfl, ?_⟩) ?_ ?_
   rotate_left
   ·intro w'
    go_simp
    with_reducible rfl
   rotate_left
   ·simp only [Act.put, a1_, a2_, a3_, i64_w, i32_w]
    rfl
   refine take_ (i := 7) (N := some 12) (v := ?_) (a' := ?_) (bs_ 27 511) rfl rfl (take_ofW HT_.out HW_.out (by kernel_rfl)) (fun _ _ _ h => h) (Or.inl ⟨by rfl, ?_⟩) hHeld ?_ ?_
   rotate_left
   ·rintro w' ⟨s0, s1, s2, s3, s4, s5, s6, s7, s8, s9, s10, s11⟩
    (try simp only [add_plain] at s0 s1 s2 s3 s4 s5 s6 s7 s8 s9 s10 s11)
    go_simp
    with_reducible rfl
   rotate_left
   ·simp only [Act.put, a1_, a2_, a3_, i64_w, i32_w]
    rfl
   refine take_ (i := 9) (N := some 14) (v := ?_) (a' := ?_) (bs_ 27 1023) rfl rfl (take_ofW HT_.out HW_.out (by kernel_rfl)) (fun _ _ _ h => h) (Or.inl ⟨by rfl, ?_⟩) hHeld ?_ ?_
   rotate_left
   ·rintro w' ⟨s0, s1, s2, s3, s4, s5, s6, s7, s8, s9, s10, s11⟩
    (try simp only [add_plain] at s0 s1 s2 s3 s4 s5 s6 s7 s8 s9 s10 s11)
    go_simp
    with_reducible rfl
   rotate_left
   ·simp only [Act.put, a1_, a2_, a3_, i64_w, i32_w]
    rfl
   refine pure_ (i := 10) (N := some 15) (v := ?_) (a' := ?_) (bs_ 27 2047) rfl rfl (any_of HT_.out (by kernel_rfl)) (fun _ _ _ h => h) (Or.inl ⟨by rfl, ?_⟩) ?_ ?_
   rotate_left
   ·intro w'
    go_simp
    with_reducible rfl
   rotate_left
   ·simp only [Act.put, a1_, a2_, a3_, i64_w, i32_w]
    rfl
   refine pure_ (i := 11) (N := some 16) (v := ?_) (a' := ?_) (bs_ 27 4095) rfl rfl (any_of HT_.out (by kernel_rfl)) (fun _ _ _ h => h) (Or.inl ⟨by rfl, ?_⟩) ?_ ?_
   rotate_left
   ·intro w'
    go_simp
    with_reducible rfl
   rotate_left
   ·simp only [Act.put, a1_, a2_, a3_, i64_w, i32_w]
    rfl
   refine pure_ (i := 12) (N := some 17) (v := ?_) (a' := ?_) (bs_ 27 8191) rfl rfl (any_of HT_.out (by kernel_rfl)) (fun _ _ _ h => h) (Or.inl ⟨by rfl, ?_⟩) ?_ ?_
   rotate_left
   ·intro w'
    go_simp
    with_reducible rfl
   rotate_left
   ·simp only [Act.put, a1_, a2_, a3_, i64_w, i32_w]
    rfl
   refine pure_ (i := 13) (N := some 18) (v := undef) (a' := ?_) (bs_ 27 16383) rfl rfl (any_of HT_.out (by kernel_rfl)) (fun _ _ _ h => h) (Or.inr ⟨by rfl, rfl⟩) ?_ ?_
   rotate_left
   ·simp only [Act.put, a1_, a2_, a3_, i64_w, i32_w]
    rfl
   refine pure_ (i := 14) (N := some 19) (v := undef) (a' := ?_) (bs_ 27 32767) rfl rfl (any_of HT_.out (by kernel_rfl)) (fun _ _ _ h => h) (Or.inr ⟨by rfl, rfl⟩) ?_ ?_
   rotate_left
   ·simp only [Act.put, a1_, a2_, a3_, i64_w, i32_w]
    rfl
   refine pure_ (i := 15) (N := some 20) (v := undef) (a' := ?_) (bs_ 27 65535) rfl rfl (any_of HT_.out (by kernel_rfl)) (fun _ _ _ h => h) (Or.inr ⟨by rfl, rfl⟩) ?_ ?_
   rotate_left
   ·simp only [Act.put, a1_, a2_, a3_, i64_w, i32_w]
    rfl
   refine pure_ (i := 16) (N := some 21) (v := undef) (a' := ?_) (bs_ 27 131071) rfl rfl (any_of HT_.out (by kernel_rfl)) (fun _ _ _ h => h) (Or.inr ⟨by rfl, rfl⟩) ?_ ?_
   rotate_left
   ·simp only [Act.put, a1_, a2_, a3_, i64_w, i32_w]
    rfl
   refine pure_ (i := 17) (N := some 22) (v := undef) (a' := ?_) (bs_ 27 262143) rfl rfl (any_of HT_.out (by kernel_rfl)) (fun _ _ _ h => h) (Or.inr ⟨by rfl, rfl⟩) ?_ ?_
   rotate_left
   ·simp only [Act.put, a1_, a2_, a3_, i64_w, i32_w]
    rfl
   refine pure_ (i := 18) (N := some 23) (v := ?_) (a' := ?_) (bs_ 27 524287) rfl rfl (any_of HT_.out (by kernel_rfl)) (fun _ _ _ h => h) (Or.inl ⟨by rfl, ?_⟩) ?_ ?_
   rotate_left
   ·intro w'
    go_simp
    with_reducible rfl
   rotate_left
   ·simp only [Act.put, a1_, a2_, a3_, i64_w, i32_w]
    rfl
   refine pure_ (i := 19) (N := some 24) (v := ?_) (a' := ?_) (bs_ 27 1048575) rfl rfl (any_of HT_.out (by kernel_rfl)) (fun _ _ _ h => h) (Or.inl ⟨by rfl, ?_⟩) ?_ ?_
   rotate_left
   ·intro w'
    go_simp
    with_reducible rfl
   rotate_left
   ·simp only [Act.put, a1_, a2_, a3_, i64_w, i32_w]
    rfl
   refine pure_ (i := 20) (N := some 25) (v := undef) (a' := ?_) (bs_ 27 2097151) rfl rfl (any_of HT_.out (by kernel_rfl)) (fun _ _ _ h => h) (Or.inr ⟨by rfl, rfl⟩) ?_ ?_
   rotate_left
   ·simp only [Act.put, a1_, a2_, a3_, i64_w, i32_w]
    rfl
   refine pure_ (i := 21) (N := some 26) (v := undef) (a' := ?_) (bs_ 27 4194303) rfl rfl (any_of HT_.out (by kernel_rfl)) (fun _ _ _ h => h) (Or.inr ⟨by rfl, rfl⟩) ?_ ?_
   rotate_left
   ·simp only [Act.put, a1_, a2_, a3_, i64_w, i32_w]
    rfl
   refine pure_ (i := 22) (N := some 27) (v := undef) (a' := ?_) (bs_ 27 8388607) rfl rfl (any_of HT_.out (by kernel_rfl)) (fun _ _ _ h => h) (Or.inr ⟨by rfl, rfl⟩) ?_ ?_
   rotate_left
   ·simp only [Act.put, a1_, a2_, a3_, i64_w, i32_w]
    rfl
   refine pure_ (i := 23) (N := some 28) (v := undef) (a' := ?_) (bs_ 27 16777215) rfl rfl (any_of HT_.out (by kernel_rfl)) (fun _ _ _ h => h) (Or.inr ⟨by rfl, rfl⟩) ?_ ?_
   rotate_left
   ·simp only [Act.put, a1_, a2_, a3_, i64_w, i32_w]
    rfl
   refine pure_ (i := 24) (N := some 29) (v := undef) (a' := ?_) (bs_ 27 33554431) rfl rfl (any_of HT_.out (by kernel_rfl)) (fun _ _ _ h => h) (Or.inr ⟨by rfl, rfl⟩) ?_ ?_
   rotate_left
   ·simp only [Act.put, a1_, a2_, a3_, i64_w, i32_w]
    rfl
   refine pure_ (i := 25) (N := some 30) (v := ?_) (a' := ?_) (bs_ 27 67108863) rfl rfl (any_of HT_.out (by kernel_rfl)) (fun _ _ _ h => h) (Or.inl ⟨by rfl, ?_⟩) ?_ ?_
   rotate_left
   ·intro w'
    go_simp
    with_reducible rfl
   rotate_left
   ·simp only [Act.put, a1_, a2_, a3_, i64_w, i32_w]
    rfl
   refine pure_ (i := 26) (N := some 4) (v := ?_) (a' := ?_) (bs_ 27 134217727) rfl rfl (any_of HT_.out (by kernel_rfl)) (fun _ _ _ h => h) (Or.inl ⟨by rfl, ?_⟩) ?_ ?_
   rotate_left
   ·intro w'
    go_simp
    with_reducible rfl
   rotate_left
   ·simp only [Act.put, a1_, a2_, a3_, i64_w, i32_w]
    rfl
   refine done_ (done_of HT_.out (by kernel_rfl)) ?_
   try go_wp2
   go_ret
   exact ⟨by first | rfl | (simp [errW_none, errW_some] <;> rfl) | (simp [*, errW_none, errW_some] <;> rfl), by repeat (first | (with_reducible first | exact HB.out | apply pa_ | apply pn_ | apply pd_ | refine below_set ?_ GE281.out | refine below_set ?_ GE282.out) | exact HB.out)⟩
 ·rw [if_neg c5] at H
  have c5b0 : (t283 == t286 && (t284 == t287 && (t285 == t288))) = false := by simpa using c5
  (try (have c5b1 : decide (t283 = t286 && (t284 == t287 && (t285 == t288))) = false := by simpa using c5))
  (try (have c5b2 : (t283 == t286 && (t284 == t287 && (t285 == t288))) = false := by simpa using c5))
  (try (have c5b3 : ¬ (t283 = t286 && (t284 == t287 && (t285 == t288))) := by simpa using c5))
  clear c5
  obtain rfl := Option.some.inj H
  go_enter Try.func19, Try.ntmps19
  try go_wp2_with (first | ((with_reducible refine gate_dst (N := 2) rfl ?_); refine box_event ?hg (N := 2) ?hd (cs := #[.int .u32 a0_0, .int .u32 a0_1, .int .u32 a0_2, .int .i64 a0_3, .int .u32 a0_4, .slice A0_5 l0_5.length c0_5]) (t := 27) ?hr ?_; (case hd => rfl); (case hg => rfl); (case hr => first | (go_simp; done) | (go_simp; rfl)); intro gb281 hg w24 hbox hb; have n0_ := m_ (below_step (by repeat (first | (with_reducible first | exact HB.out | apply pa_ | apply pn_ | apply pd_) | exact HB.out)) hb); have n1_ := m_ (hbox); have n2_ := m_ ((by rw [hg]; exact (below_size (by repeat (first | (with_reducible first | exact HB.out | apply pa_ | apply pn_ | apply pd_) | exact HB.out))) : w.heap.size ≤ gb281)); have n3_ := m_ ((by rw [hg]; exact (below_size (by repeat (first | (with_reducible first | exact HB.out | apply pa_ | apply pn_ | apply pd_) | exact HB.out))) : w.heap.size ≤ gb281)); clear HB; have HB := n0_; have BK281 := n1_; have GW281 := n2_; have GE281 := n3_; clear n0_ n1_ n2_ n3_; clear hb hbox hg) | ((with_reducible refine gate_dst (N := 3) rfl ?_); refine box_event ?hg (N := 3) ?hd (cs := #[.int .u32 a1_0, .int .u32 a1_1, .int .u32 a1_2, .int .i64 a1_3, .int .u32 a1_4, .slice A1_5 l1_5.length c1_5]) (t := 27) ?hr ?_; (case hd => rfl); (case hg => rfl); (case hr => first | (go_simp; done) | (go_simp; rfl)); intro gb282 hg w25 hbox hb; have n0_ := m_ (blk_below (g := gb281) (o := .cells #[.int .u32 a0_0, .int .u32 a0_1, .int .u32 a0_2, .int .i64 a0_3, .int .u32 a0_4, .slice A0_5 l0_5.length c0_5] 27 (0, 0)) (by (with_reducible repeat (first | refine bn_ ?_ _ | refine bd_ ?_ | refine ba_ ?_ _)); exact BK281.out) hb); have n1_ := m_ (below_step (by repeat (first | (with_reducible first | exact HB.out | apply pa_ | apply pn_ | apply pd_ | refine below_set ?_ GE281.out) | exact HB.out)) hb); have n2_ := m_ (hbox); have n3_ := m_ ((by rw [hg]; exact (below_size (by repeat (first | (with_reducible first | exact HB.out | apply pa_ | apply pn_ | apply pd_ | refine below_set ?_ GE281.out) | exact HB.out))) : w.heap.size ≤ gb282)); have n4_ := m_ ((by rw [hg]; exact (below_size (by repeat (first | (with_reducible first | exact HB.out | apply pa_ | apply pn_ | apply pd_ | refine below_set ?_ GE281.out) | exact HB.out))) : w.heap.size ≤ gb282)); have n5_ := m_ ((by rw [hg]; exact Nat.ne_of_lt (blk_lt (g := gb281) (o := .cells #[.int .u32 a0_0, .int .u32 a0_1, .int .u32 a0_2, .int .i64 a0_3, .int .u32 a0_4, .slice A0_5 l0_5.length c0_5] 27 (0, 0)) (by (with_reducible repeat (first | refine bn_ ?_ _ | refine bd_ ?_ | refine ba_ ?_ _)); exact BK281.out)) : gb281 ≠ gb282)); have n6_ := m_ ((by rw [hg]; exact Nat.ne_of_gt (blk_lt (g := gb281) (o := .cells #[.int .u32 a0_0, .int .u32 a0_1, .int .u32 a0_2, .int .i64 a0_3, .int .u32 a0_4, .slice A0_5 l0_5.length c0_5] 27 (0, 0)) (by (with_reducible repeat (first | refine bn_ ?_ _ | refine bd_ ?_ | refine ba_ ?_ _)); exact BK281.out)) : gb282 ≠ gb281)); clear BK281; clear HB; have BK281 := n0_; have HB := n1_; have BK282 := n2_; have GW282 := n3_; have GE282 := n4_; have NB281_282 := n5_; have NB282_281 := n6_; clear n0_ n1_ n2_ n3_ n4_ n5_ n6_; clear hb hbox hg))
  have n0_ := m_ (bd_ BK281.out)
  have n1_ := m_ (bd_ BK282.out)
  have n2_ := m_ (pd_ HB.out)
  clear BK281
  clear BK282
  clear HB
  have BK281 := n0_
  have BK282 := n1_
  have HB := n2_
  clear n0_ n1_ n2_
  refine start_ (n := 27) (S := fun w' => w'.cell? ⟨gb281, 0, none⟩ = some (.int .u32 a0_0) ∧ w'.cell? ⟨gb281, 1, none⟩ = some (.int .u32 a0_1) ∧ w'.cell? ⟨gb281, 2, none⟩ = some (.int .u32 a0_2) ∧ w'.cell? ⟨gb281, 3, none⟩ = some (.int .i64 a0_3) ∧ w'.cell? ⟨gb281, 4, none⟩ = some (.int .u32 a0_4) ∧ w'.cell? ⟨gb281, 5, none⟩ = some (.slice A0_5 l0_5.length c0_5) ∧ w'.cell? ⟨gb282, 0, none⟩ = some (.int .u32 a1_0) ∧ w'.cell? ⟨gb282, 1, none⟩ = some (.int .u32 a1_1) ∧ w'.cell? ⟨gb282, 2, none⟩ = some (.int .u32 a1_2) ∧ w'.cell? ⟨gb282, 3, none⟩ = some (.int .i64 a1_3) ∧ w'.cell? ⟨gb282, 4, none⟩ = some (.int .u32 a1_4) ∧ w'.cell? ⟨gb282, 5, none⟩ = some (.slice A1_5 l1_5.length c1_5)) (ds := []) (bs_ 27 0) (by kernel_rfl) rfl rfl ⟨(bc_ BK281.out 0).trans rfl, (bc_ BK281.out 1).trans rfl, (bc_ BK281.out 2).trans rfl, (bc_ BK281.out 3).trans rfl, (bc_ BK281.out 4).trans rfl, (bc_ BK281.out 5).trans rfl, (bc_ BK282.out 0).trans rfl, (bc_ BK282.out 1).trans rfl, (bc_ BK282.out 2).trans rfl, (bc_ BK282.out 3).trans rfl, (bc_ BK282.out 4).trans rfl, (bc_ BK282.out 5).trans rfl⟩ (fun hHeld => ?_); refine with_tabW flow_Same.tab1 flow_Same.bits1 (fun HT_ HW_ => ?_)
  generalize w25.drew = w26 at BK281 BK282 HB hHeld ⊢
  refine take_ (i := 0) (N := some 5) (v := ?_) (a' := ?_) (bs_ 27 1) rfl rfl (take_ofW HT_.out HW_.out (by kernel_rfl)) (fun _ _ _ h => h) (Or.inl ⟨by rfl, ?_⟩) hHeld ?_ ?_
  rotate_left
  ·rintro w' ⟨s0, s1, s2, s3, s4, s5, s6, s7, s8, s9, s10, s11⟩
   (try simp only [add_plain] at s0 s1 s2 s3 s4 s5 s6 s7 s8 s9 s10 s11)
   go_simp
   with_reducible rfl
  rotate_left
  ·simp only [Act.put, a1_, a2_, a3_, i64_w, i32_w]
   rfl
  refine take_ (i := 2) (N := some 7) (v := ?_) (a' := ?_) (bs_ 27 5) rfl rfl (take_ofW HT_.out HW_.out (by kernel_rfl)) (fun _ _ _ h => h) (Or.inl ⟨by rfl, ?_⟩) hHeld ?_ ?_
  rotate_left
  ·rintro w' ⟨s0, s1, s2, s3, s4, s5, s6, s7, s8, s9, s10, s11⟩
   (try simp only [add_plain] at s0 s1 s2 s3 s4 s5 s6 s7 s8 s9 s10 s11)
   go_simp
   with_reducible rfl
  rotate_left
  ·simp only [Act.put, a1_, a2_, a3_, i64_w, i32_w]
   rfl
  refine one_ (i := 1) (N := some 6) (bs_ 27 7) rfl rfl (one_of HT_.out (by kernel_rfl)) (by decide) (fun K hK => ?_)
  refine goes_ Try.func24 (by kernel_rfl) rfl #[.agg #[.int .u32 a0_0, .int .u32 a0_1, .int .u32 a0_2, .int .i64 a0_3, .int .u32 a0_4, .slice A0_5 l0_5.length c0_5]] (by rfl) rfl rfl (by (try simp only [List.map_toArray, List.map_cons, List.map_nil]); first | done | rfl | (simp only [List.length_drop, List.length_take]; rfl)) ?_
  with_reducible refine (flow_of.calls a0_0 a0_1 a0_2 a0_3 a0_4 _ _ l0_5 t283 t284 t285 _ ?side1 ?side2 A3.out).mono ?_
  (case side1 => repeat (first | exact (Kd.C_below HR0_5.out HB.out) | (with_reducible refine Kd.C_alloc ?_ _) | (with_reducible refine Kd.C_drewN ?_ _) | (with_reducible refine Kd.C_drew ?_)))
  (case side2 => exact HC0_5.out)
  rintro e w27 ⟨rfl, hb⟩
  refine ⟨_, rfl, ?_⟩
  have n0_ := m_ (blk_below (g := gb281) (o := .cells #[.int .u32 a0_0, .int .u32 a0_1, .int .u32 a0_2, .int .i64 a0_3, .int .u32 a0_4, .slice A0_5 l0_5.length c0_5] 27 (0, 0)) (by (with_reducible repeat (first | refine bn_ ?_ _ | refine bd_ ?_ | refine ba_ ?_ _)); exact BK281.out) hb)
  have n1_ := m_ (blk_below (g := gb282) (o := .cells #[.int .u32 a1_0, .int .u32 a1_1, .int .u32 a1_2, .int .i64 a1_3, .int .u32 a1_4, .slice A1_5 l1_5.length c1_5] 27 (0, 0)) (by (with_reducible repeat (first | refine bn_ ?_ _ | refine bd_ ?_ | refine ba_ ?_ _)); exact BK282.out) hb)
  have n2_ := m_ (below_step (by repeat (first | (with_reducible first | exact HB.out | apply pa_ | apply pn_ | apply pd_ | refine below_set ?_ GE281.out | refine below_set ?_ GE282.out) | exact HB.out)) hb)
  clear BK281
  clear BK282
  clear HB
  have BK281 := n0_
  have BK282 := n1_
  have HB := n2_
  clear n0_ n1_ n2_
  (try clear hb)
  (try clear hb2)
  (try clear hk)
  (try clear hi)
  refine hK.out _ _ ⟨(bc_ BK281.out 0).trans rfl, (bc_ BK281.out 1).trans rfl, (bc_ BK281.out 2).trans rfl, (bc_ BK281.out 3).trans rfl, (bc_ BK281.out 4).trans rfl, (bc_ BK281.out 5).trans rfl, (bc_ BK282.out 0).trans rfl, (bc_ BK282.out 1).trans rfl, (bc_ BK282.out 2).trans rfl, (bc_ BK282.out 3).trans rfl, (bc_ BK282.out 4).trans rfl, (bc_ BK282.out 5).trans rfl⟩ (fun hHeld => ?_)
  clear hK K
  refine norm_ (a' := ?_) ?_ ?_
  rotate_left
  ·show Act.put _ (some 6) _ = _
   simp only [Act.put, a1_, a2_, a3_, i64_w, i32_w]
   rfl
  refine one_ (i := 3) (N := some 8) (bs_ 27 15) rfl rfl (one_of HT_.out (by kernel_rfl)) (by decide) (fun K hK => ?_)
  refine goes_ Try.func24 (by kernel_rfl) rfl #[.agg #[.int .u32 a1_0, .int .u32 a1_1, .int .u32 a1_2, .int .i64 a1_3, .int .u32 a1_4, .slice A1_5 l1_5.length c1_5]] (by rfl) rfl rfl (by (try simp only [List.map_toArray, List.map_cons, List.map_nil]); first | done | rfl | (simp only [List.length_drop, List.length_take]; rfl)) ?_
  with_reducible refine (flow_of.calls a1_0 a1_1 a1_2 a1_3 a1_4 _ _ l1_5 t286 t287 t288 _ ?side1 ?side2 A4.out).mono ?_
  (case side1 => repeat (first | exact (Kd.C_below HR1_5.out HB.out) | (with_reducible refine Kd.C_alloc ?_ _) | (with_reducible refine Kd.C_drewN ?_ _) | (with_reducible refine Kd.C_drew ?_)))
  (case side2 => exact HC1_5.out)
  rintro e w28 ⟨rfl, hb⟩
  refine ⟨_, rfl, ?_⟩
  have n0_ := m_ (blk_below (g := gb281) (o := .cells #[.int .u32 a0_0, .int .u32 a0_1, .int .u32 a0_2, .int .i64 a0_3, .int .u32 a0_4, .slice A0_5 l0_5.length c0_5] 27 (0, 0)) (by (with_reducible repeat (first | refine bn_ ?_ _ | refine bd_ ?_ | refine ba_ ?_ _)); exact BK281.out) hb)
  have n1_ := m_ (blk_below (g := gb282) (o := .cells #[.int .u32 a1_0, .int .u32 a1_1, .int .u32 a1_2, .int .i64 a1_3, .int .u32 a1_4, .slice A1_5 l1_5.length c1_5] 27 (0, 0)) (by (with_reducible repeat (first | refine bn_ ?_ _ | refine bd_ ?_ | refine ba_ ?_ _)); exact BK282.out) hb)
  have n2_ := m_ (below_step (by repeat (first | (with_reducible first | exact HB.out | apply pa_ | apply pn_ | apply pd_ | refine below_set ?_ GE281.out | refine below_set ?_ GE282.out) | exact HB.out)) hb)
  clear BK281
  clear BK282
  clear HB
  have BK281 := n0_
  have BK282 := n1_
  have HB := n2_
  clear n0_ n1_ n2_
  (try clear hb)
  (try clear hb2)
  (try clear hk)
  (try clear hi)
  refine hK.out _ _ ⟨(bc_ BK281.out 0).trans rfl, (bc_ BK281.out 1).trans rfl, (bc_ BK281.out 2).trans rfl, (bc_ BK281.out 3).trans rfl, (bc_ BK281.out 4).trans rfl, (bc_ BK281.out 5).trans rfl, (bc_ BK282.out 0).trans rfl, (bc_ BK282.out 1).trans rfl, (bc_ BK282.out 2).trans rfl, (bc_ BK282.out 3).trans rfl, (bc_ BK282.out 4).trans rfl, (bc_ BK282.out 5).trans rfl⟩ (fun hHeld => ?_)
  clear hK K
  refine norm_ (a' := ?_) ?_ ?_
  rotate_left
  ·show Act.put _ (some 8) _ = _
   simp only [Act.put, a1_, a2_, a3_, i64_w, i32_w]
   rfl
  refine pure_ (i := 4) (N := some 9) (v := ?_) (a' := ?_) (bs_ 27 31) rfl rfl (any_of HT_.out (by kernel_rfl)) (fun _ _ _ h => h) (Or.inl ⟨by rfl, ?_⟩) ?_ ?_
  rotate_left
  ·intro w'
   go_simp
   with_reducible rfl
  rotate_left
  ·simp only [Act.put, a1_, a2_, a3_, i64_w, i32_w]
   rfl
  refine pure_ (i := 5) (N := some 10) (v := ?_) (a' := ?_) (bs_ 27 63) rfl rfl (any_of HT_.out (by kernel_rfl)) (fun _ _ _ h => h) (Or.inl ⟨by rfl, ?_⟩) ?_ ?_
  rotate_left
  ·intro w'
   go_simp
   with_reducible rfl
  rotate_left
  ·simp only [Act.put, a1_, a2_, a3_, i64_w, i32_w]
   rfl
  refine pure_ (i := 6) (N := some 11) (v := undef) (a' := ?_) (bs_ 27 127) rfl rfl (any_of HT_.out (by kernel_rfl)) (fun _ _ _ h => h) (Or.inr ⟨by rfl, rfl⟩) ?_ ?_
  rotate_left
  ·simp only [Act.put, a1_, a2_, a3_, i64_w, i32_w]
   rfl
  refine pure_ (i := 7) (N := some 12) (v := undef) (a' := ?_) (bs_ 27 255) rfl rfl (any_of HT_.out (by kernel_rfl)) (fun _ _ _ h => h) (Or.inr ⟨by rfl, rfl⟩) ?_ ?_
  rotate_left
  ·simp only [Act.put, a1_, a2_, a3_, i64_w, i32_w]
   rfl
  refine pure_ (i := 8) (N := some 13) (v := undef) (a' := ?_) (bs_ 27 511) rfl rfl (any_of HT_.out (by kernel_rfl)) (fun _ _ _ h => h) (Or.inr ⟨by rfl, rfl⟩) ?_ ?_
  rotate_left
  ·simp only [Act.put, a1_, a2_, a3_, i64_w, i32_w]
   rfl
  refine pure_ (i := 9) (N := some 14) (v := undef) (a' := ?_) (bs_ 27 1023) rfl rfl (any_of HT_.out (by kernel_rfl)) (fun _ _ _ h => h) (Or.inr ⟨by rfl, rfl⟩) ?_ ?_
  rotate_left
  ·simp only [Act.put, a1_, a2_, a3_, i64_w, i32_w]
   rfl
  refine pure_ (i := 10) (N := some 15) (v := undef) (a' := ?_) (bs_ 27 2047) rfl rfl (any_of HT_.out (by kernel_rfl)) (fun _ _ _ h => h) (Or.inr ⟨by rfl, rfl⟩) ?_ ?_
  rotate_left
  ·simp only [Act.put, a1_, a2_, a3_, i64_w, i32_w]
   rfl
  refine pure_ (i := 11) (N := some 16) (v := ?_) (a' := ?_) (bs_ 27 4095) rfl rfl (any_of HT_.out (by kernel_rfl)) (fun _ _ _ h => h) (Or.inl ⟨by rfl, ?_⟩) ?_ ?_
  rotate_left
  ·intro w'
   go_simp
   with_reducible rfl
  rotate_left
  ·simp only [Act.put, a1_, a2_, a3_, i64_w, i32_w]
   rfl
  refine pure_ (i := 12) (N := some 17) (v := ?_) (a' := ?_) (bs_ 27 8191) rfl rfl (any_of HT_.out (by kernel_rfl)) (fun _ _ _ h => h) (Or.inl ⟨by rfl, ?_⟩) ?_ ?_
  rotate_left
  ·intro w'
   go_simp
   with_reducible rfl
  rotate_left
  ·simp only [Act.put, a1_, a2_, a3_, i64_w, i32_w]
   rfl
  refine pure_ (i := 13) (N := some 18) (v := undef) (a' := ?_) (bs_ 27 16383) rfl rfl (any_of HT_.out (by kernel_rfl)) (fun _ _ _ h => h) (Or.inr ⟨by rfl, rfl⟩) ?_ ?_
  rotate_left
  ·simp only [Act.put, a1_, a2_, a3_, i64_w, i32_w]
   rfl
  refine pure_ (i := 14) (N := some 19) (v := undef) (a' := ?_) (bs_ 27 32767) rfl rfl (any_of HT_.out (by kernel_rfl)) (fun _ _ _ h => h) (Or.inr ⟨by rfl, rfl⟩) ?_ ?_
  rotate_left
  ·simp only [Act.put, a1_, a2_, a3_, i64_w, i32_w]
   rfl
  refine pure_ (i := 15) (N := some 20) (v := undef) (a' := ?_) (bs_ 27 65535) rfl rfl (any_of HT_.out (by kernel_rfl)) (fun _ _ _ h => h) (Or.inr ⟨by rfl, rfl⟩) ?_ ?_
  rotate_left
  ·simp only [Act.put, a1_, a2_, a3_, i64_w, i32_w]
   rfl
  refine pure_ (i := 16) (N := some 21) (v := undef) (a' := ?_) (bs_ 27 131071) rfl rfl (any_of HT_.out (by kernel_rfl)) (fun _ _ _ h => h) (Or.inr ⟨by rfl, rfl⟩) ?_ ?_
  rotate_left
  ·simp only [Act.put, a1_, a2_, a3_, i64_w, i32_w]
   rfl
  refine pure_ (i := 17) (N := some 22) (v := undef) (a' := ?_) (bs_ 27 262143) rfl rfl (any_of HT_.out (by kernel_rfl)) (fun _ _ _ h => h) (Or.inr ⟨by rfl, rfl⟩) ?_ ?_
  rotate_left
  ·simp only [Act.put, a1_, a2_, a3_, i64_w, i32_w]
   rfl
  refine pure_ (i := 18) (N := some 23) (v := ?_) (a' := ?_) (bs_ 27 524287) rfl rfl (any_of HT_.out (by kernel_rfl)) (fun _ _ _ h => h) (Or.inl ⟨by rfl, ?_⟩) ?_ ?_
  rotate_left
  ·intro w'
   go_simp
   with_reducible rfl
  rotate_left
  ·simp only [Act.put, a1_, a2_, a3_, i64_w, i32_w]
   rfl
  refine pure_ (i := 19) (N := some 24) (v := ?_) (a' := ?_) (bs_ 27 1048575) rfl rfl (any_of HT_.out (by kernel_rfl)) (fun _ _ _ h => h) (Or.inl ⟨by rfl, ?_⟩) ?_ ?_
  rotate_left
  ·intro w'
   go_simp
   with_reducible rfl
  rotate_left
  ·simp only [Act.put, a1_, a2_, a3_, i64_w, i32_w]
   rfl
  refine pure_ (i := 20) (N := some 25) (v := undef) (a' := ?_) (bs_ 27 2097151) rfl rfl (any_of HT_.out (by kernel_rfl)) (fun _ _ _ h => h) (Or.inr ⟨by rfl, rfl⟩) ?_ ?_
  rotate_left
  ·simp only [Act.put, a1_, a2_, a3_, i64_w, i32_w]
   rfl
  refine pure_ (i := 21) (N := some 26) (v := undef) (a' := ?_) (bs_ 27 4194303) rfl rfl (any_of HT_.out (by kernel_rfl)) (fun _ _ _ h => h) (Or.inr ⟨by rfl, rfl⟩) ?_ ?_
  rotate_left
  ·simp only [Act.put, a1_, a2_, a3_, i64_w, i32_w]
   rfl
  refine pure_ (i := 22) (N := some 27) (v := undef) (a' := ?_) (bs_ 27 8388607) rfl rfl (any_of HT_.out (by kernel_rfl)) (fun _ _ _ h => h) (Or.inr ⟨by rfl, rfl⟩) ?_ ?_
  rotate_left
  ·simp only [Act.put, a1_, a2_, a3_, i64_w, i32_w]
   rfl
  refine pure_ (i := 23) (N := some 28) (v := undef) (a' := ?_) (bs_ 27 16777215) rfl rfl (any_of HT_.out (by kernel_rfl)) (fun _ _ _ h => h) (Or.inr ⟨by rfl, rfl⟩) ?_ ?_
  rotate_left
  ·simp only [Act.put, a1_, a2_, a3_, i64_w, i32_w]
   rfl
  refine pure_ (i := 24) (N := some 29) (v := undef) (a' := ?_) (bs_ 27 33554431) rfl rfl (any_of HT_.out (by kernel_rfl)) (fun _ _ _ h => h) (Or.inr ⟨by rfl, rfl⟩) ?_ ?_
  rotate_left
  ·simp only [Act.put, a1_, a2_, a3_, i64_w, i32_w]
   rfl
  refine pure_ (i := 25) (N := some 30) (v := ?_) (a' := ?_) (bs_ 27 67108863) rfl rfl (any_of HT_.out (by kernel_rfl)) (fun _ _ _ h => h) (Or.inl ⟨by rfl, ?_⟩) ?_ ?_
  rotate_left
  ·intro w'
   go_simp
   with_reducible rfl
  rotate_left
  ·simp only [Act.put, a1_, a2_, a3_, i64_w, i32_w]
   rfl
  refine pure_ (i := 26) (N := some 4) (v := ?_) (a' := ?_) (bs_ 27 134217727) rfl rfl (any_of HT_.out (by kernel_rfl)) (fun _ _ _ h => h) (Or.inl ⟨by rfl, ?_⟩) ?_ ?_
  rotate_left
  ·intro w'
   go_simp
   with_reducible rfl
  rotate_left
  ·simp only [Act.put, a1_, a2_, a3_, i64_w, i32_w]
   rfl
  refine done_ (done_of HT_.out (by kernel_rfl)) ?_
  try go_wp2
  go_ret
  exact ⟨by first | rfl | (simp [errW_none, errW_some] <;> rfl) | (simp [*, errW_none, errW_some] <;> rfl), by repeat (first | (with_reducible first | exact HB.out | apply pa_ | apply pn_ | apply pd_ | refine below_set ?_ GE281.out | refine below_set ?_ GE282.out) | exact HB.out)⟩

end Go.Proofs.Yteibolilodgjnaa.P

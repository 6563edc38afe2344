/- For each Go function a Lean function, and the proof that a call comes to what it tells: made by program out of the translation (the kit's print, with texts by hand put in). No condition. -/
import Derived.Test.YteibolilodgjnaaSq
import Derived.Test.YteibolilodgjnaaPx0
import Derived.Test.YteibolilodgjnaaPx4
import Derived.Test.YteibolilodgjnaaPx7
import Derived.Test.YteibolilodgjnaaPx9
import Derived.Test.YteibolilodgjnaaPx10
namespace Go.Proofs.Yteibolilodgjnaa.P
open Go.RowKit Go.Proofs.Yteibolilodgjnaa.HRows Go.Proofs.YteibolilodgjnaaW.PrintWords Go.Proofs.YteibolilodgjnaaW.PrintLast Go.Proofs.YteibolilodgjnaaW.PrintMore
attribute [local go_sem] max2_int min2_int max_two min_two max_three min_three max_four min_four   -- for this text's walks alone
set_option linter.unusedVariables false
set_option linter.unusedSimpArgs false

/-! ### stolonlaw15_shown: function 7 -/
def stolonlaw15_shown.f (k : Nat)  : Option (Bool) := (some (([(⟨1, false⟩ : S53), (⟨2, false⟩ : S53)] : List (S53)) : List (S53))).bind fun y155 => ((flow_Put.f k ([] : List (S27)) 167772161 4009820675 7 (-1) 0 y155 1).bind fun bt159 => ((flow_Send.f bt159.1 1 167772161 4009820675 7 3).bind fun t163 => (if bt159.2 = 0 then ((flow_Right.f k 167772161 4009820675 7 (-1) 0 y155).bind fun t166 => (if t166 = true then ((flow_Table.f k bt159.1).bind fun t167 => (if t167 = true then (if (t163.length : Int) = 1 then (if 0 < (t163.length : Int) then (if ((rd_T55 t163 0).f0) = 2 then (if ((rd_T55 t163 0).f1.f2) = 7 then (some (((rd_T55 t163 0).f1.f3) == 3)) else (none)) else (none)) else (none)) else (none)) else (none))) else (none))) else (none))))
theorem stolonlaw15_shown.mono : ∀ k, LeO (stolonlaw15_shown.f k ) (stolonlaw15_shown.f (k + 1) ) := by
 intro  k
 unfold stolonlaw15_shown.f
 repeat' first
   | (with_reducible exact flow_Put.mono _ _ _ _ _ _ _ _ _)
   | (with_reducible exact flow_Right.mono _ _ _ _ _ _ _)
   | (with_reducible exact flow_Table.mono _ _)
   | (with_reducible exact LeO.refl _)
   | (with_reducible exact LeO.none _)
   | (with_reducible refine LeO.ite ?_ ?_)
   | (with_reducible refine LeO.bind ?_ (fun _ => ?_))
   | exact flow_Put.mono _ _ _ _ _ _ _ _ _
   | exact flow_Right.mono _ _ _ _ _ _ _
   | exact flow_Table.mono _ _
   | exact LeO.none _
   | refine LeO.ite ?_ ?_
   | refine LeO.bind ?_ (fun _ => ?_)
set_option maxHeartbeats 8000000 in
set_option maxRecDepth 100000 in
theorem stolonlaw15_shown.calls (k : Nat)  (r : Bool) (w : World) (h : stolonlaw15_shown.f k  = some r) :
  Calls Try.prog 7 #[] w fun e w' => e = .returned (.bool r) ∧ Below w.heap.size w w' := by
 have hu53 := Try.underlying53
 have hu27 := Try.underlying27
 have hu38 := Try.underlying38
 have HB := m_ (Below.refl w.heap.size w)
 have H : ((some (([(⟨1, false⟩ : S53), (⟨2, false⟩ : S53)] : List (S53)) : List (S53))).bind fun y155 => ((flow_Put.f k ([] : List (S27)) 167772161 4009820675 7 (-1) 0 y155 1).bind fun bt159 => ((flow_Send.f bt159.1 1 167772161 4009820675 7 3).bind fun t163 => (if bt159.2 = 0 then ((flow_Right.f k 167772161 4009820675 7 (-1) 0 y155).bind fun t166 => (if t166 = true then ((flow_Table.f k bt159.1).bind fun t167 => (if t167 = true then (if (t163.length : Int) = 1 then (if 0 < (t163.length : Int) then (if ((rd_T55 t163 0).f0) = 2 then (if ((rd_T55 t163 0).f1.f2) = 7 then (some (((rd_T55 t163 0).f1.f3) == 3)) else (none)) else (none)) else (none)) else (none)) else (none))) else (none))) else (none))))) = some r := h
 clear h
 obtain ⟨y155, hy155⟩ : ∃ y_ : List (S53), y_ = (([(⟨1, false⟩ : S53), (⟨2, false⟩ : S53)] : List (S53))) := ⟨_, rfl⟩
 replace H : ((flow_Put.f k ([] : List (S27)) 167772161 4009820675 7 (-1) 0 y155 1).bind fun bt159 => ((flow_Send.f bt159.1 1 167772161 4009820675 7 3).bind fun t163 => (if bt159.2 = 0 then ((flow_Right.f k 167772161 4009820675 7 (-1) 0 y155).bind fun t166 => (if t166 = true then ((flow_Table.f k bt159.1).bind fun t167 => (if t167 = true then (if (t163.length : Int) = 1 then (if 0 < (t163.length : Int) then (if ((rd_T55 t163 0).f0) = 2 then (if ((rd_T55 t163 0).f1.f2) = 7 then (some (((rd_T55 t163 0).f1.f3) == 3)) else (none)) else (none)) else (none)) else (none)) else (none))) else (none))) else (none)))) = some r := by first | (rw [hy155]; with_reducible exact H) | (have H2_ := (Option.bind_some _ _).symm.trans H; rw [hy155]; with_reducible exact H2_) | (have H2_ := (Option.bind_some _ _).symm.trans H; with_reducible exact H2_) | with_reducible exact H | (rw [hy155]; exact H) | exact H
 have Ny155 := m_ hy155
 clear hy155
 replace H := Option.bind_eq_some_iff.mp H
 obtain ⟨⟨t159, t162⟩, A10, H⟩ := H
 replace H : ((flow_Send.f t159 1 167772161 4009820675 7 3).bind fun t163 => (if t162 = 0 then ((flow_Right.f k 167772161 4009820675 7 (-1) 0 y155).bind fun t166 => (if t166 = true then ((flow_Table.f k t159).bind fun t167 => (if t167 = true then (if (t163.length : Int) = 1 then (if 0 < (t163.length : Int) then (if ((rd_T55 t163 0).f0) = 2 then (if ((rd_T55 t163 0).f1.f2) = 7 then (some (((rd_T55 t163 0).f1.f3) == 3)) else (none)) else (none)) else (none)) else (none)) else (none))) else (none))) else (none))) = some r := H
 have A1 := m_ A10
 clear A10
 replace H := Option.bind_eq_some_iff.mp H
 obtain ⟨t163, A20, H⟩ := H
 replace H : (if t162 = 0 then ((flow_Right.f k 167772161 4009820675 7 (-1) 0 y155).bind fun t166 => (if t166 = true then ((flow_Table.f k t159).bind fun t167 => (if t167 = true then (if (t163.length : Int) = 1 then (if 0 < (t163.length : Int) then (if ((rd_T55 t163 0).f0) = 2 then (if ((rd_T55 t163 0).f1.f2) = 7 then (some (((rd_T55 t163 0).f1.f3) == 3)) else (none)) else (none)) else (none)) else (none)) else (none))) else (none))) else (none)) = some r := H
 have A2 := m_ A20
 clear A20
 by_cases c3 : t162 = 0
 ·rw [if_pos c3] at H
  have c3b0 : (t162 == 0) = true := beq_iff_eq.mpr c3
  have c3b1 : (t162 != 0) = false := bne_eq_false_iff_eq.mpr c3
  clear c3
  replace H := Option.bind_eq_some_iff.mp H
  obtain ⟨t166, A40, H⟩ := H
  replace H : (if t166 = true then ((flow_Table.f k t159).bind fun t167 => (if t167 = true then (if (t163.length : Int) = 1 then (if 0 < (t163.length : Int) then (if ((rd_T55 t163 0).f0) = 2 then (if ((rd_T55 t163 0).f1.f2) = 7 then (some (((rd_T55 t163 0).f1.f3) == 3)) else (none)) else (none)) else (none)) else (none)) else (none))) else (none)) = some r := H
  have A4 := m_ A40
  clear A40
  by_cases c5 : t166 = true
  ·subst c5
   have H1 : ((flow_Table.f k t159).bind fun t167 => (if t167 = true then (if (t163.length : Int) = 1 then (if 0 < (t163.length : Int) then (if ((rd_T55 t163 0).f0) = 2 then (if ((rd_T55 t163 0).f1.f2) = 7 then (some (((rd_T55 t163 0).f1.f3) == 3)) else (none)) else (none)) else (none)) else (none)) else (none))) = some r := by rw [if_pos rfl] at H; exact H
   clear H
   have H := H1
   clear H1
   replace H := Option.bind_eq_some_iff.mp H
   obtain ⟨t167, A60, H⟩ := H
   replace H : (if t167 = true then (if (t163.length : Int) = 1 then (if 0 < (t163.length : Int) then (if ((rd_T55 t163 0).f0) = 2 then (if ((rd_T55 t163 0).f1.f2) = 7 then (some (((rd_T55 t163 0).f1.f3) == 3)) else (none)) else (none)) else (none)) else (none)) else (none)) = some r := H
   have A6 := m_ A60
   clear A60
   by_cases c7 : t167 = true
   ·subst c7
    have H1 : (if (t163.length : Int) = 1 then (if 0 < (t163.length : Int) then (if ((rd_T55 t163 0).f0) = 2 then (if ((rd_T55 t163 0).f1.f2) = 7 then (some (((rd_T55 t163 0).f1.f3) == 3)) else (none)) else (none)) else (none)) else (none)) = some r := by rw [if_pos rfl] at H; exact H
    clear H
    have H := H1
    clear H1
    by_cases c8 : (t163.length : Int) = 1
    ·rw [if_pos c8] at H
     have c8b0 : ((t163.length : Int) == 1) = true := beq_iff_eq.mpr c8
     have c8b1 : ((t163.length : Int) != 1) = false := bne_eq_false_iff_eq.mpr c8
     clear c8
     by_cases c9 : 0 < (t163.length : Int)
     ·rw [if_pos c9] at H
      have c9b0 : decide (0 < (t163.length : Int)) = true := decide_eq_true c9
      have c9b1 : decide (0 < t163.length) = true := decide_eq_true (by omega)
      clear c9
      by_cases c10 : ((rd_T55 t163 0).f0) = 2
      ·rw [if_pos c10] at H
       have c10b0 : (((rd_T55 t163 0).f0) == 2) = true := beq_iff_eq.mpr c10
       have c10b1 : (((rd_T55 t163 0).f0) != 2) = false := bne_eq_false_iff_eq.mpr c10
       clear c10
       by_cases c11 : ((rd_T55 t163 0).f1.f2) = 7
       ·rw [if_pos c11] at H
        have c11b0 : (((rd_T55 t163 0).f1.f2) == 7) = true := beq_iff_eq.mpr c11
        have c11b1 : (((rd_T55 t163 0).f1.f2) != 7) = false := bne_eq_false_iff_eq.mpr c11
        clear c11
        obtain rfl := Option.some.inj H
        go_enter Try.func7, Try.ntmps7
        go_wp2_with (first | ((with_reducible refine gate_dst (N := 7) rfl ?_); (try (refine gate_guard (by rfl) ?_; dsimp only)); refine Kd.R_lit k53 _ 53 ?hg (N := 7) ?hd (xs := ([(⟨1, false⟩ : S53), (⟨2, false⟩ : S53)] : List (S53))) (inner := [.int .i64 1, .bool false, .int .i64 2, .bool false]) (ok := fun _ => True) (okp := fun _ => True) ?hr ?hp (fun _ hk => hk) trivial (Below.refl _ _) (Nat.le_refl _) (by simp) ?_; (case hd => rfl); (case hg => rfl); (case hr => first | (go_simp; done) | (go_simp; rfl)); (case hp => exact (Reps.c2 (show Kd.M k53 _ _ _ (⟨1, false⟩ : S53) [.int .i64 1, .bool false] from (k53_mkM _ _ _ (⟨1, false⟩ : S53) )) (Reps.c2 (show Kd.M k53 _ _ _ (⟨2, false⟩ : S53) [.int .i64 2, .bool false] from (k53_mkM _ _ _ (⟨2, false⟩ : S53) )) (Reps.none _ _)))); intro v156 w12 ho13 hb hg_ hnew_; clear hg_ hnew_; (first | rw [← Ny155.out] at ho13 | (simp only [Int.reduceToNat] at ho13; rw [← Ny155.out] at ho13)); have n0_ := m_ (Kd.R_lower ho13 (below_size (by repeat (first | (with_reducible first | exact HB.out | apply pa_ | apply pn_ | apply pd_) | exact HB.out)))); have n1_ := m_ (below_step (by repeat (first | (with_reducible first | exact HB.out | apply pa_ | apply pn_ | apply pd_) | exact HB.out)) hb); clear HB; have HO157 := n0_; have HB := n1_; clear n0_ n1_; clear hb ho13; obtain ⟨Ao14, co14, eo14⟩ := Kd.R_slice HO157.out; subst eo14) | ((with_reducible refine gate_dst (N := 1) rfl ?_); (try (refine gate_guard (by rfl) ?_; dsimp only)); refine box_event ?hg (N := 1) ?hd (cs := #[.int .u32 0, .int .u32 0, .int .u32 0, .int .i64 0, .int .u32 0, .slice none 0 0]) (t := 27) ?hr ?_; (case hd => rfl); (case hg => rfl); (case hr => first | (go_simp; done) | (go_simp; rfl)); intro gb158 hg w15 hbox hb; have n0_ := m_ (Kd.R_below (by (with_reducible repeat (first | apply Kd.R_alloc | apply Kd.R_drewN | apply Kd.R_drew)); exact HO157.out) hb); have n1_ := m_ (below_step (by repeat (first | (with_reducible first | exact HB.out | apply pa_ | apply pn_ | apply pd_) | exact HB.out)) hb); have n2_ := m_ (hbox); have n3_ := m_ ((by rw [hg]; exact (below_size (by repeat (first | (with_reducible first | exact HB.out | apply pa_ | apply pn_ | apply pd_) | exact HB.out))) : w.heap.size ≤ gb158)); have n4_ := m_ ((by rw [hg]; exact (below_size (by repeat (first | (with_reducible first | exact HB.out | apply pa_ | apply pn_ | apply pd_) | exact HB.out))) : w.heap.size ≤ gb158)); clear HO157; clear HB; have HO157 := n0_; have HB := n1_; have BK158 := n2_; have GW158 := n3_; have GE158 := n4_; clear n0_ n1_ n2_ n3_ n4_; clear hb hbox hg; have hcz16_0 : w15.cell? ⟨gb158, 0, none⟩ = some (.int .u32 0) := (bc_ BK158.out 0).trans rfl; have hcz16_1 : w15.cell? ⟨gb158, 1, none⟩ = some (.int .u32 0) := (bc_ BK158.out 1).trans rfl; have hcz16_2 : w15.cell? ⟨gb158, 2, none⟩ = some (.int .u32 0) := (bc_ BK158.out 2).trans rfl; have hcz16_3 : w15.cell? ⟨gb158, 3, none⟩ = some (.int .i64 0) := (bc_ BK158.out 3).trans rfl; have hcz16_4 : w15.cell? ⟨gb158, 4, none⟩ = some (.int .u32 0) := (bc_ BK158.out 4).trans rfl; have hcz16_5 : w15.cell? ⟨gb158, 5, none⟩ = some (.slice none 0 0) := (bc_ BK158.out 5).trans rfl; have hfz16_0 := bf_ BK158.out 0; have hfz16_1 := bf_ BK158.out 1; have hfz16_2 := bf_ BK158.out 2; have hfz16_3 := bf_ BK158.out 3; have hfz16_4 := bf_ BK158.out 4; have hfz16_5 := bf_ BK158.out 5) | ((with_reducible refine gate_store (t := 27) (p := 1) rfl ?_); refine store_event (t := 27) (p := 1) (v := ?vo_w17) (w1 := ((((((w15.setCell ⟨gb158, 0, none⟩ (.int .u32 167772161)).setCell ⟨gb158, 1, none⟩ (.int .u32 4009820675)).setCell ⟨gb158, 2, none⟩ (.int .u32 7)).setCell ⟨gb158, 3, none⟩ (.int .i64 (-1))).setCell ⟨gb158, 4, none⟩ (.int .u32 0)).setCell ⟨gb158, 5, none⟩ (.slice Ao14 y155.length co14))) ?hg ?ho ?hn ?hr ?_; (case ho => rfl); (case hg => rfl); (case hn => rfl); (case hr => first | (go_simp; done) | (go_simp; rfl)); intro w17 hw; have n0_ : Aside0 (Kd.R k53 53 w17 w.heap.size (fun _ => True) (.slice Ao14 y155.length co14) y155) := ⟨(by rw [hw]; exact (by (with_reducible repeat (first | apply Kd.R_alloc | apply Kd.R_drewN | apply Kd.R_drew)); exact Kd.R_mono (Kd.R_far (p := ⟨gb158, 5, none⟩) (Kd.R_far (p := ⟨gb158, 4, none⟩) (Kd.R_far (p := ⟨gb158, 3, none⟩) (Kd.R_far (p := ⟨gb158, 2, none⟩) (Kd.R_far (p := ⟨gb158, 1, none⟩) (Kd.R_far (p := ⟨gb158, 0, none⟩) (Kd.R_types HO157.out BK158.out (by decide)) (fun _ hk => hk.2) (.int .u32 167772161)) (fun _ hk => hk.2) (.int .u32 4009820675)) (fun _ hk => hk.2) (.int .u32 7)) (fun _ hk => hk.2) (.int .i64 (-1))) (fun _ hk => hk.2) (.int .u32 0)) (fun _ hk => hk.2) (.slice Ao14 y155.length co14)) (fun _ hk => trivial)))⟩; have n1_ : Aside0 (w17.heap[gb158]? = some (.cells #[.int .u32 167772161, .int .u32 4009820675, .int .u32 7, .int .i64 (-1), .int .u32 0, .slice Ao14 y155.length co14] 27 (0, 0))) := ⟨(by rw [hw]; exact (by (with_reducible repeat (first | refine bn_ ?_ _ | refine bd_ ?_ | refine ba_ ?_ _)); refine blk_put (cs := #[.int .u32 167772161, .int .u32 4009820675, .int .u32 7, .int .i64 (-1), .int .u32 0, .slice none 0 0]) ?_ 5 _ rfl; (with_reducible repeat (first | refine bn_ ?_ _ | refine bd_ ?_ | refine ba_ ?_ _)); refine blk_put (cs := #[.int .u32 167772161, .int .u32 4009820675, .int .u32 7, .int .i64 (-1), .int .u32 0, .slice none 0 0]) ?_ 4 _ rfl; (with_reducible repeat (first | refine bn_ ?_ _ | refine bd_ ?_ | refine ba_ ?_ _)); refine blk_put (cs := #[.int .u32 167772161, .int .u32 4009820675, .int .u32 7, .int .i64 0, .int .u32 0, .slice none 0 0]) ?_ 3 _ rfl; (with_reducible repeat (first | refine bn_ ?_ _ | refine bd_ ?_ | refine ba_ ?_ _)); refine blk_put (cs := #[.int .u32 167772161, .int .u32 4009820675, .int .u32 0, .int .i64 0, .int .u32 0, .slice none 0 0]) ?_ 2 _ rfl; (with_reducible repeat (first | refine bn_ ?_ _ | refine bd_ ?_ | refine ba_ ?_ _)); refine blk_put (cs := #[.int .u32 167772161, .int .u32 0, .int .u32 0, .int .i64 0, .int .u32 0, .slice none 0 0]) ?_ 1 _ rfl; (with_reducible repeat (first | refine bn_ ?_ _ | refine bd_ ?_ | refine ba_ ?_ _)); refine blk_put (cs := #[.int .u32 0, .int .u32 0, .int .u32 0, .int .i64 0, .int .u32 0, .slice none 0 0]) ?_ 0 _ rfl; (with_reducible repeat (first | refine bn_ ?_ _ | refine bd_ ?_ | refine ba_ ?_ _)); exact BK158.out))⟩; have n2_ : Aside0 (Below w.heap.size w w17) := ⟨(by rw [hw]; exact (by repeat (first | (with_reducible first | exact HB.out | apply pa_ | apply pn_ | apply pd_ | refine below_set ?_ GE158.out) | exact HB.out)))⟩; clear hw; clear HO157; clear BK158; clear HB; have HO157 := n0_; have BK158 := n1_; have HB := n2_; clear n0_ n1_ n2_; have hcz18_0 : w17.cell? ⟨gb158, 0, none⟩ = some (.int .u32 167772161) := (bc_ BK158.out 0).trans rfl; have hcz18_1 : w17.cell? ⟨gb158, 1, none⟩ = some (.int .u32 4009820675) := (bc_ BK158.out 1).trans rfl; have hcz18_2 : w17.cell? ⟨gb158, 2, none⟩ = some (.int .u32 7) := (bc_ BK158.out 2).trans rfl; have hcz18_3 : w17.cell? ⟨gb158, 3, none⟩ = some (.int .i64 (-1)) := (bc_ BK158.out 3).trans rfl; have hcz18_4 : w17.cell? ⟨gb158, 4, none⟩ = some (.int .u32 0) := (bc_ BK158.out 4).trans rfl; have hcz18_5 : w17.cell? ⟨gb158, 5, none⟩ = some (.slice Ao14 y155.length co14) := (bc_ BK158.out 5).trans rfl; have hfz18_0 := bf_ BK158.out 0; have hfz18_1 := bf_ BK158.out 1; have hfz18_2 := bf_ BK158.out 2; have hfz18_3 := bf_ BK158.out 3; have hfz18_4 := bf_ BK158.out 4; have hfz18_5 := bf_ BK158.out 5) | ((with_reducible refine gate_callee (f := 10) rfl ?_); refine goesL_ (some 11) rfl rfl Try.func10 (by kernel_rfl) rfl #[.slice none 0 0, .agg #[.int .u32 167772161, .int .u32 4009820675, .int .u32 7, .int .i64 (-1), .int .u32 0, .slice Ao14 y155.length co14], .int .i64 1] rfl (by (try simp only [List.map_toArray, List.map_cons, List.map_nil]); first | done | rfl | (simp only [List.length_drop, List.length_take]; rfl)) ?_; (refine (flow_Put.calls k (fun k_ => False) _ _ ([] : List (S27)) 167772161 4009820675 7 (-1) 0 (fun k_ => some k_ = (.slice Ao14 y155.length co14 : Value).ownBlock) _ _ y155 1 t159 t162 _ ?side1 ?side2 A1.out).mono ?_); (case side1 => exact Kd.V_nil _ _ _ _ _); (case side2 => exact Kd.R_V (Kd.R_tight rfl (Kd.R_types (HO157.out) BK158.out (by decide)))); rintro e w19 ⟨v160, rfl, ho0, hb⟩; refine ⟨_, rfl, ?_⟩; have n0_ := m_ (Kd.R_below (by (with_reducible repeat (first | apply Kd.R_alloc | apply Kd.R_drewN | apply Kd.R_drew)); exact HO157.out) hb); have n1_ := m_ (Kd.V_lower (Kd.V_mono (ok' := fun k_ => k_ ≠ gb158) ho0 (fun k_ hk_ => Or.elim hk_ (fun hs_ => Or.elim hs_ (fun hs_ => (hs_).elim) (fun hs_ => ((Kd.R_types (HO157.out) BK158.out (by decide)).1 k_ hs_.symm).2)) (fun hn_ => (Kd.freshB (g := gb158) (o := .cells #[.int .u32 167772161, .int .u32 4009820675, .int .u32 7, .int .i64 (-1), .int .u32 0, .slice Ao14 y155.length co14] 27 (0, 0)) (by (with_reducible repeat (first | refine bn_ ?_ _ | refine bd_ ?_ | refine ba_ ?_ _)); exact BK158.out) k_ hn_)))) (below_size (by repeat (first | (with_reducible first | exact HB.out | apply pa_ | apply pn_ | apply pd_ | refine below_set ?_ GE158.out) | exact HB.out)))); have n2_ := m_ (blk_below (g := gb158) (o := .cells #[.int .u32 167772161, .int .u32 4009820675, .int .u32 7, .int .i64 (-1), .int .u32 0, .slice Ao14 y155.length co14] 27 (0, 0)) (by (with_reducible repeat (first | refine bn_ ?_ _ | refine bd_ ?_ | refine ba_ ?_ _)); exact BK158.out) hb); have n3_ := m_ (below_step (by repeat (first | (with_reducible first | exact HB.out | apply pa_ | apply pn_ | apply pd_ | refine below_set ?_ GE158.out) | exact HB.out)) hb); clear HO157; clear BK158; clear HB; have HO157 := n0_; have HO161 := n1_; have BK158 := n2_; have HB := n3_; clear n0_ n1_ n2_ n3_; (try clear hb); (try clear hb2); (try clear hk); (try clear hi); (try clear ho0); obtain ⟨Ao20, co20, eo20⟩ := Kd.V_slice HO161.out; subst eo20) | ((with_reducible refine gate_callee (f := 15) rfl ?_); refine goesL_ (some 16) rfl rfl Try.func15 (by kernel_rfl) rfl #[.slice Ao20 t159.length co20, .int .i64 1, .agg #[.int .u32 167772161, .int .u32 4009820675, .int .u32 7, .int .i64 3]] rfl (by (try simp only [List.map_toArray, List.map_cons, List.map_nil]); first | done | rfl | (simp only [List.length_drop, List.length_take]; rfl)) ?_; (with_reducible refine (flow_Send.calls _ _ t159 1 167772161 4009820675 7 3 t163 _ ?side1 ?side2 A2.out).mono ?_); (case side1 => repeat (first | exact (Kd.V_reads' HO161.out).2.2 | (with_reducible refine Kd.C_alloc ?_ _) | (with_reducible refine Kd.C_drewN ?_ _) | (with_reducible refine Kd.C_drew ?_))); (case side2 => exact (Kd.V_reads' HO161.out).2.1); rintro e w21 ⟨v164, rfl, ho0, hb⟩; refine ⟨_, rfl, ?_⟩; have n0_ := m_ (Kd.R_below (by (with_reducible repeat (first | apply Kd.R_alloc | apply Kd.R_drewN | apply Kd.R_drew)); exact HO157.out) hb); have n1_ := m_ (Kd.V_elder' (by (with_reducible repeat (first | apply Kd.V_alloc | apply Kd.V_drewN | apply Kd.V_drew)); exact HO161.out) (Kd.R_base ho0) hb); have n2_ := m_ (Kd.R_lower ho0 (below_size (by repeat (first | (with_reducible first | exact HB.out | apply pa_ | apply pn_ | apply pd_ | refine below_set ?_ GE158.out) | exact HB.out)))); have n3_ := m_ (blk_below (g := gb158) (o := .cells #[.int .u32 167772161, .int .u32 4009820675, .int .u32 7, .int .i64 (-1), .int .u32 0, .slice Ao14 y155.length co14] 27 (0, 0)) (by (with_reducible repeat (first | refine bn_ ?_ _ | refine bd_ ?_ | refine ba_ ?_ _)); exact BK158.out) hb); have n4_ := m_ (below_step (by repeat (first | (with_reducible first | exact HB.out | apply pa_ | apply pn_ | apply pd_ | refine below_set ?_ GE158.out) | exact HB.out)) hb); clear HO157; clear HO161; clear BK158; clear HB; have HO157 := n0_; have HO161 := n1_; have HO165 := n2_; have BK158 := n3_; have HB := n4_; clear n0_ n1_ n2_ n3_ n4_; (try clear hb); (try clear hb2); (try clear hk); (try clear hi); (try clear ho0); have hcz22_0 : w21.cell? ⟨gb158, 0, none⟩ = some (.int .u32 167772161) := (bc_ BK158.out 0).trans rfl; have hcz22_1 : w21.cell? ⟨gb158, 1, none⟩ = some (.int .u32 4009820675) := (bc_ BK158.out 1).trans rfl; have hcz22_2 : w21.cell? ⟨gb158, 2, none⟩ = some (.int .u32 7) := (bc_ BK158.out 2).trans rfl; have hcz22_3 : w21.cell? ⟨gb158, 3, none⟩ = some (.int .i64 (-1)) := (bc_ BK158.out 3).trans rfl; have hcz22_4 : w21.cell? ⟨gb158, 4, none⟩ = some (.int .u32 0) := (bc_ BK158.out 4).trans rfl; have hcz22_5 : w21.cell? ⟨gb158, 5, none⟩ = some (.slice Ao14 y155.length co14) := (bc_ BK158.out 5).trans rfl; have hfz22_0 := bf_ BK158.out 0; have hfz22_1 := bf_ BK158.out 1; have hfz22_2 := bf_ BK158.out 2; have hfz22_3 := bf_ BK158.out 3; have hfz22_4 := bf_ BK158.out 4; have hfz22_5 := bf_ BK158.out 5) | (go_at_call 16; (with_reducible refine (flow_Right.calls k 167772161 4009820675 7 (-1) 0 _ _ y155 true _ ?side1 ?side2 A4.out).mono ?_); (case side1 => repeat (first | exact (Kd.R_reads' HO157.out).2.2 | (with_reducible refine Kd.C_alloc ?_ _) | (with_reducible refine Kd.C_drewN ?_ _) | (with_reducible refine Kd.C_drew ?_))); (case side2 => exact (Kd.R_reads' HO157.out).2.1); rintro e w23 ⟨rfl, hb⟩; have n0_ := m_ (Kd.R_below (by (with_reducible repeat (first | apply Kd.R_alloc | apply Kd.R_drewN | apply Kd.R_drew)); exact HO157.out) hb); have n1_ := m_ (Kd.V_below (by (with_reducible repeat (first | apply Kd.V_alloc | apply Kd.V_drewN | apply Kd.V_drew)); exact HO161.out) hb); have n2_ := m_ (Kd.R_below (by (with_reducible repeat (first | apply Kd.R_alloc | apply Kd.R_drewN | apply Kd.R_drew)); exact HO165.out) hb); have n3_ := m_ (blk_below (g := gb158) (o := .cells #[.int .u32 167772161, .int .u32 4009820675, .int .u32 7, .int .i64 (-1), .int .u32 0, .slice Ao14 y155.length co14] 27 (0, 0)) (by (with_reducible repeat (first | refine bn_ ?_ _ | refine bd_ ?_ | refine ba_ ?_ _)); exact BK158.out) hb); have n4_ := m_ (below_step (by repeat (first | (with_reducible first | exact HB.out | apply pa_ | apply pn_ | apply pd_ | refine below_set ?_ GE158.out) | exact HB.out)) hb); clear HO157; clear HO161; clear HO165; clear BK158; clear HB; have HO157 := n0_; have HO161 := n1_; have HO165 := n2_; have BK158 := n3_; have HB := n4_; clear n0_ n1_ n2_ n3_ n4_; (try clear hb); (try clear hb2); (try clear hk); (try clear hi)) | (go_at_call 18; (with_reducible refine (flow_Table.calls k _ _ t159 true _ ?side1 ?side2 A6.out).mono ?_); (case side1 => repeat (first | exact (Kd.V_reads' HO161.out).2.2 | (with_reducible refine Kd.C_alloc ?_ _) | (with_reducible refine Kd.C_drewN ?_ _) | (with_reducible refine Kd.C_drew ?_))); (case side2 => exact (Kd.V_reads' HO161.out).2.1); rintro e w24 ⟨rfl, hb⟩; have n0_ := m_ (Kd.R_below (by (with_reducible repeat (first | apply Kd.R_alloc | apply Kd.R_drewN | apply Kd.R_drew)); exact HO157.out) hb); have n1_ := m_ (Kd.V_below (by (with_reducible repeat (first | apply Kd.V_alloc | apply Kd.V_drewN | apply Kd.V_drew)); exact HO161.out) hb); have n2_ := m_ (Kd.R_below (by (with_reducible repeat (first | apply Kd.R_alloc | apply Kd.R_drewN | apply Kd.R_drew)); exact HO165.out) hb); have n3_ := m_ (blk_below (g := gb158) (o := .cells #[.int .u32 167772161, .int .u32 4009820675, .int .u32 7, .int .i64 (-1), .int .u32 0, .slice Ao14 y155.length co14] 27 (0, 0)) (by (with_reducible repeat (first | refine bn_ ?_ _ | refine bd_ ?_ | refine ba_ ?_ _)); exact BK158.out) hb); have n4_ := m_ (below_step (by repeat (first | (with_reducible first | exact HB.out | apply pa_ | apply pn_ | apply pd_ | refine below_set ?_ GE158.out) | exact HB.out)) hb); clear HO157; clear HO161; clear HO165; clear BK158; clear HB; have HO157 := n0_; have HO161 := n1_; have HO165 := n2_; have BK158 := n3_; have HB := n4_; clear n0_ n1_ n2_ n3_ n4_; (try clear hb); (try clear hb2); (try clear hk); (try clear hi); obtain ⟨Ao25, co25, eo25⟩ := Kd.R_slice HO165.out; subst eo25; have p168 : 0 ≤ (0 : Int) := (by omega); have q168 : 0 < (t163.length : Int) := of_decide_eq_true (by first | (with_reducible assumption) | assumption); obtain ⟨ad168, e168, hx168_0, hx168_1, hx168_2, hx168_3, hx168_4⟩ := at_T55 (Kd.R_reads' HO165.out).2.2 0 p168 q168; cases e168; have qi168 : (0 < t163.length) = True := eq_true (by omega); (try rw [show ((0 : Int)).toNat = 0 from rfl] at hx168_0); (try rw [show 0 * 5 = 0 from rfl] at hx168_0); (try rw [Addr.add_zero'] at hx168_0); (try rw [show ((0 : Int)).toNat = 0 from rfl] at hx168_1); (try rw [show 0 * 5 = 0 from rfl] at hx168_1); (try rw [Addr.add_zero'] at hx168_1); (try rw [show ((0 : Int)).toNat = 0 from rfl] at hx168_2); (try rw [show 0 * 5 = 0 from rfl] at hx168_2); (try rw [Addr.add_zero'] at hx168_2); (try rw [show ((0 : Int)).toNat = 0 from rfl] at hx168_3); (try rw [show 0 * 5 = 0 from rfl] at hx168_3); (try rw [Addr.add_zero'] at hx168_3); (try rw [show ((0 : Int)).toNat = 0 from rfl] at hx168_4); (try rw [show 0 * 5 = 0 from rfl] at hx168_4); (try rw [Addr.add_zero'] at hx168_4); replace p168 := eq_true p168; replace q168 := eq_true q168; have p169 : 0 ≤ (0 : Int) := (by omega); have q169 : 0 < (t163.length : Int) := of_decide_eq_true (by first | (with_reducible assumption) | assumption); obtain ⟨ad169, e169, hx169_0, hx169_1, hx169_2, hx169_3, hx169_4⟩ := at_T55 (Kd.R_reads' HO165.out).2.2 0 p169 q169; obtain rfl : ad168 = ad169 := (by injection e169); have qi169 : (0 < t163.length) = True := eq_true (by omega); (try rw [show ((0 : Int)).toNat = 0 from rfl] at hx169_0); (try rw [show 0 * 5 = 0 from rfl] at hx169_0); (try rw [Addr.add_zero'] at hx169_0); (try rw [show ((0 : Int)).toNat = 0 from rfl] at hx169_1); (try rw [show 0 * 5 = 0 from rfl] at hx169_1); (try rw [Addr.add_zero'] at hx169_1); (try rw [show ((0 : Int)).toNat = 0 from rfl] at hx169_2); (try rw [show 0 * 5 = 0 from rfl] at hx169_2); (try rw [Addr.add_zero'] at hx169_2); (try rw [show ((0 : Int)).toNat = 0 from rfl] at hx169_3); (try rw [show 0 * 5 = 0 from rfl] at hx169_3); (try rw [Addr.add_zero'] at hx169_3); (try rw [show ((0 : Int)).toNat = 0 from rfl] at hx169_4); (try rw [show 0 * 5 = 0 from rfl] at hx169_4); (try rw [Addr.add_zero'] at hx169_4); replace p169 := eq_true p169; replace q169 := eq_true q169; have p170 : 0 ≤ (0 : Int) := (by omega); have q170 : 0 < (t163.length : Int) := of_decide_eq_true (by first | (with_reducible assumption) | assumption); obtain ⟨ad170, e170, hx170_0, hx170_1, hx170_2, hx170_3, hx170_4⟩ := at_T55 (Kd.R_reads' HO165.out).2.2 0 p170 q170; obtain rfl : ad168 = ad170 := (by injection e170); have qi170 : (0 < t163.length) = True := eq_true (by omega); (try rw [show ((0 : Int)).toNat = 0 from rfl] at hx170_0); (try rw [show 0 * 5 = 0 from rfl] at hx170_0); (try rw [Addr.add_zero'] at hx170_0); (try rw [show ((0 : Int)).toNat = 0 from rfl] at hx170_1); (try rw [show 0 * 5 = 0 from rfl] at hx170_1); (try rw [Addr.add_zero'] at hx170_1); (try rw [show ((0 : Int)).toNat = 0 from rfl] at hx170_2); (try rw [show 0 * 5 = 0 from rfl] at hx170_2); (try rw [Addr.add_zero'] at hx170_2); (try rw [show ((0 : Int)).toNat = 0 from rfl] at hx170_3); (try rw [show 0 * 5 = 0 from rfl] at hx170_3); (try rw [Addr.add_zero'] at hx170_3); (try rw [show ((0 : Int)).toNat = 0 from rfl] at hx170_4); (try rw [show 0 * 5 = 0 from rfl] at hx170_4); (try rw [Addr.add_zero'] at hx170_4); replace p170 := eq_true p170; replace q170 := eq_true q170))
        go_ret
        exact ⟨by first | rfl | (simp [errW_none, errW_some] <;> rfl) | (simp [*, errW_none, errW_some] <;> rfl), by repeat (first | (with_reducible first | exact HB.out | apply pa_ | apply pn_ | apply pd_ | refine below_set ?_ GE158.out) | exact HB.out)⟩
       ·rw [if_neg c11] at H
        exact absurd H (by simp)
      ·rw [if_neg c10] at H
       exact absurd H (by simp)
     ·rw [if_neg c9] at H
      exact absurd H (by simp)
    ·rw [if_neg c8] at H
     exact absurd H (by simp)
   ·replace c7 := Bool.eq_false_iff.mpr c7
    subst c7
    have H1 : (none) = some r := by rw [if_neg (show ¬ (false = true) by decide)] at H; exact H
    clear H
    have H := H1
    clear H1
    exact absurd H (by simp)
  ·replace c5 := Bool.eq_false_iff.mpr c5
   subst c5
   have H1 : (none) = some r := by rw [if_neg (show ¬ (false = true) by decide)] at H; exact H
   clear H
   have H := H1
   clear H1
   exact absurd H (by simp)
 ·rw [if_neg c3] at H
  exact absurd H (by simp)

/-! ### stolonref15_Few: function 8 -/
def stolonref15_Few.l0 : Nat → List (S27) → Int → Int → Option (Bool)
 | 0, _, _, _ => none
 | k + 1, x0, x3, x4 => if x4 < (x0.length : Int) then (if x3 ≤ 2000 then (if 0 ≤ x4 then (stolonref15_Few.l0 k x0 (wrap64 (x3 + (((rd_T27 x0 x4).f5).length : Int))) (wrap64 (x4 + 1))) else (none)) else (some (decide (x3 ≤ 2000)))) else (some (decide (x3 ≤ 2000)))
def stolonref15_Few.f (k : Nat) (l0 : List (S27)) : Option (Bool) := stolonref15_Few.l0 k l0 (l0.length : Int) 0
theorem stolonref15_Few.mono_l : ∀ k, (∀ y0 y1 y2, LeO (stolonref15_Few.l0 k y0 y1 y2) (stolonref15_Few.l0 (k + 1) y0 y1 y2))
 | 0 => fun _ _ _ r h => by simp [stolonref15_Few.l0] at h
 | k + 1 => by
  have ih0 := stolonref15_Few.mono_l k
  ·intro y0 y1 y2
   unfold stolonref15_Few.l0
   repeat' first
   | (with_reducible exact ih0 _ _ _)
   | (with_reducible exact LeO.refl _)
   | (with_reducible exact LeO.none _)
   | (with_reducible refine LeO.ite ?_ ?_)
   | (with_reducible refine LeO.bind ?_ (fun _ => ?_))
   | exact ih0 _ _ _
   | exact LeO.none _
   | refine LeO.ite ?_ ?_
   | refine LeO.bind ?_ (fun _ => ?_)
theorem stolonref15_Few.mono : ∀ a0 k, LeO (stolonref15_Few.f k a0) (stolonref15_Few.f (k + 1) a0) := by
 intro a0 k
 have ih0 := stolonref15_Few.mono_l k
 unfold stolonref15_Few.f
 repeat' first
   | (with_reducible exact ih0 _ _ _)
   | (with_reducible exact LeO.refl _)
   | (with_reducible exact LeO.none _)
   | (with_reducible refine LeO.ite ?_ ?_)
   | (with_reducible refine LeO.bind ?_ (fun _ => ?_))
   | exact ih0 _ _ _
   | exact LeO.none _
   | refine LeO.ite ?_ ?_
   | refine LeO.bind ?_ (fun _ => ?_)
set_option maxHeartbeats 8000000 in
set_option maxRecDepth 100000 in
theorem stolonref15_Few.calls (k : Nat) (A0 : Option Addr) (c0 : Nat) (l0 : List (S27)) (r : Bool) (w : World) (hr0 : Kd.C k27 w A0 l0.length l0) (hc0 : l0.length ≤ c0) (h : stolonref15_Few.f k l0 = some r) :
  Calls Try.prog 8 #[.slice A0 l0.length c0] w fun e w' => e = .returned (.bool r) ∧ Drawn0 w w' := by
 have HR0 := m_ hr0
 have HC0 := m_ hc0
 clear hr0 hc0
 have H : (stolonref15_Few.l0 k l0 (l0.length : Int) 0) = some r := h
 clear h
 have H' := m_ H
 clear H
 go_enter Try.func8, Try.ntmps8
 go_wp2
 go_loopg [3, 4] k (fun kq v3 v4 w' => ∃ (x3_1 : Int) (x4_1 : Int), v3 = .int .i64 x3_1 ∧ v4 = .int .i64 x4_1 ∧ Aside0 (stolonref15_Few.l0 kq l0 x3_1 x4_1 = some r) ∧ Aside0 (kq ≤ k) ∧ Drawn0 w w')
 case atStart => exact ⟨((l0.length : Int)), (0), (by first | rfl | (simp; done) | (simp [*]; done)), (by first | rfl | (simp; done) | (simp [*]; done)), H', ⟨Nat.le_refl _⟩, by repeat (first | exact Drawn0.refl _ | apply Drawn0.step)⟩
 case round =>
  clear H'
  obtain ⟨x3_1, x4_1, rfl, rfl, HA, HK1, ⟨m1, rfl⟩⟩ := hrel
  cases gk with
  | zero => exact absurd HA.out (by simp [stolonref15_Few.l0])
  | succ k1 =>
   have H := HA.out
   clear HA
   simp only [stolonref15_Few.l0] at H
   by_cases c2 : x4_1 < (l0.length : Int)
   ·rw [if_pos c2] at H
    have c2b0 : decide (x4_1 < (l0.length : Int)) = true := decide_eq_true c2
    clear c2
    by_cases c3 : x3_1 ≤ 2000
    ·rw [if_pos c3] at H
     have c3b0 : decide (x3_1 ≤ 2000) = true := decide_eq_true c3
     clear c3
     by_cases c4 : 0 ≤ x4_1
     ·rw [if_pos c4] at H
      have c4b0 : decide (0 ≤ x4_1) = true := decide_eq_true c4
      clear c4
      have H' := m_ H
      clear H
      have p171 : 0 ≤ (x4_1 : Int) := of_decide_eq_true (by first | (with_reducible assumption) | assumption)
      have q171 : x4_1 < (l0.length : Int) := of_decide_eq_true (by first | (with_reducible assumption) | assumption)
      obtain ⟨ad171, A171_5, c171_5, e171, hx171_0, hx171_1, hx171_2, hx171_3, hx171_4, hx171_5, hl171_5, hi171_5⟩ := at_T27 HR0.out x4_1 p171 q171
      cases e171
      have HR171_5 := m_ hi171_5
      have HC171_5 := m_ hl171_5
      clear hi171_5 hl171_5
      replace p171 := eq_true p171
      replace q171 := eq_true q171
      go_wp2
      go_roundg k1
      case measure => have := HK1.out; omega
      case rel => exact ⟨(wrap64 (x3_1 + (((rd_T27 l0 x4_1).f5).length : Int))), (wrap64 (x4_1 + 1)), (by first | rfl | (simp; done) | (simp [*]; done)), (by first | rfl | (simp; done) | (simp [*]; done)), H', ⟨by have := HK1.out; omega⟩, by repeat (first | exact Drawn0.refl _ | apply Drawn0.step)⟩
     ·rw [if_neg c4] at H
      exact absurd H (by simp)
    ·rw [if_neg c3] at H
     have c3b0 : decide (x3_1 ≤ 2000) = false := decide_eq_false c3
     clear c3
     obtain rfl := Option.some.inj H
     go_wp2
     go_ret
     exact ⟨by first | rfl | (simp; done) | (simp [*]; done), by repeat (first | exact Drawn0.refl _ | apply Drawn0.step)⟩
   ·rw [if_neg c2] at H
    have c2b0 : decide (x4_1 < (l0.length : Int)) = false := decide_eq_false c2
    clear c2
    obtain rfl := Option.some.inj H
    go_wp2
    go_ret
    exact ⟨by first | rfl | (simp; done) | (simp [*]; done), by repeat (first | exact Drawn0.refl _ | apply Drawn0.step)⟩

/-! ### stolonref01_Asked: function 30 -/
def stolonref01_Asked.f (a0 : Int) : Option (Bool) := if a0 ≥ 3758096640 then (some (decide (a0 ≤ 4026531839))) else (some false)
set_option maxHeartbeats 8000000 in
set_option maxRecDepth 100000 in
theorem stolonref01_Asked.calls (a0 : Int) (r : Bool) (w : World) (h : stolonref01_Asked.f a0 = some r) :
  Calls Try.prog 30 #[.int .u32 a0] w fun e w' => e = .returned (.bool r) ∧ Drawn0 w w' := by
 have H : (if a0 ≥ 3758096640 then (some (decide (a0 ≤ 4026531839))) else (some false)) = some r := h
 clear h
 by_cases c2 : a0 ≥ 3758096640
 ·rw [if_pos c2] at H
  have c2b0 : decide (3758096640 ≤ a0) = true := decide_eq_true c2
  clear c2
  obtain rfl := Option.some.inj H
  go_enter Try.func30, Try.ntmps30
  go_wp2
  go_ret
  exact ⟨by first | rfl | (simp; done) | (simp [*]; done), by repeat (first | exact Drawn0.refl _ | apply Drawn0.step)⟩
 ·rw [if_neg c2] at H
  have c2b0 : decide (3758096640 ≤ a0) = false := decide_eq_false c2
  clear c2
  obtain rfl := Option.some.inj H
  go_enter Try.func30, Try.ntmps30
  go_wp2
  go_ret
  exact ⟨by first | rfl | (simp; done) | (simp [*]; done), by repeat (first | exact Drawn0.refl _ | apply Drawn0.step)⟩

end Go.Proofs.Yteibolilodgjnaa.P

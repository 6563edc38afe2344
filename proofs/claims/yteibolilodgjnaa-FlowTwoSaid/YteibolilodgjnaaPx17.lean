/- For each Go function a Lean function, and the proof that a call comes to what it tells: made by program out of the translation (the kit's print, with texts by hand put in). No condition. -/
import Derived.Test.YteibolilodgjnaaPx0
import Derived.Test.YteibolilodgjnaaPx7
import Derived.Test.YteibolilodgjnaaPx11
import Derived.Test.YteibolilodgjnaaPx14
import Derived.Test.YteibolilodgjnaaPx16
namespace Go.Proofs.Yteibolilodgjnaa.P
open Go.RowKit Go.Proofs.Yteibolilodgjnaa.HRows Go.Proofs.YteibolilodgjnaaW.PrintWords Go.Proofs.YteibolilodgjnaaW.PrintLast Go.Proofs.YteibolilodgjnaaW.PrintMore
attribute [local go_sem] max2_int min2_int max_two min_two max_three min_three max_four min_four   -- for this text's walks alone
set_option linter.unusedVariables false
set_option linter.unusedSimpArgs false

/-! ### stolonlaw15_FlowTwo: function 3 -/
def stolonlaw15_FlowTwo.j0 : Nat → List (S27) → Bool → Bool → Int → Int → Int → Int → Int → List (S53) → Int → Int → Int → Int → Int → List (S53) → Option (Bool)
  | 0, _, _, _, _, _, _, _, _, _, _, _, _, _, _, _ => none
  | k + 1, x0, x7, x57, x192000, x192001, x192002, x192003, x192004, x192005, x193000, x193001, x193002, x193003, x193004, x193005 => if x57 = true then (some x7) else ((flow_Put.f k x0 x192000 x192001 x192002 x192003 x192004 x192005 5000).bind fun bt196 => ((flow_Put.f k bt196.1 x193000 x193001 x193002 x193003 x193004 x193005 5000).bind fun bt200 => ((flow_Put.f k x0 x193000 x193001 x193002 x193003 x193004 x193005 5000).bind fun bt204 => ((flow_Put.f k bt204.1 x192000 x192001 x192002 x192003 x192004 x192005 5000).bind fun bt208 => ((flow_Put.f k bt196.1 x192000 x192001 x192002 x192003 x192004 x192005 (bt196.1.length : Int)).bind fun bt212 => (if x7 = true then (if bt196.2 = bt208.2 then (if bt200.2 = bt204.2 then ((stolonref15_Rows.f k bt200.1 bt208.1).bind fun t216 => (if t216 = true then ((stolonref15_Rows.f k bt212.1 bt196.1).bind fun t217 => (some t217)) else (some false))) else (some false)) else (some false)) else (some false)))))))
def stolonlaw15_FlowTwo.f (k : Nat) (l0 : List (S27)) (a1_0 : Int) (a1_1 : Int) (a1_2 : Int) (a1_3 : Int) (a1_4 : Int) (l1_5 : List (S53)) (a2_0 : Int) (a2_1 : Int) (a2_2 : Int) (a2_3 : Int) (a2_4 : Int) (l2_5 : List (S53)) : Option (Bool) := (stolonlaw15_shown.f k).bind fun t193 => ((stolonref15_Few.f k l0).bind fun t194 => (if t194 = true then ((stolonref15_Table.f k l0).bind fun t195 => (if t195 = true then (if (wrap64 ((l1_5.length : Int) + (l2_5.length : Int))) > 200 then (stolonlaw15_FlowTwo.j0 k l0 t193 true a1_0 a1_1 a1_2 a1_3 a1_4 l1_5 a2_0 a2_1 a2_2 a2_3 a2_4 l2_5) else (if a1_0 = a2_0 then (if a1_1 = a2_1 then (stolonlaw15_FlowTwo.j0 k l0 t193 (a1_2 == a2_2) a1_0 a1_1 a1_2 a1_3 a1_4 l1_5 a2_0 a2_1 a2_2 a2_3 a2_4 l2_5) else (stolonlaw15_FlowTwo.j0 k l0 t193 false a1_0 a1_1 a1_2 a1_3 a1_4 l1_5 a2_0 a2_1 a2_2 a2_3 a2_4 l2_5)) else (stolonlaw15_FlowTwo.j0 k l0 t193 false a1_0 a1_1 a1_2 a1_3 a1_4 l1_5 a2_0 a2_1 a2_2 a2_3 a2_4 l2_5))) else (stolonlaw15_FlowTwo.j0 k l0 t193 true a1_0 a1_1 a1_2 a1_3 a1_4 l1_5 a2_0 a2_1 a2_2 a2_3 a2_4 l2_5))) else (stolonlaw15_FlowTwo.j0 k l0 t193 true a1_0 a1_1 a1_2 a1_3 a1_4 l1_5 a2_0 a2_1 a2_2 a2_3 a2_4 l2_5)))
theorem stolonlaw15_FlowTwo.mono_l : ∀ k, (∀ y0 y1 y2 y3 y4 y5 y6 y7 y8 y9 y10 y11 y12 y13 y14, LeO (stolonlaw15_FlowTwo.j0 k y0 y1 y2 y3 y4 y5 y6 y7 y8 y9 y10 y11 y12 y13 y14) (stolonlaw15_FlowTwo.j0 (k + 1) y0 y1 y2 y3 y4 y5 y6 y7 y8 y9 y10 y11 y12 y13 y14))
  | 0 => fun _ _ _ _ _ _ _ _ _ _ _ _ _ _ _ r h => by simp [stolonlaw15_FlowTwo.j0] at h
  | k + 1 => by
    have ih0 := stolonlaw15_FlowTwo.mono_l k
    · intro y0 y1 y2 y3 y4 y5 y6 y7 y8 y9 y10 y11 y12 y13 y14
      unfold stolonlaw15_FlowTwo.j0
      repeat' first
      | (with_reducible exact ih0 _ _ _ _ _ _ _ _ _ _ _ _ _ _ _)
      | (with_reducible exact flow_Put.mono _ _ _ _ _ _ _ _ _)
      | (with_reducible exact stolonlaw15_shown.mono _)
      | (with_reducible exact stolonref15_Few.mono _ _)
      | (with_reducible exact stolonref15_Rows.mono _ _ _)
      | (with_reducible exact stolonref15_Table.mono _ _)
      | (with_reducible exact LeO.refl _)
      | (with_reducible exact LeO.none _)
      | (with_reducible refine LeO.ite ?_ ?_)
      | (with_reducible refine LeO.bind ?_ (fun _ => ?_))
      | exact ih0 _ _ _ _ _ _ _ _ _ _ _ _ _ _ _
      | exact flow_Put.mono _ _ _ _ _ _ _ _ _
      | exact stolonlaw15_shown.mono _
      | exact stolonref15_Few.mono _ _
      | exact stolonref15_Rows.mono _ _ _
      | exact stolonref15_Table.mono _ _
      | exact LeO.none _
      | refine LeO.ite ?_ ?_
      | refine LeO.bind ?_ (fun _ => ?_)
theorem stolonlaw15_FlowTwo.mono : ∀ a0 a1 a2 a3 a4 a5 a6 a7 a8 a9 a10 a11 a12 k, LeO (stolonlaw15_FlowTwo.f k a0 a1 a2 a3 a4 a5 a6 a7 a8 a9 a10 a11 a12) (stolonlaw15_FlowTwo.f (k + 1) a0 a1 a2 a3 a4 a5 a6 a7 a8 a9 a10 a11 a12) := by
  intro a0 a1 a2 a3 a4 a5 a6 a7 a8 a9 a10 a11 a12 k
  have ih0 := stolonlaw15_FlowTwo.mono_l k
  unfold stolonlaw15_FlowTwo.f
  repeat' first
      | (with_reducible exact ih0 _ _ _ _ _ _ _ _ _ _ _ _ _ _ _)
      | (with_reducible exact flow_Put.mono _ _ _ _ _ _ _ _ _)
      | (with_reducible exact stolonlaw15_shown.mono _)
      | (with_reducible exact stolonref15_Few.mono _ _)
      | (with_reducible exact stolonref15_Rows.mono _ _ _)
      | (with_reducible exact stolonref15_Table.mono _ _)
      | (with_reducible exact LeO.refl _)
      | (with_reducible exact LeO.none _)
      | (with_reducible refine LeO.ite ?_ ?_)
      | (with_reducible refine LeO.bind ?_ (fun _ => ?_))
      | exact ih0 _ _ _ _ _ _ _ _ _ _ _ _ _ _ _
      | exact flow_Put.mono _ _ _ _ _ _ _ _ _
      | exact stolonlaw15_shown.mono _
      | exact stolonref15_Few.mono _ _
      | exact stolonref15_Rows.mono _ _ _
      | exact stolonref15_Table.mono _ _
      | exact LeO.none _
      | refine LeO.ite ?_ ?_
      | refine LeO.bind ?_ (fun _ => ?_)
set_option maxHeartbeats 8000000 in
set_option maxRecDepth 100000 in
theorem stolonlaw15_FlowTwo.calls (k : Nat) (A0 : Option Addr) (c0 : Nat) (l0 : List (S27)) (a1_0 : Int) (a1_1 : Int) (a1_2 : Int) (a1_3 : Int) (a1_4 : Int) (A1_5 : Option Addr) (c1_5 : Nat) (l1_5 : List (S53)) (a2_0 : Int) (a2_1 : Int) (a2_2 : Int) (a2_3 : Int) (a2_4 : Int) (A2_5 : Option Addr) (c2_5 : Nat) (l2_5 : List (S53)) (r : Bool) (w : World) (hr0 : Kd.C k27 w A0 l0.length l0) (hc0 : l0.length ≤ c0) (hr1_5 : Kd.C k53 w A1_5 l1_5.length l1_5) (hc1_5 : l1_5.length ≤ c1_5) (hr2_5 : Kd.C k53 w A2_5 l2_5.length l2_5) (hc2_5 : l2_5.length ≤ c2_5) (hTrue : Aside0 (r = true)) (h : stolonlaw15_FlowTwo.f k l0 a1_0 a1_1 a1_2 a1_3 a1_4 l1_5 a2_0 a2_1 a2_2 a2_3 a2_4 l2_5 = some r) :
    Calls Try.prog 3 #[.slice A0 l0.length c0, .agg #[.int .u32 a1_0, .int .u32 a1_1, .int .u32 a1_2, .int .i64 a1_3, .int .u32 a1_4, .slice A1_5 l1_5.length c1_5], .agg #[.int .u32 a2_0, .int .u32 a2_1, .int .u32 a2_2, .int .i64 a2_3, .int .u32 a2_4, .slice A2_5 l2_5.length c2_5]] w fun e w' => e = .returned (.bool r) ∧ Below w.heap.size w w' := by
  have hu27 := Try.underlying27
  have HR0 := Aside0.mk hr0
  have HC0 := Aside0.mk hc0
  clear hr0 hc0
  have HR1_5 := Aside0.mk hr1_5
  have HC1_5 := Aside0.mk hc1_5
  clear hr1_5 hc1_5
  have HR2_5 := Aside0.mk hr2_5
  have HC2_5 := Aside0.mk hc2_5
  clear hr2_5 hc2_5
  have HB := Aside0.mk (Below.refl w.heap.size w)
  have H : ((stolonlaw15_shown.f k).bind fun t193 => ((stolonref15_Few.f k l0).bind fun t194 => (if t194 = true then ((stolonref15_Table.f k l0).bind fun t195 => (if t195 = true then (if (wrap64 ((l1_5.length : Int) + (l2_5.length : Int))) > 200 then (stolonlaw15_FlowTwo.j0 k l0 t193 true a1_0 a1_1 a1_2 a1_3 a1_4 l1_5 a2_0 a2_1 a2_2 a2_3 a2_4 l2_5) else (if a1_0 = a2_0 then (if a1_1 = a2_1 then (stolonlaw15_FlowTwo.j0 k l0 t193 (a1_2 == a2_2) a1_0 a1_1 a1_2 a1_3 a1_4 l1_5 a2_0 a2_1 a2_2 a2_3 a2_4 l2_5) else (stolonlaw15_FlowTwo.j0 k l0 t193 false a1_0 a1_1 a1_2 a1_3 a1_4 l1_5 a2_0 a2_1 a2_2 a2_3 a2_4 l2_5)) else (stolonlaw15_FlowTwo.j0 k l0 t193 false a1_0 a1_1 a1_2 a1_3 a1_4 l1_5 a2_0 a2_1 a2_2 a2_3 a2_4 l2_5))) else (stolonlaw15_FlowTwo.j0 k l0 t193 true a1_0 a1_1 a1_2 a1_3 a1_4 l1_5 a2_0 a2_1 a2_2 a2_3 a2_4 l2_5))) else (stolonlaw15_FlowTwo.j0 k l0 t193 true a1_0 a1_1 a1_2 a1_3 a1_4 l1_5 a2_0 a2_1 a2_2 a2_3 a2_4 l2_5)))) = some r := h
  clear h
  replace H := Option.bind_eq_some_iff.mp H
  obtain ⟨t193, A40, H⟩ := H
  replace H : ((stolonref15_Few.f k l0).bind fun t194 => (if t194 = true then ((stolonref15_Table.f k l0).bind fun t195 => (if t195 = true then (if (wrap64 ((l1_5.length : Int) + (l2_5.length : Int))) > 200 then (stolonlaw15_FlowTwo.j0 k l0 t193 true a1_0 a1_1 a1_2 a1_3 a1_4 l1_5 a2_0 a2_1 a2_2 a2_3 a2_4 l2_5) else (if a1_0 = a2_0 then (if a1_1 = a2_1 then (stolonlaw15_FlowTwo.j0 k l0 t193 (a1_2 == a2_2) a1_0 a1_1 a1_2 a1_3 a1_4 l1_5 a2_0 a2_1 a2_2 a2_3 a2_4 l2_5) else (stolonlaw15_FlowTwo.j0 k l0 t193 false a1_0 a1_1 a1_2 a1_3 a1_4 l1_5 a2_0 a2_1 a2_2 a2_3 a2_4 l2_5)) else (stolonlaw15_FlowTwo.j0 k l0 t193 false a1_0 a1_1 a1_2 a1_3 a1_4 l1_5 a2_0 a2_1 a2_2 a2_3 a2_4 l2_5))) else (stolonlaw15_FlowTwo.j0 k l0 t193 true a1_0 a1_1 a1_2 a1_3 a1_4 l1_5 a2_0 a2_1 a2_2 a2_3 a2_4 l2_5))) else (stolonlaw15_FlowTwo.j0 k l0 t193 true a1_0 a1_1 a1_2 a1_3 a1_4 l1_5 a2_0 a2_1 a2_2 a2_3 a2_4 l2_5))) = some r := H
  have A4 := Aside0.mk A40
  clear A40
  have HC5 := Aside0.mk H
  clear H
  go_enter Try.func3, Try.ntmps3
  go_upto_region 2 with (first | ((with_reducible refine gate_dst (N := 4) rfl ?_); (try (refine gate_guard (by rfl) ?_; dsimp only)); refine box_event ?hg (N := 4) ?hd (cs := #[.int .u32 a1_0, .int .u32 a1_1, .int .u32 a1_2, .int .i64 a1_3, .int .u32 a1_4, .slice A1_5 l1_5.length c1_5]) (t := 27) ?hr ?_; (case hd => rfl); (case hg => rfl); (case hr => first | (go_simp; done) | (go_simp; rfl)); intro gb191 hg w6 hbox hb; have n0_ := Aside0.mk (below_step (by repeat (first | (with_reducible first | exact HB.out | apply below_alloc | apply pw_below_drewN | apply below_drew1) | exact HB.out)) hb); have n1_ := Aside0.mk (hbox); have n2_ := Aside0.mk ((by rw [hg]; exact (below_size (by repeat (first | (with_reducible first | exact HB.out | apply below_alloc | apply pw_below_drewN | apply below_drew1) | exact HB.out))) : w.heap.size ≤ gb191)); have n3_ := Aside0.mk ((by rw [hg]; exact (below_size (by repeat (first | (with_reducible first | exact HB.out | apply below_alloc | apply pw_below_drewN | apply below_drew1) | exact HB.out))) : w.heap.size ≤ gb191)); clear HB; have HB := n0_; have BK191 := n1_; have GW191 := n2_; have GE191 := n3_; clear n0_ n1_ n2_ n3_; clear hb hbox hg) | ((with_reducible refine gate_dst (N := 5) rfl ?_); (try (refine gate_guard (by rfl) ?_; dsimp only)); refine box_event ?hg (N := 5) ?hd (cs := #[.int .u32 a2_0, .int .u32 a2_1, .int .u32 a2_2, .int .i64 a2_3, .int .u32 a2_4, .slice A2_5 l2_5.length c2_5]) (t := 27) ?hr ?_; (case hd => rfl); (case hg => rfl); (case hr => first | (go_simp; done) | (go_simp; rfl)); intro gb192 hg w7 hbox hb; have n0_ := Aside0.mk (blk_below (g := gb191) (o := .cells #[.int .u32 a1_0, .int .u32 a1_1, .int .u32 a1_2, .int .i64 a1_3, .int .u32 a1_4, .slice A1_5 l1_5.length c1_5] 27 (0, 0)) (by (with_reducible repeat (first | refine blk_drewN ?_ _ | refine blk_drew ?_ | refine blk_alloc ?_ _)); exact BK191.out) hb); have n1_ := Aside0.mk (below_step (by repeat (first | (with_reducible first | exact HB.out | apply below_alloc | apply pw_below_drewN | apply below_drew1 | refine below_set ?_ GE191.out) | exact HB.out)) hb); have n2_ := Aside0.mk (hbox); have n3_ := Aside0.mk ((by rw [hg]; exact (below_size (by repeat (first | (with_reducible first | exact HB.out | apply below_alloc | apply pw_below_drewN | apply below_drew1 | refine below_set ?_ GE191.out) | exact HB.out))) : w.heap.size ≤ gb192)); have n4_ := Aside0.mk ((by rw [hg]; exact (below_size (by repeat (first | (with_reducible first | exact HB.out | apply below_alloc | apply pw_below_drewN | apply below_drew1 | refine below_set ?_ GE191.out) | exact HB.out))) : w.heap.size ≤ gb192)); have n5_ := Aside0.mk ((by rw [hg]; exact Nat.ne_of_lt (blk_lt (g := gb191) (o := .cells #[.int .u32 a1_0, .int .u32 a1_1, .int .u32 a1_2, .int .i64 a1_3, .int .u32 a1_4, .slice A1_5 l1_5.length c1_5] 27 (0, 0)) (by (with_reducible repeat (first | refine blk_drewN ?_ _ | refine blk_drew ?_ | refine blk_alloc ?_ _)); exact BK191.out)) : gb191 ≠ gb192)); have n6_ := Aside0.mk ((by rw [hg]; exact Nat.ne_of_gt (blk_lt (g := gb191) (o := .cells #[.int .u32 a1_0, .int .u32 a1_1, .int .u32 a1_2, .int .i64 a1_3, .int .u32 a1_4, .slice A1_5 l1_5.length c1_5] 27 (0, 0)) (by (with_reducible repeat (first | refine blk_drewN ?_ _ | refine blk_drew ?_ | refine blk_alloc ?_ _)); exact BK191.out)) : gb192 ≠ gb191)); clear BK191; clear HB; have BK191 := n0_; have HB := n1_; have BK192 := n2_; have GW192 := n3_; have GE192 := n4_; have NB191_192 := n5_; have NB192_191 := n6_; clear n0_ n1_ n2_ n3_ n4_ n5_ n6_; clear hb hbox hg) | ((with_reducible refine gate_callee (f := 7) rfl ?_); refine goesL_ (some 18) rfl rfl Try.func7 (by kernel_rfl) rfl #[] rfl (by (try simp only [List.map_toArray, List.map_cons, List.map_nil]); first | done | rfl | (simp only [List.length_drop, List.length_take]; rfl)) ?_; (with_reducible refine (stolonlaw15_shown.calls k  t193 _ A4.out).mono ?_); rintro e w8 ⟨rfl, hb⟩; refine ⟨_, rfl, ?_⟩; have n0_ := Aside0.mk (blk_below (g := gb191) (o := .cells #[.int .u32 a1_0, .int .u32 a1_1, .int .u32 a1_2, .int .i64 a1_3, .int .u32 a1_4, .slice A1_5 l1_5.length c1_5] 27 (0, 0)) (by (with_reducible repeat (first | refine blk_drewN ?_ _ | refine blk_drew ?_ | refine blk_alloc ?_ _)); exact BK191.out) hb); have n1_ := Aside0.mk (blk_below (g := gb192) (o := .cells #[.int .u32 a2_0, .int .u32 a2_1, .int .u32 a2_2, .int .i64 a2_3, .int .u32 a2_4, .slice A2_5 l2_5.length c2_5] 27 (0, 0)) (by (with_reducible repeat (first | refine blk_drewN ?_ _ | refine blk_drew ?_ | refine blk_alloc ?_ _)); exact BK192.out) hb); have n2_ := Aside0.mk (below_step (by repeat (first | (with_reducible first | exact HB.out | apply below_alloc | apply pw_below_drewN | apply below_drew1 | refine below_set ?_ GE191.out | refine below_set ?_ GE192.out) | exact HB.out)) hb); clear BK191; clear BK192; clear HB; have BK191 := n0_; have BK192 := n1_; have HB := n2_; clear n0_ n1_ n2_; (try clear hb); (try clear hb2); (try clear hk); (try clear hi)))
  (try simp only [Act.put, List.setIfInBounds_toArray, List.set_cons_zero, List.set_cons_succ])
  go_cut [57] (fun v57 wc => ∃ (kq : Nat) (x57_4 : Bool), v57 = .bool x57_4 ∧ Aside0 (stolonlaw15_FlowTwo.j0 kq l0 t193 x57_4 a1_0 a1_1 a1_2 a1_3 a1_4 l1_5 a2_0 a2_1 a2_2 a2_3 a2_4 l2_5 = some r) ∧ Aside0 (kq ≤ k) ∧ Aside0 (wc.heap[gb191]? = some (.cells #[.int .u32 a1_0, .int .u32 a1_1, .int .u32 a1_2, .int .i64 a1_3, .int .u32 a1_4, (.slice A1_5 l1_5.length c1_5)] 27 (0, 0))) ∧ Aside0 (wc.heap[gb192]? = some (.cells #[.int .u32 a2_0, .int .u32 a2_1, .int .u32 a2_2, .int .i64 a2_3, .int .u32 a2_4, (.slice A2_5 l2_5.length c2_5)] 27 (0, 0))) ∧ Aside0 (Below w.heap.size w wc))
  case first =>
    have H := HC5.out
    clear HC5
    replace H := Option.bind_eq_some_iff.mp H
    obtain ⟨t194, A90, H⟩ := H
    replace H : (if t194 = true then ((stolonref15_Table.f k l0).bind fun t195 => (if t195 = true then (if (wrap64 ((l1_5.length : Int) + (l2_5.length : Int))) > 200 then (stolonlaw15_FlowTwo.j0 k l0 t193 true a1_0 a1_1 a1_2 a1_3 a1_4 l1_5 a2_0 a2_1 a2_2 a2_3 a2_4 l2_5) else (if a1_0 = a2_0 then (if a1_1 = a2_1 then (stolonlaw15_FlowTwo.j0 k l0 t193 (a1_2 == a2_2) a1_0 a1_1 a1_2 a1_3 a1_4 l1_5 a2_0 a2_1 a2_2 a2_3 a2_4 l2_5) else (stolonlaw15_FlowTwo.j0 k l0 t193 false a1_0 a1_1 a1_2 a1_3 a1_4 l1_5 a2_0 a2_1 a2_2 a2_3 a2_4 l2_5)) else (stolonlaw15_FlowTwo.j0 k l0 t193 false a1_0 a1_1 a1_2 a1_3 a1_4 l1_5 a2_0 a2_1 a2_2 a2_3 a2_4 l2_5))) else (stolonlaw15_FlowTwo.j0 k l0 t193 true a1_0 a1_1 a1_2 a1_3 a1_4 l1_5 a2_0 a2_1 a2_2 a2_3 a2_4 l2_5))) else (stolonlaw15_FlowTwo.j0 k l0 t193 true a1_0 a1_1 a1_2 a1_3 a1_4 l1_5 a2_0 a2_1 a2_2 a2_3 a2_4 l2_5)) = some r := H
    have A9 := Aside0.mk A90
    clear A90
    by_cases c10 : t194 = true
    · subst c10
      have H1 : ((stolonref15_Table.f k l0).bind fun t195 => (if t195 = true then (if (wrap64 ((l1_5.length : Int) + (l2_5.length : Int))) > 200 then (stolonlaw15_FlowTwo.j0 k l0 t193 true a1_0 a1_1 a1_2 a1_3 a1_4 l1_5 a2_0 a2_1 a2_2 a2_3 a2_4 l2_5) else (if a1_0 = a2_0 then (if a1_1 = a2_1 then (stolonlaw15_FlowTwo.j0 k l0 t193 (a1_2 == a2_2) a1_0 a1_1 a1_2 a1_3 a1_4 l1_5 a2_0 a2_1 a2_2 a2_3 a2_4 l2_5) else (stolonlaw15_FlowTwo.j0 k l0 t193 false a1_0 a1_1 a1_2 a1_3 a1_4 l1_5 a2_0 a2_1 a2_2 a2_3 a2_4 l2_5)) else (stolonlaw15_FlowTwo.j0 k l0 t193 false a1_0 a1_1 a1_2 a1_3 a1_4 l1_5 a2_0 a2_1 a2_2 a2_3 a2_4 l2_5))) else (stolonlaw15_FlowTwo.j0 k l0 t193 true a1_0 a1_1 a1_2 a1_3 a1_4 l1_5 a2_0 a2_1 a2_2 a2_3 a2_4 l2_5))) = some r := by rw [if_pos rfl] at H; exact H
      clear H
      have H := H1
      clear H1
      replace H := Option.bind_eq_some_iff.mp H
      obtain ⟨t195, A110, H⟩ := H
      replace H : (if t195 = true then (if (wrap64 ((l1_5.length : Int) + (l2_5.length : Int))) > 200 then (stolonlaw15_FlowTwo.j0 k l0 t193 true a1_0 a1_1 a1_2 a1_3 a1_4 l1_5 a2_0 a2_1 a2_2 a2_3 a2_4 l2_5) else (if a1_0 = a2_0 then (if a1_1 = a2_1 then (stolonlaw15_FlowTwo.j0 k l0 t193 (a1_2 == a2_2) a1_0 a1_1 a1_2 a1_3 a1_4 l1_5 a2_0 a2_1 a2_2 a2_3 a2_4 l2_5) else (stolonlaw15_FlowTwo.j0 k l0 t193 false a1_0 a1_1 a1_2 a1_3 a1_4 l1_5 a2_0 a2_1 a2_2 a2_3 a2_4 l2_5)) else (stolonlaw15_FlowTwo.j0 k l0 t193 false a1_0 a1_1 a1_2 a1_3 a1_4 l1_5 a2_0 a2_1 a2_2 a2_3 a2_4 l2_5))) else (stolonlaw15_FlowTwo.j0 k l0 t193 true a1_0 a1_1 a1_2 a1_3 a1_4 l1_5 a2_0 a2_1 a2_2 a2_3 a2_4 l2_5)) = some r := H
      have A11 := Aside0.mk A110
      clear A110
      by_cases c12 : t195 = true
      · subst c12
        have H1 : (if (wrap64 ((l1_5.length : Int) + (l2_5.length : Int))) > 200 then (stolonlaw15_FlowTwo.j0 k l0 t193 true a1_0 a1_1 a1_2 a1_3 a1_4 l1_5 a2_0 a2_1 a2_2 a2_3 a2_4 l2_5) else (if a1_0 = a2_0 then (if a1_1 = a2_1 then (stolonlaw15_FlowTwo.j0 k l0 t193 (a1_2 == a2_2) a1_0 a1_1 a1_2 a1_3 a1_4 l1_5 a2_0 a2_1 a2_2 a2_3 a2_4 l2_5) else (stolonlaw15_FlowTwo.j0 k l0 t193 false a1_0 a1_1 a1_2 a1_3 a1_4 l1_5 a2_0 a2_1 a2_2 a2_3 a2_4 l2_5)) else (stolonlaw15_FlowTwo.j0 k l0 t193 false a1_0 a1_1 a1_2 a1_3 a1_4 l1_5 a2_0 a2_1 a2_2 a2_3 a2_4 l2_5))) = some r := by rw [if_pos rfl] at H; exact H
        clear H
        have H := H1
        clear H1
        by_cases c13 : (wrap64 ((l1_5.length : Int) + (l2_5.length : Int))) > 200
        · rw [if_pos c13] at H
          have c13b0 : decide (200 < (wrap64 ((l1_5.length : Int) + (l2_5.length : Int)))) = true := decide_eq_true c13
          clear c13
          (first | rw [c13b0] | (simp only [i64_w, i32_w]; rw [c13b0]) | skip)
          have H' := Aside0.mk H
          clear H
          go_wp2_with (first | ((with_reducible refine gate_callee (f := 8) rfl ?_); refine goesL_ (some 20) rfl rfl Try.func8 (by kernel_rfl) rfl #[.slice A0 l0.length c0] rfl (by (try simp only [List.map_toArray, List.map_cons, List.map_nil]); first | done | rfl | (simp only [List.length_drop, List.length_take]; rfl)) ?_; (with_reducible refine (stolonref15_Few.calls k _ _ l0 true _ ?side1 ?side2 A9.out).mono ?_); (case side1 => repeat (first | exact (Kd.C_below HR0.out HB.out) | (with_reducible refine Kd.C_alloc ?_ _) | (with_reducible refine Kd.C_drewN ?_ _) | (with_reducible refine Kd.C_drew ?_))); (case side2 => exact HC0.out); rintro e w' ⟨rfl, ⟨nd, rfl⟩⟩; refine ⟨_, rfl, ?_⟩) | (go_at_call 9; (with_reducible refine (stolonref15_Table.calls k _ _ l0 true _ ?side1 ?side2 A11.out).mono ?_); (case side1 => repeat (first | exact (Kd.C_below HR0.out (by repeat (first | (with_reducible first | exact HB.out | apply below_alloc | apply pw_below_drewN | apply below_drew1 | refine below_set ?_ GE191.out | refine below_set ?_ GE192.out) | exact HB.out))) | (with_reducible refine Kd.C_alloc ?_ _) | (with_reducible refine Kd.C_drewN ?_ _) | (with_reducible refine Kd.C_drew ?_))); (case side2 => exact HC0.out); rintro e w14 ⟨rfl, hb⟩; have n0_ := Aside0.mk (blk_below (g := gb191) (o := .cells #[.int .u32 a1_0, .int .u32 a1_1, .int .u32 a1_2, .int .i64 a1_3, .int .u32 a1_4, .slice A1_5 l1_5.length c1_5] 27 (0, 0)) (by (with_reducible repeat (first | refine blk_drewN ?_ _ | refine blk_drew ?_ | refine blk_alloc ?_ _)); exact BK191.out) hb); have n1_ := Aside0.mk (blk_below (g := gb192) (o := .cells #[.int .u32 a2_0, .int .u32 a2_1, .int .u32 a2_2, .int .i64 a2_3, .int .u32 a2_4, .slice A2_5 l2_5.length c2_5] 27 (0, 0)) (by (with_reducible repeat (first | refine blk_drewN ?_ _ | refine blk_drew ?_ | refine blk_alloc ?_ _)); exact BK192.out) hb); have n2_ := Aside0.mk (below_step (by repeat (first | (with_reducible first | exact HB.out | apply below_alloc | apply pw_below_drewN | apply below_drew1 | refine below_set ?_ GE191.out | refine below_set ?_ GE192.out) | exact HB.out)) hb); clear BK191; clear BK192; clear HB; have BK191 := n0_; have BK192 := n1_; have HB := n2_; clear n0_ n1_ n2_; (try clear hb); (try clear hb2); (try clear hk); (try clear hi); have hnb15 := NB191_192.out; have hnc15 := NB192_191.out; have hcz16_0 : w14.cell? ⟨gb191, 0, none⟩ = some (.int .u32 a1_0) := (blk_cell BK191.out 0).trans rfl; have hcz16_1 : w14.cell? ⟨gb191, 1, none⟩ = some (.int .u32 a1_1) := (blk_cell BK191.out 1).trans rfl; have hcz16_2 : w14.cell? ⟨gb191, 2, none⟩ = some (.int .u32 a1_2) := (blk_cell BK191.out 2).trans rfl; have hcz16_3 : w14.cell? ⟨gb191, 3, none⟩ = some (.int .i64 a1_3) := (blk_cell BK191.out 3).trans rfl; have hcz16_4 : w14.cell? ⟨gb191, 4, none⟩ = some (.int .u32 a1_4) := (blk_cell BK191.out 4).trans rfl; have hcz16_5 : w14.cell? ⟨gb191, 5, none⟩ = some (.slice A1_5 l1_5.length c1_5) := (blk_cell BK191.out 5).trans rfl; have hfz16_0 := blk_frozen BK191.out 0; have hfz16_1 := blk_frozen BK191.out 1; have hfz16_2 := blk_frozen BK191.out 2; have hfz16_3 := blk_frozen BK191.out 3; have hfz16_4 := blk_frozen BK191.out 4; have hfz16_5 := blk_frozen BK191.out 5; have hcz17_0 : w14.cell? ⟨gb192, 0, none⟩ = some (.int .u32 a2_0) := (blk_cell BK192.out 0).trans rfl; have hcz17_1 : w14.cell? ⟨gb192, 1, none⟩ = some (.int .u32 a2_1) := (blk_cell BK192.out 1).trans rfl; have hcz17_2 : w14.cell? ⟨gb192, 2, none⟩ = some (.int .u32 a2_2) := (blk_cell BK192.out 2).trans rfl; have hcz17_3 : w14.cell? ⟨gb192, 3, none⟩ = some (.int .i64 a2_3) := (blk_cell BK192.out 3).trans rfl; have hcz17_4 : w14.cell? ⟨gb192, 4, none⟩ = some (.int .u32 a2_4) := (blk_cell BK192.out 4).trans rfl; have hcz17_5 : w14.cell? ⟨gb192, 5, none⟩ = some (.slice A2_5 l2_5.length c2_5) := (blk_cell BK192.out 5).trans rfl; have hfz17_0 := blk_frozen BK192.out 0; have hfz17_1 := blk_frozen BK192.out 1; have hfz17_2 := blk_frozen BK192.out 2; have hfz17_3 := blk_frozen BK192.out 3; have hfz17_4 := blk_frozen BK192.out 4; have hfz17_5 := blk_frozen BK192.out 5))
          go_meet
          case rel => exact ⟨_, (true), (by first | rfl | (simp; done) | (simp [*]; done)), H', ⟨by first | omega | exact Nat.le_refl _⟩, ⟨by (with_reducible repeat (first | refine blk_drewN ?_ _ | refine blk_drew ?_ | refine blk_alloc ?_ _)); exact BK191.out⟩, ⟨by (with_reducible repeat (first | refine blk_drewN ?_ _ | refine blk_drew ?_ | refine blk_alloc ?_ _)); exact BK192.out⟩, ⟨by repeat (first | (with_reducible first | exact HB.out | apply below_alloc | apply pw_below_drewN | apply below_drew1 | refine below_set ?_ GE191.out | refine below_set ?_ GE192.out) | exact HB.out)⟩⟩
        · rw [if_neg c13] at H
          have c13b0 : decide (200 < (wrap64 ((l1_5.length : Int) + (l2_5.length : Int)))) = false := decide_eq_false c13
          clear c13
          (first | rw [c13b0] | (simp only [i64_w, i32_w]; rw [c13b0]) | skip)
          by_cases c18 : a1_0 = a2_0
          · rw [if_pos c18] at H
            have c18b0 : (a1_0 == a2_0) = true := beq_iff_eq.mpr c18
            have c18b1 : (a1_0 != a2_0) = false := bne_eq_false_iff_eq.mpr c18
            clear c18
            by_cases c19 : a1_1 = a2_1
            · rw [if_pos c19] at H
              have c19b0 : (a1_1 == a2_1) = true := beq_iff_eq.mpr c19
              have c19b1 : (a1_1 != a2_1) = false := bne_eq_false_iff_eq.mpr c19
              clear c19
              have H' := Aside0.mk H
              clear H
              go_wp2_with (first | ((with_reducible refine gate_callee (f := 8) rfl ?_); refine goesL_ (some 20) rfl rfl Try.func8 (by kernel_rfl) rfl #[.slice A0 l0.length c0] rfl (by (try simp only [List.map_toArray, List.map_cons, List.map_nil]); first | done | rfl | (simp only [List.length_drop, List.length_take]; rfl)) ?_; (with_reducible refine (stolonref15_Few.calls k _ _ l0 true _ ?side1 ?side2 A9.out).mono ?_); (case side1 => repeat (first | exact (Kd.C_below HR0.out HB.out) | (with_reducible refine Kd.C_alloc ?_ _) | (with_reducible refine Kd.C_drewN ?_ _) | (with_reducible refine Kd.C_drew ?_))); (case side2 => exact HC0.out); rintro e w' ⟨rfl, ⟨nd, rfl⟩⟩; refine ⟨_, rfl, ?_⟩) | (go_at_call 9; (with_reducible refine (stolonref15_Table.calls k _ _ l0 true _ ?side1 ?side2 A11.out).mono ?_); (case side1 => repeat (first | exact (Kd.C_below HR0.out (by repeat (first | (with_reducible first | exact HB.out | apply below_alloc | apply pw_below_drewN | apply below_drew1 | refine below_set ?_ GE191.out | refine below_set ?_ GE192.out) | exact HB.out))) | (with_reducible refine Kd.C_alloc ?_ _) | (with_reducible refine Kd.C_drewN ?_ _) | (with_reducible refine Kd.C_drew ?_))); (case side2 => exact HC0.out); rintro e w20 ⟨rfl, hb⟩; have n0_ := Aside0.mk (blk_below (g := gb191) (o := .cells #[.int .u32 a1_0, .int .u32 a1_1, .int .u32 a1_2, .int .i64 a1_3, .int .u32 a1_4, .slice A1_5 l1_5.length c1_5] 27 (0, 0)) (by (with_reducible repeat (first | refine blk_drewN ?_ _ | refine blk_drew ?_ | refine blk_alloc ?_ _)); exact BK191.out) hb); have n1_ := Aside0.mk (blk_below (g := gb192) (o := .cells #[.int .u32 a2_0, .int .u32 a2_1, .int .u32 a2_2, .int .i64 a2_3, .int .u32 a2_4, .slice A2_5 l2_5.length c2_5] 27 (0, 0)) (by (with_reducible repeat (first | refine blk_drewN ?_ _ | refine blk_drew ?_ | refine blk_alloc ?_ _)); exact BK192.out) hb); have n2_ := Aside0.mk (below_step (by repeat (first | (with_reducible first | exact HB.out | apply below_alloc | apply pw_below_drewN | apply below_drew1 | refine below_set ?_ GE191.out | refine below_set ?_ GE192.out) | exact HB.out)) hb); clear BK191; clear BK192; clear HB; have BK191 := n0_; have BK192 := n1_; have HB := n2_; clear n0_ n1_ n2_; (try clear hb); (try clear hb2); (try clear hk); (try clear hi); have hnb21 := NB191_192.out; have hnc21 := NB192_191.out; have hcz22_0 : w20.cell? ⟨gb191, 0, none⟩ = some (.int .u32 a1_0) := (blk_cell BK191.out 0).trans rfl; have hcz22_1 : w20.cell? ⟨gb191, 1, none⟩ = some (.int .u32 a1_1) := (blk_cell BK191.out 1).trans rfl; have hcz22_2 : w20.cell? ⟨gb191, 2, none⟩ = some (.int .u32 a1_2) := (blk_cell BK191.out 2).trans rfl; have hcz22_3 : w20.cell? ⟨gb191, 3, none⟩ = some (.int .i64 a1_3) := (blk_cell BK191.out 3).trans rfl; have hcz22_4 : w20.cell? ⟨gb191, 4, none⟩ = some (.int .u32 a1_4) := (blk_cell BK191.out 4).trans rfl; have hcz22_5 : w20.cell? ⟨gb191, 5, none⟩ = some (.slice A1_5 l1_5.length c1_5) := (blk_cell BK191.out 5).trans rfl; have hfz22_0 := blk_frozen BK191.out 0; have hfz22_1 := blk_frozen BK191.out 1; have hfz22_2 := blk_frozen BK191.out 2; have hfz22_3 := blk_frozen BK191.out 3; have hfz22_4 := blk_frozen BK191.out 4; have hfz22_5 := blk_frozen BK191.out 5; have hcz23_0 : w20.cell? ⟨gb192, 0, none⟩ = some (.int .u32 a2_0) := (blk_cell BK192.out 0).trans rfl; have hcz23_1 : w20.cell? ⟨gb192, 1, none⟩ = some (.int .u32 a2_1) := (blk_cell BK192.out 1).trans rfl; have hcz23_2 : w20.cell? ⟨gb192, 2, none⟩ = some (.int .u32 a2_2) := (blk_cell BK192.out 2).trans rfl; have hcz23_3 : w20.cell? ⟨gb192, 3, none⟩ = some (.int .i64 a2_3) := (blk_cell BK192.out 3).trans rfl; have hcz23_4 : w20.cell? ⟨gb192, 4, none⟩ = some (.int .u32 a2_4) := (blk_cell BK192.out 4).trans rfl; have hcz23_5 : w20.cell? ⟨gb192, 5, none⟩ = some (.slice A2_5 l2_5.length c2_5) := (blk_cell BK192.out 5).trans rfl; have hfz23_0 := blk_frozen BK192.out 0; have hfz23_1 := blk_frozen BK192.out 1; have hfz23_2 := blk_frozen BK192.out 2; have hfz23_3 := blk_frozen BK192.out 3; have hfz23_4 := blk_frozen BK192.out 4; have hfz23_5 := blk_frozen BK192.out 5))
              go_meet
              case rel => exact ⟨_, ((a1_2 == a2_2)), (by first | rfl | (simp; done) | (simp [*]; done)), H', ⟨by first | omega | exact Nat.le_refl _⟩, ⟨by (with_reducible repeat (first | refine blk_drewN ?_ _ | refine blk_drew ?_ | refine blk_alloc ?_ _)); exact BK191.out⟩, ⟨by (with_reducible repeat (first | refine blk_drewN ?_ _ | refine blk_drew ?_ | refine blk_alloc ?_ _)); exact BK192.out⟩, ⟨by repeat (first | (with_reducible first | exact HB.out | apply below_alloc | apply pw_below_drewN | apply below_drew1 | refine below_set ?_ GE191.out | refine below_set ?_ GE192.out) | exact HB.out)⟩⟩
            · rw [if_neg c19] at H
              have c19b0 : (a1_1 == a2_1) = false := beq_eq_false_iff_ne.mpr c19
              have c19b1 : (a1_1 != a2_1) = true := bne_iff_ne.mpr c19
              have H' := Aside0.mk H
              clear H
              go_wp2_with (first | ((with_reducible refine gate_callee (f := 8) rfl ?_); refine goesL_ (some 20) rfl rfl Try.func8 (by kernel_rfl) rfl #[.slice A0 l0.length c0] rfl (by (try simp only [List.map_toArray, List.map_cons, List.map_nil]); first | done | rfl | (simp only [List.length_drop, List.length_take]; rfl)) ?_; (with_reducible refine (stolonref15_Few.calls k _ _ l0 true _ ?side1 ?side2 A9.out).mono ?_); (case side1 => repeat (first | exact (Kd.C_below HR0.out HB.out) | (with_reducible refine Kd.C_alloc ?_ _) | (with_reducible refine Kd.C_drewN ?_ _) | (with_reducible refine Kd.C_drew ?_))); (case side2 => exact HC0.out); rintro e w' ⟨rfl, ⟨nd, rfl⟩⟩; refine ⟨_, rfl, ?_⟩) | (go_at_call 9; (with_reducible refine (stolonref15_Table.calls k _ _ l0 true _ ?side1 ?side2 A11.out).mono ?_); (case side1 => repeat (first | exact (Kd.C_below HR0.out (by repeat (first | (with_reducible first | exact HB.out | apply below_alloc | apply pw_below_drewN | apply below_drew1 | refine below_set ?_ GE191.out | refine below_set ?_ GE192.out) | exact HB.out))) | (with_reducible refine Kd.C_alloc ?_ _) | (with_reducible refine Kd.C_drewN ?_ _) | (with_reducible refine Kd.C_drew ?_))); (case side2 => exact HC0.out); rintro e w24 ⟨rfl, hb⟩; have n0_ := Aside0.mk (blk_below (g := gb191) (o := .cells #[.int .u32 a1_0, .int .u32 a1_1, .int .u32 a1_2, .int .i64 a1_3, .int .u32 a1_4, .slice A1_5 l1_5.length c1_5] 27 (0, 0)) (by (with_reducible repeat (first | refine blk_drewN ?_ _ | refine blk_drew ?_ | refine blk_alloc ?_ _)); exact BK191.out) hb); have n1_ := Aside0.mk (blk_below (g := gb192) (o := .cells #[.int .u32 a2_0, .int .u32 a2_1, .int .u32 a2_2, .int .i64 a2_3, .int .u32 a2_4, .slice A2_5 l2_5.length c2_5] 27 (0, 0)) (by (with_reducible repeat (first | refine blk_drewN ?_ _ | refine blk_drew ?_ | refine blk_alloc ?_ _)); exact BK192.out) hb); have n2_ := Aside0.mk (below_step (by repeat (first | (with_reducible first | exact HB.out | apply below_alloc | apply pw_below_drewN | apply below_drew1 | refine below_set ?_ GE191.out | refine below_set ?_ GE192.out) | exact HB.out)) hb); clear BK191; clear BK192; clear HB; have BK191 := n0_; have BK192 := n1_; have HB := n2_; clear n0_ n1_ n2_; (try clear hb); (try clear hb2); (try clear hk); (try clear hi); have hnb25 := NB191_192.out; have hnc25 := NB192_191.out; have hcz26_0 : w24.cell? ⟨gb191, 0, none⟩ = some (.int .u32 a1_0) := (blk_cell BK191.out 0).trans rfl; have hcz26_1 : w24.cell? ⟨gb191, 1, none⟩ = some (.int .u32 a1_1) := (blk_cell BK191.out 1).trans rfl; have hcz26_2 : w24.cell? ⟨gb191, 2, none⟩ = some (.int .u32 a1_2) := (blk_cell BK191.out 2).trans rfl; have hcz26_3 : w24.cell? ⟨gb191, 3, none⟩ = some (.int .i64 a1_3) := (blk_cell BK191.out 3).trans rfl; have hcz26_4 : w24.cell? ⟨gb191, 4, none⟩ = some (.int .u32 a1_4) := (blk_cell BK191.out 4).trans rfl; have hcz26_5 : w24.cell? ⟨gb191, 5, none⟩ = some (.slice A1_5 l1_5.length c1_5) := (blk_cell BK191.out 5).trans rfl; have hfz26_0 := blk_frozen BK191.out 0; have hfz26_1 := blk_frozen BK191.out 1; have hfz26_2 := blk_frozen BK191.out 2; have hfz26_3 := blk_frozen BK191.out 3; have hfz26_4 := blk_frozen BK191.out 4; have hfz26_5 := blk_frozen BK191.out 5; have hcz27_0 : w24.cell? ⟨gb192, 0, none⟩ = some (.int .u32 a2_0) := (blk_cell BK192.out 0).trans rfl; have hcz27_1 : w24.cell? ⟨gb192, 1, none⟩ = some (.int .u32 a2_1) := (blk_cell BK192.out 1).trans rfl; have hcz27_2 : w24.cell? ⟨gb192, 2, none⟩ = some (.int .u32 a2_2) := (blk_cell BK192.out 2).trans rfl; have hcz27_3 : w24.cell? ⟨gb192, 3, none⟩ = some (.int .i64 a2_3) := (blk_cell BK192.out 3).trans rfl; have hcz27_4 : w24.cell? ⟨gb192, 4, none⟩ = some (.int .u32 a2_4) := (blk_cell BK192.out 4).trans rfl; have hcz27_5 : w24.cell? ⟨gb192, 5, none⟩ = some (.slice A2_5 l2_5.length c2_5) := (blk_cell BK192.out 5).trans rfl; have hfz27_0 := blk_frozen BK192.out 0; have hfz27_1 := blk_frozen BK192.out 1; have hfz27_2 := blk_frozen BK192.out 2; have hfz27_3 := blk_frozen BK192.out 3; have hfz27_4 := blk_frozen BK192.out 4; have hfz27_5 := blk_frozen BK192.out 5))
              go_meet
              case rel => exact ⟨_, (false), (by first | rfl | (simp; done) | (simp [*]; done)), H', ⟨by first | omega | exact Nat.le_refl _⟩, ⟨by (with_reducible repeat (first | refine blk_drewN ?_ _ | refine blk_drew ?_ | refine blk_alloc ?_ _)); exact BK191.out⟩, ⟨by (with_reducible repeat (first | refine blk_drewN ?_ _ | refine blk_drew ?_ | refine blk_alloc ?_ _)); exact BK192.out⟩, ⟨by repeat (first | (with_reducible first | exact HB.out | apply below_alloc | apply pw_below_drewN | apply below_drew1 | refine below_set ?_ GE191.out | refine below_set ?_ GE192.out) | exact HB.out)⟩⟩
          · rw [if_neg c18] at H
            have c18b0 : (a1_0 == a2_0) = false := beq_eq_false_iff_ne.mpr c18
            have c18b1 : (a1_0 != a2_0) = true := bne_iff_ne.mpr c18
            have H' := Aside0.mk H
            clear H
            go_wp2_with (first | ((with_reducible refine gate_callee (f := 8) rfl ?_); refine goesL_ (some 20) rfl rfl Try.func8 (by kernel_rfl) rfl #[.slice A0 l0.length c0] rfl (by (try simp only [List.map_toArray, List.map_cons, List.map_nil]); first | done | rfl | (simp only [List.length_drop, List.length_take]; rfl)) ?_; (with_reducible refine (stolonref15_Few.calls k _ _ l0 true _ ?side1 ?side2 A9.out).mono ?_); (case side1 => repeat (first | exact (Kd.C_below HR0.out HB.out) | (with_reducible refine Kd.C_alloc ?_ _) | (with_reducible refine Kd.C_drewN ?_ _) | (with_reducible refine Kd.C_drew ?_))); (case side2 => exact HC0.out); rintro e w' ⟨rfl, ⟨nd, rfl⟩⟩; refine ⟨_, rfl, ?_⟩) | (go_at_call 9; (with_reducible refine (stolonref15_Table.calls k _ _ l0 true _ ?side1 ?side2 A11.out).mono ?_); (case side1 => repeat (first | exact (Kd.C_below HR0.out (by repeat (first | (with_reducible first | exact HB.out | apply below_alloc | apply pw_below_drewN | apply below_drew1 | refine below_set ?_ GE191.out | refine below_set ?_ GE192.out) | exact HB.out))) | (with_reducible refine Kd.C_alloc ?_ _) | (with_reducible refine Kd.C_drewN ?_ _) | (with_reducible refine Kd.C_drew ?_))); (case side2 => exact HC0.out); rintro e w28 ⟨rfl, hb⟩; have n0_ := Aside0.mk (blk_below (g := gb191) (o := .cells #[.int .u32 a1_0, .int .u32 a1_1, .int .u32 a1_2, .int .i64 a1_3, .int .u32 a1_4, .slice A1_5 l1_5.length c1_5] 27 (0, 0)) (by (with_reducible repeat (first | refine blk_drewN ?_ _ | refine blk_drew ?_ | refine blk_alloc ?_ _)); exact BK191.out) hb); have n1_ := Aside0.mk (blk_below (g := gb192) (o := .cells #[.int .u32 a2_0, .int .u32 a2_1, .int .u32 a2_2, .int .i64 a2_3, .int .u32 a2_4, .slice A2_5 l2_5.length c2_5] 27 (0, 0)) (by (with_reducible repeat (first | refine blk_drewN ?_ _ | refine blk_drew ?_ | refine blk_alloc ?_ _)); exact BK192.out) hb); have n2_ := Aside0.mk (below_step (by repeat (first | (with_reducible first | exact HB.out | apply below_alloc | apply pw_below_drewN | apply below_drew1 | refine below_set ?_ GE191.out | refine below_set ?_ GE192.out) | exact HB.out)) hb); clear BK191; clear BK192; clear HB; have BK191 := n0_; have BK192 := n1_; have HB := n2_; clear n0_ n1_ n2_; (try clear hb); (try clear hb2); (try clear hk); (try clear hi); have hnb29 := NB191_192.out; have hnc29 := NB192_191.out; have hcz30_0 : w28.cell? ⟨gb191, 0, none⟩ = some (.int .u32 a1_0) := (blk_cell BK191.out 0).trans rfl; have hcz30_1 : w28.cell? ⟨gb191, 1, none⟩ = some (.int .u32 a1_1) := (blk_cell BK191.out 1).trans rfl; have hcz30_2 : w28.cell? ⟨gb191, 2, none⟩ = some (.int .u32 a1_2) := (blk_cell BK191.out 2).trans rfl; have hcz30_3 : w28.cell? ⟨gb191, 3, none⟩ = some (.int .i64 a1_3) := (blk_cell BK191.out 3).trans rfl; have hcz30_4 : w28.cell? ⟨gb191, 4, none⟩ = some (.int .u32 a1_4) := (blk_cell BK191.out 4).trans rfl; have hcz30_5 : w28.cell? ⟨gb191, 5, none⟩ = some (.slice A1_5 l1_5.length c1_5) := (blk_cell BK191.out 5).trans rfl; have hfz30_0 := blk_frozen BK191.out 0; have hfz30_1 := blk_frozen BK191.out 1; have hfz30_2 := blk_frozen BK191.out 2; have hfz30_3 := blk_frozen BK191.out 3; have hfz30_4 := blk_frozen BK191.out 4; have hfz30_5 := blk_frozen BK191.out 5; have hcz31_0 : w28.cell? ⟨gb192, 0, none⟩ = some (.int .u32 a2_0) := (blk_cell BK192.out 0).trans rfl; have hcz31_1 : w28.cell? ⟨gb192, 1, none⟩ = some (.int .u32 a2_1) := (blk_cell BK192.out 1).trans rfl; have hcz31_2 : w28.cell? ⟨gb192, 2, none⟩ = some (.int .u32 a2_2) := (blk_cell BK192.out 2).trans rfl; have hcz31_3 : w28.cell? ⟨gb192, 3, none⟩ = some (.int .i64 a2_3) := (blk_cell BK192.out 3).trans rfl; have hcz31_4 : w28.cell? ⟨gb192, 4, none⟩ = some (.int .u32 a2_4) := (blk_cell BK192.out 4).trans rfl; have hcz31_5 : w28.cell? ⟨gb192, 5, none⟩ = some (.slice A2_5 l2_5.length c2_5) := (blk_cell BK192.out 5).trans rfl; have hfz31_0 := blk_frozen BK192.out 0; have hfz31_1 := blk_frozen BK192.out 1; have hfz31_2 := blk_frozen BK192.out 2; have hfz31_3 := blk_frozen BK192.out 3; have hfz31_4 := blk_frozen BK192.out 4; have hfz31_5 := blk_frozen BK192.out 5))
            go_meet
            case rel => exact ⟨_, (false), (by first | rfl | (simp; done) | (simp [*]; done)), H', ⟨by first | omega | exact Nat.le_refl _⟩, ⟨by (with_reducible repeat (first | refine blk_drewN ?_ _ | refine blk_drew ?_ | refine blk_alloc ?_ _)); exact BK191.out⟩, ⟨by (with_reducible repeat (first | refine blk_drewN ?_ _ | refine blk_drew ?_ | refine blk_alloc ?_ _)); exact BK192.out⟩, ⟨by repeat (first | (with_reducible first | exact HB.out | apply below_alloc | apply pw_below_drewN | apply below_drew1 | refine below_set ?_ GE191.out | refine below_set ?_ GE192.out) | exact HB.out)⟩⟩
      · replace c12 := Bool.eq_false_iff.mpr c12
        subst c12
        have H1 : (stolonlaw15_FlowTwo.j0 k l0 t193 true a1_0 a1_1 a1_2 a1_3 a1_4 l1_5 a2_0 a2_1 a2_2 a2_3 a2_4 l2_5) = some r := by rw [if_neg (show ¬ (false = true) by decide)] at H; exact H
        clear H
        have H := H1
        clear H1
        have H' := Aside0.mk H
        clear H
        go_wp2_with (first | ((with_reducible refine gate_callee (f := 8) rfl ?_); refine goesL_ (some 20) rfl rfl Try.func8 (by kernel_rfl) rfl #[.slice A0 l0.length c0] rfl (by (try simp only [List.map_toArray, List.map_cons, List.map_nil]); first | done | rfl | (simp only [List.length_drop, List.length_take]; rfl)) ?_; (with_reducible refine (stolonref15_Few.calls k _ _ l0 true _ ?side1 ?side2 A9.out).mono ?_); (case side1 => repeat (first | exact (Kd.C_below HR0.out HB.out) | (with_reducible refine Kd.C_alloc ?_ _) | (with_reducible refine Kd.C_drewN ?_ _) | (with_reducible refine Kd.C_drew ?_))); (case side2 => exact HC0.out); rintro e w' ⟨rfl, ⟨nd, rfl⟩⟩; refine ⟨_, rfl, ?_⟩) | (go_at_call 9; (with_reducible refine (stolonref15_Table.calls k _ _ l0 false _ ?side1 ?side2 A11.out).mono ?_); (case side1 => repeat (first | exact (Kd.C_below HR0.out (by repeat (first | (with_reducible first | exact HB.out | apply below_alloc | apply pw_below_drewN | apply below_drew1 | refine below_set ?_ GE191.out | refine below_set ?_ GE192.out) | exact HB.out))) | (with_reducible refine Kd.C_alloc ?_ _) | (with_reducible refine Kd.C_drewN ?_ _) | (with_reducible refine Kd.C_drew ?_))); (case side2 => exact HC0.out); rintro e w32 ⟨rfl, hb⟩; have n0_ := Aside0.mk (blk_below (g := gb191) (o := .cells #[.int .u32 a1_0, .int .u32 a1_1, .int .u32 a1_2, .int .i64 a1_3, .int .u32 a1_4, .slice A1_5 l1_5.length c1_5] 27 (0, 0)) (by (with_reducible repeat (first | refine blk_drewN ?_ _ | refine blk_drew ?_ | refine blk_alloc ?_ _)); exact BK191.out) hb); have n1_ := Aside0.mk (blk_below (g := gb192) (o := .cells #[.int .u32 a2_0, .int .u32 a2_1, .int .u32 a2_2, .int .i64 a2_3, .int .u32 a2_4, .slice A2_5 l2_5.length c2_5] 27 (0, 0)) (by (with_reducible repeat (first | refine blk_drewN ?_ _ | refine blk_drew ?_ | refine blk_alloc ?_ _)); exact BK192.out) hb); have n2_ := Aside0.mk (below_step (by repeat (first | (with_reducible first | exact HB.out | apply below_alloc | apply pw_below_drewN | apply below_drew1 | refine below_set ?_ GE191.out | refine below_set ?_ GE192.out) | exact HB.out)) hb); clear BK191; clear BK192; clear HB; have BK191 := n0_; have BK192 := n1_; have HB := n2_; clear n0_ n1_ n2_; (try clear hb); (try clear hb2); (try clear hk); (try clear hi)))
        go_meet
        case rel => exact ⟨_, (true), (by first | rfl | (simp; done) | (simp [*]; done)), H', ⟨by first | omega | exact Nat.le_refl _⟩, ⟨by (with_reducible repeat (first | refine blk_drewN ?_ _ | refine blk_drew ?_ | refine blk_alloc ?_ _)); exact BK191.out⟩, ⟨by (with_reducible repeat (first | refine blk_drewN ?_ _ | refine blk_drew ?_ | refine blk_alloc ?_ _)); exact BK192.out⟩, ⟨by repeat (first | (with_reducible first | exact HB.out | apply below_alloc | apply pw_below_drewN | apply below_drew1 | refine below_set ?_ GE191.out | refine below_set ?_ GE192.out) | exact HB.out)⟩⟩
    · replace c10 := Bool.eq_false_iff.mpr c10
      subst c10
      have H1 : (stolonlaw15_FlowTwo.j0 k l0 t193 true a1_0 a1_1 a1_2 a1_3 a1_4 l1_5 a2_0 a2_1 a2_2 a2_3 a2_4 l2_5) = some r := by rw [if_neg (show ¬ (false = true) by decide)] at H; exact H
      clear H
      have H := H1
      clear H1
      have H' := Aside0.mk H
      clear H
      go_wp2_with (first | ((with_reducible refine gate_callee (f := 8) rfl ?_); refine goesL_ (some 20) rfl rfl Try.func8 (by kernel_rfl) rfl #[.slice A0 l0.length c0] rfl (by (try simp only [List.map_toArray, List.map_cons, List.map_nil]); first | done | rfl | (simp only [List.length_drop, List.length_take]; rfl)) ?_; (with_reducible refine (stolonref15_Few.calls k _ _ l0 false _ ?side1 ?side2 A9.out).mono ?_); (case side1 => repeat (first | exact (Kd.C_below HR0.out HB.out) | (with_reducible refine Kd.C_alloc ?_ _) | (with_reducible refine Kd.C_drewN ?_ _) | (with_reducible refine Kd.C_drew ?_))); (case side2 => exact HC0.out); rintro e w' ⟨rfl, ⟨nd, rfl⟩⟩; refine ⟨_, rfl, ?_⟩))
      go_meet
      case rel => exact ⟨_, (true), (by first | rfl | (simp; done) | (simp [*]; done)), H', ⟨by first | omega | exact Nat.le_refl _⟩, ⟨by (with_reducible repeat (first | refine blk_drewN ?_ _ | refine blk_drew ?_ | refine blk_alloc ?_ _)); exact BK191.out⟩, ⟨by (with_reducible repeat (first | refine blk_drewN ?_ _ | refine blk_drew ?_ | refine blk_alloc ?_ _)); exact BK192.out⟩, ⟨by repeat (first | (with_reducible first | exact HB.out | apply below_alloc | apply pw_below_drewN | apply below_drew1 | refine below_set ?_ GE191.out | refine below_set ?_ GE192.out) | exact HB.out)⟩⟩
  case rest =>
    clear HC5
    try clear c1
    try clear c2
    try clear p2
    try clear c3
    try clear p6
    try clear c7
    try clear c8
    try clear c10
    try clear c12
    try clear c13
    try clear c13b0
    try clear c15
    try clear c18
    try clear c18b0
    try clear c18b1
    try clear c19
    try clear c19b0
    try clear c19b1
    try clear c21
    try clear c25
    try clear c29
    try clear hcz16_0
    try clear hcz16_1
    try clear hcz16_2
    try clear hcz16_3
    try clear hcz16_4
    try clear hcz16_5
    try clear hcz17_0
    try clear hcz17_1
    try clear hcz17_2
    try clear hcz17_3
    try clear hcz17_4
    try clear hcz17_5
    try clear hcz22_0
    try clear hcz22_1
    try clear hcz22_2
    try clear hcz22_3
    try clear hcz22_4
    try clear hcz22_5
    try clear hcz23_0
    try clear hcz23_1
    try clear hcz23_2
    try clear hcz23_3
    try clear hcz23_4
    try clear hcz23_5
    try clear hcz26_0
    try clear hcz26_1
    try clear hcz26_2
    try clear hcz26_3
    try clear hcz26_4
    try clear hcz26_5
    try clear hcz27_0
    try clear hcz27_1
    try clear hcz27_2
    try clear hcz27_3
    try clear hcz27_4
    try clear hcz27_5
    try clear hcz30_0
    try clear hcz30_1
    try clear hcz30_2
    try clear hcz30_3
    try clear hcz30_4
    try clear hcz30_5
    try clear hcz31_0
    try clear hcz31_1
    try clear hcz31_2
    try clear hcz31_3
    try clear hcz31_4
    try clear hcz31_5
    try clear hfz16_0
    try clear hfz16_1
    try clear hfz16_2
    try clear hfz16_3
    try clear hfz16_4
    try clear hfz16_5
    try clear hfz17_0
    try clear hfz17_1
    try clear hfz17_2
    try clear hfz17_3
    try clear hfz17_4
    try clear hfz17_5
    try clear hfz22_0
    try clear hfz22_1
    try clear hfz22_2
    try clear hfz22_3
    try clear hfz22_4
    try clear hfz22_5
    try clear hfz23_0
    try clear hfz23_1
    try clear hfz23_2
    try clear hfz23_3
    try clear hfz23_4
    try clear hfz23_5
    try clear hfz26_0
    try clear hfz26_1
    try clear hfz26_2
    try clear hfz26_3
    try clear hfz26_4
    try clear hfz26_5
    try clear hfz27_0
    try clear hfz27_1
    try clear hfz27_2
    try clear hfz27_3
    try clear hfz27_4
    try clear hfz27_5
    try clear hfz30_0
    try clear hfz30_1
    try clear hfz30_2
    try clear hfz30_3
    try clear hfz30_4
    try clear hfz30_5
    try clear hfz31_0
    try clear hfz31_1
    try clear hfz31_2
    try clear hfz31_3
    try clear hfz31_4
    try clear hfz31_5
    obtain ⟨kq, x57_4, rfl, HA, HJ4, BK191, BK192, HB⟩ := hcut
    cases kq with
    | zero => exact absurd HA.out (by simp [stolonlaw15_FlowTwo.j0])
    | succ kj4 =>
      have H := HA.out
      clear HA
      simp only [stolonlaw15_FlowTwo.j0] at H
      by_cases c33 : x57_4 = true
      · subst c33
        have H1 : (some t193) = some r := by rw [if_pos rfl] at H; exact H
        clear H
        have H := H1
        clear H1
        obtain rfl := Option.some.inj H
        go_wp2
        go_ret
        exact ⟨by first | rfl | (simp [errW_none, errW_some] <;> rfl) | (simp [*, errW_none, errW_some] <;> rfl), by repeat (first | (with_reducible first | exact HB.out | apply below_alloc | apply pw_below_drewN | apply below_drew1 | refine below_set ?_ GE191.out | refine below_set ?_ GE192.out) | exact HB.out)⟩
      · replace c33 := Bool.eq_false_iff.mpr c33
        subst c33
        have H1 : ((flow_Put.f kj4 l0 a1_0 a1_1 a1_2 a1_3 a1_4 l1_5 5000).bind fun bt196 => ((flow_Put.f kj4 bt196.1 a2_0 a2_1 a2_2 a2_3 a2_4 l2_5 5000).bind fun bt200 => ((flow_Put.f kj4 l0 a2_0 a2_1 a2_2 a2_3 a2_4 l2_5 5000).bind fun bt204 => ((flow_Put.f kj4 bt204.1 a1_0 a1_1 a1_2 a1_3 a1_4 l1_5 5000).bind fun bt208 => ((flow_Put.f kj4 bt196.1 a1_0 a1_1 a1_2 a1_3 a1_4 l1_5 (bt196.1.length : Int)).bind fun bt212 => (if t193 = true then (if bt196.2 = bt208.2 then (if bt200.2 = bt204.2 then ((stolonref15_Rows.f kj4 bt200.1 bt208.1).bind fun t216 => (if t216 = true then ((stolonref15_Rows.f kj4 bt212.1 bt196.1).bind fun t217 => (some t217)) else (some false))) else (some false)) else (some false)) else (some false))))))) = some r := by rw [if_neg (show ¬ (false = true) by decide)] at H; exact H
        clear H
        have H := H1
        clear H1
        replace H := Option.bind_eq_some_iff.mp H
        obtain ⟨⟨t196, t199⟩, A340, H⟩ := H
        replace H : ((flow_Put.f kj4 t196 a2_0 a2_1 a2_2 a2_3 a2_4 l2_5 5000).bind fun bt200 => ((flow_Put.f kj4 l0 a2_0 a2_1 a2_2 a2_3 a2_4 l2_5 5000).bind fun bt204 => ((flow_Put.f kj4 bt204.1 a1_0 a1_1 a1_2 a1_3 a1_4 l1_5 5000).bind fun bt208 => ((flow_Put.f kj4 t196 a1_0 a1_1 a1_2 a1_3 a1_4 l1_5 (t196.length : Int)).bind fun bt212 => (if t193 = true then (if t199 = bt208.2 then (if bt200.2 = bt204.2 then ((stolonref15_Rows.f kj4 bt200.1 bt208.1).bind fun t216 => (if t216 = true then ((stolonref15_Rows.f kj4 bt212.1 t196).bind fun t217 => (some t217)) else (some false))) else (some false)) else (some false)) else (some false)))))) = some r := H
        have A34 := Aside0.mk A340
        clear A340
        replace H := Option.bind_eq_some_iff.mp H
        obtain ⟨⟨t200, t203⟩, A350, H⟩ := H
        replace H : ((flow_Put.f kj4 l0 a2_0 a2_1 a2_2 a2_3 a2_4 l2_5 5000).bind fun bt204 => ((flow_Put.f kj4 bt204.1 a1_0 a1_1 a1_2 a1_3 a1_4 l1_5 5000).bind fun bt208 => ((flow_Put.f kj4 t196 a1_0 a1_1 a1_2 a1_3 a1_4 l1_5 (t196.length : Int)).bind fun bt212 => (if t193 = true then (if t199 = bt208.2 then (if t203 = bt204.2 then ((stolonref15_Rows.f kj4 t200 bt208.1).bind fun t216 => (if t216 = true then ((stolonref15_Rows.f kj4 bt212.1 t196).bind fun t217 => (some t217)) else (some false))) else (some false)) else (some false)) else (some false))))) = some r := H
        have A35 := Aside0.mk A350
        clear A350
        replace H := Option.bind_eq_some_iff.mp H
        obtain ⟨⟨t204, t207⟩, A360, H⟩ := H
        replace H : ((flow_Put.f kj4 t204 a1_0 a1_1 a1_2 a1_3 a1_4 l1_5 5000).bind fun bt208 => ((flow_Put.f kj4 t196 a1_0 a1_1 a1_2 a1_3 a1_4 l1_5 (t196.length : Int)).bind fun bt212 => (if t193 = true then (if t199 = bt208.2 then (if t203 = t207 then ((stolonref15_Rows.f kj4 t200 bt208.1).bind fun t216 => (if t216 = true then ((stolonref15_Rows.f kj4 bt212.1 t196).bind fun t217 => (some t217)) else (some false))) else (some false)) else (some false)) else (some false)))) = some r := H
        have A36 := Aside0.mk A360
        clear A360
        replace H := Option.bind_eq_some_iff.mp H
        obtain ⟨⟨t208, t211⟩, A370, H⟩ := H
        replace H : ((flow_Put.f kj4 t196 a1_0 a1_1 a1_2 a1_3 a1_4 l1_5 (t196.length : Int)).bind fun bt212 => (if t193 = true then (if t199 = t211 then (if t203 = t207 then ((stolonref15_Rows.f kj4 t200 t208).bind fun t216 => (if t216 = true then ((stolonref15_Rows.f kj4 bt212.1 t196).bind fun t217 => (some t217)) else (some false))) else (some false)) else (some false)) else (some false))) = some r := H
        have A37 := Aside0.mk A370
        clear A370
        replace H := Option.bind_eq_some_iff.mp H
        obtain ⟨⟨t212, t215⟩, A380, H⟩ := H
        replace H : (if t193 = true then (if t199 = t211 then (if t203 = t207 then ((stolonref15_Rows.f kj4 t200 t208).bind fun t216 => (if t216 = true then ((stolonref15_Rows.f kj4 t212 t196).bind fun t217 => (some t217)) else (some false))) else (some false)) else (some false)) else (some false)) = some r := H
        have A38 := Aside0.mk A380
        clear A380
        by_cases c39 : t193 = true
        · subst c39
          have H1 : (if t199 = t211 then (if t203 = t207 then ((stolonref15_Rows.f kj4 t200 t208).bind fun t216 => (if t216 = true then ((stolonref15_Rows.f kj4 t212 t196).bind fun t217 => (some t217)) else (some false))) else (some false)) else (some false)) = some r := by rw [if_pos rfl] at H; exact H
          clear H
          have H := H1
          clear H1
          by_cases c40 : t199 = t211
          · rw [if_pos c40] at H
            have c40b0 : (t199 == t211) = true := beq_iff_eq.mpr c40
            have c40b1 : (t199 != t211) = false := bne_eq_false_iff_eq.mpr c40
            clear c40
            by_cases c41 : t203 = t207
            · rw [if_pos c41] at H
              have c41b0 : (t203 == t207) = true := beq_iff_eq.mpr c41
              have c41b1 : (t203 != t207) = false := bne_eq_false_iff_eq.mpr c41
              clear c41
              replace H := Option.bind_eq_some_iff.mp H
              obtain ⟨t216, A420, H⟩ := H
              replace H : (if t216 = true then ((stolonref15_Rows.f kj4 t212 t196).bind fun t217 => (some t217)) else (some false)) = some r := H
              have A42 := Aside0.mk A420
              clear A420
              by_cases c43 : t216 = true
              · subst c43
                have H1 : ((stolonref15_Rows.f kj4 t212 t196).bind fun t217 => (some t217)) = some r := by rw [if_pos rfl] at H; exact H
                clear H
                have H := H1
                clear H1
                replace H := Option.bind_eq_some_iff.mp H
                obtain ⟨t217, A440, H⟩ := H
                replace H : (some t217) = some r := H
                have A44 := Aside0.mk A440
                clear A440
                obtain rfl := Option.some.inj H
                have hnb45 := NB191_192.out
                have hnc45 := NB192_191.out
                have hcz46_0 : wc.cell? ⟨gb191, 0, none⟩ = some (.int .u32 a1_0) := (blk_cell BK191.out 0).trans rfl
                have hcz46_1 : wc.cell? ⟨gb191, 1, none⟩ = some (.int .u32 a1_1) := (blk_cell BK191.out 1).trans rfl
                have hcz46_2 : wc.cell? ⟨gb191, 2, none⟩ = some (.int .u32 a1_2) := (blk_cell BK191.out 2).trans rfl
                have hcz46_3 : wc.cell? ⟨gb191, 3, none⟩ = some (.int .i64 a1_3) := (blk_cell BK191.out 3).trans rfl
                have hcz46_4 : wc.cell? ⟨gb191, 4, none⟩ = some (.int .u32 a1_4) := (blk_cell BK191.out 4).trans rfl
                have hcz46_5 : wc.cell? ⟨gb191, 5, none⟩ = some (.slice A1_5 l1_5.length c1_5) := (blk_cell BK191.out 5).trans rfl
                have hfz46_0 := blk_frozen BK191.out 0
                have hfz46_1 := blk_frozen BK191.out 1
                have hfz46_2 := blk_frozen BK191.out 2
                have hfz46_3 := blk_frozen BK191.out 3
                have hfz46_4 := blk_frozen BK191.out 4
                have hfz46_5 := blk_frozen BK191.out 5
                go_wp2_with (first | ((with_reducible refine gate_callee (f := 10) rfl ?_); refine goesL_ (some 62) rfl rfl Try.func10 (by kernel_rfl) rfl #[.slice A0 l0.length c0, .agg #[.int .u32 a1_0, .int .u32 a1_1, .int .u32 a1_2, .int .i64 a1_3, .int .u32 a1_4, .slice A1_5 l1_5.length c1_5], .int .i64 5000] rfl (by (try simp only [List.map_toArray, List.map_cons, List.map_nil]); first | done | rfl | (simp only [List.length_drop, List.length_take]; rfl)) ?_; (with_reducible refine (flow_Put.calls kj4 (fun k_ => k_ < w.heap.size) _ _ l0 a1_0 a1_1 a1_2 a1_3 a1_4 (fun k_ => k_ < w.heap.size) _ _ l1_5 5000 t196 t199 _ ?side1 ?side2 A34.out).mono ?_); (case side1 => exact Kd.V_mk HC0.out (Kd.F_below (Kd.C_F k27_heap HR0.out) (by repeat (first | (with_reducible first | exact HB.out | apply below_alloc | apply pw_below_drewN | apply below_drew1 | refine below_set ?_ GE191.out | refine below_set ?_ GE192.out) | exact HB.out)))); (case side2 => exact Kd.V_mk HC1_5.out (Kd.F_below (Kd.C_F k53_heap HR1_5.out) (by repeat (first | (with_reducible first | exact HB.out | apply below_alloc | apply pw_below_drewN | apply below_drew1 | refine below_set ?_ GE191.out | refine below_set ?_ GE192.out) | exact HB.out)))); rintro e w47 ⟨v197, rfl, ho0, hb⟩; refine ⟨_, rfl, ?_⟩; have n0_ := Aside0.mk (Kd.V_lower (Kd.V_mono (ok' := fun k_ => k_ ≠ gb191 ∧ k_ ≠ gb192) ho0 (fun k_ hk_ => ⟨Or.elim hk_ (fun hs_ => Or.elim hs_ (fun hs_ => fun e_ => Nat.not_le.2 hs_ (by rw [e_]; exact GW191.out)) (fun hs_ => fun e_ => Nat.not_le.2 hs_ (by rw [e_]; exact GW191.out))) (fun hn_ => (Kd.freshB (g := gb191) (o := .cells #[.int .u32 a1_0, .int .u32 a1_1, .int .u32 a1_2, .int .i64 a1_3, .int .u32 a1_4, .slice A1_5 l1_5.length c1_5] 27 (0, 0)) (by (with_reducible repeat (first | refine blk_drewN ?_ _ | refine blk_drew ?_ | refine blk_alloc ?_ _)); exact BK191.out) k_ hn_)), Or.elim hk_ (fun hs_ => Or.elim hs_ (fun hs_ => fun e_ => Nat.not_le.2 hs_ (by rw [e_]; exact GW192.out)) (fun hs_ => fun e_ => Nat.not_le.2 hs_ (by rw [e_]; exact GW192.out))) (fun hn_ => (Kd.freshB (g := gb192) (o := .cells #[.int .u32 a2_0, .int .u32 a2_1, .int .u32 a2_2, .int .i64 a2_3, .int .u32 a2_4, .slice A2_5 l2_5.length c2_5] 27 (0, 0)) (by (with_reducible repeat (first | refine blk_drewN ?_ _ | refine blk_drew ?_ | refine blk_alloc ?_ _)); exact BK192.out) k_ hn_))⟩)) (below_size (by repeat (first | (with_reducible first | exact HB.out | apply below_alloc | apply pw_below_drewN | apply below_drew1 | refine below_set ?_ GE191.out | refine below_set ?_ GE192.out) | exact HB.out)))); have n1_ := Aside0.mk (blk_below (g := gb191) (o := .cells #[.int .u32 a1_0, .int .u32 a1_1, .int .u32 a1_2, .int .i64 a1_3, .int .u32 a1_4, .slice A1_5 l1_5.length c1_5] 27 (0, 0)) (by (with_reducible repeat (first | refine blk_drewN ?_ _ | refine blk_drew ?_ | refine blk_alloc ?_ _)); exact BK191.out) hb); have n2_ := Aside0.mk (blk_below (g := gb192) (o := .cells #[.int .u32 a2_0, .int .u32 a2_1, .int .u32 a2_2, .int .i64 a2_3, .int .u32 a2_4, .slice A2_5 l2_5.length c2_5] 27 (0, 0)) (by (with_reducible repeat (first | refine blk_drewN ?_ _ | refine blk_drew ?_ | refine blk_alloc ?_ _)); exact BK192.out) hb); have n3_ := Aside0.mk (below_step (by repeat (first | (with_reducible first | exact HB.out | apply below_alloc | apply pw_below_drewN | apply below_drew1 | refine below_set ?_ GE191.out | refine below_set ?_ GE192.out) | exact HB.out)) hb); clear BK191; clear BK192; clear HB; have HO198 := n0_; have BK191 := n1_; have BK192 := n2_; have HB := n3_; clear n0_ n1_ n2_ n3_; (try clear hb); (try clear hb2); (try clear hk); (try clear hi); (try clear ho0); have hcz48_0 : w47.cell? ⟨gb192, 0, none⟩ = some (.int .u32 a2_0) := (blk_cell BK192.out 0).trans rfl; have hcz48_1 : w47.cell? ⟨gb192, 1, none⟩ = some (.int .u32 a2_1) := (blk_cell BK192.out 1).trans rfl; have hcz48_2 : w47.cell? ⟨gb192, 2, none⟩ = some (.int .u32 a2_2) := (blk_cell BK192.out 2).trans rfl; have hcz48_3 : w47.cell? ⟨gb192, 3, none⟩ = some (.int .i64 a2_3) := (blk_cell BK192.out 3).trans rfl; have hcz48_4 : w47.cell? ⟨gb192, 4, none⟩ = some (.int .u32 a2_4) := (blk_cell BK192.out 4).trans rfl; have hcz48_5 : w47.cell? ⟨gb192, 5, none⟩ = some (.slice A2_5 l2_5.length c2_5) := (blk_cell BK192.out 5).trans rfl; have hfz48_0 := blk_frozen BK192.out 0; have hfz48_1 := blk_frozen BK192.out 1; have hfz48_2 := blk_frozen BK192.out 2; have hfz48_3 := blk_frozen BK192.out 3; have hfz48_4 := blk_frozen BK192.out 4; have hfz48_5 := blk_frozen BK192.out 5; obtain ⟨Ao49, co49, eo49⟩ := Kd.V_slice HO198.out; subst eo49) | ((with_reducible refine gate_callee (f := 10) rfl ?_); refine goesL_ (some 68) rfl rfl Try.func10 (by kernel_rfl) rfl #[.slice Ao49 t196.length co49, .agg #[.int .u32 a2_0, .int .u32 a2_1, .int .u32 a2_2, .int .i64 a2_3, .int .u32 a2_4, .slice A2_5 l2_5.length c2_5], .int .i64 5000] rfl (by (try simp only [List.map_toArray, List.map_cons, List.map_nil]); first | done | rfl | (simp only [List.length_drop, List.length_take]; rfl)) ?_; (with_reducible refine (flow_Put.calls kj4 (fun k_ => (k_ ≠ gb191 ∧ k_ ≠ gb192)) _ _ t196 a2_0 a2_1 a2_2 a2_3 a2_4 (fun k_ => k_ < w.heap.size) _ _ l2_5 5000 t200 t203 _ ?side1 ?side2 A35.out).mono ?_); (case side1 => exact HO198.out); (case side2 => exact Kd.V_mk HC2_5.out (Kd.F_below (Kd.C_F k53_heap HR2_5.out) (by repeat (first | (with_reducible first | exact HB.out | apply below_alloc | apply pw_below_drewN | apply below_drew1 | refine below_set ?_ GE191.out | refine below_set ?_ GE192.out) | exact HB.out)))); rintro e w50 ⟨v201, rfl, ho0, hb⟩; refine ⟨_, rfl, ?_⟩; have n0_ := Aside0.mk (Kd.V_below (by (with_reducible repeat (first | apply Kd.V_alloc | apply Kd.V_drewN | apply Kd.V_drew)); exact HO198.out) hb); have n1_ := Aside0.mk (Kd.V_lower (Kd.V_mono (ok' := fun k_ => k_ ≠ gb191 ∧ k_ ≠ gb192) ho0 (fun k_ hk_ => ⟨Or.elim hk_ (fun hs_ => Or.elim hs_ (fun hs_ => hs_.1) (fun hs_ => fun e_ => Nat.not_le.2 hs_ (by rw [e_]; exact GW191.out))) (fun hn_ => (Kd.freshB (g := gb191) (o := .cells #[.int .u32 a1_0, .int .u32 a1_1, .int .u32 a1_2, .int .i64 a1_3, .int .u32 a1_4, .slice A1_5 l1_5.length c1_5] 27 (0, 0)) (by (with_reducible repeat (first | refine blk_drewN ?_ _ | refine blk_drew ?_ | refine blk_alloc ?_ _)); exact BK191.out) k_ hn_)), Or.elim hk_ (fun hs_ => Or.elim hs_ (fun hs_ => hs_.2) (fun hs_ => fun e_ => Nat.not_le.2 hs_ (by rw [e_]; exact GW192.out))) (fun hn_ => (Kd.freshB (g := gb192) (o := .cells #[.int .u32 a2_0, .int .u32 a2_1, .int .u32 a2_2, .int .i64 a2_3, .int .u32 a2_4, .slice A2_5 l2_5.length c2_5] 27 (0, 0)) (by (with_reducible repeat (first | refine blk_drewN ?_ _ | refine blk_drew ?_ | refine blk_alloc ?_ _)); exact BK192.out) k_ hn_))⟩)) (below_size (by repeat (first | (with_reducible first | exact HB.out | apply below_alloc | apply pw_below_drewN | apply below_drew1 | refine below_set ?_ GE191.out | refine below_set ?_ GE192.out) | exact HB.out)))); have n2_ := Aside0.mk (blk_below (g := gb191) (o := .cells #[.int .u32 a1_0, .int .u32 a1_1, .int .u32 a1_2, .int .i64 a1_3, .int .u32 a1_4, .slice A1_5 l1_5.length c1_5] 27 (0, 0)) (by (with_reducible repeat (first | refine blk_drewN ?_ _ | refine blk_drew ?_ | refine blk_alloc ?_ _)); exact BK191.out) hb); have n3_ := Aside0.mk (blk_below (g := gb192) (o := .cells #[.int .u32 a2_0, .int .u32 a2_1, .int .u32 a2_2, .int .i64 a2_3, .int .u32 a2_4, .slice A2_5 l2_5.length c2_5] 27 (0, 0)) (by (with_reducible repeat (first | refine blk_drewN ?_ _ | refine blk_drew ?_ | refine blk_alloc ?_ _)); exact BK192.out) hb); have n4_ := Aside0.mk (below_step (by repeat (first | (with_reducible first | exact HB.out | apply below_alloc | apply pw_below_drewN | apply below_drew1 | refine below_set ?_ GE191.out | refine below_set ?_ GE192.out) | exact HB.out)) hb); clear HO198; clear BK191; clear BK192; clear HB; have HO198 := n0_; have HO202 := n1_; have BK191 := n2_; have BK192 := n3_; have HB := n4_; clear n0_ n1_ n2_ n3_ n4_; (try clear hb); (try clear hb2); (try clear hk); (try clear hi); (try clear ho0); have hcz51_0 : w50.cell? ⟨gb192, 0, none⟩ = some (.int .u32 a2_0) := (blk_cell BK192.out 0).trans rfl; have hcz51_1 : w50.cell? ⟨gb192, 1, none⟩ = some (.int .u32 a2_1) := (blk_cell BK192.out 1).trans rfl; have hcz51_2 : w50.cell? ⟨gb192, 2, none⟩ = some (.int .u32 a2_2) := (blk_cell BK192.out 2).trans rfl; have hcz51_3 : w50.cell? ⟨gb192, 3, none⟩ = some (.int .i64 a2_3) := (blk_cell BK192.out 3).trans rfl; have hcz51_4 : w50.cell? ⟨gb192, 4, none⟩ = some (.int .u32 a2_4) := (blk_cell BK192.out 4).trans rfl; have hcz51_5 : w50.cell? ⟨gb192, 5, none⟩ = some (.slice A2_5 l2_5.length c2_5) := (blk_cell BK192.out 5).trans rfl; have hfz51_0 := blk_frozen BK192.out 0; have hfz51_1 := blk_frozen BK192.out 1; have hfz51_2 := blk_frozen BK192.out 2; have hfz51_3 := blk_frozen BK192.out 3; have hfz51_4 := blk_frozen BK192.out 4; have hfz51_5 := blk_frozen BK192.out 5) | ((with_reducible refine gate_callee (f := 10) rfl ?_); refine goesL_ (some 74) rfl rfl Try.func10 (by kernel_rfl) rfl #[.slice A0 l0.length c0, .agg #[.int .u32 a2_0, .int .u32 a2_1, .int .u32 a2_2, .int .i64 a2_3, .int .u32 a2_4, .slice A2_5 l2_5.length c2_5], .int .i64 5000] rfl (by (try simp only [List.map_toArray, List.map_cons, List.map_nil]); first | done | rfl | (simp only [List.length_drop, List.length_take]; rfl)) ?_; (with_reducible refine (flow_Put.calls kj4 (fun k_ => k_ < w.heap.size) _ _ l0 a2_0 a2_1 a2_2 a2_3 a2_4 (fun k_ => k_ < w.heap.size) _ _ l2_5 5000 t204 t207 _ ?side1 ?side2 A36.out).mono ?_); (case side1 => exact Kd.V_mk HC0.out (Kd.F_below (Kd.C_F k27_heap HR0.out) (by repeat (first | (with_reducible first | exact HB.out | apply below_alloc | apply pw_below_drewN | apply below_drew1 | refine below_set ?_ GE191.out | refine below_set ?_ GE192.out) | exact HB.out)))); (case side2 => exact Kd.V_mk HC2_5.out (Kd.F_below (Kd.C_F k53_heap HR2_5.out) (by repeat (first | (with_reducible first | exact HB.out | apply below_alloc | apply pw_below_drewN | apply below_drew1 | refine below_set ?_ GE191.out | refine below_set ?_ GE192.out) | exact HB.out)))); rintro e w52 ⟨v205, rfl, ho0, hb⟩; refine ⟨_, rfl, ?_⟩; have n0_ := Aside0.mk (Kd.V_below (by (with_reducible repeat (first | apply Kd.V_alloc | apply Kd.V_drewN | apply Kd.V_drew)); exact HO198.out) hb); have n1_ := Aside0.mk (Kd.V_below (by (with_reducible repeat (first | apply Kd.V_alloc | apply Kd.V_drewN | apply Kd.V_drew)); exact HO202.out) hb); have n2_ := Aside0.mk (Kd.V_lower (Kd.V_mono (ok' := fun k_ => k_ ≠ gb191 ∧ k_ ≠ gb192) ho0 (fun k_ hk_ => ⟨Or.elim hk_ (fun hs_ => Or.elim hs_ (fun hs_ => fun e_ => Nat.not_le.2 hs_ (by rw [e_]; exact GW191.out)) (fun hs_ => fun e_ => Nat.not_le.2 hs_ (by rw [e_]; exact GW191.out))) (fun hn_ => (Kd.freshB (g := gb191) (o := .cells #[.int .u32 a1_0, .int .u32 a1_1, .int .u32 a1_2, .int .i64 a1_3, .int .u32 a1_4, .slice A1_5 l1_5.length c1_5] 27 (0, 0)) (by (with_reducible repeat (first | refine blk_drewN ?_ _ | refine blk_drew ?_ | refine blk_alloc ?_ _)); exact BK191.out) k_ hn_)), Or.elim hk_ (fun hs_ => Or.elim hs_ (fun hs_ => fun e_ => Nat.not_le.2 hs_ (by rw [e_]; exact GW192.out)) (fun hs_ => fun e_ => Nat.not_le.2 hs_ (by rw [e_]; exact GW192.out))) (fun hn_ => (Kd.freshB (g := gb192) (o := .cells #[.int .u32 a2_0, .int .u32 a2_1, .int .u32 a2_2, .int .i64 a2_3, .int .u32 a2_4, .slice A2_5 l2_5.length c2_5] 27 (0, 0)) (by (with_reducible repeat (first | refine blk_drewN ?_ _ | refine blk_drew ?_ | refine blk_alloc ?_ _)); exact BK192.out) k_ hn_))⟩)) (below_size (by repeat (first | (with_reducible first | exact HB.out | apply below_alloc | apply pw_below_drewN | apply below_drew1 | refine below_set ?_ GE191.out | refine below_set ?_ GE192.out) | exact HB.out)))); have n3_ := Aside0.mk (blk_below (g := gb191) (o := .cells #[.int .u32 a1_0, .int .u32 a1_1, .int .u32 a1_2, .int .i64 a1_3, .int .u32 a1_4, .slice A1_5 l1_5.length c1_5] 27 (0, 0)) (by (with_reducible repeat (first | refine blk_drewN ?_ _ | refine blk_drew ?_ | refine blk_alloc ?_ _)); exact BK191.out) hb); have n4_ := Aside0.mk (blk_below (g := gb192) (o := .cells #[.int .u32 a2_0, .int .u32 a2_1, .int .u32 a2_2, .int .i64 a2_3, .int .u32 a2_4, .slice A2_5 l2_5.length c2_5] 27 (0, 0)) (by (with_reducible repeat (first | refine blk_drewN ?_ _ | refine blk_drew ?_ | refine blk_alloc ?_ _)); exact BK192.out) hb); have n5_ := Aside0.mk (below_step (by repeat (first | (with_reducible first | exact HB.out | apply below_alloc | apply pw_below_drewN | apply below_drew1 | refine below_set ?_ GE191.out | refine below_set ?_ GE192.out) | exact HB.out)) hb); clear HO198; clear HO202; clear BK191; clear BK192; clear HB; have HO198 := n0_; have HO202 := n1_; have HO206 := n2_; have BK191 := n3_; have BK192 := n4_; have HB := n5_; clear n0_ n1_ n2_ n3_ n4_ n5_; (try clear hb); (try clear hb2); (try clear hk); (try clear hi); (try clear ho0); have hcz53_0 : w52.cell? ⟨gb191, 0, none⟩ = some (.int .u32 a1_0) := (blk_cell BK191.out 0).trans rfl; have hcz53_1 : w52.cell? ⟨gb191, 1, none⟩ = some (.int .u32 a1_1) := (blk_cell BK191.out 1).trans rfl; have hcz53_2 : w52.cell? ⟨gb191, 2, none⟩ = some (.int .u32 a1_2) := (blk_cell BK191.out 2).trans rfl; have hcz53_3 : w52.cell? ⟨gb191, 3, none⟩ = some (.int .i64 a1_3) := (blk_cell BK191.out 3).trans rfl; have hcz53_4 : w52.cell? ⟨gb191, 4, none⟩ = some (.int .u32 a1_4) := (blk_cell BK191.out 4).trans rfl; have hcz53_5 : w52.cell? ⟨gb191, 5, none⟩ = some (.slice A1_5 l1_5.length c1_5) := (blk_cell BK191.out 5).trans rfl; have hfz53_0 := blk_frozen BK191.out 0; have hfz53_1 := blk_frozen BK191.out 1; have hfz53_2 := blk_frozen BK191.out 2; have hfz53_3 := blk_frozen BK191.out 3; have hfz53_4 := blk_frozen BK191.out 4; have hfz53_5 := blk_frozen BK191.out 5; obtain ⟨Ao54, co54, eo54⟩ := Kd.V_slice HO206.out; subst eo54) | ((with_reducible refine gate_callee (f := 10) rfl ?_); refine goesL_ (some 80) rfl rfl Try.func10 (by kernel_rfl) rfl #[.slice Ao54 t204.length co54, .agg #[.int .u32 a1_0, .int .u32 a1_1, .int .u32 a1_2, .int .i64 a1_3, .int .u32 a1_4, .slice A1_5 l1_5.length c1_5], .int .i64 5000] rfl (by (try simp only [List.map_toArray, List.map_cons, List.map_nil]); first | done | rfl | (simp only [List.length_drop, List.length_take]; rfl)) ?_; (with_reducible refine (flow_Put.calls kj4 (fun k_ => (k_ ≠ gb191 ∧ k_ ≠ gb192)) _ _ t204 a1_0 a1_1 a1_2 a1_3 a1_4 (fun k_ => k_ < w.heap.size) _ _ l1_5 5000 t208 t211 _ ?side1 ?side2 A37.out).mono ?_); (case side1 => exact HO206.out); (case side2 => exact Kd.V_mk HC1_5.out (Kd.F_below (Kd.C_F k53_heap HR1_5.out) (by repeat (first | (with_reducible first | exact HB.out | apply below_alloc | apply pw_below_drewN | apply below_drew1 | refine below_set ?_ GE191.out | refine below_set ?_ GE192.out) | exact HB.out)))); rintro e w55 ⟨v209, rfl, ho0, hb⟩; refine ⟨_, rfl, ?_⟩; have n0_ := Aside0.mk (Kd.V_below (by (with_reducible repeat (first | apply Kd.V_alloc | apply Kd.V_drewN | apply Kd.V_drew)); exact HO198.out) hb); have n1_ := Aside0.mk (Kd.V_below (by (with_reducible repeat (first | apply Kd.V_alloc | apply Kd.V_drewN | apply Kd.V_drew)); exact HO202.out) hb); have n2_ := Aside0.mk (Kd.V_below (by (with_reducible repeat (first | apply Kd.V_alloc | apply Kd.V_drewN | apply Kd.V_drew)); exact HO206.out) hb); have n3_ := Aside0.mk (Kd.V_lower (Kd.V_mono (ok' := fun k_ => k_ ≠ gb191 ∧ k_ ≠ gb192) ho0 (fun k_ hk_ => ⟨Or.elim hk_ (fun hs_ => Or.elim hs_ (fun hs_ => hs_.1) (fun hs_ => fun e_ => Nat.not_le.2 hs_ (by rw [e_]; exact GW191.out))) (fun hn_ => (Kd.freshB (g := gb191) (o := .cells #[.int .u32 a1_0, .int .u32 a1_1, .int .u32 a1_2, .int .i64 a1_3, .int .u32 a1_4, .slice A1_5 l1_5.length c1_5] 27 (0, 0)) (by (with_reducible repeat (first | refine blk_drewN ?_ _ | refine blk_drew ?_ | refine blk_alloc ?_ _)); exact BK191.out) k_ hn_)), Or.elim hk_ (fun hs_ => Or.elim hs_ (fun hs_ => hs_.2) (fun hs_ => fun e_ => Nat.not_le.2 hs_ (by rw [e_]; exact GW192.out))) (fun hn_ => (Kd.freshB (g := gb192) (o := .cells #[.int .u32 a2_0, .int .u32 a2_1, .int .u32 a2_2, .int .i64 a2_3, .int .u32 a2_4, .slice A2_5 l2_5.length c2_5] 27 (0, 0)) (by (with_reducible repeat (first | refine blk_drewN ?_ _ | refine blk_drew ?_ | refine blk_alloc ?_ _)); exact BK192.out) k_ hn_))⟩)) (below_size (by repeat (first | (with_reducible first | exact HB.out | apply below_alloc | apply pw_below_drewN | apply below_drew1 | refine below_set ?_ GE191.out | refine below_set ?_ GE192.out) | exact HB.out)))); have n4_ := Aside0.mk (blk_below (g := gb191) (o := .cells #[.int .u32 a1_0, .int .u32 a1_1, .int .u32 a1_2, .int .i64 a1_3, .int .u32 a1_4, .slice A1_5 l1_5.length c1_5] 27 (0, 0)) (by (with_reducible repeat (first | refine blk_drewN ?_ _ | refine blk_drew ?_ | refine blk_alloc ?_ _)); exact BK191.out) hb); have n5_ := Aside0.mk (blk_below (g := gb192) (o := .cells #[.int .u32 a2_0, .int .u32 a2_1, .int .u32 a2_2, .int .i64 a2_3, .int .u32 a2_4, .slice A2_5 l2_5.length c2_5] 27 (0, 0)) (by (with_reducible repeat (first | refine blk_drewN ?_ _ | refine blk_drew ?_ | refine blk_alloc ?_ _)); exact BK192.out) hb); have n6_ := Aside0.mk (below_step (by repeat (first | (with_reducible first | exact HB.out | apply below_alloc | apply pw_below_drewN | apply below_drew1 | refine below_set ?_ GE191.out | refine below_set ?_ GE192.out) | exact HB.out)) hb); clear HO198; clear HO202; clear HO206; clear BK191; clear BK192; clear HB; have HO198 := n0_; have HO202 := n1_; have HO206 := n2_; have HO210 := n3_; have BK191 := n4_; have BK192 := n5_; have HB := n6_; clear n0_ n1_ n2_ n3_ n4_ n5_ n6_; (try clear hb); (try clear hb2); (try clear hk); (try clear hi); (try clear ho0); have hcz56_0 : w55.cell? ⟨gb191, 0, none⟩ = some (.int .u32 a1_0) := (blk_cell BK191.out 0).trans rfl; have hcz56_1 : w55.cell? ⟨gb191, 1, none⟩ = some (.int .u32 a1_1) := (blk_cell BK191.out 1).trans rfl; have hcz56_2 : w55.cell? ⟨gb191, 2, none⟩ = some (.int .u32 a1_2) := (blk_cell BK191.out 2).trans rfl; have hcz56_3 : w55.cell? ⟨gb191, 3, none⟩ = some (.int .i64 a1_3) := (blk_cell BK191.out 3).trans rfl; have hcz56_4 : w55.cell? ⟨gb191, 4, none⟩ = some (.int .u32 a1_4) := (blk_cell BK191.out 4).trans rfl; have hcz56_5 : w55.cell? ⟨gb191, 5, none⟩ = some (.slice A1_5 l1_5.length c1_5) := (blk_cell BK191.out 5).trans rfl; have hfz56_0 := blk_frozen BK191.out 0; have hfz56_1 := blk_frozen BK191.out 1; have hfz56_2 := blk_frozen BK191.out 2; have hfz56_3 := blk_frozen BK191.out 3; have hfz56_4 := blk_frozen BK191.out 4; have hfz56_5 := blk_frozen BK191.out 5) | ((with_reducible refine gate_callee (f := 10) rfl ?_); refine goesL_ (some 88) rfl rfl Try.func10 (by kernel_rfl) rfl #[.slice Ao49 t196.length co49, .agg #[.int .u32 a1_0, .int .u32 a1_1, .int .u32 a1_2, .int .i64 a1_3, .int .u32 a1_4, .slice A1_5 l1_5.length c1_5], .int .i64 (t196.length : Int)] rfl (by (try simp only [List.map_toArray, List.map_cons, List.map_nil]); first | done | rfl | (simp only [List.length_drop, List.length_take]; rfl)) ?_; (with_reducible refine (flow_Put.calls kj4 (fun k_ => (k_ ≠ gb191 ∧ k_ ≠ gb192)) _ _ t196 a1_0 a1_1 a1_2 a1_3 a1_4 (fun k_ => k_ < w.heap.size) _ _ l1_5 (t196.length : Int) t212 t215 _ ?side1 ?side2 A38.out).mono ?_); (case side1 => exact HO198.out); (case side2 => exact Kd.V_mk HC1_5.out (Kd.F_below (Kd.C_F k53_heap HR1_5.out) (by repeat (first | (with_reducible first | exact HB.out | apply below_alloc | apply pw_below_drewN | apply below_drew1 | refine below_set ?_ GE191.out | refine below_set ?_ GE192.out) | exact HB.out)))); rintro e w57 ⟨v213, rfl, ho0, hb⟩; refine ⟨_, rfl, ?_⟩; have n0_ := Aside0.mk (Kd.V_below (by (with_reducible repeat (first | apply Kd.V_alloc | apply Kd.V_drewN | apply Kd.V_drew)); exact HO198.out) hb); have n1_ := Aside0.mk (Kd.V_below (by (with_reducible repeat (first | apply Kd.V_alloc | apply Kd.V_drewN | apply Kd.V_drew)); exact HO202.out) hb); have n2_ := Aside0.mk (Kd.V_below (by (with_reducible repeat (first | apply Kd.V_alloc | apply Kd.V_drewN | apply Kd.V_drew)); exact HO206.out) hb); have n3_ := Aside0.mk (Kd.V_below (by (with_reducible repeat (first | apply Kd.V_alloc | apply Kd.V_drewN | apply Kd.V_drew)); exact HO210.out) hb); have n4_ := Aside0.mk (Kd.V_lower (Kd.V_mono (ok' := fun k_ => k_ ≠ gb191 ∧ k_ ≠ gb192) ho0 (fun k_ hk_ => ⟨Or.elim hk_ (fun hs_ => Or.elim hs_ (fun hs_ => hs_.1) (fun hs_ => fun e_ => Nat.not_le.2 hs_ (by rw [e_]; exact GW191.out))) (fun hn_ => (Kd.freshB (g := gb191) (o := .cells #[.int .u32 a1_0, .int .u32 a1_1, .int .u32 a1_2, .int .i64 a1_3, .int .u32 a1_4, .slice A1_5 l1_5.length c1_5] 27 (0, 0)) (by (with_reducible repeat (first | refine blk_drewN ?_ _ | refine blk_drew ?_ | refine blk_alloc ?_ _)); exact BK191.out) k_ hn_)), Or.elim hk_ (fun hs_ => Or.elim hs_ (fun hs_ => hs_.2) (fun hs_ => fun e_ => Nat.not_le.2 hs_ (by rw [e_]; exact GW192.out))) (fun hn_ => (Kd.freshB (g := gb192) (o := .cells #[.int .u32 a2_0, .int .u32 a2_1, .int .u32 a2_2, .int .i64 a2_3, .int .u32 a2_4, .slice A2_5 l2_5.length c2_5] 27 (0, 0)) (by (with_reducible repeat (first | refine blk_drewN ?_ _ | refine blk_drew ?_ | refine blk_alloc ?_ _)); exact BK192.out) k_ hn_))⟩)) (below_size (by repeat (first | (with_reducible first | exact HB.out | apply below_alloc | apply pw_below_drewN | apply below_drew1 | refine below_set ?_ GE191.out | refine below_set ?_ GE192.out) | exact HB.out)))); have n5_ := Aside0.mk (blk_below (g := gb191) (o := .cells #[.int .u32 a1_0, .int .u32 a1_1, .int .u32 a1_2, .int .i64 a1_3, .int .u32 a1_4, .slice A1_5 l1_5.length c1_5] 27 (0, 0)) (by (with_reducible repeat (first | refine blk_drewN ?_ _ | refine blk_drew ?_ | refine blk_alloc ?_ _)); exact BK191.out) hb); have n6_ := Aside0.mk (blk_below (g := gb192) (o := .cells #[.int .u32 a2_0, .int .u32 a2_1, .int .u32 a2_2, .int .i64 a2_3, .int .u32 a2_4, .slice A2_5 l2_5.length c2_5] 27 (0, 0)) (by (with_reducible repeat (first | refine blk_drewN ?_ _ | refine blk_drew ?_ | refine blk_alloc ?_ _)); exact BK192.out) hb); have n7_ := Aside0.mk (below_step (by repeat (first | (with_reducible first | exact HB.out | apply below_alloc | apply pw_below_drewN | apply below_drew1 | refine below_set ?_ GE191.out | refine below_set ?_ GE192.out) | exact HB.out)) hb); clear HO198; clear HO202; clear HO206; clear HO210; clear BK191; clear BK192; clear HB; have HO198 := n0_; have HO202 := n1_; have HO206 := n2_; have HO210 := n3_; have HO214 := n4_; have BK191 := n5_; have BK192 := n6_; have HB := n7_; clear n0_ n1_ n2_ n3_ n4_ n5_ n6_ n7_; (try clear hb); (try clear hb2); (try clear hk); (try clear hi); (try clear ho0); obtain ⟨Ao58, co58, eo58⟩ := Kd.V_slice HO202.out; subst eo58; obtain ⟨Ao59, co59, eo59⟩ := Kd.V_slice HO210.out; subst eo59) | (go_at_call 11; (with_reducible refine (stolonref15_Rows.calls kj4 _ _ t200 _ _ t208 true _ ?side1 ?side2 ?side3 ?side4 A42.out).mono ?_); (case side1 => repeat (first | exact (Kd.V_reads' HO202.out).2.2 | (with_reducible refine Kd.C_alloc ?_ _) | (with_reducible refine Kd.C_drewN ?_ _) | (with_reducible refine Kd.C_drew ?_))); (case side2 => exact (Kd.V_reads' HO202.out).2.1); (case side3 => repeat (first | exact (Kd.V_reads' HO210.out).2.2 | (with_reducible refine Kd.C_alloc ?_ _) | (with_reducible refine Kd.C_drewN ?_ _) | (with_reducible refine Kd.C_drew ?_))); (case side4 => exact (Kd.V_reads' HO210.out).2.1); rintro e w60 ⟨rfl, hb⟩; have n0_ := Aside0.mk (Kd.V_below (by (with_reducible repeat (first | apply Kd.V_alloc | apply Kd.V_drewN | apply Kd.V_drew)); exact HO198.out) hb); have n1_ := Aside0.mk (Kd.V_below (by (with_reducible repeat (first | apply Kd.V_alloc | apply Kd.V_drewN | apply Kd.V_drew)); exact HO202.out) hb); have n2_ := Aside0.mk (Kd.V_below (by (with_reducible repeat (first | apply Kd.V_alloc | apply Kd.V_drewN | apply Kd.V_drew)); exact HO206.out) hb); have n3_ := Aside0.mk (Kd.V_below (by (with_reducible repeat (first | apply Kd.V_alloc | apply Kd.V_drewN | apply Kd.V_drew)); exact HO210.out) hb); have n4_ := Aside0.mk (Kd.V_below (by (with_reducible repeat (first | apply Kd.V_alloc | apply Kd.V_drewN | apply Kd.V_drew)); exact HO214.out) hb); have n5_ := Aside0.mk (blk_below (g := gb191) (o := .cells #[.int .u32 a1_0, .int .u32 a1_1, .int .u32 a1_2, .int .i64 a1_3, .int .u32 a1_4, .slice A1_5 l1_5.length c1_5] 27 (0, 0)) (by (with_reducible repeat (first | refine blk_drewN ?_ _ | refine blk_drew ?_ | refine blk_alloc ?_ _)); exact BK191.out) hb); have n6_ := Aside0.mk (blk_below (g := gb192) (o := .cells #[.int .u32 a2_0, .int .u32 a2_1, .int .u32 a2_2, .int .i64 a2_3, .int .u32 a2_4, .slice A2_5 l2_5.length c2_5] 27 (0, 0)) (by (with_reducible repeat (first | refine blk_drewN ?_ _ | refine blk_drew ?_ | refine blk_alloc ?_ _)); exact BK192.out) hb); have n7_ := Aside0.mk (below_step (by repeat (first | (with_reducible first | exact HB.out | apply below_alloc | apply pw_below_drewN | apply below_drew1 | refine below_set ?_ GE191.out | refine below_set ?_ GE192.out) | exact HB.out)) hb); clear HO198; clear HO202; clear HO206; clear HO210; clear HO214; clear BK191; clear BK192; clear HB; have HO198 := n0_; have HO202 := n1_; have HO206 := n2_; have HO210 := n3_; have HO214 := n4_; have BK191 := n5_; have BK192 := n6_; have HB := n7_; clear n0_ n1_ n2_ n3_ n4_ n5_ n6_ n7_; (try clear hb); (try clear hb2); (try clear hk); (try clear hi); obtain ⟨Ao61, co61, eo61⟩ := Kd.V_slice HO214.out; subst eo61) | (go_at_call 11; (with_reducible refine (stolonref15_Rows.calls kj4 _ _ t212 _ _ t196 t217 _ ?side1 ?side2 ?side3 ?side4 A44.out).mono ?_); (case side1 => repeat (first | exact (Kd.V_reads' HO214.out).2.2 | (with_reducible refine Kd.C_alloc ?_ _) | (with_reducible refine Kd.C_drewN ?_ _) | (with_reducible refine Kd.C_drew ?_))); (case side2 => exact (Kd.V_reads' HO214.out).2.1); (case side3 => repeat (first | exact (Kd.V_reads' HO198.out).2.2 | (with_reducible refine Kd.C_alloc ?_ _) | (with_reducible refine Kd.C_drewN ?_ _) | (with_reducible refine Kd.C_drew ?_))); (case side4 => exact (Kd.V_reads' HO198.out).2.1); rintro e w62 ⟨rfl, hb⟩; have n0_ := Aside0.mk (Kd.V_below (by (with_reducible repeat (first | apply Kd.V_alloc | apply Kd.V_drewN | apply Kd.V_drew)); exact HO198.out) hb); have n1_ := Aside0.mk (Kd.V_below (by (with_reducible repeat (first | apply Kd.V_alloc | apply Kd.V_drewN | apply Kd.V_drew)); exact HO202.out) hb); have n2_ := Aside0.mk (Kd.V_below (by (with_reducible repeat (first | apply Kd.V_alloc | apply Kd.V_drewN | apply Kd.V_drew)); exact HO206.out) hb); have n3_ := Aside0.mk (Kd.V_below (by (with_reducible repeat (first | apply Kd.V_alloc | apply Kd.V_drewN | apply Kd.V_drew)); exact HO210.out) hb); have n4_ := Aside0.mk (Kd.V_below (by (with_reducible repeat (first | apply Kd.V_alloc | apply Kd.V_drewN | apply Kd.V_drew)); exact HO214.out) hb); have n5_ := Aside0.mk (blk_below (g := gb191) (o := .cells #[.int .u32 a1_0, .int .u32 a1_1, .int .u32 a1_2, .int .i64 a1_3, .int .u32 a1_4, .slice A1_5 l1_5.length c1_5] 27 (0, 0)) (by (with_reducible repeat (first | refine blk_drewN ?_ _ | refine blk_drew ?_ | refine blk_alloc ?_ _)); exact BK191.out) hb); have n6_ := Aside0.mk (blk_below (g := gb192) (o := .cells #[.int .u32 a2_0, .int .u32 a2_1, .int .u32 a2_2, .int .i64 a2_3, .int .u32 a2_4, .slice A2_5 l2_5.length c2_5] 27 (0, 0)) (by (with_reducible repeat (first | refine blk_drewN ?_ _ | refine blk_drew ?_ | refine blk_alloc ?_ _)); exact BK192.out) hb); have n7_ := Aside0.mk (below_step (by repeat (first | (with_reducible first | exact HB.out | apply below_alloc | apply pw_below_drewN | apply below_drew1 | refine below_set ?_ GE191.out | refine below_set ?_ GE192.out) | exact HB.out)) hb); clear HO198; clear HO202; clear HO206; clear HO210; clear HO214; clear BK191; clear BK192; clear HB; have HO198 := n0_; have HO202 := n1_; have HO206 := n2_; have HO210 := n3_; have HO214 := n4_; have BK191 := n5_; have BK192 := n6_; have HB := n7_; clear n0_ n1_ n2_ n3_ n4_ n5_ n6_ n7_; (try clear hb); (try clear hb2); (try clear hk); (try clear hi)))
                go_ret
                exact ⟨by first | rfl | (simp [errW_none, errW_some] <;> rfl) | (simp [*, errW_none, errW_some] <;> rfl), by repeat (first | (with_reducible first | exact HB.out | apply below_alloc | apply pw_below_drewN | apply below_drew1 | refine below_set ?_ GE191.out | refine below_set ?_ GE192.out) | exact HB.out)⟩
              · replace c43 := Bool.eq_false_iff.mpr c43
                subst c43
                have H1 : (some false) = some r := by rw [if_neg (show ¬ (false = true) by decide)] at H; exact H
                clear H
                have H := H1
                clear H1
                exact absurd ((Option.some.inj H).trans hTrue.out) (by simp)
            · rw [if_neg c41] at H
              have c41b0 : (t203 == t207) = false := beq_eq_false_iff_ne.mpr c41
              have c41b1 : (t203 != t207) = true := bne_iff_ne.mpr c41
              exact absurd ((Option.some.inj H).trans hTrue.out) (by simp)
          · rw [if_neg c40] at H
            have c40b0 : (t199 == t211) = false := beq_eq_false_iff_ne.mpr c40
            have c40b1 : (t199 != t211) = true := bne_iff_ne.mpr c40
            exact absurd ((Option.some.inj H).trans hTrue.out) (by simp)
        · replace c39 := Bool.eq_false_iff.mpr c39
          subst c39
          have H1 : (some false) = some r := by rw [if_neg (show ¬ (false = true) by decide)] at H; exact H
          clear H
          have H := H1
          clear H1
          exact absurd ((Option.some.inj H).trans hTrue.out) (by simp)

end Go.Proofs.Yteibolilodgjnaa.P

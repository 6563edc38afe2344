/- For each Go function a Lean function, and the proof that a call comes to what it tells: made by program out of the translation (the kit's print, with texts by hand put in). No condition. -/
import Derived.Test.YticjabdkjjbegaaPx0
import Derived.Test.YticjabdkjjbegaaPx1
import Derived.Test.YticjabdkjjbegaaPx6
import Derived.Test.YticjabdkjjbegaaPx7
import Derived.Test.YticjabdkjjbegaaPx16
import Derived.Test.YticjabdkjjbegaaPx18
namespace Go.Proofs.Yticjabdkjjbegaa.P
open Go.RowKit Go.Proofs.Yticjabdkjjbegaa.HRows Go.Proofs.YticjabdkjjbegaaW.PrintWords Go.Proofs.YticjabdkjjbegaaW.PrintLast Go.Proofs.YticjabdkjjbegaaW.PrintMore
attribute [local go_sem] max2_int min2_int max_two min_two max_three min_three max_four min_four   -- for this text's walks alone
set_option linter.unusedVariables false
set_option linter.unusedSimpArgs false

attribute [local go_sem high] eqA41
/-! ### stolonlaw11_GraphSets: function 8 -/
mutual
def stolonlaw11_GraphSets.j0 : Nat → Int → Bool → Bool → Bool → Int → List (S41) → Option (Bool)
  | 0, _, _, _, _, _, _ => none
  | k + 1, x1, x2, x7, x27, x325000, x325001 => if x27 = true then (some x7) else ((graph_Set.f x325000 x325001 x1 x2).bind fun bt327 => (if bt327.2.2 = 0 then (if (bt327.2.1.length : Int) = (x325001.length : Int) then (if 0 ≤ x1 then (if x1 < (bt327.2.1.length : Int) then (stolonlaw11_GraphSets.j1 k x1 x2 x7 (((rd_T41 bt327.2.1 x1).f3) != x2) x325000 x325001 bt327.1 bt327.2.1) else (none)) else (none)) else (stolonlaw11_GraphSets.j1 k x1 x2 x7 true x325000 x325001 bt327.1 bt327.2.1)) else (stolonlaw11_GraphSets.j1 k x1 x2 x7 true x325000 x325001 bt327.1 bt327.2.1)))
def stolonlaw11_GraphSets.j1 : Nat → Int → Bool → Bool → Bool → Int → List (S41) → Int → List (S41) → Option (Bool)
  | 0, _, _, _, _, _, _, _, _ => none
  | k + 1, x1, x2, x7, x56, x325000, x325001, x333000, x333001 => if x56 = true then (some false) else (stolonlaw11_GraphSets.l0 k x1 x2 x7 0 x325000 x325001 x333000 x333001)
def stolonlaw11_GraphSets.l0 : Nat → Int → Bool → Bool → Int → Int → List (S41) → Int → List (S41) → Option (Bool)
  | 0, _, _, _, _, _, _, _, _ => none
  | k + 1, x1, x2, x7, x10, x325000, x325001, x333000, x333001 => if x10 < (x325001.length : Int) then (if x10 = x1 then (stolonlaw11_GraphSets.l0 k x1 x2 x7 (wrap64 (x10 + 1)) x325000 x325001 x333000 x333001) else (if 0 ≤ x10 then (if x10 < (x333001.length : Int) then (if (!(((rd_T41 x333001 x10).f0) == ((rd_T41 x325001 x10).f0)) || (!(((rd_T41 x333001 x10).f1) == ((rd_T41 x325001 x10).f1)) || (!(((rd_T41 x333001 x10).f2) == ((rd_T41 x325001 x10).f2)) || (!(((rd_T41 x333001 x10).f3) == ((rd_T41 x325001 x10).f3)))))) = true then (some false) else (stolonlaw11_GraphSets.l0 k x1 x2 x7 (wrap64 (x10 + 1)) x325000 x325001 x333000 x333001)) else (none)) else (none))) else (if 0 ≤ x1 then (if x1 < (x325001.length : Int) then ((graph_Set.f x333000 x333001 x1 ((rd_T41 x325001 x1).f3)).bind fun bt337 => (if x7 = true then ((graph_Same.f k bt337.1 bt337.2.1 x325000 x325001).bind fun t343 => (if t343 = true then ((graph_Same.f k x333000 x333001 x325000 x325001).bind fun t344 => (some (t344 == (((rd_T41 x325001 x1).f3) == x2)))) else (some false))) else (some false))) else (none)) else (none))
end
def stolonlaw11_GraphSets.f (k : Nat) (a0_0 : Int) (l0_1 : List (S41)) (a1 : Int) (a2 : Bool) : Option (Bool) := (stolonlaw11_shown.f k).bind fun t325 => ((stolonref11_Right.f k a0_0 l0_1).bind fun t326 => (if t326 = true then (if a1 < 0 then (stolonlaw11_GraphSets.j0 k a1 a2 t325 true a0_0 l0_1) else (stolonlaw11_GraphSets.j0 k a1 a2 t325 (decide (a1 ≥ (l0_1.length : Int))) a0_0 l0_1)) else (stolonlaw11_GraphSets.j0 k a1 a2 t325 true a0_0 l0_1)))
theorem stolonlaw11_GraphSets.mono_l : ∀ k, (∀ y0 y1 y2 y3 y4 y5, LeO (stolonlaw11_GraphSets.j0 k y0 y1 y2 y3 y4 y5) (stolonlaw11_GraphSets.j0 (k + 1) y0 y1 y2 y3 y4 y5)) ∧ (∀ y0 y1 y2 y3 y4 y5 y6 y7, LeO (stolonlaw11_GraphSets.j1 k y0 y1 y2 y3 y4 y5 y6 y7) (stolonlaw11_GraphSets.j1 (k + 1) y0 y1 y2 y3 y4 y5 y6 y7)) ∧ (∀ y0 y1 y2 y3 y4 y5 y6 y7, LeO (stolonlaw11_GraphSets.l0 k y0 y1 y2 y3 y4 y5 y6 y7) (stolonlaw11_GraphSets.l0 (k + 1) y0 y1 y2 y3 y4 y5 y6 y7))
  | 0 => ⟨fun _ _ _ _ _ _ r h => by simp [stolonlaw11_GraphSets.j0] at h, fun _ _ _ _ _ _ _ _ r h => by simp [stolonlaw11_GraphSets.j1] at h, fun _ _ _ _ _ _ _ _ r h => by simp [stolonlaw11_GraphSets.l0] at h⟩
  | k + 1 => by
    obtain ⟨ih0, ih1, ih2⟩ := stolonlaw11_GraphSets.mono_l k
    refine ⟨?_, ?_, ?_⟩
    · intro y0 y1 y2 y3 y4 y5
      unfold stolonlaw11_GraphSets.j0
      repeat' first
      | (with_reducible exact ih0 _ _ _ _ _ _)
      | (with_reducible exact ih1 _ _ _ _ _ _ _ _)
      | (with_reducible exact ih2 _ _ _ _ _ _ _ _)
      | (with_reducible exact graph_Same.mono _ _ _ _ _)
      | (with_reducible exact stolonlaw11_shown.mono _)
      | (with_reducible exact stolonref11_Right.mono _ _ _)
      | (with_reducible exact LeO.refl _)
      | (with_reducible exact LeO.none _)
      | (with_reducible refine LeO.ite ?_ ?_)
      | (with_reducible refine LeO.bind ?_ (fun _ => ?_))
      | exact ih0 _ _ _ _ _ _
      | exact ih1 _ _ _ _ _ _ _ _
      | exact ih2 _ _ _ _ _ _ _ _
      | exact graph_Same.mono _ _ _ _ _
      | exact stolonlaw11_shown.mono _
      | exact stolonref11_Right.mono _ _ _
      | exact LeO.none _
      | refine LeO.ite ?_ ?_
      | refine LeO.bind ?_ (fun _ => ?_)
    · intro y0 y1 y2 y3 y4 y5 y6 y7
      unfold stolonlaw11_GraphSets.j1
      repeat' first
      | (with_reducible exact ih0 _ _ _ _ _ _)
      | (with_reducible exact ih1 _ _ _ _ _ _ _ _)
      | (with_reducible exact ih2 _ _ _ _ _ _ _ _)
      | (with_reducible exact graph_Same.mono _ _ _ _ _)
      | (with_reducible exact stolonlaw11_shown.mono _)
      | (with_reducible exact stolonref11_Right.mono _ _ _)
      | (with_reducible exact LeO.refl _)
      | (with_reducible exact LeO.none _)
      | (with_reducible refine LeO.ite ?_ ?_)
      | (with_reducible refine LeO.bind ?_ (fun _ => ?_))
      | exact ih0 _ _ _ _ _ _
      | exact ih1 _ _ _ _ _ _ _ _
      | exact ih2 _ _ _ _ _ _ _ _
      | exact graph_Same.mono _ _ _ _ _
      | exact stolonlaw11_shown.mono _
      | exact stolonref11_Right.mono _ _ _
      | exact LeO.none _
      | refine LeO.ite ?_ ?_
      | refine LeO.bind ?_ (fun _ => ?_)
    · intro y0 y1 y2 y3 y4 y5 y6 y7
      unfold stolonlaw11_GraphSets.l0
      repeat' first
      | (with_reducible exact ih0 _ _ _ _ _ _)
      | (with_reducible exact ih1 _ _ _ _ _ _ _ _)
      | (with_reducible exact ih2 _ _ _ _ _ _ _ _)
      | (with_reducible exact graph_Same.mono _ _ _ _ _)
      | (with_reducible exact stolonlaw11_shown.mono _)
      | (with_reducible exact stolonref11_Right.mono _ _ _)
      | (with_reducible exact LeO.refl _)
      | (with_reducible exact LeO.none _)
      | (with_reducible refine LeO.ite ?_ ?_)
      | (with_reducible refine LeO.bind ?_ (fun _ => ?_))
      | exact ih0 _ _ _ _ _ _
      | exact ih1 _ _ _ _ _ _ _ _
      | exact ih2 _ _ _ _ _ _ _ _
      | exact graph_Same.mono _ _ _ _ _
      | exact stolonlaw11_shown.mono _
      | exact stolonref11_Right.mono _ _ _
      | exact LeO.none _
      | refine LeO.ite ?_ ?_
      | refine LeO.bind ?_ (fun _ => ?_)
theorem stolonlaw11_GraphSets.mono : ∀ a0 a1 a2 a3 k, LeO (stolonlaw11_GraphSets.f k a0 a1 a2 a3) (stolonlaw11_GraphSets.f (k + 1) a0 a1 a2 a3) := by
  intro a0 a1 a2 a3 k
  obtain ⟨ih0, ih1, ih2⟩ := stolonlaw11_GraphSets.mono_l k
  unfold stolonlaw11_GraphSets.f
  repeat' first
      | (with_reducible exact ih0 _ _ _ _ _ _)
      | (with_reducible exact ih1 _ _ _ _ _ _ _ _)
      | (with_reducible exact ih2 _ _ _ _ _ _ _ _)
      | (with_reducible exact graph_Same.mono _ _ _ _ _)
      | (with_reducible exact stolonlaw11_shown.mono _)
      | (with_reducible exact stolonref11_Right.mono _ _ _)
      | (with_reducible exact LeO.refl _)
      | (with_reducible exact LeO.none _)
      | (with_reducible refine LeO.ite ?_ ?_)
      | (with_reducible refine LeO.bind ?_ (fun _ => ?_))
      | exact ih0 _ _ _ _ _ _
      | exact ih1 _ _ _ _ _ _ _ _
      | exact ih2 _ _ _ _ _ _ _ _
      | exact graph_Same.mono _ _ _ _ _
      | exact stolonlaw11_shown.mono _
      | exact stolonref11_Right.mono _ _ _
      | exact LeO.none _
      | refine LeO.ite ?_ ?_
      | refine LeO.bind ?_ (fun _ => ?_)
def stolonlaw11_GraphSets.T10 : Bool × List (List Nat × List Nat) := (true, [([], []), ([], []), ([0, 1], [0, 1]), ([2], [2]), ([3], [3]), ([4, 3], [3, 4]), ([3], [3]), ([5, 6, 3], [3, 5, 6]), ([7, 3], [3, 7]), ([3], [3]), ([9, 3], [3, 9]), ([3], [3]), ([10, 11, 3], [3, 10, 11]), ([12, 3], [3, 12]), ([8, 13, 3], [3, 8, 13]), ([3, 14], [3, 14])])
def stolonlaw11_GraphSets.B10 : List Nat := [0, 0, 3, 7, 15, 31, 15, 127, 255, 15, 527, 15, 3599, 7695, 16383, 32767]
theorem stolonlaw11_GraphSets.tab10 : rtab .any (opsOf Try.f8 10) = stolonlaw11_GraphSets.T10 := by kernel_rfl
theorem stolonlaw11_GraphSets.bits10 : waitsOk stolonlaw11_GraphSets.T10.2 stolonlaw11_GraphSets.B10 = true := by kernel_rfl
def stolonlaw11_GraphSets.T12 : Bool × List (List Nat × List Nat) := (true, [([], []), ([], []), ([], []), ([2], [2]), ([], []), ([3, 4], [3, 4]), ([5], [5]), ([6], [6]), ([0, 1, 7], [0, 1, 7]), ([8], [8]), ([9], [9]), ([9], [9]), ([], []), ([12, 10, 8, 0, 1, 2, 3, 4, 5, 6, 7, 8, 9, 10, 12], [10, 12]), ([11, 13, 0, 1, 2, 3, 4, 5, 6, 7, 8, 9, 10, 11, 12, 13], [11])])
def stolonlaw11_GraphSets.B12 : List Nat := [0, 0, 0, 4, 0, 28, 60, 124, 255, 511, 1023, 1023, 0, 6143, 16383]
theorem stolonlaw11_GraphSets.tab12 : rtab .any (opsOf Try.f8 12) = stolonlaw11_GraphSets.T12 := by kernel_rfl
theorem stolonlaw11_GraphSets.bits12 : waitsOk stolonlaw11_GraphSets.T12.2 stolonlaw11_GraphSets.B12 = true := by kernel_rfl
def stolonlaw11_GraphSets.T13 : Bool × List (List Nat × List Nat) := (true, [([], []), ([0], [0]), ([1], [1]), ([1], [1]), ([2, 3, 1, 1], [1, 2, 3]), ([1, 4], [1, 4]), ([5, 4], [5]), ([6], [6]), ([6], [6]), ([7, 8, 6, 6], [6, 7, 8]), ([6], [6]), ([10, 6], [6, 10]), ([6], [6]), ([11, 12, 6], [6, 11, 12]), ([13, 6], [6, 13]), ([14, 6], [6, 14]), ([6], [6]), ([15, 16, 6], [6, 15, 16]), ([9, 17, 6], [6, 9, 17]), ([6, 18], [6, 18]), ([19, 9, 0, 1, 2, 3, 4, 5, 6, 7, 8, 9, 10, 11, 12, 13, 14, 15, 16, 17, 18, 19], [19])])
def stolonlaw11_GraphSets.B13 : List Nat := [0, 1, 3, 3, 15, 31, 63, 127, 127, 511, 127, 1151, 127, 7295, 15487, 31871, 127, 130175, 262143, 524287, 1048575]
theorem stolonlaw11_GraphSets.tab13 : rtab .any (opsOf Try.f8 13) = stolonlaw11_GraphSets.T13 := by kernel_rfl
theorem stolonlaw11_GraphSets.bits13 : waitsOk stolonlaw11_GraphSets.T13.2 stolonlaw11_GraphSets.B13 = true := by kernel_rfl
set_option maxHeartbeats 8000000 in
set_option maxRecDepth 100000 in
theorem stolonlaw11_GraphSets.calls (k : Nat) (a0_0 : Int) (A0_1 : Option Addr) (c0_1 : Nat) (l0_1 : List (S41)) (a1 : Int) (a2 : Bool) (r : Bool) (w : World) (hr0_1 : Kd.C k41 w A0_1 l0_1.length l0_1) (hc0_1 : l0_1.length ≤ c0_1) (hTrue : Aside0 (r = true)) (h : stolonlaw11_GraphSets.f k a0_0 l0_1 a1 a2 = some r) :
    Calls Try.prog 8 #[.agg #[.int .i64 a0_0, .slice A0_1 l0_1.length c0_1], .int .i64 a1, .bool a2] w fun e w' => e = .returned (.bool r) ∧ Below w.heap.size w w' := by
  have hu24 := Try.underlying24
  have hu41 := Try.underlying41
  have HR0_1 := Aside0.mk hr0_1
  have HC0_1 := Aside0.mk hc0_1
  clear hr0_1 hc0_1
  have HB := Aside0.mk (Below.refl w.heap.size w)
  have H : ((stolonlaw11_shown.f k).bind fun t325 => ((stolonref11_Right.f k a0_0 l0_1).bind fun t326 => (if t326 = true then (if a1 < 0 then (stolonlaw11_GraphSets.j0 k a1 a2 t325 true a0_0 l0_1) else (stolonlaw11_GraphSets.j0 k a1 a2 t325 (decide (a1 ≥ (l0_1.length : Int))) a0_0 l0_1)) else (stolonlaw11_GraphSets.j0 k a1 a2 t325 true a0_0 l0_1)))) = some r := h
  clear h
  replace H := Option.bind_eq_some_iff.mp H
  obtain ⟨t325, A40, H⟩ := H
  replace H : ((stolonref11_Right.f k a0_0 l0_1).bind fun t326 => (if t326 = true then (if a1 < 0 then (stolonlaw11_GraphSets.j0 k a1 a2 t325 true a0_0 l0_1) else (stolonlaw11_GraphSets.j0 k a1 a2 t325 (decide (a1 ≥ (l0_1.length : Int))) a0_0 l0_1)) else (stolonlaw11_GraphSets.j0 k a1 a2 t325 true a0_0 l0_1))) = some r := H
  have A4 := Aside0.mk A40
  clear A40
  have HC5 := Aside0.mk H
  clear H
  go_enter Try.func8, Try.ntmps8
  go_upto_region 2 with (first | ((with_reducible refine gate_dst (N := 3) rfl ?_); (try (refine gate_guard (by rfl) ?_; dsimp only)); refine box_event ?hg (N := 3) ?hd (cs := #[.int .i64 a0_0, .slice A0_1 l0_1.length c0_1]) (t := 24) ?hr ?_; (case hd => rfl); (case hg => rfl); (case hr => first | (go_simp; done) | (go_simp; rfl)); intro gb324 hg w6 hbox hb; have n0_ := Aside0.mk (below_step (by repeat (first | (with_reducible first | exact HB.out | apply below_alloc | apply pw_below_drewN | apply below_drew1) | exact HB.out)) hb); have n1_ := Aside0.mk (hbox); have n2_ := Aside0.mk ((by rw [hg]; exact (below_size (by repeat (first | (with_reducible first | exact HB.out | apply below_alloc | apply pw_below_drewN | apply below_drew1) | exact HB.out))) : w.heap.size ≤ gb324)); have n3_ := Aside0.mk ((by rw [hg]; exact (below_size (by repeat (first | (with_reducible first | exact HB.out | apply below_alloc | apply pw_below_drewN | apply below_drew1) | exact HB.out))) : w.heap.size ≤ gb324)); clear HB; have HB := n0_; have BK324 := n1_; have GW324 := n2_; have GE324 := n3_; clear n0_ n1_ n2_ n3_; clear hb hbox hg) | ((with_reducible refine gate_callee (f := 9) rfl ?_); refine goesL_ (some 13) rfl rfl Try.func9 (by kernel_rfl) rfl #[] rfl (by (try simp only [List.map_toArray, List.map_cons, List.map_nil]); first | done | rfl | (simp only [List.length_drop, List.length_take]; rfl)) ?_; (with_reducible refine (stolonlaw11_shown.calls k  t325 _ A4.out).mono ?_); rintro e w7 ⟨rfl, hb⟩; refine ⟨_, rfl, ?_⟩; have n0_ := Aside0.mk (blk_below (g := gb324) (o := .cells #[.int .i64 a0_0, .slice A0_1 l0_1.length c0_1] 24 (0, 0)) (by (with_reducible repeat (first | refine blk_drewN ?_ _ | refine blk_drew ?_ | refine blk_alloc ?_ _)); exact BK324.out) hb); have n1_ := Aside0.mk (below_step (by repeat (first | (with_reducible first | exact HB.out | apply below_alloc | apply pw_below_drewN | apply below_drew1 | refine below_set ?_ GE324.out) | exact HB.out)) hb); clear BK324; clear HB; have BK324 := n0_; have HB := n1_; clear n0_ n1_; (try clear hb); (try clear hb2); (try clear hk); (try clear hi)))
  (try simp only [Act.put, List.setIfInBounds_toArray, List.set_cons_zero, List.set_cons_succ])
  go_cut [27] (fun v27 wc => ∃ (kq : Nat) (x27_4 : Bool), v27 = .bool x27_4 ∧ Aside0 (stolonlaw11_GraphSets.j0 kq a1 a2 t325 x27_4 a0_0 l0_1 = some r) ∧ Aside0 (kq ≤ k) ∧ Aside0 (wc.heap[gb324]? = some (.cells #[.int .i64 a0_0, (.slice A0_1 l0_1.length c0_1)] 24 (0, 0))) ∧ Aside0 (Below w.heap.size w wc))
  case first =>
    have H := HC5.out
    clear HC5
    replace H := Option.bind_eq_some_iff.mp H
    obtain ⟨t326, A80, H⟩ := H
    replace H : (if t326 = true then (if a1 < 0 then (stolonlaw11_GraphSets.j0 k a1 a2 t325 true a0_0 l0_1) else (stolonlaw11_GraphSets.j0 k a1 a2 t325 (decide (a1 ≥ (l0_1.length : Int))) a0_0 l0_1)) else (stolonlaw11_GraphSets.j0 k a1 a2 t325 true a0_0 l0_1)) = some r := H
    have A8 := Aside0.mk A80
    clear A80
    by_cases c9 : t326 = true
    · subst c9
      have H1 : (if a1 < 0 then (stolonlaw11_GraphSets.j0 k a1 a2 t325 true a0_0 l0_1) else (stolonlaw11_GraphSets.j0 k a1 a2 t325 (decide (a1 ≥ (l0_1.length : Int))) a0_0 l0_1)) = some r := by rw [if_pos rfl] at H; exact H
      clear H
      have H := H1
      clear H1
      by_cases c10 : a1 < 0
      · rw [if_pos c10] at H
        have c10b0 : decide (a1 < 0) = true := decide_eq_true c10
        clear c10
        (first | rw [c10b0] | (simp only [i64_w, i32_w]; rw [c10b0]) | skip)
        have H' := Aside0.mk H
        clear H
        have hcz11_0 : w7.cell? ⟨gb324, 0, none⟩ = some (.int .i64 a0_0) := (blk_cell BK324.out 0).trans rfl
        have hcz11_1 : w7.cell? ⟨gb324, 1, none⟩ = some (.slice A0_1 l0_1.length c0_1) := (blk_cell BK324.out 1).trans rfl
        have hfz11_0 := blk_frozen BK324.out 0
        have hfz11_1 := blk_frozen BK324.out 1
        go_wp2_with (first | ((with_reducible refine gate_callee (f := 10) rfl ?_); refine goesL_ (some 15) rfl rfl Try.func10 (by kernel_rfl) rfl #[.agg #[.int .i64 a0_0, .slice A0_1 l0_1.length c0_1]] rfl (by (try simp only [List.map_toArray, List.map_cons, List.map_nil]); first | done | rfl | (simp only [List.length_drop, List.length_take]; rfl)) ?_; (with_reducible refine (stolonref11_Right.calls k a0_0 _ _ l0_1 true _ ?side1 ?side2 A8.out).mono ?_); (case side1 => repeat (first | exact (Kd.C_below HR0_1.out HB.out) | (with_reducible refine Kd.C_alloc ?_ _) | (with_reducible refine Kd.C_drewN ?_ _) | (with_reducible refine Kd.C_drew ?_))); (case side2 => exact HC0_1.out); rintro e w12 ⟨rfl, hb⟩; refine ⟨_, rfl, ?_⟩; have n0_ := Aside0.mk (blk_below (g := gb324) (o := .cells #[.int .i64 a0_0, .slice A0_1 l0_1.length c0_1] 24 (0, 0)) (by (with_reducible repeat (first | refine blk_drewN ?_ _ | refine blk_drew ?_ | refine blk_alloc ?_ _)); exact BK324.out) hb); have n1_ := Aside0.mk (below_step (by repeat (first | (with_reducible first | exact HB.out | apply below_alloc | apply pw_below_drewN | apply below_drew1 | refine below_set ?_ GE324.out) | exact HB.out)) hb); clear BK324; clear HB; have BK324 := n0_; have HB := n1_; clear n0_ n1_; (try clear hb); (try clear hb2); (try clear hk); (try clear hi)))
        go_meet
        case rel => exact ⟨_, (true), (by first | rfl | (simp; done) | (simp [*]; done)), H', ⟨by first | omega | exact Nat.le_refl _⟩, ⟨by (with_reducible repeat (first | refine blk_drewN ?_ _ | refine blk_drew ?_ | refine blk_alloc ?_ _)); exact BK324.out⟩, ⟨by repeat (first | (with_reducible first | exact HB.out | apply below_alloc | apply pw_below_drewN | apply below_drew1 | refine below_set ?_ GE324.out) | exact HB.out)⟩⟩
      · rw [if_neg c10] at H
        have c10b0 : decide (a1 < 0) = false := decide_eq_false c10
        clear c10
        (first | rw [c10b0] | (simp only [i64_w, i32_w]; rw [c10b0]) | skip)
        have H' := Aside0.mk H
        clear H
        have hcz13_0 : w7.cell? ⟨gb324, 0, none⟩ = some (.int .i64 a0_0) := (blk_cell BK324.out 0).trans rfl
        have hcz13_1 : w7.cell? ⟨gb324, 1, none⟩ = some (.slice A0_1 l0_1.length c0_1) := (blk_cell BK324.out 1).trans rfl
        have hfz13_0 := blk_frozen BK324.out 0
        have hfz13_1 := blk_frozen BK324.out 1
        go_wp2_with (first | ((with_reducible refine gate_callee (f := 10) rfl ?_); refine goesL_ (some 15) rfl rfl Try.func10 (by kernel_rfl) rfl #[.agg #[.int .i64 a0_0, .slice A0_1 l0_1.length c0_1]] rfl (by (try simp only [List.map_toArray, List.map_cons, List.map_nil]); first | done | rfl | (simp only [List.length_drop, List.length_take]; rfl)) ?_; (with_reducible refine (stolonref11_Right.calls k a0_0 _ _ l0_1 true _ ?side1 ?side2 A8.out).mono ?_); (case side1 => repeat (first | exact (Kd.C_below HR0_1.out HB.out) | (with_reducible refine Kd.C_alloc ?_ _) | (with_reducible refine Kd.C_drewN ?_ _) | (with_reducible refine Kd.C_drew ?_))); (case side2 => exact HC0_1.out); rintro e w14 ⟨rfl, hb⟩; refine ⟨_, rfl, ?_⟩; have n0_ := Aside0.mk (blk_below (g := gb324) (o := .cells #[.int .i64 a0_0, .slice A0_1 l0_1.length c0_1] 24 (0, 0)) (by (with_reducible repeat (first | refine blk_drewN ?_ _ | refine blk_drew ?_ | refine blk_alloc ?_ _)); exact BK324.out) hb); have n1_ := Aside0.mk (below_step (by repeat (first | (with_reducible first | exact HB.out | apply below_alloc | apply pw_below_drewN | apply below_drew1 | refine below_set ?_ GE324.out) | exact HB.out)) hb); clear BK324; clear HB; have BK324 := n0_; have HB := n1_; clear n0_ n1_; (try clear hb); (try clear hb2); (try clear hk); (try clear hi); have hcz15_0 : w14.cell? ⟨gb324, 0, none⟩ = some (.int .i64 a0_0) := (blk_cell BK324.out 0).trans rfl; have hcz15_1 : w14.cell? ⟨gb324, 1, none⟩ = some (.slice A0_1 l0_1.length c0_1) := (blk_cell BK324.out 1).trans rfl; have hfz15_0 := blk_frozen BK324.out 0; have hfz15_1 := blk_frozen BK324.out 1))
        go_meet
        case rel => exact ⟨_, (decide (a1 ≥ (l0_1.length : Int))), (by first | rfl | (simp; done) | (simp [*]; done)), H', ⟨by first | omega | exact Nat.le_refl _⟩, ⟨by (with_reducible repeat (first | refine blk_drewN ?_ _ | refine blk_drew ?_ | refine blk_alloc ?_ _)); exact BK324.out⟩, ⟨by repeat (first | (with_reducible first | exact HB.out | apply below_alloc | apply pw_below_drewN | apply below_drew1 | refine below_set ?_ GE324.out) | exact HB.out)⟩⟩
    · replace c9 := Bool.eq_false_iff.mpr c9
      subst c9
      have H1 : (stolonlaw11_GraphSets.j0 k a1 a2 t325 true a0_0 l0_1) = some r := by rw [if_neg (show ¬ (false = true) by decide)] at H; exact H
      clear H
      have H := H1
      clear H1
      have H' := Aside0.mk H
      clear H
      have hcz16_0 : w7.cell? ⟨gb324, 0, none⟩ = some (.int .i64 a0_0) := (blk_cell BK324.out 0).trans rfl
      have hcz16_1 : w7.cell? ⟨gb324, 1, none⟩ = some (.slice A0_1 l0_1.length c0_1) := (blk_cell BK324.out 1).trans rfl
      have hfz16_0 := blk_frozen BK324.out 0
      have hfz16_1 := blk_frozen BK324.out 1
      go_wp2_with (first | ((with_reducible refine gate_callee (f := 10) rfl ?_); refine goesL_ (some 15) rfl rfl Try.func10 (by kernel_rfl) rfl #[.agg #[.int .i64 a0_0, .slice A0_1 l0_1.length c0_1]] rfl (by (try simp only [List.map_toArray, List.map_cons, List.map_nil]); first | done | rfl | (simp only [List.length_drop, List.length_take]; rfl)) ?_; (with_reducible refine (stolonref11_Right.calls k a0_0 _ _ l0_1 false _ ?side1 ?side2 A8.out).mono ?_); (case side1 => repeat (first | exact (Kd.C_below HR0_1.out HB.out) | (with_reducible refine Kd.C_alloc ?_ _) | (with_reducible refine Kd.C_drewN ?_ _) | (with_reducible refine Kd.C_drew ?_))); (case side2 => exact HC0_1.out); rintro e w17 ⟨rfl, hb⟩; refine ⟨_, rfl, ?_⟩; have n0_ := Aside0.mk (blk_below (g := gb324) (o := .cells #[.int .i64 a0_0, .slice A0_1 l0_1.length c0_1] 24 (0, 0)) (by (with_reducible repeat (first | refine blk_drewN ?_ _ | refine blk_drew ?_ | refine blk_alloc ?_ _)); exact BK324.out) hb); have n1_ := Aside0.mk (below_step (by repeat (first | (with_reducible first | exact HB.out | apply below_alloc | apply pw_below_drewN | apply below_drew1 | refine below_set ?_ GE324.out) | exact HB.out)) hb); clear BK324; clear HB; have BK324 := n0_; have HB := n1_; clear n0_ n1_; (try clear hb); (try clear hb2); (try clear hk); (try clear hi)))
      go_meet
      case rel => exact ⟨_, (true), (by first | rfl | (simp; done) | (simp [*]; done)), H', ⟨by first | omega | exact Nat.le_refl _⟩, ⟨by (with_reducible repeat (first | refine blk_drewN ?_ _ | refine blk_drew ?_ | refine blk_alloc ?_ _)); exact BK324.out⟩, ⟨by repeat (first | (with_reducible first | exact HB.out | apply below_alloc | apply pw_below_drewN | apply below_drew1 | refine below_set ?_ GE324.out) | exact HB.out)⟩⟩
  case rest =>
    clear HC5
    try clear c1
    try clear p2
    try clear c8
    try clear c9
    try clear c10
    try clear c10b0
    try clear hcz11_0
    try clear hcz11_1
    try clear hcz13_0
    try clear hcz13_1
    try clear hcz15_0
    try clear hcz15_1
    try clear hcz16_0
    try clear hcz16_1
    try clear hfz11_0
    try clear hfz11_1
    try clear hfz13_0
    try clear hfz13_1
    try clear hfz15_0
    try clear hfz15_1
    try clear hfz16_0
    try clear hfz16_1
    obtain ⟨kq, x27_4, rfl, HA, HJ4, BK324, HB⟩ := hcut
    cases kq with
    | zero => exact absurd HA.out (by simp [stolonlaw11_GraphSets.j0])
    | succ kj4 =>
      have H := HA.out
      clear HA
      simp only [stolonlaw11_GraphSets.j0] at H
      by_cases c18 : x27_4 = true
      · subst c18
        have H1 : (some t325) = some r := by rw [if_pos rfl] at H; exact H
        clear H
        have H := H1
        clear H1
        obtain rfl := Option.some.inj H
        go_wp2
        go_ret
        exact ⟨by first | rfl | (simp [errW_none, errW_some] <;> rfl) | (simp [*, errW_none, errW_some] <;> rfl), by repeat (first | (with_reducible first | exact HB.out | apply below_alloc | apply pw_below_drewN | apply below_drew1 | refine below_set ?_ GE324.out) | exact HB.out)⟩
      · replace c18 := Bool.eq_false_iff.mpr c18
        subst c18
        have H1 : ((graph_Set.f a0_0 l0_1 a1 a2).bind fun bt327 => (if bt327.2.2 = 0 then (if (bt327.2.1.length : Int) = (l0_1.length : Int) then (if 0 ≤ a1 then (if a1 < (bt327.2.1.length : Int) then (stolonlaw11_GraphSets.j1 kj4 a1 a2 t325 (((rd_T41 bt327.2.1 a1).f3) != a2) a0_0 l0_1 bt327.1 bt327.2.1) else (none)) else (none)) else (stolonlaw11_GraphSets.j1 kj4 a1 a2 t325 true a0_0 l0_1 bt327.1 bt327.2.1)) else (stolonlaw11_GraphSets.j1 kj4 a1 a2 t325 true a0_0 l0_1 bt327.1 bt327.2.1))) = some r := by rw [if_neg (show ¬ (false = true) by decide)] at H; exact H
        clear H
        have H := H1
        clear H1
        replace H := Option.bind_eq_some_iff.mp H
        obtain ⟨⟨t327, t328, t331⟩, A190, H⟩ := H
        replace H : (if t331 = 0 then (if (t328.length : Int) = (l0_1.length : Int) then (if 0 ≤ a1 then (if a1 < (t328.length : Int) then (stolonlaw11_GraphSets.j1 kj4 a1 a2 t325 (((rd_T41 t328 a1).f3) != a2) a0_0 l0_1 t327 t328) else (none)) else (none)) else (stolonlaw11_GraphSets.j1 kj4 a1 a2 t325 true a0_0 l0_1 t327 t328)) else (stolonlaw11_GraphSets.j1 kj4 a1 a2 t325 true a0_0 l0_1 t327 t328)) = some r := H
        have A19 := Aside0.mk A190
        clear A190
        have HC20 := Aside0.mk H
        clear H
        have hcz21_0 : wc.cell? ⟨gb324, 0, none⟩ = some (.int .i64 a0_0) := (blk_cell BK324.out 0).trans rfl
        have hcz21_1 : wc.cell? ⟨gb324, 1, none⟩ = some (.slice A0_1 l0_1.length c0_1) := (blk_cell BK324.out 1).trans rfl
        have hfz21_0 := blk_frozen BK324.out 0
        have hfz21_1 := blk_frozen BK324.out 1
        go_upto_region 5 with (first | ((with_reducible refine gate_callee (f := 22) rfl ?_); refine goesL_ (some 33) rfl rfl Try.func22 (by kernel_rfl) rfl #[.agg #[.int .i64 a0_0, .slice A0_1 l0_1.length c0_1], .int .i64 a1, .bool a2] rfl (by (try simp only [List.map_toArray, List.map_cons, List.map_nil]); first | done | rfl | (simp only [List.length_drop, List.length_take]; rfl)) ?_; (with_reducible refine (graph_Set.calls a0_0 (fun k_ => k_ < w.heap.size) _ _ l0_1 a1 a2 t327 t328 t331 _ ?side1 A19.out).mono ?_); (case side1 => exact Kd.V_mk HC0_1.out (Kd.F_below (Kd.C_F k41_heap HR0_1.out) (by repeat (first | (with_reducible first | exact HB.out | apply below_alloc | apply pw_below_drewN | apply below_drew1 | refine below_set ?_ GE324.out) | exact HB.out)))); rintro e w22 ⟨v329, rfl, ho0, hb⟩; refine ⟨_, rfl, ?_⟩; have n0_ := Aside0.mk (Kd.V_lower (Kd.V_mono (ok' := fun k_ => k_ ≠ gb324) ho0 (fun k_ hk_ => Or.elim hk_ (fun hs_ => fun e_ => Nat.not_le.2 hs_ (by rw [e_]; exact GW324.out)) (fun hn_ => (Kd.freshB (g := gb324) (o := .cells #[.int .i64 a0_0, .slice A0_1 l0_1.length c0_1] 24 (0, 0)) (by (with_reducible repeat (first | refine blk_drewN ?_ _ | refine blk_drew ?_ | refine blk_alloc ?_ _)); exact BK324.out) k_ hn_)))) (below_size (by repeat (first | (with_reducible first | exact HB.out | apply below_alloc | apply pw_below_drewN | apply below_drew1 | refine below_set ?_ GE324.out) | exact HB.out)))); have n1_ := Aside0.mk (blk_below (g := gb324) (o := .cells #[.int .i64 a0_0, .slice A0_1 l0_1.length c0_1] 24 (0, 0)) (by (with_reducible repeat (first | refine blk_drewN ?_ _ | refine blk_drew ?_ | refine blk_alloc ?_ _)); exact BK324.out) hb); have n2_ := Aside0.mk (below_step (by repeat (first | (with_reducible first | exact HB.out | apply below_alloc | apply pw_below_drewN | apply below_drew1 | refine below_set ?_ GE324.out) | exact HB.out)) hb); clear BK324; clear HB; have HO330 := n0_; have BK324 := n1_; have HB := n2_; clear n0_ n1_ n2_; (try clear hb); (try clear hb2); (try clear hk); (try clear hi); (try clear ho0)) | ((with_reducible refine gate_dst (N := 8) rfl ?_); (try (refine gate_guard (by rfl) ?_; dsimp only)); refine box_event ?hg (N := 8) ?hd (cs := #[.int .i64 0, .slice none 0 0]) (t := 24) ?hr ?_; (case hd => rfl); (case hg => rfl); (case hr => first | (go_simp; done) | (go_simp; rfl)); intro gb332 hg w23 hbox hb; have n0_ := Aside0.mk (Kd.V_below (Kd.V_elderB (by (with_reducible repeat (first | apply Kd.V_alloc | apply Kd.V_drewN | apply Kd.V_drew)); exact HO330.out) gb332 (Nat.le_of_eq hg.symm)) hb); have n1_ := Aside0.mk (blk_below (g := gb324) (o := .cells #[.int .i64 a0_0, .slice A0_1 l0_1.length c0_1] 24 (0, 0)) (by (with_reducible repeat (first | refine blk_drewN ?_ _ | refine blk_drew ?_ | refine blk_alloc ?_ _)); exact BK324.out) hb); have n2_ := Aside0.mk (below_step (by repeat (first | (with_reducible first | exact HB.out | apply below_alloc | apply pw_below_drewN | apply below_drew1 | refine below_set ?_ GE324.out) | exact HB.out)) hb); have n3_ := Aside0.mk (hbox); have n4_ := Aside0.mk ((by rw [hg]; exact (below_size (by repeat (first | (with_reducible first | exact HB.out | apply below_alloc | apply pw_below_drewN | apply below_drew1 | refine below_set ?_ GE324.out) | exact HB.out))) : w.heap.size ≤ gb332)); have n5_ := Aside0.mk ((by rw [hg]; exact (below_size (by repeat (first | (with_reducible first | exact HB.out | apply below_alloc | apply pw_below_drewN | apply below_drew1 | refine below_set ?_ GE324.out) | exact HB.out))) : w.heap.size ≤ gb332)); have n6_ := Aside0.mk ((by rw [hg]; exact Nat.ne_of_lt (blk_lt (g := gb324) (o := .cells #[.int .i64 a0_0, .slice A0_1 l0_1.length c0_1] 24 (0, 0)) (by (with_reducible repeat (first | refine blk_drewN ?_ _ | refine blk_drew ?_ | refine blk_alloc ?_ _)); exact BK324.out)) : gb324 ≠ gb332)); have n7_ := Aside0.mk ((by rw [hg]; exact Nat.ne_of_gt (blk_lt (g := gb324) (o := .cells #[.int .i64 a0_0, .slice A0_1 l0_1.length c0_1] 24 (0, 0)) (by (with_reducible repeat (first | refine blk_drewN ?_ _ | refine blk_drew ?_ | refine blk_alloc ?_ _)); exact BK324.out)) : gb332 ≠ gb324)); clear HO330; clear BK324; clear HB; have HO330 := n0_; have BK324 := n1_; have HB := n2_; have BK332 := n3_; have GW332 := n4_; have GE332 := n5_; have NB324_332 := n6_; have NB332_324 := n7_; clear n0_ n1_ n2_ n3_ n4_ n5_ n6_ n7_; clear hb hbox hg; have hnb24 := NB332_324.out; have hnc24 := NB324_332.out; have hcz25_0 : w23.cell? ⟨gb332, 0, none⟩ = some (.int .i64 0) := (blk_cell BK332.out 0).trans rfl; have hcz25_1 : w23.cell? ⟨gb332, 1, none⟩ = some (.slice none 0 0) := (blk_cell BK332.out 1).trans rfl; have hfz25_0 := blk_frozen BK332.out 0; have hfz25_1 := blk_frozen BK332.out 1; obtain ⟨Ao26, co26, eo26⟩ := Kd.V_slice HO330.out; subst eo26))
        (try simp only [Act.put, List.setIfInBounds_toArray, List.set_cons_zero, List.set_cons_succ])
        go_cut [56] (fun v56 wc => ∃ (kq : Nat) (x56_19 : Bool), v56 = .bool x56_19 ∧ Aside0 (stolonlaw11_GraphSets.j1 kq a1 a2 t325 x56_19 a0_0 l0_1 t327 t328 = some r) ∧ Aside0 (kq ≤ kj4) ∧ Aside0 (Kd.V k41 41 wc w.heap.size (fun k_ => k_ ≠ gb324 ∧ k_ ≠ gb332) (.slice Ao26 t328.length co26) t328) ∧ Aside0 (wc.heap[gb324]? = some (.cells #[.int .i64 a0_0, (.slice A0_1 l0_1.length c0_1)] 24 (0, 0))) ∧ Aside0 (wc.heap[gb332]? = some (.cells #[.int .i64 t327, (.slice Ao26 t328.length co26)] 24 (0, 0))) ∧ Aside0 (Below w.heap.size w wc))
        case first =>
          have H := HC20.out
          clear HC20
          by_cases c27 : t331 = 0
          · rw [if_pos c27] at H
            have c27b0 : (t331 == 0) = true := beq_iff_eq.mpr c27
            have c27b1 : (t331 != 0) = false := bne_eq_false_iff_eq.mpr c27
            clear c27
            (first | rw [c27b0] | (simp only [i64_w, i32_w]; rw [c27b0]) | skip)
            by_cases c28 : (t328.length : Int) = (l0_1.length : Int)
            · rw [if_pos c28] at H
              have c28b0 : ((t328.length : Int) == (l0_1.length : Int)) = true := beq_iff_eq.mpr c28
              have c28b1 : ((t328.length : Int) != (l0_1.length : Int)) = false := bne_eq_false_iff_eq.mpr c28
              have c28b2 : (t328.length == l0_1.length) = true := by first | simpa using c28 | (simp at c28 ⊢; omega)
              clear c28
              by_cases c29 : 0 ≤ a1
              · rw [if_pos c29] at H
                have c29b0 : decide (0 ≤ a1) = true := decide_eq_true c29
                clear c29
                by_cases c30 : a1 < (t328.length : Int)
                · rw [if_pos c30] at H
                  have c30b0 : decide (a1 < (t328.length : Int)) = true := decide_eq_true c30
                  clear c30
                  have H' := Aside0.mk H
                  clear H
                  have hnb31 := NB332_324.out
                  have hnc31 := NB324_332.out
                  have hcz32_0 : w23.cell? ⟨gb332, 0, none⟩ = some (.int .i64 0) := (blk_cell BK332.out 0).trans rfl
                  have hcz32_1 : w23.cell? ⟨gb332, 1, none⟩ = some (.slice none 0 0) := (blk_cell BK332.out 1).trans rfl
                  have hfz32_0 := blk_frozen BK332.out 0
                  have hfz32_1 := blk_frozen BK332.out 1
                  have hcz33_0 : w23.cell? ⟨gb324, 0, none⟩ = some (.int .i64 a0_0) := (blk_cell BK324.out 0).trans rfl
                  have hcz33_1 : w23.cell? ⟨gb324, 1, none⟩ = some (.slice A0_1 l0_1.length c0_1) := (blk_cell BK324.out 1).trans rfl
                  have hfz33_0 := blk_frozen BK324.out 0
                  have hfz33_1 := blk_frozen BK324.out 1
                  have p333 : 0 ≤ (a1 : Int) := of_decide_eq_true (by first | (with_reducible assumption) | assumption)
                  have q333 : a1 < (t328.length : Int) := of_decide_eq_true (by first | (with_reducible assumption) | assumption)
                  obtain ⟨ad333, e333, hx333_0, hx333_1, hx333_2, hx333_3⟩ := at_T41 (Kd.V_reads' HO330.out).2.2 a1 p333 q333
                  cases e333
                  have hn333_0 : ad333.block ≠ gb332 := (by have h_ := V_at HO330.out (by have h1_ := p333; have h2_ := q333; omega) (by decide); first | exact h_ | exact h_.1 | exact h_.2 | exact h_.1.1 | exact h_.1.2 | exact h_.2.1 | exact h_.2.2 | exact h_.1.1.1 | exact h_.1.1.2 | exact h_.1.2.1 | exact h_.1.2.2 | exact h_.2.1.1 | exact h_.2.1.2 | exact h_.2.2.1 | exact h_.2.2.2)
                  have hn333_1 : ad333.block ≠ gb332 := (by have h_ := V_at HO330.out (by have h1_ := p333; have h2_ := q333; omega) (by decide); first | exact h_ | exact h_.1 | exact h_.2 | exact h_.1.1 | exact h_.1.2 | exact h_.2.1 | exact h_.2.2 | exact h_.1.1.1 | exact h_.1.1.2 | exact h_.1.2.1 | exact h_.1.2.2 | exact h_.2.1.1 | exact h_.2.1.2 | exact h_.2.2.1 | exact h_.2.2.2)
                  replace hx333_0 := (cell_far (p := ⟨gb332, 0, none⟩) (by first | (rw [add_block]; exact hn333_0) | (show (Addr.add _ _).block ≠ _; rw [add_block]; exact hn333_0) | exact hn333_0) (.int .i64 t327)).trans hx333_0
                  replace hx333_1 := (cell_far (p := ⟨gb332, 0, none⟩) (by first | (rw [add_block]; exact hn333_0) | (show (Addr.add _ _).block ≠ _; rw [add_block]; exact hn333_0) | exact hn333_0) (.int .i64 t327)).trans hx333_1
                  replace hx333_2 := (cell_far (p := ⟨gb332, 0, none⟩) (by first | (rw [add_block]; exact hn333_0) | (show (Addr.add _ _).block ≠ _; rw [add_block]; exact hn333_0) | exact hn333_0) (.int .i64 t327)).trans hx333_2
                  replace hx333_3 := (cell_far (p := ⟨gb332, 0, none⟩) (by first | (rw [add_block]; exact hn333_0) | (show (Addr.add _ _).block ≠ _; rw [add_block]; exact hn333_0) | exact hn333_0) (.int .i64 t327)).trans hx333_3
                  replace hx333_0 := (cell_far (p := ⟨gb332, 1, none⟩) (by first | (rw [add_block]; exact hn333_1) | (show (Addr.add _ _).block ≠ _; rw [add_block]; exact hn333_1) | exact hn333_1) (.slice (some ad333) t328.length co26)).trans hx333_0
                  replace hx333_1 := (cell_far (p := ⟨gb332, 1, none⟩) (by first | (rw [add_block]; exact hn333_1) | (show (Addr.add _ _).block ≠ _; rw [add_block]; exact hn333_1) | exact hn333_1) (.slice (some ad333) t328.length co26)).trans hx333_1
                  replace hx333_2 := (cell_far (p := ⟨gb332, 1, none⟩) (by first | (rw [add_block]; exact hn333_1) | (show (Addr.add _ _).block ≠ _; rw [add_block]; exact hn333_1) | exact hn333_1) (.slice (some ad333) t328.length co26)).trans hx333_2
                  replace hx333_3 := (cell_far (p := ⟨gb332, 1, none⟩) (by first | (rw [add_block]; exact hn333_1) | (show (Addr.add _ _).block ≠ _; rw [add_block]; exact hn333_1) | exact hn333_1) (.slice (some ad333) t328.length co26)).trans hx333_3
                  clear hn333_0
                  clear hn333_1
                  replace p333 := eq_true p333
                  replace q333 := eq_true q333
                  go_wp2
                  go_meet
                  case rel => exact ⟨_, ((((rd_T41 t328 a1).f3) != a2)), (by first | rfl | (simp; done) | (simp [*]; done)), H', ⟨by have := HJ4.out; first | omega | exact Nat.le_refl _⟩, ⟨by (with_reducible repeat (first | apply Kd.V_alloc | apply Kd.V_drewN | apply Kd.V_drew)); exact Kd.V_mono (Kd.V_far (p := ⟨gb332, 1, none⟩) (Kd.V_far (p := ⟨gb332, 0, none⟩) (Kd.V_mono HO330.out (fun k_ hk => (⟨hk, hk.2⟩ : _ ∧ k_ ≠ gb332))) (fun _ hk => hk.2) (.int .i64 t327)) (fun _ hk => hk.2) (.slice (some ad333) t328.length co26)) (fun _ hk => ⟨hk.1.1, hk.1.2⟩)⟩, ⟨by (with_reducible repeat (first | refine blk_drewN ?_ _ | refine blk_drew ?_ | refine blk_alloc ?_ _)); refine blk_far ?_ NB324_332.out _; (with_reducible repeat (first | refine blk_drewN ?_ _ | refine blk_drew ?_ | refine blk_alloc ?_ _)); refine blk_far ?_ NB324_332.out _; (with_reducible repeat (first | refine blk_drewN ?_ _ | refine blk_drew ?_ | refine blk_alloc ?_ _)); exact BK324.out⟩, ⟨by (with_reducible repeat (first | refine blk_drewN ?_ _ | refine blk_drew ?_ | refine blk_alloc ?_ _)); refine blk_put (cs := #[.int .i64 t327, .slice none 0 0]) ?_ 1 _ rfl; (with_reducible repeat (first | refine blk_drewN ?_ _ | refine blk_drew ?_ | refine blk_alloc ?_ _)); refine blk_put (cs := #[.int .i64 0, .slice none 0 0]) ?_ 0 _ rfl; (with_reducible repeat (first | refine blk_drewN ?_ _ | refine blk_drew ?_ | refine blk_alloc ?_ _)); exact BK332.out⟩, ⟨by repeat (first | (with_reducible first | exact HB.out | apply below_alloc | apply pw_below_drewN | apply below_drew1 | refine below_set ?_ GE324.out | refine below_set ?_ GE332.out) | exact HB.out)⟩⟩
                · rw [if_neg c30] at H
                  exact absurd H (by simp)
              · rw [if_neg c29] at H
                exact absurd H (by simp)
            · rw [if_neg c28] at H
              have c28b0 : ((t328.length : Int) == (l0_1.length : Int)) = false := beq_eq_false_iff_ne.mpr c28
              have c28b1 : ((t328.length : Int) != (l0_1.length : Int)) = true := bne_iff_ne.mpr c28
              have c28b2 : (t328.length == l0_1.length) = false := by first | simpa using c28 | (simp at c28 ⊢; omega)
              cases kj4 with
              | zero => exact absurd H (by simp [stolonlaw11_GraphSets.j1])
              | succ k_ =>
                rw [stolonlaw11_GraphSets.j1] at H
                exact absurd ((Option.some.inj ((if_pos rfl).symm.trans H)).trans hTrue.out) (by simp)
          · rw [if_neg c27] at H
            have c27b0 : (t331 == 0) = false := beq_eq_false_iff_ne.mpr c27
            have c27b1 : (t331 != 0) = true := bne_iff_ne.mpr c27
            (first | rw [c27b0] | (simp only [i64_w, i32_w]; rw [c27b0]) | skip)
            cases kj4 with
            | zero => exact absurd H (by simp [stolonlaw11_GraphSets.j1])
            | succ k_ =>
              rw [stolonlaw11_GraphSets.j1] at H
              exact absurd ((Option.some.inj ((if_pos rfl).symm.trans H)).trans hTrue.out) (by simp)
        case rest =>
          clear HC20
          try clear c1
          try clear c2
          try clear p2
          try clear c3
          try clear p3
          try clear q3
          try clear hx3
          try clear c8
          try clear c9
          try clear c10
          try clear c10b0
          try clear c18
          try clear c22
          try clear c24
          try clear c27
          try clear c27b0
          try clear c27b1
          try clear c28
          try clear c28b0
          try clear c28b1
          try clear c28b2
          try clear c29
          try clear c29b0
          try clear c30
          try clear c30b0
          try clear c31
          try clear p33
          try clear q33
          try clear hx33
          try clear hcz11_0
          try clear hcz11_1
          try clear hcz13_0
          try clear hcz13_1
          try clear hcz15_0
          try clear hcz15_1
          try clear hcz16_0
          try clear hcz16_1
          try clear hcz21_0
          try clear hcz21_1
          try clear hcz25_0
          try clear hcz25_1
          try clear hcz32_0
          try clear hcz32_1
          try clear hcz33_0
          try clear hcz33_1
          try clear hfz11_0
          try clear hfz11_1
          try clear hfz13_0
          try clear hfz13_1
          try clear hfz15_0
          try clear hfz15_1
          try clear hfz16_0
          try clear hfz16_1
          try clear hfz21_0
          try clear hfz21_1
          try clear hfz25_0
          try clear hfz25_1
          try clear hfz32_0
          try clear hfz32_1
          try clear hfz33_0
          try clear hfz33_1
          try clear hx333_0
          try clear hx333_1
          try clear hx333_2
          try clear hx333_3
          try clear p2
          try clear p333
          try clear q333
          obtain ⟨kq, x56_19, rfl, HA, HJ19, HO_333001, BK324, BK332, HB⟩ := hcut
          cases kq with
          | zero => exact absurd HA.out (by simp [stolonlaw11_GraphSets.j1])
          | succ kj19 =>
            have H := HA.out
            clear HA
            simp only [stolonlaw11_GraphSets.j1] at H
            by_cases c34 : x56_19 = true
            · subst c34
              have H1 : (some false) = some r := by rw [if_pos rfl] at H; exact H
              clear H
              have H := H1
              clear H1
              exact absurd ((Option.some.inj H).trans hTrue.out) (by simp)
            · replace c34 := Bool.eq_false_iff.mpr c34
              subst c34
              have H1 : (stolonlaw11_GraphSets.l0 kj19 a1 a2 t325 0 a0_0 l0_1 t327 t328) = some r := by rw [if_neg (show ¬ (false = true) by decide)] at H; exact H
              clear H
              have H := H1
              clear H1
              have H' := Aside0.mk H
              clear H
              go_wp2
              go_loopg [10] kj19 (fun kq v10 w' => ∃ (x10_3 : Int), v10 = .int .i64 x10_3 ∧ Aside0 (stolonlaw11_GraphSets.l0 kq a1 a2 t325 x10_3 a0_0 l0_1 t327 t328 = some r) ∧ Aside0 (kq ≤ kj19) ∧ Aside0 (Kd.V k41 41 w' w.heap.size (fun k_ => k_ ≠ gb324 ∧ k_ ≠ gb332) (.slice Ao26 t328.length co26) t328) ∧ Aside0 (w'.heap[gb324]? = some (.cells #[.int .i64 a0_0, (.slice A0_1 l0_1.length c0_1)] 24 (0, 0))) ∧ Aside0 (w'.heap[gb332]? = some (.cells #[.int .i64 t327, (.slice Ao26 t328.length co26)] 24 (0, 0))) ∧ Aside0 (Below w.heap.size w w'))
              case atStart => exact ⟨(0), (by first | rfl | (simp; done) | (simp [*]; done)), H', ⟨Nat.le_refl _⟩, ⟨by (with_reducible repeat (first | apply Kd.V_alloc | apply Kd.V_drewN | apply Kd.V_drew)); exact HO_333001.out⟩, ⟨by (with_reducible repeat (first | refine blk_drewN ?_ _ | refine blk_drew ?_ | refine blk_alloc ?_ _)); exact BK324.out⟩, ⟨by (with_reducible repeat (first | refine blk_drewN ?_ _ | refine blk_drew ?_ | refine blk_alloc ?_ _)); exact BK332.out⟩, ⟨by repeat (first | (with_reducible first | exact HB.out | apply below_alloc | apply pw_below_drewN | apply below_drew1 | refine below_set ?_ GE324.out | refine below_set ?_ GE332.out) | exact HB.out)⟩⟩
              case round =>
                clear H'
                try clear c1
                try clear c2
                try clear p2
                try clear c3
                try clear p3
                try clear q3
                try clear hx3
                try clear c8
                try clear c9
                try clear c10
                try clear c10b0
                try clear c18
                try clear c22
                try clear c24
                try clear c27
                try clear c27b0
                try clear c27b1
                try clear c28
                try clear c28b0
                try clear c28b1
                try clear c28b2
                try clear c29
                try clear c29b0
                try clear c30
                try clear c30b0
                try clear c31
                try clear p33
                try clear q33
                try clear hx33
                try clear c34
                try clear hcz11_0
                try clear hcz11_1
                try clear hcz13_0
                try clear hcz13_1
                try clear hcz15_0
                try clear hcz15_1
                try clear hcz16_0
                try clear hcz16_1
                try clear hcz21_0
                try clear hcz21_1
                try clear hcz25_0
                try clear hcz25_1
                try clear hcz32_0
                try clear hcz32_1
                try clear hcz33_0
                try clear hcz33_1
                try clear hfz11_0
                try clear hfz11_1
                try clear hfz13_0
                try clear hfz13_1
                try clear hfz15_0
                try clear hfz15_1
                try clear hfz16_0
                try clear hfz16_1
                try clear hfz21_0
                try clear hfz21_1
                try clear hfz25_0
                try clear hfz25_1
                try clear hfz32_0
                try clear hfz32_1
                try clear hfz33_0
                try clear hfz33_1
                try clear hx333_0
                try clear hx333_1
                try clear hx333_2
                try clear hx333_3
                try clear p2
                try clear p3
                try clear p33
                try clear p333
                try clear q3
                try clear q33
                try clear q333
                obtain ⟨x10_3, rfl, HA, HK3, HO_333001, BK324, BK332, HB⟩ := hrel
                cases gk with
                | zero => exact absurd HA.out (by simp [stolonlaw11_GraphSets.l0])
                | succ k3 =>
                  have H := HA.out
                  clear HA
                  simp only [stolonlaw11_GraphSets.l0] at H
                  by_cases c35 : x10_3 < (l0_1.length : Int)
                  · rw [if_pos c35] at H
                    have c35b0 : decide (x10_3 < (l0_1.length : Int)) = true := decide_eq_true c35
                    clear c35
                    by_cases c36 : x10_3 = a1
                    · rw [if_pos c36] at H
                      have c36b0 : (x10_3 == a1) = true := beq_iff_eq.mpr c36
                      have c36b1 : (x10_3 != a1) = false := bne_eq_false_iff_eq.mpr c36
                      clear c36
                      have H' := Aside0.mk H
                      clear H
                      have hnb37 := NB324_332.out
                      have hnc37 := NB332_324.out
                      have hcz38_0 : wr.cell? ⟨gb324, 0, none⟩ = some (.int .i64 a0_0) := (blk_cell BK324.out 0).trans rfl
                      have hcz38_1 : wr.cell? ⟨gb324, 1, none⟩ = some (.slice A0_1 l0_1.length c0_1) := (blk_cell BK324.out 1).trans rfl
                      have hfz38_0 := blk_frozen BK324.out 0
                      have hfz38_1 := blk_frozen BK324.out 1
                      try go_wp2
                      have n0_ := Aside0.mk (Kd.V_drew HO_333001.out)
                      have n1_ := Aside0.mk (blk_drew BK324.out)
                      have n2_ := Aside0.mk (blk_drew BK332.out)
                      have n3_ := Aside0.mk (below_drew1 HB.out)
                      clear HO_333001
                      clear BK324
                      clear BK332
                      clear HB
                      have HO_333001 := n0_
                      have BK324 := n1_
                      have BK332 := n2_
                      have HB := n3_
                      clear n0_ n1_ n2_ n3_
                      refine start_ (n := 16) (S := fun w' => True) (ds := []) #[false, false, false, false, false, false, false, false, false, false, false, false, false, false, false, false] (by kernel_rfl) rfl rfl trivial (fun hHeld => ?_); refine with_tabW stolonlaw11_GraphSets.tab10 stolonlaw11_GraphSets.bits10 (fun HT_ HW_ => ?_)
                      generalize wr.drew = w39 at HO_333001 BK324 BK332 HB hHeld ⊢
                      refine pure_ (i := 0) (N := some 64) (v := ?_) (a' := ?_) #[true, false, false, false, false, false, false, false, false, false, false, false, false, false, false, false] rfl rfl (any_of HT_.out (by kernel_rfl)) (fun _ _ _ h => h) (Or.inl ⟨by rfl, ?_⟩) ?_ ?_
                      rotate_left
                      · intro w'
                        go_simp
                        with_reducible rfl
                      rotate_left
                      · simp only [Act.put, List.setIfInBounds_toArray, List.set_cons_zero, List.set_cons_succ, i64_w, i32_w]
                        rfl
                      refine pure_ (i := 1) (N := some 65) (v := ?_) (a' := ?_) #[true, true, false, false, false, false, false, false, false, false, false, false, false, false, false, false] rfl rfl (any_of HT_.out (by kernel_rfl)) (fun _ _ _ h => h) (Or.inl ⟨by rfl, ?_⟩) ?_ ?_
                      rotate_left
                      · intro w'
                        go_simp
                        with_reducible rfl
                      rotate_left
                      · simp only [Act.put, List.setIfInBounds_toArray, List.set_cons_zero, List.set_cons_succ, i64_w, i32_w]
                        rfl
                      refine pure_ (i := 2) (N := some 66) (v := ?_) (a' := ?_) #[true, true, true, false, false, false, false, false, false, false, false, false, false, false, false, false] rfl rfl (any_of HT_.out (by kernel_rfl)) (fun _ _ _ h => h) (Or.inl ⟨by rfl, ?_⟩) ?_ ?_
                      rotate_left
                      · intro w'
                        go_simp
                        with_reducible rfl
                      rotate_left
                      · simp only [Act.put, List.setIfInBounds_toArray, List.set_cons_zero, List.set_cons_succ, i64_w, i32_w]
                        rfl
                      refine pure_ (i := 3) (N := some 67) (v := ?_) (a' := ?_) #[true, true, true, true, false, false, false, false, false, false, false, false, false, false, false, false] rfl rfl (any_of HT_.out (by kernel_rfl)) (fun _ _ _ h => h) (Or.inl ⟨by rfl, ?_⟩) ?_ ?_
                      rotate_left
                      · intro w'
                        go_simp
                        with_reducible rfl
                      rotate_left
                      · simp only [Act.put, List.setIfInBounds_toArray, List.set_cons_zero, List.set_cons_succ, i64_w, i32_w]
                        rfl
                      refine pure_ (i := 4) (N := some 68) (v := undef) (a' := ?_) #[true, true, true, true, true, false, false, false, false, false, false, false, false, false, false, false] rfl rfl (any_of HT_.out (by kernel_rfl)) (fun _ _ _ h => h) (Or.inr ⟨by rfl, rfl⟩) ?_ ?_
                      rotate_left
                      · simp only [Act.put, List.setIfInBounds_toArray, List.set_cons_zero, List.set_cons_succ, i64_w, i32_w]
                        rfl
                      refine pure_ (i := 5) (N := some 69) (v := undef) (a' := ?_) #[true, true, true, true, true, true, false, false, false, false, false, false, false, false, false, false] rfl rfl (any_of HT_.out (by kernel_rfl)) (fun _ _ _ h => h) (Or.inr ⟨by rfl, rfl⟩) ?_ ?_
                      rotate_left
                      · simp only [Act.put, List.setIfInBounds_toArray, List.set_cons_zero, List.set_cons_succ, i64_w, i32_w]
                        rfl
                      refine pure_ (i := 6) (N := some 70) (v := undef) (a' := ?_) #[true, true, true, true, true, true, true, false, false, false, false, false, false, false, false, false] rfl rfl (any_of HT_.out (by kernel_rfl)) (fun _ _ _ h => h) (Or.inr ⟨by rfl, rfl⟩) ?_ ?_
                      rotate_left
                      · simp only [Act.put, List.setIfInBounds_toArray, List.set_cons_zero, List.set_cons_succ, i64_w, i32_w]
                        rfl
                      refine pure_ (i := 7) (N := some 71) (v := undef) (a' := ?_) #[true, true, true, true, true, true, true, true, false, false, false, false, false, false, false, false] rfl rfl (any_of HT_.out (by kernel_rfl)) (fun _ _ _ h => h) (Or.inr ⟨by rfl, rfl⟩) ?_ ?_
                      rotate_left
                      · simp only [Act.put, List.setIfInBounds_toArray, List.set_cons_zero, List.set_cons_succ, i64_w, i32_w]
                        rfl
                      refine pure_ (i := 8) (N := some 72) (v := undef) (a' := ?_) #[true, true, true, true, true, true, true, true, true, false, false, false, false, false, false, false] rfl rfl (any_of HT_.out (by kernel_rfl)) (fun _ _ _ h => h) (Or.inr ⟨by rfl, rfl⟩) ?_ ?_
                      rotate_left
                      · simp only [Act.put, List.setIfInBounds_toArray, List.set_cons_zero, List.set_cons_succ, i64_w, i32_w]
                        rfl
                      refine pure_ (i := 9) (N := some 73) (v := undef) (a' := ?_) #[true, true, true, true, true, true, true, true, true, true, false, false, false, false, false, false] rfl rfl (any_of HT_.out (by kernel_rfl)) (fun _ _ _ h => h) (Or.inr ⟨by rfl, rfl⟩) ?_ ?_
                      rotate_left
                      · simp only [Act.put, List.setIfInBounds_toArray, List.set_cons_zero, List.set_cons_succ, i64_w, i32_w]
                        rfl
                      refine pure_ (i := 10) (N := some 74) (v := undef) (a' := ?_) #[true, true, true, true, true, true, true, true, true, true, true, false, false, false, false, false] rfl rfl (any_of HT_.out (by kernel_rfl)) (fun _ _ _ h => h) (Or.inr ⟨by rfl, rfl⟩) ?_ ?_
                      rotate_left
                      · simp only [Act.put, List.setIfInBounds_toArray, List.set_cons_zero, List.set_cons_succ, i64_w, i32_w]
                        rfl
                      refine pure_ (i := 11) (N := some 75) (v := undef) (a' := ?_) #[true, true, true, true, true, true, true, true, true, true, true, true, false, false, false, false] rfl rfl (any_of HT_.out (by kernel_rfl)) (fun _ _ _ h => h) (Or.inr ⟨by rfl, rfl⟩) ?_ ?_
                      rotate_left
                      · simp only [Act.put, List.setIfInBounds_toArray, List.set_cons_zero, List.set_cons_succ, i64_w, i32_w]
                        rfl
                      refine pure_ (i := 12) (N := some 76) (v := undef) (a' := ?_) #[true, true, true, true, true, true, true, true, true, true, true, true, true, false, false, false] rfl rfl (any_of HT_.out (by kernel_rfl)) (fun _ _ _ h => h) (Or.inr ⟨by rfl, rfl⟩) ?_ ?_
                      rotate_left
                      · simp only [Act.put, List.setIfInBounds_toArray, List.set_cons_zero, List.set_cons_succ, i64_w, i32_w]
                        rfl
                      refine pure_ (i := 13) (N := some 77) (v := undef) (a' := ?_) #[true, true, true, true, true, true, true, true, true, true, true, true, true, true, false, false] rfl rfl (any_of HT_.out (by kernel_rfl)) (fun _ _ _ h => h) (Or.inr ⟨by rfl, rfl⟩) ?_ ?_
                      rotate_left
                      · simp only [Act.put, List.setIfInBounds_toArray, List.set_cons_zero, List.set_cons_succ, i64_w, i32_w]
                        rfl
                      refine pure_ (i := 14) (N := some 78) (v := undef) (a' := ?_) #[true, true, true, true, true, true, true, true, true, true, true, true, true, true, true, false] rfl rfl (any_of HT_.out (by kernel_rfl)) (fun _ _ _ h => h) (Or.inr ⟨by rfl, rfl⟩) ?_ ?_
                      rotate_left
                      · simp only [Act.put, List.setIfInBounds_toArray, List.set_cons_zero, List.set_cons_succ, i64_w, i32_w]
                        rfl
                      refine pure_ (i := 15) (N := some 79) (v := ?_) (a' := ?_) #[true, true, true, true, true, true, true, true, true, true, true, true, true, true, true, true] rfl rfl (any_of HT_.out (by kernel_rfl)) (fun _ _ _ h => h) (Or.inl ⟨by rfl, ?_⟩) ?_ ?_
                      rotate_left
                      · intro w'
                        go_simp
                        with_reducible rfl
                      rotate_left
                      · simp only [Act.put, List.setIfInBounds_toArray, List.set_cons_zero, List.set_cons_succ, i64_w, i32_w]
                        rfl
                      refine done_ (done_of HT_.out (by kernel_rfl)) ?_
                      try go_wp2
                      go_roundg k3
                      case measure => have := HJ4.out; have := HJ19.out; have := HK3.out; omega
                      case rel => exact ⟨(wrap64 (x10_3 + 1)), (by first | rfl | (simp; done) | (simp [*]; done)), H', ⟨by have := HJ4.out; have := HJ19.out; have := HK3.out; omega⟩, ⟨by (with_reducible repeat (first | apply Kd.V_alloc | apply Kd.V_drewN | apply Kd.V_drew)); exact HO_333001.out⟩, ⟨by (with_reducible repeat (first | refine blk_drewN ?_ _ | refine blk_drew ?_ | refine blk_alloc ?_ _)); exact BK324.out⟩, ⟨by (with_reducible repeat (first | refine blk_drewN ?_ _ | refine blk_drew ?_ | refine blk_alloc ?_ _)); exact BK332.out⟩, ⟨by repeat (first | (with_reducible first | exact HB.out | apply below_alloc | apply pw_below_drewN | apply below_drew1 | refine below_set ?_ GE324.out | refine below_set ?_ GE332.out) | exact HB.out)⟩⟩
                    · rw [if_neg c36] at H
                      have c36b0 : (x10_3 == a1) = false := beq_eq_false_iff_ne.mpr c36
                      have c36b1 : (x10_3 != a1) = true := bne_iff_ne.mpr c36
                      by_cases c40 : 0 ≤ x10_3
                      · rw [if_pos c40] at H
                        have c40b0 : decide (0 ≤ x10_3) = true := decide_eq_true c40
                        clear c40
                        by_cases c41 : x10_3 < (t328.length : Int)
                        · rw [if_pos c41] at H
                          have c41b0 : decide (x10_3 < (t328.length : Int)) = true := decide_eq_true c41
                          clear c41
                          by_cases c42 : (!(((rd_T41 t328 x10_3).f0) == ((rd_T41 l0_1 x10_3).f0)) || (!(((rd_T41 t328 x10_3).f1) == ((rd_T41 l0_1 x10_3).f1)) || (!(((rd_T41 t328 x10_3).f2) == ((rd_T41 l0_1 x10_3).f2)) || (!(((rd_T41 t328 x10_3).f3) == ((rd_T41 l0_1 x10_3).f3)))))) = true
                          · rw [if_pos c42] at H
                            have c42b0 : (!(((rd_T41 t328 x10_3).f0) == ((rd_T41 l0_1 x10_3).f0)) || (!(((rd_T41 t328 x10_3).f1) == ((rd_T41 l0_1 x10_3).f1)) || (!(((rd_T41 t328 x10_3).f2) == ((rd_T41 l0_1 x10_3).f2)) || (!(((rd_T41 t328 x10_3).f3) == ((rd_T41 l0_1 x10_3).f3)))))) = true := c42
                            clear c42
                            exact absurd ((Option.some.inj H).trans hTrue.out) (by simp)
                          · rw [if_neg c42] at H
                            have c42b0 : (!(((rd_T41 t328 x10_3).f0) == ((rd_T41 l0_1 x10_3).f0)) || (!(((rd_T41 t328 x10_3).f1) == ((rd_T41 l0_1 x10_3).f1)) || (!(((rd_T41 t328 x10_3).f2) == ((rd_T41 l0_1 x10_3).f2)) || (!(((rd_T41 t328 x10_3).f3) == ((rd_T41 l0_1 x10_3).f3)))))) = false := by simpa using c42
                            clear c42
                            have H' := Aside0.mk H
                            clear H
                            have hnb43 := NB324_332.out
                            have hnc43 := NB332_324.out
                            have hcz44_0 : wr.cell? ⟨gb324, 0, none⟩ = some (.int .i64 a0_0) := (blk_cell BK324.out 0).trans rfl
                            have hcz44_1 : wr.cell? ⟨gb324, 1, none⟩ = some (.slice A0_1 l0_1.length c0_1) := (blk_cell BK324.out 1).trans rfl
                            have hfz44_0 := blk_frozen BK324.out 0
                            have hfz44_1 := blk_frozen BK324.out 1
                            try go_wp2
                            have n0_ := Aside0.mk (Kd.V_drew HO_333001.out)
                            have n1_ := Aside0.mk (blk_drew BK324.out)
                            have n2_ := Aside0.mk (blk_drew BK332.out)
                            have n3_ := Aside0.mk (below_drew1 HB.out)
                            clear HO_333001
                            clear BK324
                            clear BK332
                            clear HB
                            have HO_333001 := n0_
                            have BK324 := n1_
                            have BK332 := n2_
                            have HB := n3_
                            clear n0_ n1_ n2_ n3_
                            have p334 : 0 ≤ (x10_3 : Int) := of_decide_eq_true (by first | (with_reducible assumption) | assumption)
                            have q334 : x10_3 < (t328.length : Int) := of_decide_eq_true (by first | (with_reducible assumption) | assumption)
                            obtain ⟨ad334, e334, hx334_0, hx334_1, hx334_2, hx334_3⟩ := at_T41 (Kd.V_reads' HO_333001.out).2.2 x10_3 p334 q334
                            cases e334
                            replace p334 := eq_true p334
                            replace q334 := eq_true q334
                            have p335 : 0 ≤ (x10_3 : Int) := of_decide_eq_true (by first | (with_reducible assumption) | assumption)
                            have q335 : x10_3 < (l0_1.length : Int) := of_decide_eq_true (by first | (with_reducible assumption) | assumption)
                            obtain ⟨ad335, e335, hx335_0, hx335_1, hx335_2, hx335_3⟩ := at_T41 HR0_1.out x10_3 p335 q335
                            have hw335_3 := hx335_3
                            have hw335_2 := hx335_2
                            have hw335_1 := hx335_1
                            have hw335_0 := hx335_0
                            cases e335
                            replace hx335_0 := (HB.out.cell (World.block_lt_of_cell? w _ hx335_0)).trans hx335_0
                            replace hx335_1 := (HB.out.cell (World.block_lt_of_cell? w _ hx335_1)).trans hx335_1
                            replace hx335_2 := (HB.out.cell (World.block_lt_of_cell? w _ hx335_2)).trans hx335_2
                            replace hx335_3 := (HB.out.cell (World.block_lt_of_cell? w _ hx335_3)).trans hx335_3
                            replace p335 := eq_true p335
                            replace q335 := eq_true q335
                            refine start_ (n := 16) (S := fun w' => w'.cell? ⟨gb332, 0, none⟩ = some (.int .i64 t327) ∧ w'.cell? ⟨gb332, 1, none⟩ = some (.slice (some ad334) t328.length co26) ∧ w'.cell? ⟨gb324, 0, none⟩ = some (.int .i64 a0_0) ∧ w'.cell? ⟨gb324, 1, none⟩ = some (.slice (some ad335) l0_1.length c0_1) ∧ w'.cell? (ad334.add ((x10_3).toNat * 4)) = some (.int .i64 ((rd_T41 t328 x10_3).f0)) ∧ w'.cell? ⟨(ad334.add ((x10_3).toNat * 4)).block, (ad334.add ((x10_3).toNat * 4)).off + 1, none⟩ = some (.int .i64 ((rd_T41 t328 x10_3).f1)) ∧ w'.cell? ⟨(ad334.add ((x10_3).toNat * 4)).block, (ad334.add ((x10_3).toNat * 4)).off + 2, none⟩ = some (.int .i64 ((rd_T41 t328 x10_3).f2)) ∧ w'.cell? ⟨(ad334.add ((x10_3).toNat * 4)).block, (ad334.add ((x10_3).toNat * 4)).off + 3, none⟩ = some (.bool ((rd_T41 t328 x10_3).f3)) ∧ w'.cell? (ad335.add ((x10_3).toNat * 4)) = some (.int .i64 ((rd_T41 l0_1 x10_3).f0)) ∧ w'.cell? ⟨(ad335.add ((x10_3).toNat * 4)).block, (ad335.add ((x10_3).toNat * 4)).off + 1, none⟩ = some (.int .i64 ((rd_T41 l0_1 x10_3).f1)) ∧ w'.cell? ⟨(ad335.add ((x10_3).toNat * 4)).block, (ad335.add ((x10_3).toNat * 4)).off + 2, none⟩ = some (.int .i64 ((rd_T41 l0_1 x10_3).f2)) ∧ w'.cell? ⟨(ad335.add ((x10_3).toNat * 4)).block, (ad335.add ((x10_3).toNat * 4)).off + 3, none⟩ = some (.bool ((rd_T41 l0_1 x10_3).f3))) (ds := []) #[false, false, false, false, false, false, false, false, false, false, false, false, false, false, false, false] (by kernel_rfl) rfl rfl ⟨(blk_cell BK332.out 0).trans rfl, (blk_cell BK332.out 1).trans rfl, (blk_cell BK324.out 0).trans rfl, (blk_cell BK324.out 1).trans rfl, hx334_0, hx334_1, hx334_2, hx334_3, ((HB.out.cell (World.block_lt_of_cell? w _ hw335_0)).trans hw335_0), ((HB.out.cell (World.block_lt_of_cell? w _ hw335_1)).trans hw335_1), ((HB.out.cell (World.block_lt_of_cell? w _ hw335_2)).trans hw335_2), ((HB.out.cell (World.block_lt_of_cell? w _ hw335_3)).trans hw335_3)⟩ (fun hHeld => ?_); refine with_tabW stolonlaw11_GraphSets.tab10 stolonlaw11_GraphSets.bits10 (fun HT_ HW_ => ?_)
                            generalize wr.drew = w45 at HO_333001 BK324 BK332 HB hx334_0 hx334_1 hx334_2 hx334_3 hx335_0 hx335_1 hx335_2 hx335_3 hHeld ⊢
                            refine pure_ (i := 0) (N := some 64) (v := ?_) (a' := ?_) #[true, false, false, false, false, false, false, false, false, false, false, false, false, false, false, false] rfl rfl (any_of HT_.out (by kernel_rfl)) (fun _ _ _ h => h) (Or.inl ⟨by rfl, ?_⟩) ?_ ?_
                            rotate_left
                            · intro w'
                              go_simp
                              with_reducible rfl
                            rotate_left
                            · simp only [Act.put, List.setIfInBounds_toArray, List.set_cons_zero, List.set_cons_succ, i64_w, i32_w]
                              rfl
                            refine pure_ (i := 1) (N := some 65) (v := ?_) (a' := ?_) #[true, true, false, false, false, false, false, false, false, false, false, false, false, false, false, false] rfl rfl (any_of HT_.out (by kernel_rfl)) (fun _ _ _ h => h) (Or.inl ⟨by rfl, ?_⟩) ?_ ?_
                            rotate_left
                            · intro w'
                              go_simp
                              with_reducible rfl
                            rotate_left
                            · simp only [Act.put, List.setIfInBounds_toArray, List.set_cons_zero, List.set_cons_succ, i64_w, i32_w]
                              rfl
                            refine pure_ (i := 2) (N := some 66) (v := ?_) (a' := ?_) #[true, true, true, false, false, false, false, false, false, false, false, false, false, false, false, false] rfl rfl (any_of HT_.out (by kernel_rfl)) (fun _ _ _ h => h) (Or.inl ⟨by rfl, ?_⟩) ?_ ?_
                            rotate_left
                            · intro w'
                              go_simp
                              with_reducible rfl
                            rotate_left
                            · simp only [Act.put, List.setIfInBounds_toArray, List.set_cons_zero, List.set_cons_succ, i64_w, i32_w]
                              rfl
                            refine pure_ (i := 3) (N := some 67) (v := ?_) (a' := ?_) #[true, true, true, true, false, false, false, false, false, false, false, false, false, false, false, false] rfl rfl (any_of HT_.out (by kernel_rfl)) (fun _ _ _ h => h) (Or.inl ⟨by rfl, ?_⟩) ?_ ?_
                            rotate_left
                            · intro w'
                              go_simp
                              with_reducible rfl
                            rotate_left
                            · simp only [Act.put, List.setIfInBounds_toArray, List.set_cons_zero, List.set_cons_succ, i64_w, i32_w]
                              rfl
                            refine pure_ (i := 4) (N := some 68) (v := ?_) (a' := ?_) #[true, true, true, true, true, false, false, false, false, false, false, false, false, false, false, false] rfl rfl (any_of HT_.out (by kernel_rfl)) (fun _ _ _ h => h) (Or.inl ⟨by rfl, ?_⟩) ?_ ?_
                            rotate_left
                            · intro w'
                              go_simp
                              with_reducible rfl
                            rotate_left
                            · simp only [Act.put, List.setIfInBounds_toArray, List.set_cons_zero, List.set_cons_succ, i64_w, i32_w]
                              rfl
                            refine pure_ (i := 6) (N := some 70) (v := ?_) (a' := ?_) #[true, true, true, true, true, false, true, false, false, false, false, false, false, false, false, false] rfl rfl (any_of HT_.out (by kernel_rfl)) (fun _ _ _ h => h) (Or.inl ⟨by rfl, ?_⟩) ?_ ?_
                            rotate_left
                            · intro w'
                              go_simp
                              with_reducible rfl
                            rotate_left
                            · simp only [Act.put, List.setIfInBounds_toArray, List.set_cons_zero, List.set_cons_succ, i64_w, i32_w]
                              rfl
                            refine pure_ (i := 9) (N := some 73) (v := ?_) (a' := ?_) #[true, true, true, true, true, false, true, false, false, true, false, false, false, false, false, false] rfl rfl (any_of HT_.out (by kernel_rfl)) (fun _ _ _ h => h) (Or.inl ⟨by rfl, ?_⟩) ?_ ?_
                            rotate_left
                            · intro w'
                              go_simp
                              with_reducible rfl
                            rotate_left
                            · simp only [Act.put, List.setIfInBounds_toArray, List.set_cons_zero, List.set_cons_succ, i64_w, i32_w]
                              rfl
                            refine pure_ (i := 11) (N := some 75) (v := ?_) (a' := ?_) #[true, true, true, true, true, false, true, false, false, true, false, true, false, false, false, false] rfl rfl (any_of HT_.out (by kernel_rfl)) (fun _ _ _ h => h) (Or.inl ⟨by rfl, ?_⟩) ?_ ?_
                            rotate_left
                            · intro w'
                              go_simp
                              with_reducible rfl
                            rotate_left
                            · simp only [Act.put, List.setIfInBounds_toArray, List.set_cons_zero, List.set_cons_succ, i64_w, i32_w]
                              rfl
                            refine take_ (i := 5) (N := some 69) (v := ?_) (a' := ?_) #[true, true, true, true, true, true, true, false, false, true, false, true, false, false, false, false] rfl rfl (take_ofW HT_.out HW_.out (by kernel_rfl)) (fun _ _ _ h => h) (Or.inl ⟨by rfl, ?_⟩) hHeld ?_ ?_
                            rotate_left
                            · rintro w' ⟨s0, s1, s2, s3, s4, s5, s6, s7, s8, s9, s10, s11⟩
                              (try simp only [add_plain] at s0 s1 s2 s3 s4 s5 s6 s7 s8 s9 s10 s11)
                              go_simp
                              with_reducible rfl
                            rotate_left
                            · simp only [Act.put, List.setIfInBounds_toArray, List.set_cons_zero, List.set_cons_succ, i64_w, i32_w]
                              rfl
                            refine pure_ (i := 7) (N := some 71) (v := ?_) (a' := ?_) #[true, true, true, true, true, true, true, true, false, true, false, true, false, false, false, false] rfl rfl (any_of HT_.out (by kernel_rfl)) (fun _ _ _ h => h) (Or.inl ⟨by rfl, ?_⟩) ?_ ?_
                            rotate_left
                            · intro w'
                              go_simp
                              with_reducible rfl
                            rotate_left
                            · simp only [Act.put, List.setIfInBounds_toArray, List.set_cons_zero, List.set_cons_succ, i64_w, i32_w]
                              rfl
                            refine take_ (i := 8) (N := some 72) (v := ?_) (a' := ?_) #[true, true, true, true, true, true, true, true, true, true, false, true, false, false, false, false] rfl rfl (take_ofW HT_.out HW_.out (by kernel_rfl)) (fun _ _ _ h => h) (Or.inl ⟨by rfl, ?_⟩) hHeld ?_ ?_
                            rotate_left
                            · rintro w' ⟨s0, s1, s2, s3, s4, s5, s6, s7, s8, s9, s10, s11⟩
                              (try simp only [add_plain] at s0 s1 s2 s3 s4 s5 s6 s7 s8 s9 s10 s11)
                              go_simp
                              with_reducible rfl
                            rotate_left
                            · simp only [Act.put, List.setIfInBounds_toArray, List.set_cons_zero, List.set_cons_succ, i64_w, i32_w]
                              rfl
                            refine take_ (i := 10) (N := some 74) (v := ?_) (a' := ?_) #[true, true, true, true, true, true, true, true, true, true, true, true, false, false, false, false] rfl rfl (take_ofW HT_.out HW_.out (by kernel_rfl)) (fun _ _ _ h => h) (Or.inl ⟨by rfl, ?_⟩) hHeld ?_ ?_
                            rotate_left
                            · rintro w' ⟨s0, s1, s2, s3, s4, s5, s6, s7, s8, s9, s10, s11⟩
                              (try simp only [add_plain] at s0 s1 s2 s3 s4 s5 s6 s7 s8 s9 s10 s11)
                              go_simp
                              with_reducible rfl
                            rotate_left
                            · simp only [Act.put, List.setIfInBounds_toArray, List.set_cons_zero, List.set_cons_succ, i64_w, i32_w]
                              rfl
                            refine pure_ (i := 12) (N := some 76) (v := ?_) (a' := ?_) #[true, true, true, true, true, true, true, true, true, true, true, true, true, false, false, false] rfl rfl (any_of HT_.out (by kernel_rfl)) (fun _ _ _ h => h) (Or.inl ⟨by rfl, ?_⟩) ?_ ?_
                            rotate_left
                            · intro w'
                              go_simp
                              with_reducible rfl
                            rotate_left
                            · simp only [Act.put, List.setIfInBounds_toArray, List.set_cons_zero, List.set_cons_succ, i64_w, i32_w]
                              rfl
                            refine take_ (i := 13) (N := some 77) (v := ?_) (a' := ?_) #[true, true, true, true, true, true, true, true, true, true, true, true, true, true, false, false] rfl rfl (take_ofW HT_.out HW_.out (by kernel_rfl)) (fun _ _ _ h => h) (Or.inl ⟨by rfl, ?_⟩) hHeld ?_ ?_
                            rotate_left
                            · rintro w' ⟨s0, s1, s2, s3, s4, s5, s6, s7, s8, s9, s10, s11⟩
                              (try simp only [add_plain] at s0 s1 s2 s3 s4 s5 s6 s7 s8 s9 s10 s11)
                              go_simp
                              with_reducible rfl
                            rotate_left
                            · simp only [Act.put, List.setIfInBounds_toArray, List.set_cons_zero, List.set_cons_succ, i64_w, i32_w]
                              rfl
                            refine pure_ (i := 14) (N := some 78) (v := ?_) (a' := ?_) #[true, true, true, true, true, true, true, true, true, true, true, true, true, true, true, false] rfl rfl (any_of HT_.out (by kernel_rfl)) (fun _ _ _ h => h) (Or.inl ⟨by rfl, ?_⟩) ?_ ?_
                            rotate_left
                            · intro w'
                              go_simp
                              with_reducible rfl
                            rotate_left
                            · simp only [Act.put, List.setIfInBounds_toArray, List.set_cons_zero, List.set_cons_succ, i64_w, i32_w]
                              rfl
                            refine pure_ (i := 15) (N := some 79) (v := ?_) (a' := ?_) #[true, true, true, true, true, true, true, true, true, true, true, true, true, true, true, true] rfl rfl (any_of HT_.out (by kernel_rfl)) (fun _ _ _ h => h) (Or.inl ⟨by rfl, ?_⟩) ?_ ?_
                            rotate_left
                            · intro w'
                              go_simp
                              with_reducible rfl
                            rotate_left
                            · simp only [Act.put, List.setIfInBounds_toArray, List.set_cons_zero, List.set_cons_succ, i64_w, i32_w]
                              rfl
                            refine done_ (done_of HT_.out (by kernel_rfl)) ?_
                            try go_wp2
                            go_roundg k3
                            case measure => have := HJ4.out; have := HJ19.out; have := HK3.out; omega
                            case rel => exact ⟨(wrap64 (x10_3 + 1)), (by first | rfl | (simp; done) | (simp [*]; done)), H', ⟨by have := HJ4.out; have := HJ19.out; have := HK3.out; omega⟩, ⟨by (with_reducible repeat (first | apply Kd.V_alloc | apply Kd.V_drewN | apply Kd.V_drew)); exact HO_333001.out⟩, ⟨by (with_reducible repeat (first | refine blk_drewN ?_ _ | refine blk_drew ?_ | refine blk_alloc ?_ _)); exact BK324.out⟩, ⟨by (with_reducible repeat (first | refine blk_drewN ?_ _ | refine blk_drew ?_ | refine blk_alloc ?_ _)); exact BK332.out⟩, ⟨by repeat (first | (with_reducible first | exact HB.out | apply below_alloc | apply pw_below_drewN | apply below_drew1 | refine below_set ?_ GE324.out | refine below_set ?_ GE332.out) | exact HB.out)⟩⟩
                        · rw [if_neg c41] at H
                          exact absurd H (by simp)
                      · rw [if_neg c40] at H
                        exact absurd H (by simp)
                  · rw [if_neg c35] at H
                    have c35b0 : decide (x10_3 < (l0_1.length : Int)) = false := decide_eq_false c35
                    clear c35
                    by_cases c46 : 0 ≤ a1
                    · rw [if_pos c46] at H
                      have c46b0 : decide (0 ≤ a1) = true := decide_eq_true c46
                      clear c46
                      by_cases c47 : a1 < (l0_1.length : Int)
                      · rw [if_pos c47] at H
                        have c47b0 : decide (a1 < (l0_1.length : Int)) = true := decide_eq_true c47
                        clear c47
                        replace H := Option.bind_eq_some_iff.mp H
                        obtain ⟨⟨t337, t338, t341⟩, A480, H⟩ := H
                        replace H : (if t325 = true then ((graph_Same.f k3 t337 t338 a0_0 l0_1).bind fun t343 => (if t343 = true then ((graph_Same.f k3 t327 t328 a0_0 l0_1).bind fun t344 => (some (t344 == (((rd_T41 l0_1 a1).f3) == a2)))) else (some false))) else (some false)) = some r := H
                        have A48 := Aside0.mk A480
                        clear A480
                        by_cases c49 : t325 = true
                        · subst c49
                          have H1 : ((graph_Same.f k3 t337 t338 a0_0 l0_1).bind fun t343 => (if t343 = true then ((graph_Same.f k3 t327 t328 a0_0 l0_1).bind fun t344 => (some (t344 == (((rd_T41 l0_1 a1).f3) == a2)))) else (some false))) = some r := by rw [if_pos rfl] at H; exact H
                          clear H
                          have H := H1
                          clear H1
                          replace H := Option.bind_eq_some_iff.mp H
                          obtain ⟨t343, A500, H⟩ := H
                          replace H : (if t343 = true then ((graph_Same.f k3 t327 t328 a0_0 l0_1).bind fun t344 => (some (t344 == (((rd_T41 l0_1 a1).f3) == a2)))) else (some false)) = some r := H
                          have A50 := Aside0.mk A500
                          clear A500
                          by_cases c51 : t343 = true
                          · subst c51
                            have H1 : ((graph_Same.f k3 t327 t328 a0_0 l0_1).bind fun t344 => (some (t344 == (((rd_T41 l0_1 a1).f3) == a2)))) = some r := by rw [if_pos rfl] at H; exact H
                            clear H
                            have H := H1
                            clear H1
                            replace H := Option.bind_eq_some_iff.mp H
                            obtain ⟨t344, A520, H⟩ := H
                            replace H : (some (t344 == (((rd_T41 l0_1 a1).f3) == a2))) = some r := H
                            have A52 := Aside0.mk A520
                            clear A520
                            obtain rfl := Option.some.inj H
                            have hnb53 := NB324_332.out
                            have hnc53 := NB332_324.out
                            have hcz54_0 : wr.cell? ⟨gb324, 0, none⟩ = some (.int .i64 a0_0) := (blk_cell BK324.out 0).trans rfl
                            have hcz54_1 : wr.cell? ⟨gb324, 1, none⟩ = some (.slice A0_1 l0_1.length c0_1) := (blk_cell BK324.out 1).trans rfl
                            have hfz54_0 := blk_frozen BK324.out 0
                            have hfz54_1 := blk_frozen BK324.out 1
                            try go_wp2
                            have n0_ := Aside0.mk (Kd.V_drew HO_333001.out)
                            have n1_ := Aside0.mk (blk_drew BK324.out)
                            have n2_ := Aside0.mk (blk_drew BK332.out)
                            have n3_ := Aside0.mk (below_drew1 HB.out)
                            clear HO_333001
                            clear BK324
                            clear BK332
                            clear HB
                            have HO_333001 := n0_
                            have BK324 := n1_
                            have BK332 := n2_
                            have HB := n3_
                            clear n0_ n1_ n2_ n3_
                            have p336 : 0 ≤ (a1 : Int) := of_decide_eq_true (by first | (with_reducible assumption) | assumption)
                            have q336 : a1 < (l0_1.length : Int) := of_decide_eq_true (by first | (with_reducible assumption) | assumption)
                            obtain ⟨ad336, e336, hx336_0, hx336_1, hx336_2, hx336_3⟩ := at_T41 HR0_1.out a1 p336 q336
                            have hw336_3 := hx336_3
                            have hw336_2 := hx336_2
                            have hw336_1 := hx336_1
                            have hw336_0 := hx336_0
                            cases e336
                            replace hx336_0 := (HB.out.cell (World.block_lt_of_cell? w _ hx336_0)).trans hx336_0
                            replace hx336_1 := (HB.out.cell (World.block_lt_of_cell? w _ hx336_1)).trans hx336_1
                            replace hx336_2 := (HB.out.cell (World.block_lt_of_cell? w _ hx336_2)).trans hx336_2
                            replace hx336_3 := (HB.out.cell (World.block_lt_of_cell? w _ hx336_3)).trans hx336_3
                            replace p336 := eq_true p336
                            replace q336 := eq_true q336
                            refine start_ (n := 15) (S := fun w' => w'.cell? ⟨gb332, 0, none⟩ = some (.int .i64 t327) ∧ w'.cell? ⟨gb332, 1, none⟩ = some (.slice Ao26 t328.length co26) ∧ w'.cell? ⟨gb324, 0, none⟩ = some (.int .i64 a0_0) ∧ w'.cell? ⟨gb324, 1, none⟩ = some (.slice (some ad336) l0_1.length c0_1) ∧ w'.cell? (ad336.add ((a1).toNat * 4)) = some (.int .i64 ((rd_T41 l0_1 a1).f0)) ∧ w'.cell? ⟨(ad336.add ((a1).toNat * 4)).block, (ad336.add ((a1).toNat * 4)).off + 1, none⟩ = some (.int .i64 ((rd_T41 l0_1 a1).f1)) ∧ w'.cell? ⟨(ad336.add ((a1).toNat * 4)).block, (ad336.add ((a1).toNat * 4)).off + 2, none⟩ = some (.int .i64 ((rd_T41 l0_1 a1).f2)) ∧ w'.cell? ⟨(ad336.add ((a1).toNat * 4)).block, (ad336.add ((a1).toNat * 4)).off + 3, none⟩ = some (.bool ((rd_T41 l0_1 a1).f3))) (ds := []) #[false, false, false, false, false, false, false, false, false, false, false, false, false, false, false] (by kernel_rfl) rfl rfl ⟨(blk_cell BK332.out 0).trans rfl, (blk_cell BK332.out 1).trans rfl, (blk_cell BK324.out 0).trans rfl, (blk_cell BK324.out 1).trans rfl, ((HB.out.cell (World.block_lt_of_cell? w _ hw336_0)).trans hw336_0), ((HB.out.cell (World.block_lt_of_cell? w _ hw336_1)).trans hw336_1), ((HB.out.cell (World.block_lt_of_cell? w _ hw336_2)).trans hw336_2), ((HB.out.cell (World.block_lt_of_cell? w _ hw336_3)).trans hw336_3)⟩ (fun hHeld => ?_); refine with_tabW stolonlaw11_GraphSets.tab12 stolonlaw11_GraphSets.bits12 (fun HT_ HW_ => ?_)
                            generalize wr.drew = w55 at HO_333001 BK324 BK332 HB hx336_0 hx336_1 hx336_2 hx336_3 hHeld ⊢
                            refine pure_ (i := 1) (N := some 82) (v := ?_) (a' := ?_) #[false, true, false, false, false, false, false, false, false, false, false, false, false, false, false] rfl rfl (any_of HT_.out (by kernel_rfl)) (fun _ _ _ h => h) (Or.inl ⟨by rfl, ?_⟩) ?_ ?_
                            rotate_left
                            · intro w'
                              go_simp
                              with_reducible rfl
                            rotate_left
                            · simp only [Act.put, List.setIfInBounds_toArray, List.set_cons_zero, List.set_cons_succ, i64_w, i32_w]
                              rfl
                            refine pure_ (i := 2) (N := some 83) (v := ?_) (a' := ?_) #[false, true, true, false, false, false, false, false, false, false, false, false, false, false, false] rfl rfl (any_of HT_.out (by kernel_rfl)) (fun _ _ _ h => h) (Or.inl ⟨by rfl, ?_⟩) ?_ ?_
                            rotate_left
                            · intro w'
                              go_simp
                              with_reducible rfl
                            rotate_left
                            · simp only [Act.put, List.setIfInBounds_toArray, List.set_cons_zero, List.set_cons_succ, i64_w, i32_w]
                              rfl
                            refine pure_ (i := 4) (N := some 85) (v := ?_) (a' := ?_) #[false, true, true, false, true, false, false, false, false, false, false, false, false, false, false] rfl rfl (any_of HT_.out (by kernel_rfl)) (fun _ _ _ h => h) (Or.inl ⟨by rfl, ?_⟩) ?_ ?_
                            rotate_left
                            · intro w'
                              go_simp
                              with_reducible rfl
                            rotate_left
                            · simp only [Act.put, List.setIfInBounds_toArray, List.set_cons_zero, List.set_cons_succ, i64_w, i32_w]
                              rfl
                            refine take_ (i := 0) (N := some 81) (v := ?_) (a' := ?_) #[true, true, true, false, true, false, false, false, false, false, false, false, false, false, false] rfl rfl (take_ofW HT_.out HW_.out (by kernel_rfl)) (fun _ _ _ h => h) (Or.inl ⟨by rfl, ?_⟩) hHeld ?_ ?_
                            rotate_left
                            · rintro w' ⟨s0, s1, s2, s3, s4, s5, s6, s7⟩
                              (try simp only [add_plain] at s0 s1 s2 s3 s4 s5 s6 s7)
                              go_simp
                              with_reducible rfl
                            rotate_left
                            · simp only [Act.put, List.setIfInBounds_toArray, List.set_cons_zero, List.set_cons_succ, i64_w, i32_w]
                              rfl
                            refine take_ (i := 3) (N := some 84) (v := ?_) (a' := ?_) #[true, true, true, true, true, false, false, false, false, false, false, false, false, false, false] rfl rfl (take_ofW HT_.out HW_.out (by kernel_rfl)) (fun _ _ _ h => h) (Or.inl ⟨by rfl, ?_⟩) hHeld ?_ ?_
                            rotate_left
                            · rintro w' ⟨s0, s1, s2, s3, s4, s5, s6, s7⟩
                              (try simp only [add_plain] at s0 s1 s2 s3 s4 s5 s6 s7)
                              go_simp
                              with_reducible rfl
                            rotate_left
                            · simp only [Act.put, List.setIfInBounds_toArray, List.set_cons_zero, List.set_cons_succ, i64_w, i32_w]
                              rfl
                            refine pure_ (i := 5) (N := some 86) (v := ?_) (a' := ?_) #[true, true, true, true, true, true, false, false, false, false, false, false, false, false, false] rfl rfl (any_of HT_.out (by kernel_rfl)) (fun _ _ _ h => h) (Or.inl ⟨by rfl, ?_⟩) ?_ ?_
                            rotate_left
                            · intro w'
                              go_simp
                              with_reducible rfl
                            rotate_left
                            · simp only [Act.put, List.setIfInBounds_toArray, List.set_cons_zero, List.set_cons_succ, i64_w, i32_w]
                              rfl
                            refine pure_ (i := 6) (N := some 87) (v := ?_) (a' := ?_) #[true, true, true, true, true, true, true, false, false, false, false, false, false, false, false] rfl rfl (any_of HT_.out (by kernel_rfl)) (fun _ _ _ h => h) (Or.inl ⟨by rfl, ?_⟩) ?_ ?_
                            rotate_left
                            · intro w'
                              go_simp
                              with_reducible rfl
                            rotate_left
                            · simp only [Act.put, List.setIfInBounds_toArray, List.set_cons_zero, List.set_cons_succ, i64_w, i32_w]
                              rfl
                            refine take_ (i := 7) (N := some 88) (v := ?_) (a' := ?_) #[true, true, true, true, true, true, true, true, false, false, false, false, false, false, false] rfl rfl (take_ofW HT_.out HW_.out (by kernel_rfl)) (fun _ _ _ h => h) (Or.inl ⟨by rfl, ?_⟩) hHeld ?_ ?_
                            rotate_left
                            · rintro w' ⟨s0, s1, s2, s3, s4, s5, s6, s7⟩
                              (try simp only [add_plain] at s0 s1 s2 s3 s4 s5 s6 s7)
                              go_simp
                              with_reducible rfl
                            rotate_left
                            · simp only [Act.put, List.setIfInBounds_toArray, List.set_cons_zero, List.set_cons_succ, i64_w, i32_w]
                              rfl
                            refine join_ (σ := Value × Nat) 2 #[true, true, true, true, true, true, true, true, true, true, true, true, true, false, false] (fun s_ => [(89, .tuple #[.agg #[.int .i64 t337, s_.1], .int .i64 t341]), (11, .pointer (some ⟨s_.2, 0, none⟩)), (80, .tuple #[.agg #[.int .i64 t337, s_.1], .int .i64 t341]), (90, .agg #[.int .i64 t337, s_.1]), (91, .int .i64 t341)]) (fun s_ w' => (w'.cell? ⟨gb332, 0, none⟩ = some (.int .i64 t327) ∧ w'.cell? ⟨gb332, 1, none⟩ = some (.slice Ao26 t328.length co26) ∧ w'.cell? ⟨gb324, 0, none⟩ = some (.int .i64 a0_0) ∧ w'.cell? ⟨gb324, 1, none⟩ = some (.slice (some ad336) l0_1.length c0_1) ∧ w'.cell? (ad336.add ((a1).toNat * 4)) = some (.int .i64 ((rd_T41 l0_1 a1).f0)) ∧ w'.cell? ⟨(ad336.add ((a1).toNat * 4)).block, (ad336.add ((a1).toNat * 4)).off + 1, none⟩ = some (.int .i64 ((rd_T41 l0_1 a1).f1)) ∧ w'.cell? ⟨(ad336.add ((a1).toNat * 4)).block, (ad336.add ((a1).toNat * 4)).off + 2, none⟩ = some (.int .i64 ((rd_T41 l0_1 a1).f2)) ∧ w'.cell? ⟨(ad336.add ((a1).toNat * 4)).block, (ad336.add ((a1).toNat * 4)).off + 3, none⟩ = some (.bool ((rd_T41 l0_1 a1).f3))) ∧ (Kd.V k41 41 w' w.heap.size (fun k_ => k_ ≠ gb324 ∧ k_ ≠ gb332 ∧ k_ ≠ s_.2) s_.1 t338) ∧ (Kd.V k41 41 w' w.heap.size (fun k_ => k_ ≠ gb324 ∧ k_ ≠ gb332 ∧ k_ ≠ s_.2) (.slice Ao26 t328.length co26) t328) ∧ (w'.heap[gb324]? = some (.cells #[.int .i64 a0_0, .slice (some ad336) l0_1.length c0_1] 24 (0, 0))) ∧ (w'.heap[gb332]? = some (.cells #[.int .i64 t327, .slice Ao26 t328.length co26] 24 (0, 0))) ∧ (w'.heap[s_.2]? = some (.cells #[.int .i64 0, .slice none 0 0] 24 (0, 0))) ∧ (w.heap.size ≤ s_.2) ∧ (w.heap.size ≤ s_.2) ∧ (gb324 ≠ s_.2) ∧ (s_.2 ≠ gb324) ∧ (gb332 ≠ s_.2) ∧ (s_.2 ≠ gb332) ∧ (Below w.heap.size w w')) ?_ ?_
                            rotate_left
                            · intro hCont
                              refine two_ (i := 8) (j := 12) (Ni := some 89) (Nj := some 11) #[true, true, true, true, true, true, true, true, true, false, false, false, false, false, false] #[true, true, true, true, true, true, true, true, false, false, false, false, true, false, false] rfl rfl rfl rfl (two_of HT_.out (by kernel_rfl)) (by decide) (by decide) (fun K hK => ?_) (fun K hK => ?_)
                              · skip
                                refine goes_ Try.func22 (by kernel_rfl) rfl #[.agg #[.int .i64 t327, .slice Ao26 t328.length co26], .int .i64 a1, .bool ((rd_T41 l0_1 a1).f3)] (by rfl) rfl rfl (by (try simp only [List.map_toArray, List.map_cons, List.map_nil]); first | done | rfl | (simp only [List.length_drop, List.length_take]; rfl)) ?_
                                with_reducible refine (graph_Set.calls t327 (fun k_ => (k_ ≠ gb324 ∧ k_ ≠ gb332)) _ _ t328 a1 ((rd_T41 l0_1 a1).f3) t337 t338 t341 _ ?side1 A48.out).mono ?_
                                (case side1 => exact HO_333001.out)
                                rintro e w56 ⟨v339, rfl, ho0, hb⟩
                                refine ⟨_, rfl, ?_⟩
                                have n0_ := Aside0.mk (Kd.V_below (by (with_reducible repeat (first | apply Kd.V_alloc | apply Kd.V_drewN | apply Kd.V_drew)); exact HO_333001.out) hb)
                                have n1_ := Aside0.mk (Kd.V_lower (Kd.V_mono (ok' := fun k_ => k_ ≠ gb324 ∧ k_ ≠ gb332) ho0 (fun k_ hk_ => ⟨Or.elim hk_ (fun hs_ => hs_.1) (fun hn_ => (Kd.freshB (g := gb324) (o := .cells #[.int .i64 a0_0, .slice (some ad336) l0_1.length c0_1] 24 (0, 0)) (by (with_reducible repeat (first | refine blk_drewN ?_ _ | refine blk_drew ?_ | refine blk_alloc ?_ _)); exact BK324.out) k_ hn_)), Or.elim hk_ (fun hs_ => hs_.2) (fun hn_ => (Kd.freshB (g := gb332) (o := .cells #[.int .i64 t327, .slice Ao26 t328.length co26] 24 (0, 0)) (by (with_reducible repeat (first | refine blk_drewN ?_ _ | refine blk_drew ?_ | refine blk_alloc ?_ _)); exact BK332.out) k_ hn_))⟩)) (below_size (by repeat (first | (with_reducible first | exact HB.out | apply below_alloc | apply pw_below_drewN | apply below_drew1 | refine below_set ?_ GE324.out | refine below_set ?_ GE332.out) | exact HB.out))))
                                have n2_ := Aside0.mk (blk_below (g := gb324) (o := .cells #[.int .i64 a0_0, .slice (some ad336) l0_1.length c0_1] 24 (0, 0)) (by (with_reducible repeat (first | refine blk_drewN ?_ _ | refine blk_drew ?_ | refine blk_alloc ?_ _)); exact BK324.out) hb)
                                have n3_ := Aside0.mk (blk_below (g := gb332) (o := .cells #[.int .i64 t327, .slice Ao26 t328.length co26] 24 (0, 0)) (by (with_reducible repeat (first | refine blk_drewN ?_ _ | refine blk_drew ?_ | refine blk_alloc ?_ _)); exact BK332.out) hb)
                                have n4_ := Aside0.mk (below_step (by repeat (first | (with_reducible first | exact HB.out | apply below_alloc | apply pw_below_drewN | apply below_drew1 | refine below_set ?_ GE324.out | refine below_set ?_ GE332.out) | exact HB.out)) hb)
                                clear HO_333001
                                clear BK324
                                clear BK332
                                clear HB
                                have HO_333001 := n0_
                                have HO340 := n1_
                                have BK324 := n2_
                                have BK332 := n3_
                                have HB := n4_
                                clear n0_ n1_ n2_ n3_ n4_
                                (try clear hb)
                                (try clear hb2)
                                (try clear hk)
                                (try clear hi)
                                (try clear ho0)
                                refine hK.out _ _ ⟨(blk_cell BK332.out 0).trans rfl, (blk_cell BK332.out 1).trans rfl, (blk_cell BK324.out 0).trans rfl, (blk_cell BK324.out 1).trans rfl, ((HB.out.cell (World.block_lt_of_cell? w _ hw336_0)).trans hw336_0), ((HB.out.cell (World.block_lt_of_cell? w _ hw336_1)).trans hw336_1), ((HB.out.cell (World.block_lt_of_cell? w _ hw336_2)).trans hw336_2), ((HB.out.cell (World.block_lt_of_cell? w _ hw336_3)).trans hw336_3)⟩ (fun hHeld => ?_)
                                clear hK K
                                refine norm_ (a' := ?_) ?_ ?_
                                rotate_left
                                · show Act.put _ (some 89) _ = _
                                  simp only [Act.put, List.setIfInBounds_toArray, List.set_cons_zero, List.set_cons_succ, i64_w, i32_w]
                                  rfl
                                refine pure_ (i := 9) (N := some 80) (v := ?_) (a' := ?_) #[true, true, true, true, true, true, true, true, true, true, false, false, false, false, false] rfl rfl (any_of HT_.out (by kernel_rfl)) (fun _ _ _ h => h) (Or.inl ⟨by rfl, ?_⟩) ?_ ?_
                                rotate_left
                                · intro w'
                                  go_simp
                                  with_reducible rfl
                                rotate_left
                                · simp only [Act.put, List.setIfInBounds_toArray, List.set_cons_zero, List.set_cons_succ, i64_w, i32_w]
                                  rfl
                                refine pure_ (i := 10) (N := some 90) (v := ?_) (a' := ?_) #[true, true, true, true, true, true, true, true, true, true, true, false, false, false, false] rfl rfl (any_of HT_.out (by kernel_rfl)) (fun _ _ _ h => h) (Or.inl ⟨by rfl, ?_⟩) ?_ ?_
                                rotate_left
                                · intro w'
                                  go_simp
                                  with_reducible rfl
                                rotate_left
                                · simp only [Act.put, List.setIfInBounds_toArray, List.set_cons_zero, List.set_cons_succ, i64_w, i32_w]
                                  rfl
                                refine pure_ (i := 11) (N := some 91) (v := ?_) (a' := ?_) #[true, true, true, true, true, true, true, true, true, true, true, true, false, false, false] rfl rfl (any_of HT_.out (by kernel_rfl)) (fun _ _ _ h => h) (Or.inl ⟨by rfl, ?_⟩) ?_ ?_
                                rotate_left
                                · intro w'
                                  go_simp
                                  with_reducible rfl
                                rotate_left
                                · simp only [Act.put, List.setIfInBounds_toArray, List.set_cons_zero, List.set_cons_succ, i64_w, i32_w]
                                  rfl
                                refine one_ (i := 12) (N := some 11) #[true, true, true, true, true, true, true, true, true, true, true, true, true, false, false] rfl rfl (one_of HT_.out (by kernel_rfl)) (by decide) (fun K hK => ?_)
                                refine box_step ?hg (N := 11) ?hd (cs := #[.int .i64 0, .slice none 0 0]) (t := 24) ?hr ?_; (case hd => rfl); (case hg => rfl); (case hr => first | (go_simp; done) | (go_simp; rfl))
                                intro gb342 hg w57 hbox hb
                                have n0_ := Aside0.mk (Kd.V_below (Kd.V_elderB (by (with_reducible repeat (first | apply Kd.V_alloc | apply Kd.V_drewN | apply Kd.V_drew)); exact HO_333001.out) gb342 (Nat.le_of_eq hg.symm)) hb)
                                have n1_ := Aside0.mk (Kd.V_below (Kd.V_elderB (by (with_reducible repeat (first | apply Kd.V_alloc | apply Kd.V_drewN | apply Kd.V_drew)); exact HO340.out) gb342 (Nat.le_of_eq hg.symm)) hb)
                                have n2_ := Aside0.mk (blk_below (g := gb324) (o := .cells #[.int .i64 a0_0, .slice (some ad336) l0_1.length c0_1] 24 (0, 0)) (by (with_reducible repeat (first | refine blk_drewN ?_ _ | refine blk_drew ?_ | refine blk_alloc ?_ _)); exact BK324.out) hb)
                                have n3_ := Aside0.mk (blk_below (g := gb332) (o := .cells #[.int .i64 t327, .slice Ao26 t328.length co26] 24 (0, 0)) (by (with_reducible repeat (first | refine blk_drewN ?_ _ | refine blk_drew ?_ | refine blk_alloc ?_ _)); exact BK332.out) hb)
                                have n4_ := Aside0.mk (below_step (by repeat (first | (with_reducible first | exact HB.out | apply below_alloc | apply pw_below_drewN | apply below_drew1 | refine below_set ?_ GE324.out | refine below_set ?_ GE332.out) | exact HB.out)) hb)
                                have n5_ := Aside0.mk (hbox)
                                have n6_ := Aside0.mk ((by rw [hg]; exact (below_size (by repeat (first | (with_reducible first | exact HB.out | apply below_alloc | apply pw_below_drewN | apply below_drew1 | refine below_set ?_ GE324.out | refine below_set ?_ GE332.out) | exact HB.out))) : w.heap.size ≤ gb342))
                                have n7_ := Aside0.mk ((by rw [hg]; exact (below_size (by repeat (first | (with_reducible first | exact HB.out | apply below_alloc | apply pw_below_drewN | apply below_drew1 | refine below_set ?_ GE324.out | refine below_set ?_ GE332.out) | exact HB.out))) : w.heap.size ≤ gb342))
                                have n8_ := Aside0.mk ((by rw [hg]; exact Nat.ne_of_lt (blk_lt (g := gb324) (o := .cells #[.int .i64 a0_0, .slice (some ad336) l0_1.length c0_1] 24 (0, 0)) (by (with_reducible repeat (first | refine blk_drewN ?_ _ | refine blk_drew ?_ | refine blk_alloc ?_ _)); exact BK324.out)) : gb324 ≠ gb342))
                                have n9_ := Aside0.mk ((by rw [hg]; exact Nat.ne_of_gt (blk_lt (g := gb324) (o := .cells #[.int .i64 a0_0, .slice (some ad336) l0_1.length c0_1] 24 (0, 0)) (by (with_reducible repeat (first | refine blk_drewN ?_ _ | refine blk_drew ?_ | refine blk_alloc ?_ _)); exact BK324.out)) : gb342 ≠ gb324))
                                have n10_ := Aside0.mk ((by rw [hg]; exact Nat.ne_of_lt (blk_lt (g := gb332) (o := .cells #[.int .i64 t327, .slice Ao26 t328.length co26] 24 (0, 0)) (by (with_reducible repeat (first | refine blk_drewN ?_ _ | refine blk_drew ?_ | refine blk_alloc ?_ _)); exact BK332.out)) : gb332 ≠ gb342))
                                have n11_ := Aside0.mk ((by rw [hg]; exact Nat.ne_of_gt (blk_lt (g := gb332) (o := .cells #[.int .i64 t327, .slice Ao26 t328.length co26] 24 (0, 0)) (by (with_reducible repeat (first | refine blk_drewN ?_ _ | refine blk_drew ?_ | refine blk_alloc ?_ _)); exact BK332.out)) : gb342 ≠ gb332))
                                clear HO_333001
                                clear HO340
                                clear BK324
                                clear BK332
                                clear HB
                                have HO_333001 := n0_
                                have HO340 := n1_
                                have BK324 := n2_
                                have BK332 := n3_
                                have HB := n4_
                                have BK342 := n5_
                                have GW342 := n6_
                                have GE342 := n7_
                                have NB324_342 := n8_
                                have NB342_324 := n9_
                                have NB332_342 := n10_
                                have NB342_332 := n11_
                                clear n0_ n1_ n2_ n3_ n4_ n5_ n6_ n7_ n8_ n9_ n10_ n11_
                                clear hb hbox hg
                                refine hK.out _ _ ⟨(blk_cell BK332.out 0).trans rfl, (blk_cell BK332.out 1).trans rfl, (blk_cell BK324.out 0).trans rfl, (blk_cell BK324.out 1).trans rfl, ((HB.out.cell (World.block_lt_of_cell? w _ hw336_0)).trans hw336_0), ((HB.out.cell (World.block_lt_of_cell? w _ hw336_1)).trans hw336_1), ((HB.out.cell (World.block_lt_of_cell? w _ hw336_2)).trans hw336_2), ((HB.out.cell (World.block_lt_of_cell? w _ hw336_3)).trans hw336_3)⟩ (fun hHeld => ?_)
                                clear hK K
                                refine norm_ (a' := ?_) ?_ ?_
                                rotate_left
                                · show Act.put _ (some 11) _ = _
                                  simp only [Act.put, List.setIfInBounds_toArray, List.set_cons_zero, List.set_cons_succ, i64_w, i32_w]
                                  rfl
                                exact norm_ (by simp only [putAll, Act.put, List.setIfInBounds_toArray, List.set_cons_zero, List.set_cons_succ]) (hCont (v339, gb342) _ ⟨hHeld, (by (with_reducible repeat (first | apply Kd.V_alloc | apply Kd.V_drewN | apply Kd.V_drew)); exact Kd.V_mono HO340.out (fun _ hk => ⟨hk.1.1, ⟨hk.1.2, hk.2⟩⟩)), (by (with_reducible repeat (first | apply Kd.V_alloc | apply Kd.V_drewN | apply Kd.V_drew)); exact Kd.V_mono HO_333001.out (fun _ hk => ⟨hk.1.1, ⟨hk.1.2, hk.2⟩⟩)), (by (with_reducible repeat (first | refine blk_drewN ?_ _ | refine blk_drew ?_ | refine blk_alloc ?_ _)); exact BK324.out), (by (with_reducible repeat (first | refine blk_drewN ?_ _ | refine blk_drew ?_ | refine blk_alloc ?_ _)); exact BK332.out), (by (with_reducible repeat (first | refine blk_drewN ?_ _ | refine blk_drew ?_ | refine blk_alloc ?_ _)); exact BK342.out), GW342.out, GE342.out, NB324_342.out, NB342_324.out, NB332_342.out, NB342_332.out, (by repeat (first | (with_reducible first | exact HB.out | apply below_alloc | apply pw_below_drewN | apply below_drew1 | refine below_set ?_ GE324.out | refine below_set ?_ GE332.out | refine below_set ?_ GE342.out) | exact HB.out))⟩)
                              · skip
                                refine box_step ?hg (N := 11) ?hd (cs := #[.int .i64 0, .slice none 0 0]) (t := 24) ?hr ?_; (case hd => rfl); (case hg => rfl); (case hr => first | (go_simp; done) | (go_simp; rfl))
                                intro gb342 hg w56 hbox hb
                                have n0_ := Aside0.mk (Kd.V_below (Kd.V_elderB (by (with_reducible repeat (first | apply Kd.V_alloc | apply Kd.V_drewN | apply Kd.V_drew)); exact HO_333001.out) gb342 (Nat.le_of_eq hg.symm)) hb)
                                have n1_ := Aside0.mk (blk_below (g := gb324) (o := .cells #[.int .i64 a0_0, .slice (some ad336) l0_1.length c0_1] 24 (0, 0)) (by (with_reducible repeat (first | refine blk_drewN ?_ _ | refine blk_drew ?_ | refine blk_alloc ?_ _)); exact BK324.out) hb)
                                have n2_ := Aside0.mk (blk_below (g := gb332) (o := .cells #[.int .i64 t327, .slice Ao26 t328.length co26] 24 (0, 0)) (by (with_reducible repeat (first | refine blk_drewN ?_ _ | refine blk_drew ?_ | refine blk_alloc ?_ _)); exact BK332.out) hb)
                                have n3_ := Aside0.mk (below_step (by repeat (first | (with_reducible first | exact HB.out | apply below_alloc | apply pw_below_drewN | apply below_drew1 | refine below_set ?_ GE324.out | refine below_set ?_ GE332.out) | exact HB.out)) hb)
                                have n4_ := Aside0.mk (hbox)
                                have n5_ := Aside0.mk ((by rw [hg]; exact (below_size (by repeat (first | (with_reducible first | exact HB.out | apply below_alloc | apply pw_below_drewN | apply below_drew1 | refine below_set ?_ GE324.out | refine below_set ?_ GE332.out) | exact HB.out))) : w.heap.size ≤ gb342))
                                have n6_ := Aside0.mk ((by rw [hg]; exact (below_size (by repeat (first | (with_reducible first | exact HB.out | apply below_alloc | apply pw_below_drewN | apply below_drew1 | refine below_set ?_ GE324.out | refine below_set ?_ GE332.out) | exact HB.out))) : w.heap.size ≤ gb342))
                                have n7_ := Aside0.mk ((by rw [hg]; exact Nat.ne_of_lt (blk_lt (g := gb324) (o := .cells #[.int .i64 a0_0, .slice (some ad336) l0_1.length c0_1] 24 (0, 0)) (by (with_reducible repeat (first | refine blk_drewN ?_ _ | refine blk_drew ?_ | refine blk_alloc ?_ _)); exact BK324.out)) : gb324 ≠ gb342))
                                have n8_ := Aside0.mk ((by rw [hg]; exact Nat.ne_of_gt (blk_lt (g := gb324) (o := .cells #[.int .i64 a0_0, .slice (some ad336) l0_1.length c0_1] 24 (0, 0)) (by (with_reducible repeat (first | refine blk_drewN ?_ _ | refine blk_drew ?_ | refine blk_alloc ?_ _)); exact BK324.out)) : gb342 ≠ gb324))
                                have n9_ := Aside0.mk ((by rw [hg]; exact Nat.ne_of_lt (blk_lt (g := gb332) (o := .cells #[.int .i64 t327, .slice Ao26 t328.length co26] 24 (0, 0)) (by (with_reducible repeat (first | refine blk_drewN ?_ _ | refine blk_drew ?_ | refine blk_alloc ?_ _)); exact BK332.out)) : gb332 ≠ gb342))
                                have n10_ := Aside0.mk ((by rw [hg]; exact Nat.ne_of_gt (blk_lt (g := gb332) (o := .cells #[.int .i64 t327, .slice Ao26 t328.length co26] 24 (0, 0)) (by (with_reducible repeat (first | refine blk_drewN ?_ _ | refine blk_drew ?_ | refine blk_alloc ?_ _)); exact BK332.out)) : gb342 ≠ gb332))
                                clear HO_333001
                                clear BK324
                                clear BK332
                                clear HB
                                have HO_333001 := n0_
                                have BK324 := n1_
                                have BK332 := n2_
                                have HB := n3_
                                have BK342 := n4_
                                have GW342 := n5_
                                have GE342 := n6_
                                have NB324_342 := n7_
                                have NB342_324 := n8_
                                have NB332_342 := n9_
                                have NB342_332 := n10_
                                clear n0_ n1_ n2_ n3_ n4_ n5_ n6_ n7_ n8_ n9_ n10_
                                clear hb hbox hg
                                refine hK.out _ _ ⟨(blk_cell BK332.out 0).trans rfl, (blk_cell BK332.out 1).trans rfl, (blk_cell BK324.out 0).trans rfl, (blk_cell BK324.out 1).trans rfl, ((HB.out.cell (World.block_lt_of_cell? w _ hw336_0)).trans hw336_0), ((HB.out.cell (World.block_lt_of_cell? w _ hw336_1)).trans hw336_1), ((HB.out.cell (World.block_lt_of_cell? w _ hw336_2)).trans hw336_2), ((HB.out.cell (World.block_lt_of_cell? w _ hw336_3)).trans hw336_3)⟩ (fun hHeld => ?_)
                                clear hK K
                                refine norm_ (a' := ?_) ?_ ?_
                                rotate_left
                                · show Act.put _ (some 11) _ = _
                                  simp only [Act.put, List.setIfInBounds_toArray, List.set_cons_zero, List.set_cons_succ, i64_w, i32_w]
                                  rfl
                                refine one_ (i := 8) (N := some 89) #[true, true, true, true, true, true, true, true, true, false, false, false, true, false, false] rfl rfl (one_of HT_.out (by kernel_rfl)) (by decide) (fun K hK => ?_)
                                refine goes_ Try.func22 (by kernel_rfl) rfl #[.agg #[.int .i64 t327, .slice Ao26 t328.length co26], .int .i64 a1, .bool ((rd_T41 l0_1 a1).f3)] (by rfl) rfl rfl (by (try simp only [List.map_toArray, List.map_cons, List.map_nil]); first | done | rfl | (simp only [List.length_drop, List.length_take]; rfl)) ?_
                                with_reducible refine (graph_Set.calls t327 (fun k_ => ((k_ ≠ gb324 ∧ k_ ≠ gb332) ∧ k_ ≠ gb342)) _ _ t328 a1 ((rd_T41 l0_1 a1).f3) t337 t338 t341 _ ?side1 A48.out).mono ?_
                                (case side1 => exact HO_333001.out)
                                rintro e w57 ⟨v339, rfl, ho0, hb⟩
                                refine ⟨_, rfl, ?_⟩
                                have n0_ := Aside0.mk (Kd.V_below (by (with_reducible repeat (first | apply Kd.V_alloc | apply Kd.V_drewN | apply Kd.V_drew)); exact HO_333001.out) hb)
                                have n1_ := Aside0.mk (Kd.V_lower (Kd.V_mono (ok' := fun k_ => k_ ≠ gb324 ∧ k_ ≠ gb332 ∧ k_ ≠ gb342) ho0 (fun k_ hk_ => ⟨Or.elim hk_ (fun hs_ => hs_.1.1) (fun hn_ => (Kd.freshB (g := gb324) (o := .cells #[.int .i64 a0_0, .slice (some ad336) l0_1.length c0_1] 24 (0, 0)) (by (with_reducible repeat (first | refine blk_drewN ?_ _ | refine blk_drew ?_ | refine blk_alloc ?_ _)); exact BK324.out) k_ hn_)), Or.elim hk_ (fun hs_ => hs_.1.2) (fun hn_ => (Kd.freshB (g := gb332) (o := .cells #[.int .i64 t327, .slice Ao26 t328.length co26] 24 (0, 0)) (by (with_reducible repeat (first | refine blk_drewN ?_ _ | refine blk_drew ?_ | refine blk_alloc ?_ _)); exact BK332.out) k_ hn_)), Or.elim hk_ (fun hs_ => hs_.2) (fun hn_ => (Kd.freshB (g := gb342) (o := .cells #[.int .i64 0, .slice none 0 0] 24 (0, 0)) (by (with_reducible repeat (first | refine blk_drewN ?_ _ | refine blk_drew ?_ | refine blk_alloc ?_ _)); exact BK342.out) k_ hn_))⟩)) (below_size (by repeat (first | (with_reducible first | exact HB.out | apply below_alloc | apply pw_below_drewN | apply below_drew1 | refine below_set ?_ GE324.out | refine below_set ?_ GE332.out | refine below_set ?_ GE342.out) | exact HB.out))))
                                have n2_ := Aside0.mk (blk_below (g := gb324) (o := .cells #[.int .i64 a0_0, .slice (some ad336) l0_1.length c0_1] 24 (0, 0)) (by (with_reducible repeat (first | refine blk_drewN ?_ _ | refine blk_drew ?_ | refine blk_alloc ?_ _)); exact BK324.out) hb)
                                have n3_ := Aside0.mk (blk_below (g := gb332) (o := .cells #[.int .i64 t327, .slice Ao26 t328.length co26] 24 (0, 0)) (by (with_reducible repeat (first | refine blk_drewN ?_ _ | refine blk_drew ?_ | refine blk_alloc ?_ _)); exact BK332.out) hb)
                                have n4_ := Aside0.mk (blk_below (g := gb342) (o := .cells #[.int .i64 0, .slice none 0 0] 24 (0, 0)) (by (with_reducible repeat (first | refine blk_drewN ?_ _ | refine blk_drew ?_ | refine blk_alloc ?_ _)); exact BK342.out) hb)
                                have n5_ := Aside0.mk (below_step (by repeat (first | (with_reducible first | exact HB.out | apply below_alloc | apply pw_below_drewN | apply below_drew1 | refine below_set ?_ GE324.out | refine below_set ?_ GE332.out | refine below_set ?_ GE342.out) | exact HB.out)) hb)
                                clear HO_333001
                                clear BK324
                                clear BK332
                                clear BK342
                                clear HB
                                have HO_333001 := n0_
                                have HO340 := n1_
                                have BK324 := n2_
                                have BK332 := n3_
                                have BK342 := n4_
                                have HB := n5_
                                clear n0_ n1_ n2_ n3_ n4_ n5_
                                (try clear hb)
                                (try clear hb2)
                                (try clear hk)
                                (try clear hi)
                                (try clear ho0)
                                refine hK.out _ _ ⟨(blk_cell BK332.out 0).trans rfl, (blk_cell BK332.out 1).trans rfl, (blk_cell BK324.out 0).trans rfl, (blk_cell BK324.out 1).trans rfl, ((HB.out.cell (World.block_lt_of_cell? w _ hw336_0)).trans hw336_0), ((HB.out.cell (World.block_lt_of_cell? w _ hw336_1)).trans hw336_1), ((HB.out.cell (World.block_lt_of_cell? w _ hw336_2)).trans hw336_2), ((HB.out.cell (World.block_lt_of_cell? w _ hw336_3)).trans hw336_3)⟩ (fun hHeld => ?_)
                                clear hK K
                                refine norm_ (a' := ?_) ?_ ?_
                                rotate_left
                                · show Act.put _ (some 89) _ = _
                                  simp only [Act.put, List.setIfInBounds_toArray, List.set_cons_zero, List.set_cons_succ, i64_w, i32_w]
                                  rfl
                                refine pure_ (i := 9) (N := some 80) (v := ?_) (a' := ?_) #[true, true, true, true, true, true, true, true, true, true, false, false, true, false, false] rfl rfl (any_of HT_.out (by kernel_rfl)) (fun _ _ _ h => h) (Or.inl ⟨by rfl, ?_⟩) ?_ ?_
                                rotate_left
                                · intro w'
                                  go_simp
                                  with_reducible rfl
                                rotate_left
                                · simp only [Act.put, List.setIfInBounds_toArray, List.set_cons_zero, List.set_cons_succ, i64_w, i32_w]
                                  rfl
                                refine pure_ (i := 10) (N := some 90) (v := ?_) (a' := ?_) #[true, true, true, true, true, true, true, true, true, true, true, false, true, false, false] rfl rfl (any_of HT_.out (by kernel_rfl)) (fun _ _ _ h => h) (Or.inl ⟨by rfl, ?_⟩) ?_ ?_
                                rotate_left
                                · intro w'
                                  go_simp
                                  with_reducible rfl
                                rotate_left
                                · simp only [Act.put, List.setIfInBounds_toArray, List.set_cons_zero, List.set_cons_succ, i64_w, i32_w]
                                  rfl
                                refine pure_ (i := 11) (N := some 91) (v := ?_) (a' := ?_) #[true, true, true, true, true, true, true, true, true, true, true, true, true, false, false] rfl rfl (any_of HT_.out (by kernel_rfl)) (fun _ _ _ h => h) (Or.inl ⟨by rfl, ?_⟩) ?_ ?_
                                rotate_left
                                · intro w'
                                  go_simp
                                  with_reducible rfl
                                rotate_left
                                · simp only [Act.put, List.setIfInBounds_toArray, List.set_cons_zero, List.set_cons_succ, i64_w, i32_w]
                                  rfl
                                exact norm_ (by simp only [putAll, Act.put, List.setIfInBounds_toArray, List.set_cons_zero, List.set_cons_succ]) (hCont (v339, gb342) _ ⟨hHeld, (by (with_reducible repeat (first | apply Kd.V_alloc | apply Kd.V_drewN | apply Kd.V_drew)); exact HO340.out), (by (with_reducible repeat (first | apply Kd.V_alloc | apply Kd.V_drewN | apply Kd.V_drew)); exact Kd.V_mono HO_333001.out (fun _ hk => ⟨hk.1.1, ⟨hk.1.2, hk.2⟩⟩)), (by (with_reducible repeat (first | refine blk_drewN ?_ _ | refine blk_drew ?_ | refine blk_alloc ?_ _)); exact BK324.out), (by (with_reducible repeat (first | refine blk_drewN ?_ _ | refine blk_drew ?_ | refine blk_alloc ?_ _)); exact BK332.out), (by (with_reducible repeat (first | refine blk_drewN ?_ _ | refine blk_drew ?_ | refine blk_alloc ?_ _)); exact BK342.out), GW342.out, GE342.out, NB324_342.out, NB342_324.out, NB332_342.out, NB342_332.out, (by repeat (first | (with_reducible first | exact HB.out | apply below_alloc | apply pw_below_drewN | apply below_drew1 | refine below_set ?_ GE324.out | refine below_set ?_ GE332.out | refine below_set ?_ GE342.out) | exact HB.out))⟩)
                            rintro ⟨v339, gb342⟩ w58 ⟨hS_, h0_, h1_, h2_, h3_, h4_, h5_, h6_, h7_, h8_, h9_, h10_, h11_⟩
                            have n0_ : Aside0 (Kd.V k41 41 w58 w.heap.size (fun k_ => k_ ≠ gb324 ∧ k_ ≠ gb332 ∧ k_ ≠ gb342) v339 t338) := ⟨h0_⟩
                            have n1_ : Aside0 (Kd.V k41 41 w58 w.heap.size (fun k_ => k_ ≠ gb324 ∧ k_ ≠ gb332 ∧ k_ ≠ gb342) (.slice Ao26 t328.length co26) t328) := ⟨h1_⟩
                            have n2_ : Aside0 (w58.heap[gb324]? = some (.cells #[.int .i64 a0_0, .slice (some ad336) l0_1.length c0_1] 24 (0, 0))) := ⟨h2_⟩
                            have n3_ : Aside0 (w58.heap[gb332]? = some (.cells #[.int .i64 t327, .slice Ao26 t328.length co26] 24 (0, 0))) := ⟨h3_⟩
                            have n4_ : Aside0 (w58.heap[gb342]? = some (.cells #[.int .i64 0, .slice none 0 0] 24 (0, 0))) := ⟨h4_⟩
                            have n5_ : Aside0 (w.heap.size ≤ gb342) := ⟨h5_⟩
                            have n6_ : Aside0 (w.heap.size ≤ gb342) := ⟨h6_⟩
                            have n7_ : Aside0 (gb324 ≠ gb342) := ⟨h7_⟩
                            have n8_ : Aside0 (gb342 ≠ gb324) := ⟨h8_⟩
                            have n9_ : Aside0 (gb332 ≠ gb342) := ⟨h9_⟩
                            have n10_ : Aside0 (gb342 ≠ gb332) := ⟨h10_⟩
                            have n11_ : Aside0 (Below w.heap.size w w58) := ⟨h11_⟩
                            clear HO_333001
                            clear BK324
                            clear BK332
                            clear HB
                            clear h0_ h1_ h2_ h3_ h4_ h5_ h6_ h7_ h8_ h9_ h10_ h11_
                            have HO340 := n0_
                            have HO_333001 := n1_
                            have BK324 := n2_
                            have BK332 := n3_
                            have BK342 := n4_
                            have GW342 := n5_
                            have GE342 := n6_
                            have NB324_342 := n7_
                            have NB342_324 := n8_
                            have NB332_342 := n9_
                            have NB342_332 := n10_
                            have HB := n11_
                            clear n0_ n1_ n2_ n3_ n4_ n5_ n6_ n7_ n8_ n9_ n10_ n11_
                            have hHeld : w58.cell? ⟨gb332, 0, none⟩ = some (.int .i64 t327) ∧ w58.cell? ⟨gb332, 1, none⟩ = some (.slice Ao26 t328.length co26) ∧ w58.cell? ⟨gb324, 0, none⟩ = some (.int .i64 a0_0) ∧ w58.cell? ⟨gb324, 1, none⟩ = some (.slice (some ad336) l0_1.length c0_1) ∧ w58.cell? (ad336.add ((a1).toNat * 4)) = some (.int .i64 ((rd_T41 l0_1 a1).f0)) ∧ w58.cell? ⟨(ad336.add ((a1).toNat * 4)).block, (ad336.add ((a1).toNat * 4)).off + 1, none⟩ = some (.int .i64 ((rd_T41 l0_1 a1).f1)) ∧ w58.cell? ⟨(ad336.add ((a1).toNat * 4)).block, (ad336.add ((a1).toNat * 4)).off + 2, none⟩ = some (.int .i64 ((rd_T41 l0_1 a1).f2)) ∧ w58.cell? ⟨(ad336.add ((a1).toNat * 4)).block, (ad336.add ((a1).toNat * 4)).off + 3, none⟩ = some (.bool ((rd_T41 l0_1 a1).f3)) := hS_
                            obtain ⟨Ao60, co60, eo60⟩ := Kd.V_slice HO340.out
                            (first | subst eo60 | (injection eo60 with f1_ f2_ f3_; have f4_ := f1_.symm; have f5_ := f3_.symm; clear f1_ f2_ f3_; subst f4_; subst f5_))
                            refine norm_ (a' := ?_) ?_ ?_
                            rotate_left
                            · simp only [putAll, Act.put, List.setIfInBounds_toArray, List.set_cons_zero, List.set_cons_succ]
                              rfl
                            refine one_ (i := 13) (N := none) #[true, true, true, true, true, true, true, true, true, true, true, true, true, true, false] rfl rfl (one_of HT_.out (by kernel_rfl)) (by decide) (fun K hK => ?_)
                            have hs59 : w58.cell? ⟨gb342, 0, none⟩ = some (.int .i64 0) := (blk_cell BK342.out 0).trans rfl
                            have hfs59 := blk_frozen BK342.out 0
                            have hns59_0 := NB324_342.out
                            have hns59_1 := NB332_342.out
                            have hms59_0 := NB342_324.out
                            have hms59_1 := NB342_332.out
                            have hs61 : w58.cell? ⟨gb342, 1, none⟩ = some (.slice none 0 0) := (blk_cell BK342.out 1).trans rfl
                            have hfs61 := blk_frozen BK342.out 1
                            have hns61_0 := NB324_342.out
                            have hns61_1 := NB332_342.out
                            have hms61_0 := NB342_324.out
                            have hms61_1 := NB342_332.out
                            refine skip_ (w1 := ?_) (by rfl) rfl ?_ ?_
                            rotate_left
                            · go_simp
                              rfl
                            refine hK.out _ _ ⟨((cell_far (p := ⟨gb342, _, none⟩) NB332_342.out _).trans (((cell_far (p := ⟨gb342, _, none⟩) NB332_342.out _).trans (hHeld.1)))), ((cell_far (p := ⟨gb342, _, none⟩) NB332_342.out _).trans (((cell_far (p := ⟨gb342, _, none⟩) NB332_342.out _).trans (hHeld.2.1)))), ((cell_far (p := ⟨gb342, _, none⟩) NB324_342.out _).trans (((cell_far (p := ⟨gb342, _, none⟩) NB324_342.out _).trans (hHeld.2.2.1)))), ((cell_far (p := ⟨gb342, _, none⟩) NB324_342.out _).trans (((cell_far (p := ⟨gb342, _, none⟩) NB324_342.out _).trans (hHeld.2.2.2.1)))), ((cell_far (p := ⟨gb342, _, none⟩) (by first | exact Nat.ne_of_lt (Nat.lt_of_lt_of_le (by have := World.block_lt_of_cell? _ _ hw336_0; first | rwa [add_block] at this | exact this) GW342.out) | (rw [add_block]; exact Nat.ne_of_lt (Nat.lt_of_lt_of_le (by have := World.block_lt_of_cell? _ _ hw336_0; first | rwa [add_block] at this | exact this) GW342.out)) | (show (Addr.add _ _).block ≠ _; rw [add_block]; exact Nat.ne_of_lt (Nat.lt_of_lt_of_le (by have := World.block_lt_of_cell? _ _ hw336_0; first | rwa [add_block] at this | exact this) GW342.out)) | (dsimp only; exact Nat.ne_of_lt (Nat.lt_of_lt_of_le (by have := World.block_lt_of_cell? _ _ hw336_0; first | rwa [add_block] at this | exact this) GW342.out))) _).trans (((cell_far (p := ⟨gb342, _, none⟩) (by first | exact Nat.ne_of_lt (Nat.lt_of_lt_of_le (by have := World.block_lt_of_cell? _ _ hw336_0; first | rwa [add_block] at this | exact this) GW342.out) | (rw [add_block]; exact Nat.ne_of_lt (Nat.lt_of_lt_of_le (by have := World.block_lt_of_cell? _ _ hw336_0; first | rwa [add_block] at this | exact this) GW342.out)) | (show (Addr.add _ _).block ≠ _; rw [add_block]; exact Nat.ne_of_lt (Nat.lt_of_lt_of_le (by have := World.block_lt_of_cell? _ _ hw336_0; first | rwa [add_block] at this | exact this) GW342.out)) | (dsimp only; exact Nat.ne_of_lt (Nat.lt_of_lt_of_le (by have := World.block_lt_of_cell? _ _ hw336_0; first | rwa [add_block] at this | exact this) GW342.out))) _).trans (hHeld.2.2.2.2.1)))), ((cell_far (p := ⟨gb342, _, none⟩) (by first | exact Nat.ne_of_lt (Nat.lt_of_lt_of_le (by have := World.block_lt_of_cell? _ _ hw336_1; first | rwa [add_block] at this | exact this) GW342.out) | (rw [add_block]; exact Nat.ne_of_lt (Nat.lt_of_lt_of_le (by have := World.block_lt_of_cell? _ _ hw336_1; first | rwa [add_block] at this | exact this) GW342.out)) | (show (Addr.add _ _).block ≠ _; rw [add_block]; exact Nat.ne_of_lt (Nat.lt_of_lt_of_le (by have := World.block_lt_of_cell? _ _ hw336_1; first | rwa [add_block] at this | exact this) GW342.out)) | (dsimp only; exact Nat.ne_of_lt (Nat.lt_of_lt_of_le (by have := World.block_lt_of_cell? _ _ hw336_1; first | rwa [add_block] at this | exact this) GW342.out))) _).trans (((cell_far (p := ⟨gb342, _, none⟩) (by first | exact Nat.ne_of_lt (Nat.lt_of_lt_of_le (by have := World.block_lt_of_cell? _ _ hw336_1; first | rwa [add_block] at this | exact this) GW342.out) | (rw [add_block]; exact Nat.ne_of_lt (Nat.lt_of_lt_of_le (by have := World.block_lt_of_cell? _ _ hw336_1; first | rwa [add_block] at this | exact this) GW342.out)) | (show (Addr.add _ _).block ≠ _; rw [add_block]; exact Nat.ne_of_lt (Nat.lt_of_lt_of_le (by have := World.block_lt_of_cell? _ _ hw336_1; first | rwa [add_block] at this | exact this) GW342.out)) | (dsimp only; exact Nat.ne_of_lt (Nat.lt_of_lt_of_le (by have := World.block_lt_of_cell? _ _ hw336_1; first | rwa [add_block] at this | exact this) GW342.out))) _).trans (hHeld.2.2.2.2.2.1)))), ((cell_far (p := ⟨gb342, _, none⟩) (by first | exact Nat.ne_of_lt (Nat.lt_of_lt_of_le (by have := World.block_lt_of_cell? _ _ hw336_2; first | rwa [add_block] at this | exact this) GW342.out) | (rw [add_block]; exact Nat.ne_of_lt (Nat.lt_of_lt_of_le (by have := World.block_lt_of_cell? _ _ hw336_2; first | rwa [add_block] at this | exact this) GW342.out)) | (show (Addr.add _ _).block ≠ _; rw [add_block]; exact Nat.ne_of_lt (Nat.lt_of_lt_of_le (by have := World.block_lt_of_cell? _ _ hw336_2; first | rwa [add_block] at this | exact this) GW342.out)) | (dsimp only; exact Nat.ne_of_lt (Nat.lt_of_lt_of_le (by have := World.block_lt_of_cell? _ _ hw336_2; first | rwa [add_block] at this | exact this) GW342.out))) _).trans (((cell_far (p := ⟨gb342, _, none⟩) (by first | exact Nat.ne_of_lt (Nat.lt_of_lt_of_le (by have := World.block_lt_of_cell? _ _ hw336_2; first | rwa [add_block] at this | exact this) GW342.out) | (rw [add_block]; exact Nat.ne_of_lt (Nat.lt_of_lt_of_le (by have := World.block_lt_of_cell? _ _ hw336_2; first | rwa [add_block] at this | exact this) GW342.out)) | (show (Addr.add _ _).block ≠ _; rw [add_block]; exact Nat.ne_of_lt (Nat.lt_of_lt_of_le (by have := World.block_lt_of_cell? _ _ hw336_2; first | rwa [add_block] at this | exact this) GW342.out)) | (dsimp only; exact Nat.ne_of_lt (Nat.lt_of_lt_of_le (by have := World.block_lt_of_cell? _ _ hw336_2; first | rwa [add_block] at this | exact this) GW342.out))) _).trans (hHeld.2.2.2.2.2.2.1)))), ((cell_far (p := ⟨gb342, _, none⟩) (by first | exact Nat.ne_of_lt (Nat.lt_of_lt_of_le (by have := World.block_lt_of_cell? _ _ hw336_3; first | rwa [add_block] at this | exact this) GW342.out) | (rw [add_block]; exact Nat.ne_of_lt (Nat.lt_of_lt_of_le (by have := World.block_lt_of_cell? _ _ hw336_3; first | rwa [add_block] at this | exact this) GW342.out)) | (show (Addr.add _ _).block ≠ _; rw [add_block]; exact Nat.ne_of_lt (Nat.lt_of_lt_of_le (by have := World.block_lt_of_cell? _ _ hw336_3; first | rwa [add_block] at this | exact this) GW342.out)) | (dsimp only; exact Nat.ne_of_lt (Nat.lt_of_lt_of_le (by have := World.block_lt_of_cell? _ _ hw336_3; first | rwa [add_block] at this | exact this) GW342.out))) _).trans (((cell_far (p := ⟨gb342, _, none⟩) (by first | exact Nat.ne_of_lt (Nat.lt_of_lt_of_le (by have := World.block_lt_of_cell? _ _ hw336_3; first | rwa [add_block] at this | exact this) GW342.out) | (rw [add_block]; exact Nat.ne_of_lt (Nat.lt_of_lt_of_le (by have := World.block_lt_of_cell? _ _ hw336_3; first | rwa [add_block] at this | exact this) GW342.out)) | (show (Addr.add _ _).block ≠ _; rw [add_block]; exact Nat.ne_of_lt (Nat.lt_of_lt_of_le (by have := World.block_lt_of_cell? _ _ hw336_3; first | rwa [add_block] at this | exact this) GW342.out)) | (dsimp only; exact Nat.ne_of_lt (Nat.lt_of_lt_of_le (by have := World.block_lt_of_cell? _ _ hw336_3; first | rwa [add_block] at this | exact this) GW342.out))) _).trans (hHeld.2.2.2.2.2.2.2))))⟩ (fun hHeld => ?_)
                            clear hK K
                            refine pure_ (i := 14) (N := some 12) (v := ?_) (a' := ?_) #[true, true, true, true, true, true, true, true, true, true, true, true, true, true, true] rfl rfl (any_of HT_.out (by kernel_rfl)) (fun _ _ _ h => h) (Or.inl ⟨by rfl, ?_⟩) ?_ ?_
                            rotate_left
                            · intro w'
                              go_simp
                              with_reducible rfl
                            rotate_left
                            · simp only [Act.put, List.setIfInBounds_toArray, List.set_cons_zero, List.set_cons_succ, i64_w, i32_w]
                              rfl
                            refine done_ (done_of HT_.out (by kernel_rfl)) ?_
                            try go_wp2
                            have n0_ : Aside0 (Kd.V k41 41 ((w58.setCell ⟨gb342, 0, none⟩ (.int .i64 t337)).setCell ⟨gb342, 1, none⟩ (.slice Ao60 t338.length co60)) w.heap.size (fun k_ => k_ ≠ gb324 ∧ k_ ≠ gb332 ∧ k_ ≠ gb342) (.slice Ao26 t328.length co26) t328) := ⟨by (with_reducible repeat (first | apply Kd.V_alloc | apply Kd.V_drewN | apply Kd.V_drew)); exact Kd.V_mono (Kd.V_far (p := ⟨gb342, 1, none⟩) (Kd.V_far (p := ⟨gb342, 0, none⟩) (Kd.V_mono HO_333001.out (fun k_ hk => (⟨hk, hk.2.2⟩ : _ ∧ k_ ≠ gb342))) (fun _ hk => hk.2) (.int .i64 t337)) (fun _ hk => hk.2) (.slice Ao60 t338.length co60)) (fun _ hk => ⟨hk.1.1, ⟨hk.1.2.1, hk.1.2.2⟩⟩)⟩
                            have n1_ : Aside0 (Kd.V k41 41 ((w58.setCell ⟨gb342, 0, none⟩ (.int .i64 t337)).setCell ⟨gb342, 1, none⟩ (.slice Ao60 t338.length co60)) w.heap.size (fun k_ => k_ ≠ gb324 ∧ k_ ≠ gb332 ∧ k_ ≠ gb342) (.slice Ao60 t338.length co60) t338) := ⟨by (with_reducible repeat (first | apply Kd.V_alloc | apply Kd.V_drewN | apply Kd.V_drew)); exact Kd.V_mono (Kd.V_far (p := ⟨gb342, 1, none⟩) (Kd.V_far (p := ⟨gb342, 0, none⟩) (Kd.V_mono HO340.out (fun k_ hk => (⟨hk, hk.2.2⟩ : _ ∧ k_ ≠ gb342))) (fun _ hk => hk.2) (.int .i64 t337)) (fun _ hk => hk.2) (.slice Ao60 t338.length co60)) (fun _ hk => ⟨hk.1.1, ⟨hk.1.2.1, hk.1.2.2⟩⟩)⟩
                            have n2_ : Aside0 (((w58.setCell ⟨gb342, 0, none⟩ (.int .i64 t337)).setCell ⟨gb342, 1, none⟩ (.slice Ao60 t338.length co60)).heap[gb324]? = some (.cells #[.int .i64 a0_0, .slice (some ad336) l0_1.length c0_1] 24 (0, 0))) := ⟨by (with_reducible repeat (first | refine blk_drewN ?_ _ | refine blk_drew ?_ | refine blk_alloc ?_ _)); refine blk_far ?_ NB324_342.out _; (with_reducible repeat (first | refine blk_drewN ?_ _ | refine blk_drew ?_ | refine blk_alloc ?_ _)); refine blk_far ?_ NB324_342.out _; (with_reducible repeat (first | refine blk_drewN ?_ _ | refine blk_drew ?_ | refine blk_alloc ?_ _)); exact BK324.out⟩
                            have n3_ : Aside0 (((w58.setCell ⟨gb342, 0, none⟩ (.int .i64 t337)).setCell ⟨gb342, 1, none⟩ (.slice Ao60 t338.length co60)).heap[gb332]? = some (.cells #[.int .i64 t327, .slice Ao26 t328.length co26] 24 (0, 0))) := ⟨by (with_reducible repeat (first | refine blk_drewN ?_ _ | refine blk_drew ?_ | refine blk_alloc ?_ _)); refine blk_far ?_ NB332_342.out _; (with_reducible repeat (first | refine blk_drewN ?_ _ | refine blk_drew ?_ | refine blk_alloc ?_ _)); refine blk_far ?_ NB332_342.out _; (with_reducible repeat (first | refine blk_drewN ?_ _ | refine blk_drew ?_ | refine blk_alloc ?_ _)); exact BK332.out⟩
                            have n4_ : Aside0 (((w58.setCell ⟨gb342, 0, none⟩ (.int .i64 t337)).setCell ⟨gb342, 1, none⟩ (.slice Ao60 t338.length co60)).heap[gb342]? = some (.cells #[.int .i64 t337, .slice Ao60 t338.length co60] 24 (0, 0))) := ⟨by (with_reducible repeat (first | refine blk_drewN ?_ _ | refine blk_drew ?_ | refine blk_alloc ?_ _)); refine blk_put (cs := #[.int .i64 t337, .slice none 0 0]) ?_ 1 _ rfl; (with_reducible repeat (first | refine blk_drewN ?_ _ | refine blk_drew ?_ | refine blk_alloc ?_ _)); refine blk_put (cs := #[.int .i64 0, .slice none 0 0]) ?_ 0 _ rfl; (with_reducible repeat (first | refine blk_drewN ?_ _ | refine blk_drew ?_ | refine blk_alloc ?_ _)); exact BK342.out⟩
                            have n5_ : Aside0 (Below w.heap.size w ((w58.setCell ⟨gb342, 0, none⟩ (.int .i64 t337)).setCell ⟨gb342, 1, none⟩ (.slice Ao60 t338.length co60))) := ⟨by repeat (first | (with_reducible first | exact HB.out | apply below_alloc | apply pw_below_drewN | apply below_drew1 | refine below_set ?_ GE324.out | refine below_set ?_ GE332.out | refine below_set ?_ GE342.out) | exact HB.out)⟩
                            (try clear HO_333001)
                            (try clear HO340)
                            (try clear BK324)
                            (try clear BK332)
                            (try clear BK342)
                            (try clear HB)
                            generalize ((w58.setCell ⟨gb342, 0, none⟩ (.int .i64 t337)).setCell ⟨gb342, 1, none⟩ (.slice Ao60 t338.length co60)) = w62 at n0_ n1_ n2_ n3_ n4_ n5_ ⊢
                            have HO_333001 := n0_
                            have HO340 := n1_
                            have BK324 := n2_
                            have BK332 := n3_
                            have BK342 := n4_
                            have HB := n5_
                            clear n0_ n1_ n2_ n3_ n4_ n5_
                            have n0_ := Aside0.mk (Kd.V_drew HO_333001.out)
                            have n1_ := Aside0.mk (Kd.V_drew HO340.out)
                            have n2_ := Aside0.mk (blk_drew BK324.out)
                            have n3_ := Aside0.mk (blk_drew BK332.out)
                            have n4_ := Aside0.mk (blk_drew BK342.out)
                            have n5_ := Aside0.mk (below_drew1 HB.out)
                            clear HO_333001
                            clear HO340
                            clear BK324
                            clear BK332
                            clear BK342
                            clear HB
                            have HO_333001 := n0_
                            have HO340 := n1_
                            have BK324 := n2_
                            have BK332 := n3_
                            have BK342 := n4_
                            have HB := n5_
                            clear n0_ n1_ n2_ n3_ n4_ n5_
                            have p345 : 0 ≤ (a1 : Int) := of_decide_eq_true (by first | (with_reducible assumption) | assumption)
                            have q345 : a1 < (l0_1.length : Int) := of_decide_eq_true (by first | (with_reducible assumption) | assumption)
                            obtain ⟨ad345, e345, hx345_0, hx345_1, hx345_2, hx345_3⟩ := at_T41 HR0_1.out a1 p345 q345
                            have hw345_3 := hx345_3
                            have hw345_2 := hx345_2
                            have hw345_1 := hx345_1
                            have hw345_0 := hx345_0
                            obtain rfl : ad336 = ad345 := (by injection e345)
                            replace hx345_0 := (HB.out.cell (World.block_lt_of_cell? w _ hx345_0)).trans hx345_0
                            replace hx345_1 := (HB.out.cell (World.block_lt_of_cell? w _ hx345_1)).trans hx345_1
                            replace hx345_2 := (HB.out.cell (World.block_lt_of_cell? w _ hx345_2)).trans hx345_2
                            replace hx345_3 := (HB.out.cell (World.block_lt_of_cell? w _ hx345_3)).trans hx345_3
                            replace p345 := eq_true p345
                            replace q345 := eq_true q345
                            refine start_ (n := 21) (S := fun w' => w'.cell? ⟨gb342, 0, none⟩ = some (.int .i64 t337) ∧ w'.cell? ⟨gb342, 1, none⟩ = some (.slice Ao60 t338.length co60) ∧ w'.cell? ⟨gb324, 0, none⟩ = some (.int .i64 a0_0) ∧ w'.cell? ⟨gb324, 1, none⟩ = some (.slice (some ad336) l0_1.length c0_1) ∧ w'.cell? ⟨gb332, 0, none⟩ = some (.int .i64 t327) ∧ w'.cell? ⟨gb332, 1, none⟩ = some (.slice Ao26 t328.length co26) ∧ w'.cell? (ad336.add ((a1).toNat * 4)) = some (.int .i64 ((rd_T41 l0_1 a1).f0)) ∧ w'.cell? ⟨(ad336.add ((a1).toNat * 4)).block, (ad336.add ((a1).toNat * 4)).off + 1, none⟩ = some (.int .i64 ((rd_T41 l0_1 a1).f1)) ∧ w'.cell? ⟨(ad336.add ((a1).toNat * 4)).block, (ad336.add ((a1).toNat * 4)).off + 2, none⟩ = some (.int .i64 ((rd_T41 l0_1 a1).f2)) ∧ w'.cell? ⟨(ad336.add ((a1).toNat * 4)).block, (ad336.add ((a1).toNat * 4)).off + 3, none⟩ = some (.bool ((rd_T41 l0_1 a1).f3))) (ds := []) #[false, false, false, false, false, false, false, false, false, false, false, false, false, false, false, false, false, false, false, false, false] (by kernel_rfl) rfl rfl ⟨(blk_cell BK342.out 0).trans rfl, (blk_cell BK342.out 1).trans rfl, (blk_cell BK324.out 0).trans rfl, (blk_cell BK324.out 1).trans rfl, (blk_cell BK332.out 0).trans rfl, (blk_cell BK332.out 1).trans rfl, ((HB.out.cell (World.block_lt_of_cell? w _ hw345_0)).trans hw345_0), ((HB.out.cell (World.block_lt_of_cell? w _ hw345_1)).trans hw345_1), ((HB.out.cell (World.block_lt_of_cell? w _ hw345_2)).trans hw345_2), ((HB.out.cell (World.block_lt_of_cell? w _ hw345_3)).trans hw345_3)⟩ (fun hHeld => ?_); refine with_tabW stolonlaw11_GraphSets.tab13 stolonlaw11_GraphSets.bits13 (fun HT_ HW_ => ?_)
                            generalize w62.drew = w63 at HO_333001 HO340 BK324 BK332 BK342 HB hx345_0 hx345_1 hx345_2 hx345_3 hHeld ⊢
                            refine pure_ (i := 0) (N := some 92) (v := ?_) (a' := ?_) #[true, false, false, false, false, false, false, false, false, false, false, false, false, false, false, false, false, false, false, false, false] rfl rfl (any_of HT_.out (by kernel_rfl)) (fun _ _ _ h => h) (Or.inl ⟨by rfl, ?_⟩) ?_ ?_
                            rotate_left
                            · intro w'
                              go_simp
                              with_reducible rfl
                            rotate_left
                            · simp only [Act.put, List.setIfInBounds_toArray, List.set_cons_zero, List.set_cons_succ, i64_w, i32_w]
                              rfl
                            refine pure_ (i := 1) (N := some 93) (v := ?_) (a' := ?_) #[true, true, false, false, false, false, false, false, false, false, false, false, false, false, false, false, false, false, false, false, false] rfl rfl (any_of HT_.out (by kernel_rfl)) (fun _ _ _ h => h) (Or.inl ⟨by rfl, ?_⟩) ?_ ?_
                            rotate_left
                            · intro w'
                              go_simp
                              with_reducible rfl
                            rotate_left
                            · simp only [Act.put, List.setIfInBounds_toArray, List.set_cons_zero, List.set_cons_succ, i64_w, i32_w]
                              rfl
                            refine take_ (i := 2) (N := some 94) (v := ?_) (a' := ?_) #[true, true, true, false, false, false, false, false, false, false, false, false, false, false, false, false, false, false, false, false, false] rfl rfl (take_ofW HT_.out HW_.out (by kernel_rfl)) (fun _ _ _ h => h) (Or.inl ⟨by rfl, ?_⟩) hHeld ?_ ?_
                            rotate_left
                            · rintro w' ⟨s0, s1, s2, s3, s4, s5, s6, s7, s8, s9⟩
                              (try simp only [add_plain] at s0 s1 s2 s3 s4 s5 s6 s7 s8 s9)
                              go_simp
                              with_reducible rfl
                            rotate_left
                            · simp only [Act.put, List.setIfInBounds_toArray, List.set_cons_zero, List.set_cons_succ, i64_w, i32_w]
                              rfl
                            refine take_ (i := 3) (N := some 95) (v := ?_) (a' := ?_) #[true, true, true, true, false, false, false, false, false, false, false, false, false, false, false, false, false, false, false, false, false] rfl rfl (take_ofW HT_.out HW_.out (by kernel_rfl)) (fun _ _ _ h => h) (Or.inl ⟨by rfl, ?_⟩) hHeld ?_ ?_
                            rotate_left
                            · rintro w' ⟨s0, s1, s2, s3, s4, s5, s6, s7, s8, s9⟩
                              (try simp only [add_plain] at s0 s1 s2 s3 s4 s5 s6 s7 s8 s9)
                              go_simp
                              with_reducible rfl
                            rotate_left
                            · simp only [Act.put, List.setIfInBounds_toArray, List.set_cons_zero, List.set_cons_succ, i64_w, i32_w]
                              rfl
                            refine one_ (i := 4) (N := some 96) #[true, true, true, true, true, false, false, false, false, false, false, false, false, false, false, false, false, false, false, false, false] rfl rfl (one_of HT_.out (by kernel_rfl)) (by decide) (fun K hK => ?_)
                            refine goes_ Try.func23 (by kernel_rfl) rfl #[.agg #[.int .i64 t337, .slice Ao60 t338.length co60], .agg #[.int .i64 a0_0, .slice (some ad336) l0_1.length c0_1]] (by rfl) rfl rfl (by (try simp only [List.map_toArray, List.map_cons, List.map_nil]); first | done | rfl | (simp only [List.length_drop, List.length_take]; rfl)) ?_
                            with_reducible refine (graph_Same.calls k3 t337 _ _ t338 a0_0 _ _ l0_1 true _ ?side1 ?side2 ?side3 ?side4 A50.out).mono ?_
                            (case side1 => repeat (first | exact (Kd.V_reads' HO340.out).2.2 | (with_reducible refine Kd.C_alloc ?_ _) | (with_reducible refine Kd.C_drewN ?_ _) | (with_reducible refine Kd.C_drew ?_)))
                            (case side2 => exact (Kd.V_reads' HO340.out).2.1)
                            (case side3 => repeat (first | exact (Kd.C_below HR0_1.out HB.out) | (with_reducible refine Kd.C_alloc ?_ _) | (with_reducible refine Kd.C_drewN ?_ _) | (with_reducible refine Kd.C_drew ?_)))
                            (case side4 => exact HC0_1.out)
                            rintro e w64 ⟨rfl, hb⟩
                            refine ⟨_, rfl, ?_⟩
                            have n0_ := Aside0.mk (Kd.V_below (by (with_reducible repeat (first | apply Kd.V_alloc | apply Kd.V_drewN | apply Kd.V_drew)); exact HO_333001.out) hb)
                            have n1_ := Aside0.mk (Kd.V_below (by (with_reducible repeat (first | apply Kd.V_alloc | apply Kd.V_drewN | apply Kd.V_drew)); exact HO340.out) hb)
                            have n2_ := Aside0.mk (blk_below (g := gb324) (o := .cells #[.int .i64 a0_0, .slice (some ad336) l0_1.length c0_1] 24 (0, 0)) (by (with_reducible repeat (first | refine blk_drewN ?_ _ | refine blk_drew ?_ | refine blk_alloc ?_ _)); exact BK324.out) hb)
                            have n3_ := Aside0.mk (blk_below (g := gb332) (o := .cells #[.int .i64 t327, .slice Ao26 t328.length co26] 24 (0, 0)) (by (with_reducible repeat (first | refine blk_drewN ?_ _ | refine blk_drew ?_ | refine blk_alloc ?_ _)); exact BK332.out) hb)
                            have n4_ := Aside0.mk (blk_below (g := gb342) (o := .cells #[.int .i64 t337, .slice Ao60 t338.length co60] 24 (0, 0)) (by (with_reducible repeat (first | refine blk_drewN ?_ _ | refine blk_drew ?_ | refine blk_alloc ?_ _)); exact BK342.out) hb)
                            have n5_ := Aside0.mk (below_step (by repeat (first | (with_reducible first | exact HB.out | apply below_alloc | apply pw_below_drewN | apply below_drew1 | refine below_set ?_ GE324.out | refine below_set ?_ GE332.out | refine below_set ?_ GE342.out) | exact HB.out)) hb)
                            clear HO_333001
                            clear HO340
                            clear BK324
                            clear BK332
                            clear BK342
                            clear HB
                            have HO_333001 := n0_
                            have HO340 := n1_
                            have BK324 := n2_
                            have BK332 := n3_
                            have BK342 := n4_
                            have HB := n5_
                            clear n0_ n1_ n2_ n3_ n4_ n5_
                            (try clear hb)
                            (try clear hb2)
                            (try clear hk)
                            (try clear hi)
                            refine hK.out _ _ ⟨(blk_cell BK342.out 0).trans rfl, (blk_cell BK342.out 1).trans rfl, (blk_cell BK324.out 0).trans rfl, (blk_cell BK324.out 1).trans rfl, (blk_cell BK332.out 0).trans rfl, (blk_cell BK332.out 1).trans rfl, ((HB.out.cell (World.block_lt_of_cell? w _ hw345_0)).trans hw345_0), ((HB.out.cell (World.block_lt_of_cell? w _ hw345_1)).trans hw345_1), ((HB.out.cell (World.block_lt_of_cell? w _ hw345_2)).trans hw345_2), ((HB.out.cell (World.block_lt_of_cell? w _ hw345_3)).trans hw345_3)⟩ (fun hHeld => ?_)
                            clear hK K
                            refine norm_ (a' := ?_) ?_ ?_
                            rotate_left
                            · show Act.put _ (some 96) _ = _
                              simp only [Act.put, List.setIfInBounds_toArray, List.set_cons_zero, List.set_cons_succ, i64_w, i32_w]
                              rfl
                            refine pure_ (i := 5) (N := some 97) (v := ?_) (a' := ?_) #[true, true, true, true, true, true, false, false, false, false, false, false, false, false, false, false, false, false, false, false, false] rfl rfl (any_of HT_.out (by kernel_rfl)) (fun _ _ _ h => h) (Or.inl ⟨by rfl, ?_⟩) ?_ ?_
                            rotate_left
                            · intro w'
                              go_simp
                              with_reducible rfl
                            rotate_left
                            · simp only [Act.put, List.setIfInBounds_toArray, List.set_cons_zero, List.set_cons_succ, i64_w, i32_w]
                              rfl
                            refine pure_ (i := 6) (N := some 98) (v := ?_) (a' := ?_) #[true, true, true, true, true, true, true, false, false, false, false, false, false, false, false, false, false, false, false, false, false] rfl rfl (any_of HT_.out (by kernel_rfl)) (fun _ _ _ h => h) (Or.inl ⟨by rfl, ?_⟩) ?_ ?_
                            rotate_left
                            · intro w'
                              go_simp
                              with_reducible rfl
                            rotate_left
                            · simp only [Act.put, List.setIfInBounds_toArray, List.set_cons_zero, List.set_cons_succ, i64_w, i32_w]
                              rfl
                            refine pure_ (i := 10) (N := some 102) (v := ?_) (a' := ?_) #[true, true, true, true, true, true, true, false, false, false, true, false, false, false, false, false, false, false, false, false, false] rfl rfl (any_of HT_.out (by kernel_rfl)) (fun _ _ _ h => h) (Or.inl ⟨by rfl, ?_⟩) ?_ ?_
                            rotate_left
                            · intro w'
                              go_simp
                              with_reducible rfl
                            rotate_left
                            · simp only [Act.put, List.setIfInBounds_toArray, List.set_cons_zero, List.set_cons_succ, i64_w, i32_w]
                              rfl
                            refine pure_ (i := 12) (N := some 104) (v := ?_) (a' := ?_) #[true, true, true, true, true, true, true, false, false, false, true, false, true, false, false, false, false, false, false, false, false] rfl rfl (any_of HT_.out (by kernel_rfl)) (fun _ _ _ h => h) (Or.inl ⟨by rfl, ?_⟩) ?_ ?_
                            rotate_left
                            · intro w'
                              go_simp
                              with_reducible rfl
                            rotate_left
                            · simp only [Act.put, List.setIfInBounds_toArray, List.set_cons_zero, List.set_cons_succ, i64_w, i32_w]
                              rfl
                            refine pure_ (i := 16) (N := some 108) (v := ?_) (a' := ?_) #[true, true, true, true, true, true, true, false, false, false, true, false, true, false, false, false, true, false, false, false, false] rfl rfl (any_of HT_.out (by kernel_rfl)) (fun _ _ _ h => h) (Or.inl ⟨by rfl, ?_⟩) ?_ ?_
                            rotate_left
                            · intro w'
                              go_simp
                              with_reducible rfl
                            rotate_left
                            · simp only [Act.put, List.setIfInBounds_toArray, List.set_cons_zero, List.set_cons_succ, i64_w, i32_w]
                              rfl
                            refine take_ (i := 7) (N := some 99) (v := ?_) (a' := ?_) #[true, true, true, true, true, true, true, true, false, false, true, false, true, false, false, false, true, false, false, false, false] rfl rfl (take_ofW HT_.out HW_.out (by kernel_rfl)) (fun _ _ _ h => h) (Or.inl ⟨by rfl, ?_⟩) hHeld ?_ ?_
                            rotate_left
                            · rintro w' ⟨s0, s1, s2, s3, s4, s5, s6, s7, s8, s9⟩
                              (try simp only [add_plain] at s0 s1 s2 s3 s4 s5 s6 s7 s8 s9)
                              go_simp
                              with_reducible rfl
                            rotate_left
                            · simp only [Act.put, List.setIfInBounds_toArray, List.set_cons_zero, List.set_cons_succ, i64_w, i32_w]
                              rfl
                            refine take_ (i := 8) (N := some 100) (v := ?_) (a' := ?_) #[true, true, true, true, true, true, true, true, true, false, true, false, true, false, false, false, true, false, false, false, false] rfl rfl (take_ofW HT_.out HW_.out (by kernel_rfl)) (fun _ _ _ h => h) (Or.inl ⟨by rfl, ?_⟩) hHeld ?_ ?_
                            rotate_left
                            · rintro w' ⟨s0, s1, s2, s3, s4, s5, s6, s7, s8, s9⟩
                              (try simp only [add_plain] at s0 s1 s2 s3 s4 s5 s6 s7 s8 s9)
                              go_simp
                              with_reducible rfl
                            rotate_left
                            · simp only [Act.put, List.setIfInBounds_toArray, List.set_cons_zero, List.set_cons_succ, i64_w, i32_w]
                              rfl
                            refine take_ (i := 11) (N := some 103) (v := ?_) (a' := ?_) #[true, true, true, true, true, true, true, true, true, false, true, true, true, false, false, false, true, false, false, false, false] rfl rfl (take_ofW HT_.out HW_.out (by kernel_rfl)) (fun _ _ _ h => h) (Or.inl ⟨by rfl, ?_⟩) hHeld ?_ ?_
                            rotate_left
                            · rintro w' ⟨s0, s1, s2, s3, s4, s5, s6, s7, s8, s9⟩
                              (try simp only [add_plain] at s0 s1 s2 s3 s4 s5 s6 s7 s8 s9)
                              go_simp
                              with_reducible rfl
                            rotate_left
                            · simp only [Act.put, List.setIfInBounds_toArray, List.set_cons_zero, List.set_cons_succ, i64_w, i32_w]
                              rfl
                            refine pure_ (i := 13) (N := some 105) (v := ?_) (a' := ?_) #[true, true, true, true, true, true, true, true, true, false, true, true, true, true, false, false, true, false, false, false, false] rfl rfl (any_of HT_.out (by kernel_rfl)) (fun _ _ _ h => h) (Or.inl ⟨by rfl, ?_⟩) ?_ ?_
                            rotate_left
                            · intro w'
                              go_simp
                              with_reducible rfl
                            rotate_left
                            · simp only [Act.put, List.setIfInBounds_toArray, List.set_cons_zero, List.set_cons_succ, i64_w, i32_w]
                              rfl
                            refine pure_ (i := 14) (N := some 106) (v := ?_) (a' := ?_) #[true, true, true, true, true, true, true, true, true, false, true, true, true, true, true, false, true, false, false, false, false] rfl rfl (any_of HT_.out (by kernel_rfl)) (fun _ _ _ h => h) (Or.inl ⟨by rfl, ?_⟩) ?_ ?_
                            rotate_left
                            · intro w'
                              go_simp
                              with_reducible rfl
                            rotate_left
                            · simp only [Act.put, List.setIfInBounds_toArray, List.set_cons_zero, List.set_cons_succ, i64_w, i32_w]
                              rfl
                            refine take_ (i := 15) (N := some 107) (v := ?_) (a' := ?_) #[true, true, true, true, true, true, true, true, true, false, true, true, true, true, true, true, true, false, false, false, false] rfl rfl (take_ofW HT_.out HW_.out (by kernel_rfl)) (fun _ _ _ h => h) (Or.inl ⟨by rfl, ?_⟩) hHeld ?_ ?_
                            rotate_left
                            · rintro w' ⟨s0, s1, s2, s3, s4, s5, s6, s7, s8, s9⟩
                              (try simp only [add_plain] at s0 s1 s2 s3 s4 s5 s6 s7 s8 s9)
                              go_simp
                              with_reducible rfl
                            rotate_left
                            · simp only [Act.put, List.setIfInBounds_toArray, List.set_cons_zero, List.set_cons_succ, i64_w, i32_w]
                              rfl
                            refine pure_ (i := 17) (N := some 109) (v := ?_) (a' := ?_) #[true, true, true, true, true, true, true, true, true, false, true, true, true, true, true, true, true, true, false, false, false] rfl rfl (any_of HT_.out (by kernel_rfl)) (fun _ _ _ h => h) (Or.inl ⟨by rfl, ?_⟩) ?_ ?_
                            rotate_left
                            · intro w'
                              go_simp
                              with_reducible rfl
                            rotate_left
                            · simp only [Act.put, List.setIfInBounds_toArray, List.set_cons_zero, List.set_cons_succ, i64_w, i32_w]
                              rfl
                            refine one_ (i := 9) (N := some 101) #[true, true, true, true, true, true, true, true, true, true, true, true, true, true, true, true, true, true, false, false, false] rfl rfl (one_of HT_.out (by kernel_rfl)) (by decide) (fun K hK => ?_)
                            refine goes_ Try.func23 (by kernel_rfl) rfl #[.agg #[.int .i64 t327, .slice Ao26 t328.length co26], .agg #[.int .i64 a0_0, .slice (some ad336) l0_1.length c0_1]] (by rfl) rfl rfl (by (try simp only [List.map_toArray, List.map_cons, List.map_nil]); first | done | rfl | (simp only [List.length_drop, List.length_take]; rfl)) ?_
                            with_reducible refine (graph_Same.calls k3 t327 _ _ t328 a0_0 _ _ l0_1 t344 _ ?side1 ?side2 ?side3 ?side4 A52.out).mono ?_
                            (case side1 => repeat (first | exact (Kd.V_reads' HO_333001.out).2.2 | (with_reducible refine Kd.C_alloc ?_ _) | (with_reducible refine Kd.C_drewN ?_ _) | (with_reducible refine Kd.C_drew ?_)))
                            (case side2 => exact (Kd.V_reads' HO_333001.out).2.1)
                            (case side3 => repeat (first | exact (Kd.C_below HR0_1.out HB.out) | (with_reducible refine Kd.C_alloc ?_ _) | (with_reducible refine Kd.C_drewN ?_ _) | (with_reducible refine Kd.C_drew ?_)))
                            (case side4 => exact HC0_1.out)
                            rintro e w65 ⟨rfl, hb⟩
                            refine ⟨_, rfl, ?_⟩
                            have n0_ := Aside0.mk (Kd.V_below (by (with_reducible repeat (first | apply Kd.V_alloc | apply Kd.V_drewN | apply Kd.V_drew)); exact HO_333001.out) hb)
                            have n1_ := Aside0.mk (Kd.V_below (by (with_reducible repeat (first | apply Kd.V_alloc | apply Kd.V_drewN | apply Kd.V_drew)); exact HO340.out) hb)
                            have n2_ := Aside0.mk (blk_below (g := gb324) (o := .cells #[.int .i64 a0_0, .slice (some ad336) l0_1.length c0_1] 24 (0, 0)) (by (with_reducible repeat (first | refine blk_drewN ?_ _ | refine blk_drew ?_ | refine blk_alloc ?_ _)); exact BK324.out) hb)
                            have n3_ := Aside0.mk (blk_below (g := gb332) (o := .cells #[.int .i64 t327, .slice Ao26 t328.length co26] 24 (0, 0)) (by (with_reducible repeat (first | refine blk_drewN ?_ _ | refine blk_drew ?_ | refine blk_alloc ?_ _)); exact BK332.out) hb)
                            have n4_ := Aside0.mk (blk_below (g := gb342) (o := .cells #[.int .i64 t337, .slice Ao60 t338.length co60] 24 (0, 0)) (by (with_reducible repeat (first | refine blk_drewN ?_ _ | refine blk_drew ?_ | refine blk_alloc ?_ _)); exact BK342.out) hb)
                            have n5_ := Aside0.mk (below_step (by repeat (first | (with_reducible first | exact HB.out | apply below_alloc | apply pw_below_drewN | apply below_drew1 | refine below_set ?_ GE324.out | refine below_set ?_ GE332.out | refine below_set ?_ GE342.out) | exact HB.out)) hb)
                            clear HO_333001
                            clear HO340
                            clear BK324
                            clear BK332
                            clear BK342
                            clear HB
                            have HO_333001 := n0_
                            have HO340 := n1_
                            have BK324 := n2_
                            have BK332 := n3_
                            have BK342 := n4_
                            have HB := n5_
                            clear n0_ n1_ n2_ n3_ n4_ n5_
                            (try clear hb)
                            (try clear hb2)
                            (try clear hk)
                            (try clear hi)
                            refine hK.out _ _ ⟨(blk_cell BK342.out 0).trans rfl, (blk_cell BK342.out 1).trans rfl, (blk_cell BK324.out 0).trans rfl, (blk_cell BK324.out 1).trans rfl, (blk_cell BK332.out 0).trans rfl, (blk_cell BK332.out 1).trans rfl, ((HB.out.cell (World.block_lt_of_cell? w _ hw345_0)).trans hw345_0), ((HB.out.cell (World.block_lt_of_cell? w _ hw345_1)).trans hw345_1), ((HB.out.cell (World.block_lt_of_cell? w _ hw345_2)).trans hw345_2), ((HB.out.cell (World.block_lt_of_cell? w _ hw345_3)).trans hw345_3)⟩ (fun hHeld => ?_)
                            clear hK K
                            refine norm_ (a' := ?_) ?_ ?_
                            rotate_left
                            · show Act.put _ (some 101) _ = _
                              simp only [Act.put, List.setIfInBounds_toArray, List.set_cons_zero, List.set_cons_succ, i64_w, i32_w]
                              rfl
                            refine pure_ (i := 18) (N := some 110) (v := ?_) (a' := ?_) #[true, true, true, true, true, true, true, true, true, true, true, true, true, true, true, true, true, true, true, false, false] rfl rfl (any_of HT_.out (by kernel_rfl)) (fun _ _ _ h => h) (Or.inl ⟨by rfl, ?_⟩) ?_ ?_
                            rotate_left
                            · intro w'
                              go_simp
                              with_reducible rfl
                            rotate_left
                            · simp only [Act.put, List.setIfInBounds_toArray, List.set_cons_zero, List.set_cons_succ, i64_w, i32_w]
                              rfl
                            refine pure_ (i := 19) (N := some 111) (v := ?_) (a' := ?_) #[true, true, true, true, true, true, true, true, true, true, true, true, true, true, true, true, true, true, true, true, false] rfl rfl (any_of HT_.out (by kernel_rfl)) (fun _ _ _ h => h) (Or.inl ⟨by rfl, ?_⟩) ?_ ?_
                            rotate_left
                            · intro w'
                              go_simp
                              with_reducible rfl
                            rotate_left
                            · simp only [Act.put, List.setIfInBounds_toArray, List.set_cons_zero, List.set_cons_succ, i64_w, i32_w]
                              rfl
                            refine pure_ (i := 20) (N := some 6) (v := ?_) (a' := ?_) #[true, true, true, true, true, true, true, true, true, true, true, true, true, true, true, true, true, true, true, true, true] rfl rfl (any_of HT_.out (by kernel_rfl)) (fun _ _ _ h => h) (Or.inl ⟨by rfl, ?_⟩) ?_ ?_
                            rotate_left
                            · intro w'
                              go_simp
                              with_reducible rfl
                            rotate_left
                            · simp only [Act.put, List.setIfInBounds_toArray, List.set_cons_zero, List.set_cons_succ, i64_w, i32_w]
                              rfl
                            refine done_ (done_of HT_.out (by kernel_rfl)) ?_
                            try go_wp2
                            go_ret
                            exact ⟨by first | rfl | (simp [errW_none, errW_some] <;> rfl) | (simp [*, errW_none, errW_some] <;> rfl), by repeat (first | (with_reducible first | exact HB.out | apply below_alloc | apply pw_below_drewN | apply below_drew1 | refine below_set ?_ GE324.out | refine below_set ?_ GE332.out | refine below_set ?_ GE342.out) | exact HB.out)⟩
                          · replace c51 := Bool.eq_false_iff.mpr c51
                            subst c51
                            have H1 : (some false) = some r := by rw [if_neg (show ¬ (false = true) by decide)] at H; exact H
                            clear H
                            have H := H1
                            clear H1
                            exact absurd ((Option.some.inj H).trans hTrue.out) (by simp)
                        · replace c49 := Bool.eq_false_iff.mpr c49
                          subst c49
                          have H1 : (some false) = some r := by rw [if_neg (show ¬ (false = true) by decide)] at H; exact H
                          clear H
                          have H := H1
                          clear H1
                          exact absurd ((Option.some.inj H).trans hTrue.out) (by simp)
                      · rw [if_neg c47] at H
                        exact absurd H (by simp)
                    · rw [if_neg c46] at H
                      exact absurd H (by simp)

end Go.Proofs.Yticjabdkjjbegaa.P

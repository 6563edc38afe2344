/- For each Go function a Lean function, and the proof that a call comes to what it tells: made by program out of the translation (the kit's print, with texts by hand put in). No condition. -/
import Derived.Test.YticjabdkjjbegaaPx0
import Derived.Test.YticjabdkjjbegaaPx3
import Derived.Test.YticjabdkjjbegaaPx4
import Derived.Test.YticjabdkjjbegaaPx6
import Derived.Test.YticjabdkjjbegaaPx7
import Derived.Test.YticjabdkjjbegaaPx8
namespace Go.Proofs.Yticjabdkjjbegaa.P
open Go.RowKit Go.Proofs.Yticjabdkjjbegaa.HRows Go.Proofs.YticjabdkjjbegaaW.PrintWords Go.Proofs.YticjabdkjjbegaaW.PrintLast Go.Proofs.YticjabdkjjbegaaW.PrintMore
attribute [local go_sem] max2_int min2_int max_two min_two max_three min_three max_four min_four   -- for this text's walks alone
set_option linter.unusedVariables false
set_option linter.unusedSimpArgs false

/-! ### stolonlaw11_GraphAll: function 6 -/
mutual
def stolonlaw11_GraphAll.l0 : Nat → Int → Bool → List Int → Int → Int → List (S41) → Option (Bool)
  | 0, _, _, _, _, _, _ => none
  | k + 1, x1, x5, x6, x7, x262000, x262001 => if x7 < (x262001.length : Int) then (if x6.length < 17592186044416 then (stolonlaw11_GraphAll.l0 k x1 x5 (x6 ++ [x7]) (wrap64 (x7 + 1)) x262000 x262001) else (none)) else ((graph_Reach.f x262000 x262001 x1).bind fun t267 => ((graph_Nodes.f x262000 x262001 x6 x1).bind fun t270 => (stolonlaw11_GraphAll.l1 k x1 x5 t267 t270 0 x262000 x262001)))
def stolonlaw11_GraphAll.l1 : Nat → Int → Bool → List Int → List Int → Int → Int → List (S41) → Option (Bool)
  | 0, _, _, _, _, _, _, _ => none
  | k + 1, x1, x5, x8, x9, x10, x262000, x262001 => if x10 < (x8.length : Int) then (if 0 ≤ x10 then ((stolonref11_In.f k x9 (rd x8 x10)).bind fun t274 => (if t274 = true then (stolonlaw11_GraphAll.l1 k x1 x5 x8 x9 (wrap64 (x10 + 1)) x262000 x262001) else (some false))) else (none)) else (if x1 ≥ 0 then (if x5 = true then ((graph_Tree.f x262000 x262001 ([] : List Int) x1).bind fun t275 => (if (t275 == (decide (x1 < x262000))) = true then ((graph_Nodes.f x262000 x262001 ([] : List Int) x1).bind fun t276 => (if (((t276.length : Int) == 1) == (decide (x1 < x262000))) = true then ((graph_Cost.f k x262000 x262001 ([] : List Int)).bind fun t279 => (if t279 = 0 then (some ((decide ((x9.length : Int) > 0)) == (decide (x1 < x262000)))) else (some false))) else (some false))) else (some false))) else (some false)) else (if x5 = true then ((graph_Tree.f x262000 x262001 ([] : List Int) x1).bind fun t280 => (if (t280 == false) = true then ((graph_Nodes.f x262000 x262001 ([] : List Int) x1).bind fun t281 => (if (((t281.length : Int) == 1) == false) = true then ((graph_Cost.f k x262000 x262001 ([] : List Int)).bind fun t284 => (if t284 = 0 then (some ((decide ((x9.length : Int) > 0)) == false)) else (some false))) else (some false))) else (some false))) else (some false)))
end
def stolonlaw11_GraphAll.f (k : Nat) (a0_0 : Int) (l0_1 : List (S41)) (a1 : Int) : Option (Bool) := (stolonlaw11_shown.f k).bind fun t262 => ((stolonref11_Right.f k a0_0 l0_1).bind fun t263 => (if t263 = true then (stolonlaw11_GraphAll.l0 k a1 t262 ([] : List Int) 0 a0_0 l0_1) else (some t262)))
theorem stolonlaw11_GraphAll.mono_l : ∀ k, (∀ y0 y1 y2 y3 y4 y5, LeO (stolonlaw11_GraphAll.l0 k y0 y1 y2 y3 y4 y5) (stolonlaw11_GraphAll.l0 (k + 1) y0 y1 y2 y3 y4 y5)) ∧ (∀ y0 y1 y2 y3 y4 y5 y6, LeO (stolonlaw11_GraphAll.l1 k y0 y1 y2 y3 y4 y5 y6) (stolonlaw11_GraphAll.l1 (k + 1) y0 y1 y2 y3 y4 y5 y6))
  | 0 => ⟨fun _ _ _ _ _ _ r h => by simp [stolonlaw11_GraphAll.l0] at h, fun _ _ _ _ _ _ _ r h => by simp [stolonlaw11_GraphAll.l1] at h⟩
  | k + 1 => by
    obtain ⟨ih0, ih1⟩ := stolonlaw11_GraphAll.mono_l k
    refine ⟨?_, ?_⟩
    · intro y0 y1 y2 y3 y4 y5
      unfold stolonlaw11_GraphAll.l0
      repeat' first
      | (with_reducible exact ih0 _ _ _ _ _ _)
      | (with_reducible exact ih1 _ _ _ _ _ _ _)
      | (with_reducible exact graph_Cost.mono _ _ _ _)
      | (with_reducible exact stolonlaw11_shown.mono _)
      | (with_reducible exact stolonref11_In.mono _ _ _)
      | (with_reducible exact stolonref11_Right.mono _ _ _)
      | (with_reducible exact LeO.refl _)
      | (with_reducible exact LeO.none _)
      | (with_reducible refine LeO.ite ?_ ?_)
      | (with_reducible refine LeO.bind ?_ (fun _ => ?_))
      | exact ih0 _ _ _ _ _ _
      | exact ih1 _ _ _ _ _ _ _
      | exact graph_Cost.mono _ _ _ _
      | exact stolonlaw11_shown.mono _
      | exact stolonref11_In.mono _ _ _
      | exact stolonref11_Right.mono _ _ _
      | exact LeO.none _
      | refine LeO.ite ?_ ?_
      | refine LeO.bind ?_ (fun _ => ?_)
    · intro y0 y1 y2 y3 y4 y5 y6
      unfold stolonlaw11_GraphAll.l1
      repeat' first
      | (with_reducible exact ih0 _ _ _ _ _ _)
      | (with_reducible exact ih1 _ _ _ _ _ _ _)
      | (with_reducible exact graph_Cost.mono _ _ _ _)
      | (with_reducible exact stolonlaw11_shown.mono _)
      | (with_reducible exact stolonref11_In.mono _ _ _)
      | (with_reducible exact stolonref11_Right.mono _ _ _)
      | (with_reducible exact LeO.refl _)
      | (with_reducible exact LeO.none _)
      | (with_reducible refine LeO.ite ?_ ?_)
      | (with_reducible refine LeO.bind ?_ (fun _ => ?_))
      | exact ih0 _ _ _ _ _ _
      | exact ih1 _ _ _ _ _ _ _
      | exact graph_Cost.mono _ _ _ _
      | exact stolonlaw11_shown.mono _
      | exact stolonref11_In.mono _ _ _
      | exact stolonref11_Right.mono _ _ _
      | exact LeO.none _
      | refine LeO.ite ?_ ?_
      | refine LeO.bind ?_ (fun _ => ?_)
theorem stolonlaw11_GraphAll.mono : ∀ a0 a1 a2 k, LeO (stolonlaw11_GraphAll.f k a0 a1 a2) (stolonlaw11_GraphAll.f (k + 1) a0 a1 a2) := by
  intro a0 a1 a2 k
  obtain ⟨ih0, ih1⟩ := stolonlaw11_GraphAll.mono_l k
  unfold stolonlaw11_GraphAll.f
  repeat' first
      | (with_reducible exact ih0 _ _ _ _ _ _)
      | (with_reducible exact ih1 _ _ _ _ _ _ _)
      | (with_reducible exact graph_Cost.mono _ _ _ _)
      | (with_reducible exact stolonlaw11_shown.mono _)
      | (with_reducible exact stolonref11_In.mono _ _ _)
      | (with_reducible exact stolonref11_Right.mono _ _ _)
      | (with_reducible exact LeO.refl _)
      | (with_reducible exact LeO.none _)
      | (with_reducible refine LeO.ite ?_ ?_)
      | (with_reducible refine LeO.bind ?_ (fun _ => ?_))
      | exact ih0 _ _ _ _ _ _
      | exact ih1 _ _ _ _ _ _ _
      | exact graph_Cost.mono _ _ _ _
      | exact stolonlaw11_shown.mono _
      | exact stolonref11_In.mono _ _ _
      | exact stolonref11_Right.mono _ _ _
      | exact LeO.none _
      | refine LeO.ite ?_ ?_
      | refine LeO.bind ?_ (fun _ => ?_)
set_option maxHeartbeats 8000000 in
set_option maxRecDepth 100000 in
theorem stolonlaw11_GraphAll.calls (k : Nat) (a0_0 : Int) (A0_1 : Option Addr) (c0_1 : Nat) (l0_1 : List (S41)) (a1 : Int) (r : Bool) (w : World) (hr0_1 : Kd.C k41 w A0_1 l0_1.length l0_1) (hc0_1 : l0_1.length ≤ c0_1) (hTrue : Aside0 (r = true)) (h : stolonlaw11_GraphAll.f k a0_0 l0_1 a1 = some r) :
    Calls Try.prog 6 #[.agg #[.int .i64 a0_0, .slice A0_1 l0_1.length c0_1], .int .i64 a1] w fun e w' => e = .returned (.bool r) ∧ Below w.heap.size w w' := by
  have hu24 := Try.underlying24
  have HR0_1 := Aside0.mk hr0_1
  have HC0_1 := Aside0.mk hc0_1
  clear hr0_1 hc0_1
  have HB := Aside0.mk (Below.refl w.heap.size w)
  have H : ((stolonlaw11_shown.f k).bind fun t262 => ((stolonref11_Right.f k a0_0 l0_1).bind fun t263 => (if t263 = true then (stolonlaw11_GraphAll.l0 k a1 t262 ([] : List Int) 0 a0_0 l0_1) else (some t262)))) = some r := h
  clear h
  replace H := Option.bind_eq_some_iff.mp H
  obtain ⟨t262, A30, H⟩ := H
  replace H : ((stolonref11_Right.f k a0_0 l0_1).bind fun t263 => (if t263 = true then (stolonlaw11_GraphAll.l0 k a1 t262 ([] : List Int) 0 a0_0 l0_1) else (some t262))) = some r := H
  have A3 := Aside0.mk A30
  clear A30
  replace H := Option.bind_eq_some_iff.mp H
  obtain ⟨t263, A40, H⟩ := H
  replace H : (if t263 = true then (stolonlaw11_GraphAll.l0 k a1 t262 ([] : List Int) 0 a0_0 l0_1) else (some t262)) = some r := H
  have A4 := Aside0.mk A40
  clear A40
  by_cases c5 : t263 = true
  · subst c5
    have H1 : (stolonlaw11_GraphAll.l0 k a1 t262 ([] : List Int) 0 a0_0 l0_1) = some r := by rw [if_pos rfl] at H; exact H
    clear H
    have H := H1
    clear H1
    have H' := Aside0.mk H
    clear H
    go_enter Try.func6, Try.ntmps6
    go_wp2_with (first | ((with_reducible refine gate_dst (N := 2) rfl ?_); (try (refine gate_guard (by rfl) ?_; dsimp only)); refine box_event ?hg (N := 2) ?hd (cs := #[.int .i64 a0_0, .slice A0_1 l0_1.length c0_1]) (t := 24) ?hr ?_; (case hd => rfl); (case hg => rfl); (case hr => first | (go_simp; done) | (go_simp; rfl)); intro gb261 hg w6 hbox hb; have n0_ := Aside0.mk (below_step (by repeat (first | (with_reducible first | exact HB.out | apply below_alloc | apply pw_below_drewN | apply below_drew1) | exact HB.out)) hb); have n1_ := Aside0.mk (hbox); have n2_ := Aside0.mk ((by rw [hg]; exact (below_size (by repeat (first | (with_reducible first | exact HB.out | apply below_alloc | apply pw_below_drewN | apply below_drew1) | exact HB.out))) : w.heap.size ≤ gb261)); have n3_ := Aside0.mk ((by rw [hg]; exact (below_size (by repeat (first | (with_reducible first | exact HB.out | apply below_alloc | apply pw_below_drewN | apply below_drew1) | exact HB.out))) : w.heap.size ≤ gb261)); clear HB; have HB := n0_; have BK261 := n1_; have GW261 := n2_; have GE261 := n3_; clear n0_ n1_ n2_ n3_; clear hb hbox hg) | ((with_reducible refine gate_callee (f := 9) rfl ?_); refine goesL_ (some 12) rfl rfl Try.func9 (by kernel_rfl) rfl #[] rfl (by (try simp only [List.map_toArray, List.map_cons, List.map_nil]); first | done | rfl | (simp only [List.length_drop, List.length_take]; rfl)) ?_; (with_reducible refine (stolonlaw11_shown.calls k  t262 _ A3.out).mono ?_); rintro e w7 ⟨rfl, hb⟩; refine ⟨_, rfl, ?_⟩; have n0_ := Aside0.mk (blk_below (g := gb261) (o := .cells #[.int .i64 a0_0, .slice A0_1 l0_1.length c0_1] 24 (0, 0)) (by (with_reducible repeat (first | refine blk_drewN ?_ _ | refine blk_drew ?_ | refine blk_alloc ?_ _)); exact BK261.out) hb); have n1_ := Aside0.mk (below_step (by repeat (first | (with_reducible first | exact HB.out | apply below_alloc | apply pw_below_drewN | apply below_drew1 | refine below_set ?_ GE261.out) | exact HB.out)) hb); clear BK261; clear HB; have BK261 := n0_; have HB := n1_; clear n0_ n1_; (try clear hb); (try clear hb2); (try clear hk); (try clear hi); have hcz8_0 : w7.cell? ⟨gb261, 0, none⟩ = some (.int .i64 a0_0) := (blk_cell BK261.out 0).trans rfl; have hcz8_1 : w7.cell? ⟨gb261, 1, none⟩ = some (.slice A0_1 l0_1.length c0_1) := (blk_cell BK261.out 1).trans rfl; have hfz8_0 := blk_frozen BK261.out 0; have hfz8_1 := blk_frozen BK261.out 1) | ((with_reducible refine gate_callee (f := 10) rfl ?_); refine goesL_ (some 14) rfl rfl Try.func10 (by kernel_rfl) rfl #[.agg #[.int .i64 a0_0, .slice A0_1 l0_1.length c0_1]] rfl (by (try simp only [List.map_toArray, List.map_cons, List.map_nil]); first | done | rfl | (simp only [List.length_drop, List.length_take]; rfl)) ?_; (with_reducible refine (stolonref11_Right.calls k a0_0 _ _ l0_1 true _ ?side1 ?side2 A4.out).mono ?_); (case side1 => repeat (first | exact (Kd.C_below HR0_1.out HB.out) | (with_reducible refine Kd.C_alloc ?_ _) | (with_reducible refine Kd.C_drewN ?_ _) | (with_reducible refine Kd.C_drew ?_))); (case side2 => exact HC0_1.out); rintro e w9 ⟨rfl, hb⟩; refine ⟨_, rfl, ?_⟩; have n0_ := Aside0.mk (blk_below (g := gb261) (o := .cells #[.int .i64 a0_0, .slice A0_1 l0_1.length c0_1] 24 (0, 0)) (by (with_reducible repeat (first | refine blk_drewN ?_ _ | refine blk_drew ?_ | refine blk_alloc ?_ _)); exact BK261.out) hb); have n1_ := Aside0.mk (below_step (by repeat (first | (with_reducible first | exact HB.out | apply below_alloc | apply pw_below_drewN | apply below_drew1 | refine below_set ?_ GE261.out) | exact HB.out)) hb); clear BK261; clear HB; have BK261 := n0_; have HB := n1_; clear n0_ n1_; (try clear hb); (try clear hb2); (try clear hk); (try clear hi)))
    go_loopg [6, 7] k (fun kq v6 v7 w' => ∃ (x6_1 : List Int) (x7_1 : Int), v7 = .int .i64 x7_1 ∧ Aside0 (stolonlaw11_GraphAll.l0 kq a1 t262 x6_1 x7_1 a0_0 l0_1 = some r) ∧ Aside0 (kq ≤ k) ∧ Aside0 (Kd.R (Kd.int .i64) 3 w' w.heap.size (fun _ => True) v6 x6_1) ∧ Aside0 (w'.heap[gb261]? = some (.cells #[.int .i64 a0_0, (.slice A0_1 l0_1.length c0_1)] 24 (0, 0))) ∧ Aside0 (Below w.heap.size w w'))
    case atStart => exact ⟨(([] : List Int)), (0), (by first | rfl | (simp; done) | (simp [*]; done)), H', ⟨Nat.le_refl _⟩, ⟨by first | exact Kd.R_nil _ _ _ _ _ | exact Kd.N_nil _ _ _ _ _ | exact Kd.V_nil _ _ _ _ _ | exact Kd.Q_nil _ _ _ _ _ | exact Kd.S_nil _ _ _ _ _⟩, ⟨by (with_reducible repeat (first | refine blk_drewN ?_ _ | refine blk_drew ?_ | refine blk_alloc ?_ _)); exact BK261.out⟩, ⟨by repeat (first | (with_reducible first | exact HB.out | apply below_alloc | apply pw_below_drewN | apply below_drew1 | refine below_set ?_ GE261.out) | exact HB.out)⟩⟩
    case round =>
      clear H'
      try clear c1
      try clear p2
      try clear c5
      try clear c6
      try clear c9
      try clear hcz8_0
      try clear hcz8_1
      try clear hfz8_0
      try clear hfz8_1
      obtain ⟨x6_1, x7_1, rfl, HA, HK1, HO_6, BK261, HB⟩ := hrel
      cases gk with
      | zero => exact absurd HA.out (by simp [stolonlaw11_GraphAll.l0])
      | succ k1 =>
        have H := HA.out
        clear HA
        simp only [stolonlaw11_GraphAll.l0] at H
        by_cases c10 : x7_1 < (l0_1.length : Int)
        · rw [if_pos c10] at H
          have c10b0 : decide (x7_1 < (l0_1.length : Int)) = true := decide_eq_true c10
          clear c10
          by_cases c11 : x6_1.length < 17592186044416
          · rw [if_pos c11] at H
            have LMc11 := Aside0.mk c11
            clear c11
            obtain ⟨y264, hy264⟩ : ∃ y_ : List Int, y_ = (x6_1 ++ [x7_1]) := ⟨_, rfl⟩
            replace H : (stolonlaw11_GraphAll.l0 k1 a1 t262 y264 (wrap64 (x7_1 + 1)) a0_0 l0_1) = some r := by first | (rw [hy264]; with_reducible exact H) | (have H2_ := (Option.bind_some _ _).symm.trans H; rw [hy264]; with_reducible exact H2_) | (have H2_ := (Option.bind_some _ _).symm.trans H; with_reducible exact H2_) | with_reducible exact H | (rw [hy264]; exact H) | exact H
            have Ny264 := Aside0.mk hy264
            clear hy264
            have H' := Aside0.mk H
            clear H
            have hcz12_0 : wr.cell? ⟨gb261, 0, none⟩ = some (.int .i64 a0_0) := (blk_cell BK261.out 0).trans rfl
            have hcz12_1 : wr.cell? ⟨gb261, 1, none⟩ = some (.slice A0_1 l0_1.length c0_1) := (blk_cell BK261.out 1).trans rfl
            have hfz12_0 := blk_frozen BK261.out 0
            have hfz12_1 := blk_frozen BK261.out 1
            go_wp2_with (first | ((with_reducible refine gate_builtin (b := .append) (xs := #[.tmp 24, .tmp 26]) rfl ?_); (try (refine gate_guard (by rfl) ?_; dsimp only)); at_builtin; refine Kd.R_append (Kd.int .i64) (w0 := w) w.heap.size rfl (.tmp 24) (.tmp 26) 25 3 (.int .i64 0) 8 rfl Try.underlying25 info3 rfl (by decide) (by omega) u6 x6_1 x7_1 [.int .i64 x7_1] (fun _ => True) (fun _ => False) rfl rfl ?aP (fun _ hk => hk.elim) ?aF ?aO ?aB ?aS ?aL ?_; (case aP => exact rfl); (case aB => exact (by repeat (first | (with_reducible first | exact HB.out | apply below_alloc | apply pw_below_drewN | apply below_drew1 | refine below_set ?_ GE261.out) | exact HB.out))); (case aF => exact (fun _ _ => trivial)); (case aO => exact (by (with_reducible repeat (first | apply Kd.R_alloc | apply Kd.R_drewN | apply Kd.R_drew)); exact HO_6.out)); (case aS => exact (below_size (by repeat (first | (with_reducible first | exact HB.out | apply below_alloc | apply pw_below_drewN | apply below_drew1 | refine below_set ?_ GE261.out) | exact HB.out)))); (case aL => have := LMc11.out; omega); intro v265 w13 ho hb hg hat; rw [← Ny264.out] at ho; have n0_ := Aside0.mk (blk_grown (g := gb261) (o := .cells #[.int .i64 a0_0, .slice A0_1 l0_1.length c0_1] 24 (0, 0)) (by (with_reducible repeat (first | refine blk_drewN ?_ _ | refine blk_drew ?_ | refine blk_alloc ?_ _)); exact BK261.out) hg (Kd.R_ne HO_6.out BK261.out (by decide))); have n1_ := Aside0.mk (hb); have n2_ := Aside0.mk (ho); clear BK261; clear HB; clear HO_6; have BK261 := n0_; have HB := n1_; have HO266 := n2_; clear n0_ n1_ n2_; clear ho hb hg hat))
            go_roundg k1
            case measure => have := HK1.out; omega
            case rel => exact ⟨(y264), (wrap64 (x7_1 + 1)), (by first | rfl | (simp; done) | (simp [*]; done)), H', ⟨by have := HK1.out; omega⟩, ⟨by (with_reducible repeat (first | apply Kd.R_alloc | apply Kd.R_drewN | apply Kd.R_drew)); exact HO266.out⟩, ⟨by (with_reducible repeat (first | refine blk_drewN ?_ _ | refine blk_drew ?_ | refine blk_alloc ?_ _)); exact BK261.out⟩, ⟨by repeat (first | (with_reducible first | exact HB.out | apply below_alloc | apply pw_below_drewN | apply below_drew1 | refine below_set ?_ GE261.out) | exact HB.out)⟩⟩
          · rw [if_neg c11] at H
            exact absurd H (by simp)
        · rw [if_neg c10] at H
          have c10b0 : decide (x7_1 < (l0_1.length : Int)) = false := decide_eq_false c10
          clear c10
          replace H := Option.bind_eq_some_iff.mp H
          obtain ⟨t267, A140, H⟩ := H
          replace H : ((graph_Nodes.f a0_0 l0_1 x6_1 a1).bind fun t270 => (stolonlaw11_GraphAll.l1 k1 a1 t262 t267 t270 0 a0_0 l0_1)) = some r := H
          have A14 := Aside0.mk A140
          clear A140
          replace H := Option.bind_eq_some_iff.mp H
          obtain ⟨t270, A150, H⟩ := H
          replace H : (stolonlaw11_GraphAll.l1 k1 a1 t262 t267 t270 0 a0_0 l0_1) = some r := H
          have A15 := Aside0.mk A150
          clear A150
          have H' := Aside0.mk H
          clear H
          have hcz16_0 : wr.cell? ⟨gb261, 0, none⟩ = some (.int .i64 a0_0) := (blk_cell BK261.out 0).trans rfl
          have hcz16_1 : wr.cell? ⟨gb261, 1, none⟩ = some (.slice A0_1 l0_1.length c0_1) := (blk_cell BK261.out 1).trans rfl
          have hfz16_0 := blk_frozen BK261.out 0
          have hfz16_1 := blk_frozen BK261.out 1
          go_wp2_with (first | ((with_reducible refine gate_callee (f := 21) rfl ?_); refine goesL_ (some 30) rfl rfl Try.func21 (by kernel_rfl) rfl #[.agg #[.int .i64 a0_0, .slice A0_1 l0_1.length c0_1], .int .i64 a1] rfl (by (try simp only [List.map_toArray, List.map_cons, List.map_nil]); first | done | rfl | (simp only [List.length_drop, List.length_take]; rfl)) ?_; (with_reducible refine (graph_Reach.calls a0_0 _ _ l0_1 a1 t267 _ ?side1 ?side2 A14.out).mono ?_); (case side1 => repeat (first | exact (Kd.C_below HR0_1.out HB.out) | (with_reducible refine Kd.C_alloc ?_ _) | (with_reducible refine Kd.C_drewN ?_ _) | (with_reducible refine Kd.C_drew ?_))); (case side2 => exact HC0_1.out); rintro e w17 ⟨v268, rfl, ho0, hb⟩; refine ⟨_, rfl, ?_⟩; have n0_ := Aside0.mk (Kd.R_elder' (by (with_reducible repeat (first | apply Kd.R_alloc | apply Kd.R_drewN | apply Kd.R_drew)); exact HO_6.out) (Kd.R_base ho0) hb); have n1_ := Aside0.mk (Kd.R_lower (Kd.R_new' ho0 (Kd.R_lt (by (with_reducible repeat (first | apply Kd.R_alloc | apply Kd.R_drewN | apply Kd.R_drew)); exact HO_6.out))) (below_size (by repeat (first | (with_reducible first | exact HB.out | apply below_alloc | apply pw_below_drewN | apply below_drew1 | refine below_set ?_ GE261.out) | exact HB.out)))); have n2_ := Aside0.mk (blk_below (g := gb261) (o := .cells #[.int .i64 a0_0, .slice A0_1 l0_1.length c0_1] 24 (0, 0)) (by (with_reducible repeat (first | refine blk_drewN ?_ _ | refine blk_drew ?_ | refine blk_alloc ?_ _)); exact BK261.out) hb); have n3_ := Aside0.mk (below_step (by repeat (first | (with_reducible first | exact HB.out | apply below_alloc | apply pw_below_drewN | apply below_drew1 | refine below_set ?_ GE261.out) | exact HB.out)) hb); clear HO_6; clear BK261; clear HB; have HO_6 := n0_; have HO269 := n1_; have BK261 := n2_; have HB := n3_; clear n0_ n1_ n2_ n3_; (try clear hb); (try clear hb2); (try clear hk); (try clear hi); (try clear ho0); have hcz18_0 : w17.cell? ⟨gb261, 0, none⟩ = some (.int .i64 a0_0) := (blk_cell BK261.out 0).trans rfl; have hcz18_1 : w17.cell? ⟨gb261, 1, none⟩ = some (.slice A0_1 l0_1.length c0_1) := (blk_cell BK261.out 1).trans rfl; have hfz18_0 := blk_frozen BK261.out 0; have hfz18_1 := blk_frozen BK261.out 1; obtain ⟨Ao19, co19, eo19⟩ := Kd.R_slice HO_6.out; subst eo19) | ((with_reducible refine gate_callee (f := 13) rfl ?_); refine goesL_ (some 34) rfl rfl Try.func13 (by kernel_rfl) rfl #[.agg #[.int .i64 a0_0, .slice A0_1 l0_1.length c0_1], .slice Ao19 x6_1.length co19, .int .i64 a1] rfl (by (try simp only [List.map_toArray, List.map_cons, List.map_nil]); first | done | rfl | (simp only [List.length_drop, List.length_take]; rfl)) ?_; (with_reducible refine (graph_Nodes.calls a0_0 _ _ l0_1 _ _ x6_1 a1 t270 _ ?side1 ?side2 ?side3 ?side4 A15.out).mono ?_); (case side1 => repeat (first | exact (Kd.C_below HR0_1.out HB.out) | (with_reducible refine Kd.C_alloc ?_ _) | (with_reducible refine Kd.C_drewN ?_ _) | (with_reducible refine Kd.C_drew ?_))); (case side2 => exact HC0_1.out); (case side3 => repeat (first | exact (Kd.R_reads' HO_6.out).2.2 | (with_reducible refine Kd.C_alloc ?_ _) | (with_reducible refine Kd.C_drewN ?_ _) | (with_reducible refine Kd.C_drew ?_))); (case side4 => exact (Kd.R_reads' HO_6.out).2.1); rintro e w20 ⟨v271, rfl, ho0, hb⟩; refine ⟨_, rfl, ?_⟩; have n0_ := Aside0.mk (Kd.R_elder' (by (with_reducible repeat (first | apply Kd.R_alloc | apply Kd.R_drewN | apply Kd.R_drew)); exact HO_6.out) (Kd.R_base ho0) hb); have n1_ := Aside0.mk (Kd.R_elder' (by (with_reducible repeat (first | apply Kd.R_alloc | apply Kd.R_drewN | apply Kd.R_drew)); exact HO269.out) (Kd.R_base ho0) hb); have n2_ := Aside0.mk (Kd.R_lower (Kd.R_new' (Kd.R_new' ho0 (Kd.R_lt (by (with_reducible repeat (first | apply Kd.R_alloc | apply Kd.R_drewN | apply Kd.R_drew)); exact HO_6.out))) (Kd.R_lt (by (with_reducible repeat (first | apply Kd.R_alloc | apply Kd.R_drewN | apply Kd.R_drew)); exact HO269.out))) (below_size (by repeat (first | (with_reducible first | exact HB.out | apply below_alloc | apply pw_below_drewN | apply below_drew1 | refine below_set ?_ GE261.out) | exact HB.out)))); have n3_ := Aside0.mk (blk_below (g := gb261) (o := .cells #[.int .i64 a0_0, .slice A0_1 l0_1.length c0_1] 24 (0, 0)) (by (with_reducible repeat (first | refine blk_drewN ?_ _ | refine blk_drew ?_ | refine blk_alloc ?_ _)); exact BK261.out) hb); have n4_ := Aside0.mk (below_step (by repeat (first | (with_reducible first | exact HB.out | apply below_alloc | apply pw_below_drewN | apply below_drew1 | refine below_set ?_ GE261.out) | exact HB.out)) hb); clear HO_6; clear HO269; clear BK261; clear HB; have HO_6 := n0_; have HO269 := n1_; have HO272 := n2_; have BK261 := n3_; have HB := n4_; clear n0_ n1_ n2_ n3_ n4_; (try clear hb); (try clear hb2); (try clear hk); (try clear hi); (try clear ho0)))
          go_loopg [10] k1 (fun kq v10 w' => ∃ (x10_2 : Int), v10 = .int .i64 x10_2 ∧ Aside0 (stolonlaw11_GraphAll.l1 kq a1 t262 t267 t270 x10_2 a0_0 l0_1 = some r) ∧ Aside0 (kq ≤ k1) ∧ Aside0 (Kd.R (Kd.int .i64) 3 w' w.heap.size (fun k_ => some k_ ≠ (v271 : Value).ownBlock) v268 t267) ∧ Aside0 (Kd.R (Kd.int .i64) 3 w' w.heap.size (fun k_ => some k_ ≠ (v268 : Value).ownBlock) v271 t270) ∧ Aside0 (w'.heap[gb261]? = some (.cells #[.int .i64 a0_0, (.slice A0_1 l0_1.length c0_1)] 24 (0, 0))) ∧ Aside0 (Below w.heap.size w w'))
          case atStart => exact ⟨(0), (by first | rfl | (simp; done) | (simp [*]; done)), H', ⟨Nat.le_refl _⟩, ⟨by (with_reducible repeat (first | apply Kd.R_alloc | apply Kd.R_drewN | apply Kd.R_drew)); exact Kd.R_mono HO269.out (fun _ hk => hk.2)⟩, ⟨by (with_reducible repeat (first | apply Kd.R_alloc | apply Kd.R_drewN | apply Kd.R_drew)); exact Kd.R_mono HO272.out (fun _ hk => hk.2)⟩, ⟨by (with_reducible repeat (first | refine blk_drewN ?_ _ | refine blk_drew ?_ | refine blk_alloc ?_ _)); exact BK261.out⟩, ⟨by repeat (first | (with_reducible first | exact HB.out | apply below_alloc | apply pw_below_drewN | apply below_drew1 | refine below_set ?_ GE261.out) | exact HB.out)⟩⟩
          case round =>
            clear H'
            try clear c1
            try clear c2
            try clear p2
            try clear c5
            try clear c6
            try clear p6
            try clear c9
            try clear c10
            try clear c10b0
            try clear c11
            try clear c13
            try clear hcz12_0
            try clear hcz12_1
            try clear hcz16_0
            try clear hcz16_1
            try clear hcz18_0
            try clear hcz18_1
            try clear hcz8_0
            try clear hcz8_1
            try clear hfz12_0
            try clear hfz12_1
            try clear hfz16_0
            try clear hfz16_1
            try clear hfz18_0
            try clear hfz18_1
            try clear hfz8_0
            try clear hfz8_1
            try clear p2
            obtain ⟨x10_2, rfl, HA, HK2, HO_8, HO_9, BK261, HB⟩ := hrel
            cases gk with
            | zero => exact absurd HA.out (by simp [stolonlaw11_GraphAll.l1])
            | succ k2 =>
              have H := HA.out
              clear HA
              simp only [stolonlaw11_GraphAll.l1] at H
              by_cases c21 : x10_2 < (t267.length : Int)
              · rw [if_pos c21] at H
                have c21b0 : decide (x10_2 < (t267.length : Int)) = true := decide_eq_true c21
                clear c21
                by_cases c22 : 0 ≤ x10_2
                · rw [if_pos c22] at H
                  have c22b0 : decide (0 ≤ x10_2) = true := decide_eq_true c22
                  clear c22
                  replace H := Option.bind_eq_some_iff.mp H
                  obtain ⟨t274, A230, H⟩ := H
                  replace H : (if t274 = true then (stolonlaw11_GraphAll.l1 k2 a1 t262 t267 t270 (wrap64 (x10_2 + 1)) a0_0 l0_1) else (some false)) = some r := H
                  have A23 := Aside0.mk A230
                  clear A230
                  by_cases c24 : t274 = true
                  · subst c24
                    have H1 : (stolonlaw11_GraphAll.l1 k2 a1 t262 t267 t270 (wrap64 (x10_2 + 1)) a0_0 l0_1) = some r := by rw [if_pos rfl] at H; exact H
                    clear H
                    have H := H1
                    clear H1
                    have H' := Aside0.mk H
                    clear H
                    obtain ⟨Ao25, co25, eo25⟩ := Kd.R_slice HO_8.out
                    subst eo25
                    have p273 : 0 ≤ (x10_2 : Int) := of_decide_eq_true (by first | (with_reducible assumption) | assumption)
                    have q273 : x10_2 < (t267.length : Int) := of_decide_eq_true (by first | (with_reducible assumption) | assumption)
                    obtain ⟨ad273, e273, hx273_0⟩ := Kd.at_int (Kd.R_reads' HO_8.out).2.2 x10_2 p273 q273
                    cases e273
                    replace p273 := eq_true p273
                    replace q273 := eq_true q273
                    obtain ⟨Ao26, co26, eo26⟩ := Kd.R_slice HO_9.out
                    subst eo26
                    go_wp2_with (first | ((with_reducible refine gate_callee (f := 19) rfl ?_); refine goesL_ (some 46) rfl rfl Try.func19 (by kernel_rfl) rfl #[.slice Ao26 t270.length co26, .int .i64 (rd t267 x10_2)] rfl (by (try simp only [List.map_toArray, List.map_cons, List.map_nil]); first | done | rfl | (simp only [List.length_drop, List.length_take]; rfl)) ?_; (with_reducible refine (stolonref11_In.calls k2 _ _ t270 (rd t267 x10_2) true _ ?side1 ?side2 A23.out).mono ?_); (case side1 => repeat (first | exact (Kd.R_reads' HO_9.out).2.2 | (with_reducible refine Kd.C_alloc ?_ _) | (with_reducible refine Kd.C_drewN ?_ _) | (with_reducible refine Kd.C_drew ?_))); (case side2 => exact (Kd.R_reads' HO_9.out).2.1); rintro e w' ⟨rfl, ⟨nd, rfl⟩⟩; refine ⟨_, rfl, ?_⟩))
                    go_roundg k2
                    case measure => have := HK1.out; have := HK2.out; omega
                    case rel => exact ⟨(wrap64 (x10_2 + 1)), (by first | rfl | (simp; done) | (simp [*]; done)), H', ⟨by have := HK1.out; have := HK2.out; omega⟩, ⟨by (with_reducible repeat (first | apply Kd.R_alloc | apply Kd.R_drewN | apply Kd.R_drew)); exact HO_8.out⟩, ⟨by (with_reducible repeat (first | apply Kd.R_alloc | apply Kd.R_drewN | apply Kd.R_drew)); exact HO_9.out⟩, ⟨by (with_reducible repeat (first | refine blk_drewN ?_ _ | refine blk_drew ?_ | refine blk_alloc ?_ _)); exact BK261.out⟩, ⟨by repeat (first | (with_reducible first | exact HB.out | apply below_alloc | apply pw_below_drewN | apply below_drew1 | refine below_set ?_ GE261.out) | exact HB.out)⟩⟩
                  · replace c24 := Bool.eq_false_iff.mpr c24
                    subst c24
                    have H1 : (some false) = some r := by rw [if_neg (show ¬ (false = true) by decide)] at H; exact H
                    clear H
                    have H := H1
                    clear H1
                    exact absurd ((Option.some.inj H).trans hTrue.out) (by simp)
                · rw [if_neg c22] at H
                  exact absurd H (by simp)
              · rw [if_neg c21] at H
                have c21b0 : decide (x10_2 < (t267.length : Int)) = false := decide_eq_false c21
                clear c21
                by_cases c27 : a1 ≥ 0
                · rw [if_pos c27] at H
                  have c27b0 : decide (0 ≤ a1) = true := decide_eq_true c27
                  clear c27
                  by_cases c28 : t262 = true
                  · subst c28
                    have H1 : ((graph_Tree.f a0_0 l0_1 ([] : List Int) a1).bind fun t275 => (if (t275 == (decide (a1 < a0_0))) = true then ((graph_Nodes.f a0_0 l0_1 ([] : List Int) a1).bind fun t276 => (if (((t276.length : Int) == 1) == (decide (a1 < a0_0))) = true then ((graph_Cost.f k2 a0_0 l0_1 ([] : List Int)).bind fun t279 => (if t279 = 0 then (some ((decide ((t270.length : Int) > 0)) == (decide (a1 < a0_0)))) else (some false))) else (some false))) else (some false))) = some r := by rw [if_pos rfl] at H; exact H
                    clear H
                    have H := H1
                    clear H1
                    replace H := Option.bind_eq_some_iff.mp H
                    obtain ⟨t275, A290, H⟩ := H
                    replace H : (if (t275 == (decide (a1 < a0_0))) = true then ((graph_Nodes.f a0_0 l0_1 ([] : List Int) a1).bind fun t276 => (if (((t276.length : Int) == 1) == (decide (a1 < a0_0))) = true then ((graph_Cost.f k2 a0_0 l0_1 ([] : List Int)).bind fun t279 => (if t279 = 0 then (some ((decide ((t270.length : Int) > 0)) == (decide (a1 < a0_0)))) else (some false))) else (some false))) else (some false)) = some r := H
                    have A29 := Aside0.mk A290
                    clear A290
                    by_cases c30 : (t275 == (decide (a1 < a0_0))) = true
                    · rw [if_pos c30] at H
                      have c30b0 : (t275 == (decide (a1 < a0_0))) = true := c30
                      (try (have c30b1 : decide (t275 = (decide (a1 < a0_0))) = true := by simpa using c30))
                      (try (have c30b2 : (t275 == (decide (a1 < a0_0))) = true := by simpa using c30))
                      clear c30
                      replace H := Option.bind_eq_some_iff.mp H
                      obtain ⟨t276, A310, H⟩ := H
                      replace H : (if (((t276.length : Int) == 1) == (decide (a1 < a0_0))) = true then ((graph_Cost.f k2 a0_0 l0_1 ([] : List Int)).bind fun t279 => (if t279 = 0 then (some ((decide ((t270.length : Int) > 0)) == (decide (a1 < a0_0)))) else (some false))) else (some false)) = some r := H
                      have A31 := Aside0.mk A310
                      clear A310
                      by_cases c32 : (((t276.length : Int) == 1) == (decide (a1 < a0_0))) = true
                      · rw [if_pos c32] at H
                        have c32b0 : (((t276.length : Int) == 1) == (decide (a1 < a0_0))) = true := c32
                        (try (have c32b1 : decide (((t276.length : Int) == 1) = (decide (a1 < a0_0))) = true := by simpa using c32))
                        (try (have c32b2 : (((t276.length : Int) == 1) == (decide (a1 < a0_0))) = true := by simpa using c32))
                        clear c32
                        replace H := Option.bind_eq_some_iff.mp H
                        obtain ⟨t279, A330, H⟩ := H
                        replace H : (if t279 = 0 then (some ((decide ((t270.length : Int) > 0)) == (decide (a1 < a0_0)))) else (some false)) = some r := H
                        have A33 := Aside0.mk A330
                        clear A330
                        by_cases c34 : t279 = 0
                        · rw [if_pos c34] at H
                          have c34b0 : (t279 == 0) = true := beq_iff_eq.mpr c34
                          have c34b1 : (t279 != 0) = false := bne_eq_false_iff_eq.mpr c34
                          clear c34
                          obtain rfl := Option.some.inj H
                          obtain ⟨Ao35, co35, eo35⟩ := Kd.R_slice HO_8.out
                          subst eo35
                          have hcz36_0 : wr.cell? ⟨gb261, 0, none⟩ = some (.int .i64 a0_0) := (blk_cell BK261.out 0).trans rfl
                          have hcz36_1 : wr.cell? ⟨gb261, 1, none⟩ = some (.slice A0_1 l0_1.length c0_1) := (blk_cell BK261.out 1).trans rfl
                          have hfz36_0 := blk_frozen BK261.out 0
                          have hfz36_1 := blk_frozen BK261.out 1
                          go_wp2_with (first | (go_at_call 15; (refine (graph_Tree.calls a0_0 _ _ l0_1 _ _ ([] : List Int) a1 t275 _ ?side1 ?side2 ?side3 ?side4 A29.out).mono ?_); (case side1 => repeat (first | exact (Kd.C_below HR0_1.out HB.out) | (with_reducible refine Kd.C_alloc ?_ _) | (with_reducible refine Kd.C_drewN ?_ _) | (with_reducible refine Kd.C_drew ?_))); (case side2 => exact HC0_1.out); (case side3 => exact Kd.C_nil _ _); (case side4 => exact Nat.le_refl _); rintro e w37 ⟨rfl, hb⟩; have n0_ := Aside0.mk (Kd.R_below (by (with_reducible repeat (first | apply Kd.R_alloc | apply Kd.R_drewN | apply Kd.R_drew)); exact HO_8.out) hb); have n1_ := Aside0.mk (Kd.R_below (by (with_reducible repeat (first | apply Kd.R_alloc | apply Kd.R_drewN | apply Kd.R_drew)); exact HO_9.out) hb); have n2_ := Aside0.mk (blk_below (g := gb261) (o := .cells #[.int .i64 a0_0, .slice A0_1 l0_1.length c0_1] 24 (0, 0)) (by (with_reducible repeat (first | refine blk_drewN ?_ _ | refine blk_drew ?_ | refine blk_alloc ?_ _)); exact BK261.out) hb); have n3_ := Aside0.mk (below_step (by repeat (first | (with_reducible first | exact HB.out | apply below_alloc | apply pw_below_drewN | apply below_drew1 | refine below_set ?_ GE261.out) | exact HB.out)) hb); clear HO_8; clear HO_9; clear BK261; clear HB; have HO_8 := n0_; have HO_9 := n1_; have BK261 := n2_; have HB := n3_; clear n0_ n1_ n2_ n3_; (try clear hb); (try clear hb2); (try clear hk); (try clear hi); have hcz38_0 : w37.cell? ⟨gb261, 0, none⟩ = some (.int .i64 a0_0) := (blk_cell BK261.out 0).trans rfl; have hcz38_1 : w37.cell? ⟨gb261, 1, none⟩ = some (.slice A0_1 l0_1.length c0_1) := (blk_cell BK261.out 1).trans rfl; have hfz38_0 := blk_frozen BK261.out 0; have hfz38_1 := blk_frozen BK261.out 1) | (go_at_call 13; (refine (graph_Nodes.calls a0_0 _ _ l0_1 _ _ ([] : List Int) a1 t276 _ ?side1 ?side2 ?side3 ?side4 A31.out).mono ?_); (case side1 => repeat (first | exact (Kd.C_below HR0_1.out HB.out) | (with_reducible refine Kd.C_alloc ?_ _) | (with_reducible refine Kd.C_drewN ?_ _) | (with_reducible refine Kd.C_drew ?_))); (case side2 => exact HC0_1.out); (case side3 => exact Kd.C_nil _ _); (case side4 => exact Nat.le_refl _); rintro e w39 ⟨v277, rfl, ho0, hb⟩; have n0_ := Aside0.mk (Kd.R_elder' (by (with_reducible repeat (first | apply Kd.R_alloc | apply Kd.R_drewN | apply Kd.R_drew)); exact HO_8.out) (Kd.R_base ho0) hb); have n1_ := Aside0.mk (Kd.R_elder' (by (with_reducible repeat (first | apply Kd.R_alloc | apply Kd.R_drewN | apply Kd.R_drew)); exact HO_9.out) (Kd.R_base ho0) hb); have n2_ := Aside0.mk (Kd.R_lower (Kd.R_new' (Kd.R_new' ho0 (Kd.R_lt (by (with_reducible repeat (first | apply Kd.R_alloc | apply Kd.R_drewN | apply Kd.R_drew)); exact HO_8.out))) (Kd.R_lt (by (with_reducible repeat (first | apply Kd.R_alloc | apply Kd.R_drewN | apply Kd.R_drew)); exact HO_9.out))) (below_size (by repeat (first | (with_reducible first | exact HB.out | apply below_alloc | apply pw_below_drewN | apply below_drew1 | refine below_set ?_ GE261.out) | exact HB.out)))); have n3_ := Aside0.mk (blk_below (g := gb261) (o := .cells #[.int .i64 a0_0, .slice A0_1 l0_1.length c0_1] 24 (0, 0)) (by (with_reducible repeat (first | refine blk_drewN ?_ _ | refine blk_drew ?_ | refine blk_alloc ?_ _)); exact BK261.out) hb); have n4_ := Aside0.mk (below_step (by repeat (first | (with_reducible first | exact HB.out | apply below_alloc | apply pw_below_drewN | apply below_drew1 | refine below_set ?_ GE261.out) | exact HB.out)) hb); clear HO_8; clear HO_9; clear BK261; clear HB; have HO_8 := n0_; have HO_9 := n1_; have HO278 := n2_; have BK261 := n3_; have HB := n4_; clear n0_ n1_ n2_ n3_ n4_; (try clear hb); (try clear hb2); (try clear hk); (try clear hi); (try clear ho0); obtain ⟨Ao40, co40, eo40⟩ := Kd.R_slice HO278.out; subst eo40; have hcz41_0 : w39.cell? ⟨gb261, 0, none⟩ = some (.int .i64 a0_0) := (blk_cell BK261.out 0).trans rfl; have hcz41_1 : w39.cell? ⟨gb261, 1, none⟩ = some (.slice A0_1 l0_1.length c0_1) := (blk_cell BK261.out 1).trans rfl; have hfz41_0 := blk_frozen BK261.out 0; have hfz41_1 := blk_frozen BK261.out 1) | (go_at_call 17; (refine (graph_Cost.calls k2 a0_0 _ _ l0_1 _ _ ([] : List Int) t279 _ ?side1 ?side2 ?side3 ?side4 A33.out).mono ?_); (case side1 => repeat (first | exact (Kd.C_below HR0_1.out HB.out) | (with_reducible refine Kd.C_alloc ?_ _) | (with_reducible refine Kd.C_drewN ?_ _) | (with_reducible refine Kd.C_drew ?_))); (case side2 => exact HC0_1.out); (case side3 => exact Kd.C_nil _ _); (case side4 => exact Nat.le_refl _); rintro e w42 ⟨rfl, hb⟩; have n0_ := Aside0.mk (Kd.R_below (by (with_reducible repeat (first | apply Kd.R_alloc | apply Kd.R_drewN | apply Kd.R_drew)); exact HO_8.out) hb); have n1_ := Aside0.mk (Kd.R_below (by (with_reducible repeat (first | apply Kd.R_alloc | apply Kd.R_drewN | apply Kd.R_drew)); exact HO_9.out) hb); have n2_ := Aside0.mk (Kd.R_below (by (with_reducible repeat (first | apply Kd.R_alloc | apply Kd.R_drewN | apply Kd.R_drew)); exact HO278.out) hb); have n3_ := Aside0.mk (blk_below (g := gb261) (o := .cells #[.int .i64 a0_0, .slice A0_1 l0_1.length c0_1] 24 (0, 0)) (by (with_reducible repeat (first | refine blk_drewN ?_ _ | refine blk_drew ?_ | refine blk_alloc ?_ _)); exact BK261.out) hb); have n4_ := Aside0.mk (below_step (by repeat (first | (with_reducible first | exact HB.out | apply below_alloc | apply pw_below_drewN | apply below_drew1 | refine below_set ?_ GE261.out) | exact HB.out)) hb); clear HO_8; clear HO_9; clear HO278; clear BK261; clear HB; have HO_8 := n0_; have HO_9 := n1_; have HO278 := n2_; have BK261 := n3_; have HB := n4_; clear n0_ n1_ n2_ n3_ n4_; (try clear hb); (try clear hb2); (try clear hk); (try clear hi); obtain ⟨Ao43, co43, eo43⟩ := Kd.R_slice HO_9.out; subst eo43))
                          go_ret
                          exact ⟨by first | rfl | (simp [errW_none, errW_some] <;> rfl) | (simp [*, errW_none, errW_some] <;> rfl), by repeat (first | (with_reducible first | exact HB.out | apply below_alloc | apply pw_below_drewN | apply below_drew1 | refine below_set ?_ GE261.out) | exact HB.out)⟩
                        · rw [if_neg c34] at H
                          have c34b0 : (t279 == 0) = false := beq_eq_false_iff_ne.mpr c34
                          have c34b1 : (t279 != 0) = true := bne_iff_ne.mpr c34
                          exact absurd ((Option.some.inj H).trans hTrue.out) (by simp)
                      · rw [if_neg c32] at H
                        have c32b0 : (((t276.length : Int) == 1) == (decide (a1 < a0_0))) = false := by simpa using c32
                        (try (have c32b1 : decide (((t276.length : Int) == 1) = (decide (a1 < a0_0))) = false := by simpa using c32))
                        (try (have c32b2 : (((t276.length : Int) == 1) == (decide (a1 < a0_0))) = false := by simpa using c32))
                        (try (have c32b3 : ¬ (((t276.length : Int) == 1) = (decide (a1 < a0_0))) := by simpa using c32))
                        clear c32
                        exact absurd ((Option.some.inj H).trans hTrue.out) (by simp)
                    · rw [if_neg c30] at H
                      have c30b0 : (t275 == (decide (a1 < a0_0))) = false := by simpa using c30
                      (try (have c30b1 : decide (t275 = (decide (a1 < a0_0))) = false := by simpa using c30))
                      (try (have c30b2 : (t275 == (decide (a1 < a0_0))) = false := by simpa using c30))
                      (try (have c30b3 : ¬ (t275 = (decide (a1 < a0_0))) := by simpa using c30))
                      clear c30
                      exact absurd ((Option.some.inj H).trans hTrue.out) (by simp)
                  · replace c28 := Bool.eq_false_iff.mpr c28
                    subst c28
                    have H1 : (some false) = some r := by rw [if_neg (show ¬ (false = true) by decide)] at H; exact H
                    clear H
                    have H := H1
                    clear H1
                    exact absurd ((Option.some.inj H).trans hTrue.out) (by simp)
                · rw [if_neg c27] at H
                  have c27b0 : decide (0 ≤ a1) = false := decide_eq_false c27
                  clear c27
                  by_cases c44 : t262 = true
                  · subst c44
                    have H1 : ((graph_Tree.f a0_0 l0_1 ([] : List Int) a1).bind fun t280 => (if (t280 == false) = true then ((graph_Nodes.f a0_0 l0_1 ([] : List Int) a1).bind fun t281 => (if (((t281.length : Int) == 1) == false) = true then ((graph_Cost.f k2 a0_0 l0_1 ([] : List Int)).bind fun t284 => (if t284 = 0 then (some ((decide ((t270.length : Int) > 0)) == false)) else (some false))) else (some false))) else (some false))) = some r := by rw [if_pos rfl] at H; exact H
                    clear H
                    have H := H1
                    clear H1
                    replace H := Option.bind_eq_some_iff.mp H
                    obtain ⟨t280, A450, H⟩ := H
                    replace H : (if (t280 == false) = true then ((graph_Nodes.f a0_0 l0_1 ([] : List Int) a1).bind fun t281 => (if (((t281.length : Int) == 1) == false) = true then ((graph_Cost.f k2 a0_0 l0_1 ([] : List Int)).bind fun t284 => (if t284 = 0 then (some ((decide ((t270.length : Int) > 0)) == false)) else (some false))) else (some false))) else (some false)) = some r := H
                    have A45 := Aside0.mk A450
                    clear A450
                    by_cases c46 : (t280 == false) = true
                    · rw [if_pos c46] at H
                      have c46b0 : (t280 == false) = true := c46
                      (try (have c46b1 : decide (t280 = false) = true := by simpa using c46))
                      (try (have c46b2 : (t280 == false) = true := by simpa using c46))
                      clear c46
                      replace H := Option.bind_eq_some_iff.mp H
                      obtain ⟨t281, A470, H⟩ := H
                      replace H : (if (((t281.length : Int) == 1) == false) = true then ((graph_Cost.f k2 a0_0 l0_1 ([] : List Int)).bind fun t284 => (if t284 = 0 then (some ((decide ((t270.length : Int) > 0)) == false)) else (some false))) else (some false)) = some r := H
                      have A47 := Aside0.mk A470
                      clear A470
                      by_cases c48 : (((t281.length : Int) == 1) == false) = true
                      · rw [if_pos c48] at H
                        have c48b0 : (((t281.length : Int) == 1) == false) = true := c48
                        (try (have c48b1 : decide (((t281.length : Int) == 1) = false) = true := by simpa using c48))
                        (try (have c48b2 : (((t281.length : Int) == 1) == false) = true := by simpa using c48))
                        clear c48
                        replace H := Option.bind_eq_some_iff.mp H
                        obtain ⟨t284, A490, H⟩ := H
                        replace H : (if t284 = 0 then (some ((decide ((t270.length : Int) > 0)) == false)) else (some false)) = some r := H
                        have A49 := Aside0.mk A490
                        clear A490
                        by_cases c50 : t284 = 0
                        · rw [if_pos c50] at H
                          have c50b0 : (t284 == 0) = true := beq_iff_eq.mpr c50
                          have c50b1 : (t284 != 0) = false := bne_eq_false_iff_eq.mpr c50
                          clear c50
                          obtain rfl := Option.some.inj H
                          obtain ⟨Ao51, co51, eo51⟩ := Kd.R_slice HO_8.out
                          subst eo51
                          have hcz52_0 : wr.cell? ⟨gb261, 0, none⟩ = some (.int .i64 a0_0) := (blk_cell BK261.out 0).trans rfl
                          have hcz52_1 : wr.cell? ⟨gb261, 1, none⟩ = some (.slice A0_1 l0_1.length c0_1) := (blk_cell BK261.out 1).trans rfl
                          have hfz52_0 := blk_frozen BK261.out 0
                          have hfz52_1 := blk_frozen BK261.out 1
                          go_wp2_with (first | (go_at_call 15; (refine (graph_Tree.calls a0_0 _ _ l0_1 _ _ ([] : List Int) a1 t280 _ ?side1 ?side2 ?side3 ?side4 A45.out).mono ?_); (case side1 => repeat (first | exact (Kd.C_below HR0_1.out HB.out) | (with_reducible refine Kd.C_alloc ?_ _) | (with_reducible refine Kd.C_drewN ?_ _) | (with_reducible refine Kd.C_drew ?_))); (case side2 => exact HC0_1.out); (case side3 => exact Kd.C_nil _ _); (case side4 => exact Nat.le_refl _); rintro e w53 ⟨rfl, hb⟩; have n0_ := Aside0.mk (Kd.R_below (by (with_reducible repeat (first | apply Kd.R_alloc | apply Kd.R_drewN | apply Kd.R_drew)); exact HO_8.out) hb); have n1_ := Aside0.mk (Kd.R_below (by (with_reducible repeat (first | apply Kd.R_alloc | apply Kd.R_drewN | apply Kd.R_drew)); exact HO_9.out) hb); have n2_ := Aside0.mk (blk_below (g := gb261) (o := .cells #[.int .i64 a0_0, .slice A0_1 l0_1.length c0_1] 24 (0, 0)) (by (with_reducible repeat (first | refine blk_drewN ?_ _ | refine blk_drew ?_ | refine blk_alloc ?_ _)); exact BK261.out) hb); have n3_ := Aside0.mk (below_step (by repeat (first | (with_reducible first | exact HB.out | apply below_alloc | apply pw_below_drewN | apply below_drew1 | refine below_set ?_ GE261.out) | exact HB.out)) hb); clear HO_8; clear HO_9; clear BK261; clear HB; have HO_8 := n0_; have HO_9 := n1_; have BK261 := n2_; have HB := n3_; clear n0_ n1_ n2_ n3_; (try clear hb); (try clear hb2); (try clear hk); (try clear hi); have hcz54_0 : w53.cell? ⟨gb261, 0, none⟩ = some (.int .i64 a0_0) := (blk_cell BK261.out 0).trans rfl; have hcz54_1 : w53.cell? ⟨gb261, 1, none⟩ = some (.slice A0_1 l0_1.length c0_1) := (blk_cell BK261.out 1).trans rfl; have hfz54_0 := blk_frozen BK261.out 0; have hfz54_1 := blk_frozen BK261.out 1) | (go_at_call 13; (refine (graph_Nodes.calls a0_0 _ _ l0_1 _ _ ([] : List Int) a1 t281 _ ?side1 ?side2 ?side3 ?side4 A47.out).mono ?_); (case side1 => repeat (first | exact (Kd.C_below HR0_1.out HB.out) | (with_reducible refine Kd.C_alloc ?_ _) | (with_reducible refine Kd.C_drewN ?_ _) | (with_reducible refine Kd.C_drew ?_))); (case side2 => exact HC0_1.out); (case side3 => exact Kd.C_nil _ _); (case side4 => exact Nat.le_refl _); rintro e w55 ⟨v282, rfl, ho0, hb⟩; have n0_ := Aside0.mk (Kd.R_elder' (by (with_reducible repeat (first | apply Kd.R_alloc | apply Kd.R_drewN | apply Kd.R_drew)); exact HO_8.out) (Kd.R_base ho0) hb); have n1_ := Aside0.mk (Kd.R_elder' (by (with_reducible repeat (first | apply Kd.R_alloc | apply Kd.R_drewN | apply Kd.R_drew)); exact HO_9.out) (Kd.R_base ho0) hb); have n2_ := Aside0.mk (Kd.R_lower (Kd.R_new' (Kd.R_new' ho0 (Kd.R_lt (by (with_reducible repeat (first | apply Kd.R_alloc | apply Kd.R_drewN | apply Kd.R_drew)); exact HO_8.out))) (Kd.R_lt (by (with_reducible repeat (first | apply Kd.R_alloc | apply Kd.R_drewN | apply Kd.R_drew)); exact HO_9.out))) (below_size (by repeat (first | (with_reducible first | exact HB.out | apply below_alloc | apply pw_below_drewN | apply below_drew1 | refine below_set ?_ GE261.out) | exact HB.out)))); have n3_ := Aside0.mk (blk_below (g := gb261) (o := .cells #[.int .i64 a0_0, .slice A0_1 l0_1.length c0_1] 24 (0, 0)) (by (with_reducible repeat (first | refine blk_drewN ?_ _ | refine blk_drew ?_ | refine blk_alloc ?_ _)); exact BK261.out) hb); have n4_ := Aside0.mk (below_step (by repeat (first | (with_reducible first | exact HB.out | apply below_alloc | apply pw_below_drewN | apply below_drew1 | refine below_set ?_ GE261.out) | exact HB.out)) hb); clear HO_8; clear HO_9; clear BK261; clear HB; have HO_8 := n0_; have HO_9 := n1_; have HO283 := n2_; have BK261 := n3_; have HB := n4_; clear n0_ n1_ n2_ n3_ n4_; (try clear hb); (try clear hb2); (try clear hk); (try clear hi); (try clear ho0); obtain ⟨Ao56, co56, eo56⟩ := Kd.R_slice HO283.out; subst eo56; have hcz57_0 : w55.cell? ⟨gb261, 0, none⟩ = some (.int .i64 a0_0) := (blk_cell BK261.out 0).trans rfl; have hcz57_1 : w55.cell? ⟨gb261, 1, none⟩ = some (.slice A0_1 l0_1.length c0_1) := (blk_cell BK261.out 1).trans rfl; have hfz57_0 := blk_frozen BK261.out 0; have hfz57_1 := blk_frozen BK261.out 1) | (go_at_call 17; (refine (graph_Cost.calls k2 a0_0 _ _ l0_1 _ _ ([] : List Int) t284 _ ?side1 ?side2 ?side3 ?side4 A49.out).mono ?_); (case side1 => repeat (first | exact (Kd.C_below HR0_1.out HB.out) | (with_reducible refine Kd.C_alloc ?_ _) | (with_reducible refine Kd.C_drewN ?_ _) | (with_reducible refine Kd.C_drew ?_))); (case side2 => exact HC0_1.out); (case side3 => exact Kd.C_nil _ _); (case side4 => exact Nat.le_refl _); rintro e w58 ⟨rfl, hb⟩; have n0_ := Aside0.mk (Kd.R_below (by (with_reducible repeat (first | apply Kd.R_alloc | apply Kd.R_drewN | apply Kd.R_drew)); exact HO_8.out) hb); have n1_ := Aside0.mk (Kd.R_below (by (with_reducible repeat (first | apply Kd.R_alloc | apply Kd.R_drewN | apply Kd.R_drew)); exact HO_9.out) hb); have n2_ := Aside0.mk (Kd.R_below (by (with_reducible repeat (first | apply Kd.R_alloc | apply Kd.R_drewN | apply Kd.R_drew)); exact HO283.out) hb); have n3_ := Aside0.mk (blk_below (g := gb261) (o := .cells #[.int .i64 a0_0, .slice A0_1 l0_1.length c0_1] 24 (0, 0)) (by (with_reducible repeat (first | refine blk_drewN ?_ _ | refine blk_drew ?_ | refine blk_alloc ?_ _)); exact BK261.out) hb); have n4_ := Aside0.mk (below_step (by repeat (first | (with_reducible first | exact HB.out | apply below_alloc | apply pw_below_drewN | apply below_drew1 | refine below_set ?_ GE261.out) | exact HB.out)) hb); clear HO_8; clear HO_9; clear HO283; clear BK261; clear HB; have HO_8 := n0_; have HO_9 := n1_; have HO283 := n2_; have BK261 := n3_; have HB := n4_; clear n0_ n1_ n2_ n3_ n4_; (try clear hb); (try clear hb2); (try clear hk); (try clear hi); obtain ⟨Ao59, co59, eo59⟩ := Kd.R_slice HO_9.out; subst eo59))
                          go_ret
                          exact ⟨by first | rfl | (simp [errW_none, errW_some] <;> rfl) | (simp [*, errW_none, errW_some] <;> rfl), by repeat (first | (with_reducible first | exact HB.out | apply below_alloc | apply pw_below_drewN | apply below_drew1 | refine below_set ?_ GE261.out) | exact HB.out)⟩
                        · rw [if_neg c50] at H
                          have c50b0 : (t284 == 0) = false := beq_eq_false_iff_ne.mpr c50
                          have c50b1 : (t284 != 0) = true := bne_iff_ne.mpr c50
                          exact absurd ((Option.some.inj H).trans hTrue.out) (by simp)
                      · rw [if_neg c48] at H
                        have c48b0 : (((t281.length : Int) == 1) == false) = false := by simpa using c48
                        (try (have c48b1 : decide (((t281.length : Int) == 1) = false) = false := by simpa using c48))
                        (try (have c48b2 : (((t281.length : Int) == 1) == false) = false := by simpa using c48))
                        (try (have c48b3 : ¬ (((t281.length : Int) == 1) = false) := by simpa using c48))
                        clear c48
                        exact absurd ((Option.some.inj H).trans hTrue.out) (by simp)
                    · rw [if_neg c46] at H
                      have c46b0 : (t280 == false) = false := by simpa using c46
                      (try (have c46b1 : decide (t280 = false) = false := by simpa using c46))
                      (try (have c46b2 : (t280 == false) = false := by simpa using c46))
                      (try (have c46b3 : ¬ (t280 = false) := by simpa using c46))
                      clear c46
                      exact absurd ((Option.some.inj H).trans hTrue.out) (by simp)
                  · replace c44 := Bool.eq_false_iff.mpr c44
                    subst c44
                    have H1 : (some false) = some r := by rw [if_neg (show ¬ (false = true) by decide)] at H; exact H
                    clear H
                    have H := H1
                    clear H1
                    exact absurd ((Option.some.inj H).trans hTrue.out) (by simp)
  · replace c5 := Bool.eq_false_iff.mpr c5
    subst c5
    have H1 : (some t262) = some r := by rw [if_neg (show ¬ (false = true) by decide)] at H; exact H
    clear H
    have H := H1
    clear H1
    obtain rfl := Option.some.inj H
    go_enter Try.func6, Try.ntmps6
    go_wp2_with (first | ((with_reducible refine gate_dst (N := 2) rfl ?_); (try (refine gate_guard (by rfl) ?_; dsimp only)); refine box_event ?hg (N := 2) ?hd (cs := #[.int .i64 a0_0, .slice A0_1 l0_1.length c0_1]) (t := 24) ?hr ?_; (case hd => rfl); (case hg => rfl); (case hr => first | (go_simp; done) | (go_simp; rfl)); intro gb261 hg w60 hbox hb; have n0_ := Aside0.mk (below_step (by repeat (first | (with_reducible first | exact HB.out | apply below_alloc | apply pw_below_drewN | apply below_drew1) | exact HB.out)) hb); have n1_ := Aside0.mk (hbox); have n2_ := Aside0.mk ((by rw [hg]; exact (below_size (by repeat (first | (with_reducible first | exact HB.out | apply below_alloc | apply pw_below_drewN | apply below_drew1) | exact HB.out))) : w.heap.size ≤ gb261)); have n3_ := Aside0.mk ((by rw [hg]; exact (below_size (by repeat (first | (with_reducible first | exact HB.out | apply below_alloc | apply pw_below_drewN | apply below_drew1) | exact HB.out))) : w.heap.size ≤ gb261)); clear HB; have HB := n0_; have BK261 := n1_; have GW261 := n2_; have GE261 := n3_; clear n0_ n1_ n2_ n3_; clear hb hbox hg) | ((with_reducible refine gate_callee (f := 9) rfl ?_); refine goesL_ (some 12) rfl rfl Try.func9 (by kernel_rfl) rfl #[] rfl (by (try simp only [List.map_toArray, List.map_cons, List.map_nil]); first | done | rfl | (simp only [List.length_drop, List.length_take]; rfl)) ?_; (with_reducible refine (stolonlaw11_shown.calls k  t262 _ A3.out).mono ?_); rintro e w61 ⟨rfl, hb⟩; refine ⟨_, rfl, ?_⟩; have n0_ := Aside0.mk (blk_below (g := gb261) (o := .cells #[.int .i64 a0_0, .slice A0_1 l0_1.length c0_1] 24 (0, 0)) (by (with_reducible repeat (first | refine blk_drewN ?_ _ | refine blk_drew ?_ | refine blk_alloc ?_ _)); exact BK261.out) hb); have n1_ := Aside0.mk (below_step (by repeat (first | (with_reducible first | exact HB.out | apply below_alloc | apply pw_below_drewN | apply below_drew1 | refine below_set ?_ GE261.out) | exact HB.out)) hb); clear BK261; clear HB; have BK261 := n0_; have HB := n1_; clear n0_ n1_; (try clear hb); (try clear hb2); (try clear hk); (try clear hi); have hcz62_0 : w61.cell? ⟨gb261, 0, none⟩ = some (.int .i64 a0_0) := (blk_cell BK261.out 0).trans rfl; have hcz62_1 : w61.cell? ⟨gb261, 1, none⟩ = some (.slice A0_1 l0_1.length c0_1) := (blk_cell BK261.out 1).trans rfl; have hfz62_0 := blk_frozen BK261.out 0; have hfz62_1 := blk_frozen BK261.out 1) | ((with_reducible refine gate_callee (f := 10) rfl ?_); refine goesL_ (some 14) rfl rfl Try.func10 (by kernel_rfl) rfl #[.agg #[.int .i64 a0_0, .slice A0_1 l0_1.length c0_1]] rfl (by (try simp only [List.map_toArray, List.map_cons, List.map_nil]); first | done | rfl | (simp only [List.length_drop, List.length_take]; rfl)) ?_; (with_reducible refine (stolonref11_Right.calls k a0_0 _ _ l0_1 false _ ?side1 ?side2 A4.out).mono ?_); (case side1 => repeat (first | exact (Kd.C_below HR0_1.out HB.out) | (with_reducible refine Kd.C_alloc ?_ _) | (with_reducible refine Kd.C_drewN ?_ _) | (with_reducible refine Kd.C_drew ?_))); (case side2 => exact HC0_1.out); rintro e w63 ⟨rfl, hb⟩; refine ⟨_, rfl, ?_⟩; have n0_ := Aside0.mk (blk_below (g := gb261) (o := .cells #[.int .i64 a0_0, .slice A0_1 l0_1.length c0_1] 24 (0, 0)) (by (with_reducible repeat (first | refine blk_drewN ?_ _ | refine blk_drew ?_ | refine blk_alloc ?_ _)); exact BK261.out) hb); have n1_ := Aside0.mk (below_step (by repeat (first | (with_reducible first | exact HB.out | apply below_alloc | apply pw_below_drewN | apply below_drew1 | refine below_set ?_ GE261.out) | exact HB.out)) hb); clear BK261; clear HB; have BK261 := n0_; have HB := n1_; clear n0_ n1_; (try clear hb); (try clear hb2); (try clear hk); (try clear hi)))
    go_ret
    exact ⟨by first | rfl | (simp [errW_none, errW_some] <;> rfl) | (simp [*, errW_none, errW_some] <;> rfl), by repeat (first | (with_reducible first | exact HB.out | apply below_alloc | apply pw_below_drewN | apply below_drew1 | refine below_set ?_ GE261.out) | exact HB.out)⟩

end Go.Proofs.Yticjabdkjjbegaa.P

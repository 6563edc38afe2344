/- For each Go function a Lean function, and the proof that a call comes to what it tells: made by program out of the translation (the kit's print, with texts by hand put in). No condition. -/
import Derived.Test.YticjabdkjjbegaaPx0
namespace Go.Proofs.Yticjabdkjjbegaa.P
open Go.RowKit Go.Proofs.Yticjabdkjjbegaa.HRows Go.Proofs.YticjabdkjjbegaaW.PrintWords Go.Proofs.YticjabdkjjbegaaW.PrintLast Go.Proofs.YticjabdkjjbegaaW.PrintMore
attribute [local go_sem] max2_int min2_int max_two min_two max_three min_three max_four min_four   -- for this text's walks alone
set_option linter.unusedVariables false
set_option linter.unusedSimpArgs false

/-! ### stolonref11_closed: function 29 -/
mutual
def stolonref11_closed.l0 : Nat → Int → List Bool → List Bool → Int → Int → List (S41) → Option (List Int)
  | 0, _, _, _, _, _, _ => none
  | k + 1, x1, x2, x7, x8, x161000, x161001 => if x8 < x161000 then (if x7.length < 140737488355328 then (stolonref11_closed.l0 k x1 x2 (x7 ++ [(x8 == x1)]) (wrap64 (x8 + 1)) x161000 x161001) else (none)) else (stolonref11_closed.l1 k x2 x7 0 x161000 x161001)
def stolonref11_closed.l1 : Nat → List Bool → List Bool → Int → Int → List (S41) → Option (List Int)
  | 0, _, _, _, _, _ => none
  | k + 1, x2, x7, x9, x161000, x161001 => if x9 < x161000 then (stolonref11_closed.l2 k x2 x7 x9 0 x161000 x161001) else (stolonref11_closed.l3 k x7 ([] : List Int) 0 x161000 x161001)
def stolonref11_closed.l2 : Nat → List Bool → List Bool → Int → Int → Int → List (S41) → Option (List Int)
  | 0, _, _, _, _, _, _ => none
  | k + 1, x2, x7, x9, x10, x161000, x161001 => if x10 < (x161001.length : Int) then (if 0 ≤ x10 then (if x10 < (x2.length : Int) then (if rdOf false x2 x10 = true then (if 0 ≤ ((rd_T41 x161001 x10).f0) then (if ((rd_T41 x161001 x10).f0) < (x7.length : Int) then (if rdOf false x7 ((rd_T41 x161001 x10).f0) = true then (if 0 ≤ ((rd_T41 x161001 x10).f1) then (if ((rd_T41 x161001 x10).f1) < (x7.length : Int) then (stolonref11_closed.l2 k x2 ((x7.set (((rd_T41 x161001 x10).f0) : Int).toNat true).set (((rd_T41 x161001 x10).f1) : Int).toNat true) x9 (wrap64 (x10 + 1)) x161000 x161001) else (none)) else (none)) else (if 0 ≤ ((rd_T41 x161001 x10).f1) then (if ((rd_T41 x161001 x10).f1) < (x7.length : Int) then (if rdOf false x7 ((rd_T41 x161001 x10).f1) = true then (stolonref11_closed.l2 k x2 ((x7.set (((rd_T41 x161001 x10).f0) : Int).toNat true).set (((rd_T41 x161001 x10).f1) : Int).toNat true) x9 (wrap64 (x10 + 1)) x161000 x161001) else (stolonref11_closed.l2 k x2 x7 x9 (wrap64 (x10 + 1)) x161000 x161001)) else (none)) else (none))) else (none)) else (none)) else (stolonref11_closed.l2 k x2 x7 x9 (wrap64 (x10 + 1)) x161000 x161001)) else (none)) else (none)) else (stolonref11_closed.l1 k x2 x7 (wrap64 (x9 + 1)) x161000 x161001)
def stolonref11_closed.l3 : Nat → List Bool → List Int → Int → Int → List (S41) → Option (List Int)
  | 0, _, _, _, _, _ => none
  | k + 1, x7, x12, x13, x161000, x161001 => if x13 < x161000 then (if 0 ≤ x13 then (if x13 < (x7.length : Int) then (if rdOf false x7 x13 = true then (if x12.length < 17592186044416 then (stolonref11_closed.l3 k x7 (x12 ++ [x13]) (wrap64 (x13 + 1)) x161000 x161001) else (none)) else (stolonref11_closed.l3 k x7 x12 (wrap64 (x13 + 1)) x161000 x161001)) else (none)) else (none)) else (some x12)
end
def stolonref11_closed.f (k : Nat) (a0_0 : Int) (l0_1 : List (S41)) (a1 : Int) (l2 : List Bool) : Option (List Int) := stolonref11_closed.l0 k a1 l2 ([] : List Bool) 0 a0_0 l0_1
theorem stolonref11_closed.mono_l : ∀ k, (∀ y0 y1 y2 y3 y4 y5, LeO (stolonref11_closed.l0 k y0 y1 y2 y3 y4 y5) (stolonref11_closed.l0 (k + 1) y0 y1 y2 y3 y4 y5)) ∧ (∀ y0 y1 y2 y3 y4, LeO (stolonref11_closed.l1 k y0 y1 y2 y3 y4) (stolonref11_closed.l1 (k + 1) y0 y1 y2 y3 y4)) ∧ (∀ y0 y1 y2 y3 y4 y5, LeO (stolonref11_closed.l2 k y0 y1 y2 y3 y4 y5) (stolonref11_closed.l2 (k + 1) y0 y1 y2 y3 y4 y5)) ∧ (∀ y0 y1 y2 y3 y4, LeO (stolonref11_closed.l3 k y0 y1 y2 y3 y4) (stolonref11_closed.l3 (k + 1) y0 y1 y2 y3 y4))
  | 0 => ⟨fun _ _ _ _ _ _ r h => by simp [stolonref11_closed.l0] at h, fun _ _ _ _ _ r h => by simp [stolonref11_closed.l1] at h, fun _ _ _ _ _ _ r h => by simp [stolonref11_closed.l2] at h, fun _ _ _ _ _ r h => by simp [stolonref11_closed.l3] at h⟩
  | k + 1 => by
    obtain ⟨ih0, ih1, ih2, ih3⟩ := stolonref11_closed.mono_l k
    refine ⟨?_, ?_, ?_, ?_⟩
    · intro y0 y1 y2 y3 y4 y5
      unfold stolonref11_closed.l0
      repeat' first
      | (with_reducible exact ih0 _ _ _ _ _ _)
      | (with_reducible exact ih1 _ _ _ _ _)
      | (with_reducible exact ih2 _ _ _ _ _ _)
      | (with_reducible exact ih3 _ _ _ _ _)
      | (with_reducible exact LeO.refl _)
      | (with_reducible exact LeO.none _)
      | (with_reducible refine LeO.ite ?_ ?_)
      | (with_reducible refine LeO.bind ?_ (fun _ => ?_))
      | exact ih0 _ _ _ _ _ _
      | exact ih1 _ _ _ _ _
      | exact ih2 _ _ _ _ _ _
      | exact ih3 _ _ _ _ _
      | exact LeO.none _
      | refine LeO.ite ?_ ?_
      | refine LeO.bind ?_ (fun _ => ?_)
    · intro y0 y1 y2 y3 y4
      unfold stolonref11_closed.l1
      repeat' first
      | (with_reducible exact ih0 _ _ _ _ _ _)
      | (with_reducible exact ih1 _ _ _ _ _)
      | (with_reducible exact ih2 _ _ _ _ _ _)
      | (with_reducible exact ih3 _ _ _ _ _)
      | (with_reducible exact LeO.refl _)
      | (with_reducible exact LeO.none _)
      | (with_reducible refine LeO.ite ?_ ?_)
      | (with_reducible refine LeO.bind ?_ (fun _ => ?_))
      | exact ih0 _ _ _ _ _ _
      | exact ih1 _ _ _ _ _
      | exact ih2 _ _ _ _ _ _
      | exact ih3 _ _ _ _ _
      | exact LeO.none _
      | refine LeO.ite ?_ ?_
      | refine LeO.bind ?_ (fun _ => ?_)
    · intro y0 y1 y2 y3 y4 y5
      unfold stolonref11_closed.l2
      repeat' first
      | (with_reducible exact ih0 _ _ _ _ _ _)
      | (with_reducible exact ih1 _ _ _ _ _)
      | (with_reducible exact ih2 _ _ _ _ _ _)
      | (with_reducible exact ih3 _ _ _ _ _)
      | (with_reducible exact LeO.refl _)
      | (with_reducible exact LeO.none _)
      | (with_reducible refine LeO.ite ?_ ?_)
      | (with_reducible refine LeO.bind ?_ (fun _ => ?_))
      | exact ih0 _ _ _ _ _ _
      | exact ih1 _ _ _ _ _
      | exact ih2 _ _ _ _ _ _
      | exact ih3 _ _ _ _ _
      | exact LeO.none _
      | refine LeO.ite ?_ ?_
      | refine LeO.bind ?_ (fun _ => ?_)
    · intro y0 y1 y2 y3 y4
      unfold stolonref11_closed.l3
      repeat' first
      | (with_reducible exact ih0 _ _ _ _ _ _)
      | (with_reducible exact ih1 _ _ _ _ _)
      | (with_reducible exact ih2 _ _ _ _ _ _)
      | (with_reducible exact ih3 _ _ _ _ _)
      | (with_reducible exact LeO.refl _)
      | (with_reducible exact LeO.none _)
      | (with_reducible refine LeO.ite ?_ ?_)
      | (with_reducible refine LeO.bind ?_ (fun _ => ?_))
      | exact ih0 _ _ _ _ _ _
      | exact ih1 _ _ _ _ _
      | exact ih2 _ _ _ _ _ _
      | exact ih3 _ _ _ _ _
      | exact LeO.none _
      | refine LeO.ite ?_ ?_
      | refine LeO.bind ?_ (fun _ => ?_)
theorem stolonref11_closed.mono : ∀ a0 a1 a2 a3 k, LeO (stolonref11_closed.f k a0 a1 a2 a3) (stolonref11_closed.f (k + 1) a0 a1 a2 a3) := by
  intro a0 a1 a2 a3 k
  obtain ⟨ih0, ih1, ih2, ih3⟩ := stolonref11_closed.mono_l k
  unfold stolonref11_closed.f
  repeat' first
      | (with_reducible exact ih0 _ _ _ _ _ _)
      | (with_reducible exact ih1 _ _ _ _ _)
      | (with_reducible exact ih2 _ _ _ _ _ _)
      | (with_reducible exact ih3 _ _ _ _ _)
      | (with_reducible exact LeO.refl _)
      | (with_reducible exact LeO.none _)
      | (with_reducible refine LeO.ite ?_ ?_)
      | (with_reducible refine LeO.bind ?_ (fun _ => ?_))
      | exact ih0 _ _ _ _ _ _
      | exact ih1 _ _ _ _ _
      | exact ih2 _ _ _ _ _ _
      | exact ih3 _ _ _ _ _
      | exact LeO.none _
      | refine LeO.ite ?_ ?_
      | refine LeO.bind ?_ (fun _ => ?_)
set_option maxHeartbeats 8000000 in
set_option maxRecDepth 100000 in
theorem stolonref11_closed.calls (k : Nat) (a0_0 : Int) (A0_1 : Option Addr) (c0_1 : Nat) (l0_1 : List (S41)) (a1 : Int) (A2 : Option Addr) (c2 : Nat) (l2 : List Bool) (r : List Int) (w : World) (hr0_1 : Kd.C k41 w A0_1 l0_1.length l0_1) (hc0_1 : l0_1.length ≤ c0_1) (hr2 : Kd.C Kd.bool w A2 l2.length l2) (hc2 : l2.length ≤ c2) (h : stolonref11_closed.f k a0_0 l0_1 a1 l2 = some r) :
    Calls Try.prog 29 #[.agg #[.int .i64 a0_0, .slice A0_1 l0_1.length c0_1], .int .i64 a1, .slice A2 l2.length c2] w fun e w' => ∃ v0_ : Value, e = .returned (v0_) ∧ Kd.R (Kd.int .i64) 3 w' w.heap.size (fun _ => True) v0_ r ∧ Below w.heap.size w w' := by
  have hu24 := Try.underlying24
  have hu41 := Try.underlying41
  have HR0_1 := Aside0.mk hr0_1
  have HC0_1 := Aside0.mk hc0_1
  clear hr0_1 hc0_1
  have HR2 := Aside0.mk hr2
  have HC2 := Aside0.mk hc2
  clear hr2 hc2
  have HB := Aside0.mk (Below.refl w.heap.size w)
  have H : (stolonref11_closed.l0 k a1 l2 ([] : List Bool) 0 a0_0 l0_1) = some r := h
  clear h
  have H' := Aside0.mk H
  clear H
  go_enter Try.func29, Try.ntmps29
  go_wp2_with (first | ((with_reducible refine gate_dst (N := 3) rfl ?_); refine box_event ?hg (N := 3) ?hd (cs := #[.int .i64 a0_0, .slice A0_1 l0_1.length c0_1]) (t := 24) ?hr ?_; (case hd => rfl); (case hg => rfl); (case hr => first | (go_simp; done) | (go_simp; rfl)); intro gb160 hg w4 hbox hb; have n0_ := Aside0.mk (below_step (by repeat (first | (with_reducible first | exact HB.out | apply below_alloc | apply pw_below_drewN | apply below_drew1) | exact HB.out)) hb); have n1_ := Aside0.mk (hbox); have n2_ := Aside0.mk ((by rw [hg]; exact (below_size (by repeat (first | (with_reducible first | exact HB.out | apply below_alloc | apply pw_below_drewN | apply below_drew1) | exact HB.out))) : w.heap.size ≤ gb160)); have n3_ := Aside0.mk ((by rw [hg]; exact (below_size (by repeat (first | (with_reducible first | exact HB.out | apply below_alloc | apply pw_below_drewN | apply below_drew1) | exact HB.out))) : w.heap.size ≤ gb160)); clear HB; have HB := n0_; have BK160 := n1_; have GW160 := n2_; have GE160 := n3_; clear n0_ n1_ n2_ n3_; clear hb hbox hg))
  go_loopg [7, 8] k (fun kq v7 v8 w' => ∃ (x7_1 : List Bool) (x8_1 : Int), v8 = .int .i64 x8_1 ∧ Aside0 (stolonref11_closed.l0 kq a1 l2 x7_1 x8_1 a0_0 l0_1 = some r) ∧ Aside0 (kq ≤ k) ∧ Aside0 (Kd.R Kd.bool 4 w' w.heap.size (fun _ => True) v7 x7_1) ∧ Aside0 (w'.heap[gb160]? = some (.cells #[.int .i64 a0_0, (.slice A0_1 l0_1.length c0_1)] 24 (0, 0))) ∧ Aside0 (Below w.heap.size w w'))
  case atStart => exact ⟨(([] : List Bool)), (0), (by first | rfl | (simp; done) | (simp [*]; done)), H', ⟨Nat.le_refl _⟩, ⟨by first | exact Kd.R_nil _ _ _ _ _ | exact Kd.N_nil _ _ _ _ _ | exact Kd.V_nil _ _ _ _ _ | exact Kd.Q_nil _ _ _ _ _ | exact Kd.S_nil _ _ _ _ _⟩, ⟨by (with_reducible repeat (first | refine blk_drewN ?_ _ | refine blk_drew ?_ | refine blk_alloc ?_ _)); exact BK160.out⟩, ⟨by repeat (first | (with_reducible first | exact HB.out | apply below_alloc | apply pw_below_drewN | apply below_drew1 | refine below_set ?_ GE160.out) | exact HB.out)⟩⟩
  case round =>
    clear H'
    try clear c2
    try clear p2
    obtain ⟨x7_1, x8_1, rfl, HA, HK1, HO_7, BK160, HB⟩ := hrel
    cases gk with
    | zero => exact absurd HA.out (by simp [stolonref11_closed.l0])
    | succ k1 =>
      have H := HA.out
      clear HA
      simp only [stolonref11_closed.l0] at H
      by_cases c5 : x8_1 < a0_0
      · rw [if_pos c5] at H
        have c5b0 : decide (x8_1 < a0_0) = true := decide_eq_true c5
        clear c5
        by_cases c6 : x7_1.length < 140737488355328
        · rw [if_pos c6] at H
          have LMc6 := Aside0.mk c6
          clear c6
          obtain ⟨y161, hy161⟩ : ∃ y_ : List Bool, y_ = (x7_1 ++ [(x8_1 == a1)]) := ⟨_, rfl⟩
          replace H : (stolonref11_closed.l0 k1 a1 l2 y161 (wrap64 (x8_1 + 1)) a0_0 l0_1) = some r := by first | (rw [hy161]; with_reducible exact H) | (have H2_ := (Option.bind_some _ _).symm.trans H; rw [hy161]; with_reducible exact H2_) | (have H2_ := (Option.bind_some _ _).symm.trans H; with_reducible exact H2_) | with_reducible exact H | (rw [hy161]; exact H) | exact H
          have Ny161 := Aside0.mk hy161
          clear hy161
          have H' := Aside0.mk H
          clear H
          have hcz7_0 : wr.cell? ⟨gb160, 0, none⟩ = some (.int .i64 a0_0) := (blk_cell BK160.out 0).trans rfl
          have hcz7_1 : wr.cell? ⟨gb160, 1, none⟩ = some (.slice A0_1 l0_1.length c0_1) := (blk_cell BK160.out 1).trans rfl
          have hfz7_0 := blk_frozen BK160.out 0
          have hfz7_1 := blk_frozen BK160.out 1
          go_wp2_with (first | ((with_reducible refine gate_builtin (b := .append) (xs := #[.tmp 20, .tmp 24]) rfl ?_); at_builtin; refine Kd.R_append Kd.bool (w0 := w) w.heap.size rfl (.tmp 20) (.tmp 24) 58 4 (.bool false) 1 rfl Try.underlying58 info4 rfl (by decide) (by omega) u7 x7_1 (x8_1 == a1) [.bool (x8_1 == a1)] (fun _ => True) (fun _ => False) rfl rfl ?aP (fun _ hk => hk.elim) ?aF ?aO ?aB ?aS ?aL ?_; (case aP => exact rfl); (case aB => exact (by repeat (first | (with_reducible first | exact HB.out | apply below_alloc | apply pw_below_drewN | apply below_drew1 | refine below_set ?_ GE160.out) | exact HB.out))); (case aF => exact (fun _ _ => trivial)); (case aO => exact (by (with_reducible repeat (first | apply Kd.R_alloc | apply Kd.R_drewN | apply Kd.R_drew)); exact HO_7.out)); (case aS => exact (below_size (by repeat (first | (with_reducible first | exact HB.out | apply below_alloc | apply pw_below_drewN | apply below_drew1 | refine below_set ?_ GE160.out) | exact HB.out)))); (case aL => have := LMc6.out; omega); intro v162 w8 ho hb hg hat; rw [← Ny161.out] at ho; have n0_ := Aside0.mk (blk_grown (g := gb160) (o := .cells #[.int .i64 a0_0, .slice A0_1 l0_1.length c0_1] 24 (0, 0)) (by (with_reducible repeat (first | refine blk_drewN ?_ _ | refine blk_drew ?_ | refine blk_alloc ?_ _)); exact BK160.out) hg (Kd.R_ne HO_7.out BK160.out (by decide))); have n1_ := Aside0.mk (hb); have n2_ := Aside0.mk (ho); clear BK160; clear HB; clear HO_7; have BK160 := n0_; have HB := n1_; have HO163 := n2_; clear n0_ n1_ n2_; clear ho hb hg hat))
          go_roundg k1
          case measure => have := HK1.out; omega
          case rel => exact ⟨(y161), (wrap64 (x8_1 + 1)), (by first | rfl | (simp; done) | (simp [*]; done)), H', ⟨by have := HK1.out; omega⟩, ⟨by (with_reducible repeat (first | apply Kd.R_alloc | apply Kd.R_drewN | apply Kd.R_drew)); exact HO163.out⟩, ⟨by (with_reducible repeat (first | refine blk_drewN ?_ _ | refine blk_drew ?_ | refine blk_alloc ?_ _)); exact BK160.out⟩, ⟨by repeat (first | (with_reducible first | exact HB.out | apply below_alloc | apply pw_below_drewN | apply below_drew1 | refine below_set ?_ GE160.out) | exact HB.out)⟩⟩
        · rw [if_neg c6] at H
          exact absurd H (by simp)
      · rw [if_neg c5] at H
        have c5b0 : decide (x8_1 < a0_0) = false := decide_eq_false c5
        clear c5
        have H' := Aside0.mk H
        clear H
        have hcz9_0 : wr.cell? ⟨gb160, 0, none⟩ = some (.int .i64 a0_0) := (blk_cell BK160.out 0).trans rfl
        have hcz9_1 : wr.cell? ⟨gb160, 1, none⟩ = some (.slice A0_1 l0_1.length c0_1) := (blk_cell BK160.out 1).trans rfl
        have hfz9_0 := blk_frozen BK160.out 0
        have hfz9_1 := blk_frozen BK160.out 1
        go_wp2
        go_loopg [9] k1 (fun kq v9 w' => ∃ (x7_2 : List Bool) (x9_2 : Int), v9 = .int .i64 x9_2 ∧ Aside0 (stolonref11_closed.l1 kq l2 x7_2 x9_2 a0_0 l0_1 = some r) ∧ Aside0 (kq ≤ k1) ∧ Aside0 (Kd.R Kd.bool 4 w' w.heap.size (fun _ => True) u7 x7_2) ∧ Aside0 (w'.heap[gb160]? = some (.cells #[.int .i64 a0_0, (.slice A0_1 l0_1.length c0_1)] 24 (0, 0))) ∧ Aside0 (Below w.heap.size w w'))
        case atStart => exact ⟨(x7_1), (0), (by first | rfl | (simp; done) | (simp [*]; done)), H', ⟨Nat.le_refl _⟩, ⟨by (with_reducible repeat (first | apply Kd.R_alloc | apply Kd.R_drewN | apply Kd.R_drew)); exact HO_7.out⟩, ⟨by (with_reducible repeat (first | refine blk_drewN ?_ _ | refine blk_drew ?_ | refine blk_alloc ?_ _)); exact BK160.out⟩, ⟨by repeat (first | (with_reducible first | exact HB.out | apply below_alloc | apply pw_below_drewN | apply below_drew1 | refine below_set ?_ GE160.out) | exact HB.out)⟩⟩
        case round =>
          clear H'
          try clear c2
          try clear p2
          try clear c5
          try clear c5b0
          try clear c6
          try clear p6
          try clear hcz7_0
          try clear hcz7_1
          try clear hcz9_0
          try clear hcz9_1
          try clear hfz7_0
          try clear hfz7_1
          try clear hfz9_0
          try clear hfz9_1
          try clear p2
          obtain ⟨x7_2, x9_2, rfl, HA, HK2, HO_7, BK160, HB⟩ := hrel
          cases gk with
          | zero => exact absurd HA.out (by simp [stolonref11_closed.l1])
          | succ k2 =>
            have H := HA.out
            clear HA
            simp only [stolonref11_closed.l1] at H
            by_cases c10 : x9_2 < a0_0
            · rw [if_pos c10] at H
              have c10b0 : decide (x9_2 < a0_0) = true := decide_eq_true c10
              clear c10
              have H' := Aside0.mk H
              clear H
              have hcz11_0 : wr.cell? ⟨gb160, 0, none⟩ = some (.int .i64 a0_0) := (blk_cell BK160.out 0).trans rfl
              have hcz11_1 : wr.cell? ⟨gb160, 1, none⟩ = some (.slice A0_1 l0_1.length c0_1) := (blk_cell BK160.out 1).trans rfl
              have hfz11_0 := blk_frozen BK160.out 0
              have hfz11_1 := blk_frozen BK160.out 1
              go_wp2
              go_loopg [10] k2 (fun kq v10 w' => ∃ (x7_3 : List Bool) (x10_3 : Int), v10 = .int .i64 x10_3 ∧ Aside0 (stolonref11_closed.l2 kq l2 x7_3 x9_2 x10_3 a0_0 l0_1 = some r) ∧ Aside0 (kq ≤ k2) ∧ Aside0 (Kd.R Kd.bool 4 w' w.heap.size (fun _ => True) u7 x7_3) ∧ Aside0 (w'.heap[gb160]? = some (.cells #[.int .i64 a0_0, (.slice A0_1 l0_1.length c0_1)] 24 (0, 0))) ∧ Aside0 (Below w.heap.size w w'))
              case atStart => exact ⟨(x7_2), (0), (by first | rfl | (simp; done) | (simp [*]; done)), H', ⟨Nat.le_refl _⟩, ⟨by (with_reducible repeat (first | apply Kd.R_alloc | apply Kd.R_drewN | apply Kd.R_drew)); exact HO_7.out⟩, ⟨by (with_reducible repeat (first | refine blk_drewN ?_ _ | refine blk_drew ?_ | refine blk_alloc ?_ _)); exact BK160.out⟩, ⟨by repeat (first | (with_reducible first | exact HB.out | apply below_alloc | apply pw_below_drewN | apply below_drew1 | refine below_set ?_ GE160.out) | exact HB.out)⟩⟩
              case round =>
                clear H'
                try clear c1
                try clear c2
                try clear p2
                try clear c5
                try clear c5b0
                try clear c6
                try clear p6
                try clear c10
                try clear c10b0
                try clear hcz11_0
                try clear hcz11_1
                try clear hcz7_0
                try clear hcz7_1
                try clear hcz9_0
                try clear hcz9_1
                try clear hfz11_0
                try clear hfz11_1
                try clear hfz7_0
                try clear hfz7_1
                try clear hfz9_0
                try clear hfz9_1
                try clear p2
                try clear p6
                obtain ⟨x7_3, x10_3, rfl, HA, HK3, HO_7, BK160, HB⟩ := hrel
                cases gk with
                | zero => exact absurd HA.out (by simp [stolonref11_closed.l2])
                | succ k3 =>
                  have H := HA.out
                  clear HA
                  simp only [stolonref11_closed.l2] at H
                  by_cases c12 : x10_3 < (l0_1.length : Int)
                  · rw [if_pos c12] at H
                    have c12b0 : decide (x10_3 < (l0_1.length : Int)) = true := decide_eq_true c12
                    clear c12
                    by_cases c13 : 0 ≤ x10_3
                    · rw [if_pos c13] at H
                      have c13b0 : decide (0 ≤ x10_3) = true := decide_eq_true c13
                      clear c13
                      by_cases c14 : x10_3 < (l2.length : Int)
                      · rw [if_pos c14] at H
                        have c14b0 : decide (x10_3 < (l2.length : Int)) = true := decide_eq_true c14
                        clear c14
                        obtain ⟨bq15, hbq15⟩ : ∃ b_ : Bool, b_ = (rdOf false l2 x10_3) := ⟨_, rfl⟩
                        replace H : (if bq15 = true then (if 0 ≤ ((rd_T41 l0_1 x10_3).f0) then (if ((rd_T41 l0_1 x10_3).f0) < (x7_3.length : Int) then (if rdOf false x7_3 ((rd_T41 l0_1 x10_3).f0) = true then (if 0 ≤ ((rd_T41 l0_1 x10_3).f1) then (if ((rd_T41 l0_1 x10_3).f1) < (x7_3.length : Int) then (stolonref11_closed.l2 k3 l2 ((x7_3.set (((rd_T41 l0_1 x10_3).f0) : Int).toNat true).set (((rd_T41 l0_1 x10_3).f1) : Int).toNat true) x9_2 (wrap64 (x10_3 + 1)) a0_0 l0_1) else (none)) else (none)) else (if 0 ≤ ((rd_T41 l0_1 x10_3).f1) then (if ((rd_T41 l0_1 x10_3).f1) < (x7_3.length : Int) then (if rdOf false x7_3 ((rd_T41 l0_1 x10_3).f1) = true then (stolonref11_closed.l2 k3 l2 ((x7_3.set (((rd_T41 l0_1 x10_3).f0) : Int).toNat true).set (((rd_T41 l0_1 x10_3).f1) : Int).toNat true) x9_2 (wrap64 (x10_3 + 1)) a0_0 l0_1) else (stolonref11_closed.l2 k3 l2 x7_3 x9_2 (wrap64 (x10_3 + 1)) a0_0 l0_1)) else (none)) else (none))) else (none)) else (none)) else (stolonref11_closed.l2 k3 l2 x7_3 x9_2 (wrap64 (x10_3 + 1)) a0_0 l0_1)) = some r := by rw [← hbq15] at H; exact H
                        have Nbq15 := Aside0.mk hbq15
                        clear hbq15
                        by_cases c16 : bq15 = true
                        · subst c16
                          have H1 : (if 0 ≤ ((rd_T41 l0_1 x10_3).f0) then (if ((rd_T41 l0_1 x10_3).f0) < (x7_3.length : Int) then (if rdOf false x7_3 ((rd_T41 l0_1 x10_3).f0) = true then (if 0 ≤ ((rd_T41 l0_1 x10_3).f1) then (if ((rd_T41 l0_1 x10_3).f1) < (x7_3.length : Int) then (stolonref11_closed.l2 k3 l2 ((x7_3.set (((rd_T41 l0_1 x10_3).f0) : Int).toNat true).set (((rd_T41 l0_1 x10_3).f1) : Int).toNat true) x9_2 (wrap64 (x10_3 + 1)) a0_0 l0_1) else (none)) else (none)) else (if 0 ≤ ((rd_T41 l0_1 x10_3).f1) then (if ((rd_T41 l0_1 x10_3).f1) < (x7_3.length : Int) then (if rdOf false x7_3 ((rd_T41 l0_1 x10_3).f1) = true then (stolonref11_closed.l2 k3 l2 ((x7_3.set (((rd_T41 l0_1 x10_3).f0) : Int).toNat true).set (((rd_T41 l0_1 x10_3).f1) : Int).toNat true) x9_2 (wrap64 (x10_3 + 1)) a0_0 l0_1) else (stolonref11_closed.l2 k3 l2 x7_3 x9_2 (wrap64 (x10_3 + 1)) a0_0 l0_1)) else (none)) else (none))) else (none)) else (none)) = some r := by rw [if_pos rfl] at H; exact H
                          clear H
                          have H := H1
                          clear H1
                          by_cases c17 : 0 ≤ ((rd_T41 l0_1 x10_3).f0)
                          · rw [if_pos c17] at H
                            have c17b0 : decide (0 ≤ ((rd_T41 l0_1 x10_3).f0)) = true := decide_eq_true c17
                            clear c17
                            by_cases c18 : ((rd_T41 l0_1 x10_3).f0) < (x7_3.length : Int)
                            · rw [if_pos c18] at H
                              have c18b0 : decide (((rd_T41 l0_1 x10_3).f0) < (x7_3.length : Int)) = true := decide_eq_true c18
                              clear c18
                              obtain ⟨bq19, hbq19⟩ : ∃ b_ : Bool, b_ = (rdOf false x7_3 ((rd_T41 l0_1 x10_3).f0)) := ⟨_, rfl⟩
                              replace H : (if bq19 = true then (if 0 ≤ ((rd_T41 l0_1 x10_3).f1) then (if ((rd_T41 l0_1 x10_3).f1) < (x7_3.length : Int) then (stolonref11_closed.l2 k3 l2 ((x7_3.set (((rd_T41 l0_1 x10_3).f0) : Int).toNat true).set (((rd_T41 l0_1 x10_3).f1) : Int).toNat true) x9_2 (wrap64 (x10_3 + 1)) a0_0 l0_1) else (none)) else (none)) else (if 0 ≤ ((rd_T41 l0_1 x10_3).f1) then (if ((rd_T41 l0_1 x10_3).f1) < (x7_3.length : Int) then (if rdOf false x7_3 ((rd_T41 l0_1 x10_3).f1) = true then (stolonref11_closed.l2 k3 l2 ((x7_3.set (((rd_T41 l0_1 x10_3).f0) : Int).toNat true).set (((rd_T41 l0_1 x10_3).f1) : Int).toNat true) x9_2 (wrap64 (x10_3 + 1)) a0_0 l0_1) else (stolonref11_closed.l2 k3 l2 x7_3 x9_2 (wrap64 (x10_3 + 1)) a0_0 l0_1)) else (none)) else (none))) = some r := by rw [← hbq19] at H; exact H
                              have Nbq19 := Aside0.mk hbq19
                              clear hbq19
                              by_cases c20 : bq19 = true
                              · subst c20
                                have H1 : (if 0 ≤ ((rd_T41 l0_1 x10_3).f1) then (if ((rd_T41 l0_1 x10_3).f1) < (x7_3.length : Int) then (stolonref11_closed.l2 k3 l2 ((x7_3.set (((rd_T41 l0_1 x10_3).f0) : Int).toNat true).set (((rd_T41 l0_1 x10_3).f1) : Int).toNat true) x9_2 (wrap64 (x10_3 + 1)) a0_0 l0_1) else (none)) else (none)) = some r := by rw [if_pos rfl] at H; exact H
                                clear H
                                have H := H1
                                clear H1
                                obtain ⟨y168, hy168⟩ : ∃ y_ : List Bool, y_ = (x7_3.set (((rd_T41 l0_1 x10_3).f0) : Int).toNat true) := ⟨_, rfl⟩
                                replace H : (if 0 ≤ ((rd_T41 l0_1 x10_3).f1) then (if ((rd_T41 l0_1 x10_3).f1) < (x7_3.length : Int) then (stolonref11_closed.l2 k3 l2 (y168.set (((rd_T41 l0_1 x10_3).f1) : Int).toNat true) x9_2 (wrap64 (x10_3 + 1)) a0_0 l0_1) else (none)) else (none)) = some r := by first | (rw [hy168]; with_reducible exact H) | (have H2_ := (Option.bind_some _ _).symm.trans H; rw [hy168]; with_reducible exact H2_) | (have H2_ := (Option.bind_some _ _).symm.trans H; with_reducible exact H2_) | with_reducible exact H | (rw [hy168]; exact H) | exact H
                                have Ny168 := Aside0.mk hy168
                                clear hy168
                                by_cases c22 : 0 ≤ ((rd_T41 l0_1 x10_3).f1)
                                · rw [if_pos c22] at H
                                  have c22b0 : decide (0 ≤ ((rd_T41 l0_1 x10_3).f1)) = true := decide_eq_true c22
                                  clear c22
                                  by_cases c23 : ((rd_T41 l0_1 x10_3).f1) < (x7_3.length : Int)
                                  · rw [if_pos c23] at H
                                    have c23b0 : decide (((rd_T41 l0_1 x10_3).f1) < (x7_3.length : Int)) = true := decide_eq_true c23
                                    clear c23
                                    obtain ⟨y169, hy169⟩ : ∃ y_ : List Bool, y_ = (y168.set (((rd_T41 l0_1 x10_3).f1) : Int).toNat true) := ⟨_, rfl⟩
                                    replace H : (stolonref11_closed.l2 k3 l2 y169 x9_2 (wrap64 (x10_3 + 1)) a0_0 l0_1) = some r := by first | (rw [hy169]; with_reducible exact H) | (have H2_ := (Option.bind_some _ _).symm.trans H; rw [hy169]; with_reducible exact H2_) | (have H2_ := (Option.bind_some _ _).symm.trans H; with_reducible exact H2_) | with_reducible exact H | (rw [hy169]; exact H) | exact H
                                    have Ny169 := Aside0.mk hy169
                                    clear hy169
                                    have H' := Aside0.mk H
                                    clear H
                                    have hcz25_0 : wr.cell? ⟨gb160, 0, none⟩ = some (.int .i64 a0_0) := (blk_cell BK160.out 0).trans rfl
                                    have hcz25_1 : wr.cell? ⟨gb160, 1, none⟩ = some (.slice A0_1 l0_1.length c0_1) := (blk_cell BK160.out 1).trans rfl
                                    have hfz25_0 := blk_frozen BK160.out 0
                                    have hfz25_1 := blk_frozen BK160.out 1
                                    have p164 : 0 ≤ (x10_3 : Int) := of_decide_eq_true (by first | (with_reducible assumption) | assumption)
                                    have q164 : x10_3 < (l0_1.length : Int) := of_decide_eq_true (by first | (with_reducible assumption) | assumption)
                                    obtain ⟨ad164, e164, hx164_0, hx164_1, hx164_2, hx164_3⟩ := at_T41 HR0_1.out x10_3 p164 q164
                                    (try rw [← Nbq15.out] at hx164_3)
                                    (try rw [← Nbq19.out] at hx164_3)
                                    cases e164
                                    replace hx164_0 := (HB.out.cell (World.block_lt_of_cell? w _ hx164_0)).trans hx164_0
                                    replace hx164_1 := (HB.out.cell (World.block_lt_of_cell? w _ hx164_1)).trans hx164_1
                                    replace hx164_2 := (HB.out.cell (World.block_lt_of_cell? w _ hx164_2)).trans hx164_2
                                    replace hx164_3 := (HB.out.cell (World.block_lt_of_cell? w _ hx164_3)).trans hx164_3
                                    replace p164 := eq_true p164
                                    replace q164 := eq_true q164
                                    go_wp2_with (first | ((with_reducible refine gate_dst (N := 11) rfl ?_); refine box_event ?hg (N := 11) ?hd (cs := #[.int .i64 0, .int .i64 0, .int .i64 0, .bool false]) (t := 41) ?hr ?_; (case hd => rfl); (case hg => rfl); (case hr => first | (go_simp; done) | (go_simp; rfl)); intro gb165 hg w26 hbox hb; have n0_ := Aside0.mk (Kd.R_below (by (with_reducible repeat (first | apply Kd.R_alloc | apply Kd.R_drewN | apply Kd.R_drew)); exact HO_7.out) hb); have n1_ := Aside0.mk (blk_below (g := gb160) (o := .cells #[.int .i64 a0_0, .slice (some ad164) l0_1.length c0_1] 24 (0, 0)) (by (with_reducible repeat (first | refine blk_drewN ?_ _ | refine blk_drew ?_ | refine blk_alloc ?_ _)); exact BK160.out) hb); have n2_ := Aside0.mk (below_step (by repeat (first | (with_reducible first | exact HB.out | apply below_alloc | apply pw_below_drewN | apply below_drew1 | refine below_set ?_ GE160.out) | exact HB.out)) hb); have n3_ := Aside0.mk (hbox); have n4_ := Aside0.mk ((by rw [hg]; exact (below_size (by repeat (first | (with_reducible first | exact HB.out | apply below_alloc | apply pw_below_drewN | apply below_drew1 | refine below_set ?_ GE160.out) | exact HB.out))) : w.heap.size ≤ gb165)); have n5_ := Aside0.mk ((by rw [hg]; exact (below_size (by repeat (first | (with_reducible first | exact HB.out | apply below_alloc | apply pw_below_drewN | apply below_drew1 | refine below_set ?_ GE160.out) | exact HB.out))) : w.heap.size ≤ gb165)); have n6_ := Aside0.mk ((by rw [hg]; exact Nat.ne_of_lt (blk_lt (g := gb160) (o := .cells #[.int .i64 a0_0, .slice (some ad164) l0_1.length c0_1] 24 (0, 0)) (by (with_reducible repeat (first | refine blk_drewN ?_ _ | refine blk_drew ?_ | refine blk_alloc ?_ _)); exact BK160.out)) : gb160 ≠ gb165)); have n7_ := Aside0.mk ((by rw [hg]; exact Nat.ne_of_gt (blk_lt (g := gb160) (o := .cells #[.int .i64 a0_0, .slice (some ad164) l0_1.length c0_1] 24 (0, 0)) (by (with_reducible repeat (first | refine blk_drewN ?_ _ | refine blk_drew ?_ | refine blk_alloc ?_ _)); exact BK160.out)) : gb165 ≠ gb160)); clear HO_7; clear BK160; clear HB; have HO_7 := n0_; have BK160 := n1_; have HB := n2_; have BK165 := n3_; have GW165 := n4_; have GE165 := n5_; have NB160_165 := n6_; have NB165_160 := n7_; clear n0_ n1_ n2_ n3_ n4_ n5_ n6_ n7_; clear hb hbox hg; have hnb27 := NB165_160.out; have hnc27 := NB160_165.out; have hcz28_0 : w26.cell? ⟨gb165, 0, none⟩ = some (.int .i64 0) := (blk_cell BK165.out 0).trans rfl; have hcz28_1 : w26.cell? ⟨gb165, 1, none⟩ = some (.int .i64 0) := (blk_cell BK165.out 1).trans rfl; have hcz28_2 : w26.cell? ⟨gb165, 2, none⟩ = some (.int .i64 0) := (blk_cell BK165.out 2).trans rfl; have hcz28_3 : w26.cell? ⟨gb165, 3, none⟩ = some (.bool false) := (blk_cell BK165.out 3).trans rfl; have hfz28_0 := blk_frozen BK165.out 0; have hfz28_1 := blk_frozen BK165.out 1; have hfz28_2 := blk_frozen BK165.out 2; have hfz28_3 := blk_frozen BK165.out 3) | ((with_reducible refine gate_store (t := 41) (p := 11) rfl ?_); refine store_event (t := 41) (p := 11) (v := ?vo_w29) (w1 := ((((w26.setCell ⟨gb165, 0, none⟩ (.int .i64 ((rd_T41 l0_1 x10_3).f0))).setCell ⟨gb165, 1, none⟩ (.int .i64 ((rd_T41 l0_1 x10_3).f1))).setCell ⟨gb165, 2, none⟩ (.int .i64 ((rd_T41 l0_1 x10_3).f2))).setCell ⟨gb165, 3, none⟩ (.bool ((rd_T41 l0_1 x10_3).f3)))) ?hg ?ho ?hn ?hr ?_; (case ho => rfl); (case hg => rfl); (case hn => rfl); (case hr => first | (go_simp; done) | (go_simp; rfl)); intro w29 hw; have n0_ : Aside0 (Kd.R Kd.bool 4 w29 w.heap.size (fun _ => True) u7 x7_3) := ⟨(by rw [hw]; exact (by (with_reducible repeat (first | apply Kd.R_alloc | apply Kd.R_drewN | apply Kd.R_drew)); exact Kd.R_mono (Kd.R_far (p := ⟨gb165, 3, none⟩) (Kd.R_far (p := ⟨gb165, 2, none⟩) (Kd.R_far (p := ⟨gb165, 1, none⟩) (Kd.R_far (p := ⟨gb165, 0, none⟩) (Kd.R_types HO_7.out BK165.out (by decide)) (fun _ hk => hk.2) (.int .i64 ((rd_T41 l0_1 x10_3).f0))) (fun _ hk => hk.2) (.int .i64 ((rd_T41 l0_1 x10_3).f1))) (fun _ hk => hk.2) (.int .i64 ((rd_T41 l0_1 x10_3).f2))) (fun _ hk => hk.2) (.bool ((rd_T41 l0_1 x10_3).f3))) (fun _ hk => trivial)))⟩; have n1_ : Aside0 (w29.heap[gb160]? = some (.cells #[.int .i64 a0_0, .slice (some ad164) l0_1.length c0_1] 24 (0, 0))) := ⟨(by rw [hw]; exact (by (with_reducible repeat (first | refine blk_drewN ?_ _ | refine blk_drew ?_ | refine blk_alloc ?_ _)); refine blk_far ?_ NB160_165.out _; (with_reducible repeat (first | refine blk_drewN ?_ _ | refine blk_drew ?_ | refine blk_alloc ?_ _)); refine blk_far ?_ NB160_165.out _; (with_reducible repeat (first | refine blk_drewN ?_ _ | refine blk_drew ?_ | refine blk_alloc ?_ _)); refine blk_far ?_ NB160_165.out _; (with_reducible repeat (first | refine blk_drewN ?_ _ | refine blk_drew ?_ | refine blk_alloc ?_ _)); refine blk_far ?_ NB160_165.out _; (with_reducible repeat (first | refine blk_drewN ?_ _ | refine blk_drew ?_ | refine blk_alloc ?_ _)); exact BK160.out))⟩; have n2_ : Aside0 (w29.heap[gb165]? = some (.cells #[.int .i64 ((rd_T41 l0_1 x10_3).f0), .int .i64 ((rd_T41 l0_1 x10_3).f1), .int .i64 ((rd_T41 l0_1 x10_3).f2), .bool ((rd_T41 l0_1 x10_3).f3)] 41 (0, 0))) := ⟨(by rw [hw]; exact (by (with_reducible repeat (first | refine blk_drewN ?_ _ | refine blk_drew ?_ | refine blk_alloc ?_ _)); refine blk_put (cs := #[.int .i64 ((rd_T41 l0_1 x10_3).f0), .int .i64 ((rd_T41 l0_1 x10_3).f1), .int .i64 ((rd_T41 l0_1 x10_3).f2), .bool false]) ?_ 3 _ rfl; (with_reducible repeat (first | refine blk_drewN ?_ _ | refine blk_drew ?_ | refine blk_alloc ?_ _)); refine blk_put (cs := #[.int .i64 ((rd_T41 l0_1 x10_3).f0), .int .i64 ((rd_T41 l0_1 x10_3).f1), .int .i64 0, .bool false]) ?_ 2 _ rfl; (with_reducible repeat (first | refine blk_drewN ?_ _ | refine blk_drew ?_ | refine blk_alloc ?_ _)); refine blk_put (cs := #[.int .i64 ((rd_T41 l0_1 x10_3).f0), .int .i64 0, .int .i64 0, .bool false]) ?_ 1 _ rfl; (with_reducible repeat (first | refine blk_drewN ?_ _ | refine blk_drew ?_ | refine blk_alloc ?_ _)); refine blk_put (cs := #[.int .i64 0, .int .i64 0, .int .i64 0, .bool false]) ?_ 0 _ rfl; (with_reducible repeat (first | refine blk_drewN ?_ _ | refine blk_drew ?_ | refine blk_alloc ?_ _)); exact BK165.out))⟩; have n3_ : Aside0 (Below w.heap.size w w29) := ⟨(by rw [hw]; exact (by repeat (first | (with_reducible first | exact HB.out | apply below_alloc | apply pw_below_drewN | apply below_drew1 | refine below_set ?_ GE160.out | refine below_set ?_ GE165.out) | exact HB.out)))⟩; clear hw; clear HO_7; clear BK160; clear BK165; clear HB; have HO_7 := n0_; have BK160 := n1_; have BK165 := n2_; have HB := n3_; clear n0_ n1_ n2_ n3_; have p166 : 0 ≤ (x10_3 : Int) := of_decide_eq_true (by first | (with_reducible assumption) | assumption); have q166 : x10_3 < (l2.length : Int) := of_decide_eq_true (by first | (with_reducible assumption) | assumption); obtain ⟨ad166, e166, hx166_0⟩ := Kd.at_bool HR2.out x10_3 p166 q166; (try rw [← Nbq15.out] at hx166_0); (try rw [← Nbq19.out] at hx166_0); cases e166; replace hx166_0 := (HB.out.cell (World.block_lt_of_cell? w _ hx166_0)).trans hx166_0; replace p166 := eq_true p166; replace q166 := eq_true q166; have hcz30_0 : w29.cell? ⟨gb165, 0, none⟩ = some (.int .i64 ((rd_T41 l0_1 x10_3).f0)) := (blk_cell BK165.out 0).trans rfl; have hcz30_1 : w29.cell? ⟨gb165, 1, none⟩ = some (.int .i64 ((rd_T41 l0_1 x10_3).f1)) := (blk_cell BK165.out 1).trans rfl; have hcz30_2 : w29.cell? ⟨gb165, 2, none⟩ = some (.int .i64 ((rd_T41 l0_1 x10_3).f2)) := (blk_cell BK165.out 2).trans rfl; have hcz30_3 : w29.cell? ⟨gb165, 3, none⟩ = some (.bool ((rd_T41 l0_1 x10_3).f3)) := (blk_cell BK165.out 3).trans rfl; have hfz30_0 := blk_frozen BK165.out 0; have hfz30_1 := blk_frozen BK165.out 1; have hfz30_2 := blk_frozen BK165.out 2; have hfz30_3 := blk_frozen BK165.out 3; obtain ⟨Ao31, co31, eo31⟩ := Kd.R_slice HO_7.out; subst eo31; have p167 : 0 ≤ (((rd_T41 l0_1 x10_3).f0) : Int) := of_decide_eq_true (by first | (with_reducible assumption) | assumption); have q167 : ((rd_T41 l0_1 x10_3).f0) < (x7_3.length : Int) := of_decide_eq_true (by first | (with_reducible assumption) | assumption); obtain ⟨ad167, e167, hx167_0⟩ := Kd.at_bool (Kd.R_reads' HO_7.out).2.2 ((rd_T41 l0_1 x10_3).f0) p167 q167; (try rw [← Nbq15.out] at hx167_0); (try rw [← Nbq19.out] at hx167_0); cases e167; replace p167 := eq_true p167; replace q167 := eq_true q167; have p21 : 0 ≤ (((rd_T41 l0_1 x10_3).f0) : Int) := of_decide_eq_true (by first | (with_reducible assumption) | assumption); have q21 : (((rd_T41 l0_1 x10_3).f0) : Int) < ((x7_3.length : Int) : Int) := of_decide_eq_true (by first | (with_reducible assumption) | assumption); obtain ⟨go21, co21, eo21, gb21, gl21, cl21, HG21⟩ := Kd.R_form HO_7.out (by omega); (first | cases eo21 | (injection eo21 with ea_ en_ ec_; (first | subst ea_ | (injection ea_ with ea_; subst ea_)); subst ec_; clear en_)); have GB21 := Aside0.mk gb21; have GG21 := Aside0.mk HG21; clear gb21 gl21 HG21; (first | simp only [add_plain] at hx167_0 | skip); obtain ⟨hx21_0, hf21_0⟩ := Kd.R_celln false HO_7.out (((rd_T41 l0_1 x10_3).f0) : Int) p21 q21; replace p21 := eq_true p21; replace q21 := eq_true q21; obtain ⟨hy32_, hz32_⟩ := Kd.R_celln false HO_7.out (((rd_T41 l0_1 x10_3).f0) : Int) (of_decide_eq_true (by first | (with_reducible assumption) | assumption)) (of_decide_eq_true (by first | (with_reducible assumption) | assumption)); have HP32 := Kd.R_putg HO_7.out (((rd_T41 l0_1 x10_3).f0) : Int) true) | ((with_reducible refine gate_store (t := 4) (p := 65) rfl ?_); refine store_event (t := 4) (p := 65) (v := ?vo_w33) (w1 := (w29.setCell ⟨go21, (((rd_T41 l0_1 x10_3).f0) : Int).toNat, none⟩ (.bool true))) ?hg ?ho ?hn ?hr ?_; (case ho => rfl); (case hg => rfl); (case hn => rfl); (case hr => first | (go_simp; done) | (go_simp; rfl)); intro w33 hw; have hg : w29.grownBy w33 (some go21) := (by rw [hw]; exact HP32.2); have hp_ : Kd.R Kd.bool 4 w33 w.heap.size (fun _ => True) (.slice (some ⟨go21, 0, none⟩) x7_3.length co31) y168 := (by rw [hw, Ny168.out]; exact HP32.1); clear HP32; have n0_ := Aside0.mk (hp_); have n1_ := Aside0.mk (blk_grown (g := gb160) (o := .cells #[.int .i64 a0_0, .slice (some ad164) l0_1.length c0_1] 24 (0, 0)) (by (with_reducible repeat (first | refine blk_drewN ?_ _ | refine blk_drew ?_ | refine blk_alloc ?_ _)); exact BK160.out) hg (Kd.R_ne HO_7.out BK160.out (by decide))); have n2_ := Aside0.mk (blk_grown (g := gb165) (o := .cells #[.int .i64 ((rd_T41 l0_1 x10_3).f0), .int .i64 ((rd_T41 l0_1 x10_3).f1), .int .i64 ((rd_T41 l0_1 x10_3).f2), .bool ((rd_T41 l0_1 x10_3).f3)] 41 (0, 0)) (by (with_reducible repeat (first | refine blk_drewN ?_ _ | refine blk_drew ?_ | refine blk_alloc ?_ _)); exact BK165.out) hg (Kd.R_ne HO_7.out BK165.out (by decide))); have n3_ := Aside0.mk ((by rw [hw]; exact below_set (HB.out) GB21.out : Below w.heap.size w w33)); clear HO_7; clear BK160; clear BK165; clear HB; have HO_7 := n0_; have BK160 := n1_; have BK165 := n2_; have HB := n3_; clear n0_ n1_ n2_ n3_; clear hg hw hp_; have hcz34_0 : w33.cell? ⟨gb165, 0, none⟩ = some (.int .i64 ((rd_T41 l0_1 x10_3).f0)) := (blk_cell BK165.out 0).trans rfl; have hcz34_1 : w33.cell? ⟨gb165, 1, none⟩ = some (.int .i64 ((rd_T41 l0_1 x10_3).f1)) := (blk_cell BK165.out 1).trans rfl; have hcz34_2 : w33.cell? ⟨gb165, 2, none⟩ = some (.int .i64 ((rd_T41 l0_1 x10_3).f2)) := (blk_cell BK165.out 2).trans rfl; have hcz34_3 : w33.cell? ⟨gb165, 3, none⟩ = some (.bool ((rd_T41 l0_1 x10_3).f3)) := (blk_cell BK165.out 3).trans rfl; have hfz34_0 := blk_frozen BK165.out 0; have hfz34_1 := blk_frozen BK165.out 1; have hfz34_2 := blk_frozen BK165.out 2; have hfz34_3 := blk_frozen BK165.out 3; have p24 : 0 ≤ (((rd_T41 l0_1 x10_3).f1) : Int) := of_decide_eq_true (by first | (with_reducible assumption) | assumption); have q24 : (((rd_T41 l0_1 x10_3).f1) : Int) < ((x7_3.length : Int) : Int) := of_decide_eq_true (by first | (with_reducible assumption) | assumption); obtain ⟨hx24_0, hf24_0⟩ := Kd.R_celln false HO_7.out (((rd_T41 l0_1 x10_3).f1) : Int) p24 q24; replace p24 := eq_true p24; replace q24 := eq_true q24; obtain ⟨hy35_, hz35_⟩ := Kd.R_celln false HO_7.out (((rd_T41 l0_1 x10_3).f1) : Int) (of_decide_eq_true (by first | (with_reducible assumption) | assumption)) (of_decide_eq_true (by first | (with_reducible assumption) | assumption)); have HP35 := Kd.R_putg HO_7.out (((rd_T41 l0_1 x10_3).f1) : Int) true) | ((with_reducible refine gate_store (t := 4) (p := 69) rfl ?_); refine store_event (t := 4) (p := 69) (v := ?vo_w36) (w1 := (w33.setCell ⟨go21, (((rd_T41 l0_1 x10_3).f1) : Int).toNat, none⟩ (.bool true))) ?hg ?ho ?hn ?hr ?_; (case ho => rfl); (case hg => rfl); (case hn => rfl); (case hr => first | (go_simp; done) | (go_simp; rfl)); intro w36 hw; have hg : w33.grownBy w36 (some go21) := (by rw [hw]; exact HP35.2); have hp_ : Kd.R Kd.bool 4 w36 w.heap.size (fun _ => True) (.slice (some ⟨go21, 0, none⟩) x7_3.length co31) y169 := (by rw [hw, Ny169.out]; exact HP35.1); clear HP35; have n0_ := Aside0.mk (hp_); have n1_ := Aside0.mk (blk_grown (g := gb160) (o := .cells #[.int .i64 a0_0, .slice (some ad164) l0_1.length c0_1] 24 (0, 0)) (by (with_reducible repeat (first | refine blk_drewN ?_ _ | refine blk_drew ?_ | refine blk_alloc ?_ _)); exact BK160.out) hg (Kd.R_ne HO_7.out BK160.out (by decide))); have n2_ := Aside0.mk (blk_grown (g := gb165) (o := .cells #[.int .i64 ((rd_T41 l0_1 x10_3).f0), .int .i64 ((rd_T41 l0_1 x10_3).f1), .int .i64 ((rd_T41 l0_1 x10_3).f2), .bool ((rd_T41 l0_1 x10_3).f3)] 41 (0, 0)) (by (with_reducible repeat (first | refine blk_drewN ?_ _ | refine blk_drew ?_ | refine blk_alloc ?_ _)); exact BK165.out) hg (Kd.R_ne HO_7.out BK165.out (by decide))); have n3_ := Aside0.mk ((by rw [hw]; exact below_set (HB.out) GB21.out : Below w.heap.size w w36)); clear HO_7; clear BK160; clear BK165; clear HB; have HO_7 := n0_; have BK160 := n1_; have BK165 := n2_; have HB := n3_; clear n0_ n1_ n2_ n3_; clear hg hw hp_))
                                    go_roundg k3
                                    case measure => have := HK1.out; have := HK2.out; have := HK3.out; omega
                                    case rel => exact ⟨(y169), (wrap64 (x10_3 + 1)), (by first | rfl | (simp; done) | (simp [*]; done)), H', ⟨by have := HK1.out; have := HK2.out; have := HK3.out; omega⟩, ⟨by (with_reducible repeat (first | apply Kd.R_alloc | apply Kd.R_drewN | apply Kd.R_drew)); exact HO_7.out⟩, ⟨by (with_reducible repeat (first | refine blk_drewN ?_ _ | refine blk_drew ?_ | refine blk_alloc ?_ _)); exact BK160.out⟩, ⟨by repeat (first | (with_reducible first | exact HB.out | apply below_alloc | apply pw_below_drewN | apply below_drew1 | refine below_set ?_ GE160.out | refine below_set ?_ GE165.out) | exact HB.out)⟩⟩
                                  · rw [if_neg c23] at H
                                    exact absurd H (by simp)
                                · rw [if_neg c22] at H
                                  exact absurd H (by simp)
                              · replace c20 := Bool.eq_false_iff.mpr c20
                                subst c20
                                have H1 : (if 0 ≤ ((rd_T41 l0_1 x10_3).f1) then (if ((rd_T41 l0_1 x10_3).f1) < (x7_3.length : Int) then (if rdOf false x7_3 ((rd_T41 l0_1 x10_3).f1) = true then (stolonref11_closed.l2 k3 l2 ((x7_3.set (((rd_T41 l0_1 x10_3).f0) : Int).toNat true).set (((rd_T41 l0_1 x10_3).f1) : Int).toNat true) x9_2 (wrap64 (x10_3 + 1)) a0_0 l0_1) else (stolonref11_closed.l2 k3 l2 x7_3 x9_2 (wrap64 (x10_3 + 1)) a0_0 l0_1)) else (none)) else (none)) = some r := by rw [if_neg (show ¬ (false = true) by decide)] at H; exact H
                                clear H
                                have H := H1
                                clear H1
                                by_cases c37 : 0 ≤ ((rd_T41 l0_1 x10_3).f1)
                                · rw [if_pos c37] at H
                                  have c37b0 : decide (0 ≤ ((rd_T41 l0_1 x10_3).f1)) = true := decide_eq_true c37
                                  clear c37
                                  by_cases c38 : ((rd_T41 l0_1 x10_3).f1) < (x7_3.length : Int)
                                  · rw [if_pos c38] at H
                                    have c38b0 : decide (((rd_T41 l0_1 x10_3).f1) < (x7_3.length : Int)) = true := decide_eq_true c38
                                    clear c38
                                    obtain ⟨bq39, hbq39⟩ : ∃ b_ : Bool, b_ = (rdOf false x7_3 ((rd_T41 l0_1 x10_3).f1)) := ⟨_, rfl⟩
                                    replace H : (if bq39 = true then (stolonref11_closed.l2 k3 l2 ((x7_3.set (((rd_T41 l0_1 x10_3).f0) : Int).toNat true).set (((rd_T41 l0_1 x10_3).f1) : Int).toNat true) x9_2 (wrap64 (x10_3 + 1)) a0_0 l0_1) else (stolonref11_closed.l2 k3 l2 x7_3 x9_2 (wrap64 (x10_3 + 1)) a0_0 l0_1)) = some r := by rw [← hbq39] at H; exact H
                                    have Nbq39 := Aside0.mk hbq39
                                    clear hbq39
                                    by_cases c40 : bq39 = true
                                    · subst c40
                                      have H1 : (stolonref11_closed.l2 k3 l2 ((x7_3.set (((rd_T41 l0_1 x10_3).f0) : Int).toNat true).set (((rd_T41 l0_1 x10_3).f1) : Int).toNat true) x9_2 (wrap64 (x10_3 + 1)) a0_0 l0_1) = some r := by rw [if_pos rfl] at H; exact H
                                      clear H
                                      have H := H1
                                      clear H1
                                      obtain ⟨y171, hy171⟩ : ∃ y_ : List Bool, y_ = (x7_3.set (((rd_T41 l0_1 x10_3).f0) : Int).toNat true) := ⟨_, rfl⟩
                                      replace H : (stolonref11_closed.l2 k3 l2 (y171.set (((rd_T41 l0_1 x10_3).f1) : Int).toNat true) x9_2 (wrap64 (x10_3 + 1)) a0_0 l0_1) = some r := by first | (rw [hy171]; with_reducible exact H) | (have H2_ := (Option.bind_some _ _).symm.trans H; rw [hy171]; with_reducible exact H2_) | (have H2_ := (Option.bind_some _ _).symm.trans H; with_reducible exact H2_) | with_reducible exact H | (rw [hy171]; exact H) | exact H
                                      have Ny171 := Aside0.mk hy171
                                      clear hy171
                                      obtain ⟨y172, hy172⟩ : ∃ y_ : List Bool, y_ = (y171.set (((rd_T41 l0_1 x10_3).f1) : Int).toNat true) := ⟨_, rfl⟩
                                      replace H : (stolonref11_closed.l2 k3 l2 y172 x9_2 (wrap64 (x10_3 + 1)) a0_0 l0_1) = some r := by first | (rw [hy172]; with_reducible exact H) | (have H2_ := (Option.bind_some _ _).symm.trans H; rw [hy172]; with_reducible exact H2_) | (have H2_ := (Option.bind_some _ _).symm.trans H; with_reducible exact H2_) | with_reducible exact H | (rw [hy172]; exact H) | exact H
                                      have Ny172 := Aside0.mk hy172
                                      clear hy172
                                      have H' := Aside0.mk H
                                      clear H
                                      have hcz43_0 : wr.cell? ⟨gb160, 0, none⟩ = some (.int .i64 a0_0) := (blk_cell BK160.out 0).trans rfl
                                      have hcz43_1 : wr.cell? ⟨gb160, 1, none⟩ = some (.slice A0_1 l0_1.length c0_1) := (blk_cell BK160.out 1).trans rfl
                                      have hfz43_0 := blk_frozen BK160.out 0
                                      have hfz43_1 := blk_frozen BK160.out 1
                                      have p164 : 0 ≤ (x10_3 : Int) := of_decide_eq_true (by first | (with_reducible assumption) | assumption)
                                      have q164 : x10_3 < (l0_1.length : Int) := of_decide_eq_true (by first | (with_reducible assumption) | assumption)
                                      obtain ⟨ad164, e164, hx164_0, hx164_1, hx164_2, hx164_3⟩ := at_T41 HR0_1.out x10_3 p164 q164
                                      (try rw [← Nbq15.out] at hx164_3)
                                      (try rw [← Nbq19.out] at hx164_3)
                                      (try rw [← Nbq39.out] at hx164_3)
                                      cases e164
                                      replace hx164_0 := (HB.out.cell (World.block_lt_of_cell? w _ hx164_0)).trans hx164_0
                                      replace hx164_1 := (HB.out.cell (World.block_lt_of_cell? w _ hx164_1)).trans hx164_1
                                      replace hx164_2 := (HB.out.cell (World.block_lt_of_cell? w _ hx164_2)).trans hx164_2
                                      replace hx164_3 := (HB.out.cell (World.block_lt_of_cell? w _ hx164_3)).trans hx164_3
                                      replace p164 := eq_true p164
                                      replace q164 := eq_true q164
                                      go_wp2_with (first | ((with_reducible refine gate_dst (N := 11) rfl ?_); refine box_event ?hg (N := 11) ?hd (cs := #[.int .i64 0, .int .i64 0, .int .i64 0, .bool false]) (t := 41) ?hr ?_; (case hd => rfl); (case hg => rfl); (case hr => first | (go_simp; done) | (go_simp; rfl)); intro gb165 hg w44 hbox hb; have n0_ := Aside0.mk (Kd.R_below (by (with_reducible repeat (first | apply Kd.R_alloc | apply Kd.R_drewN | apply Kd.R_drew)); exact HO_7.out) hb); have n1_ := Aside0.mk (blk_below (g := gb160) (o := .cells #[.int .i64 a0_0, .slice (some ad164) l0_1.length c0_1] 24 (0, 0)) (by (with_reducible repeat (first | refine blk_drewN ?_ _ | refine blk_drew ?_ | refine blk_alloc ?_ _)); exact BK160.out) hb); have n2_ := Aside0.mk (below_step (by repeat (first | (with_reducible first | exact HB.out | apply below_alloc | apply pw_below_drewN | apply below_drew1 | refine below_set ?_ GE160.out) | exact HB.out)) hb); have n3_ := Aside0.mk (hbox); have n4_ := Aside0.mk ((by rw [hg]; exact (below_size (by repeat (first | (with_reducible first | exact HB.out | apply below_alloc | apply pw_below_drewN | apply below_drew1 | refine below_set ?_ GE160.out) | exact HB.out))) : w.heap.size ≤ gb165)); have n5_ := Aside0.mk ((by rw [hg]; exact (below_size (by repeat (first | (with_reducible first | exact HB.out | apply below_alloc | apply pw_below_drewN | apply below_drew1 | refine below_set ?_ GE160.out) | exact HB.out))) : w.heap.size ≤ gb165)); have n6_ := Aside0.mk ((by rw [hg]; exact Nat.ne_of_lt (blk_lt (g := gb160) (o := .cells #[.int .i64 a0_0, .slice (some ad164) l0_1.length c0_1] 24 (0, 0)) (by (with_reducible repeat (first | refine blk_drewN ?_ _ | refine blk_drew ?_ | refine blk_alloc ?_ _)); exact BK160.out)) : gb160 ≠ gb165)); have n7_ := Aside0.mk ((by rw [hg]; exact Nat.ne_of_gt (blk_lt (g := gb160) (o := .cells #[.int .i64 a0_0, .slice (some ad164) l0_1.length c0_1] 24 (0, 0)) (by (with_reducible repeat (first | refine blk_drewN ?_ _ | refine blk_drew ?_ | refine blk_alloc ?_ _)); exact BK160.out)) : gb165 ≠ gb160)); clear HO_7; clear BK160; clear HB; have HO_7 := n0_; have BK160 := n1_; have HB := n2_; have BK165 := n3_; have GW165 := n4_; have GE165 := n5_; have NB160_165 := n6_; have NB165_160 := n7_; clear n0_ n1_ n2_ n3_ n4_ n5_ n6_ n7_; clear hb hbox hg; have hnb45 := NB165_160.out; have hnc45 := NB160_165.out; have hcz46_0 : w44.cell? ⟨gb165, 0, none⟩ = some (.int .i64 0) := (blk_cell BK165.out 0).trans rfl; have hcz46_1 : w44.cell? ⟨gb165, 1, none⟩ = some (.int .i64 0) := (blk_cell BK165.out 1).trans rfl; have hcz46_2 : w44.cell? ⟨gb165, 2, none⟩ = some (.int .i64 0) := (blk_cell BK165.out 2).trans rfl; have hcz46_3 : w44.cell? ⟨gb165, 3, none⟩ = some (.bool false) := (blk_cell BK165.out 3).trans rfl; have hfz46_0 := blk_frozen BK165.out 0; have hfz46_1 := blk_frozen BK165.out 1; have hfz46_2 := blk_frozen BK165.out 2; have hfz46_3 := blk_frozen BK165.out 3) | ((with_reducible refine gate_store (t := 41) (p := 11) rfl ?_); refine store_event (t := 41) (p := 11) (v := ?vo_w47) (w1 := ((((w44.setCell ⟨gb165, 0, none⟩ (.int .i64 ((rd_T41 l0_1 x10_3).f0))).setCell ⟨gb165, 1, none⟩ (.int .i64 ((rd_T41 l0_1 x10_3).f1))).setCell ⟨gb165, 2, none⟩ (.int .i64 ((rd_T41 l0_1 x10_3).f2))).setCell ⟨gb165, 3, none⟩ (.bool ((rd_T41 l0_1 x10_3).f3)))) ?hg ?ho ?hn ?hr ?_; (case ho => rfl); (case hg => rfl); (case hn => rfl); (case hr => first | (go_simp; done) | (go_simp; rfl)); intro w47 hw; have n0_ : Aside0 (Kd.R Kd.bool 4 w47 w.heap.size (fun _ => True) u7 x7_3) := ⟨(by rw [hw]; exact (by (with_reducible repeat (first | apply Kd.R_alloc | apply Kd.R_drewN | apply Kd.R_drew)); exact Kd.R_mono (Kd.R_far (p := ⟨gb165, 3, none⟩) (Kd.R_far (p := ⟨gb165, 2, none⟩) (Kd.R_far (p := ⟨gb165, 1, none⟩) (Kd.R_far (p := ⟨gb165, 0, none⟩) (Kd.R_types HO_7.out BK165.out (by decide)) (fun _ hk => hk.2) (.int .i64 ((rd_T41 l0_1 x10_3).f0))) (fun _ hk => hk.2) (.int .i64 ((rd_T41 l0_1 x10_3).f1))) (fun _ hk => hk.2) (.int .i64 ((rd_T41 l0_1 x10_3).f2))) (fun _ hk => hk.2) (.bool ((rd_T41 l0_1 x10_3).f3))) (fun _ hk => trivial)))⟩; have n1_ : Aside0 (w47.heap[gb160]? = some (.cells #[.int .i64 a0_0, .slice (some ad164) l0_1.length c0_1] 24 (0, 0))) := ⟨(by rw [hw]; exact (by (with_reducible repeat (first | refine blk_drewN ?_ _ | refine blk_drew ?_ | refine blk_alloc ?_ _)); refine blk_far ?_ NB160_165.out _; (with_reducible repeat (first | refine blk_drewN ?_ _ | refine blk_drew ?_ | refine blk_alloc ?_ _)); refine blk_far ?_ NB160_165.out _; (with_reducible repeat (first | refine blk_drewN ?_ _ | refine blk_drew ?_ | refine blk_alloc ?_ _)); refine blk_far ?_ NB160_165.out _; (with_reducible repeat (first | refine blk_drewN ?_ _ | refine blk_drew ?_ | refine blk_alloc ?_ _)); refine blk_far ?_ NB160_165.out _; (with_reducible repeat (first | refine blk_drewN ?_ _ | refine blk_drew ?_ | refine blk_alloc ?_ _)); exact BK160.out))⟩; have n2_ : Aside0 (w47.heap[gb165]? = some (.cells #[.int .i64 ((rd_T41 l0_1 x10_3).f0), .int .i64 ((rd_T41 l0_1 x10_3).f1), .int .i64 ((rd_T41 l0_1 x10_3).f2), .bool ((rd_T41 l0_1 x10_3).f3)] 41 (0, 0))) := ⟨(by rw [hw]; exact (by (with_reducible repeat (first | refine blk_drewN ?_ _ | refine blk_drew ?_ | refine blk_alloc ?_ _)); refine blk_put (cs := #[.int .i64 ((rd_T41 l0_1 x10_3).f0), .int .i64 ((rd_T41 l0_1 x10_3).f1), .int .i64 ((rd_T41 l0_1 x10_3).f2), .bool false]) ?_ 3 _ rfl; (with_reducible repeat (first | refine blk_drewN ?_ _ | refine blk_drew ?_ | refine blk_alloc ?_ _)); refine blk_put (cs := #[.int .i64 ((rd_T41 l0_1 x10_3).f0), .int .i64 ((rd_T41 l0_1 x10_3).f1), .int .i64 0, .bool false]) ?_ 2 _ rfl; (with_reducible repeat (first | refine blk_drewN ?_ _ | refine blk_drew ?_ | refine blk_alloc ?_ _)); refine blk_put (cs := #[.int .i64 ((rd_T41 l0_1 x10_3).f0), .int .i64 0, .int .i64 0, .bool false]) ?_ 1 _ rfl; (with_reducible repeat (first | refine blk_drewN ?_ _ | refine blk_drew ?_ | refine blk_alloc ?_ _)); refine blk_put (cs := #[.int .i64 0, .int .i64 0, .int .i64 0, .bool false]) ?_ 0 _ rfl; (with_reducible repeat (first | refine blk_drewN ?_ _ | refine blk_drew ?_ | refine blk_alloc ?_ _)); exact BK165.out))⟩; have n3_ : Aside0 (Below w.heap.size w w47) := ⟨(by rw [hw]; exact (by repeat (first | (with_reducible first | exact HB.out | apply below_alloc | apply pw_below_drewN | apply below_drew1 | refine below_set ?_ GE160.out | refine below_set ?_ GE165.out) | exact HB.out)))⟩; clear hw; clear HO_7; clear BK160; clear BK165; clear HB; have HO_7 := n0_; have BK160 := n1_; have BK165 := n2_; have HB := n3_; clear n0_ n1_ n2_ n3_; have p166 : 0 ≤ (x10_3 : Int) := of_decide_eq_true (by first | (with_reducible assumption) | assumption); have q166 : x10_3 < (l2.length : Int) := of_decide_eq_true (by first | (with_reducible assumption) | assumption); obtain ⟨ad166, e166, hx166_0⟩ := Kd.at_bool HR2.out x10_3 p166 q166; (try rw [← Nbq15.out] at hx166_0); (try rw [← Nbq19.out] at hx166_0); (try rw [← Nbq39.out] at hx166_0); cases e166; replace hx166_0 := (HB.out.cell (World.block_lt_of_cell? w _ hx166_0)).trans hx166_0; replace p166 := eq_true p166; replace q166 := eq_true q166; have hcz48_0 : w47.cell? ⟨gb165, 0, none⟩ = some (.int .i64 ((rd_T41 l0_1 x10_3).f0)) := (blk_cell BK165.out 0).trans rfl; have hcz48_1 : w47.cell? ⟨gb165, 1, none⟩ = some (.int .i64 ((rd_T41 l0_1 x10_3).f1)) := (blk_cell BK165.out 1).trans rfl; have hcz48_2 : w47.cell? ⟨gb165, 2, none⟩ = some (.int .i64 ((rd_T41 l0_1 x10_3).f2)) := (blk_cell BK165.out 2).trans rfl; have hcz48_3 : w47.cell? ⟨gb165, 3, none⟩ = some (.bool ((rd_T41 l0_1 x10_3).f3)) := (blk_cell BK165.out 3).trans rfl; have hfz48_0 := blk_frozen BK165.out 0; have hfz48_1 := blk_frozen BK165.out 1; have hfz48_2 := blk_frozen BK165.out 2; have hfz48_3 := blk_frozen BK165.out 3; obtain ⟨Ao49, co49, eo49⟩ := Kd.R_slice HO_7.out; subst eo49; have p167 : 0 ≤ (((rd_T41 l0_1 x10_3).f0) : Int) := of_decide_eq_true (by first | (with_reducible assumption) | assumption); have q167 : ((rd_T41 l0_1 x10_3).f0) < (x7_3.length : Int) := of_decide_eq_true (by first | (with_reducible assumption) | assumption); obtain ⟨ad167, e167, hx167_0⟩ := Kd.at_bool (Kd.R_reads' HO_7.out).2.2 ((rd_T41 l0_1 x10_3).f0) p167 q167; (try rw [← Nbq15.out] at hx167_0); (try rw [← Nbq19.out] at hx167_0); (try rw [← Nbq39.out] at hx167_0); cases e167; replace p167 := eq_true p167; replace q167 := eq_true q167; have p170 : 0 ≤ (((rd_T41 l0_1 x10_3).f1) : Int) := of_decide_eq_true (by first | (with_reducible assumption) | assumption); have q170 : ((rd_T41 l0_1 x10_3).f1) < (x7_3.length : Int) := of_decide_eq_true (by first | (with_reducible assumption) | assumption); obtain ⟨ad170, e170, hx170_0⟩ := Kd.at_bool (Kd.R_reads' HO_7.out).2.2 ((rd_T41 l0_1 x10_3).f1) p170 q170; (try rw [← Nbq15.out] at hx170_0); (try rw [← Nbq19.out] at hx170_0); (try rw [← Nbq39.out] at hx170_0); obtain rfl : ad167 = ad170 := (by injection e170); replace p170 := eq_true p170; replace q170 := eq_true q170; have p41 : 0 ≤ (((rd_T41 l0_1 x10_3).f0) : Int) := of_decide_eq_true (by first | (with_reducible assumption) | assumption); have q41 : (((rd_T41 l0_1 x10_3).f0) : Int) < ((x7_3.length : Int) : Int) := of_decide_eq_true (by first | (with_reducible assumption) | assumption); obtain ⟨go41, co41, eo41, gb41, gl41, cl41, HG41⟩ := Kd.R_form HO_7.out (by omega); (first | cases eo41 | (injection eo41 with ea_ en_ ec_; (first | subst ea_ | (injection ea_ with ea_; subst ea_)); subst ec_; clear en_)); have GB41 := Aside0.mk gb41; have GG41 := Aside0.mk HG41; clear gb41 gl41 HG41; (first | simp only [add_plain] at hx167_0 | skip); (first | simp only [add_plain] at hx170_0 | skip); obtain ⟨hx41_0, hf41_0⟩ := Kd.R_celln false HO_7.out (((rd_T41 l0_1 x10_3).f0) : Int) p41 q41; replace p41 := eq_true p41; replace q41 := eq_true q41; obtain ⟨hy50_, hz50_⟩ := Kd.R_celln false HO_7.out (((rd_T41 l0_1 x10_3).f0) : Int) (of_decide_eq_true (by first | (with_reducible assumption) | assumption)) (of_decide_eq_true (by first | (with_reducible assumption) | assumption)); have HP50 := Kd.R_putg HO_7.out (((rd_T41 l0_1 x10_3).f0) : Int) true) | ((with_reducible refine gate_store (t := 4) (p := 65) rfl ?_); refine store_event (t := 4) (p := 65) (v := ?vo_w51) (w1 := (w47.setCell ⟨go41, (((rd_T41 l0_1 x10_3).f0) : Int).toNat, none⟩ (.bool true))) ?hg ?ho ?hn ?hr ?_; (case ho => rfl); (case hg => rfl); (case hn => rfl); (case hr => first | (go_simp; done) | (go_simp; rfl)); intro w51 hw; have hg : w47.grownBy w51 (some go41) := (by rw [hw]; exact HP50.2); have hp_ : Kd.R Kd.bool 4 w51 w.heap.size (fun _ => True) (.slice (some ⟨go41, 0, none⟩) x7_3.length co49) y171 := (by rw [hw, Ny171.out]; exact HP50.1); clear HP50; have n0_ := Aside0.mk (hp_); have n1_ := Aside0.mk (blk_grown (g := gb160) (o := .cells #[.int .i64 a0_0, .slice (some ad164) l0_1.length c0_1] 24 (0, 0)) (by (with_reducible repeat (first | refine blk_drewN ?_ _ | refine blk_drew ?_ | refine blk_alloc ?_ _)); exact BK160.out) hg (Kd.R_ne HO_7.out BK160.out (by decide))); have n2_ := Aside0.mk (blk_grown (g := gb165) (o := .cells #[.int .i64 ((rd_T41 l0_1 x10_3).f0), .int .i64 ((rd_T41 l0_1 x10_3).f1), .int .i64 ((rd_T41 l0_1 x10_3).f2), .bool ((rd_T41 l0_1 x10_3).f3)] 41 (0, 0)) (by (with_reducible repeat (first | refine blk_drewN ?_ _ | refine blk_drew ?_ | refine blk_alloc ?_ _)); exact BK165.out) hg (Kd.R_ne HO_7.out BK165.out (by decide))); have n3_ := Aside0.mk ((by rw [hw]; exact below_set (HB.out) GB41.out : Below w.heap.size w w51)); clear HO_7; clear BK160; clear BK165; clear HB; have HO_7 := n0_; have BK160 := n1_; have BK165 := n2_; have HB := n3_; clear n0_ n1_ n2_ n3_; clear hg hw hp_; have hcz52_0 : w51.cell? ⟨gb165, 0, none⟩ = some (.int .i64 ((rd_T41 l0_1 x10_3).f0)) := (blk_cell BK165.out 0).trans rfl; have hcz52_1 : w51.cell? ⟨gb165, 1, none⟩ = some (.int .i64 ((rd_T41 l0_1 x10_3).f1)) := (blk_cell BK165.out 1).trans rfl; have hcz52_2 : w51.cell? ⟨gb165, 2, none⟩ = some (.int .i64 ((rd_T41 l0_1 x10_3).f2)) := (blk_cell BK165.out 2).trans rfl; have hcz52_3 : w51.cell? ⟨gb165, 3, none⟩ = some (.bool ((rd_T41 l0_1 x10_3).f3)) := (blk_cell BK165.out 3).trans rfl; have hfz52_0 := blk_frozen BK165.out 0; have hfz52_1 := blk_frozen BK165.out 1; have hfz52_2 := blk_frozen BK165.out 2; have hfz52_3 := blk_frozen BK165.out 3; have p42 : 0 ≤ (((rd_T41 l0_1 x10_3).f1) : Int) := of_decide_eq_true (by first | (with_reducible assumption) | assumption); have q42 : (((rd_T41 l0_1 x10_3).f1) : Int) < ((x7_3.length : Int) : Int) := of_decide_eq_true (by first | (with_reducible assumption) | assumption); obtain ⟨hx42_0, hf42_0⟩ := Kd.R_celln false HO_7.out (((rd_T41 l0_1 x10_3).f1) : Int) p42 q42; replace p42 := eq_true p42; replace q42 := eq_true q42; obtain ⟨hy53_, hz53_⟩ := Kd.R_celln false HO_7.out (((rd_T41 l0_1 x10_3).f1) : Int) (of_decide_eq_true (by first | (with_reducible assumption) | assumption)) (of_decide_eq_true (by first | (with_reducible assumption) | assumption)); have HP53 := Kd.R_putg HO_7.out (((rd_T41 l0_1 x10_3).f1) : Int) true) | ((with_reducible refine gate_store (t := 4) (p := 69) rfl ?_); refine store_event (t := 4) (p := 69) (v := ?vo_w54) (w1 := (w51.setCell ⟨go41, (((rd_T41 l0_1 x10_3).f1) : Int).toNat, none⟩ (.bool true))) ?hg ?ho ?hn ?hr ?_; (case ho => rfl); (case hg => rfl); (case hn => rfl); (case hr => first | (go_simp; done) | (go_simp; rfl)); intro w54 hw; have hg : w51.grownBy w54 (some go41) := (by rw [hw]; exact HP53.2); have hp_ : Kd.R Kd.bool 4 w54 w.heap.size (fun _ => True) (.slice (some ⟨go41, 0, none⟩) x7_3.length co49) y172 := (by rw [hw, Ny172.out]; exact HP53.1); clear HP53; have n0_ := Aside0.mk (hp_); have n1_ := Aside0.mk (blk_grown (g := gb160) (o := .cells #[.int .i64 a0_0, .slice (some ad164) l0_1.length c0_1] 24 (0, 0)) (by (with_reducible repeat (first | refine blk_drewN ?_ _ | refine blk_drew ?_ | refine blk_alloc ?_ _)); exact BK160.out) hg (Kd.R_ne HO_7.out BK160.out (by decide))); have n2_ := Aside0.mk (blk_grown (g := gb165) (o := .cells #[.int .i64 ((rd_T41 l0_1 x10_3).f0), .int .i64 ((rd_T41 l0_1 x10_3).f1), .int .i64 ((rd_T41 l0_1 x10_3).f2), .bool ((rd_T41 l0_1 x10_3).f3)] 41 (0, 0)) (by (with_reducible repeat (first | refine blk_drewN ?_ _ | refine blk_drew ?_ | refine blk_alloc ?_ _)); exact BK165.out) hg (Kd.R_ne HO_7.out BK165.out (by decide))); have n3_ := Aside0.mk ((by rw [hw]; exact below_set (HB.out) GB41.out : Below w.heap.size w w54)); clear HO_7; clear BK160; clear BK165; clear HB; have HO_7 := n0_; have BK160 := n1_; have BK165 := n2_; have HB := n3_; clear n0_ n1_ n2_ n3_; clear hg hw hp_))
                                      go_roundg k3
                                      case measure => have := HK1.out; have := HK2.out; have := HK3.out; omega
                                      case rel => exact ⟨(y172), (wrap64 (x10_3 + 1)), (by first | rfl | (simp; done) | (simp [*]; done)), H', ⟨by have := HK1.out; have := HK2.out; have := HK3.out; omega⟩, ⟨by (with_reducible repeat (first | apply Kd.R_alloc | apply Kd.R_drewN | apply Kd.R_drew)); exact HO_7.out⟩, ⟨by (with_reducible repeat (first | refine blk_drewN ?_ _ | refine blk_drew ?_ | refine blk_alloc ?_ _)); exact BK160.out⟩, ⟨by repeat (first | (with_reducible first | exact HB.out | apply below_alloc | apply pw_below_drewN | apply below_drew1 | refine below_set ?_ GE160.out | refine below_set ?_ GE165.out) | exact HB.out)⟩⟩
                                    · replace c40 := Bool.eq_false_iff.mpr c40
                                      subst c40
                                      have H1 : (stolonref11_closed.l2 k3 l2 x7_3 x9_2 (wrap64 (x10_3 + 1)) a0_0 l0_1) = some r := by rw [if_neg (show ¬ (false = true) by decide)] at H; exact H
                                      clear H
                                      have H := H1
                                      clear H1
                                      have H' := Aside0.mk H
                                      clear H
                                      have hcz55_0 : wr.cell? ⟨gb160, 0, none⟩ = some (.int .i64 a0_0) := (blk_cell BK160.out 0).trans rfl
                                      have hcz55_1 : wr.cell? ⟨gb160, 1, none⟩ = some (.slice A0_1 l0_1.length c0_1) := (blk_cell BK160.out 1).trans rfl
                                      have hfz55_0 := blk_frozen BK160.out 0
                                      have hfz55_1 := blk_frozen BK160.out 1
                                      have p164 : 0 ≤ (x10_3 : Int) := of_decide_eq_true (by first | (with_reducible assumption) | assumption)
                                      have q164 : x10_3 < (l0_1.length : Int) := of_decide_eq_true (by first | (with_reducible assumption) | assumption)
                                      obtain ⟨ad164, e164, hx164_0, hx164_1, hx164_2, hx164_3⟩ := at_T41 HR0_1.out x10_3 p164 q164
                                      (try rw [← Nbq15.out] at hx164_3)
                                      (try rw [← Nbq19.out] at hx164_3)
                                      (try rw [← Nbq39.out] at hx164_3)
                                      cases e164
                                      replace hx164_0 := (HB.out.cell (World.block_lt_of_cell? w _ hx164_0)).trans hx164_0
                                      replace hx164_1 := (HB.out.cell (World.block_lt_of_cell? w _ hx164_1)).trans hx164_1
                                      replace hx164_2 := (HB.out.cell (World.block_lt_of_cell? w _ hx164_2)).trans hx164_2
                                      replace hx164_3 := (HB.out.cell (World.block_lt_of_cell? w _ hx164_3)).trans hx164_3
                                      replace p164 := eq_true p164
                                      replace q164 := eq_true q164
                                      go_wp2_with (first | ((with_reducible refine gate_dst (N := 11) rfl ?_); refine box_event ?hg (N := 11) ?hd (cs := #[.int .i64 0, .int .i64 0, .int .i64 0, .bool false]) (t := 41) ?hr ?_; (case hd => rfl); (case hg => rfl); (case hr => first | (go_simp; done) | (go_simp; rfl)); intro gb165 hg w56 hbox hb; have n0_ := Aside0.mk (Kd.R_below (by (with_reducible repeat (first | apply Kd.R_alloc | apply Kd.R_drewN | apply Kd.R_drew)); exact HO_7.out) hb); have n1_ := Aside0.mk (blk_below (g := gb160) (o := .cells #[.int .i64 a0_0, .slice (some ad164) l0_1.length c0_1] 24 (0, 0)) (by (with_reducible repeat (first | refine blk_drewN ?_ _ | refine blk_drew ?_ | refine blk_alloc ?_ _)); exact BK160.out) hb); have n2_ := Aside0.mk (below_step (by repeat (first | (with_reducible first | exact HB.out | apply below_alloc | apply pw_below_drewN | apply below_drew1 | refine below_set ?_ GE160.out) | exact HB.out)) hb); have n3_ := Aside0.mk (hbox); have n4_ := Aside0.mk ((by rw [hg]; exact (below_size (by repeat (first | (with_reducible first | exact HB.out | apply below_alloc | apply pw_below_drewN | apply below_drew1 | refine below_set ?_ GE160.out) | exact HB.out))) : w.heap.size ≤ gb165)); have n5_ := Aside0.mk ((by rw [hg]; exact (below_size (by repeat (first | (with_reducible first | exact HB.out | apply below_alloc | apply pw_below_drewN | apply below_drew1 | refine below_set ?_ GE160.out) | exact HB.out))) : w.heap.size ≤ gb165)); have n6_ := Aside0.mk ((by rw [hg]; exact Nat.ne_of_lt (blk_lt (g := gb160) (o := .cells #[.int .i64 a0_0, .slice (some ad164) l0_1.length c0_1] 24 (0, 0)) (by (with_reducible repeat (first | refine blk_drewN ?_ _ | refine blk_drew ?_ | refine blk_alloc ?_ _)); exact BK160.out)) : gb160 ≠ gb165)); have n7_ := Aside0.mk ((by rw [hg]; exact Nat.ne_of_gt (blk_lt (g := gb160) (o := .cells #[.int .i64 a0_0, .slice (some ad164) l0_1.length c0_1] 24 (0, 0)) (by (with_reducible repeat (first | refine blk_drewN ?_ _ | refine blk_drew ?_ | refine blk_alloc ?_ _)); exact BK160.out)) : gb165 ≠ gb160)); clear HO_7; clear BK160; clear HB; have HO_7 := n0_; have BK160 := n1_; have HB := n2_; have BK165 := n3_; have GW165 := n4_; have GE165 := n5_; have NB160_165 := n6_; have NB165_160 := n7_; clear n0_ n1_ n2_ n3_ n4_ n5_ n6_ n7_; clear hb hbox hg; have hnb57 := NB165_160.out; have hnc57 := NB160_165.out; have hcz58_0 : w56.cell? ⟨gb165, 0, none⟩ = some (.int .i64 0) := (blk_cell BK165.out 0).trans rfl; have hcz58_1 : w56.cell? ⟨gb165, 1, none⟩ = some (.int .i64 0) := (blk_cell BK165.out 1).trans rfl; have hcz58_2 : w56.cell? ⟨gb165, 2, none⟩ = some (.int .i64 0) := (blk_cell BK165.out 2).trans rfl; have hcz58_3 : w56.cell? ⟨gb165, 3, none⟩ = some (.bool false) := (blk_cell BK165.out 3).trans rfl; have hfz58_0 := blk_frozen BK165.out 0; have hfz58_1 := blk_frozen BK165.out 1; have hfz58_2 := blk_frozen BK165.out 2; have hfz58_3 := blk_frozen BK165.out 3; have p166 : 0 ≤ (x10_3 : Int) := of_decide_eq_true (by first | (with_reducible assumption) | assumption); have q166 : x10_3 < (l2.length : Int) := of_decide_eq_true (by first | (with_reducible assumption) | assumption); obtain ⟨ad166, e166, hx166_0⟩ := Kd.at_bool HR2.out x10_3 p166 q166; (try rw [← Nbq15.out] at hx166_0); (try rw [← Nbq19.out] at hx166_0); (try rw [← Nbq39.out] at hx166_0); cases e166; have hn166_0 : ad166.block ≠ gb165 := Nat.ne_of_lt (Nat.lt_of_lt_of_le (by have := World.block_lt_of_cell? _ _ hx166_0; first | rwa [add_block] at this | exact this) GW165.out); have hn166_1 : ad166.block ≠ gb165 := Nat.ne_of_lt (Nat.lt_of_lt_of_le (by have := World.block_lt_of_cell? _ _ hx166_0; first | rwa [add_block] at this | exact this) GW165.out); have hn166_2 : ad166.block ≠ gb165 := Nat.ne_of_lt (Nat.lt_of_lt_of_le (by have := World.block_lt_of_cell? _ _ hx166_0; first | rwa [add_block] at this | exact this) GW165.out); have hn166_3 : ad166.block ≠ gb165 := Nat.ne_of_lt (Nat.lt_of_lt_of_le (by have := World.block_lt_of_cell? _ _ hx166_0; first | rwa [add_block] at this | exact this) GW165.out); replace hx166_0 := (HB.out.cell (World.block_lt_of_cell? w _ hx166_0)).trans hx166_0; replace hx166_0 := (cell_far (p := ⟨gb165, 0, none⟩) (by first | (rw [add_block]; exact hn166_0) | (show (Addr.add _ _).block ≠ _; rw [add_block]; exact hn166_0) | exact hn166_0) (.int .i64 ((rd_T41 l0_1 x10_3).f0))).trans hx166_0; replace hx166_0 := (cell_far (p := ⟨gb165, 1, none⟩) (by first | (rw [add_block]; exact hn166_1) | (show (Addr.add _ _).block ≠ _; rw [add_block]; exact hn166_1) | exact hn166_1) (.int .i64 ((rd_T41 l0_1 x10_3).f1))).trans hx166_0; replace hx166_0 := (cell_far (p := ⟨gb165, 2, none⟩) (by first | (rw [add_block]; exact hn166_2) | (show (Addr.add _ _).block ≠ _; rw [add_block]; exact hn166_2) | exact hn166_2) (.int .i64 ((rd_T41 l0_1 x10_3).f2))).trans hx166_0; replace hx166_0 := (cell_far (p := ⟨gb165, 3, none⟩) (by first | (rw [add_block]; exact hn166_3) | (show (Addr.add _ _).block ≠ _; rw [add_block]; exact hn166_3) | exact hn166_3) (.bool ((rd_T41 l0_1 x10_3).f3))).trans hx166_0; clear hn166_0; clear hn166_1; clear hn166_2; clear hn166_3; replace p166 := eq_true p166; replace q166 := eq_true q166; obtain ⟨Ao59, co59, eo59⟩ := Kd.R_slice HO_7.out; subst eo59; have p167 : 0 ≤ (((rd_T41 l0_1 x10_3).f0) : Int) := of_decide_eq_true (by first | (with_reducible assumption) | assumption); have q167 : ((rd_T41 l0_1 x10_3).f0) < (x7_3.length : Int) := of_decide_eq_true (by first | (with_reducible assumption) | assumption); obtain ⟨ad167, e167, hx167_0⟩ := Kd.at_bool (Kd.R_reads' HO_7.out).2.2 ((rd_T41 l0_1 x10_3).f0) p167 q167; (try rw [← Nbq15.out] at hx167_0); (try rw [← Nbq19.out] at hx167_0); (try rw [← Nbq39.out] at hx167_0); cases e167; have hn167_0 : ad167.block ≠ gb165 := Kd.own_blk (Kd.R_ne HO_7.out BK165.out (by decide)); have hn167_1 : ad167.block ≠ gb165 := Kd.own_blk (Kd.R_ne HO_7.out BK165.out (by decide)); have hn167_2 : ad167.block ≠ gb165 := Kd.own_blk (Kd.R_ne HO_7.out BK165.out (by decide)); have hn167_3 : ad167.block ≠ gb165 := Kd.own_blk (Kd.R_ne HO_7.out BK165.out (by decide)); replace hx167_0 := (cell_far (p := ⟨gb165, 0, none⟩) (by first | (rw [add_block]; exact hn167_0) | (show (Addr.add _ _).block ≠ _; rw [add_block]; exact hn167_0) | exact hn167_0) (.int .i64 ((rd_T41 l0_1 x10_3).f0))).trans hx167_0; replace hx167_0 := (cell_far (p := ⟨gb165, 1, none⟩) (by first | (rw [add_block]; exact hn167_1) | (show (Addr.add _ _).block ≠ _; rw [add_block]; exact hn167_1) | exact hn167_1) (.int .i64 ((rd_T41 l0_1 x10_3).f1))).trans hx167_0; replace hx167_0 := (cell_far (p := ⟨gb165, 2, none⟩) (by first | (rw [add_block]; exact hn167_2) | (show (Addr.add _ _).block ≠ _; rw [add_block]; exact hn167_2) | exact hn167_2) (.int .i64 ((rd_T41 l0_1 x10_3).f2))).trans hx167_0; replace hx167_0 := (cell_far (p := ⟨gb165, 3, none⟩) (by first | (rw [add_block]; exact hn167_3) | (show (Addr.add _ _).block ≠ _; rw [add_block]; exact hn167_3) | exact hn167_3) (.bool ((rd_T41 l0_1 x10_3).f3))).trans hx167_0; clear hn167_0; clear hn167_1; clear hn167_2; clear hn167_3; replace p167 := eq_true p167; replace q167 := eq_true q167; have p170 : 0 ≤ (((rd_T41 l0_1 x10_3).f1) : Int) := of_decide_eq_true (by first | (with_reducible assumption) | assumption); have q170 : ((rd_T41 l0_1 x10_3).f1) < (x7_3.length : Int) := of_decide_eq_true (by first | (with_reducible assumption) | assumption); obtain ⟨ad170, e170, hx170_0⟩ := Kd.at_bool (Kd.R_reads' HO_7.out).2.2 ((rd_T41 l0_1 x10_3).f1) p170 q170; (try rw [← Nbq15.out] at hx170_0); (try rw [← Nbq19.out] at hx170_0); (try rw [← Nbq39.out] at hx170_0); obtain rfl : ad167 = ad170 := (by injection e170); have hn170_0 : ad167.block ≠ gb165 := Kd.own_blk (Kd.R_ne HO_7.out BK165.out (by decide)); have hn170_1 : ad167.block ≠ gb165 := Kd.own_blk (Kd.R_ne HO_7.out BK165.out (by decide)); have hn170_2 : ad167.block ≠ gb165 := Kd.own_blk (Kd.R_ne HO_7.out BK165.out (by decide)); have hn170_3 : ad167.block ≠ gb165 := Kd.own_blk (Kd.R_ne HO_7.out BK165.out (by decide)); replace hx170_0 := (cell_far (p := ⟨gb165, 0, none⟩) (by first | (rw [add_block]; exact hn170_0) | (show (Addr.add _ _).block ≠ _; rw [add_block]; exact hn170_0) | exact hn170_0) (.int .i64 ((rd_T41 l0_1 x10_3).f0))).trans hx170_0; replace hx170_0 := (cell_far (p := ⟨gb165, 1, none⟩) (by first | (rw [add_block]; exact hn170_1) | (show (Addr.add _ _).block ≠ _; rw [add_block]; exact hn170_1) | exact hn170_1) (.int .i64 ((rd_T41 l0_1 x10_3).f1))).trans hx170_0; replace hx170_0 := (cell_far (p := ⟨gb165, 2, none⟩) (by first | (rw [add_block]; exact hn170_2) | (show (Addr.add _ _).block ≠ _; rw [add_block]; exact hn170_2) | exact hn170_2) (.int .i64 ((rd_T41 l0_1 x10_3).f2))).trans hx170_0; replace hx170_0 := (cell_far (p := ⟨gb165, 3, none⟩) (by first | (rw [add_block]; exact hn170_3) | (show (Addr.add _ _).block ≠ _; rw [add_block]; exact hn170_3) | exact hn170_3) (.bool ((rd_T41 l0_1 x10_3).f3))).trans hx170_0; clear hn170_0; clear hn170_1; clear hn170_2; clear hn170_3; replace p170 := eq_true p170; replace q170 := eq_true q170))
                                      go_roundg k3
                                      case measure => have := HK1.out; have := HK2.out; have := HK3.out; omega
                                      case rel => exact ⟨(x7_3), (wrap64 (x10_3 + 1)), (by first | rfl | (simp; done) | (simp [*]; done)), H', ⟨by have := HK1.out; have := HK2.out; have := HK3.out; omega⟩, ⟨by (with_reducible repeat (first | apply Kd.R_alloc | apply Kd.R_drewN | apply Kd.R_drew)); exact Kd.R_mono (Kd.R_far (p := ⟨gb165, 3, none⟩) (Kd.R_far (p := ⟨gb165, 2, none⟩) (Kd.R_far (p := ⟨gb165, 1, none⟩) (Kd.R_far (p := ⟨gb165, 0, none⟩) (Kd.R_types HO_7.out BK165.out (by decide)) (fun _ hk => hk.2) (.int .i64 ((rd_T41 l0_1 x10_3).f0))) (fun _ hk => hk.2) (.int .i64 ((rd_T41 l0_1 x10_3).f1))) (fun _ hk => hk.2) (.int .i64 ((rd_T41 l0_1 x10_3).f2))) (fun _ hk => hk.2) (.bool ((rd_T41 l0_1 x10_3).f3))) (fun _ hk => trivial)⟩, ⟨by (with_reducible repeat (first | refine blk_drewN ?_ _ | refine blk_drew ?_ | refine blk_alloc ?_ _)); refine blk_far ?_ NB160_165.out _; (with_reducible repeat (first | refine blk_drewN ?_ _ | refine blk_drew ?_ | refine blk_alloc ?_ _)); refine blk_far ?_ NB160_165.out _; (with_reducible repeat (first | refine blk_drewN ?_ _ | refine blk_drew ?_ | refine blk_alloc ?_ _)); refine blk_far ?_ NB160_165.out _; (with_reducible repeat (first | refine blk_drewN ?_ _ | refine blk_drew ?_ | refine blk_alloc ?_ _)); refine blk_far ?_ NB160_165.out _; (with_reducible repeat (first | refine blk_drewN ?_ _ | refine blk_drew ?_ | refine blk_alloc ?_ _)); exact BK160.out⟩, ⟨by repeat (first | (with_reducible first | exact HB.out | apply below_alloc | apply pw_below_drewN | apply below_drew1 | refine below_set ?_ GE160.out | refine below_set ?_ GE165.out) | exact HB.out)⟩⟩
                                  · rw [if_neg c38] at H
                                    exact absurd H (by simp)
                                · rw [if_neg c37] at H
                                  exact absurd H (by simp)
                            · rw [if_neg c18] at H
                              exact absurd H (by simp)
                          · rw [if_neg c17] at H
                            exact absurd H (by simp)
                        · replace c16 := Bool.eq_false_iff.mpr c16
                          subst c16
                          have H1 : (stolonref11_closed.l2 k3 l2 x7_3 x9_2 (wrap64 (x10_3 + 1)) a0_0 l0_1) = some r := by rw [if_neg (show ¬ (false = true) by decide)] at H; exact H
                          clear H
                          have H := H1
                          clear H1
                          have H' := Aside0.mk H
                          clear H
                          have hcz60_0 : wr.cell? ⟨gb160, 0, none⟩ = some (.int .i64 a0_0) := (blk_cell BK160.out 0).trans rfl
                          have hcz60_1 : wr.cell? ⟨gb160, 1, none⟩ = some (.slice A0_1 l0_1.length c0_1) := (blk_cell BK160.out 1).trans rfl
                          have hfz60_0 := blk_frozen BK160.out 0
                          have hfz60_1 := blk_frozen BK160.out 1
                          have p164 : 0 ≤ (x10_3 : Int) := of_decide_eq_true (by first | (with_reducible assumption) | assumption)
                          have q164 : x10_3 < (l0_1.length : Int) := of_decide_eq_true (by first | (with_reducible assumption) | assumption)
                          obtain ⟨ad164, e164, hx164_0, hx164_1, hx164_2, hx164_3⟩ := at_T41 HR0_1.out x10_3 p164 q164
                          (try rw [← Nbq15.out] at hx164_3)
                          cases e164
                          replace hx164_0 := (HB.out.cell (World.block_lt_of_cell? w _ hx164_0)).trans hx164_0
                          replace hx164_1 := (HB.out.cell (World.block_lt_of_cell? w _ hx164_1)).trans hx164_1
                          replace hx164_2 := (HB.out.cell (World.block_lt_of_cell? w _ hx164_2)).trans hx164_2
                          replace hx164_3 := (HB.out.cell (World.block_lt_of_cell? w _ hx164_3)).trans hx164_3
                          replace p164 := eq_true p164
                          replace q164 := eq_true q164
                          go_wp2_with (first | ((with_reducible refine gate_dst (N := 11) rfl ?_); refine box_event ?hg (N := 11) ?hd (cs := #[.int .i64 0, .int .i64 0, .int .i64 0, .bool false]) (t := 41) ?hr ?_; (case hd => rfl); (case hg => rfl); (case hr => first | (go_simp; done) | (go_simp; rfl)); intro gb165 hg w61 hbox hb; have n0_ := Aside0.mk (Kd.R_below (by (with_reducible repeat (first | apply Kd.R_alloc | apply Kd.R_drewN | apply Kd.R_drew)); exact HO_7.out) hb); have n1_ := Aside0.mk (blk_below (g := gb160) (o := .cells #[.int .i64 a0_0, .slice (some ad164) l0_1.length c0_1] 24 (0, 0)) (by (with_reducible repeat (first | refine blk_drewN ?_ _ | refine blk_drew ?_ | refine blk_alloc ?_ _)); exact BK160.out) hb); have n2_ := Aside0.mk (below_step (by repeat (first | (with_reducible first | exact HB.out | apply below_alloc | apply pw_below_drewN | apply below_drew1 | refine below_set ?_ GE160.out) | exact HB.out)) hb); have n3_ := Aside0.mk (hbox); have n4_ := Aside0.mk ((by rw [hg]; exact (below_size (by repeat (first | (with_reducible first | exact HB.out | apply below_alloc | apply pw_below_drewN | apply below_drew1 | refine below_set ?_ GE160.out) | exact HB.out))) : w.heap.size ≤ gb165)); have n5_ := Aside0.mk ((by rw [hg]; exact (below_size (by repeat (first | (with_reducible first | exact HB.out | apply below_alloc | apply pw_below_drewN | apply below_drew1 | refine below_set ?_ GE160.out) | exact HB.out))) : w.heap.size ≤ gb165)); have n6_ := Aside0.mk ((by rw [hg]; exact Nat.ne_of_lt (blk_lt (g := gb160) (o := .cells #[.int .i64 a0_0, .slice (some ad164) l0_1.length c0_1] 24 (0, 0)) (by (with_reducible repeat (first | refine blk_drewN ?_ _ | refine blk_drew ?_ | refine blk_alloc ?_ _)); exact BK160.out)) : gb160 ≠ gb165)); have n7_ := Aside0.mk ((by rw [hg]; exact Nat.ne_of_gt (blk_lt (g := gb160) (o := .cells #[.int .i64 a0_0, .slice (some ad164) l0_1.length c0_1] 24 (0, 0)) (by (with_reducible repeat (first | refine blk_drewN ?_ _ | refine blk_drew ?_ | refine blk_alloc ?_ _)); exact BK160.out)) : gb165 ≠ gb160)); clear HO_7; clear BK160; clear HB; have HO_7 := n0_; have BK160 := n1_; have HB := n2_; have BK165 := n3_; have GW165 := n4_; have GE165 := n5_; have NB160_165 := n6_; have NB165_160 := n7_; clear n0_ n1_ n2_ n3_ n4_ n5_ n6_ n7_; clear hb hbox hg; have hnb62 := NB165_160.out; have hnc62 := NB160_165.out; have hcz63_0 : w61.cell? ⟨gb165, 0, none⟩ = some (.int .i64 0) := (blk_cell BK165.out 0).trans rfl; have hcz63_1 : w61.cell? ⟨gb165, 1, none⟩ = some (.int .i64 0) := (blk_cell BK165.out 1).trans rfl; have hcz63_2 : w61.cell? ⟨gb165, 2, none⟩ = some (.int .i64 0) := (blk_cell BK165.out 2).trans rfl; have hcz63_3 : w61.cell? ⟨gb165, 3, none⟩ = some (.bool false) := (blk_cell BK165.out 3).trans rfl; have hfz63_0 := blk_frozen BK165.out 0; have hfz63_1 := blk_frozen BK165.out 1; have hfz63_2 := blk_frozen BK165.out 2; have hfz63_3 := blk_frozen BK165.out 3; have p166 : 0 ≤ (x10_3 : Int) := of_decide_eq_true (by first | (with_reducible assumption) | assumption); have q166 : x10_3 < (l2.length : Int) := of_decide_eq_true (by first | (with_reducible assumption) | assumption); obtain ⟨ad166, e166, hx166_0⟩ := Kd.at_bool HR2.out x10_3 p166 q166; (try rw [← Nbq15.out] at hx166_0); cases e166; have hn166_0 : ad166.block ≠ gb165 := Nat.ne_of_lt (Nat.lt_of_lt_of_le (by have := World.block_lt_of_cell? _ _ hx166_0; first | rwa [add_block] at this | exact this) GW165.out); have hn166_1 : ad166.block ≠ gb165 := Nat.ne_of_lt (Nat.lt_of_lt_of_le (by have := World.block_lt_of_cell? _ _ hx166_0; first | rwa [add_block] at this | exact this) GW165.out); have hn166_2 : ad166.block ≠ gb165 := Nat.ne_of_lt (Nat.lt_of_lt_of_le (by have := World.block_lt_of_cell? _ _ hx166_0; first | rwa [add_block] at this | exact this) GW165.out); have hn166_3 : ad166.block ≠ gb165 := Nat.ne_of_lt (Nat.lt_of_lt_of_le (by have := World.block_lt_of_cell? _ _ hx166_0; first | rwa [add_block] at this | exact this) GW165.out); replace hx166_0 := (HB.out.cell (World.block_lt_of_cell? w _ hx166_0)).trans hx166_0; replace hx166_0 := (cell_far (p := ⟨gb165, 0, none⟩) (by first | (rw [add_block]; exact hn166_0) | (show (Addr.add _ _).block ≠ _; rw [add_block]; exact hn166_0) | exact hn166_0) (.int .i64 ((rd_T41 l0_1 x10_3).f0))).trans hx166_0; replace hx166_0 := (cell_far (p := ⟨gb165, 1, none⟩) (by first | (rw [add_block]; exact hn166_1) | (show (Addr.add _ _).block ≠ _; rw [add_block]; exact hn166_1) | exact hn166_1) (.int .i64 ((rd_T41 l0_1 x10_3).f1))).trans hx166_0; replace hx166_0 := (cell_far (p := ⟨gb165, 2, none⟩) (by first | (rw [add_block]; exact hn166_2) | (show (Addr.add _ _).block ≠ _; rw [add_block]; exact hn166_2) | exact hn166_2) (.int .i64 ((rd_T41 l0_1 x10_3).f2))).trans hx166_0; replace hx166_0 := (cell_far (p := ⟨gb165, 3, none⟩) (by first | (rw [add_block]; exact hn166_3) | (show (Addr.add _ _).block ≠ _; rw [add_block]; exact hn166_3) | exact hn166_3) (.bool ((rd_T41 l0_1 x10_3).f3))).trans hx166_0; clear hn166_0; clear hn166_1; clear hn166_2; clear hn166_3; replace p166 := eq_true p166; replace q166 := eq_true q166))
                          go_roundg k3
                          case measure => have := HK1.out; have := HK2.out; have := HK3.out; omega
                          case rel => exact ⟨(x7_3), (wrap64 (x10_3 + 1)), (by first | rfl | (simp; done) | (simp [*]; done)), H', ⟨by have := HK1.out; have := HK2.out; have := HK3.out; omega⟩, ⟨by (with_reducible repeat (first | apply Kd.R_alloc | apply Kd.R_drewN | apply Kd.R_drew)); exact Kd.R_mono (Kd.R_far (p := ⟨gb165, 3, none⟩) (Kd.R_far (p := ⟨gb165, 2, none⟩) (Kd.R_far (p := ⟨gb165, 1, none⟩) (Kd.R_far (p := ⟨gb165, 0, none⟩) (Kd.R_types HO_7.out BK165.out (by decide)) (fun _ hk => hk.2) (.int .i64 ((rd_T41 l0_1 x10_3).f0))) (fun _ hk => hk.2) (.int .i64 ((rd_T41 l0_1 x10_3).f1))) (fun _ hk => hk.2) (.int .i64 ((rd_T41 l0_1 x10_3).f2))) (fun _ hk => hk.2) (.bool ((rd_T41 l0_1 x10_3).f3))) (fun _ hk => trivial)⟩, ⟨by (with_reducible repeat (first | refine blk_drewN ?_ _ | refine blk_drew ?_ | refine blk_alloc ?_ _)); refine blk_far ?_ NB160_165.out _; (with_reducible repeat (first | refine blk_drewN ?_ _ | refine blk_drew ?_ | refine blk_alloc ?_ _)); refine blk_far ?_ NB160_165.out _; (with_reducible repeat (first | refine blk_drewN ?_ _ | refine blk_drew ?_ | refine blk_alloc ?_ _)); refine blk_far ?_ NB160_165.out _; (with_reducible repeat (first | refine blk_drewN ?_ _ | refine blk_drew ?_ | refine blk_alloc ?_ _)); refine blk_far ?_ NB160_165.out _; (with_reducible repeat (first | refine blk_drewN ?_ _ | refine blk_drew ?_ | refine blk_alloc ?_ _)); exact BK160.out⟩, ⟨by repeat (first | (with_reducible first | exact HB.out | apply below_alloc | apply pw_below_drewN | apply below_drew1 | refine below_set ?_ GE160.out | refine below_set ?_ GE165.out) | exact HB.out)⟩⟩
                      · rw [if_neg c14] at H
                        exact absurd H (by simp)
                    · rw [if_neg c13] at H
                      exact absurd H (by simp)
                  · rw [if_neg c12] at H
                    have c12b0 : decide (x10_3 < (l0_1.length : Int)) = false := decide_eq_false c12
                    clear c12
                    have H' := Aside0.mk H
                    clear H
                    have hcz64_0 : wr.cell? ⟨gb160, 0, none⟩ = some (.int .i64 a0_0) := (blk_cell BK160.out 0).trans rfl
                    have hcz64_1 : wr.cell? ⟨gb160, 1, none⟩ = some (.slice A0_1 l0_1.length c0_1) := (blk_cell BK160.out 1).trans rfl
                    have hfz64_0 := blk_frozen BK160.out 0
                    have hfz64_1 := blk_frozen BK160.out 1
                    go_wp2
                    go_roundg k3
                    case measure => have := HK1.out; have := HK2.out; have := HK3.out; omega
                    case rel => exact ⟨(x7_3), (wrap64 (x9_2 + 1)), (by first | rfl | (simp; done) | (simp [*]; done)), H', ⟨by have := HK1.out; have := HK2.out; have := HK3.out; omega⟩, ⟨by (with_reducible repeat (first | apply Kd.R_alloc | apply Kd.R_drewN | apply Kd.R_drew)); exact HO_7.out⟩, ⟨by (with_reducible repeat (first | refine blk_drewN ?_ _ | refine blk_drew ?_ | refine blk_alloc ?_ _)); exact BK160.out⟩, ⟨by repeat (first | (with_reducible first | exact HB.out | apply below_alloc | apply pw_below_drewN | apply below_drew1 | refine below_set ?_ GE160.out) | exact HB.out)⟩⟩
            · rw [if_neg c10] at H
              have c10b0 : decide (x9_2 < a0_0) = false := decide_eq_false c10
              clear c10
              have H' := Aside0.mk H
              clear H
              have hcz65_0 : wr.cell? ⟨gb160, 0, none⟩ = some (.int .i64 a0_0) := (blk_cell BK160.out 0).trans rfl
              have hcz65_1 : wr.cell? ⟨gb160, 1, none⟩ = some (.slice A0_1 l0_1.length c0_1) := (blk_cell BK160.out 1).trans rfl
              have hfz65_0 := blk_frozen BK160.out 0
              have hfz65_1 := blk_frozen BK160.out 1
              go_wp2
              go_loopg [12, 13] k2 (fun kq v12 v13 w' => ∃ (x12_3 : List Int) (x13_3 : Int), v13 = .int .i64 x13_3 ∧ Aside0 (stolonref11_closed.l3 kq x7_2 x12_3 x13_3 a0_0 l0_1 = some r) ∧ Aside0 (kq ≤ k2) ∧ Aside0 (Kd.R Kd.bool 4 w' w.heap.size (fun _ => True) u7 x7_2) ∧ Aside0 (Kd.R (Kd.int .i64) 3 w' w.heap.size (fun _ => True) v12 x12_3) ∧ Aside0 (w'.heap[gb160]? = some (.cells #[.int .i64 a0_0, (.slice A0_1 l0_1.length c0_1)] 24 (0, 0))) ∧ Aside0 (Below w.heap.size w w'))
              case atStart => exact ⟨(([] : List Int)), (0), (by first | rfl | (simp; done) | (simp [*]; done)), H', ⟨Nat.le_refl _⟩, ⟨by (with_reducible repeat (first | apply Kd.R_alloc | apply Kd.R_drewN | apply Kd.R_drew)); exact HO_7.out⟩, ⟨by first | exact Kd.R_nil _ _ _ _ _ | exact Kd.N_nil _ _ _ _ _ | exact Kd.V_nil _ _ _ _ _ | exact Kd.Q_nil _ _ _ _ _ | exact Kd.S_nil _ _ _ _ _⟩, ⟨by (with_reducible repeat (first | refine blk_drewN ?_ _ | refine blk_drew ?_ | refine blk_alloc ?_ _)); exact BK160.out⟩, ⟨by repeat (first | (with_reducible first | exact HB.out | apply below_alloc | apply pw_below_drewN | apply below_drew1 | refine below_set ?_ GE160.out) | exact HB.out)⟩⟩
              case round =>
                clear H'
                try clear c1
                try clear p1
                try clear q1
                try clear hx1
                try clear c2
                try clear p2
                try clear q2
                try clear hx2
                try clear c3
                try clear q3
                try clear c4
                try clear p4
                try clear q4
                try clear hx4
                try clear hf4
                try clear c5
                try clear c5b0
                try clear c6
                try clear p6
                try clear c10
                try clear c10b0
                try clear c12
                try clear c12b0
                try clear c13
                try clear c13b0
                try clear c14
                try clear c14b0
                try clear q15
                try clear c16
                try clear p16
                try clear q16
                try clear hx16
                try clear c17
                try clear c17b0
                try clear p17
                try clear q17
                try clear hx17
                try clear c18
                try clear c18b0
                try clear q19
                try clear c20
                try clear p21
                try clear q21
                try clear hx21
                try clear hf21
                try clear c22
                try clear c22b0
                try clear c23
                try clear c23b0
                try clear p24
                try clear q24
                try clear hx24
                try clear hf24
                try clear c27
                try clear c29
                try clear c37
                try clear c37b0
                try clear c38
                try clear c38b0
                try clear q39
                try clear c40
                try clear p41
                try clear q41
                try clear hx41
                try clear hf41
                try clear p42
                try clear q42
                try clear hx42
                try clear hf42
                try clear c45
                try clear c57
                try clear c62
                try clear p64
                try clear hcz11_0
                try clear hcz11_1
                try clear hcz25_0
                try clear hcz25_1
                try clear hcz28_0
                try clear hcz28_1
                try clear hcz28_2
                try clear hcz28_3
                try clear hcz30_0
                try clear hcz30_1
                try clear hcz30_2
                try clear hcz30_3
                try clear hcz34_0
                try clear hcz34_1
                try clear hcz34_2
                try clear hcz34_3
                try clear hcz43_0
                try clear hcz43_1
                try clear hcz46_0
                try clear hcz46_1
                try clear hcz46_2
                try clear hcz46_3
                try clear hcz48_0
                try clear hcz48_1
                try clear hcz48_2
                try clear hcz48_3
                try clear hcz52_0
                try clear hcz52_1
                try clear hcz52_2
                try clear hcz52_3
                try clear hcz55_0
                try clear hcz55_1
                try clear hcz58_0
                try clear hcz58_1
                try clear hcz58_2
                try clear hcz58_3
                try clear hcz60_0
                try clear hcz60_1
                try clear hcz63_0
                try clear hcz63_1
                try clear hcz63_2
                try clear hcz63_3
                try clear hcz64_0
                try clear hcz64_1
                try clear hcz65_0
                try clear hcz65_1
                try clear hcz7_0
                try clear hcz7_1
                try clear hcz9_0
                try clear hcz9_1
                try clear hfz11_0
                try clear hfz11_1
                try clear hfz25_0
                try clear hfz25_1
                try clear hfz28_0
                try clear hfz28_1
                try clear hfz28_2
                try clear hfz28_3
                try clear hfz30_0
                try clear hfz30_1
                try clear hfz30_2
                try clear hfz30_3
                try clear hfz34_0
                try clear hfz34_1
                try clear hfz34_2
                try clear hfz34_3
                try clear hfz43_0
                try clear hfz43_1
                try clear hfz46_0
                try clear hfz46_1
                try clear hfz46_2
                try clear hfz46_3
                try clear hfz48_0
                try clear hfz48_1
                try clear hfz48_2
                try clear hfz48_3
                try clear hfz52_0
                try clear hfz52_1
                try clear hfz52_2
                try clear hfz52_3
                try clear hfz55_0
                try clear hfz55_1
                try clear hfz58_0
                try clear hfz58_1
                try clear hfz58_2
                try clear hfz58_3
                try clear hfz60_0
                try clear hfz60_1
                try clear hfz63_0
                try clear hfz63_1
                try clear hfz63_2
                try clear hfz63_3
                try clear hfz64_0
                try clear hfz64_1
                try clear hfz65_0
                try clear hfz65_1
                try clear hfz7_0
                try clear hfz7_1
                try clear hfz9_0
                try clear hfz9_1
                try clear hx164_0
                try clear hx164_1
                try clear hx164_2
                try clear hx164_3
                try clear hx166_0
                try clear hx167_0
                try clear hx170_0
                try clear hx21_0
                try clear hx24_0
                try clear hx41_0
                try clear hx42_0
                try clear p164
                try clear p166
                try clear p167
                try clear p170
                try clear p2
                try clear p21
                try clear p24
                try clear p41
                try clear p42
                try clear p6
                try clear q164
                try clear q166
                try clear q167
                try clear q170
                try clear q21
                try clear q24
                try clear q41
                try clear q42
                obtain ⟨x12_3, x13_3, rfl, HA, HK3, HO_7, HO_12, BK160, HB⟩ := hrel
                cases gk with
                | zero => exact absurd HA.out (by simp [stolonref11_closed.l3])
                | succ k3 =>
                  have H := HA.out
                  clear HA
                  simp only [stolonref11_closed.l3] at H
                  by_cases c66 : x13_3 < a0_0
                  · rw [if_pos c66] at H
                    have c66b0 : decide (x13_3 < a0_0) = true := decide_eq_true c66
                    clear c66
                    by_cases c67 : 0 ≤ x13_3
                    · rw [if_pos c67] at H
                      have c67b0 : decide (0 ≤ x13_3) = true := decide_eq_true c67
                      clear c67
                      by_cases c68 : x13_3 < (x7_2.length : Int)
                      · rw [if_pos c68] at H
                        have c68b0 : decide (x13_3 < (x7_2.length : Int)) = true := decide_eq_true c68
                        clear c68
                        obtain ⟨bq69, hbq69⟩ : ∃ b_ : Bool, b_ = (rdOf false x7_2 x13_3) := ⟨_, rfl⟩
                        replace H : (if bq69 = true then (if x12_3.length < 17592186044416 then (stolonref11_closed.l3 k3 x7_2 (x12_3 ++ [x13_3]) (wrap64 (x13_3 + 1)) a0_0 l0_1) else (none)) else (stolonref11_closed.l3 k3 x7_2 x12_3 (wrap64 (x13_3 + 1)) a0_0 l0_1)) = some r := by rw [← hbq69] at H; exact H
                        have Nbq69 := Aside0.mk hbq69
                        clear hbq69
                        by_cases c70 : bq69 = true
                        · subst c70
                          have H1 : (if x12_3.length < 17592186044416 then (stolonref11_closed.l3 k3 x7_2 (x12_3 ++ [x13_3]) (wrap64 (x13_3 + 1)) a0_0 l0_1) else (none)) = some r := by rw [if_pos rfl] at H; exact H
                          clear H
                          have H := H1
                          clear H1
                          by_cases c71 : x12_3.length < 17592186044416
                          · rw [if_pos c71] at H
                            have LMc71 := Aside0.mk c71
                            clear c71
                            obtain ⟨y174, hy174⟩ : ∃ y_ : List Int, y_ = (x12_3 ++ [x13_3]) := ⟨_, rfl⟩
                            replace H : (stolonref11_closed.l3 k3 x7_2 y174 (wrap64 (x13_3 + 1)) a0_0 l0_1) = some r := by first | (rw [hy174]; with_reducible exact H) | (have H2_ := (Option.bind_some _ _).symm.trans H; rw [hy174]; with_reducible exact H2_) | (have H2_ := (Option.bind_some _ _).symm.trans H; with_reducible exact H2_) | with_reducible exact H | (rw [hy174]; exact H) | exact H
                            have Ny174 := Aside0.mk hy174
                            clear hy174
                            have H' := Aside0.mk H
                            clear H
                            have hcz72_0 : wr.cell? ⟨gb160, 0, none⟩ = some (.int .i64 a0_0) := (blk_cell BK160.out 0).trans rfl
                            have hcz72_1 : wr.cell? ⟨gb160, 1, none⟩ = some (.slice A0_1 l0_1.length c0_1) := (blk_cell BK160.out 1).trans rfl
                            have hfz72_0 := blk_frozen BK160.out 0
                            have hfz72_1 := blk_frozen BK160.out 1
                            obtain ⟨Ao73, co73, eo73⟩ := Kd.R_slice HO_7.out
                            subst eo73
                            have p173 : 0 ≤ (x13_3 : Int) := of_decide_eq_true (by first | (with_reducible assumption) | assumption)
                            have q173 : x13_3 < (x7_2.length : Int) := of_decide_eq_true (by first | (with_reducible assumption) | assumption)
                            obtain ⟨ad173, e173, hx173_0⟩ := Kd.at_bool (Kd.R_reads' HO_7.out).2.2 x13_3 p173 q173
                            (try rw [← Nbq69.out] at hx173_0)
                            cases e173
                            replace p173 := eq_true p173
                            replace q173 := eq_true q173
                            go_wp2_with (first | ((with_reducible refine gate_builtin (b := .append) (xs := #[.tmp 80, .tmp 82]) rfl ?_); at_builtin; refine Kd.R_append (Kd.int .i64) (w0 := w) w.heap.size rfl (.tmp 80) (.tmp 82) 25 3 (.int .i64 0) 8 rfl Try.underlying25 info3 rfl (by decide) (by omega) u12 x12_3 x13_3 [.int .i64 x13_3] (fun _ => True) (fun _ => False) rfl rfl ?aP (fun _ hk => hk.elim) ?aF ?aO ?aB ?aS ?aL ?_; (case aP => exact rfl); (case aB => exact (by repeat (first | (with_reducible first | exact HB.out | apply below_alloc | apply pw_below_drewN | apply below_drew1 | refine below_set ?_ GE160.out) | exact HB.out))); (case aF => exact (fun _ _ => trivial)); (case aO => exact (by (with_reducible repeat (first | apply Kd.R_alloc | apply Kd.R_drewN | apply Kd.R_drew)); exact HO_12.out)); (case aS => exact (below_size (by repeat (first | (with_reducible first | exact HB.out | apply below_alloc | apply pw_below_drewN | apply below_drew1 | refine below_set ?_ GE160.out) | exact HB.out)))); (case aL => have := LMc71.out; omega); intro v175 w74 ho hb hg hat; rw [← Ny174.out] at ho; have n0_ := Aside0.mk (Kd.R_over' (by (with_reducible repeat (first | apply Kd.R_alloc | apply Kd.R_drewN | apply Kd.R_drew)); exact HO_7.out) (Kd.R_typed (by (with_reducible repeat (first | apply Kd.R_alloc | apply Kd.R_drewN | apply Kd.R_drew)); exact HO_12.out)) (by decide) hg); have n1_ := Aside0.mk (blk_grown (g := gb160) (o := .cells #[.int .i64 a0_0, .slice A0_1 l0_1.length c0_1] 24 (0, 0)) (by (with_reducible repeat (first | refine blk_drewN ?_ _ | refine blk_drew ?_ | refine blk_alloc ?_ _)); exact BK160.out) hg (Kd.R_ne HO_12.out BK160.out (by decide))); have n2_ := Aside0.mk (hb); have n3_ := Aside0.mk (ho); clear HO_7; clear BK160; clear HB; clear HO_12; have HO_7 := n0_; have BK160 := n1_; have HB := n2_; have HO176 := n3_; clear n0_ n1_ n2_ n3_; clear ho hb hg hat))
                            go_roundg k3
                            case measure => have := HK1.out; have := HK2.out; have := HK3.out; omega
                            case rel => exact ⟨(y174), (wrap64 (x13_3 + 1)), (by first | rfl | (simp; done) | (simp [*]; done)), H', ⟨by have := HK1.out; have := HK2.out; have := HK3.out; omega⟩, ⟨by (with_reducible repeat (first | apply Kd.R_alloc | apply Kd.R_drewN | apply Kd.R_drew)); exact HO_7.out⟩, ⟨by (with_reducible repeat (first | apply Kd.R_alloc | apply Kd.R_drewN | apply Kd.R_drew)); exact HO176.out⟩, ⟨by (with_reducible repeat (first | refine blk_drewN ?_ _ | refine blk_drew ?_ | refine blk_alloc ?_ _)); exact BK160.out⟩, ⟨by repeat (first | (with_reducible first | exact HB.out | apply below_alloc | apply pw_below_drewN | apply below_drew1 | refine below_set ?_ GE160.out) | exact HB.out)⟩⟩
                          · rw [if_neg c71] at H
                            exact absurd H (by simp)
                        · replace c70 := Bool.eq_false_iff.mpr c70
                          subst c70
                          have H1 : (stolonref11_closed.l3 k3 x7_2 x12_3 (wrap64 (x13_3 + 1)) a0_0 l0_1) = some r := by rw [if_neg (show ¬ (false = true) by decide)] at H; exact H
                          clear H
                          have H := H1
                          clear H1
                          have H' := Aside0.mk H
                          clear H
                          have hcz75_0 : wr.cell? ⟨gb160, 0, none⟩ = some (.int .i64 a0_0) := (blk_cell BK160.out 0).trans rfl
                          have hcz75_1 : wr.cell? ⟨gb160, 1, none⟩ = some (.slice A0_1 l0_1.length c0_1) := (blk_cell BK160.out 1).trans rfl
                          have hfz75_0 := blk_frozen BK160.out 0
                          have hfz75_1 := blk_frozen BK160.out 1
                          obtain ⟨Ao76, co76, eo76⟩ := Kd.R_slice HO_7.out
                          subst eo76
                          have p173 : 0 ≤ (x13_3 : Int) := of_decide_eq_true (by first | (with_reducible assumption) | assumption)
                          have q173 : x13_3 < (x7_2.length : Int) := of_decide_eq_true (by first | (with_reducible assumption) | assumption)
                          obtain ⟨ad173, e173, hx173_0⟩ := Kd.at_bool (Kd.R_reads' HO_7.out).2.2 x13_3 p173 q173
                          (try rw [← Nbq69.out] at hx173_0)
                          cases e173
                          replace p173 := eq_true p173
                          replace q173 := eq_true q173
                          go_wp2
                          go_roundg k3
                          case measure => have := HK1.out; have := HK2.out; have := HK3.out; omega
                          case rel => exact ⟨(x12_3), (wrap64 (x13_3 + 1)), (by first | rfl | (simp; done) | (simp [*]; done)), H', ⟨by have := HK1.out; have := HK2.out; have := HK3.out; omega⟩, ⟨by (with_reducible repeat (first | apply Kd.R_alloc | apply Kd.R_drewN | apply Kd.R_drew)); exact HO_7.out⟩, ⟨by (with_reducible repeat (first | apply Kd.R_alloc | apply Kd.R_drewN | apply Kd.R_drew)); exact HO_12.out⟩, ⟨by (with_reducible repeat (first | refine blk_drewN ?_ _ | refine blk_drew ?_ | refine blk_alloc ?_ _)); exact BK160.out⟩, ⟨by repeat (first | (with_reducible first | exact HB.out | apply below_alloc | apply pw_below_drewN | apply below_drew1 | refine below_set ?_ GE160.out) | exact HB.out)⟩⟩
                      · rw [if_neg c68] at H
                        exact absurd H (by simp)
                    · rw [if_neg c67] at H
                      exact absurd H (by simp)
                  · rw [if_neg c66] at H
                    have c66b0 : decide (x13_3 < a0_0) = false := decide_eq_false c66
                    clear c66
                    obtain rfl := Option.some.inj H
                    have hcz77_0 : wr.cell? ⟨gb160, 0, none⟩ = some (.int .i64 a0_0) := (blk_cell BK160.out 0).trans rfl
                    have hcz77_1 : wr.cell? ⟨gb160, 1, none⟩ = some (.slice A0_1 l0_1.length c0_1) := (blk_cell BK160.out 1).trans rfl
                    have hfz77_0 := blk_frozen BK160.out 0
                    have hfz77_1 := blk_frozen BK160.out 1
                    go_wp2
                    go_ret
                    exact ⟨_, by first | rfl | (simp [errW_none, errW_some] <;> rfl) | (simp [*, errW_none, errW_some] <;> rfl), by (with_reducible repeat (first | apply Kd.R_alloc | apply Kd.R_drewN | apply Kd.R_drew)); exact HO_12.out, by repeat (first | (with_reducible first | exact HB.out | apply below_alloc | apply pw_below_drewN | apply below_drew1 | refine below_set ?_ GE160.out) | exact HB.out)⟩

end Go.Proofs.Yticjabdkjjbegaa.P

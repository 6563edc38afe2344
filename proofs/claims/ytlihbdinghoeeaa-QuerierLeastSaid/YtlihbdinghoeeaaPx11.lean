/- For each Go function a Lean function, and the proof that a call comes to what it tells: made by program out of the translation (the kit's print, with texts by hand put in). No condition. -/
import Derived.Test.YtlihbdinghoeeaaPx0
namespace Go.Proofs.Ytlihbdinghoeeaa.P
open Go.RowKit Go.Proofs.YtlihbdinghoeeaaW.PrintWords Go.Proofs.YtlihbdinghoeeaaW.PrintLast Go.Proofs.YtlihbdinghoeeaaW.PrintMore
attribute [local go_sem] max2_int min2_int max_two min_two max_three min_three max_four min_four   -- for this text's walks alone
set_option linter.unusedVariables false
set_option linter.unusedSimpArgs false

/-! ### stolonref10_Right: function 15 -/
def stolonref10_Right.j0 : Nat → Bool → Int → Int → Int → Int → Int → Option (Bool)
  | 0, _, _, _, _, _, _ => none
  | k + 1, x25, x139000, x139001, x139002, x139003, x139004 => if x25 = true then (some false) else (if x139001 = 0 then (some (x139002 == 0)) else (if x139001 < x139000 then (if x139002 ≥ 1 then (some (decide (x139002 ≤ 1000000))) else (some false)) else (some false)))
def stolonref10_Right.f (k : Nat) (a0_0 : Int) (a0_1 : Int) (a0_2 : Int) (a0_3 : Int) (a0_4 : Int) : Option (Bool) := if a0_0 = 0 then (stolonref10_Right.j0 k true a0_0 a0_1 a0_2 a0_3 a0_4) else (if a0_3 < 0 then (stolonref10_Right.j0 k true a0_0 a0_1 a0_2 a0_3 a0_4) else (if a0_3 > 1000000 then (stolonref10_Right.j0 k true a0_0 a0_1 a0_2 a0_3 a0_4) else (if a0_4 < 0 then (stolonref10_Right.j0 k true a0_0 a0_1 a0_2 a0_3 a0_4) else (stolonref10_Right.j0 k (decide (a0_4 > 100)) a0_0 a0_1 a0_2 a0_3 a0_4))))
theorem stolonref10_Right.mono_l : ∀ k, (∀ y0 y1 y2 y3 y4 y5, LeO (stolonref10_Right.j0 k y0 y1 y2 y3 y4 y5) (stolonref10_Right.j0 (k + 1) y0 y1 y2 y3 y4 y5))
  | 0 => fun _ _ _ _ _ _ r h => by simp [stolonref10_Right.j0] at h
  | k + 1 => by
    have ih0 := stolonref10_Right.mono_l k
    · intro y0 y1 y2 y3 y4 y5
      unfold stolonref10_Right.j0
      repeat' first
      | (with_reducible exact ih0 _ _ _ _ _ _)
      | (with_reducible exact LeO.refl _)
      | (with_reducible exact LeO.none _)
      | (with_reducible refine LeO.ite ?_ ?_)
      | (with_reducible refine LeO.bind ?_ (fun _ => ?_))
      | exact ih0 _ _ _ _ _ _
      | exact LeO.none _
      | refine LeO.ite ?_ ?_
      | refine LeO.bind ?_ (fun _ => ?_)
theorem stolonref10_Right.mono : ∀ a0 a1 a2 a3 a4 k, LeO (stolonref10_Right.f k a0 a1 a2 a3 a4) (stolonref10_Right.f (k + 1) a0 a1 a2 a3 a4) := by
  intro a0 a1 a2 a3 a4 k
  have ih0 := stolonref10_Right.mono_l k
  unfold stolonref10_Right.f
  repeat' first
      | (with_reducible exact ih0 _ _ _ _ _ _)
      | (with_reducible exact LeO.refl _)
      | (with_reducible exact LeO.none _)
      | (with_reducible refine LeO.ite ?_ ?_)
      | (with_reducible refine LeO.bind ?_ (fun _ => ?_))
      | exact ih0 _ _ _ _ _ _
      | exact LeO.none _
      | refine LeO.ite ?_ ?_
      | refine LeO.bind ?_ (fun _ => ?_)
set_option maxHeartbeats 8000000 in
set_option maxRecDepth 100000 in
theorem stolonref10_Right.calls (k : Nat) (a0_0 : Int) (a0_1 : Int) (a0_2 : Int) (a0_3 : Int) (a0_4 : Int) (r : Bool) (w : World) (h : stolonref10_Right.f k a0_0 a0_1 a0_2 a0_3 a0_4 = some r) :
    Calls Try.prog 15 #[.agg #[.int .u32 a0_0, .int .u32 a0_1, .int .i64 a0_2, .int .i64 a0_3, .int .i64 a0_4]] w fun e w' => e = .returned (.bool r) ∧ Below w.heap.size w w' := by
  have hu27 := Try.underlying27
  have HB := Aside0.mk (Below.refl w.heap.size w)
  have H : (if a0_0 = 0 then (stolonref10_Right.j0 k true a0_0 a0_1 a0_2 a0_3 a0_4) else (if a0_3 < 0 then (stolonref10_Right.j0 k true a0_0 a0_1 a0_2 a0_3 a0_4) else (if a0_3 > 1000000 then (stolonref10_Right.j0 k true a0_0 a0_1 a0_2 a0_3 a0_4) else (if a0_4 < 0 then (stolonref10_Right.j0 k true a0_0 a0_1 a0_2 a0_3 a0_4) else (stolonref10_Right.j0 k (decide (a0_4 > 100)) a0_0 a0_1 a0_2 a0_3 a0_4))))) = some r := h
  clear h
  have HC2 := Aside0.mk H
  clear H
  go_enter Try.func15, Try.ntmps15
  go_upto_region 1 with (first | ((with_reducible refine gate_dst (N := 1) rfl ?_); refine box_event ?hg (N := 1) ?hd (cs := #[.int .u32 a0_0, .int .u32 a0_1, .int .i64 a0_2, .int .i64 a0_3, .int .i64 a0_4]) (t := 27) ?hr ?_; (case hd => rfl); (case hg => rfl); (case hr => first | (go_simp; done) | (go_simp; rfl)); intro gb138 hg w3 hbox hb; have n0_ := Aside0.mk (below_step (by repeat (first | (with_reducible first | exact HB.out | apply below_alloc | apply pw_below_drewN | apply below_drew1) | exact HB.out)) hb); have n1_ := Aside0.mk (hbox); have n2_ := Aside0.mk ((by rw [hg]; exact (below_size (by repeat (first | (with_reducible first | exact HB.out | apply below_alloc | apply pw_below_drewN | apply below_drew1) | exact HB.out))) : w.heap.size ≤ gb138)); have n3_ := Aside0.mk ((by rw [hg]; exact (below_size (by repeat (first | (with_reducible first | exact HB.out | apply below_alloc | apply pw_below_drewN | apply below_drew1) | exact HB.out))) : w.heap.size ≤ gb138)); clear HB; have HB := n0_; have BK138 := n1_; have GW138 := n2_; have GE138 := n3_; clear n0_ n1_ n2_ n3_; clear hb hbox hg))
  (try simp only [Act.put, List.setIfInBounds_toArray, List.set_cons_zero, List.set_cons_succ])
  go_cut [25] (fun v25 wc => ∃ (kq : Nat) (x25_1 : Bool), v25 = .bool x25_1 ∧ Aside0 (stolonref10_Right.j0 kq x25_1 a0_0 a0_1 a0_2 a0_3 a0_4 = some r) ∧ Aside0 (kq ≤ k) ∧ Aside0 (wc.heap[gb138]? = some (.cells #[.int .u32 a0_0, .int .u32 a0_1, .int .i64 a0_2, .int .i64 a0_3, .int .i64 a0_4] 27 (0, 0))) ∧ Aside0 (Below w.heap.size w wc))
  case first =>
    have H := HC2.out
    clear HC2
    by_cases c4 : a0_0 = 0
    · rw [if_pos c4] at H
      have c4b0 : (a0_0 == 0) = true := beq_iff_eq.mpr c4
      have c4b1 : (a0_0 != 0) = false := bne_eq_false_iff_eq.mpr c4
      clear c4
      (first | rw [c4b0] | (simp only [i64_w, i32_w]; rw [c4b0]) | skip)
      have H' := Aside0.mk H
      clear H
      have hcz5_0 : w3.cell? ⟨gb138, 0, none⟩ = some (.int .u32 a0_0) := (blk_cell BK138.out 0).trans rfl
      have hcz5_1 : w3.cell? ⟨gb138, 1, none⟩ = some (.int .u32 a0_1) := (blk_cell BK138.out 1).trans rfl
      have hcz5_2 : w3.cell? ⟨gb138, 2, none⟩ = some (.int .i64 a0_2) := (blk_cell BK138.out 2).trans rfl
      have hcz5_3 : w3.cell? ⟨gb138, 3, none⟩ = some (.int .i64 a0_3) := (blk_cell BK138.out 3).trans rfl
      have hcz5_4 : w3.cell? ⟨gb138, 4, none⟩ = some (.int .i64 a0_4) := (blk_cell BK138.out 4).trans rfl
      have hfz5_0 := blk_frozen BK138.out 0
      have hfz5_1 := blk_frozen BK138.out 1
      have hfz5_2 := blk_frozen BK138.out 2
      have hfz5_3 := blk_frozen BK138.out 3
      have hfz5_4 := blk_frozen BK138.out 4
      go_wp2
      go_meet
      case rel => exact ⟨_, (true), (by first | rfl | (simp; done) | (simp [*]; done)), H', ⟨by first | omega | exact Nat.le_refl _⟩, ⟨by (with_reducible repeat (first | refine blk_drewN ?_ _ | refine blk_drew ?_ | refine blk_alloc ?_ _)); exact BK138.out⟩, ⟨by repeat (first | (with_reducible first | exact HB.out | apply below_alloc | apply pw_below_drewN | apply below_drew1 | refine below_set ?_ GE138.out) | exact HB.out)⟩⟩
    · rw [if_neg c4] at H
      have c4b0 : (a0_0 == 0) = false := beq_eq_false_iff_ne.mpr c4
      have c4b1 : (a0_0 != 0) = true := bne_iff_ne.mpr c4
      (first | rw [c4b0] | (simp only [i64_w, i32_w]; rw [c4b0]) | skip)
      by_cases c6 : a0_3 < 0
      · rw [if_pos c6] at H
        have c6b0 : decide (a0_3 < 0) = true := decide_eq_true c6
        clear c6
        have H' := Aside0.mk H
        clear H
        have hcz7_0 : w3.cell? ⟨gb138, 0, none⟩ = some (.int .u32 a0_0) := (blk_cell BK138.out 0).trans rfl
        have hcz7_1 : w3.cell? ⟨gb138, 1, none⟩ = some (.int .u32 a0_1) := (blk_cell BK138.out 1).trans rfl
        have hcz7_2 : w3.cell? ⟨gb138, 2, none⟩ = some (.int .i64 a0_2) := (blk_cell BK138.out 2).trans rfl
        have hcz7_3 : w3.cell? ⟨gb138, 3, none⟩ = some (.int .i64 a0_3) := (blk_cell BK138.out 3).trans rfl
        have hcz7_4 : w3.cell? ⟨gb138, 4, none⟩ = some (.int .i64 a0_4) := (blk_cell BK138.out 4).trans rfl
        have hfz7_0 := blk_frozen BK138.out 0
        have hfz7_1 := blk_frozen BK138.out 1
        have hfz7_2 := blk_frozen BK138.out 2
        have hfz7_3 := blk_frozen BK138.out 3
        have hfz7_4 := blk_frozen BK138.out 4
        go_wp2
        go_meet
        case rel => exact ⟨_, (true), (by first | rfl | (simp; done) | (simp [*]; done)), H', ⟨by first | omega | exact Nat.le_refl _⟩, ⟨by (with_reducible repeat (first | refine blk_drewN ?_ _ | refine blk_drew ?_ | refine blk_alloc ?_ _)); exact BK138.out⟩, ⟨by repeat (first | (with_reducible first | exact HB.out | apply below_alloc | apply pw_below_drewN | apply below_drew1 | refine below_set ?_ GE138.out) | exact HB.out)⟩⟩
      · rw [if_neg c6] at H
        have c6b0 : decide (a0_3 < 0) = false := decide_eq_false c6
        clear c6
        by_cases c8 : a0_3 > 1000000
        · rw [if_pos c8] at H
          have c8b0 : decide (1000000 < a0_3) = true := decide_eq_true c8
          clear c8
          have H' := Aside0.mk H
          clear H
          have hcz9_0 : w3.cell? ⟨gb138, 0, none⟩ = some (.int .u32 a0_0) := (blk_cell BK138.out 0).trans rfl
          have hcz9_1 : w3.cell? ⟨gb138, 1, none⟩ = some (.int .u32 a0_1) := (blk_cell BK138.out 1).trans rfl
          have hcz9_2 : w3.cell? ⟨gb138, 2, none⟩ = some (.int .i64 a0_2) := (blk_cell BK138.out 2).trans rfl
          have hcz9_3 : w3.cell? ⟨gb138, 3, none⟩ = some (.int .i64 a0_3) := (blk_cell BK138.out 3).trans rfl
          have hcz9_4 : w3.cell? ⟨gb138, 4, none⟩ = some (.int .i64 a0_4) := (blk_cell BK138.out 4).trans rfl
          have hfz9_0 := blk_frozen BK138.out 0
          have hfz9_1 := blk_frozen BK138.out 1
          have hfz9_2 := blk_frozen BK138.out 2
          have hfz9_3 := blk_frozen BK138.out 3
          have hfz9_4 := blk_frozen BK138.out 4
          go_wp2
          go_meet
          case rel => exact ⟨_, (true), (by first | rfl | (simp; done) | (simp [*]; done)), H', ⟨by first | omega | exact Nat.le_refl _⟩, ⟨by (with_reducible repeat (first | refine blk_drewN ?_ _ | refine blk_drew ?_ | refine blk_alloc ?_ _)); exact BK138.out⟩, ⟨by repeat (first | (with_reducible first | exact HB.out | apply below_alloc | apply pw_below_drewN | apply below_drew1 | refine below_set ?_ GE138.out) | exact HB.out)⟩⟩
        · rw [if_neg c8] at H
          have c8b0 : decide (1000000 < a0_3) = false := decide_eq_false c8
          clear c8
          by_cases c10 : a0_4 < 0
          · rw [if_pos c10] at H
            have c10b0 : decide (a0_4 < 0) = true := decide_eq_true c10
            clear c10
            have H' := Aside0.mk H
            clear H
            have hcz11_0 : w3.cell? ⟨gb138, 0, none⟩ = some (.int .u32 a0_0) := (blk_cell BK138.out 0).trans rfl
            have hcz11_1 : w3.cell? ⟨gb138, 1, none⟩ = some (.int .u32 a0_1) := (blk_cell BK138.out 1).trans rfl
            have hcz11_2 : w3.cell? ⟨gb138, 2, none⟩ = some (.int .i64 a0_2) := (blk_cell BK138.out 2).trans rfl
            have hcz11_3 : w3.cell? ⟨gb138, 3, none⟩ = some (.int .i64 a0_3) := (blk_cell BK138.out 3).trans rfl
            have hcz11_4 : w3.cell? ⟨gb138, 4, none⟩ = some (.int .i64 a0_4) := (blk_cell BK138.out 4).trans rfl
            have hfz11_0 := blk_frozen BK138.out 0
            have hfz11_1 := blk_frozen BK138.out 1
            have hfz11_2 := blk_frozen BK138.out 2
            have hfz11_3 := blk_frozen BK138.out 3
            have hfz11_4 := blk_frozen BK138.out 4
            go_wp2
            go_meet
            case rel => exact ⟨_, (true), (by first | rfl | (simp; done) | (simp [*]; done)), H', ⟨by first | omega | exact Nat.le_refl _⟩, ⟨by (with_reducible repeat (first | refine blk_drewN ?_ _ | refine blk_drew ?_ | refine blk_alloc ?_ _)); exact BK138.out⟩, ⟨by repeat (first | (with_reducible first | exact HB.out | apply below_alloc | apply pw_below_drewN | apply below_drew1 | refine below_set ?_ GE138.out) | exact HB.out)⟩⟩
          · rw [if_neg c10] at H
            have c10b0 : decide (a0_4 < 0) = false := decide_eq_false c10
            clear c10
            have H' := Aside0.mk H
            clear H
            have hcz12_0 : w3.cell? ⟨gb138, 0, none⟩ = some (.int .u32 a0_0) := (blk_cell BK138.out 0).trans rfl
            have hcz12_1 : w3.cell? ⟨gb138, 1, none⟩ = some (.int .u32 a0_1) := (blk_cell BK138.out 1).trans rfl
            have hcz12_2 : w3.cell? ⟨gb138, 2, none⟩ = some (.int .i64 a0_2) := (blk_cell BK138.out 2).trans rfl
            have hcz12_3 : w3.cell? ⟨gb138, 3, none⟩ = some (.int .i64 a0_3) := (blk_cell BK138.out 3).trans rfl
            have hcz12_4 : w3.cell? ⟨gb138, 4, none⟩ = some (.int .i64 a0_4) := (blk_cell BK138.out 4).trans rfl
            have hfz12_0 := blk_frozen BK138.out 0
            have hfz12_1 := blk_frozen BK138.out 1
            have hfz12_2 := blk_frozen BK138.out 2
            have hfz12_3 := blk_frozen BK138.out 3
            have hfz12_4 := blk_frozen BK138.out 4
            go_wp2
            go_meet
            case rel => exact ⟨_, (decide (a0_4 > 100)), (by first | rfl | (simp; done) | (simp [*]; done)), H', ⟨by first | omega | exact Nat.le_refl _⟩, ⟨by (with_reducible repeat (first | refine blk_drewN ?_ _ | refine blk_drew ?_ | refine blk_alloc ?_ _)); exact BK138.out⟩, ⟨by repeat (first | (with_reducible first | exact HB.out | apply below_alloc | apply pw_below_drewN | apply below_drew1 | refine below_set ?_ GE138.out) | exact HB.out)⟩⟩
  case rest =>
    clear HC2
    try clear c1
    try clear p2
    try clear c4
    try clear c4b0
    try clear c4b1
    try clear c6
    try clear c6b0
    try clear c8
    try clear c8b0
    try clear c10
    try clear c10b0
    try clear hcz11_0
    try clear hcz11_1
    try clear hcz11_2
    try clear hcz11_3
    try clear hcz11_4
    try clear hcz12_0
    try clear hcz12_1
    try clear hcz12_2
    try clear hcz12_3
    try clear hcz12_4
    try clear hcz5_0
    try clear hcz5_1
    try clear hcz5_2
    try clear hcz5_3
    try clear hcz5_4
    try clear hcz7_0
    try clear hcz7_1
    try clear hcz7_2
    try clear hcz7_3
    try clear hcz7_4
    try clear hcz9_0
    try clear hcz9_1
    try clear hcz9_2
    try clear hcz9_3
    try clear hcz9_4
    try clear hfz11_0
    try clear hfz11_1
    try clear hfz11_2
    try clear hfz11_3
    try clear hfz11_4
    try clear hfz12_0
    try clear hfz12_1
    try clear hfz12_2
    try clear hfz12_3
    try clear hfz12_4
    try clear hfz5_0
    try clear hfz5_1
    try clear hfz5_2
    try clear hfz5_3
    try clear hfz5_4
    try clear hfz7_0
    try clear hfz7_1
    try clear hfz7_2
    try clear hfz7_3
    try clear hfz7_4
    try clear hfz9_0
    try clear hfz9_1
    try clear hfz9_2
    try clear hfz9_3
    try clear hfz9_4
    obtain ⟨kq, x25_1, rfl, HA, HJ1, BK138, HB⟩ := hcut
    cases kq with
    | zero => exact absurd HA.out (by simp [stolonref10_Right.j0])
    | succ kj1 =>
      have H := HA.out
      clear HA
      simp only [stolonref10_Right.j0] at H
      by_cases c13 : x25_1 = true
      · subst c13
        have H1 : (some false) = some r := by rw [if_pos rfl] at H; exact H
        clear H
        have H := H1
        clear H1
        obtain rfl := Option.some.inj H
        go_wp2
        go_ret
        exact ⟨by first | rfl | (simp [errW_none, errW_some] <;> rfl) | (simp [*, errW_none, errW_some] <;> rfl), by repeat (first | (with_reducible first | exact HB.out | apply below_alloc | apply pw_below_drewN | apply below_drew1 | refine below_set ?_ GE138.out) | exact HB.out)⟩
      · replace c13 := Bool.eq_false_iff.mpr c13
        subst c13
        have H1 : (if a0_1 = 0 then (some (a0_2 == 0)) else (if a0_1 < a0_0 then (if a0_2 ≥ 1 then (some (decide (a0_2 ≤ 1000000))) else (some false)) else (some false))) = some r := by rw [if_neg (show ¬ (false = true) by decide)] at H; exact H
        clear H
        have H := H1
        clear H1
        by_cases c14 : a0_1 = 0
        · rw [if_pos c14] at H
          have c14b0 : (a0_1 == 0) = true := beq_iff_eq.mpr c14
          have c14b1 : (a0_1 != 0) = false := bne_eq_false_iff_eq.mpr c14
          clear c14
          obtain rfl := Option.some.inj H
          have hcz15_0 : wc.cell? ⟨gb138, 0, none⟩ = some (.int .u32 a0_0) := (blk_cell BK138.out 0).trans rfl
          have hcz15_1 : wc.cell? ⟨gb138, 1, none⟩ = some (.int .u32 a0_1) := (blk_cell BK138.out 1).trans rfl
          have hcz15_2 : wc.cell? ⟨gb138, 2, none⟩ = some (.int .i64 a0_2) := (blk_cell BK138.out 2).trans rfl
          have hcz15_3 : wc.cell? ⟨gb138, 3, none⟩ = some (.int .i64 a0_3) := (blk_cell BK138.out 3).trans rfl
          have hcz15_4 : wc.cell? ⟨gb138, 4, none⟩ = some (.int .i64 a0_4) := (blk_cell BK138.out 4).trans rfl
          have hfz15_0 := blk_frozen BK138.out 0
          have hfz15_1 := blk_frozen BK138.out 1
          have hfz15_2 := blk_frozen BK138.out 2
          have hfz15_3 := blk_frozen BK138.out 3
          have hfz15_4 := blk_frozen BK138.out 4
          go_wp2
          go_ret
          exact ⟨by first | rfl | (simp [errW_none, errW_some] <;> rfl) | (simp [*, errW_none, errW_some] <;> rfl), by repeat (first | (with_reducible first | exact HB.out | apply below_alloc | apply pw_below_drewN | apply below_drew1 | refine below_set ?_ GE138.out) | exact HB.out)⟩
        · rw [if_neg c14] at H
          have c14b0 : (a0_1 == 0) = false := beq_eq_false_iff_ne.mpr c14
          have c14b1 : (a0_1 != 0) = true := bne_iff_ne.mpr c14
          by_cases c16 : a0_1 < a0_0
          · rw [if_pos c16] at H
            have c16b0 : decide (a0_1 < a0_0) = true := decide_eq_true c16
            clear c16
            by_cases c17 : a0_2 ≥ 1
            · rw [if_pos c17] at H
              have c17b0 : decide (1 ≤ a0_2) = true := decide_eq_true c17
              clear c17
              obtain rfl := Option.some.inj H
              have hcz18_0 : wc.cell? ⟨gb138, 0, none⟩ = some (.int .u32 a0_0) := (blk_cell BK138.out 0).trans rfl
              have hcz18_1 : wc.cell? ⟨gb138, 1, none⟩ = some (.int .u32 a0_1) := (blk_cell BK138.out 1).trans rfl
              have hcz18_2 : wc.cell? ⟨gb138, 2, none⟩ = some (.int .i64 a0_2) := (blk_cell BK138.out 2).trans rfl
              have hcz18_3 : wc.cell? ⟨gb138, 3, none⟩ = some (.int .i64 a0_3) := (blk_cell BK138.out 3).trans rfl
              have hcz18_4 : wc.cell? ⟨gb138, 4, none⟩ = some (.int .i64 a0_4) := (blk_cell BK138.out 4).trans rfl
              have hfz18_0 := blk_frozen BK138.out 0
              have hfz18_1 := blk_frozen BK138.out 1
              have hfz18_2 := blk_frozen BK138.out 2
              have hfz18_3 := blk_frozen BK138.out 3
              have hfz18_4 := blk_frozen BK138.out 4
              go_wp2
              go_ret
              exact ⟨by first | rfl | (simp [errW_none, errW_some] <;> rfl) | (simp [*, errW_none, errW_some] <;> rfl), by repeat (first | (with_reducible first | exact HB.out | apply below_alloc | apply pw_below_drewN | apply below_drew1 | refine below_set ?_ GE138.out) | exact HB.out)⟩
            · rw [if_neg c17] at H
              have c17b0 : decide (1 ≤ a0_2) = false := decide_eq_false c17
              clear c17
              obtain rfl := Option.some.inj H
              have hcz19_0 : wc.cell? ⟨gb138, 0, none⟩ = some (.int .u32 a0_0) := (blk_cell BK138.out 0).trans rfl
              have hcz19_1 : wc.cell? ⟨gb138, 1, none⟩ = some (.int .u32 a0_1) := (blk_cell BK138.out 1).trans rfl
              have hcz19_2 : wc.cell? ⟨gb138, 2, none⟩ = some (.int .i64 a0_2) := (blk_cell BK138.out 2).trans rfl
              have hcz19_3 : wc.cell? ⟨gb138, 3, none⟩ = some (.int .i64 a0_3) := (blk_cell BK138.out 3).trans rfl
              have hcz19_4 : wc.cell? ⟨gb138, 4, none⟩ = some (.int .i64 a0_4) := (blk_cell BK138.out 4).trans rfl
              have hfz19_0 := blk_frozen BK138.out 0
              have hfz19_1 := blk_frozen BK138.out 1
              have hfz19_2 := blk_frozen BK138.out 2
              have hfz19_3 := blk_frozen BK138.out 3
              have hfz19_4 := blk_frozen BK138.out 4
              go_wp2
              go_ret
              exact ⟨by first | rfl | (simp [errW_none, errW_some] <;> rfl) | (simp [*, errW_none, errW_some] <;> rfl), by repeat (first | (with_reducible first | exact HB.out | apply below_alloc | apply pw_below_drewN | apply below_drew1 | refine below_set ?_ GE138.out) | exact HB.out)⟩
          · rw [if_neg c16] at H
            have c16b0 : decide (a0_1 < a0_0) = false := decide_eq_false c16
            clear c16
            obtain rfl := Option.some.inj H
            have hcz20_0 : wc.cell? ⟨gb138, 0, none⟩ = some (.int .u32 a0_0) := (blk_cell BK138.out 0).trans rfl
            have hcz20_1 : wc.cell? ⟨gb138, 1, none⟩ = some (.int .u32 a0_1) := (blk_cell BK138.out 1).trans rfl
            have hcz20_2 : wc.cell? ⟨gb138, 2, none⟩ = some (.int .i64 a0_2) := (blk_cell BK138.out 2).trans rfl
            have hcz20_3 : wc.cell? ⟨gb138, 3, none⟩ = some (.int .i64 a0_3) := (blk_cell BK138.out 3).trans rfl
            have hcz20_4 : wc.cell? ⟨gb138, 4, none⟩ = some (.int .i64 a0_4) := (blk_cell BK138.out 4).trans rfl
            have hfz20_0 := blk_frozen BK138.out 0
            have hfz20_1 := blk_frozen BK138.out 1
            have hfz20_2 := blk_frozen BK138.out 2
            have hfz20_3 := blk_frozen BK138.out 3
            have hfz20_4 := blk_frozen BK138.out 4
            go_wp2
            go_ret
            exact ⟨by first | rfl | (simp [errW_none, errW_some] <;> rfl) | (simp [*, errW_none, errW_some] <;> rfl), by repeat (first | (with_reducible first | exact HB.out | apply below_alloc | apply pw_below_drewN | apply below_drew1 | refine below_set ?_ GE138.out) | exact HB.out)⟩

end Go.Proofs.Ytlihbdinghoeeaa.P

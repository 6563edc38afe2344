/- For each Go function a Lean function, and the proof that a call comes to what it tells: made by program out of the translation (the kit's print, with texts by hand put in). No condition. -/
import Derived.Test.YtlihbdinghoeeaaPx0
import Derived.Test.YtlihbdinghoeeaaPx5
import Derived.Test.YtlihbdinghoeeaaPx8
import Derived.Test.YtlihbdinghoeeaaPx9
namespace Go.Proofs.Ytlihbdinghoeeaa.P
open Go.RowKit Go.Proofs.YtlihbdinghoeeaaW.PrintWords Go.Proofs.YtlihbdinghoeeaaW.PrintLast Go.Proofs.YtlihbdinghoeeaaW.PrintMore
attribute [local go_sem] max2_int min2_int max_two min_two max_three min_three max_four min_four   -- for this text's walks alone
set_option linter.unusedVariables false
set_option linter.unusedSimpArgs false

/-! ### stolonlaw10_QuerierLeast: function 8 -/
mutual
def stolonlaw10_QuerierLeast.j0 : Nat → Int → List Int → Bool → Bool → Int → Int → Int → Int → Int → Int → Int → Int → Int → Option (Bool)
  | 0, _, _, _, _, _, _, _, _, _, _, _, _, _ => none
  | k + 1, x1, x2, x7, x25, x319000, x319001, x319002, x319003, x327000, x327001, x327002, x327003, x327004 => if x25 = true then (some x7) else (stolonlaw10_QuerierLeast.l0 k x1 x2 x7 x1 0 x319000 x319001 x319002 x319003 x327000 x327001 x327002 x327003 x327004)
def stolonlaw10_QuerierLeast.l0 : Nat → Int → List Int → Bool → Int → Int → Int → Int → Int → Int → Int → Int → Int → Int → Int → Option (Bool)
  | 0, _, _, _, _, _, _, _, _, _, _, _, _, _, _ => none
  | k + 1, x1, x2, x7, x10, x11, x319000, x319001, x319002, x319003, x327000, x327001, x327002, x327003, x327004 => if x11 < (x2.length : Int) then (if 0 ≤ x11 then ((querier_Hear.f x319000 x319001 x319002 x319003 x327000 x327001 x327002 x327003 x327004 (rd x2 x11)).bind fun bt328 => (if (rd x2 x11) > 0 then (if (rd x2 x11) < x10 then (stolonlaw10_QuerierLeast.l0 k x1 x2 x7 (rd x2 x11) (wrap64 (x11 + 1)) x319000 x319001 x319002 x319003 bt328.1 bt328.2.1 bt328.2.2.1 bt328.2.2.2.1 bt328.2.2.2.2) else (stolonlaw10_QuerierLeast.l0 k x1 x2 x7 x10 (wrap64 (x11 + 1)) x319000 x319001 x319002 x319003 bt328.1 bt328.2.1 bt328.2.2.1 bt328.2.2.2.1 bt328.2.2.2.2)) else (stolonlaw10_QuerierLeast.l0 k x1 x2 x7 x10 (wrap64 (x11 + 1)) x319000 x319001 x319002 x319003 bt328.1 bt328.2.1 bt328.2.2.1 bt328.2.2.2.1 bt328.2.2.2.2))) else (none)) else (if x10 = x1 then (if x7 = true then ((querier_Asks.f x327000 x327001 x327002 x327003 x327004).bind fun t336 => (if t336 = true then (some (x327002 == 0)) else (some false))) else (some false)) else (if x7 = true then (if x327001 = x10 then (if x327002 = x319003 then ((querier_Asks.f x327000 x327001 x327002 x327003 x327004).bind fun t337 => (some (!t337))) else (some false)) else (some false)) else (some false)))
end
def stolonlaw10_QuerierLeast.f (k : Nat) (a0_0 : Int) (a0_1 : Int) (a0_2 : Int) (a0_3 : Int) (a1 : Int) (l2 : List Int) : Option (Bool) := (stolonlaw10_shown.f).bind fun t319 => ((querier_New.f a0_0 a0_1 a0_2 a0_3 a1).bind fun bt320 => (if bt320.2.2.2.2.2 = 0 then (stolonlaw10_QuerierLeast.j0 k a1 l2 t319 (decide ((l2.length : Int) > 50)) a0_0 a0_1 a0_2 a0_3 bt320.1 bt320.2.1 bt320.2.2.1 bt320.2.2.2.1 bt320.2.2.2.2.1) else (stolonlaw10_QuerierLeast.j0 k a1 l2 t319 true a0_0 a0_1 a0_2 a0_3 bt320.1 bt320.2.1 bt320.2.2.1 bt320.2.2.2.1 bt320.2.2.2.2.1)))
theorem stolonlaw10_QuerierLeast.mono_l : ∀ k, (∀ y0 y1 y2 y3 y4 y5 y6 y7 y8 y9 y10 y11 y12, LeO (stolonlaw10_QuerierLeast.j0 k y0 y1 y2 y3 y4 y5 y6 y7 y8 y9 y10 y11 y12) (stolonlaw10_QuerierLeast.j0 (k + 1) y0 y1 y2 y3 y4 y5 y6 y7 y8 y9 y10 y11 y12)) ∧ (∀ y0 y1 y2 y3 y4 y5 y6 y7 y8 y9 y10 y11 y12 y13, LeO (stolonlaw10_QuerierLeast.l0 k y0 y1 y2 y3 y4 y5 y6 y7 y8 y9 y10 y11 y12 y13) (stolonlaw10_QuerierLeast.l0 (k + 1) y0 y1 y2 y3 y4 y5 y6 y7 y8 y9 y10 y11 y12 y13))
  | 0 => ⟨fun _ _ _ _ _ _ _ _ _ _ _ _ _ r h => by simp [stolonlaw10_QuerierLeast.j0] at h, fun _ _ _ _ _ _ _ _ _ _ _ _ _ _ r h => by simp [stolonlaw10_QuerierLeast.l0] at h⟩
  | k + 1 => by
    obtain ⟨ih0, ih1⟩ := stolonlaw10_QuerierLeast.mono_l k
    refine ⟨?_, ?_⟩
    · intro y0 y1 y2 y3 y4 y5 y6 y7 y8 y9 y10 y11 y12
      unfold stolonlaw10_QuerierLeast.j0
      repeat' first
      | (with_reducible exact ih0 _ _ _ _ _ _ _ _ _ _ _ _ _)
      | (with_reducible exact ih1 _ _ _ _ _ _ _ _ _ _ _ _ _ _)
      | (with_reducible exact LeO.refl _)
      | (with_reducible exact LeO.none _)
      | (with_reducible refine LeO.ite ?_ ?_)
      | (with_reducible refine LeO.bind ?_ (fun _ => ?_))
      | exact ih0 _ _ _ _ _ _ _ _ _ _ _ _ _
      | exact ih1 _ _ _ _ _ _ _ _ _ _ _ _ _ _
      | exact LeO.none _
      | refine LeO.ite ?_ ?_
      | refine LeO.bind ?_ (fun _ => ?_)
    · intro y0 y1 y2 y3 y4 y5 y6 y7 y8 y9 y10 y11 y12 y13
      unfold stolonlaw10_QuerierLeast.l0
      repeat' first
      | (with_reducible exact ih0 _ _ _ _ _ _ _ _ _ _ _ _ _)
      | (with_reducible exact ih1 _ _ _ _ _ _ _ _ _ _ _ _ _ _)
      | (with_reducible exact LeO.refl _)
      | (with_reducible exact LeO.none _)
      | (with_reducible refine LeO.ite ?_ ?_)
      | (with_reducible refine LeO.bind ?_ (fun _ => ?_))
      | exact ih0 _ _ _ _ _ _ _ _ _ _ _ _ _
      | exact ih1 _ _ _ _ _ _ _ _ _ _ _ _ _ _
      | exact LeO.none _
      | refine LeO.ite ?_ ?_
      | refine LeO.bind ?_ (fun _ => ?_)
theorem stolonlaw10_QuerierLeast.mono : ∀ a0 a1 a2 a3 a4 a5 k, LeO (stolonlaw10_QuerierLeast.f k a0 a1 a2 a3 a4 a5) (stolonlaw10_QuerierLeast.f (k + 1) a0 a1 a2 a3 a4 a5) := by
  intro a0 a1 a2 a3 a4 a5 k
  obtain ⟨ih0, ih1⟩ := stolonlaw10_QuerierLeast.mono_l k
  unfold stolonlaw10_QuerierLeast.f
  repeat' first
      | (with_reducible exact ih0 _ _ _ _ _ _ _ _ _ _ _ _ _)
      | (with_reducible exact ih1 _ _ _ _ _ _ _ _ _ _ _ _ _ _)
      | (with_reducible exact LeO.refl _)
      | (with_reducible exact LeO.none _)
      | (with_reducible refine LeO.ite ?_ ?_)
      | (with_reducible refine LeO.bind ?_ (fun _ => ?_))
      | exact ih0 _ _ _ _ _ _ _ _ _ _ _ _ _
      | exact ih1 _ _ _ _ _ _ _ _ _ _ _ _ _ _
      | exact LeO.none _
      | refine LeO.ite ?_ ?_
      | refine LeO.bind ?_ (fun _ => ?_)
def stolonlaw10_QuerierLeast.T9 : Bool × List (List Nat × List Nat) := (true, [([], []), ([], []), ([], []), ([], []), ([2, 3], [2, 3]), ([4], [4]), ([0, 1, 5], [0, 1, 5]), ([6, 6, 0, 1, 2, 3, 4, 5, 6], [6])])
def stolonlaw10_QuerierLeast.B9 : List Nat := [0, 0, 0, 0, 12, 28, 63, 127]
theorem stolonlaw10_QuerierLeast.tab9 : rtab .any (opsOf Try.f8 9) = stolonlaw10_QuerierLeast.T9 := by kernel_rfl
theorem stolonlaw10_QuerierLeast.bits9 : waitsOk stolonlaw10_QuerierLeast.T9.2 stolonlaw10_QuerierLeast.B9 = true := by kernel_rfl
set_option maxHeartbeats 8000000 in
set_option maxRecDepth 100000 in
theorem stolonlaw10_QuerierLeast.calls (k : Nat) (a0_0 : Int) (a0_1 : Int) (a0_2 : Int) (a0_3 : Int) (a1 : Int) (A2 : Option Addr) (c2 : Nat) (l2 : List Int) (r : Bool) (w : World) (hr2 : Kd.C (Kd.int .u32) w A2 l2.length l2) (hc2 : l2.length ≤ c2) (hTrue : Aside0 (r = true)) (h : stolonlaw10_QuerierLeast.f k a0_0 a0_1 a0_2 a0_3 a1 l2 = some r) :
    Calls Try.prog 8 #[.agg #[.int .i64 a0_0, .int .i64 a0_1, .int .i64 a0_2, .int .i64 a0_3], .int .u32 a1, .slice A2 l2.length c2] w fun e w' => e = .returned (.bool r) ∧ Below w.heap.size w w' := by
  have hu23 := Try.underlying23
  have hu27 := Try.underlying27
  have HR2 := Aside0.mk hr2
  have HC2 := Aside0.mk hc2
  clear hr2 hc2
  have HB := Aside0.mk (Below.refl w.heap.size w)
  have H : ((stolonlaw10_shown.f).bind fun t319 => ((querier_New.f a0_0 a0_1 a0_2 a0_3 a1).bind fun bt320 => (if bt320.2.2.2.2.2 = 0 then (stolonlaw10_QuerierLeast.j0 k a1 l2 t319 (decide ((l2.length : Int) > 50)) a0_0 a0_1 a0_2 a0_3 bt320.1 bt320.2.1 bt320.2.2.1 bt320.2.2.2.1 bt320.2.2.2.2.1) else (stolonlaw10_QuerierLeast.j0 k a1 l2 t319 true a0_0 a0_1 a0_2 a0_3 bt320.1 bt320.2.1 bt320.2.2.1 bt320.2.2.2.1 bt320.2.2.2.2.1)))) = some r := h
  clear h
  replace H := Option.bind_eq_some_iff.mp H
  obtain ⟨t319, A40, H⟩ := H
  replace H : ((querier_New.f a0_0 a0_1 a0_2 a0_3 a1).bind fun bt320 => (if bt320.2.2.2.2.2 = 0 then (stolonlaw10_QuerierLeast.j0 k a1 l2 t319 (decide ((l2.length : Int) > 50)) a0_0 a0_1 a0_2 a0_3 bt320.1 bt320.2.1 bt320.2.2.1 bt320.2.2.2.1 bt320.2.2.2.2.1) else (stolonlaw10_QuerierLeast.j0 k a1 l2 t319 true a0_0 a0_1 a0_2 a0_3 bt320.1 bt320.2.1 bt320.2.2.1 bt320.2.2.2.1 bt320.2.2.2.2.1))) = some r := H
  have A4 := Aside0.mk A40
  clear A40
  replace H := Option.bind_eq_some_iff.mp H
  obtain ⟨⟨t320, t321, t322, t323, t324, t325⟩, A50, H⟩ := H
  replace H : (if t325 = 0 then (stolonlaw10_QuerierLeast.j0 k a1 l2 t319 (decide ((l2.length : Int) > 50)) a0_0 a0_1 a0_2 a0_3 t320 t321 t322 t323 t324) else (stolonlaw10_QuerierLeast.j0 k a1 l2 t319 true a0_0 a0_1 a0_2 a0_3 t320 t321 t322 t323 t324)) = some r := H
  have A5 := Aside0.mk A50
  clear A50
  have HC6 := Aside0.mk H
  clear H
  go_enter Try.func8, Try.ntmps8
  go_upto_region 3 with (first | ((with_reducible refine gate_dst (N := 3) rfl ?_); (try (refine gate_guard (by rfl) ?_; dsimp only)); refine box_event ?hg (N := 3) ?hd (cs := #[.int .i64 a0_0, .int .i64 a0_1, .int .i64 a0_2, .int .i64 a0_3]) (t := 23) ?hr ?_; (case hd => rfl); (case hg => rfl); (case hr => first | (go_simp; done) | (go_simp; rfl)); intro gb318 hg w7 hbox hb; have n0_ := Aside0.mk (below_step (by repeat (first | (with_reducible first | exact HB.out | apply below_alloc | apply pw_below_drewN | apply below_drew1) | exact HB.out)) hb); have n1_ := Aside0.mk (hbox); have n2_ := Aside0.mk ((by rw [hg]; exact (below_size (by repeat (first | (with_reducible first | exact HB.out | apply below_alloc | apply pw_below_drewN | apply below_drew1) | exact HB.out))) : w.heap.size ≤ gb318)); have n3_ := Aside0.mk ((by rw [hg]; exact (below_size (by repeat (first | (with_reducible first | exact HB.out | apply below_alloc | apply pw_below_drewN | apply below_drew1) | exact HB.out))) : w.heap.size ≤ gb318)); clear HB; have HB := n0_; have BK318 := n1_; have GW318 := n2_; have GE318 := n3_; clear n0_ n1_ n2_ n3_; clear hb hbox hg) | ((with_reducible refine gate_callee (f := 9) rfl ?_); refine goesL_ (some 12) rfl rfl Try.func9 (by kernel_rfl) rfl #[] rfl (by (try simp only [List.map_toArray, List.map_cons, List.map_nil]); first | done | rfl | (simp only [List.length_drop, List.length_take]; rfl)) ?_; (with_reducible refine (stolonlaw10_shown.calls  t319 _ A4.out).mono ?_); rintro e w8 ⟨rfl, hb⟩; refine ⟨_, rfl, ?_⟩; have n0_ := Aside0.mk (blk_below (g := gb318) (o := .cells #[.int .i64 a0_0, .int .i64 a0_1, .int .i64 a0_2, .int .i64 a0_3] 23 (0, 0)) (by (with_reducible repeat (first | refine blk_drewN ?_ _ | refine blk_drew ?_ | refine blk_alloc ?_ _)); exact BK318.out) hb); have n1_ := Aside0.mk (below_step (by repeat (first | (with_reducible first | exact HB.out | apply below_alloc | apply pw_below_drewN | apply below_drew1 | refine below_set ?_ GE318.out) | exact HB.out)) hb); clear BK318; clear HB; have BK318 := n0_; have HB := n1_; clear n0_ n1_; (try clear hb); (try clear hb2); (try clear hk); (try clear hi); have hcz9_0 : w8.cell? ⟨gb318, 0, none⟩ = some (.int .i64 a0_0) := (blk_cell BK318.out 0).trans rfl; have hcz9_1 : w8.cell? ⟨gb318, 1, none⟩ = some (.int .i64 a0_1) := (blk_cell BK318.out 1).trans rfl; have hcz9_2 : w8.cell? ⟨gb318, 2, none⟩ = some (.int .i64 a0_2) := (blk_cell BK318.out 2).trans rfl; have hcz9_3 : w8.cell? ⟨gb318, 3, none⟩ = some (.int .i64 a0_3) := (blk_cell BK318.out 3).trans rfl; have hfz9_0 := blk_frozen BK318.out 0; have hfz9_1 := blk_frozen BK318.out 1; have hfz9_2 := blk_frozen BK318.out 2; have hfz9_3 := blk_frozen BK318.out 3) | ((with_reducible refine gate_callee (f := 10) rfl ?_); refine goesL_ (some 16) rfl rfl Try.func10 (by kernel_rfl) rfl #[.agg #[.int .i64 a0_0, .int .i64 a0_1, .int .i64 a0_2, .int .i64 a0_3], .int .u32 a1] rfl (by (try simp only [List.map_toArray, List.map_cons, List.map_nil]); first | done | rfl | (simp only [List.length_drop, List.length_take]; rfl)) ?_; (with_reducible refine (querier_New.calls a0_0 a0_1 a0_2 a0_3 a1 t320 t321 t322 t323 t324 t325 _ A5.out).mono ?_); rintro e w10 ⟨rfl, hb⟩; refine ⟨_, rfl, ?_⟩; have n0_ := Aside0.mk (blk_below (g := gb318) (o := .cells #[.int .i64 a0_0, .int .i64 a0_1, .int .i64 a0_2, .int .i64 a0_3] 23 (0, 0)) (by (with_reducible repeat (first | refine blk_drewN ?_ _ | refine blk_drew ?_ | refine blk_alloc ?_ _)); exact BK318.out) hb); have n1_ := Aside0.mk (below_step (by repeat (first | (with_reducible first | exact HB.out | apply below_alloc | apply pw_below_drewN | apply below_drew1 | refine below_set ?_ GE318.out) | exact HB.out)) hb); clear BK318; clear HB; have BK318 := n0_; have HB := n1_; clear n0_ n1_; (try clear hb); (try clear hb2); (try clear hk); (try clear hi)) | ((with_reducible refine gate_dst (N := 8) rfl ?_); (try (refine gate_guard (by rfl) ?_; dsimp only)); refine box_event ?hg (N := 8) ?hd (cs := #[.int .u32 0, .int .u32 0, .int .i64 0, .int .i64 0, .int .i64 0]) (t := 27) ?hr ?_; (case hd => rfl); (case hg => rfl); (case hr => first | (go_simp; done) | (go_simp; rfl)); intro gb326 hg w11 hbox hb; have n0_ := Aside0.mk (blk_below (g := gb318) (o := .cells #[.int .i64 a0_0, .int .i64 a0_1, .int .i64 a0_2, .int .i64 a0_3] 23 (0, 0)) (by (with_reducible repeat (first | refine blk_drewN ?_ _ | refine blk_drew ?_ | refine blk_alloc ?_ _)); exact BK318.out) hb); have n1_ := Aside0.mk (below_step (by repeat (first | (with_reducible first | exact HB.out | apply below_alloc | apply pw_below_drewN | apply below_drew1 | refine below_set ?_ GE318.out) | exact HB.out)) hb); have n2_ := Aside0.mk (hbox); have n3_ := Aside0.mk ((by rw [hg]; exact (below_size (by repeat (first | (with_reducible first | exact HB.out | apply below_alloc | apply pw_below_drewN | apply below_drew1 | refine below_set ?_ GE318.out) | exact HB.out))) : w.heap.size ≤ gb326)); have n4_ := Aside0.mk ((by rw [hg]; exact (below_size (by repeat (first | (with_reducible first | exact HB.out | apply below_alloc | apply pw_below_drewN | apply below_drew1 | refine below_set ?_ GE318.out) | exact HB.out))) : w.heap.size ≤ gb326)); have n5_ := Aside0.mk ((by rw [hg]; exact Nat.ne_of_lt (blk_lt (g := gb318) (o := .cells #[.int .i64 a0_0, .int .i64 a0_1, .int .i64 a0_2, .int .i64 a0_3] 23 (0, 0)) (by (with_reducible repeat (first | refine blk_drewN ?_ _ | refine blk_drew ?_ | refine blk_alloc ?_ _)); exact BK318.out)) : gb318 ≠ gb326)); have n6_ := Aside0.mk ((by rw [hg]; exact Nat.ne_of_gt (blk_lt (g := gb318) (o := .cells #[.int .i64 a0_0, .int .i64 a0_1, .int .i64 a0_2, .int .i64 a0_3] 23 (0, 0)) (by (with_reducible repeat (first | refine blk_drewN ?_ _ | refine blk_drew ?_ | refine blk_alloc ?_ _)); exact BK318.out)) : gb326 ≠ gb318)); clear BK318; clear HB; have BK318 := n0_; have HB := n1_; have BK326 := n2_; have GW326 := n3_; have GE326 := n4_; have NB318_326 := n5_; have NB326_318 := n6_; clear n0_ n1_ n2_ n3_ n4_ n5_ n6_; clear hb hbox hg; have hnb12 := NB326_318.out; have hnc12 := NB318_326.out; have hcz13_0 : w11.cell? ⟨gb326, 0, none⟩ = some (.int .u32 0) := (blk_cell BK326.out 0).trans rfl; have hcz13_1 : w11.cell? ⟨gb326, 1, none⟩ = some (.int .u32 0) := (blk_cell BK326.out 1).trans rfl; have hcz13_2 : w11.cell? ⟨gb326, 2, none⟩ = some (.int .i64 0) := (blk_cell BK326.out 2).trans rfl; have hcz13_3 : w11.cell? ⟨gb326, 3, none⟩ = some (.int .i64 0) := (blk_cell BK326.out 3).trans rfl; have hcz13_4 : w11.cell? ⟨gb326, 4, none⟩ = some (.int .i64 0) := (blk_cell BK326.out 4).trans rfl; have hfz13_0 := blk_frozen BK326.out 0; have hfz13_1 := blk_frozen BK326.out 1; have hfz13_2 := blk_frozen BK326.out 2; have hfz13_3 := blk_frozen BK326.out 3; have hfz13_4 := blk_frozen BK326.out 4))
  (try simp only [Act.put, List.setIfInBounds_toArray, List.set_cons_zero, List.set_cons_succ])
  go_cut [25] (fun v25 wc => ∃ (kq : Nat) (x25_5 : Bool), v25 = .bool x25_5 ∧ Aside0 (stolonlaw10_QuerierLeast.j0 kq a1 l2 t319 x25_5 a0_0 a0_1 a0_2 a0_3 t320 t321 t322 t323 t324 = some r) ∧ Aside0 (kq ≤ k) ∧ Aside0 (wc.heap[gb318]? = some (.cells #[.int .i64 a0_0, .int .i64 a0_1, .int .i64 a0_2, .int .i64 a0_3] 23 (0, 0))) ∧ Aside0 (wc.heap[gb326]? = some (.cells #[.int .u32 t320, .int .u32 t321, .int .i64 t322, .int .i64 t323, .int .i64 t324] 27 (0, 0))) ∧ Aside0 (Below w.heap.size w wc))
  case first =>
    have H := HC6.out
    clear HC6
    by_cases c14 : t325 = 0
    · rw [if_pos c14] at H
      have c14b0 : (t325 == 0) = true := beq_iff_eq.mpr c14
      have c14b1 : (t325 != 0) = false := bne_eq_false_iff_eq.mpr c14
      clear c14
      (first | rw [c14b0] | (simp only [i64_w, i32_w]; rw [c14b0]) | skip)
      have H' := Aside0.mk H
      clear H
      go_wp2
      go_meet
      case rel => exact ⟨_, (decide ((l2.length : Int) > 50)), (by first | rfl | (simp; done) | (simp [*]; done)), H', ⟨by first | omega | exact Nat.le_refl _⟩, ⟨by (with_reducible repeat (first | refine blk_drewN ?_ _ | refine blk_drew ?_ | refine blk_alloc ?_ _)); refine blk_far ?_ NB318_326.out _; (with_reducible repeat (first | refine blk_drewN ?_ _ | refine blk_drew ?_ | refine blk_alloc ?_ _)); refine blk_far ?_ NB318_326.out _; (with_reducible repeat (first | refine blk_drewN ?_ _ | refine blk_drew ?_ | refine blk_alloc ?_ _)); refine blk_far ?_ NB318_326.out _; (with_reducible repeat (first | refine blk_drewN ?_ _ | refine blk_drew ?_ | refine blk_alloc ?_ _)); refine blk_far ?_ NB318_326.out _; (with_reducible repeat (first | refine blk_drewN ?_ _ | refine blk_drew ?_ | refine blk_alloc ?_ _)); refine blk_far ?_ NB318_326.out _; (with_reducible repeat (first | refine blk_drewN ?_ _ | refine blk_drew ?_ | refine blk_alloc ?_ _)); exact BK318.out⟩, ⟨by (with_reducible repeat (first | refine blk_drewN ?_ _ | refine blk_drew ?_ | refine blk_alloc ?_ _)); refine blk_put (cs := #[.int .u32 t320, .int .u32 t321, .int .i64 t322, .int .i64 t323, .int .i64 0]) ?_ 4 _ rfl; (with_reducible repeat (first | refine blk_drewN ?_ _ | refine blk_drew ?_ | refine blk_alloc ?_ _)); refine blk_put (cs := #[.int .u32 t320, .int .u32 t321, .int .i64 t322, .int .i64 0, .int .i64 0]) ?_ 3 _ rfl; (with_reducible repeat (first | refine blk_drewN ?_ _ | refine blk_drew ?_ | refine blk_alloc ?_ _)); refine blk_put (cs := #[.int .u32 t320, .int .u32 t321, .int .i64 0, .int .i64 0, .int .i64 0]) ?_ 2 _ rfl; (with_reducible repeat (first | refine blk_drewN ?_ _ | refine blk_drew ?_ | refine blk_alloc ?_ _)); refine blk_put (cs := #[.int .u32 t320, .int .u32 0, .int .i64 0, .int .i64 0, .int .i64 0]) ?_ 1 _ rfl; (with_reducible repeat (first | refine blk_drewN ?_ _ | refine blk_drew ?_ | refine blk_alloc ?_ _)); refine blk_put (cs := #[.int .u32 0, .int .u32 0, .int .i64 0, .int .i64 0, .int .i64 0]) ?_ 0 _ rfl; (with_reducible repeat (first | refine blk_drewN ?_ _ | refine blk_drew ?_ | refine blk_alloc ?_ _)); exact BK326.out⟩, ⟨by repeat (first | (with_reducible first | exact HB.out | apply below_alloc | apply pw_below_drewN | apply below_drew1 | refine below_set ?_ GE318.out | refine below_set ?_ GE326.out) | exact HB.out)⟩⟩
    · rw [if_neg c14] at H
      have c14b0 : (t325 == 0) = false := beq_eq_false_iff_ne.mpr c14
      have c14b1 : (t325 != 0) = true := bne_iff_ne.mpr c14
      (first | rw [c14b0] | (simp only [i64_w, i32_w]; rw [c14b0]) | skip)
      have H' := Aside0.mk H
      clear H
      go_wp2
      go_meet
      case rel => exact ⟨_, (true), (by first | rfl | (simp; done) | (simp [*]; done)), H', ⟨by first | omega | exact Nat.le_refl _⟩, ⟨by (with_reducible repeat (first | refine blk_drewN ?_ _ | refine blk_drew ?_ | refine blk_alloc ?_ _)); refine blk_far ?_ NB318_326.out _; (with_reducible repeat (first | refine blk_drewN ?_ _ | refine blk_drew ?_ | refine blk_alloc ?_ _)); refine blk_far ?_ NB318_326.out _; (with_reducible repeat (first | refine blk_drewN ?_ _ | refine blk_drew ?_ | refine blk_alloc ?_ _)); refine blk_far ?_ NB318_326.out _; (with_reducible repeat (first | refine blk_drewN ?_ _ | refine blk_drew ?_ | refine blk_alloc ?_ _)); refine blk_far ?_ NB318_326.out _; (with_reducible repeat (first | refine blk_drewN ?_ _ | refine blk_drew ?_ | refine blk_alloc ?_ _)); refine blk_far ?_ NB318_326.out _; (with_reducible repeat (first | refine blk_drewN ?_ _ | refine blk_drew ?_ | refine blk_alloc ?_ _)); exact BK318.out⟩, ⟨by (with_reducible repeat (first | refine blk_drewN ?_ _ | refine blk_drew ?_ | refine blk_alloc ?_ _)); refine blk_put (cs := #[.int .u32 t320, .int .u32 t321, .int .i64 t322, .int .i64 t323, .int .i64 0]) ?_ 4 _ rfl; (with_reducible repeat (first | refine blk_drewN ?_ _ | refine blk_drew ?_ | refine blk_alloc ?_ _)); refine blk_put (cs := #[.int .u32 t320, .int .u32 t321, .int .i64 t322, .int .i64 0, .int .i64 0]) ?_ 3 _ rfl; (with_reducible repeat (first | refine blk_drewN ?_ _ | refine blk_drew ?_ | refine blk_alloc ?_ _)); refine blk_put (cs := #[.int .u32 t320, .int .u32 t321, .int .i64 0, .int .i64 0, .int .i64 0]) ?_ 2 _ rfl; (with_reducible repeat (first | refine blk_drewN ?_ _ | refine blk_drew ?_ | refine blk_alloc ?_ _)); refine blk_put (cs := #[.int .u32 t320, .int .u32 0, .int .i64 0, .int .i64 0, .int .i64 0]) ?_ 1 _ rfl; (with_reducible repeat (first | refine blk_drewN ?_ _ | refine blk_drew ?_ | refine blk_alloc ?_ _)); refine blk_put (cs := #[.int .u32 0, .int .u32 0, .int .i64 0, .int .i64 0, .int .i64 0]) ?_ 0 _ rfl; (with_reducible repeat (first | refine blk_drewN ?_ _ | refine blk_drew ?_ | refine blk_alloc ?_ _)); exact BK326.out⟩, ⟨by repeat (first | (with_reducible first | exact HB.out | apply below_alloc | apply pw_below_drewN | apply below_drew1 | refine below_set ?_ GE318.out | refine below_set ?_ GE326.out) | exact HB.out)⟩⟩
  case rest =>
    clear HC6
    try clear c1
    try clear c2
    try clear p2
    try clear c8
    try clear c9
    try clear c10
    try clear c12
    try clear c14
    try clear c14b0
    try clear c14b1
    try clear hcz13_0
    try clear hcz13_1
    try clear hcz13_2
    try clear hcz13_3
    try clear hcz13_4
    try clear hcz9_0
    try clear hcz9_1
    try clear hcz9_2
    try clear hcz9_3
    try clear hfz13_0
    try clear hfz13_1
    try clear hfz13_2
    try clear hfz13_3
    try clear hfz13_4
    try clear hfz9_0
    try clear hfz9_1
    try clear hfz9_2
    try clear hfz9_3
    obtain ⟨kq, x25_5, rfl, HA, HJ5, BK318, BK326, HB⟩ := hcut
    cases kq with
    | zero => exact absurd HA.out (by simp [stolonlaw10_QuerierLeast.j0])
    | succ kj5 =>
      have H := HA.out
      clear HA
      simp only [stolonlaw10_QuerierLeast.j0] at H
      by_cases c15 : x25_5 = true
      · subst c15
        have H1 : (some t319) = some r := by rw [if_pos rfl] at H; exact H
        clear H
        have H := H1
        clear H1
        obtain rfl := Option.some.inj H
        go_wp2
        go_ret
        exact ⟨by first | rfl | (simp [errW_none, errW_some] <;> rfl) | (simp [*, errW_none, errW_some] <;> rfl), by repeat (first | (with_reducible first | exact HB.out | apply below_alloc | apply pw_below_drewN | apply below_drew1 | refine below_set ?_ GE318.out | refine below_set ?_ GE326.out) | exact HB.out)⟩
      · replace c15 := Bool.eq_false_iff.mpr c15
        subst c15
        have H1 : (stolonlaw10_QuerierLeast.l0 kj5 a1 l2 t319 a1 0 a0_0 a0_1 a0_2 a0_3 t320 t321 t322 t323 t324) = some r := by rw [if_neg (show ¬ (false = true) by decide)] at H; exact H
        clear H
        have H := H1
        clear H1
        have H' := Aside0.mk H
        clear H
        go_wp2
        go_loopg [10, 11] kj5 (fun kq v10 v11 w' => ∃ (x10_2 : Int) (x11_2 : Int) (x327000_2 : Int) (x327001_2 : Int) (x327002_2 : Int) (x327003_2 : Int) (x327004_2 : Int), v10 = .int .u32 x10_2 ∧ v11 = .int .i64 x11_2 ∧ Aside0 (stolonlaw10_QuerierLeast.l0 kq a1 l2 t319 x10_2 x11_2 a0_0 a0_1 a0_2 a0_3 x327000_2 x327001_2 x327002_2 x327003_2 x327004_2 = some r) ∧ Aside0 (kq ≤ kj5) ∧ Aside0 (w'.heap[gb318]? = some (.cells #[.int .i64 a0_0, .int .i64 a0_1, .int .i64 a0_2, .int .i64 a0_3] 23 (0, 0))) ∧ Aside0 (w'.heap[gb326]? = some (.cells #[.int .u32 x327000_2, .int .u32 x327001_2, .int .i64 x327002_2, .int .i64 x327003_2, .int .i64 x327004_2] 27 (0, 0))) ∧ Aside0 (Below w.heap.size w w'))
        case atStart => exact ⟨(a1), (0), (t320), (t321), (t322), (t323), (t324), (by first | rfl | (simp; done) | (simp [*]; done)), (by first | rfl | (simp; done) | (simp [*]; done)), H', ⟨Nat.le_refl _⟩, ⟨by (with_reducible repeat (first | refine blk_drewN ?_ _ | refine blk_drew ?_ | refine blk_alloc ?_ _)); exact BK318.out⟩, ⟨by (with_reducible repeat (first | refine blk_drewN ?_ _ | refine blk_drew ?_ | refine blk_alloc ?_ _)); exact BK326.out⟩, ⟨by repeat (first | (with_reducible first | exact HB.out | apply below_alloc | apply pw_below_drewN | apply below_drew1 | refine below_set ?_ GE318.out | refine below_set ?_ GE326.out) | exact HB.out)⟩⟩
        case round =>
          clear H'
          try clear c1
          try clear c2
          try clear p2
          try clear c8
          try clear c9
          try clear c10
          try clear c12
          try clear c14
          try clear c14b0
          try clear c14b1
          try clear c15
          try clear hcz13_0
          try clear hcz13_1
          try clear hcz13_2
          try clear hcz13_3
          try clear hcz13_4
          try clear hcz9_0
          try clear hcz9_1
          try clear hcz9_2
          try clear hcz9_3
          try clear hfz13_0
          try clear hfz13_1
          try clear hfz13_2
          try clear hfz13_3
          try clear hfz13_4
          try clear hfz9_0
          try clear hfz9_1
          try clear hfz9_2
          try clear hfz9_3
          try clear p2
          obtain ⟨x10_2, x11_2, x327000_2, x327001_2, x327002_2, x327003_2, x327004_2, rfl, rfl, HA, HK2, BK318, BK326, HB⟩ := hrel
          cases gk with
          | zero => exact absurd HA.out (by simp [stolonlaw10_QuerierLeast.l0])
          | succ k2 =>
            have H := HA.out
            clear HA
            simp only [stolonlaw10_QuerierLeast.l0] at H
            by_cases c16 : x11_2 < (l2.length : Int)
            · rw [if_pos c16] at H
              have c16b0 : decide (x11_2 < (l2.length : Int)) = true := decide_eq_true c16
              clear c16
              by_cases c17 : 0 ≤ x11_2
              · rw [if_pos c17] at H
                have c17b0 : decide (0 ≤ x11_2) = true := decide_eq_true c17
                clear c17
                replace H := Option.bind_eq_some_iff.mp H
                obtain ⟨⟨t328, t329, t330, t331, t332⟩, A180, H⟩ := H
                replace H : (if (rd l2 x11_2) > 0 then (if (rd l2 x11_2) < x10_2 then (stolonlaw10_QuerierLeast.l0 k2 a1 l2 t319 (rd l2 x11_2) (wrap64 (x11_2 + 1)) a0_0 a0_1 a0_2 a0_3 t328 t329 t330 t331 t332) else (stolonlaw10_QuerierLeast.l0 k2 a1 l2 t319 x10_2 (wrap64 (x11_2 + 1)) a0_0 a0_1 a0_2 a0_3 t328 t329 t330 t331 t332)) else (stolonlaw10_QuerierLeast.l0 k2 a1 l2 t319 x10_2 (wrap64 (x11_2 + 1)) a0_0 a0_1 a0_2 a0_3 t328 t329 t330 t331 t332)) = some r := H
                have A18 := Aside0.mk A180
                clear A180
                by_cases c19 : (rd l2 x11_2) > 0
                · rw [if_pos c19] at H
                  have c19b0 : decide (0 < (rd l2 x11_2)) = true := decide_eq_true c19
                  clear c19
                  by_cases c20 : (rd l2 x11_2) < x10_2
                  · rw [if_pos c20] at H
                    have c20b0 : decide ((rd l2 x11_2) < x10_2) = true := decide_eq_true c20
                    clear c20
                    have H' := Aside0.mk H
                    clear H
                    try go_wp2
                    have n0_ := Aside0.mk (blk_drew BK318.out)
                    have n1_ := Aside0.mk (blk_drew BK326.out)
                    have n2_ := Aside0.mk (below_drew1 HB.out)
                    clear BK318
                    clear BK326
                    clear HB
                    have BK318 := n0_
                    have BK326 := n1_
                    have HB := n2_
                    clear n0_ n1_ n2_
                    have p327 : 0 ≤ (x11_2 : Int) := of_decide_eq_true (by first | (with_reducible assumption) | assumption)
                    have q327 : x11_2 < (l2.length : Int) := of_decide_eq_true (by first | (with_reducible assumption) | assumption)
                    obtain ⟨ad327, e327, hx327_0⟩ := Kd.at_int HR2.out x11_2 p327 q327
                    have hw327_0 := hx327_0
                    cases e327
                    replace hx327_0 := (HB.out.cell (World.block_lt_of_cell? w _ hx327_0)).trans hx327_0
                    replace p327 := eq_true p327
                    replace q327 := eq_true q327
                    refine start_ (n := 8) (S := fun w' => w'.cell? ⟨gb318, 0, none⟩ = some (.int .i64 a0_0) ∧ w'.cell? ⟨gb318, 1, none⟩ = some (.int .i64 a0_1) ∧ w'.cell? ⟨gb318, 2, none⟩ = some (.int .i64 a0_2) ∧ w'.cell? ⟨gb318, 3, none⟩ = some (.int .i64 a0_3) ∧ w'.cell? ⟨gb326, 0, none⟩ = some (.int .u32 x327000_2) ∧ w'.cell? ⟨gb326, 1, none⟩ = some (.int .u32 x327001_2) ∧ w'.cell? ⟨gb326, 2, none⟩ = some (.int .i64 x327002_2) ∧ w'.cell? ⟨gb326, 3, none⟩ = some (.int .i64 x327003_2) ∧ w'.cell? ⟨gb326, 4, none⟩ = some (.int .i64 x327004_2) ∧ w'.cell? (ad327.add (x11_2).toNat) = some (.int .u32 (rd l2 x11_2))) (ds := [7]) #[false, false, false, false, false, false, false, false] (by kernel_rfl) rfl rfl ⟨(blk_cell BK318.out 0).trans rfl, (blk_cell BK318.out 1).trans rfl, (blk_cell BK318.out 2).trans rfl, (blk_cell BK318.out 3).trans rfl, (blk_cell BK326.out 0).trans rfl, (blk_cell BK326.out 1).trans rfl, (blk_cell BK326.out 2).trans rfl, (blk_cell BK326.out 3).trans rfl, (blk_cell BK326.out 4).trans rfl, ((HB.out.cell (World.block_lt_of_cell? w _ hw327_0)).trans hw327_0)⟩ (fun hHeld => ?_); refine with_tabW stolonlaw10_QuerierLeast.tab9 stolonlaw10_QuerierLeast.bits9 (fun HT_ HW_ => ?_)
                    generalize wr.drew = w21 at BK318 BK326 HB hx327_0 hHeld ⊢
                    refine pure_ (i := 2) (N := some 36) (v := ?_) (a' := ?_) #[false, false, true, false, false, false, false, false] rfl rfl (any_of HT_.out (by kernel_rfl)) (fun _ _ _ h => h) (Or.inl ⟨by rfl, ?_⟩) ?_ ?_
                    rotate_left
                    · intro w'
                      go_simp
                      with_reducible rfl
                    rotate_left
                    · simp only [Act.put, List.setIfInBounds_toArray, List.set_cons_zero, List.set_cons_succ, i64_w, i32_w]
                      rfl
                    refine pure_ (i := 3) (N := some 37) (v := ?_) (a' := ?_) #[false, false, true, true, false, false, false, false] rfl rfl (any_of HT_.out (by kernel_rfl)) (fun _ _ _ h => h) (Or.inl ⟨by rfl, ?_⟩) ?_ ?_
                    rotate_left
                    · intro w'
                      go_simp
                      with_reducible rfl
                    rotate_left
                    · simp only [Act.put, List.setIfInBounds_toArray, List.set_cons_zero, List.set_cons_succ, i64_w, i32_w]
                      rfl
                    refine pure_ (i := 4) (N := some 38) (v := ?_) (a' := ?_) #[false, false, true, true, true, false, false, false] rfl rfl (any_of HT_.out (by kernel_rfl)) (fun _ _ _ h => h) (Or.inl ⟨by rfl, ?_⟩) ?_ ?_
                    rotate_left
                    · intro w'
                      go_simp
                      with_reducible rfl
                    rotate_left
                    · simp only [Act.put, List.setIfInBounds_toArray, List.set_cons_zero, List.set_cons_succ, i64_w, i32_w]
                      rfl
                    refine take_ (i := 0) (N := some 34) (v := ?_) (a' := ?_) #[true, false, true, true, true, false, false, false] rfl rfl (take_ofW HT_.out HW_.out (by kernel_rfl)) (fun _ _ _ h => h) (Or.inl ⟨by rfl, ?_⟩) hHeld ?_ ?_
                    rotate_left
                    · rintro w' ⟨s0, s1, s2, s3, s4, s5, s6, s7, s8, s9⟩
                      go_simp
                      with_reducible rfl
                    rotate_left
                    · simp only [Act.put, List.setIfInBounds_toArray, List.set_cons_zero, List.set_cons_succ, i64_w, i32_w]
                      rfl
                    refine take_ (i := 1) (N := some 35) (v := ?_) (a' := ?_) #[true, true, true, true, true, false, false, false] rfl rfl (take_ofW HT_.out HW_.out (by kernel_rfl)) (fun _ _ _ h => h) (Or.inl ⟨by rfl, ?_⟩) hHeld ?_ ?_
                    rotate_left
                    · rintro w' ⟨s0, s1, s2, s3, s4, s5, s6, s7, s8, s9⟩
                      go_simp
                      with_reducible rfl
                    rotate_left
                    · simp only [Act.put, List.setIfInBounds_toArray, List.set_cons_zero, List.set_cons_succ, i64_w, i32_w]
                      rfl
                    refine take_ (i := 5) (N := some 39) (v := ?_) (a' := ?_) #[true, true, true, true, true, true, false, false] rfl rfl (take_ofW HT_.out HW_.out (by kernel_rfl)) (fun _ _ _ h => h) (Or.inl ⟨by rfl, ?_⟩) hHeld ?_ ?_
                    rotate_left
                    · rintro w' ⟨s0, s1, s2, s3, s4, s5, s6, s7, s8, s9⟩
                      go_simp
                      with_reducible rfl
                    rotate_left
                    · simp only [Act.put, List.setIfInBounds_toArray, List.set_cons_zero, List.set_cons_succ, i64_w, i32_w]
                      rfl
                    refine one_ (i := 6) (N := some 40) #[true, true, true, true, true, true, true, false] rfl rfl (one_of HT_.out (by kernel_rfl)) (by decide) (fun K hK => ?_)
                    refine goes_ Try.func19 (by kernel_rfl) rfl #[.agg #[.int .i64 a0_0, .int .i64 a0_1, .int .i64 a0_2, .int .i64 a0_3], .agg #[.int .u32 x327000_2, .int .u32 x327001_2, .int .i64 x327002_2, .int .i64 x327003_2, .int .i64 x327004_2], .int .u32 (rd l2 x11_2)] (by rfl) rfl rfl (by (try simp only [List.map_toArray, List.map_cons, List.map_nil]); first | done | rfl | (simp only [List.length_drop, List.length_take]; rfl)) ?_
                    with_reducible refine (querier_Hear.calls a0_0 a0_1 a0_2 a0_3 x327000_2 x327001_2 x327002_2 x327003_2 x327004_2 (rd l2 x11_2) t328 t329 t330 t331 t332 _ A18.out).mono ?_
                    rintro e w22 ⟨rfl, hb⟩
                    refine ⟨_, rfl, ?_⟩
                    have n0_ := Aside0.mk (blk_below (g := gb318) (o := .cells #[.int .i64 a0_0, .int .i64 a0_1, .int .i64 a0_2, .int .i64 a0_3] 23 (0, 0)) (by (with_reducible repeat (first | refine blk_drewN ?_ _ | refine blk_drew ?_ | refine blk_alloc ?_ _)); exact BK318.out) hb)
                    have n1_ := Aside0.mk (blk_below (g := gb326) (o := .cells #[.int .u32 x327000_2, .int .u32 x327001_2, .int .i64 x327002_2, .int .i64 x327003_2, .int .i64 x327004_2] 27 (0, 0)) (by (with_reducible repeat (first | refine blk_drewN ?_ _ | refine blk_drew ?_ | refine blk_alloc ?_ _)); exact BK326.out) hb)
                    have n2_ := Aside0.mk (below_step (by repeat (first | (with_reducible first | exact HB.out | apply below_alloc | apply pw_below_drewN | apply below_drew1 | refine below_set ?_ GE318.out | refine below_set ?_ GE326.out) | exact HB.out)) hb)
                    clear BK318
                    clear BK326
                    clear HB
                    have BK318 := n0_
                    have BK326 := n1_
                    have HB := n2_
                    clear n0_ n1_ n2_
                    (try clear hb)
                    (try clear hb2)
                    (try clear hk)
                    (try clear hi)
                    refine hK.out _ _ ⟨(blk_cell BK318.out 0).trans rfl, (blk_cell BK318.out 1).trans rfl, (blk_cell BK318.out 2).trans rfl, (blk_cell BK318.out 3).trans rfl, (blk_cell BK326.out 0).trans rfl, (blk_cell BK326.out 1).trans rfl, (blk_cell BK326.out 2).trans rfl, (blk_cell BK326.out 3).trans rfl, (blk_cell BK326.out 4).trans rfl, ((HB.out.cell (World.block_lt_of_cell? w _ hw327_0)).trans hw327_0)⟩ (fun hHeld => ?_)
                    clear hK K
                    refine norm_ (a' := ?_) ?_ ?_
                    rotate_left
                    · show Act.put _ (some 40) _ = _
                      simp only [Act.put, List.setIfInBounds_toArray, List.set_cons_zero, List.set_cons_succ, i64_w, i32_w]
                      rfl
                    refine last_ (i := 7) (N := none) #[true, true, true, true, true, true, true, true] rfl rfl (one_of HT_.out (by kernel_rfl)) (by decide) (fun K hK => ?_)
                    have hs23 : w22.cell? ⟨gb326, 0, none⟩ = some (.int .u32 x327000_2) := (blk_cell BK326.out 0).trans rfl
                    have hfs23 := blk_frozen BK326.out 0
                    have hns23_0 := NB318_326.out
                    have hms23_0 := NB326_318.out
                    have hs24 : w22.cell? ⟨gb326, 1, none⟩ = some (.int .u32 x327001_2) := (blk_cell BK326.out 1).trans rfl
                    have hfs24 := blk_frozen BK326.out 1
                    have hns24_0 := NB318_326.out
                    have hms24_0 := NB326_318.out
                    have hs25 : w22.cell? ⟨gb326, 2, none⟩ = some (.int .i64 x327002_2) := (blk_cell BK326.out 2).trans rfl
                    have hfs25 := blk_frozen BK326.out 2
                    have hns25_0 := NB318_326.out
                    have hms25_0 := NB326_318.out
                    have hs26 : w22.cell? ⟨gb326, 3, none⟩ = some (.int .i64 x327003_2) := (blk_cell BK326.out 3).trans rfl
                    have hfs26 := blk_frozen BK326.out 3
                    have hns26_0 := NB318_326.out
                    have hms26_0 := NB326_318.out
                    have hs27 : w22.cell? ⟨gb326, 4, none⟩ = some (.int .i64 x327004_2) := (blk_cell BK326.out 4).trans rfl
                    have hfs27 := blk_frozen BK326.out 4
                    have hns27_0 := NB318_326.out
                    have hms27_0 := NB326_318.out
                    refine skip_ (w1 := ?_) (by rfl) rfl ?_ ?_
                    rotate_left
                    · go_simp
                      rfl
                    refine hK.out _ _ ?_
                    clear hK K
                    refine done_ (done_of HT_.out (by kernel_rfl)) ?_
                    have p333 : 0 ≤ (x11_2 : Int) := of_decide_eq_true (by first | (with_reducible assumption) | assumption)
                    have q333 : x11_2 < (l2.length : Int) := of_decide_eq_true (by first | (with_reducible assumption) | assumption)
                    obtain ⟨ad333, e333, hx333_0⟩ := Kd.at_int HR2.out x11_2 p333 q333
                    obtain rfl : ad327 = ad333 := (by injection e333)
                    have hn333_0 : ad327.block ≠ gb326 := Nat.ne_of_lt (Nat.lt_of_lt_of_le (by have := World.block_lt_of_cell? _ _ hx333_0; first | rwa [add_block] at this | exact this) GW326.out)
                    have hn333_1 : ad327.block ≠ gb326 := Nat.ne_of_lt (Nat.lt_of_lt_of_le (by have := World.block_lt_of_cell? _ _ hx333_0; first | rwa [add_block] at this | exact this) GW326.out)
                    have hn333_2 : ad327.block ≠ gb326 := Nat.ne_of_lt (Nat.lt_of_lt_of_le (by have := World.block_lt_of_cell? _ _ hx333_0; first | rwa [add_block] at this | exact this) GW326.out)
                    have hn333_3 : ad327.block ≠ gb326 := Nat.ne_of_lt (Nat.lt_of_lt_of_le (by have := World.block_lt_of_cell? _ _ hx333_0; first | rwa [add_block] at this | exact this) GW326.out)
                    have hn333_4 : ad327.block ≠ gb326 := Nat.ne_of_lt (Nat.lt_of_lt_of_le (by have := World.block_lt_of_cell? _ _ hx333_0; first | rwa [add_block] at this | exact this) GW326.out)
                    replace hx333_0 := (HB.out.cell (World.block_lt_of_cell? w _ hx333_0)).trans hx333_0
                    replace hx333_0 := (cell_far (p := ⟨gb326, 0, none⟩) (by first | (rw [add_block]; exact hn333_0) | (show (Addr.add _ _).block ≠ _; rw [add_block]; exact hn333_0) | exact hn333_0) (.int .u32 t328)).trans hx333_0
                    replace hx333_0 := (cell_far (p := ⟨gb326, 1, none⟩) (by first | (rw [add_block]; exact hn333_1) | (show (Addr.add _ _).block ≠ _; rw [add_block]; exact hn333_1) | exact hn333_1) (.int .u32 t329)).trans hx333_0
                    replace hx333_0 := (cell_far (p := ⟨gb326, 2, none⟩) (by first | (rw [add_block]; exact hn333_2) | (show (Addr.add _ _).block ≠ _; rw [add_block]; exact hn333_2) | exact hn333_2) (.int .i64 t330)).trans hx333_0
                    replace hx333_0 := (cell_far (p := ⟨gb326, 3, none⟩) (by first | (rw [add_block]; exact hn333_3) | (show (Addr.add _ _).block ≠ _; rw [add_block]; exact hn333_3) | exact hn333_3) (.int .i64 t331)).trans hx333_0
                    replace hx333_0 := (cell_far (p := ⟨gb326, 4, none⟩) (by first | (rw [add_block]; exact hn333_4) | (show (Addr.add _ _).block ≠ _; rw [add_block]; exact hn333_4) | exact hn333_4) (.int .i64 t332)).trans hx333_0
                    clear hn333_0
                    clear hn333_1
                    clear hn333_2
                    clear hn333_3
                    clear hn333_4
                    replace p333 := eq_true p333
                    replace q333 := eq_true q333
                    have p334 : 0 ≤ (x11_2 : Int) := of_decide_eq_true (by first | (with_reducible assumption) | assumption)
                    have q334 : x11_2 < (l2.length : Int) := of_decide_eq_true (by first | (with_reducible assumption) | assumption)
                    obtain ⟨ad334, e334, hx334_0⟩ := Kd.at_int HR2.out x11_2 p334 q334
                    obtain rfl : ad327 = ad334 := (by injection e334)
                    have hn334_0 : ad327.block ≠ gb326 := Nat.ne_of_lt (Nat.lt_of_lt_of_le (by have := World.block_lt_of_cell? _ _ hx334_0; first | rwa [add_block] at this | exact this) GW326.out)
                    have hn334_1 : ad327.block ≠ gb326 := Nat.ne_of_lt (Nat.lt_of_lt_of_le (by have := World.block_lt_of_cell? _ _ hx334_0; first | rwa [add_block] at this | exact this) GW326.out)
                    have hn334_2 : ad327.block ≠ gb326 := Nat.ne_of_lt (Nat.lt_of_lt_of_le (by have := World.block_lt_of_cell? _ _ hx334_0; first | rwa [add_block] at this | exact this) GW326.out)
                    have hn334_3 : ad327.block ≠ gb326 := Nat.ne_of_lt (Nat.lt_of_lt_of_le (by have := World.block_lt_of_cell? _ _ hx334_0; first | rwa [add_block] at this | exact this) GW326.out)
                    have hn334_4 : ad327.block ≠ gb326 := Nat.ne_of_lt (Nat.lt_of_lt_of_le (by have := World.block_lt_of_cell? _ _ hx334_0; first | rwa [add_block] at this | exact this) GW326.out)
                    replace hx334_0 := (HB.out.cell (World.block_lt_of_cell? w _ hx334_0)).trans hx334_0
                    replace hx334_0 := (cell_far (p := ⟨gb326, 0, none⟩) (by first | (rw [add_block]; exact hn334_0) | (show (Addr.add _ _).block ≠ _; rw [add_block]; exact hn334_0) | exact hn334_0) (.int .u32 t328)).trans hx334_0
                    replace hx334_0 := (cell_far (p := ⟨gb326, 1, none⟩) (by first | (rw [add_block]; exact hn334_1) | (show (Addr.add _ _).block ≠ _; rw [add_block]; exact hn334_1) | exact hn334_1) (.int .u32 t329)).trans hx334_0
                    replace hx334_0 := (cell_far (p := ⟨gb326, 2, none⟩) (by first | (rw [add_block]; exact hn334_2) | (show (Addr.add _ _).block ≠ _; rw [add_block]; exact hn334_2) | exact hn334_2) (.int .i64 t330)).trans hx334_0
                    replace hx334_0 := (cell_far (p := ⟨gb326, 3, none⟩) (by first | (rw [add_block]; exact hn334_3) | (show (Addr.add _ _).block ≠ _; rw [add_block]; exact hn334_3) | exact hn334_3) (.int .i64 t331)).trans hx334_0
                    replace hx334_0 := (cell_far (p := ⟨gb326, 4, none⟩) (by first | (rw [add_block]; exact hn334_4) | (show (Addr.add _ _).block ≠ _; rw [add_block]; exact hn334_4) | exact hn334_4) (.int .i64 t332)).trans hx334_0
                    clear hn334_0
                    clear hn334_1
                    clear hn334_2
                    clear hn334_3
                    clear hn334_4
                    replace p334 := eq_true p334
                    replace q334 := eq_true q334
                    have p335 : 0 ≤ (x11_2 : Int) := of_decide_eq_true (by first | (with_reducible assumption) | assumption)
                    have q335 : x11_2 < (l2.length : Int) := of_decide_eq_true (by first | (with_reducible assumption) | assumption)
                    obtain ⟨ad335, e335, hx335_0⟩ := Kd.at_int HR2.out x11_2 p335 q335
                    obtain rfl : ad327 = ad335 := (by injection e335)
                    have hn335_0 : ad327.block ≠ gb326 := Nat.ne_of_lt (Nat.lt_of_lt_of_le (by have := World.block_lt_of_cell? _ _ hx335_0; first | rwa [add_block] at this | exact this) GW326.out)
                    have hn335_1 : ad327.block ≠ gb326 := Nat.ne_of_lt (Nat.lt_of_lt_of_le (by have := World.block_lt_of_cell? _ _ hx335_0; first | rwa [add_block] at this | exact this) GW326.out)
                    have hn335_2 : ad327.block ≠ gb326 := Nat.ne_of_lt (Nat.lt_of_lt_of_le (by have := World.block_lt_of_cell? _ _ hx335_0; first | rwa [add_block] at this | exact this) GW326.out)
                    have hn335_3 : ad327.block ≠ gb326 := Nat.ne_of_lt (Nat.lt_of_lt_of_le (by have := World.block_lt_of_cell? _ _ hx335_0; first | rwa [add_block] at this | exact this) GW326.out)
                    have hn335_4 : ad327.block ≠ gb326 := Nat.ne_of_lt (Nat.lt_of_lt_of_le (by have := World.block_lt_of_cell? _ _ hx335_0; first | rwa [add_block] at this | exact this) GW326.out)
                    replace hx335_0 := (HB.out.cell (World.block_lt_of_cell? w _ hx335_0)).trans hx335_0
                    replace hx335_0 := (cell_far (p := ⟨gb326, 0, none⟩) (by first | (rw [add_block]; exact hn335_0) | (show (Addr.add _ _).block ≠ _; rw [add_block]; exact hn335_0) | exact hn335_0) (.int .u32 t328)).trans hx335_0
                    replace hx335_0 := (cell_far (p := ⟨gb326, 1, none⟩) (by first | (rw [add_block]; exact hn335_1) | (show (Addr.add _ _).block ≠ _; rw [add_block]; exact hn335_1) | exact hn335_1) (.int .u32 t329)).trans hx335_0
                    replace hx335_0 := (cell_far (p := ⟨gb326, 2, none⟩) (by first | (rw [add_block]; exact hn335_2) | (show (Addr.add _ _).block ≠ _; rw [add_block]; exact hn335_2) | exact hn335_2) (.int .i64 t330)).trans hx335_0
                    replace hx335_0 := (cell_far (p := ⟨gb326, 3, none⟩) (by first | (rw [add_block]; exact hn335_3) | (show (Addr.add _ _).block ≠ _; rw [add_block]; exact hn335_3) | exact hn335_3) (.int .i64 t331)).trans hx335_0
                    replace hx335_0 := (cell_far (p := ⟨gb326, 4, none⟩) (by first | (rw [add_block]; exact hn335_4) | (show (Addr.add _ _).block ≠ _; rw [add_block]; exact hn335_4) | exact hn335_4) (.int .i64 t332)).trans hx335_0
                    clear hn335_0
                    clear hn335_1
                    clear hn335_2
                    clear hn335_3
                    clear hn335_4
                    replace p335 := eq_true p335
                    replace q335 := eq_true q335
                    try go_wp2
                    go_roundg k2
                    case measure => have := HJ5.out; have := HK2.out; omega
                    case rel => exact ⟨(rd l2 x11_2), (wrap64 (x11_2 + 1)), (t328), (t329), (t330), (t331), (t332), (by first | rfl | (simp; done) | (simp [*]; done)), (by first | rfl | (simp; done) | (simp [*]; done)), H', ⟨by have := HJ5.out; have := HK2.out; omega⟩, ⟨by (with_reducible repeat (first | refine blk_drewN ?_ _ | refine blk_drew ?_ | refine blk_alloc ?_ _)); refine blk_far ?_ NB318_326.out _; (with_reducible repeat (first | refine blk_drewN ?_ _ | refine blk_drew ?_ | refine blk_alloc ?_ _)); refine blk_far ?_ NB318_326.out _; (with_reducible repeat (first | refine blk_drewN ?_ _ | refine blk_drew ?_ | refine blk_alloc ?_ _)); refine blk_far ?_ NB318_326.out _; (with_reducible repeat (first | refine blk_drewN ?_ _ | refine blk_drew ?_ | refine blk_alloc ?_ _)); refine blk_far ?_ NB318_326.out _; (with_reducible repeat (first | refine blk_drewN ?_ _ | refine blk_drew ?_ | refine blk_alloc ?_ _)); refine blk_far ?_ NB318_326.out _; (with_reducible repeat (first | refine blk_drewN ?_ _ | refine blk_drew ?_ | refine blk_alloc ?_ _)); exact BK318.out⟩, ⟨by (with_reducible repeat (first | refine blk_drewN ?_ _ | refine blk_drew ?_ | refine blk_alloc ?_ _)); refine blk_put (cs := #[.int .u32 t328, .int .u32 t329, .int .i64 t330, .int .i64 t331, .int .i64 x327004_2]) ?_ 4 _ rfl; (with_reducible repeat (first | refine blk_drewN ?_ _ | refine blk_drew ?_ | refine blk_alloc ?_ _)); refine blk_put (cs := #[.int .u32 t328, .int .u32 t329, .int .i64 t330, .int .i64 x327003_2, .int .i64 x327004_2]) ?_ 3 _ rfl; (with_reducible repeat (first | refine blk_drewN ?_ _ | refine blk_drew ?_ | refine blk_alloc ?_ _)); refine blk_put (cs := #[.int .u32 t328, .int .u32 t329, .int .i64 x327002_2, .int .i64 x327003_2, .int .i64 x327004_2]) ?_ 2 _ rfl; (with_reducible repeat (first | refine blk_drewN ?_ _ | refine blk_drew ?_ | refine blk_alloc ?_ _)); refine blk_put (cs := #[.int .u32 t328, .int .u32 x327001_2, .int .i64 x327002_2, .int .i64 x327003_2, .int .i64 x327004_2]) ?_ 1 _ rfl; (with_reducible repeat (first | refine blk_drewN ?_ _ | refine blk_drew ?_ | refine blk_alloc ?_ _)); refine blk_put (cs := #[.int .u32 x327000_2, .int .u32 x327001_2, .int .i64 x327002_2, .int .i64 x327003_2, .int .i64 x327004_2]) ?_ 0 _ rfl; (with_reducible repeat (first | refine blk_drewN ?_ _ | refine blk_drew ?_ | refine blk_alloc ?_ _)); exact BK326.out⟩, ⟨by repeat (first | (with_reducible first | exact HB.out | apply below_alloc | apply pw_below_drewN | apply below_drew1 | refine below_set ?_ GE318.out | refine below_set ?_ GE326.out) | exact HB.out)⟩⟩
                  · rw [if_neg c20] at H
                    have c20b0 : decide ((rd l2 x11_2) < x10_2) = false := decide_eq_false c20
                    clear c20
                    have H' := Aside0.mk H
                    clear H
                    try go_wp2
                    have n0_ := Aside0.mk (blk_drew BK318.out)
                    have n1_ := Aside0.mk (blk_drew BK326.out)
                    have n2_ := Aside0.mk (below_drew1 HB.out)
                    clear BK318
                    clear BK326
                    clear HB
                    have BK318 := n0_
                    have BK326 := n1_
                    have HB := n2_
                    clear n0_ n1_ n2_
                    have p327 : 0 ≤ (x11_2 : Int) := of_decide_eq_true (by first | (with_reducible assumption) | assumption)
                    have q327 : x11_2 < (l2.length : Int) := of_decide_eq_true (by first | (with_reducible assumption) | assumption)
                    obtain ⟨ad327, e327, hx327_0⟩ := Kd.at_int HR2.out x11_2 p327 q327
                    have hw327_0 := hx327_0
                    cases e327
                    replace hx327_0 := (HB.out.cell (World.block_lt_of_cell? w _ hx327_0)).trans hx327_0
                    replace p327 := eq_true p327
                    replace q327 := eq_true q327
                    refine start_ (n := 8) (S := fun w' => w'.cell? ⟨gb318, 0, none⟩ = some (.int .i64 a0_0) ∧ w'.cell? ⟨gb318, 1, none⟩ = some (.int .i64 a0_1) ∧ w'.cell? ⟨gb318, 2, none⟩ = some (.int .i64 a0_2) ∧ w'.cell? ⟨gb318, 3, none⟩ = some (.int .i64 a0_3) ∧ w'.cell? ⟨gb326, 0, none⟩ = some (.int .u32 x327000_2) ∧ w'.cell? ⟨gb326, 1, none⟩ = some (.int .u32 x327001_2) ∧ w'.cell? ⟨gb326, 2, none⟩ = some (.int .i64 x327002_2) ∧ w'.cell? ⟨gb326, 3, none⟩ = some (.int .i64 x327003_2) ∧ w'.cell? ⟨gb326, 4, none⟩ = some (.int .i64 x327004_2) ∧ w'.cell? (ad327.add (x11_2).toNat) = some (.int .u32 (rd l2 x11_2))) (ds := [7]) #[false, false, false, false, false, false, false, false] (by kernel_rfl) rfl rfl ⟨(blk_cell BK318.out 0).trans rfl, (blk_cell BK318.out 1).trans rfl, (blk_cell BK318.out 2).trans rfl, (blk_cell BK318.out 3).trans rfl, (blk_cell BK326.out 0).trans rfl, (blk_cell BK326.out 1).trans rfl, (blk_cell BK326.out 2).trans rfl, (blk_cell BK326.out 3).trans rfl, (blk_cell BK326.out 4).trans rfl, ((HB.out.cell (World.block_lt_of_cell? w _ hw327_0)).trans hw327_0)⟩ (fun hHeld => ?_); refine with_tabW stolonlaw10_QuerierLeast.tab9 stolonlaw10_QuerierLeast.bits9 (fun HT_ HW_ => ?_)
                    generalize wr.drew = w28 at BK318 BK326 HB hx327_0 hHeld ⊢
                    refine pure_ (i := 2) (N := some 36) (v := ?_) (a' := ?_) #[false, false, true, false, false, false, false, false] rfl rfl (any_of HT_.out (by kernel_rfl)) (fun _ _ _ h => h) (Or.inl ⟨by rfl, ?_⟩) ?_ ?_
                    rotate_left
                    · intro w'
                      go_simp
                      with_reducible rfl
                    rotate_left
                    · simp only [Act.put, List.setIfInBounds_toArray, List.set_cons_zero, List.set_cons_succ, i64_w, i32_w]
                      rfl
                    refine pure_ (i := 3) (N := some 37) (v := ?_) (a' := ?_) #[false, false, true, true, false, false, false, false] rfl rfl (any_of HT_.out (by kernel_rfl)) (fun _ _ _ h => h) (Or.inl ⟨by rfl, ?_⟩) ?_ ?_
                    rotate_left
                    · intro w'
                      go_simp
                      with_reducible rfl
                    rotate_left
                    · simp only [Act.put, List.setIfInBounds_toArray, List.set_cons_zero, List.set_cons_succ, i64_w, i32_w]
                      rfl
                    refine pure_ (i := 4) (N := some 38) (v := ?_) (a' := ?_) #[false, false, true, true, true, false, false, false] rfl rfl (any_of HT_.out (by kernel_rfl)) (fun _ _ _ h => h) (Or.inl ⟨by rfl, ?_⟩) ?_ ?_
                    rotate_left
                    · intro w'
                      go_simp
                      with_reducible rfl
                    rotate_left
                    · simp only [Act.put, List.setIfInBounds_toArray, List.set_cons_zero, List.set_cons_succ, i64_w, i32_w]
                      rfl
                    refine take_ (i := 0) (N := some 34) (v := ?_) (a' := ?_) #[true, false, true, true, true, false, false, false] rfl rfl (take_ofW HT_.out HW_.out (by kernel_rfl)) (fun _ _ _ h => h) (Or.inl ⟨by rfl, ?_⟩) hHeld ?_ ?_
                    rotate_left
                    · rintro w' ⟨s0, s1, s2, s3, s4, s5, s6, s7, s8, s9⟩
                      go_simp
                      with_reducible rfl
                    rotate_left
                    · simp only [Act.put, List.setIfInBounds_toArray, List.set_cons_zero, List.set_cons_succ, i64_w, i32_w]
                      rfl
                    refine take_ (i := 1) (N := some 35) (v := ?_) (a' := ?_) #[true, true, true, true, true, false, false, false] rfl rfl (take_ofW HT_.out HW_.out (by kernel_rfl)) (fun _ _ _ h => h) (Or.inl ⟨by rfl, ?_⟩) hHeld ?_ ?_
                    rotate_left
                    · rintro w' ⟨s0, s1, s2, s3, s4, s5, s6, s7, s8, s9⟩
                      go_simp
                      with_reducible rfl
                    rotate_left
                    · simp only [Act.put, List.setIfInBounds_toArray, List.set_cons_zero, List.set_cons_succ, i64_w, i32_w]
                      rfl
                    refine take_ (i := 5) (N := some 39) (v := ?_) (a' := ?_) #[true, true, true, true, true, true, false, false] rfl rfl (take_ofW HT_.out HW_.out (by kernel_rfl)) (fun _ _ _ h => h) (Or.inl ⟨by rfl, ?_⟩) hHeld ?_ ?_
                    rotate_left
                    · rintro w' ⟨s0, s1, s2, s3, s4, s5, s6, s7, s8, s9⟩
                      go_simp
                      with_reducible rfl
                    rotate_left
                    · simp only [Act.put, List.setIfInBounds_toArray, List.set_cons_zero, List.set_cons_succ, i64_w, i32_w]
                      rfl
                    refine one_ (i := 6) (N := some 40) #[true, true, true, true, true, true, true, false] rfl rfl (one_of HT_.out (by kernel_rfl)) (by decide) (fun K hK => ?_)
                    refine goes_ Try.func19 (by kernel_rfl) rfl #[.agg #[.int .i64 a0_0, .int .i64 a0_1, .int .i64 a0_2, .int .i64 a0_3], .agg #[.int .u32 x327000_2, .int .u32 x327001_2, .int .i64 x327002_2, .int .i64 x327003_2, .int .i64 x327004_2], .int .u32 (rd l2 x11_2)] (by rfl) rfl rfl (by (try simp only [List.map_toArray, List.map_cons, List.map_nil]); first | done | rfl | (simp only [List.length_drop, List.length_take]; rfl)) ?_
                    with_reducible refine (querier_Hear.calls a0_0 a0_1 a0_2 a0_3 x327000_2 x327001_2 x327002_2 x327003_2 x327004_2 (rd l2 x11_2) t328 t329 t330 t331 t332 _ A18.out).mono ?_
                    rintro e w29 ⟨rfl, hb⟩
                    refine ⟨_, rfl, ?_⟩
                    have n0_ := Aside0.mk (blk_below (g := gb318) (o := .cells #[.int .i64 a0_0, .int .i64 a0_1, .int .i64 a0_2, .int .i64 a0_3] 23 (0, 0)) (by (with_reducible repeat (first | refine blk_drewN ?_ _ | refine blk_drew ?_ | refine blk_alloc ?_ _)); exact BK318.out) hb)
                    have n1_ := Aside0.mk (blk_below (g := gb326) (o := .cells #[.int .u32 x327000_2, .int .u32 x327001_2, .int .i64 x327002_2, .int .i64 x327003_2, .int .i64 x327004_2] 27 (0, 0)) (by (with_reducible repeat (first | refine blk_drewN ?_ _ | refine blk_drew ?_ | refine blk_alloc ?_ _)); exact BK326.out) hb)
                    have n2_ := Aside0.mk (below_step (by repeat (first | (with_reducible first | exact HB.out | apply below_alloc | apply pw_below_drewN | apply below_drew1 | refine below_set ?_ GE318.out | refine below_set ?_ GE326.out) | exact HB.out)) hb)
                    clear BK318
                    clear BK326
                    clear HB
                    have BK318 := n0_
                    have BK326 := n1_
                    have HB := n2_
                    clear n0_ n1_ n2_
                    (try clear hb)
                    (try clear hb2)
                    (try clear hk)
                    (try clear hi)
                    refine hK.out _ _ ⟨(blk_cell BK318.out 0).trans rfl, (blk_cell BK318.out 1).trans rfl, (blk_cell BK318.out 2).trans rfl, (blk_cell BK318.out 3).trans rfl, (blk_cell BK326.out 0).trans rfl, (blk_cell BK326.out 1).trans rfl, (blk_cell BK326.out 2).trans rfl, (blk_cell BK326.out 3).trans rfl, (blk_cell BK326.out 4).trans rfl, ((HB.out.cell (World.block_lt_of_cell? w _ hw327_0)).trans hw327_0)⟩ (fun hHeld => ?_)
                    clear hK K
                    refine norm_ (a' := ?_) ?_ ?_
                    rotate_left
                    · show Act.put _ (some 40) _ = _
                      simp only [Act.put, List.setIfInBounds_toArray, List.set_cons_zero, List.set_cons_succ, i64_w, i32_w]
                      rfl
                    refine last_ (i := 7) (N := none) #[true, true, true, true, true, true, true, true] rfl rfl (one_of HT_.out (by kernel_rfl)) (by decide) (fun K hK => ?_)
                    have hs30 : w29.cell? ⟨gb326, 0, none⟩ = some (.int .u32 x327000_2) := (blk_cell BK326.out 0).trans rfl
                    have hfs30 := blk_frozen BK326.out 0
                    have hns30_0 := NB318_326.out
                    have hms30_0 := NB326_318.out
                    have hs31 : w29.cell? ⟨gb326, 1, none⟩ = some (.int .u32 x327001_2) := (blk_cell BK326.out 1).trans rfl
                    have hfs31 := blk_frozen BK326.out 1
                    have hns31_0 := NB318_326.out
                    have hms31_0 := NB326_318.out
                    have hs32 : w29.cell? ⟨gb326, 2, none⟩ = some (.int .i64 x327002_2) := (blk_cell BK326.out 2).trans rfl
                    have hfs32 := blk_frozen BK326.out 2
                    have hns32_0 := NB318_326.out
                    have hms32_0 := NB326_318.out
                    have hs33 : w29.cell? ⟨gb326, 3, none⟩ = some (.int .i64 x327003_2) := (blk_cell BK326.out 3).trans rfl
                    have hfs33 := blk_frozen BK326.out 3
                    have hns33_0 := NB318_326.out
                    have hms33_0 := NB326_318.out
                    have hs34 : w29.cell? ⟨gb326, 4, none⟩ = some (.int .i64 x327004_2) := (blk_cell BK326.out 4).trans rfl
                    have hfs34 := blk_frozen BK326.out 4
                    have hns34_0 := NB318_326.out
                    have hms34_0 := NB326_318.out
                    refine skip_ (w1 := ?_) (by rfl) rfl ?_ ?_
                    rotate_left
                    · go_simp
                      rfl
                    refine hK.out _ _ ?_
                    clear hK K
                    refine done_ (done_of HT_.out (by kernel_rfl)) ?_
                    have p333 : 0 ≤ (x11_2 : Int) := of_decide_eq_true (by first | (with_reducible assumption) | assumption)
                    have q333 : x11_2 < (l2.length : Int) := of_decide_eq_true (by first | (with_reducible assumption) | assumption)
                    obtain ⟨ad333, e333, hx333_0⟩ := Kd.at_int HR2.out x11_2 p333 q333
                    obtain rfl : ad327 = ad333 := (by injection e333)
                    have hn333_0 : ad327.block ≠ gb326 := Nat.ne_of_lt (Nat.lt_of_lt_of_le (by have := World.block_lt_of_cell? _ _ hx333_0; first | rwa [add_block] at this | exact this) GW326.out)
                    have hn333_1 : ad327.block ≠ gb326 := Nat.ne_of_lt (Nat.lt_of_lt_of_le (by have := World.block_lt_of_cell? _ _ hx333_0; first | rwa [add_block] at this | exact this) GW326.out)
                    have hn333_2 : ad327.block ≠ gb326 := Nat.ne_of_lt (Nat.lt_of_lt_of_le (by have := World.block_lt_of_cell? _ _ hx333_0; first | rwa [add_block] at this | exact this) GW326.out)
                    have hn333_3 : ad327.block ≠ gb326 := Nat.ne_of_lt (Nat.lt_of_lt_of_le (by have := World.block_lt_of_cell? _ _ hx333_0; first | rwa [add_block] at this | exact this) GW326.out)
                    have hn333_4 : ad327.block ≠ gb326 := Nat.ne_of_lt (Nat.lt_of_lt_of_le (by have := World.block_lt_of_cell? _ _ hx333_0; first | rwa [add_block] at this | exact this) GW326.out)
                    replace hx333_0 := (HB.out.cell (World.block_lt_of_cell? w _ hx333_0)).trans hx333_0
                    replace hx333_0 := (cell_far (p := ⟨gb326, 0, none⟩) (by first | (rw [add_block]; exact hn333_0) | (show (Addr.add _ _).block ≠ _; rw [add_block]; exact hn333_0) | exact hn333_0) (.int .u32 t328)).trans hx333_0
                    replace hx333_0 := (cell_far (p := ⟨gb326, 1, none⟩) (by first | (rw [add_block]; exact hn333_1) | (show (Addr.add _ _).block ≠ _; rw [add_block]; exact hn333_1) | exact hn333_1) (.int .u32 t329)).trans hx333_0
                    replace hx333_0 := (cell_far (p := ⟨gb326, 2, none⟩) (by first | (rw [add_block]; exact hn333_2) | (show (Addr.add _ _).block ≠ _; rw [add_block]; exact hn333_2) | exact hn333_2) (.int .i64 t330)).trans hx333_0
                    replace hx333_0 := (cell_far (p := ⟨gb326, 3, none⟩) (by first | (rw [add_block]; exact hn333_3) | (show (Addr.add _ _).block ≠ _; rw [add_block]; exact hn333_3) | exact hn333_3) (.int .i64 t331)).trans hx333_0
                    replace hx333_0 := (cell_far (p := ⟨gb326, 4, none⟩) (by first | (rw [add_block]; exact hn333_4) | (show (Addr.add _ _).block ≠ _; rw [add_block]; exact hn333_4) | exact hn333_4) (.int .i64 t332)).trans hx333_0
                    clear hn333_0
                    clear hn333_1
                    clear hn333_2
                    clear hn333_3
                    clear hn333_4
                    replace p333 := eq_true p333
                    replace q333 := eq_true q333
                    have p334 : 0 ≤ (x11_2 : Int) := of_decide_eq_true (by first | (with_reducible assumption) | assumption)
                    have q334 : x11_2 < (l2.length : Int) := of_decide_eq_true (by first | (with_reducible assumption) | assumption)
                    obtain ⟨ad334, e334, hx334_0⟩ := Kd.at_int HR2.out x11_2 p334 q334
                    obtain rfl : ad327 = ad334 := (by injection e334)
                    have hn334_0 : ad327.block ≠ gb326 := Nat.ne_of_lt (Nat.lt_of_lt_of_le (by have := World.block_lt_of_cell? _ _ hx334_0; first | rwa [add_block] at this | exact this) GW326.out)
                    have hn334_1 : ad327.block ≠ gb326 := Nat.ne_of_lt (Nat.lt_of_lt_of_le (by have := World.block_lt_of_cell? _ _ hx334_0; first | rwa [add_block] at this | exact this) GW326.out)
                    have hn334_2 : ad327.block ≠ gb326 := Nat.ne_of_lt (Nat.lt_of_lt_of_le (by have := World.block_lt_of_cell? _ _ hx334_0; first | rwa [add_block] at this | exact this) GW326.out)
                    have hn334_3 : ad327.block ≠ gb326 := Nat.ne_of_lt (Nat.lt_of_lt_of_le (by have := World.block_lt_of_cell? _ _ hx334_0; first | rwa [add_block] at this | exact this) GW326.out)
                    have hn334_4 : ad327.block ≠ gb326 := Nat.ne_of_lt (Nat.lt_of_lt_of_le (by have := World.block_lt_of_cell? _ _ hx334_0; first | rwa [add_block] at this | exact this) GW326.out)
                    replace hx334_0 := (HB.out.cell (World.block_lt_of_cell? w _ hx334_0)).trans hx334_0
                    replace hx334_0 := (cell_far (p := ⟨gb326, 0, none⟩) (by first | (rw [add_block]; exact hn334_0) | (show (Addr.add _ _).block ≠ _; rw [add_block]; exact hn334_0) | exact hn334_0) (.int .u32 t328)).trans hx334_0
                    replace hx334_0 := (cell_far (p := ⟨gb326, 1, none⟩) (by first | (rw [add_block]; exact hn334_1) | (show (Addr.add _ _).block ≠ _; rw [add_block]; exact hn334_1) | exact hn334_1) (.int .u32 t329)).trans hx334_0
                    replace hx334_0 := (cell_far (p := ⟨gb326, 2, none⟩) (by first | (rw [add_block]; exact hn334_2) | (show (Addr.add _ _).block ≠ _; rw [add_block]; exact hn334_2) | exact hn334_2) (.int .i64 t330)).trans hx334_0
                    replace hx334_0 := (cell_far (p := ⟨gb326, 3, none⟩) (by first | (rw [add_block]; exact hn334_3) | (show (Addr.add _ _).block ≠ _; rw [add_block]; exact hn334_3) | exact hn334_3) (.int .i64 t331)).trans hx334_0
                    replace hx334_0 := (cell_far (p := ⟨gb326, 4, none⟩) (by first | (rw [add_block]; exact hn334_4) | (show (Addr.add _ _).block ≠ _; rw [add_block]; exact hn334_4) | exact hn334_4) (.int .i64 t332)).trans hx334_0
                    clear hn334_0
                    clear hn334_1
                    clear hn334_2
                    clear hn334_3
                    clear hn334_4
                    replace p334 := eq_true p334
                    replace q334 := eq_true q334
                    try go_wp2
                    go_roundg k2
                    case measure => have := HJ5.out; have := HK2.out; omega
                    case rel => exact ⟨(x10_2), (wrap64 (x11_2 + 1)), (t328), (t329), (t330), (t331), (t332), (by first | rfl | (simp; done) | (simp [*]; done)), (by first | rfl | (simp; done) | (simp [*]; done)), H', ⟨by have := HJ5.out; have := HK2.out; omega⟩, ⟨by (with_reducible repeat (first | refine blk_drewN ?_ _ | refine blk_drew ?_ | refine blk_alloc ?_ _)); refine blk_far ?_ NB318_326.out _; (with_reducible repeat (first | refine blk_drewN ?_ _ | refine blk_drew ?_ | refine blk_alloc ?_ _)); refine blk_far ?_ NB318_326.out _; (with_reducible repeat (first | refine blk_drewN ?_ _ | refine blk_drew ?_ | refine blk_alloc ?_ _)); refine blk_far ?_ NB318_326.out _; (with_reducible repeat (first | refine blk_drewN ?_ _ | refine blk_drew ?_ | refine blk_alloc ?_ _)); refine blk_far ?_ NB318_326.out _; (with_reducible repeat (first | refine blk_drewN ?_ _ | refine blk_drew ?_ | refine blk_alloc ?_ _)); refine blk_far ?_ NB318_326.out _; (with_reducible repeat (first | refine blk_drewN ?_ _ | refine blk_drew ?_ | refine blk_alloc ?_ _)); exact BK318.out⟩, ⟨by (with_reducible repeat (first | refine blk_drewN ?_ _ | refine blk_drew ?_ | refine blk_alloc ?_ _)); refine blk_put (cs := #[.int .u32 t328, .int .u32 t329, .int .i64 t330, .int .i64 t331, .int .i64 x327004_2]) ?_ 4 _ rfl; (with_reducible repeat (first | refine blk_drewN ?_ _ | refine blk_drew ?_ | refine blk_alloc ?_ _)); refine blk_put (cs := #[.int .u32 t328, .int .u32 t329, .int .i64 t330, .int .i64 x327003_2, .int .i64 x327004_2]) ?_ 3 _ rfl; (with_reducible repeat (first | refine blk_drewN ?_ _ | refine blk_drew ?_ | refine blk_alloc ?_ _)); refine blk_put (cs := #[.int .u32 t328, .int .u32 t329, .int .i64 x327002_2, .int .i64 x327003_2, .int .i64 x327004_2]) ?_ 2 _ rfl; (with_reducible repeat (first | refine blk_drewN ?_ _ | refine blk_drew ?_ | refine blk_alloc ?_ _)); refine blk_put (cs := #[.int .u32 t328, .int .u32 x327001_2, .int .i64 x327002_2, .int .i64 x327003_2, .int .i64 x327004_2]) ?_ 1 _ rfl; (with_reducible repeat (first | refine blk_drewN ?_ _ | refine blk_drew ?_ | refine blk_alloc ?_ _)); refine blk_put (cs := #[.int .u32 x327000_2, .int .u32 x327001_2, .int .i64 x327002_2, .int .i64 x327003_2, .int .i64 x327004_2]) ?_ 0 _ rfl; (with_reducible repeat (first | refine blk_drewN ?_ _ | refine blk_drew ?_ | refine blk_alloc ?_ _)); exact BK326.out⟩, ⟨by repeat (first | (with_reducible first | exact HB.out | apply below_alloc | apply pw_below_drewN | apply below_drew1 | refine below_set ?_ GE318.out | refine below_set ?_ GE326.out) | exact HB.out)⟩⟩
                · rw [if_neg c19] at H
                  have c19b0 : decide (0 < (rd l2 x11_2)) = false := decide_eq_false c19
                  clear c19
                  have H' := Aside0.mk H
                  clear H
                  try go_wp2
                  have n0_ := Aside0.mk (blk_drew BK318.out)
                  have n1_ := Aside0.mk (blk_drew BK326.out)
                  have n2_ := Aside0.mk (below_drew1 HB.out)
                  clear BK318
                  clear BK326
                  clear HB
                  have BK318 := n0_
                  have BK326 := n1_
                  have HB := n2_
                  clear n0_ n1_ n2_
                  have p327 : 0 ≤ (x11_2 : Int) := of_decide_eq_true (by first | (with_reducible assumption) | assumption)
                  have q327 : x11_2 < (l2.length : Int) := of_decide_eq_true (by first | (with_reducible assumption) | assumption)
                  obtain ⟨ad327, e327, hx327_0⟩ := Kd.at_int HR2.out x11_2 p327 q327
                  have hw327_0 := hx327_0
                  cases e327
                  replace hx327_0 := (HB.out.cell (World.block_lt_of_cell? w _ hx327_0)).trans hx327_0
                  replace p327 := eq_true p327
                  replace q327 := eq_true q327
                  refine start_ (n := 8) (S := fun w' => w'.cell? ⟨gb318, 0, none⟩ = some (.int .i64 a0_0) ∧ w'.cell? ⟨gb318, 1, none⟩ = some (.int .i64 a0_1) ∧ w'.cell? ⟨gb318, 2, none⟩ = some (.int .i64 a0_2) ∧ w'.cell? ⟨gb318, 3, none⟩ = some (.int .i64 a0_3) ∧ w'.cell? ⟨gb326, 0, none⟩ = some (.int .u32 x327000_2) ∧ w'.cell? ⟨gb326, 1, none⟩ = some (.int .u32 x327001_2) ∧ w'.cell? ⟨gb326, 2, none⟩ = some (.int .i64 x327002_2) ∧ w'.cell? ⟨gb326, 3, none⟩ = some (.int .i64 x327003_2) ∧ w'.cell? ⟨gb326, 4, none⟩ = some (.int .i64 x327004_2) ∧ w'.cell? (ad327.add (x11_2).toNat) = some (.int .u32 (rd l2 x11_2))) (ds := [7]) #[false, false, false, false, false, false, false, false] (by kernel_rfl) rfl rfl ⟨(blk_cell BK318.out 0).trans rfl, (blk_cell BK318.out 1).trans rfl, (blk_cell BK318.out 2).trans rfl, (blk_cell BK318.out 3).trans rfl, (blk_cell BK326.out 0).trans rfl, (blk_cell BK326.out 1).trans rfl, (blk_cell BK326.out 2).trans rfl, (blk_cell BK326.out 3).trans rfl, (blk_cell BK326.out 4).trans rfl, ((HB.out.cell (World.block_lt_of_cell? w _ hw327_0)).trans hw327_0)⟩ (fun hHeld => ?_); refine with_tabW stolonlaw10_QuerierLeast.tab9 stolonlaw10_QuerierLeast.bits9 (fun HT_ HW_ => ?_)
                  generalize wr.drew = w35 at BK318 BK326 HB hx327_0 hHeld ⊢
                  refine pure_ (i := 2) (N := some 36) (v := ?_) (a' := ?_) #[false, false, true, false, false, false, false, false] rfl rfl (any_of HT_.out (by kernel_rfl)) (fun _ _ _ h => h) (Or.inl ⟨by rfl, ?_⟩) ?_ ?_
                  rotate_left
                  · intro w'
                    go_simp
                    with_reducible rfl
                  rotate_left
                  · simp only [Act.put, List.setIfInBounds_toArray, List.set_cons_zero, List.set_cons_succ, i64_w, i32_w]
                    rfl
                  refine pure_ (i := 3) (N := some 37) (v := ?_) (a' := ?_) #[false, false, true, true, false, false, false, false] rfl rfl (any_of HT_.out (by kernel_rfl)) (fun _ _ _ h => h) (Or.inl ⟨by rfl, ?_⟩) ?_ ?_
                  rotate_left
                  · intro w'
                    go_simp
                    with_reducible rfl
                  rotate_left
                  · simp only [Act.put, List.setIfInBounds_toArray, List.set_cons_zero, List.set_cons_succ, i64_w, i32_w]
                    rfl
                  refine pure_ (i := 4) (N := some 38) (v := ?_) (a' := ?_) #[false, false, true, true, true, false, false, false] rfl rfl (any_of HT_.out (by kernel_rfl)) (fun _ _ _ h => h) (Or.inl ⟨by rfl, ?_⟩) ?_ ?_
                  rotate_left
                  · intro w'
                    go_simp
                    with_reducible rfl
                  rotate_left
                  · simp only [Act.put, List.setIfInBounds_toArray, List.set_cons_zero, List.set_cons_succ, i64_w, i32_w]
                    rfl
                  refine take_ (i := 0) (N := some 34) (v := ?_) (a' := ?_) #[true, false, true, true, true, false, false, false] rfl rfl (take_ofW HT_.out HW_.out (by kernel_rfl)) (fun _ _ _ h => h) (Or.inl ⟨by rfl, ?_⟩) hHeld ?_ ?_
                  rotate_left
                  · rintro w' ⟨s0, s1, s2, s3, s4, s5, s6, s7, s8, s9⟩
                    go_simp
                    with_reducible rfl
                  rotate_left
                  · simp only [Act.put, List.setIfInBounds_toArray, List.set_cons_zero, List.set_cons_succ, i64_w, i32_w]
                    rfl
                  refine take_ (i := 1) (N := some 35) (v := ?_) (a' := ?_) #[true, true, true, true, true, false, false, false] rfl rfl (take_ofW HT_.out HW_.out (by kernel_rfl)) (fun _ _ _ h => h) (Or.inl ⟨by rfl, ?_⟩) hHeld ?_ ?_
                  rotate_left
                  · rintro w' ⟨s0, s1, s2, s3, s4, s5, s6, s7, s8, s9⟩
                    go_simp
                    with_reducible rfl
                  rotate_left
                  · simp only [Act.put, List.setIfInBounds_toArray, List.set_cons_zero, List.set_cons_succ, i64_w, i32_w]
                    rfl
                  refine take_ (i := 5) (N := some 39) (v := ?_) (a' := ?_) #[true, true, true, true, true, true, false, false] rfl rfl (take_ofW HT_.out HW_.out (by kernel_rfl)) (fun _ _ _ h => h) (Or.inl ⟨by rfl, ?_⟩) hHeld ?_ ?_
                  rotate_left
                  · rintro w' ⟨s0, s1, s2, s3, s4, s5, s6, s7, s8, s9⟩
                    go_simp
                    with_reducible rfl
                  rotate_left
                  · simp only [Act.put, List.setIfInBounds_toArray, List.set_cons_zero, List.set_cons_succ, i64_w, i32_w]
                    rfl
                  refine one_ (i := 6) (N := some 40) #[true, true, true, true, true, true, true, false] rfl rfl (one_of HT_.out (by kernel_rfl)) (by decide) (fun K hK => ?_)
                  refine goes_ Try.func19 (by kernel_rfl) rfl #[.agg #[.int .i64 a0_0, .int .i64 a0_1, .int .i64 a0_2, .int .i64 a0_3], .agg #[.int .u32 x327000_2, .int .u32 x327001_2, .int .i64 x327002_2, .int .i64 x327003_2, .int .i64 x327004_2], .int .u32 (rd l2 x11_2)] (by rfl) rfl rfl (by (try simp only [List.map_toArray, List.map_cons, List.map_nil]); first | done | rfl | (simp only [List.length_drop, List.length_take]; rfl)) ?_
                  with_reducible refine (querier_Hear.calls a0_0 a0_1 a0_2 a0_3 x327000_2 x327001_2 x327002_2 x327003_2 x327004_2 (rd l2 x11_2) t328 t329 t330 t331 t332 _ A18.out).mono ?_
                  rintro e w36 ⟨rfl, hb⟩
                  refine ⟨_, rfl, ?_⟩
                  have n0_ := Aside0.mk (blk_below (g := gb318) (o := .cells #[.int .i64 a0_0, .int .i64 a0_1, .int .i64 a0_2, .int .i64 a0_3] 23 (0, 0)) (by (with_reducible repeat (first | refine blk_drewN ?_ _ | refine blk_drew ?_ | refine blk_alloc ?_ _)); exact BK318.out) hb)
                  have n1_ := Aside0.mk (blk_below (g := gb326) (o := .cells #[.int .u32 x327000_2, .int .u32 x327001_2, .int .i64 x327002_2, .int .i64 x327003_2, .int .i64 x327004_2] 27 (0, 0)) (by (with_reducible repeat (first | refine blk_drewN ?_ _ | refine blk_drew ?_ | refine blk_alloc ?_ _)); exact BK326.out) hb)
                  have n2_ := Aside0.mk (below_step (by repeat (first | (with_reducible first | exact HB.out | apply below_alloc | apply pw_below_drewN | apply below_drew1 | refine below_set ?_ GE318.out | refine below_set ?_ GE326.out) | exact HB.out)) hb)
                  clear BK318
                  clear BK326
                  clear HB
                  have BK318 := n0_
                  have BK326 := n1_
                  have HB := n2_
                  clear n0_ n1_ n2_
                  (try clear hb)
                  (try clear hb2)
                  (try clear hk)
                  (try clear hi)
                  refine hK.out _ _ ⟨(blk_cell BK318.out 0).trans rfl, (blk_cell BK318.out 1).trans rfl, (blk_cell BK318.out 2).trans rfl, (blk_cell BK318.out 3).trans rfl, (blk_cell BK326.out 0).trans rfl, (blk_cell BK326.out 1).trans rfl, (blk_cell BK326.out 2).trans rfl, (blk_cell BK326.out 3).trans rfl, (blk_cell BK326.out 4).trans rfl, ((HB.out.cell (World.block_lt_of_cell? w _ hw327_0)).trans hw327_0)⟩ (fun hHeld => ?_)
                  clear hK K
                  refine norm_ (a' := ?_) ?_ ?_
                  rotate_left
                  · show Act.put _ (some 40) _ = _
                    simp only [Act.put, List.setIfInBounds_toArray, List.set_cons_zero, List.set_cons_succ, i64_w, i32_w]
                    rfl
                  refine last_ (i := 7) (N := none) #[true, true, true, true, true, true, true, true] rfl rfl (one_of HT_.out (by kernel_rfl)) (by decide) (fun K hK => ?_)
                  have hs37 : w36.cell? ⟨gb326, 0, none⟩ = some (.int .u32 x327000_2) := (blk_cell BK326.out 0).trans rfl
                  have hfs37 := blk_frozen BK326.out 0
                  have hns37_0 := NB318_326.out
                  have hms37_0 := NB326_318.out
                  have hs38 : w36.cell? ⟨gb326, 1, none⟩ = some (.int .u32 x327001_2) := (blk_cell BK326.out 1).trans rfl
                  have hfs38 := blk_frozen BK326.out 1
                  have hns38_0 := NB318_326.out
                  have hms38_0 := NB326_318.out
                  have hs39 : w36.cell? ⟨gb326, 2, none⟩ = some (.int .i64 x327002_2) := (blk_cell BK326.out 2).trans rfl
                  have hfs39 := blk_frozen BK326.out 2
                  have hns39_0 := NB318_326.out
                  have hms39_0 := NB326_318.out
                  have hs40 : w36.cell? ⟨gb326, 3, none⟩ = some (.int .i64 x327003_2) := (blk_cell BK326.out 3).trans rfl
                  have hfs40 := blk_frozen BK326.out 3
                  have hns40_0 := NB318_326.out
                  have hms40_0 := NB326_318.out
                  have hs41 : w36.cell? ⟨gb326, 4, none⟩ = some (.int .i64 x327004_2) := (blk_cell BK326.out 4).trans rfl
                  have hfs41 := blk_frozen BK326.out 4
                  have hns41_0 := NB318_326.out
                  have hms41_0 := NB326_318.out
                  refine skip_ (w1 := ?_) (by rfl) rfl ?_ ?_
                  rotate_left
                  · go_simp
                    rfl
                  refine hK.out _ _ ?_
                  clear hK K
                  refine done_ (done_of HT_.out (by kernel_rfl)) ?_
                  have p333 : 0 ≤ (x11_2 : Int) := of_decide_eq_true (by first | (with_reducible assumption) | assumption)
                  have q333 : x11_2 < (l2.length : Int) := of_decide_eq_true (by first | (with_reducible assumption) | assumption)
                  obtain ⟨ad333, e333, hx333_0⟩ := Kd.at_int HR2.out x11_2 p333 q333
                  obtain rfl : ad327 = ad333 := (by injection e333)
                  have hn333_0 : ad327.block ≠ gb326 := Nat.ne_of_lt (Nat.lt_of_lt_of_le (by have := World.block_lt_of_cell? _ _ hx333_0; first | rwa [add_block] at this | exact this) GW326.out)
                  have hn333_1 : ad327.block ≠ gb326 := Nat.ne_of_lt (Nat.lt_of_lt_of_le (by have := World.block_lt_of_cell? _ _ hx333_0; first | rwa [add_block] at this | exact this) GW326.out)
                  have hn333_2 : ad327.block ≠ gb326 := Nat.ne_of_lt (Nat.lt_of_lt_of_le (by have := World.block_lt_of_cell? _ _ hx333_0; first | rwa [add_block] at this | exact this) GW326.out)
                  have hn333_3 : ad327.block ≠ gb326 := Nat.ne_of_lt (Nat.lt_of_lt_of_le (by have := World.block_lt_of_cell? _ _ hx333_0; first | rwa [add_block] at this | exact this) GW326.out)
                  have hn333_4 : ad327.block ≠ gb326 := Nat.ne_of_lt (Nat.lt_of_lt_of_le (by have := World.block_lt_of_cell? _ _ hx333_0; first | rwa [add_block] at this | exact this) GW326.out)
                  replace hx333_0 := (HB.out.cell (World.block_lt_of_cell? w _ hx333_0)).trans hx333_0
                  replace hx333_0 := (cell_far (p := ⟨gb326, 0, none⟩) (by first | (rw [add_block]; exact hn333_0) | (show (Addr.add _ _).block ≠ _; rw [add_block]; exact hn333_0) | exact hn333_0) (.int .u32 t328)).trans hx333_0
                  replace hx333_0 := (cell_far (p := ⟨gb326, 1, none⟩) (by first | (rw [add_block]; exact hn333_1) | (show (Addr.add _ _).block ≠ _; rw [add_block]; exact hn333_1) | exact hn333_1) (.int .u32 t329)).trans hx333_0
                  replace hx333_0 := (cell_far (p := ⟨gb326, 2, none⟩) (by first | (rw [add_block]; exact hn333_2) | (show (Addr.add _ _).block ≠ _; rw [add_block]; exact hn333_2) | exact hn333_2) (.int .i64 t330)).trans hx333_0
                  replace hx333_0 := (cell_far (p := ⟨gb326, 3, none⟩) (by first | (rw [add_block]; exact hn333_3) | (show (Addr.add _ _).block ≠ _; rw [add_block]; exact hn333_3) | exact hn333_3) (.int .i64 t331)).trans hx333_0
                  replace hx333_0 := (cell_far (p := ⟨gb326, 4, none⟩) (by first | (rw [add_block]; exact hn333_4) | (show (Addr.add _ _).block ≠ _; rw [add_block]; exact hn333_4) | exact hn333_4) (.int .i64 t332)).trans hx333_0
                  clear hn333_0
                  clear hn333_1
                  clear hn333_2
                  clear hn333_3
                  clear hn333_4
                  replace p333 := eq_true p333
                  replace q333 := eq_true q333
                  try go_wp2
                  go_roundg k2
                  case measure => have := HJ5.out; have := HK2.out; omega
                  case rel => exact ⟨(x10_2), (wrap64 (x11_2 + 1)), (t328), (t329), (t330), (t331), (t332), (by first | rfl | (simp; done) | (simp [*]; done)), (by first | rfl | (simp; done) | (simp [*]; done)), H', ⟨by have := HJ5.out; have := HK2.out; omega⟩, ⟨by (with_reducible repeat (first | refine blk_drewN ?_ _ | refine blk_drew ?_ | refine blk_alloc ?_ _)); refine blk_far ?_ NB318_326.out _; (with_reducible repeat (first | refine blk_drewN ?_ _ | refine blk_drew ?_ | refine blk_alloc ?_ _)); refine blk_far ?_ NB318_326.out _; (with_reducible repeat (first | refine blk_drewN ?_ _ | refine blk_drew ?_ | refine blk_alloc ?_ _)); refine blk_far ?_ NB318_326.out _; (with_reducible repeat (first | refine blk_drewN ?_ _ | refine blk_drew ?_ | refine blk_alloc ?_ _)); refine blk_far ?_ NB318_326.out _; (with_reducible repeat (first | refine blk_drewN ?_ _ | refine blk_drew ?_ | refine blk_alloc ?_ _)); refine blk_far ?_ NB318_326.out _; (with_reducible repeat (first | refine blk_drewN ?_ _ | refine blk_drew ?_ | refine blk_alloc ?_ _)); exact BK318.out⟩, ⟨by (with_reducible repeat (first | refine blk_drewN ?_ _ | refine blk_drew ?_ | refine blk_alloc ?_ _)); refine blk_put (cs := #[.int .u32 t328, .int .u32 t329, .int .i64 t330, .int .i64 t331, .int .i64 x327004_2]) ?_ 4 _ rfl; (with_reducible repeat (first | refine blk_drewN ?_ _ | refine blk_drew ?_ | refine blk_alloc ?_ _)); refine blk_put (cs := #[.int .u32 t328, .int .u32 t329, .int .i64 t330, .int .i64 x327003_2, .int .i64 x327004_2]) ?_ 3 _ rfl; (with_reducible repeat (first | refine blk_drewN ?_ _ | refine blk_drew ?_ | refine blk_alloc ?_ _)); refine blk_put (cs := #[.int .u32 t328, .int .u32 t329, .int .i64 x327002_2, .int .i64 x327003_2, .int .i64 x327004_2]) ?_ 2 _ rfl; (with_reducible repeat (first | refine blk_drewN ?_ _ | refine blk_drew ?_ | refine blk_alloc ?_ _)); refine blk_put (cs := #[.int .u32 t328, .int .u32 x327001_2, .int .i64 x327002_2, .int .i64 x327003_2, .int .i64 x327004_2]) ?_ 1 _ rfl; (with_reducible repeat (first | refine blk_drewN ?_ _ | refine blk_drew ?_ | refine blk_alloc ?_ _)); refine blk_put (cs := #[.int .u32 x327000_2, .int .u32 x327001_2, .int .i64 x327002_2, .int .i64 x327003_2, .int .i64 x327004_2]) ?_ 0 _ rfl; (with_reducible repeat (first | refine blk_drewN ?_ _ | refine blk_drew ?_ | refine blk_alloc ?_ _)); exact BK326.out⟩, ⟨by repeat (first | (with_reducible first | exact HB.out | apply below_alloc | apply pw_below_drewN | apply below_drew1 | refine below_set ?_ GE318.out | refine below_set ?_ GE326.out) | exact HB.out)⟩⟩
              · rw [if_neg c17] at H
                exact absurd H (by simp)
            · rw [if_neg c16] at H
              have c16b0 : decide (x11_2 < (l2.length : Int)) = false := decide_eq_false c16
              clear c16
              by_cases c42 : x10_2 = a1
              · rw [if_pos c42] at H
                have c42b0 : (x10_2 == a1) = true := beq_iff_eq.mpr c42
                have c42b1 : (x10_2 != a1) = false := bne_eq_false_iff_eq.mpr c42
                clear c42
                by_cases c43 : t319 = true
                · subst c43
                  have H1 : ((querier_Asks.f x327000_2 x327001_2 x327002_2 x327003_2 x327004_2).bind fun t336 => (if t336 = true then (some (x327002_2 == 0)) else (some false))) = some r := by rw [if_pos rfl] at H; exact H
                  clear H
                  have H := H1
                  clear H1
                  replace H := Option.bind_eq_some_iff.mp H
                  obtain ⟨t336, A440, H⟩ := H
                  replace H : (if t336 = true then (some (x327002_2 == 0)) else (some false)) = some r := H
                  have A44 := Aside0.mk A440
                  clear A440
                  by_cases c45 : t336 = true
                  · subst c45
                    have H1 : (some (x327002_2 == 0)) = some r := by rw [if_pos rfl] at H; exact H
                    clear H
                    have H := H1
                    clear H1
                    obtain rfl := Option.some.inj H
                    have hnb46 := NB326_318.out
                    have hnc46 := NB318_326.out
                    have hcz47_0 : wr.cell? ⟨gb326, 0, none⟩ = some (.int .u32 x327000_2) := (blk_cell BK326.out 0).trans rfl
                    have hcz47_1 : wr.cell? ⟨gb326, 1, none⟩ = some (.int .u32 x327001_2) := (blk_cell BK326.out 1).trans rfl
                    have hcz47_2 : wr.cell? ⟨gb326, 2, none⟩ = some (.int .i64 x327002_2) := (blk_cell BK326.out 2).trans rfl
                    have hcz47_3 : wr.cell? ⟨gb326, 3, none⟩ = some (.int .i64 x327003_2) := (blk_cell BK326.out 3).trans rfl
                    have hcz47_4 : wr.cell? ⟨gb326, 4, none⟩ = some (.int .i64 x327004_2) := (blk_cell BK326.out 4).trans rfl
                    have hfz47_0 := blk_frozen BK326.out 0
                    have hfz47_1 := blk_frozen BK326.out 1
                    have hfz47_2 := blk_frozen BK326.out 2
                    have hfz47_3 := blk_frozen BK326.out 3
                    have hfz47_4 := blk_frozen BK326.out 4
                    go_wp2_with (first | (go_at_call 16; (with_reducible refine (querier_Asks.calls x327000_2 x327001_2 x327002_2 x327003_2 x327004_2 true _ A44.out).mono ?_); rintro e w48 ⟨rfl, hb⟩; have n0_ := Aside0.mk (blk_below (g := gb318) (o := .cells #[.int .i64 a0_0, .int .i64 a0_1, .int .i64 a0_2, .int .i64 a0_3] 23 (0, 0)) (by (with_reducible repeat (first | refine blk_drewN ?_ _ | refine blk_drew ?_ | refine blk_alloc ?_ _)); exact BK318.out) hb); have n1_ := Aside0.mk (blk_below (g := gb326) (o := .cells #[.int .u32 x327000_2, .int .u32 x327001_2, .int .i64 x327002_2, .int .i64 x327003_2, .int .i64 x327004_2] 27 (0, 0)) (by (with_reducible repeat (first | refine blk_drewN ?_ _ | refine blk_drew ?_ | refine blk_alloc ?_ _)); exact BK326.out) hb); have n2_ := Aside0.mk (below_step (by repeat (first | (with_reducible first | exact HB.out | apply below_alloc | apply pw_below_drewN | apply below_drew1 | refine below_set ?_ GE318.out | refine below_set ?_ GE326.out) | exact HB.out)) hb); clear BK318; clear BK326; clear HB; have BK318 := n0_; have BK326 := n1_; have HB := n2_; clear n0_ n1_ n2_; (try clear hb); (try clear hb2); (try clear hk); (try clear hi); have hcz49_0 : w48.cell? ⟨gb326, 0, none⟩ = some (.int .u32 x327000_2) := (blk_cell BK326.out 0).trans rfl; have hcz49_1 : w48.cell? ⟨gb326, 1, none⟩ = some (.int .u32 x327001_2) := (blk_cell BK326.out 1).trans rfl; have hcz49_2 : w48.cell? ⟨gb326, 2, none⟩ = some (.int .i64 x327002_2) := (blk_cell BK326.out 2).trans rfl; have hcz49_3 : w48.cell? ⟨gb326, 3, none⟩ = some (.int .i64 x327003_2) := (blk_cell BK326.out 3).trans rfl; have hcz49_4 : w48.cell? ⟨gb326, 4, none⟩ = some (.int .i64 x327004_2) := (blk_cell BK326.out 4).trans rfl; have hfz49_0 := blk_frozen BK326.out 0; have hfz49_1 := blk_frozen BK326.out 1; have hfz49_2 := blk_frozen BK326.out 2; have hfz49_3 := blk_frozen BK326.out 3; have hfz49_4 := blk_frozen BK326.out 4))
                    go_ret
                    exact ⟨by first | rfl | (simp [errW_none, errW_some] <;> rfl) | (simp [*, errW_none, errW_some] <;> rfl), by repeat (first | (with_reducible first | exact HB.out | apply below_alloc | apply pw_below_drewN | apply below_drew1 | refine below_set ?_ GE318.out | refine below_set ?_ GE326.out) | exact HB.out)⟩
                  · replace c45 := Bool.eq_false_iff.mpr c45
                    subst c45
                    have H1 : (some false) = some r := by rw [if_neg (show ¬ (false = true) by decide)] at H; exact H
                    clear H
                    have H := H1
                    clear H1
                    exact absurd ((Option.some.inj H).trans hTrue.out) (by simp)
                · replace c43 := Bool.eq_false_iff.mpr c43
                  subst c43
                  have H1 : (some false) = some r := by rw [if_neg (show ¬ (false = true) by decide)] at H; exact H
                  clear H
                  have H := H1
                  clear H1
                  exact absurd ((Option.some.inj H).trans hTrue.out) (by simp)
              · rw [if_neg c42] at H
                have c42b0 : (x10_2 == a1) = false := beq_eq_false_iff_ne.mpr c42
                have c42b1 : (x10_2 != a1) = true := bne_iff_ne.mpr c42
                by_cases c50 : t319 = true
                · subst c50
                  have H1 : (if x327001_2 = x10_2 then (if x327002_2 = a0_3 then ((querier_Asks.f x327000_2 x327001_2 x327002_2 x327003_2 x327004_2).bind fun t337 => (some (!t337))) else (some false)) else (some false)) = some r := by rw [if_pos rfl] at H; exact H
                  clear H
                  have H := H1
                  clear H1
                  by_cases c51 : x327001_2 = x10_2
                  · rw [if_pos c51] at H
                    have c51b0 : (x327001_2 == x10_2) = true := beq_iff_eq.mpr c51
                    have c51b1 : (x327001_2 != x10_2) = false := bne_eq_false_iff_eq.mpr c51
                    clear c51
                    by_cases c52 : x327002_2 = a0_3
                    · rw [if_pos c52] at H
                      have c52b0 : (x327002_2 == a0_3) = true := beq_iff_eq.mpr c52
                      have c52b1 : (x327002_2 != a0_3) = false := bne_eq_false_iff_eq.mpr c52
                      clear c52
                      replace H := Option.bind_eq_some_iff.mp H
                      obtain ⟨t337, A530, H⟩ := H
                      replace H : (some (!t337)) = some r := H
                      have A53 := Aside0.mk A530
                      clear A530
                      obtain rfl := Option.some.inj H
                      have hnb54 := NB326_318.out
                      have hnc54 := NB318_326.out
                      have hcz55_0 : wr.cell? ⟨gb326, 0, none⟩ = some (.int .u32 x327000_2) := (blk_cell BK326.out 0).trans rfl
                      have hcz55_1 : wr.cell? ⟨gb326, 1, none⟩ = some (.int .u32 x327001_2) := (blk_cell BK326.out 1).trans rfl
                      have hcz55_2 : wr.cell? ⟨gb326, 2, none⟩ = some (.int .i64 x327002_2) := (blk_cell BK326.out 2).trans rfl
                      have hcz55_3 : wr.cell? ⟨gb326, 3, none⟩ = some (.int .i64 x327003_2) := (blk_cell BK326.out 3).trans rfl
                      have hcz55_4 : wr.cell? ⟨gb326, 4, none⟩ = some (.int .i64 x327004_2) := (blk_cell BK326.out 4).trans rfl
                      have hfz55_0 := blk_frozen BK326.out 0
                      have hfz55_1 := blk_frozen BK326.out 1
                      have hfz55_2 := blk_frozen BK326.out 2
                      have hfz55_3 := blk_frozen BK326.out 3
                      have hfz55_4 := blk_frozen BK326.out 4
                      have hcz56_0 : wr.cell? ⟨gb318, 0, none⟩ = some (.int .i64 a0_0) := (blk_cell BK318.out 0).trans rfl
                      have hcz56_1 : wr.cell? ⟨gb318, 1, none⟩ = some (.int .i64 a0_1) := (blk_cell BK318.out 1).trans rfl
                      have hcz56_2 : wr.cell? ⟨gb318, 2, none⟩ = some (.int .i64 a0_2) := (blk_cell BK318.out 2).trans rfl
                      have hcz56_3 : wr.cell? ⟨gb318, 3, none⟩ = some (.int .i64 a0_3) := (blk_cell BK318.out 3).trans rfl
                      have hfz56_0 := blk_frozen BK318.out 0
                      have hfz56_1 := blk_frozen BK318.out 1
                      have hfz56_2 := blk_frozen BK318.out 2
                      have hfz56_3 := blk_frozen BK318.out 3
                      go_wp2_with (first | (go_at_call 16; (with_reducible refine (querier_Asks.calls x327000_2 x327001_2 x327002_2 x327003_2 x327004_2 t337 _ A53.out).mono ?_); rintro e w57 ⟨rfl, hb⟩; have n0_ := Aside0.mk (blk_below (g := gb318) (o := .cells #[.int .i64 a0_0, .int .i64 a0_1, .int .i64 a0_2, .int .i64 a0_3] 23 (0, 0)) (by (with_reducible repeat (first | refine blk_drewN ?_ _ | refine blk_drew ?_ | refine blk_alloc ?_ _)); exact BK318.out) hb); have n1_ := Aside0.mk (blk_below (g := gb326) (o := .cells #[.int .u32 x327000_2, .int .u32 x327001_2, .int .i64 x327002_2, .int .i64 x327003_2, .int .i64 x327004_2] 27 (0, 0)) (by (with_reducible repeat (first | refine blk_drewN ?_ _ | refine blk_drew ?_ | refine blk_alloc ?_ _)); exact BK326.out) hb); have n2_ := Aside0.mk (below_step (by repeat (first | (with_reducible first | exact HB.out | apply below_alloc | apply pw_below_drewN | apply below_drew1 | refine below_set ?_ GE318.out | refine below_set ?_ GE326.out) | exact HB.out)) hb); clear BK318; clear BK326; clear HB; have BK318 := n0_; have BK326 := n1_; have HB := n2_; clear n0_ n1_ n2_; (try clear hb); (try clear hb2); (try clear hk); (try clear hi)))
                      go_ret
                      exact ⟨by first | rfl | (simp [errW_none, errW_some] <;> rfl) | (simp [*, errW_none, errW_some] <;> rfl), by repeat (first | (with_reducible first | exact HB.out | apply below_alloc | apply pw_below_drewN | apply below_drew1 | refine below_set ?_ GE318.out | refine below_set ?_ GE326.out) | exact HB.out)⟩
                    · rw [if_neg c52] at H
                      have c52b0 : (x327002_2 == a0_3) = false := beq_eq_false_iff_ne.mpr c52
                      have c52b1 : (x327002_2 != a0_3) = true := bne_iff_ne.mpr c52
                      exact absurd ((Option.some.inj H).trans hTrue.out) (by simp)
                  · rw [if_neg c51] at H
                    have c51b0 : (x327001_2 == x10_2) = false := beq_eq_false_iff_ne.mpr c51
                    have c51b1 : (x327001_2 != x10_2) = true := bne_iff_ne.mpr c51
                    exact absurd ((Option.some.inj H).trans hTrue.out) (by simp)
                · replace c50 := Bool.eq_false_iff.mpr c50
                  subst c50
                  have H1 : (some false) = some r := by rw [if_neg (show ¬ (false = true) by decide)] at H; exact H
                  clear H
                  have H := H1
                  clear H1
                  exact absurd ((Option.some.inj H).trans hTrue.out) (by simp)

end Go.Proofs.Ytlihbdinghoeeaa.P

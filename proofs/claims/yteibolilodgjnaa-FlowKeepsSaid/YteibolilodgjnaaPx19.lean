/- For each Go function a Lean function, and the proof that a call comes to what it tells: made by program out of the translation (the kit's print, with texts by hand put in). No condition. -/
import Derived.Test.YteibolilodgjnaaPx0
import Derived.Test.YteibolilodgjnaaPx7
import Derived.Test.YteibolilodgjnaaPx8
import Derived.Test.YteibolilodgjnaaPx11
import Derived.Test.YteibolilodgjnaaPx14
import Derived.Test.YteibolilodgjnaaPx15
import Derived.Test.YteibolilodgjnaaPx16
import Derived.Test.YteibolilodgjnaaPx18
namespace Go.Proofs.Yteibolilodgjnaa.P
open Go.RowKit Go.Proofs.Yteibolilodgjnaa.HRows Go.Proofs.YteibolilodgjnaaW.PrintWords Go.Proofs.YteibolilodgjnaaW.PrintLast Go.Proofs.YteibolilodgjnaaW.PrintMore
attribute [local go_sem] max2_int min2_int max_two min_two max_three min_three max_four min_four   -- for this text's walks alone
set_option linter.unusedVariables false
set_option linter.unusedSimpArgs false

/-! ### stolonlaw15_FlowKeeps: function 4 -/
mutual
def stolonlaw15_FlowKeeps.j0 : Nat → List (S27) → Int → Bool → Bool → Int → Int → Int → Int → Int → List (S53) → Option (Bool)
  | 0, _, _, _, _, _, _, _, _, _, _ => none
  | k + 1, x0, x2, x7, x31, x219000, x219001, x219002, x219003, x219004, x219005 => if x31 = true then (some x7) else ((flow_Put.f k x0 x219000 x219001 x219002 x219003 x219004 x219005 x2).bind fun bt222 => (if bt222.2 = 0 then (if x219002 = 0 then (stolonlaw15_FlowKeeps.j1 k x0 x7 bt222.1 x219003 x219000 x219001 x219002 x219003 x219004 x219005) else (stolonlaw15_FlowKeeps.j1 k x0 x7 bt222.1 0 x219000 x219001 x219002 x219003 x219004 x219005)) else (if x7 = true then ((stolonref15_Rows.f k bt222.1 x0).bind fun t226 => (if t226 = true then (if bt222.2 = 1 then (some true) else (if bt222.2 = 7 then (some (decide ((x0.length : Int) ≥ x2))) else (some false))) else (some false))) else (some false))))
def stolonlaw15_FlowKeeps.j1 : Nat → List (S27) → Bool → List (S27) → Int → Int → Int → Int → Int → Int → List (S53) → Option (Bool)
  | 0, _, _, _, _, _, _, _, _, _, _ => none
  | k + 1, x0, x7, x8, x10, x219000, x219001, x219002, x219003, x219004, x219005 => (flow_Find.f x8 x10 x219000 x219001 x219002 0).bind fun bt227 => ((flow_Del.f x8 x219000 x219001 x219002).bind fun bt237 => ((flow_Del.f x0 x219000 x219001 x219002).bind fun bt241 => (if x7 = true then ((stolonref15_Table.f k x8).bind fun t245 => (if t245 = true then (if bt227.2.2.2.2.2.2 = true then ((stolonref15_Same.f k bt227.1 bt227.2.1 bt227.2.2.1 bt227.2.2.2.1 bt227.2.2.2.2.1 bt227.2.2.2.2.2.1 x219000 x219001 x219002 x219003 x219004 x219005).bind fun t246 => (if t246 = true then (if bt237.2 = true then ((stolonref15_Rows.f k bt237.1 bt241.1).bind fun t247 => (if t247 = true then (some (((x8.length : Int) == (x0.length : Int)) == bt241.2)) else (some false))) else (some false)) else (some false))) else (some false)) else (some false))) else (some false))))
end
def stolonlaw15_FlowKeeps.f (k : Nat) (l0 : List (S27)) (a1_0 : Int) (a1_1 : Int) (a1_2 : Int) (a1_3 : Int) (a1_4 : Int) (l1_5 : List (S53)) (a2 : Int) : Option (Bool) := (stolonlaw15_shown.f k).bind fun t219 => ((stolonref15_Few.f k l0).bind fun t220 => (if t220 = true then ((stolonref15_Table.f k l0).bind fun t221 => (if t221 = true then (stolonlaw15_FlowKeeps.j0 k l0 a2 t219 (decide ((l1_5.length : Int) > 100)) a1_0 a1_1 a1_2 a1_3 a1_4 l1_5) else (stolonlaw15_FlowKeeps.j0 k l0 a2 t219 true a1_0 a1_1 a1_2 a1_3 a1_4 l1_5))) else (stolonlaw15_FlowKeeps.j0 k l0 a2 t219 true a1_0 a1_1 a1_2 a1_3 a1_4 l1_5)))
theorem stolonlaw15_FlowKeeps.mono_l : ∀ k, (∀ y0 y1 y2 y3 y4 y5 y6 y7 y8 y9, LeO (stolonlaw15_FlowKeeps.j0 k y0 y1 y2 y3 y4 y5 y6 y7 y8 y9) (stolonlaw15_FlowKeeps.j0 (k + 1) y0 y1 y2 y3 y4 y5 y6 y7 y8 y9)) ∧ (∀ y0 y1 y2 y3 y4 y5 y6 y7 y8 y9, LeO (stolonlaw15_FlowKeeps.j1 k y0 y1 y2 y3 y4 y5 y6 y7 y8 y9) (stolonlaw15_FlowKeeps.j1 (k + 1) y0 y1 y2 y3 y4 y5 y6 y7 y8 y9))
  | 0 => ⟨fun _ _ _ _ _ _ _ _ _ _ r h => by simp [stolonlaw15_FlowKeeps.j0] at h, fun _ _ _ _ _ _ _ _ _ _ r h => by simp [stolonlaw15_FlowKeeps.j1] at h⟩
  | k + 1 => by
    obtain ⟨ih0, ih1⟩ := stolonlaw15_FlowKeeps.mono_l k
    refine ⟨?_, ?_⟩
    · intro y0 y1 y2 y3 y4 y5 y6 y7 y8 y9
      unfold stolonlaw15_FlowKeeps.j0
      repeat' first
      | (with_reducible exact ih0 _ _ _ _ _ _ _ _ _ _)
      | (with_reducible exact ih1 _ _ _ _ _ _ _ _ _ _)
      | (with_reducible exact flow_Put.mono _ _ _ _ _ _ _ _ _)
      | (with_reducible exact stolonlaw15_shown.mono _)
      | (with_reducible exact stolonref15_Few.mono _ _)
      | (with_reducible exact stolonref15_Rows.mono _ _ _)
      | (with_reducible exact stolonref15_Same.mono _ _ _ _ _ _ _ _ _ _ _ _ _)
      | (with_reducible exact stolonref15_Table.mono _ _)
      | (with_reducible exact LeO.refl _)
      | (with_reducible exact LeO.none _)
      | (with_reducible refine LeO.ite ?_ ?_)
      | (with_reducible refine LeO.bind ?_ (fun _ => ?_))
      | exact ih0 _ _ _ _ _ _ _ _ _ _
      | exact ih1 _ _ _ _ _ _ _ _ _ _
      | exact flow_Put.mono _ _ _ _ _ _ _ _ _
      | exact stolonlaw15_shown.mono _
      | exact stolonref15_Few.mono _ _
      | exact stolonref15_Rows.mono _ _ _
      | exact stolonref15_Same.mono _ _ _ _ _ _ _ _ _ _ _ _ _
      | exact stolonref15_Table.mono _ _
      | exact LeO.none _
      | refine LeO.ite ?_ ?_
      | refine LeO.bind ?_ (fun _ => ?_)
    · intro y0 y1 y2 y3 y4 y5 y6 y7 y8 y9
      unfold stolonlaw15_FlowKeeps.j1
      repeat' first
      | (with_reducible exact ih0 _ _ _ _ _ _ _ _ _ _)
      | (with_reducible exact ih1 _ _ _ _ _ _ _ _ _ _)
      | (with_reducible exact flow_Put.mono _ _ _ _ _ _ _ _ _)
      | (with_reducible exact stolonlaw15_shown.mono _)
      | (with_reducible exact stolonref15_Few.mono _ _)
      | (with_reducible exact stolonref15_Rows.mono _ _ _)
      | (with_reducible exact stolonref15_Same.mono _ _ _ _ _ _ _ _ _ _ _ _ _)
      | (with_reducible exact stolonref15_Table.mono _ _)
      | (with_reducible exact LeO.refl _)
      | (with_reducible exact LeO.none _)
      | (with_reducible refine LeO.ite ?_ ?_)
      | (with_reducible refine LeO.bind ?_ (fun _ => ?_))
      | exact ih0 _ _ _ _ _ _ _ _ _ _
      | exact ih1 _ _ _ _ _ _ _ _ _ _
      | exact flow_Put.mono _ _ _ _ _ _ _ _ _
      | exact stolonlaw15_shown.mono _
      | exact stolonref15_Few.mono _ _
      | exact stolonref15_Rows.mono _ _ _
      | exact stolonref15_Same.mono _ _ _ _ _ _ _ _ _ _ _ _ _
      | exact stolonref15_Table.mono _ _
      | exact LeO.none _
      | refine LeO.ite ?_ ?_
      | refine LeO.bind ?_ (fun _ => ?_)
theorem stolonlaw15_FlowKeeps.mono : ∀ a0 a1 a2 a3 a4 a5 a6 a7 k, LeO (stolonlaw15_FlowKeeps.f k a0 a1 a2 a3 a4 a5 a6 a7) (stolonlaw15_FlowKeeps.f (k + 1) a0 a1 a2 a3 a4 a5 a6 a7) := by
  intro a0 a1 a2 a3 a4 a5 a6 a7 k
  obtain ⟨ih0, ih1⟩ := stolonlaw15_FlowKeeps.mono_l k
  unfold stolonlaw15_FlowKeeps.f
  repeat' first
      | (with_reducible exact ih0 _ _ _ _ _ _ _ _ _ _)
      | (with_reducible exact ih1 _ _ _ _ _ _ _ _ _ _)
      | (with_reducible exact flow_Put.mono _ _ _ _ _ _ _ _ _)
      | (with_reducible exact stolonlaw15_shown.mono _)
      | (with_reducible exact stolonref15_Few.mono _ _)
      | (with_reducible exact stolonref15_Rows.mono _ _ _)
      | (with_reducible exact stolonref15_Same.mono _ _ _ _ _ _ _ _ _ _ _ _ _)
      | (with_reducible exact stolonref15_Table.mono _ _)
      | (with_reducible exact LeO.refl _)
      | (with_reducible exact LeO.none _)
      | (with_reducible refine LeO.ite ?_ ?_)
      | (with_reducible refine LeO.bind ?_ (fun _ => ?_))
      | exact ih0 _ _ _ _ _ _ _ _ _ _
      | exact ih1 _ _ _ _ _ _ _ _ _ _
      | exact flow_Put.mono _ _ _ _ _ _ _ _ _
      | exact stolonlaw15_shown.mono _
      | exact stolonref15_Few.mono _ _
      | exact stolonref15_Rows.mono _ _ _
      | exact stolonref15_Same.mono _ _ _ _ _ _ _ _ _ _ _ _ _
      | exact stolonref15_Table.mono _ _
      | exact LeO.none _
      | refine LeO.ite ?_ ?_
      | refine LeO.bind ?_ (fun _ => ?_)
set_option maxHeartbeats 8000000 in
set_option maxRecDepth 100000 in
theorem stolonlaw15_FlowKeeps.calls (k : Nat) (A0 : Option Addr) (c0 : Nat) (l0 : List (S27)) (a1_0 : Int) (a1_1 : Int) (a1_2 : Int) (a1_3 : Int) (a1_4 : Int) (A1_5 : Option Addr) (c1_5 : Nat) (l1_5 : List (S53)) (a2 : Int) (r : Bool) (w : World) (hr0 : Kd.C k27 w A0 l0.length l0) (hc0 : l0.length ≤ c0) (hr1_5 : Kd.C k53 w A1_5 l1_5.length l1_5) (hc1_5 : l1_5.length ≤ c1_5) (hTrue : Aside0 (r = true)) (h : stolonlaw15_FlowKeeps.f k l0 a1_0 a1_1 a1_2 a1_3 a1_4 l1_5 a2 = some r) :
    Calls Try.prog 4 #[.slice A0 l0.length c0, .agg #[.int .u32 a1_0, .int .u32 a1_1, .int .u32 a1_2, .int .i64 a1_3, .int .u32 a1_4, .slice A1_5 l1_5.length c1_5], .int .i64 a2] w fun e w' => e = .returned (.bool r) ∧ Below w.heap.size w w' := by
  have hu27 := Try.underlying27
  have hu38 := Try.underlying38
  have HR0 := Aside0.mk hr0
  have HC0 := Aside0.mk hc0
  clear hr0 hc0
  have HR1_5 := Aside0.mk hr1_5
  have HC1_5 := Aside0.mk hc1_5
  clear hr1_5 hc1_5
  have HB := Aside0.mk (Below.refl w.heap.size w)
  have H : ((stolonlaw15_shown.f k).bind fun t219 => ((stolonref15_Few.f k l0).bind fun t220 => (if t220 = true then ((stolonref15_Table.f k l0).bind fun t221 => (if t221 = true then (stolonlaw15_FlowKeeps.j0 k l0 a2 t219 (decide ((l1_5.length : Int) > 100)) a1_0 a1_1 a1_2 a1_3 a1_4 l1_5) else (stolonlaw15_FlowKeeps.j0 k l0 a2 t219 true a1_0 a1_1 a1_2 a1_3 a1_4 l1_5))) else (stolonlaw15_FlowKeeps.j0 k l0 a2 t219 true a1_0 a1_1 a1_2 a1_3 a1_4 l1_5)))) = some r := h
  clear h
  replace H := Option.bind_eq_some_iff.mp H
  obtain ⟨t219, A40, H⟩ := H
  replace H : ((stolonref15_Few.f k l0).bind fun t220 => (if t220 = true then ((stolonref15_Table.f k l0).bind fun t221 => (if t221 = true then (stolonlaw15_FlowKeeps.j0 k l0 a2 t219 (decide ((l1_5.length : Int) > 100)) a1_0 a1_1 a1_2 a1_3 a1_4 l1_5) else (stolonlaw15_FlowKeeps.j0 k l0 a2 t219 true a1_0 a1_1 a1_2 a1_3 a1_4 l1_5))) else (stolonlaw15_FlowKeeps.j0 k l0 a2 t219 true a1_0 a1_1 a1_2 a1_3 a1_4 l1_5))) = some r := H
  have A4 := Aside0.mk A40
  clear A40
  have HC5 := Aside0.mk H
  clear H
  go_enter Try.func4, Try.ntmps4
  go_upto_region 2 with (first | ((with_reducible refine gate_dst (N := 4) rfl ?_); (try (refine gate_guard (by rfl) ?_; dsimp only)); refine box_event ?hg (N := 4) ?hd (cs := #[.int .u32 a1_0, .int .u32 a1_1, .int .u32 a1_2, .int .i64 a1_3, .int .u32 a1_4, .slice A1_5 l1_5.length c1_5]) (t := 27) ?hr ?_; (case hd => rfl); (case hg => rfl); (case hr => first | (go_simp; done) | (go_simp; rfl)); intro gb218 hg w6 hbox hb; have n0_ := Aside0.mk (below_step (by repeat (first | (with_reducible first | exact HB.out | apply below_alloc | apply pw_below_drewN | apply below_drew1) | exact HB.out)) hb); have n1_ := Aside0.mk (hbox); have n2_ := Aside0.mk ((by rw [hg]; exact (below_size (by repeat (first | (with_reducible first | exact HB.out | apply below_alloc | apply pw_below_drewN | apply below_drew1) | exact HB.out))) : w.heap.size ≤ gb218)); have n3_ := Aside0.mk ((by rw [hg]; exact (below_size (by repeat (first | (with_reducible first | exact HB.out | apply below_alloc | apply pw_below_drewN | apply below_drew1) | exact HB.out))) : w.heap.size ≤ gb218)); clear HB; have HB := n0_; have BK218 := n1_; have GW218 := n2_; have GE218 := n3_; clear n0_ n1_ n2_ n3_; clear hb hbox hg) | ((with_reducible refine gate_callee (f := 7) rfl ?_); refine goesL_ (some 17) rfl rfl Try.func7 (by kernel_rfl) rfl #[] rfl (by (try simp only [List.map_toArray, List.map_cons, List.map_nil]); first | done | rfl | (simp only [List.length_drop, List.length_take]; rfl)) ?_; (with_reducible refine (stolonlaw15_shown.calls k  t219 _ A4.out).mono ?_); rintro e w7 ⟨rfl, hb⟩; refine ⟨_, rfl, ?_⟩; have n0_ := Aside0.mk (blk_below (g := gb218) (o := .cells #[.int .u32 a1_0, .int .u32 a1_1, .int .u32 a1_2, .int .i64 a1_3, .int .u32 a1_4, .slice A1_5 l1_5.length c1_5] 27 (0, 0)) (by (with_reducible repeat (first | refine blk_drewN ?_ _ | refine blk_drew ?_ | refine blk_alloc ?_ _)); exact BK218.out) hb); have n1_ := Aside0.mk (below_step (by repeat (first | (with_reducible first | exact HB.out | apply below_alloc | apply pw_below_drewN | apply below_drew1 | refine below_set ?_ GE218.out) | exact HB.out)) hb); clear BK218; clear HB; have BK218 := n0_; have HB := n1_; clear n0_ n1_; (try clear hb); (try clear hb2); (try clear hk); (try clear hi)))
  (try simp only [Act.put, List.setIfInBounds_toArray, List.set_cons_zero, List.set_cons_succ])
  go_cut [31] (fun v31 wc => ∃ (kq : Nat) (x31_4 : Bool), v31 = .bool x31_4 ∧ Aside0 (stolonlaw15_FlowKeeps.j0 kq l0 a2 t219 x31_4 a1_0 a1_1 a1_2 a1_3 a1_4 l1_5 = some r) ∧ Aside0 (kq ≤ k) ∧ Aside0 (wc.heap[gb218]? = some (.cells #[.int .u32 a1_0, .int .u32 a1_1, .int .u32 a1_2, .int .i64 a1_3, .int .u32 a1_4, (.slice A1_5 l1_5.length c1_5)] 27 (0, 0))) ∧ Aside0 (Below w.heap.size w wc))
  case first =>
    have H := HC5.out
    clear HC5
    replace H := Option.bind_eq_some_iff.mp H
    obtain ⟨t220, A80, H⟩ := H
    replace H : (if t220 = true then ((stolonref15_Table.f k l0).bind fun t221 => (if t221 = true then (stolonlaw15_FlowKeeps.j0 k l0 a2 t219 (decide ((l1_5.length : Int) > 100)) a1_0 a1_1 a1_2 a1_3 a1_4 l1_5) else (stolonlaw15_FlowKeeps.j0 k l0 a2 t219 true a1_0 a1_1 a1_2 a1_3 a1_4 l1_5))) else (stolonlaw15_FlowKeeps.j0 k l0 a2 t219 true a1_0 a1_1 a1_2 a1_3 a1_4 l1_5)) = some r := H
    have A8 := Aside0.mk A80
    clear A80
    by_cases c9 : t220 = true
    · subst c9
      have H1 : ((stolonref15_Table.f k l0).bind fun t221 => (if t221 = true then (stolonlaw15_FlowKeeps.j0 k l0 a2 t219 (decide ((l1_5.length : Int) > 100)) a1_0 a1_1 a1_2 a1_3 a1_4 l1_5) else (stolonlaw15_FlowKeeps.j0 k l0 a2 t219 true a1_0 a1_1 a1_2 a1_3 a1_4 l1_5))) = some r := by rw [if_pos rfl] at H; exact H
      clear H
      have H := H1
      clear H1
      replace H := Option.bind_eq_some_iff.mp H
      obtain ⟨t221, A100, H⟩ := H
      replace H : (if t221 = true then (stolonlaw15_FlowKeeps.j0 k l0 a2 t219 (decide ((l1_5.length : Int) > 100)) a1_0 a1_1 a1_2 a1_3 a1_4 l1_5) else (stolonlaw15_FlowKeeps.j0 k l0 a2 t219 true a1_0 a1_1 a1_2 a1_3 a1_4 l1_5)) = some r := H
      have A10 := Aside0.mk A100
      clear A100
      by_cases c11 : t221 = true
      · subst c11
        have H1 : (stolonlaw15_FlowKeeps.j0 k l0 a2 t219 (decide ((l1_5.length : Int) > 100)) a1_0 a1_1 a1_2 a1_3 a1_4 l1_5) = some r := by rw [if_pos rfl] at H; exact H
        clear H
        have H := H1
        clear H1
        have H' := Aside0.mk H
        clear H
        go_wp2_with (first | ((with_reducible refine gate_callee (f := 8) rfl ?_); refine goesL_ (some 19) rfl rfl Try.func8 (by kernel_rfl) rfl #[.slice A0 l0.length c0] rfl (by (try simp only [List.map_toArray, List.map_cons, List.map_nil]); first | done | rfl | (simp only [List.length_drop, List.length_take]; rfl)) ?_; (with_reducible refine (stolonref15_Few.calls k _ _ l0 true _ ?side1 ?side2 A8.out).mono ?_); (case side1 => repeat (first | exact (Kd.C_below HR0.out HB.out) | (with_reducible refine Kd.C_alloc ?_ _) | (with_reducible refine Kd.C_drewN ?_ _) | (with_reducible refine Kd.C_drew ?_))); (case side2 => exact HC0.out); rintro e w' ⟨rfl, ⟨nd, rfl⟩⟩; refine ⟨_, rfl, ?_⟩) | (go_at_call 9; (with_reducible refine (stolonref15_Table.calls k _ _ l0 true _ ?side1 ?side2 A10.out).mono ?_); (case side1 => repeat (first | exact (Kd.C_below HR0.out (by repeat (first | (with_reducible first | exact HB.out | apply below_alloc | apply pw_below_drewN | apply below_drew1 | refine below_set ?_ GE218.out) | exact HB.out))) | (with_reducible refine Kd.C_alloc ?_ _) | (with_reducible refine Kd.C_drewN ?_ _) | (with_reducible refine Kd.C_drew ?_))); (case side2 => exact HC0.out); rintro e w12 ⟨rfl, hb⟩; have n0_ := Aside0.mk (blk_below (g := gb218) (o := .cells #[.int .u32 a1_0, .int .u32 a1_1, .int .u32 a1_2, .int .i64 a1_3, .int .u32 a1_4, .slice A1_5 l1_5.length c1_5] 27 (0, 0)) (by (with_reducible repeat (first | refine blk_drewN ?_ _ | refine blk_drew ?_ | refine blk_alloc ?_ _)); exact BK218.out) hb); have n1_ := Aside0.mk (below_step (by repeat (first | (with_reducible first | exact HB.out | apply below_alloc | apply pw_below_drewN | apply below_drew1 | refine below_set ?_ GE218.out) | exact HB.out)) hb); clear BK218; clear HB; have BK218 := n0_; have HB := n1_; clear n0_ n1_; (try clear hb); (try clear hb2); (try clear hk); (try clear hi); have hcz13_0 : w12.cell? ⟨gb218, 0, none⟩ = some (.int .u32 a1_0) := (blk_cell BK218.out 0).trans rfl; have hcz13_1 : w12.cell? ⟨gb218, 1, none⟩ = some (.int .u32 a1_1) := (blk_cell BK218.out 1).trans rfl; have hcz13_2 : w12.cell? ⟨gb218, 2, none⟩ = some (.int .u32 a1_2) := (blk_cell BK218.out 2).trans rfl; have hcz13_3 : w12.cell? ⟨gb218, 3, none⟩ = some (.int .i64 a1_3) := (blk_cell BK218.out 3).trans rfl; have hcz13_4 : w12.cell? ⟨gb218, 4, none⟩ = some (.int .u32 a1_4) := (blk_cell BK218.out 4).trans rfl; have hcz13_5 : w12.cell? ⟨gb218, 5, none⟩ = some (.slice A1_5 l1_5.length c1_5) := (blk_cell BK218.out 5).trans rfl; have hfz13_0 := blk_frozen BK218.out 0; have hfz13_1 := blk_frozen BK218.out 1; have hfz13_2 := blk_frozen BK218.out 2; have hfz13_3 := blk_frozen BK218.out 3; have hfz13_4 := blk_frozen BK218.out 4; have hfz13_5 := blk_frozen BK218.out 5))
        go_meet
        case rel => exact ⟨_, (decide ((l1_5.length : Int) > 100)), (by first | rfl | (simp; done) | (simp [*]; done)), H', ⟨by first | omega | exact Nat.le_refl _⟩, ⟨by (with_reducible repeat (first | refine blk_drewN ?_ _ | refine blk_drew ?_ | refine blk_alloc ?_ _)); exact BK218.out⟩, ⟨by repeat (first | (with_reducible first | exact HB.out | apply below_alloc | apply pw_below_drewN | apply below_drew1 | refine below_set ?_ GE218.out) | exact HB.out)⟩⟩
      · replace c11 := Bool.eq_false_iff.mpr c11
        subst c11
        have H1 : (stolonlaw15_FlowKeeps.j0 k l0 a2 t219 true a1_0 a1_1 a1_2 a1_3 a1_4 l1_5) = some r := by rw [if_neg (show ¬ (false = true) by decide)] at H; exact H
        clear H
        have H := H1
        clear H1
        have H' := Aside0.mk H
        clear H
        go_wp2_with (first | ((with_reducible refine gate_callee (f := 8) rfl ?_); refine goesL_ (some 19) rfl rfl Try.func8 (by kernel_rfl) rfl #[.slice A0 l0.length c0] rfl (by (try simp only [List.map_toArray, List.map_cons, List.map_nil]); first | done | rfl | (simp only [List.length_drop, List.length_take]; rfl)) ?_; (with_reducible refine (stolonref15_Few.calls k _ _ l0 true _ ?side1 ?side2 A8.out).mono ?_); (case side1 => repeat (first | exact (Kd.C_below HR0.out HB.out) | (with_reducible refine Kd.C_alloc ?_ _) | (with_reducible refine Kd.C_drewN ?_ _) | (with_reducible refine Kd.C_drew ?_))); (case side2 => exact HC0.out); rintro e w' ⟨rfl, ⟨nd, rfl⟩⟩; refine ⟨_, rfl, ?_⟩) | (go_at_call 9; (with_reducible refine (stolonref15_Table.calls k _ _ l0 false _ ?side1 ?side2 A10.out).mono ?_); (case side1 => repeat (first | exact (Kd.C_below HR0.out (by repeat (first | (with_reducible first | exact HB.out | apply below_alloc | apply pw_below_drewN | apply below_drew1 | refine below_set ?_ GE218.out) | exact HB.out))) | (with_reducible refine Kd.C_alloc ?_ _) | (with_reducible refine Kd.C_drewN ?_ _) | (with_reducible refine Kd.C_drew ?_))); (case side2 => exact HC0.out); rintro e w14 ⟨rfl, hb⟩; have n0_ := Aside0.mk (blk_below (g := gb218) (o := .cells #[.int .u32 a1_0, .int .u32 a1_1, .int .u32 a1_2, .int .i64 a1_3, .int .u32 a1_4, .slice A1_5 l1_5.length c1_5] 27 (0, 0)) (by (with_reducible repeat (first | refine blk_drewN ?_ _ | refine blk_drew ?_ | refine blk_alloc ?_ _)); exact BK218.out) hb); have n1_ := Aside0.mk (below_step (by repeat (first | (with_reducible first | exact HB.out | apply below_alloc | apply pw_below_drewN | apply below_drew1 | refine below_set ?_ GE218.out) | exact HB.out)) hb); clear BK218; clear HB; have BK218 := n0_; have HB := n1_; clear n0_ n1_; (try clear hb); (try clear hb2); (try clear hk); (try clear hi)))
        go_meet
        case rel => exact ⟨_, (true), (by first | rfl | (simp; done) | (simp [*]; done)), H', ⟨by first | omega | exact Nat.le_refl _⟩, ⟨by (with_reducible repeat (first | refine blk_drewN ?_ _ | refine blk_drew ?_ | refine blk_alloc ?_ _)); exact BK218.out⟩, ⟨by repeat (first | (with_reducible first | exact HB.out | apply below_alloc | apply pw_below_drewN | apply below_drew1 | refine below_set ?_ GE218.out) | exact HB.out)⟩⟩
    · replace c9 := Bool.eq_false_iff.mpr c9
      subst c9
      have H1 : (stolonlaw15_FlowKeeps.j0 k l0 a2 t219 true a1_0 a1_1 a1_2 a1_3 a1_4 l1_5) = some r := by rw [if_neg (show ¬ (false = true) by decide)] at H; exact H
      clear H
      have H := H1
      clear H1
      have H' := Aside0.mk H
      clear H
      go_wp2_with (first | ((with_reducible refine gate_callee (f := 8) rfl ?_); refine goesL_ (some 19) rfl rfl Try.func8 (by kernel_rfl) rfl #[.slice A0 l0.length c0] rfl (by (try simp only [List.map_toArray, List.map_cons, List.map_nil]); first | done | rfl | (simp only [List.length_drop, List.length_take]; rfl)) ?_; (with_reducible refine (stolonref15_Few.calls k _ _ l0 false _ ?side1 ?side2 A8.out).mono ?_); (case side1 => repeat (first | exact (Kd.C_below HR0.out HB.out) | (with_reducible refine Kd.C_alloc ?_ _) | (with_reducible refine Kd.C_drewN ?_ _) | (with_reducible refine Kd.C_drew ?_))); (case side2 => exact HC0.out); rintro e w' ⟨rfl, ⟨nd, rfl⟩⟩; refine ⟨_, rfl, ?_⟩))
      go_meet
      case rel => exact ⟨_, (true), (by first | rfl | (simp; done) | (simp [*]; done)), H', ⟨by first | omega | exact Nat.le_refl _⟩, ⟨by (with_reducible repeat (first | refine blk_drewN ?_ _ | refine blk_drew ?_ | refine blk_alloc ?_ _)); exact BK218.out⟩, ⟨by repeat (first | (with_reducible first | exact HB.out | apply below_alloc | apply pw_below_drewN | apply below_drew1 | refine below_set ?_ GE218.out) | exact HB.out)⟩⟩
  case rest =>
    clear HC5
    try clear c1
    try clear p2
    try clear c4
    try clear c7
    try clear c8
    try clear c9
    try clear c11
    try clear hcz13_0
    try clear hcz13_1
    try clear hcz13_2
    try clear hcz13_3
    try clear hcz13_4
    try clear hcz13_5
    try clear hfz13_0
    try clear hfz13_1
    try clear hfz13_2
    try clear hfz13_3
    try clear hfz13_4
    try clear hfz13_5
    obtain ⟨kq, x31_4, rfl, HA, HJ4, BK218, HB⟩ := hcut
    cases kq with
    | zero => exact absurd HA.out (by simp [stolonlaw15_FlowKeeps.j0])
    | succ kj4 =>
      have H := HA.out
      clear HA
      simp only [stolonlaw15_FlowKeeps.j0] at H
      by_cases c15 : x31_4 = true
      · subst c15
        have H1 : (some t219) = some r := by rw [if_pos rfl] at H; exact H
        clear H
        have H := H1
        clear H1
        obtain rfl := Option.some.inj H
        go_wp2
        go_ret
        exact ⟨by first | rfl | (simp [errW_none, errW_some] <;> rfl) | (simp [*, errW_none, errW_some] <;> rfl), by repeat (first | (with_reducible first | exact HB.out | apply below_alloc | apply pw_below_drewN | apply below_drew1 | refine below_set ?_ GE218.out) | exact HB.out)⟩
      · replace c15 := Bool.eq_false_iff.mpr c15
        subst c15
        have H1 : ((flow_Put.f kj4 l0 a1_0 a1_1 a1_2 a1_3 a1_4 l1_5 a2).bind fun bt222 => (if bt222.2 = 0 then (if a1_2 = 0 then (stolonlaw15_FlowKeeps.j1 kj4 l0 t219 bt222.1 a1_3 a1_0 a1_1 a1_2 a1_3 a1_4 l1_5) else (stolonlaw15_FlowKeeps.j1 kj4 l0 t219 bt222.1 0 a1_0 a1_1 a1_2 a1_3 a1_4 l1_5)) else (if t219 = true then ((stolonref15_Rows.f kj4 bt222.1 l0).bind fun t226 => (if t226 = true then (if bt222.2 = 1 then (some true) else (if bt222.2 = 7 then (some (decide ((l0.length : Int) ≥ a2))) else (some false))) else (some false))) else (some false)))) = some r := by rw [if_neg (show ¬ (false = true) by decide)] at H; exact H
        clear H
        have H := H1
        clear H1
        replace H := Option.bind_eq_some_iff.mp H
        obtain ⟨⟨t222, t225⟩, A160, H⟩ := H
        replace H : (if t225 = 0 then (if a1_2 = 0 then (stolonlaw15_FlowKeeps.j1 kj4 l0 t219 t222 a1_3 a1_0 a1_1 a1_2 a1_3 a1_4 l1_5) else (stolonlaw15_FlowKeeps.j1 kj4 l0 t219 t222 0 a1_0 a1_1 a1_2 a1_3 a1_4 l1_5)) else (if t219 = true then ((stolonref15_Rows.f kj4 t222 l0).bind fun t226 => (if t226 = true then (if t225 = 1 then (some true) else (if t225 = 7 then (some (decide ((l0.length : Int) ≥ a2))) else (some false))) else (some false))) else (some false))) = some r := H
        have A16 := Aside0.mk A160
        clear A160
        by_cases c17 : t225 = 0
        · rw [if_pos c17] at H
          have c17b0 : (t225 == 0) = true := beq_iff_eq.mpr c17
          have c17b1 : (t225 != 0) = false := bne_eq_false_iff_eq.mpr c17
          clear c17
          have HC18 := Aside0.mk H
          clear H
          have hcz19_0 : wc.cell? ⟨gb218, 0, none⟩ = some (.int .u32 a1_0) := (blk_cell BK218.out 0).trans rfl
          have hcz19_1 : wc.cell? ⟨gb218, 1, none⟩ = some (.int .u32 a1_1) := (blk_cell BK218.out 1).trans rfl
          have hcz19_2 : wc.cell? ⟨gb218, 2, none⟩ = some (.int .u32 a1_2) := (blk_cell BK218.out 2).trans rfl
          have hcz19_3 : wc.cell? ⟨gb218, 3, none⟩ = some (.int .i64 a1_3) := (blk_cell BK218.out 3).trans rfl
          have hcz19_4 : wc.cell? ⟨gb218, 4, none⟩ = some (.int .u32 a1_4) := (blk_cell BK218.out 4).trans rfl
          have hcz19_5 : wc.cell? ⟨gb218, 5, none⟩ = some (.slice A1_5 l1_5.length c1_5) := (blk_cell BK218.out 5).trans rfl
          have hfz19_0 := blk_frozen BK218.out 0
          have hfz19_1 := blk_frozen BK218.out 1
          have hfz19_2 := blk_frozen BK218.out 2
          have hfz19_3 := blk_frozen BK218.out 3
          have hfz19_4 := blk_frozen BK218.out 4
          have hfz19_5 := blk_frozen BK218.out 5
          go_upto_if 64 with (first | ((with_reducible refine gate_callee (f := 10) rfl ?_); refine goesL_ (some 37) rfl rfl Try.func10 (by kernel_rfl) rfl #[.slice A0 l0.length c0, .agg #[.int .u32 a1_0, .int .u32 a1_1, .int .u32 a1_2, .int .i64 a1_3, .int .u32 a1_4, .slice A1_5 l1_5.length c1_5], .int .i64 a2] rfl (by (try simp only [List.map_toArray, List.map_cons, List.map_nil]); first | done | rfl | (simp only [List.length_drop, List.length_take]; rfl)) ?_; (with_reducible refine (flow_Put.calls kj4 (fun k_ => k_ < w.heap.size) _ _ l0 a1_0 a1_1 a1_2 a1_3 a1_4 (fun k_ => k_ < w.heap.size) _ _ l1_5 a2 t222 t225 _ ?side1 ?side2 A16.out).mono ?_); (case side1 => exact Kd.V_mk HC0.out (Kd.F_below (Kd.C_F k27_heap HR0.out) (by repeat (first | (with_reducible first | exact HB.out | apply below_alloc | apply pw_below_drewN | apply below_drew1 | refine below_set ?_ GE218.out) | exact HB.out)))); (case side2 => exact Kd.V_mk HC1_5.out (Kd.F_below (Kd.C_F k53_heap HR1_5.out) (by repeat (first | (with_reducible first | exact HB.out | apply below_alloc | apply pw_below_drewN | apply below_drew1 | refine below_set ?_ GE218.out) | exact HB.out)))); rintro e w20 ⟨v223, rfl, ho0, hb⟩; refine ⟨_, rfl, ?_⟩; have n0_ := Aside0.mk (Kd.V_lower (Kd.V_mono (ok' := fun k_ => k_ ≠ gb218) ho0 (fun k_ hk_ => Or.elim hk_ (fun hs_ => Or.elim hs_ (fun hs_ => fun e_ => Nat.not_le.2 hs_ (by rw [e_]; exact GW218.out)) (fun hs_ => fun e_ => Nat.not_le.2 hs_ (by rw [e_]; exact GW218.out))) (fun hn_ => (Kd.freshB (g := gb218) (o := .cells #[.int .u32 a1_0, .int .u32 a1_1, .int .u32 a1_2, .int .i64 a1_3, .int .u32 a1_4, .slice A1_5 l1_5.length c1_5] 27 (0, 0)) (by (with_reducible repeat (first | refine blk_drewN ?_ _ | refine blk_drew ?_ | refine blk_alloc ?_ _)); exact BK218.out) k_ hn_)))) (below_size (by repeat (first | (with_reducible first | exact HB.out | apply below_alloc | apply pw_below_drewN | apply below_drew1 | refine below_set ?_ GE218.out) | exact HB.out)))); have n1_ := Aside0.mk (blk_below (g := gb218) (o := .cells #[.int .u32 a1_0, .int .u32 a1_1, .int .u32 a1_2, .int .i64 a1_3, .int .u32 a1_4, .slice A1_5 l1_5.length c1_5] 27 (0, 0)) (by (with_reducible repeat (first | refine blk_drewN ?_ _ | refine blk_drew ?_ | refine blk_alloc ?_ _)); exact BK218.out) hb); have n2_ := Aside0.mk (below_step (by repeat (first | (with_reducible first | exact HB.out | apply below_alloc | apply pw_below_drewN | apply below_drew1 | refine below_set ?_ GE218.out) | exact HB.out)) hb); clear BK218; clear HB; have HO224 := n0_; have BK218 := n1_; have HB := n2_; clear n0_ n1_ n2_; (try clear hb); (try clear hb2); (try clear hk); (try clear hi); (try clear ho0); have hcz21_0 : w20.cell? ⟨gb218, 0, none⟩ = some (.int .u32 a1_0) := (blk_cell BK218.out 0).trans rfl; have hcz21_1 : w20.cell? ⟨gb218, 1, none⟩ = some (.int .u32 a1_1) := (blk_cell BK218.out 1).trans rfl; have hcz21_2 : w20.cell? ⟨gb218, 2, none⟩ = some (.int .u32 a1_2) := (blk_cell BK218.out 2).trans rfl; have hcz21_3 : w20.cell? ⟨gb218, 3, none⟩ = some (.int .i64 a1_3) := (blk_cell BK218.out 3).trans rfl; have hcz21_4 : w20.cell? ⟨gb218, 4, none⟩ = some (.int .u32 a1_4) := (blk_cell BK218.out 4).trans rfl; have hcz21_5 : w20.cell? ⟨gb218, 5, none⟩ = some (.slice A1_5 l1_5.length c1_5) := (blk_cell BK218.out 5).trans rfl; have hfz21_0 := blk_frozen BK218.out 0; have hfz21_1 := blk_frozen BK218.out 1; have hfz21_2 := blk_frozen BK218.out 2; have hfz21_3 := blk_frozen BK218.out 3; have hfz21_4 := blk_frozen BK218.out 4; have hfz21_5 := blk_frozen BK218.out 5))
          (try simp only [Act.put, List.setIfInBounds_toArray, List.set_cons_zero, List.set_cons_succ])
          go_cut [10] (fun v10 wc => ∃ (kq : Nat) (x10_17 : Int), v10 = .int .i64 x10_17 ∧ Aside0 (stolonlaw15_FlowKeeps.j1 kq l0 t219 t222 x10_17 a1_0 a1_1 a1_2 a1_3 a1_4 l1_5 = some r) ∧ Aside0 (kq ≤ kj4) ∧ Aside0 (Kd.V k27 27 wc w.heap.size (fun k_ => k_ ≠ gb218) v223 t222) ∧ Aside0 (wc.heap[gb218]? = some (.cells #[.int .u32 a1_0, .int .u32 a1_1, .int .u32 a1_2, .int .i64 a1_3, .int .u32 a1_4, (.slice A1_5 l1_5.length c1_5)] 27 (0, 0))) ∧ Aside0 (Below w.heap.size w wc))
          case first =>
            have H := HC18.out
            clear HC18
            by_cases c22 : a1_2 = 0
            · rw [if_pos c22] at H
              have c22b0 : (a1_2 == 0) = true := beq_iff_eq.mpr c22
              have c22b1 : (a1_2 != 0) = false := bne_eq_false_iff_eq.mpr c22
              clear c22
              (first | rw [c22b0] | (simp only [i64_w, i32_w]; rw [c22b0]) | skip)
              have H' := Aside0.mk H
              clear H
              have hcz23_0 : w20.cell? ⟨gb218, 0, none⟩ = some (.int .u32 a1_0) := (blk_cell BK218.out 0).trans rfl
              have hcz23_1 : w20.cell? ⟨gb218, 1, none⟩ = some (.int .u32 a1_1) := (blk_cell BK218.out 1).trans rfl
              have hcz23_2 : w20.cell? ⟨gb218, 2, none⟩ = some (.int .u32 a1_2) := (blk_cell BK218.out 2).trans rfl
              have hcz23_3 : w20.cell? ⟨gb218, 3, none⟩ = some (.int .i64 a1_3) := (blk_cell BK218.out 3).trans rfl
              have hcz23_4 : w20.cell? ⟨gb218, 4, none⟩ = some (.int .u32 a1_4) := (blk_cell BK218.out 4).trans rfl
              have hcz23_5 : w20.cell? ⟨gb218, 5, none⟩ = some (.slice A1_5 l1_5.length c1_5) := (blk_cell BK218.out 5).trans rfl
              have hfz23_0 := blk_frozen BK218.out 0
              have hfz23_1 := blk_frozen BK218.out 1
              have hfz23_2 := blk_frozen BK218.out 2
              have hfz23_3 := blk_frozen BK218.out 3
              have hfz23_4 := blk_frozen BK218.out 4
              have hfz23_5 := blk_frozen BK218.out 5
              go_wp2
              go_meet
              case rel => exact ⟨_, (a1_3), (by first | rfl | (simp; done) | (simp [*]; done)), H', ⟨by have := HJ4.out; first | omega | exact Nat.le_refl _⟩, ⟨by (with_reducible repeat (first | apply Kd.V_alloc | apply Kd.V_drewN | apply Kd.V_drew)); exact HO224.out⟩, ⟨by (with_reducible repeat (first | refine blk_drewN ?_ _ | refine blk_drew ?_ | refine blk_alloc ?_ _)); exact BK218.out⟩, ⟨by repeat (first | (with_reducible first | exact HB.out | apply below_alloc | apply pw_below_drewN | apply below_drew1 | refine below_set ?_ GE218.out) | exact HB.out)⟩⟩
            · rw [if_neg c22] at H
              have c22b0 : (a1_2 == 0) = false := beq_eq_false_iff_ne.mpr c22
              have c22b1 : (a1_2 != 0) = true := bne_iff_ne.mpr c22
              (first | rw [c22b0] | (simp only [i64_w, i32_w]; rw [c22b0]) | skip)
              have H' := Aside0.mk H
              clear H
              go_wp2
              go_meet
              case rel => exact ⟨_, (0), (by first | rfl | (simp; done) | (simp [*]; done)), H', ⟨by have := HJ4.out; first | omega | exact Nat.le_refl _⟩, ⟨by (with_reducible repeat (first | apply Kd.V_alloc | apply Kd.V_drewN | apply Kd.V_drew)); exact HO224.out⟩, ⟨by (with_reducible repeat (first | refine blk_drewN ?_ _ | refine blk_drew ?_ | refine blk_alloc ?_ _)); exact BK218.out⟩, ⟨by repeat (first | (with_reducible first | exact HB.out | apply below_alloc | apply pw_below_drewN | apply below_drew1 | refine below_set ?_ GE218.out) | exact HB.out)⟩⟩
          case rest =>
            clear HC18
            try clear c1
            try clear c2
            try clear p2
            try clear c4
            try clear c7
            try clear c8
            try clear c9
            try clear c10
            try clear c11
            try clear c15
            try clear c17
            try clear c17b0
            try clear c17b1
            try clear c22
            try clear c22b0
            try clear c22b1
            try clear hcz13_0
            try clear hcz13_1
            try clear hcz13_2
            try clear hcz13_3
            try clear hcz13_4
            try clear hcz13_5
            try clear hcz19_0
            try clear hcz19_1
            try clear hcz19_2
            try clear hcz19_3
            try clear hcz19_4
            try clear hcz19_5
            try clear hcz21_0
            try clear hcz21_1
            try clear hcz21_2
            try clear hcz21_3
            try clear hcz21_4
            try clear hcz21_5
            try clear hcz23_0
            try clear hcz23_1
            try clear hcz23_2
            try clear hcz23_3
            try clear hcz23_4
            try clear hcz23_5
            try clear hfz13_0
            try clear hfz13_1
            try clear hfz13_2
            try clear hfz13_3
            try clear hfz13_4
            try clear hfz13_5
            try clear hfz19_0
            try clear hfz19_1
            try clear hfz19_2
            try clear hfz19_3
            try clear hfz19_4
            try clear hfz19_5
            try clear hfz21_0
            try clear hfz21_1
            try clear hfz21_2
            try clear hfz21_3
            try clear hfz21_4
            try clear hfz21_5
            try clear hfz23_0
            try clear hfz23_1
            try clear hfz23_2
            try clear hfz23_3
            try clear hfz23_4
            try clear hfz23_5
            try clear p2
            obtain ⟨kq, x10_17, rfl, HA, HJ17, HO_8, BK218, HB⟩ := hcut
            cases kq with
            | zero => exact absurd HA.out (by simp [stolonlaw15_FlowKeeps.j1])
            | succ kj17 =>
              have H := HA.out
              clear HA
              simp only [stolonlaw15_FlowKeeps.j1] at H
              replace H := Option.bind_eq_some_iff.mp H
              obtain ⟨⟨t227, t228, t229, t230, t231, t232, t235⟩, A240, H⟩ := H
              replace H : ((flow_Del.f t222 a1_0 a1_1 a1_2).bind fun bt237 => ((flow_Del.f l0 a1_0 a1_1 a1_2).bind fun bt241 => (if t219 = true then ((stolonref15_Table.f kj17 t222).bind fun t245 => (if t245 = true then (if t235 = true then ((stolonref15_Same.f kj17 t227 t228 t229 t230 t231 t232 a1_0 a1_1 a1_2 a1_3 a1_4 l1_5).bind fun t246 => (if t246 = true then (if bt237.2 = true then ((stolonref15_Rows.f kj17 bt237.1 bt241.1).bind fun t247 => (if t247 = true then (some (((t222.length : Int) == (l0.length : Int)) == bt241.2)) else (some false))) else (some false)) else (some false))) else (some false)) else (some false))) else (some false)))) = some r := H
              have A24 := Aside0.mk A240
              clear A240
              replace H := Option.bind_eq_some_iff.mp H
              obtain ⟨⟨t237, t240⟩, A250, H⟩ := H
              replace H : ((flow_Del.f l0 a1_0 a1_1 a1_2).bind fun bt241 => (if t219 = true then ((stolonref15_Table.f kj17 t222).bind fun t245 => (if t245 = true then (if t235 = true then ((stolonref15_Same.f kj17 t227 t228 t229 t230 t231 t232 a1_0 a1_1 a1_2 a1_3 a1_4 l1_5).bind fun t246 => (if t246 = true then (if t240 = true then ((stolonref15_Rows.f kj17 t237 bt241.1).bind fun t247 => (if t247 = true then (some (((t222.length : Int) == (l0.length : Int)) == bt241.2)) else (some false))) else (some false)) else (some false))) else (some false)) else (some false))) else (some false))) = some r := H
              have A25 := Aside0.mk A250
              clear A250
              replace H := Option.bind_eq_some_iff.mp H
              obtain ⟨⟨t241, t244⟩, A260, H⟩ := H
              replace H : (if t219 = true then ((stolonref15_Table.f kj17 t222).bind fun t245 => (if t245 = true then (if t235 = true then ((stolonref15_Same.f kj17 t227 t228 t229 t230 t231 t232 a1_0 a1_1 a1_2 a1_3 a1_4 l1_5).bind fun t246 => (if t246 = true then (if t240 = true then ((stolonref15_Rows.f kj17 t237 t241).bind fun t247 => (if t247 = true then (some (((t222.length : Int) == (l0.length : Int)) == t244)) else (some false))) else (some false)) else (some false))) else (some false)) else (some false))) else (some false)) = some r := H
              have A26 := Aside0.mk A260
              clear A260
              by_cases c27 : t219 = true
              · subst c27
                have H1 : ((stolonref15_Table.f kj17 t222).bind fun t245 => (if t245 = true then (if t235 = true then ((stolonref15_Same.f kj17 t227 t228 t229 t230 t231 t232 a1_0 a1_1 a1_2 a1_3 a1_4 l1_5).bind fun t246 => (if t246 = true then (if t240 = true then ((stolonref15_Rows.f kj17 t237 t241).bind fun t247 => (if t247 = true then (some (((t222.length : Int) == (l0.length : Int)) == t244)) else (some false))) else (some false)) else (some false))) else (some false)) else (some false))) = some r := by rw [if_pos rfl] at H; exact H
                clear H
                have H := H1
                clear H1
                replace H := Option.bind_eq_some_iff.mp H
                obtain ⟨t245, A280, H⟩ := H
                replace H : (if t245 = true then (if t235 = true then ((stolonref15_Same.f kj17 t227 t228 t229 t230 t231 t232 a1_0 a1_1 a1_2 a1_3 a1_4 l1_5).bind fun t246 => (if t246 = true then (if t240 = true then ((stolonref15_Rows.f kj17 t237 t241).bind fun t247 => (if t247 = true then (some (((t222.length : Int) == (l0.length : Int)) == t244)) else (some false))) else (some false)) else (some false))) else (some false)) else (some false)) = some r := H
                have A28 := Aside0.mk A280
                clear A280
                by_cases c29 : t245 = true
                · subst c29
                  have H1 : (if t235 = true then ((stolonref15_Same.f kj17 t227 t228 t229 t230 t231 t232 a1_0 a1_1 a1_2 a1_3 a1_4 l1_5).bind fun t246 => (if t246 = true then (if t240 = true then ((stolonref15_Rows.f kj17 t237 t241).bind fun t247 => (if t247 = true then (some (((t222.length : Int) == (l0.length : Int)) == t244)) else (some false))) else (some false)) else (some false))) else (some false)) = some r := by rw [if_pos rfl] at H; exact H
                  clear H
                  have H := H1
                  clear H1
                  by_cases c30 : t235 = true
                  · subst c30
                    have H1 : ((stolonref15_Same.f kj17 t227 t228 t229 t230 t231 t232 a1_0 a1_1 a1_2 a1_3 a1_4 l1_5).bind fun t246 => (if t246 = true then (if t240 = true then ((stolonref15_Rows.f kj17 t237 t241).bind fun t247 => (if t247 = true then (some (((t222.length : Int) == (l0.length : Int)) == t244)) else (some false))) else (some false)) else (some false))) = some r := by rw [if_pos rfl] at H; exact H
                    clear H
                    have H := H1
                    clear H1
                    replace H := Option.bind_eq_some_iff.mp H
                    obtain ⟨t246, A310, H⟩ := H
                    replace H : (if t246 = true then (if t240 = true then ((stolonref15_Rows.f kj17 t237 t241).bind fun t247 => (if t247 = true then (some (((t222.length : Int) == (l0.length : Int)) == t244)) else (some false))) else (some false)) else (some false)) = some r := H
                    have A31 := Aside0.mk A310
                    clear A310
                    by_cases c32 : t246 = true
                    · subst c32
                      have H1 : (if t240 = true then ((stolonref15_Rows.f kj17 t237 t241).bind fun t247 => (if t247 = true then (some (((t222.length : Int) == (l0.length : Int)) == t244)) else (some false))) else (some false)) = some r := by rw [if_pos rfl] at H; exact H
                      clear H
                      have H := H1
                      clear H1
                      by_cases c33 : t240 = true
                      · subst c33
                        have H1 : ((stolonref15_Rows.f kj17 t237 t241).bind fun t247 => (if t247 = true then (some (((t222.length : Int) == (l0.length : Int)) == t244)) else (some false))) = some r := by rw [if_pos rfl] at H; exact H
                        clear H
                        have H := H1
                        clear H1
                        replace H := Option.bind_eq_some_iff.mp H
                        obtain ⟨t247, A340, H⟩ := H
                        replace H : (if t247 = true then (some (((t222.length : Int) == (l0.length : Int)) == t244)) else (some false)) = some r := H
                        have A34 := Aside0.mk A340
                        clear A340
                        by_cases c35 : t247 = true
                        · subst c35
                          have H1 : (some (((t222.length : Int) == (l0.length : Int)) == t244)) = some r := by rw [if_pos rfl] at H; exact H
                          clear H
                          have H := H1
                          clear H1
                          obtain rfl := Option.some.inj H
                          have hcz36_0 : wc.cell? ⟨gb218, 0, none⟩ = some (.int .u32 a1_0) := (blk_cell BK218.out 0).trans rfl
                          have hcz36_1 : wc.cell? ⟨gb218, 1, none⟩ = some (.int .u32 a1_1) := (blk_cell BK218.out 1).trans rfl
                          have hcz36_2 : wc.cell? ⟨gb218, 2, none⟩ = some (.int .u32 a1_2) := (blk_cell BK218.out 2).trans rfl
                          have hcz36_3 : wc.cell? ⟨gb218, 3, none⟩ = some (.int .i64 a1_3) := (blk_cell BK218.out 3).trans rfl
                          have hcz36_4 : wc.cell? ⟨gb218, 4, none⟩ = some (.int .u32 a1_4) := (blk_cell BK218.out 4).trans rfl
                          have hcz36_5 : wc.cell? ⟨gb218, 5, none⟩ = some (.slice A1_5 l1_5.length c1_5) := (blk_cell BK218.out 5).trans rfl
                          have hfz36_0 := blk_frozen BK218.out 0
                          have hfz36_1 := blk_frozen BK218.out 1
                          have hfz36_2 := blk_frozen BK218.out 2
                          have hfz36_3 := blk_frozen BK218.out 3
                          have hfz36_4 := blk_frozen BK218.out 4
                          have hfz36_5 := blk_frozen BK218.out 5
                          obtain ⟨Ao37, co37, eo37⟩ := Kd.V_slice HO_8.out
                          subst eo37
                          go_wp2_with (first | ((with_reducible refine gate_callee (f := 12) rfl ?_); refine goesL_ (some 77) rfl rfl Try.func12 (by kernel_rfl) rfl #[.slice Ao37 t222.length co37, .int .i64 x10_17, .agg #[.int .u32 a1_0, .int .u32 a1_1, .int .u32 a1_2, .int .i64 0]] rfl (by (try simp only [List.map_toArray, List.map_cons, List.map_nil]); first | done | rfl | (simp only [List.length_drop, List.length_take]; rfl)) ?_; (with_reducible refine (flow_Find.calls (fun k_ => k_ ≠ gb218) _ _ t222 x10_17 a1_0 a1_1 a1_2 0 t227 t228 t229 t230 t231 t232 true _ ?side1 A24.out).mono ?_); (case side1 => exact HO_8.out); rintro e w38 ⟨v233, rfl, ho0, hb⟩; refine ⟨_, rfl, ?_⟩; have n0_ := Aside0.mk (Kd.V_below (by (with_reducible repeat (first | apply Kd.V_alloc | apply Kd.V_drewN | apply Kd.V_drew)); exact HO_8.out) hb); have n1_ := Aside0.mk (Kd.V_lower (Kd.V_mono (ok' := fun k_ => k_ ≠ gb218) ho0 (fun k_ hk_ => Or.elim hk_ (fun hs_ => hs_) (fun hn_ => (Kd.freshB (g := gb218) (o := .cells #[.int .u32 a1_0, .int .u32 a1_1, .int .u32 a1_2, .int .i64 a1_3, .int .u32 a1_4, .slice A1_5 l1_5.length c1_5] 27 (0, 0)) (by (with_reducible repeat (first | refine blk_drewN ?_ _ | refine blk_drew ?_ | refine blk_alloc ?_ _)); exact BK218.out) k_ hn_)))) (below_size (by repeat (first | (with_reducible first | exact HB.out | apply below_alloc | apply pw_below_drewN | apply below_drew1 | refine below_set ?_ GE218.out) | exact HB.out)))); have n2_ := Aside0.mk (blk_below (g := gb218) (o := .cells #[.int .u32 a1_0, .int .u32 a1_1, .int .u32 a1_2, .int .i64 a1_3, .int .u32 a1_4, .slice A1_5 l1_5.length c1_5] 27 (0, 0)) (by (with_reducible repeat (first | refine blk_drewN ?_ _ | refine blk_drew ?_ | refine blk_alloc ?_ _)); exact BK218.out) hb); have n3_ := Aside0.mk (below_step (by repeat (first | (with_reducible first | exact HB.out | apply below_alloc | apply pw_below_drewN | apply below_drew1 | refine below_set ?_ GE218.out) | exact HB.out)) hb); clear HO_8; clear BK218; clear HB; have HO_8 := n0_; have HO234 := n1_; have BK218 := n2_; have HB := n3_; clear n0_ n1_ n2_ n3_; (try clear hb); (try clear hb2); (try clear hk); (try clear hi); (try clear ho0)) | ((with_reducible refine gate_dst (N := 11) rfl ?_); (try (refine gate_guard (by rfl) ?_; dsimp only)); refine box_event ?hg (N := 11) ?hd (cs := #[.int .u32 0, .int .u32 0, .int .u32 0, .int .i64 0, .int .u32 0, .slice none 0 0]) (t := 27) ?hr ?_; (case hd => rfl); (case hg => rfl); (case hr => first | (go_simp; done) | (go_simp; rfl)); intro gb236 hg w39 hbox hb; have n0_ := Aside0.mk (Kd.V_below (Kd.V_elderB (by (with_reducible repeat (first | apply Kd.V_alloc | apply Kd.V_drewN | apply Kd.V_drew)); exact HO_8.out) gb236 (Nat.le_of_eq hg.symm)) hb); have n1_ := Aside0.mk (Kd.V_below (Kd.V_elderB (by (with_reducible repeat (first | apply Kd.V_alloc | apply Kd.V_drewN | apply Kd.V_drew)); exact HO234.out) gb236 (Nat.le_of_eq hg.symm)) hb); have n2_ := Aside0.mk (blk_below (g := gb218) (o := .cells #[.int .u32 a1_0, .int .u32 a1_1, .int .u32 a1_2, .int .i64 a1_3, .int .u32 a1_4, .slice A1_5 l1_5.length c1_5] 27 (0, 0)) (by (with_reducible repeat (first | refine blk_drewN ?_ _ | refine blk_drew ?_ | refine blk_alloc ?_ _)); exact BK218.out) hb); have n3_ := Aside0.mk (below_step (by repeat (first | (with_reducible first | exact HB.out | apply below_alloc | apply pw_below_drewN | apply below_drew1 | refine below_set ?_ GE218.out) | exact HB.out)) hb); have n4_ := Aside0.mk (hbox); have n5_ := Aside0.mk ((by rw [hg]; exact (below_size (by repeat (first | (with_reducible first | exact HB.out | apply below_alloc | apply pw_below_drewN | apply below_drew1 | refine below_set ?_ GE218.out) | exact HB.out))) : w.heap.size ≤ gb236)); have n6_ := Aside0.mk ((by rw [hg]; exact (below_size (by repeat (first | (with_reducible first | exact HB.out | apply below_alloc | apply pw_below_drewN | apply below_drew1 | refine below_set ?_ GE218.out) | exact HB.out))) : w.heap.size ≤ gb236)); have n7_ := Aside0.mk ((by rw [hg]; exact Nat.ne_of_lt (blk_lt (g := gb218) (o := .cells #[.int .u32 a1_0, .int .u32 a1_1, .int .u32 a1_2, .int .i64 a1_3, .int .u32 a1_4, .slice A1_5 l1_5.length c1_5] 27 (0, 0)) (by (with_reducible repeat (first | refine blk_drewN ?_ _ | refine blk_drew ?_ | refine blk_alloc ?_ _)); exact BK218.out)) : gb218 ≠ gb236)); have n8_ := Aside0.mk ((by rw [hg]; exact Nat.ne_of_gt (blk_lt (g := gb218) (o := .cells #[.int .u32 a1_0, .int .u32 a1_1, .int .u32 a1_2, .int .i64 a1_3, .int .u32 a1_4, .slice A1_5 l1_5.length c1_5] 27 (0, 0)) (by (with_reducible repeat (first | refine blk_drewN ?_ _ | refine blk_drew ?_ | refine blk_alloc ?_ _)); exact BK218.out)) : gb236 ≠ gb218)); clear HO_8; clear HO234; clear BK218; clear HB; have HO_8 := n0_; have HO234 := n1_; have BK218 := n2_; have HB := n3_; have BK236 := n4_; have GW236 := n5_; have GE236 := n6_; have NB218_236 := n7_; have NB236_218 := n8_; clear n0_ n1_ n2_ n3_ n4_ n5_ n6_ n7_ n8_; clear hb hbox hg; have hnb40 := NB236_218.out; have hnc40 := NB218_236.out; have hcz41_0 : w39.cell? ⟨gb236, 0, none⟩ = some (.int .u32 0) := (blk_cell BK236.out 0).trans rfl; have hcz41_1 : w39.cell? ⟨gb236, 1, none⟩ = some (.int .u32 0) := (blk_cell BK236.out 1).trans rfl; have hcz41_2 : w39.cell? ⟨gb236, 2, none⟩ = some (.int .u32 0) := (blk_cell BK236.out 2).trans rfl; have hcz41_3 : w39.cell? ⟨gb236, 3, none⟩ = some (.int .i64 0) := (blk_cell BK236.out 3).trans rfl; have hcz41_4 : w39.cell? ⟨gb236, 4, none⟩ = some (.int .u32 0) := (blk_cell BK236.out 4).trans rfl; have hcz41_5 : w39.cell? ⟨gb236, 5, none⟩ = some (.slice none 0 0) := (blk_cell BK236.out 5).trans rfl; have hfz41_0 := blk_frozen BK236.out 0; have hfz41_1 := blk_frozen BK236.out 1; have hfz41_2 := blk_frozen BK236.out 2; have hfz41_3 := blk_frozen BK236.out 3; have hfz41_4 := blk_frozen BK236.out 4; have hfz41_5 := blk_frozen BK236.out 5; obtain ⟨Ao42, co42, eo42⟩ := Kd.V_slice HO234.out; subst eo42) | ((with_reducible refine gate_store (t := 27) (p := 11) rfl ?_); refine store_event (t := 27) (p := 11) (v := ?vo_w43) (w1 := ((((((w39.setCell ⟨gb236, 0, none⟩ (.int .u32 t227)).setCell ⟨gb236, 1, none⟩ (.int .u32 t228)).setCell ⟨gb236, 2, none⟩ (.int .u32 t229)).setCell ⟨gb236, 3, none⟩ (.int .i64 t230)).setCell ⟨gb236, 4, none⟩ (.int .u32 t231)).setCell ⟨gb236, 5, none⟩ (.slice Ao42 t232.length co42))) ?hg ?ho ?hn ?hr ?_; (case ho => rfl); (case hg => rfl); (case hn => rfl); (case hr => first | (go_simp; done) | (go_simp; rfl)); intro w43 hw; have n0_ : Aside0 (Kd.V k27 27 w43 w.heap.size (fun k_ => k_ ≠ gb218 ∧ k_ ≠ gb236) (.slice Ao37 t222.length co37) t222) := ⟨(by rw [hw]; exact (by (with_reducible repeat (first | apply Kd.V_alloc | apply Kd.V_drewN | apply Kd.V_drew)); exact Kd.V_mono (Kd.V_far (p := ⟨gb236, 5, none⟩) (Kd.V_far (p := ⟨gb236, 4, none⟩) (Kd.V_far (p := ⟨gb236, 3, none⟩) (Kd.V_far (p := ⟨gb236, 2, none⟩) (Kd.V_far (p := ⟨gb236, 1, none⟩) (Kd.V_far (p := ⟨gb236, 0, none⟩) (Kd.V_mono HO_8.out (fun k_ hk => (⟨hk, hk.2⟩ : _ ∧ k_ ≠ gb236))) (fun _ hk => hk.2) (.int .u32 t227)) (fun _ hk => hk.2) (.int .u32 t228)) (fun _ hk => hk.2) (.int .u32 t229)) (fun _ hk => hk.2) (.int .i64 t230)) (fun _ hk => hk.2) (.int .u32 t231)) (fun _ hk => hk.2) (.slice Ao42 t232.length co42)) (fun _ hk => ⟨hk.1.1, hk.1.2⟩)))⟩; have n1_ : Aside0 (Kd.V k53 53 w43 w.heap.size (fun k_ => k_ ≠ gb218 ∧ k_ ≠ gb236) (.slice Ao42 t232.length co42) t232) := ⟨(by rw [hw]; exact (by (with_reducible repeat (first | apply Kd.V_alloc | apply Kd.V_drewN | apply Kd.V_drew)); exact Kd.V_mono (Kd.V_far (p := ⟨gb236, 5, none⟩) (Kd.V_far (p := ⟨gb236, 4, none⟩) (Kd.V_far (p := ⟨gb236, 3, none⟩) (Kd.V_far (p := ⟨gb236, 2, none⟩) (Kd.V_far (p := ⟨gb236, 1, none⟩) (Kd.V_far (p := ⟨gb236, 0, none⟩) (Kd.V_mono HO234.out (fun k_ hk => (⟨hk, hk.2⟩ : _ ∧ k_ ≠ gb236))) (fun _ hk => hk.2) (.int .u32 t227)) (fun _ hk => hk.2) (.int .u32 t228)) (fun _ hk => hk.2) (.int .u32 t229)) (fun _ hk => hk.2) (.int .i64 t230)) (fun _ hk => hk.2) (.int .u32 t231)) (fun _ hk => hk.2) (.slice Ao42 t232.length co42)) (fun _ hk => ⟨hk.1.1, hk.1.2⟩)))⟩; have n2_ : Aside0 (w43.heap[gb218]? = some (.cells #[.int .u32 a1_0, .int .u32 a1_1, .int .u32 a1_2, .int .i64 a1_3, .int .u32 a1_4, .slice A1_5 l1_5.length c1_5] 27 (0, 0))) := ⟨(by rw [hw]; exact (by (with_reducible repeat (first | refine blk_drewN ?_ _ | refine blk_drew ?_ | refine blk_alloc ?_ _)); refine blk_far ?_ NB218_236.out _; (with_reducible repeat (first | refine blk_drewN ?_ _ | refine blk_drew ?_ | refine blk_alloc ?_ _)); refine blk_far ?_ NB218_236.out _; (with_reducible repeat (first | refine blk_drewN ?_ _ | refine blk_drew ?_ | refine blk_alloc ?_ _)); refine blk_far ?_ NB218_236.out _; (with_reducible repeat (first | refine blk_drewN ?_ _ | refine blk_drew ?_ | refine blk_alloc ?_ _)); refine blk_far ?_ NB218_236.out _; (with_reducible repeat (first | refine blk_drewN ?_ _ | refine blk_drew ?_ | refine blk_alloc ?_ _)); refine blk_far ?_ NB218_236.out _; (with_reducible repeat (first | refine blk_drewN ?_ _ | refine blk_drew ?_ | refine blk_alloc ?_ _)); refine blk_far ?_ NB218_236.out _; (with_reducible repeat (first | refine blk_drewN ?_ _ | refine blk_drew ?_ | refine blk_alloc ?_ _)); exact BK218.out))⟩; have n3_ : Aside0 (w43.heap[gb236]? = some (.cells #[.int .u32 t227, .int .u32 t228, .int .u32 t229, .int .i64 t230, .int .u32 t231, .slice Ao42 t232.length co42] 27 (0, 0))) := ⟨(by rw [hw]; exact (by (with_reducible repeat (first | refine blk_drewN ?_ _ | refine blk_drew ?_ | refine blk_alloc ?_ _)); refine blk_put (cs := #[.int .u32 t227, .int .u32 t228, .int .u32 t229, .int .i64 t230, .int .u32 t231, .slice none 0 0]) ?_ 5 _ rfl; (with_reducible repeat (first | refine blk_drewN ?_ _ | refine blk_drew ?_ | refine blk_alloc ?_ _)); refine blk_put (cs := #[.int .u32 t227, .int .u32 t228, .int .u32 t229, .int .i64 t230, .int .u32 0, .slice none 0 0]) ?_ 4 _ rfl; (with_reducible repeat (first | refine blk_drewN ?_ _ | refine blk_drew ?_ | refine blk_alloc ?_ _)); refine blk_put (cs := #[.int .u32 t227, .int .u32 t228, .int .u32 t229, .int .i64 0, .int .u32 0, .slice none 0 0]) ?_ 3 _ rfl; (with_reducible repeat (first | refine blk_drewN ?_ _ | refine blk_drew ?_ | refine blk_alloc ?_ _)); refine blk_put (cs := #[.int .u32 t227, .int .u32 t228, .int .u32 0, .int .i64 0, .int .u32 0, .slice none 0 0]) ?_ 2 _ rfl; (with_reducible repeat (first | refine blk_drewN ?_ _ | refine blk_drew ?_ | refine blk_alloc ?_ _)); refine blk_put (cs := #[.int .u32 t227, .int .u32 0, .int .u32 0, .int .i64 0, .int .u32 0, .slice none 0 0]) ?_ 1 _ rfl; (with_reducible repeat (first | refine blk_drewN ?_ _ | refine blk_drew ?_ | refine blk_alloc ?_ _)); refine blk_put (cs := #[.int .u32 0, .int .u32 0, .int .u32 0, .int .i64 0, .int .u32 0, .slice none 0 0]) ?_ 0 _ rfl; (with_reducible repeat (first | refine blk_drewN ?_ _ | refine blk_drew ?_ | refine blk_alloc ?_ _)); exact BK236.out))⟩; have n4_ : Aside0 (Below w.heap.size w w43) := ⟨(by rw [hw]; exact (by repeat (first | (with_reducible first | exact HB.out | apply below_alloc | apply pw_below_drewN | apply below_drew1 | refine below_set ?_ GE218.out | refine below_set ?_ GE236.out) | exact HB.out)))⟩; clear hw; clear HO_8; clear HO234; clear BK218; clear BK236; clear HB; have HO_8 := n0_; have HO234 := n1_; have BK218 := n2_; have BK236 := n3_; have HB := n4_; clear n0_ n1_ n2_ n3_ n4_; have hcz44_0 : w43.cell? ⟨gb218, 0, none⟩ = some (.int .u32 a1_0) := (blk_cell BK218.out 0).trans rfl; have hcz44_1 : w43.cell? ⟨gb218, 1, none⟩ = some (.int .u32 a1_1) := (blk_cell BK218.out 1).trans rfl; have hcz44_2 : w43.cell? ⟨gb218, 2, none⟩ = some (.int .u32 a1_2) := (blk_cell BK218.out 2).trans rfl; have hcz44_3 : w43.cell? ⟨gb218, 3, none⟩ = some (.int .i64 a1_3) := (blk_cell BK218.out 3).trans rfl; have hcz44_4 : w43.cell? ⟨gb218, 4, none⟩ = some (.int .u32 a1_4) := (blk_cell BK218.out 4).trans rfl; have hcz44_5 : w43.cell? ⟨gb218, 5, none⟩ = some (.slice A1_5 l1_5.length c1_5) := (blk_cell BK218.out 5).trans rfl; have hfz44_0 := blk_frozen BK218.out 0; have hfz44_1 := blk_frozen BK218.out 1; have hfz44_2 := blk_frozen BK218.out 2; have hfz44_3 := blk_frozen BK218.out 3; have hfz44_4 := blk_frozen BK218.out 4; have hfz44_5 := blk_frozen BK218.out 5) | ((with_reducible refine gate_callee (f := 13) rfl ?_); refine goesL_ (some 88) rfl rfl Try.func13 (by kernel_rfl) rfl #[.slice Ao37 t222.length co37, .int .u32 a1_0, .int .u32 a1_1, .int .u32 a1_2] rfl (by (try simp only [List.map_toArray, List.map_cons, List.map_nil]); first | done | rfl | (simp only [List.length_drop, List.length_take]; rfl)) ?_; (with_reducible refine (flow_Del.calls (fun k_ => (k_ ≠ gb218 ∧ k_ ≠ gb236)) _ _ t222 a1_0 a1_1 a1_2 t237 true _ ?side1 A25.out).mono ?_); (case side1 => exact HO_8.out); rintro e w45 ⟨v238, rfl, ho0, hb⟩; refine ⟨_, rfl, ?_⟩; have n0_ := Aside0.mk (Kd.V_below (by (with_reducible repeat (first | apply Kd.V_alloc | apply Kd.V_drewN | apply Kd.V_drew)); exact HO_8.out) hb); have n1_ := Aside0.mk (Kd.V_below (by (with_reducible repeat (first | apply Kd.V_alloc | apply Kd.V_drewN | apply Kd.V_drew)); exact HO234.out) hb); have n2_ := Aside0.mk (Kd.V_lower (Kd.V_mono (ok' := fun k_ => k_ ≠ gb218 ∧ k_ ≠ gb236) ho0 (fun k_ hk_ => ⟨Or.elim hk_ (fun hs_ => hs_.1) (fun hn_ => (Kd.freshB (g := gb218) (o := .cells #[.int .u32 a1_0, .int .u32 a1_1, .int .u32 a1_2, .int .i64 a1_3, .int .u32 a1_4, .slice A1_5 l1_5.length c1_5] 27 (0, 0)) (by (with_reducible repeat (first | refine blk_drewN ?_ _ | refine blk_drew ?_ | refine blk_alloc ?_ _)); exact BK218.out) k_ hn_)), Or.elim hk_ (fun hs_ => hs_.2) (fun hn_ => (Kd.freshB (g := gb236) (o := .cells #[.int .u32 t227, .int .u32 t228, .int .u32 t229, .int .i64 t230, .int .u32 t231, .slice Ao42 t232.length co42] 27 (0, 0)) (by (with_reducible repeat (first | refine blk_drewN ?_ _ | refine blk_drew ?_ | refine blk_alloc ?_ _)); exact BK236.out) k_ hn_))⟩)) (below_size (by repeat (first | (with_reducible first | exact HB.out | apply below_alloc | apply pw_below_drewN | apply below_drew1 | refine below_set ?_ GE218.out | refine below_set ?_ GE236.out) | exact HB.out)))); have n3_ := Aside0.mk (blk_below (g := gb218) (o := .cells #[.int .u32 a1_0, .int .u32 a1_1, .int .u32 a1_2, .int .i64 a1_3, .int .u32 a1_4, .slice A1_5 l1_5.length c1_5] 27 (0, 0)) (by (with_reducible repeat (first | refine blk_drewN ?_ _ | refine blk_drew ?_ | refine blk_alloc ?_ _)); exact BK218.out) hb); have n4_ := Aside0.mk (blk_below (g := gb236) (o := .cells #[.int .u32 t227, .int .u32 t228, .int .u32 t229, .int .i64 t230, .int .u32 t231, .slice Ao42 t232.length co42] 27 (0, 0)) (by (with_reducible repeat (first | refine blk_drewN ?_ _ | refine blk_drew ?_ | refine blk_alloc ?_ _)); exact BK236.out) hb); have n5_ := Aside0.mk (below_step (by repeat (first | (with_reducible first | exact HB.out | apply below_alloc | apply pw_below_drewN | apply below_drew1 | refine below_set ?_ GE218.out | refine below_set ?_ GE236.out) | exact HB.out)) hb); clear HO_8; clear HO234; clear BK218; clear BK236; clear HB; have HO_8 := n0_; have HO234 := n1_; have HO239 := n2_; have BK218 := n3_; have BK236 := n4_; have HB := n5_; clear n0_ n1_ n2_ n3_ n4_ n5_; (try clear hb); (try clear hb2); (try clear hk); (try clear hi); (try clear ho0); have hcz46_0 : w45.cell? ⟨gb218, 0, none⟩ = some (.int .u32 a1_0) := (blk_cell BK218.out 0).trans rfl; have hcz46_1 : w45.cell? ⟨gb218, 1, none⟩ = some (.int .u32 a1_1) := (blk_cell BK218.out 1).trans rfl; have hcz46_2 : w45.cell? ⟨gb218, 2, none⟩ = some (.int .u32 a1_2) := (blk_cell BK218.out 2).trans rfl; have hcz46_3 : w45.cell? ⟨gb218, 3, none⟩ = some (.int .i64 a1_3) := (blk_cell BK218.out 3).trans rfl; have hcz46_4 : w45.cell? ⟨gb218, 4, none⟩ = some (.int .u32 a1_4) := (blk_cell BK218.out 4).trans rfl; have hcz46_5 : w45.cell? ⟨gb218, 5, none⟩ = some (.slice A1_5 l1_5.length c1_5) := (blk_cell BK218.out 5).trans rfl; have hfz46_0 := blk_frozen BK218.out 0; have hfz46_1 := blk_frozen BK218.out 1; have hfz46_2 := blk_frozen BK218.out 2; have hfz46_3 := blk_frozen BK218.out 3; have hfz46_4 := blk_frozen BK218.out 4; have hfz46_5 := blk_frozen BK218.out 5) | ((with_reducible refine gate_callee (f := 13) rfl ?_); refine goesL_ (some 99) rfl rfl Try.func13 (by kernel_rfl) rfl #[.slice A0 l0.length c0, .int .u32 a1_0, .int .u32 a1_1, .int .u32 a1_2] rfl (by (try simp only [List.map_toArray, List.map_cons, List.map_nil]); first | done | rfl | (simp only [List.length_drop, List.length_take]; rfl)) ?_; (with_reducible refine (flow_Del.calls (fun k_ => k_ < w.heap.size) _ _ l0 a1_0 a1_1 a1_2 t241 t244 _ ?side1 A26.out).mono ?_); (case side1 => exact Kd.V_mk HC0.out (Kd.F_below (Kd.C_F k27_heap HR0.out) (by repeat (first | (with_reducible first | exact HB.out | apply below_alloc | apply pw_below_drewN | apply below_drew1 | refine below_set ?_ GE218.out | refine below_set ?_ GE236.out) | exact HB.out)))); rintro e w47 ⟨v242, rfl, ho0, hb⟩; refine ⟨_, rfl, ?_⟩; have n0_ := Aside0.mk (Kd.V_below (by (with_reducible repeat (first | apply Kd.V_alloc | apply Kd.V_drewN | apply Kd.V_drew)); exact HO_8.out) hb); have n1_ := Aside0.mk (Kd.V_below (by (with_reducible repeat (first | apply Kd.V_alloc | apply Kd.V_drewN | apply Kd.V_drew)); exact HO234.out) hb); have n2_ := Aside0.mk (Kd.V_below (by (with_reducible repeat (first | apply Kd.V_alloc | apply Kd.V_drewN | apply Kd.V_drew)); exact HO239.out) hb); have n3_ := Aside0.mk (Kd.V_lower (Kd.V_mono (ok' := fun k_ => k_ ≠ gb218 ∧ k_ ≠ gb236) ho0 (fun k_ hk_ => ⟨Or.elim hk_ (fun hs_ => fun e_ => Nat.not_le.2 hs_ (by rw [e_]; exact GW218.out)) (fun hn_ => (Kd.freshB (g := gb218) (o := .cells #[.int .u32 a1_0, .int .u32 a1_1, .int .u32 a1_2, .int .i64 a1_3, .int .u32 a1_4, .slice A1_5 l1_5.length c1_5] 27 (0, 0)) (by (with_reducible repeat (first | refine blk_drewN ?_ _ | refine blk_drew ?_ | refine blk_alloc ?_ _)); exact BK218.out) k_ hn_)), Or.elim hk_ (fun hs_ => fun e_ => Nat.not_le.2 hs_ (by rw [e_]; exact GW236.out)) (fun hn_ => (Kd.freshB (g := gb236) (o := .cells #[.int .u32 t227, .int .u32 t228, .int .u32 t229, .int .i64 t230, .int .u32 t231, .slice Ao42 t232.length co42] 27 (0, 0)) (by (with_reducible repeat (first | refine blk_drewN ?_ _ | refine blk_drew ?_ | refine blk_alloc ?_ _)); exact BK236.out) k_ hn_))⟩)) (below_size (by repeat (first | (with_reducible first | exact HB.out | apply below_alloc | apply pw_below_drewN | apply below_drew1 | refine below_set ?_ GE218.out | refine below_set ?_ GE236.out) | exact HB.out)))); have n4_ := Aside0.mk (blk_below (g := gb218) (o := .cells #[.int .u32 a1_0, .int .u32 a1_1, .int .u32 a1_2, .int .i64 a1_3, .int .u32 a1_4, .slice A1_5 l1_5.length c1_5] 27 (0, 0)) (by (with_reducible repeat (first | refine blk_drewN ?_ _ | refine blk_drew ?_ | refine blk_alloc ?_ _)); exact BK218.out) hb); have n5_ := Aside0.mk (blk_below (g := gb236) (o := .cells #[.int .u32 t227, .int .u32 t228, .int .u32 t229, .int .i64 t230, .int .u32 t231, .slice Ao42 t232.length co42] 27 (0, 0)) (by (with_reducible repeat (first | refine blk_drewN ?_ _ | refine blk_drew ?_ | refine blk_alloc ?_ _)); exact BK236.out) hb); have n6_ := Aside0.mk (below_step (by repeat (first | (with_reducible first | exact HB.out | apply below_alloc | apply pw_below_drewN | apply below_drew1 | refine below_set ?_ GE218.out | refine below_set ?_ GE236.out) | exact HB.out)) hb); clear HO_8; clear HO234; clear HO239; clear BK218; clear BK236; clear HB; have HO_8 := n0_; have HO234 := n1_; have HO239 := n2_; have HO243 := n3_; have BK218 := n4_; have BK236 := n5_; have HB := n6_; clear n0_ n1_ n2_ n3_ n4_ n5_ n6_; (try clear hb); (try clear hb2); (try clear hk); (try clear hi); (try clear ho0)) | (go_at_call 9; (with_reducible refine (stolonref15_Table.calls kj17 _ _ t222 true _ ?side1 ?side2 A28.out).mono ?_); (case side1 => repeat (first | exact (Kd.V_reads' HO_8.out).2.2 | (with_reducible refine Kd.C_alloc ?_ _) | (with_reducible refine Kd.C_drewN ?_ _) | (with_reducible refine Kd.C_drew ?_))); (case side2 => exact (Kd.V_reads' HO_8.out).2.1); rintro e w48 ⟨rfl, hb⟩; have n0_ := Aside0.mk (Kd.V_below (by (with_reducible repeat (first | apply Kd.V_alloc | apply Kd.V_drewN | apply Kd.V_drew)); exact HO_8.out) hb); have n1_ := Aside0.mk (Kd.V_below (by (with_reducible repeat (first | apply Kd.V_alloc | apply Kd.V_drewN | apply Kd.V_drew)); exact HO234.out) hb); have n2_ := Aside0.mk (Kd.V_below (by (with_reducible repeat (first | apply Kd.V_alloc | apply Kd.V_drewN | apply Kd.V_drew)); exact HO239.out) hb); have n3_ := Aside0.mk (Kd.V_below (by (with_reducible repeat (first | apply Kd.V_alloc | apply Kd.V_drewN | apply Kd.V_drew)); exact HO243.out) hb); have n4_ := Aside0.mk (blk_below (g := gb218) (o := .cells #[.int .u32 a1_0, .int .u32 a1_1, .int .u32 a1_2, .int .i64 a1_3, .int .u32 a1_4, .slice A1_5 l1_5.length c1_5] 27 (0, 0)) (by (with_reducible repeat (first | refine blk_drewN ?_ _ | refine blk_drew ?_ | refine blk_alloc ?_ _)); exact BK218.out) hb); have n5_ := Aside0.mk (blk_below (g := gb236) (o := .cells #[.int .u32 t227, .int .u32 t228, .int .u32 t229, .int .i64 t230, .int .u32 t231, .slice Ao42 t232.length co42] 27 (0, 0)) (by (with_reducible repeat (first | refine blk_drewN ?_ _ | refine blk_drew ?_ | refine blk_alloc ?_ _)); exact BK236.out) hb); have n6_ := Aside0.mk (below_step (by repeat (first | (with_reducible first | exact HB.out | apply below_alloc | apply pw_below_drewN | apply below_drew1 | refine below_set ?_ GE218.out | refine below_set ?_ GE236.out) | exact HB.out)) hb); clear HO_8; clear HO234; clear HO239; clear HO243; clear BK218; clear BK236; clear HB; have HO_8 := n0_; have HO234 := n1_; have HO239 := n2_; have HO243 := n3_; have BK218 := n4_; have BK236 := n5_; have HB := n6_; clear n0_ n1_ n2_ n3_ n4_ n5_ n6_; (try clear hb); (try clear hb2); (try clear hk); (try clear hi); have hcz49_0 : w48.cell? ⟨gb236, 0, none⟩ = some (.int .u32 t227) := (blk_cell BK236.out 0).trans rfl; have hcz49_1 : w48.cell? ⟨gb236, 1, none⟩ = some (.int .u32 t228) := (blk_cell BK236.out 1).trans rfl; have hcz49_2 : w48.cell? ⟨gb236, 2, none⟩ = some (.int .u32 t229) := (blk_cell BK236.out 2).trans rfl; have hcz49_3 : w48.cell? ⟨gb236, 3, none⟩ = some (.int .i64 t230) := (blk_cell BK236.out 3).trans rfl; have hcz49_4 : w48.cell? ⟨gb236, 4, none⟩ = some (.int .u32 t231) := (blk_cell BK236.out 4).trans rfl; have hcz49_5 : w48.cell? ⟨gb236, 5, none⟩ = some (.slice Ao42 t232.length co42) := (blk_cell BK236.out 5).trans rfl; have hfz49_0 := blk_frozen BK236.out 0; have hfz49_1 := blk_frozen BK236.out 1; have hfz49_2 := blk_frozen BK236.out 2; have hfz49_3 := blk_frozen BK236.out 3; have hfz49_4 := blk_frozen BK236.out 4; have hfz49_5 := blk_frozen BK236.out 5; have hcz50_0 : w48.cell? ⟨gb218, 0, none⟩ = some (.int .u32 a1_0) := (blk_cell BK218.out 0).trans rfl; have hcz50_1 : w48.cell? ⟨gb218, 1, none⟩ = some (.int .u32 a1_1) := (blk_cell BK218.out 1).trans rfl; have hcz50_2 : w48.cell? ⟨gb218, 2, none⟩ = some (.int .u32 a1_2) := (blk_cell BK218.out 2).trans rfl; have hcz50_3 : w48.cell? ⟨gb218, 3, none⟩ = some (.int .i64 a1_3) := (blk_cell BK218.out 3).trans rfl; have hcz50_4 : w48.cell? ⟨gb218, 4, none⟩ = some (.int .u32 a1_4) := (blk_cell BK218.out 4).trans rfl; have hcz50_5 : w48.cell? ⟨gb218, 5, none⟩ = some (.slice A1_5 l1_5.length c1_5) := (blk_cell BK218.out 5).trans rfl; have hfz50_0 := blk_frozen BK218.out 0; have hfz50_1 := blk_frozen BK218.out 1; have hfz50_2 := blk_frozen BK218.out 2; have hfz50_3 := blk_frozen BK218.out 3; have hfz50_4 := blk_frozen BK218.out 4; have hfz50_5 := blk_frozen BK218.out 5) | (go_at_call 14; (with_reducible refine (stolonref15_Same.calls kj17 t227 t228 t229 t230 t231 _ _ t232 a1_0 a1_1 a1_2 a1_3 a1_4 _ _ l1_5 true _ ?side1 ?side2 ?side3 ?side4 A31.out).mono ?_); (case side1 => repeat (first | exact (Kd.V_reads' HO234.out).2.2 | (with_reducible refine Kd.C_alloc ?_ _) | (with_reducible refine Kd.C_drewN ?_ _) | (with_reducible refine Kd.C_drew ?_))); (case side2 => exact (Kd.V_reads' HO234.out).2.1); (case side3 => repeat (first | exact (Kd.C_below HR1_5.out HB.out) | (with_reducible refine Kd.C_alloc ?_ _) | (with_reducible refine Kd.C_drewN ?_ _) | (with_reducible refine Kd.C_drew ?_))); (case side4 => exact HC1_5.out); rintro e w51 ⟨rfl, hb⟩; have n0_ := Aside0.mk (Kd.V_below (by (with_reducible repeat (first | apply Kd.V_alloc | apply Kd.V_drewN | apply Kd.V_drew)); exact HO_8.out) hb); have n1_ := Aside0.mk (Kd.V_below (by (with_reducible repeat (first | apply Kd.V_alloc | apply Kd.V_drewN | apply Kd.V_drew)); exact HO234.out) hb); have n2_ := Aside0.mk (Kd.V_below (by (with_reducible repeat (first | apply Kd.V_alloc | apply Kd.V_drewN | apply Kd.V_drew)); exact HO239.out) hb); have n3_ := Aside0.mk (Kd.V_below (by (with_reducible repeat (first | apply Kd.V_alloc | apply Kd.V_drewN | apply Kd.V_drew)); exact HO243.out) hb); have n4_ := Aside0.mk (blk_below (g := gb218) (o := .cells #[.int .u32 a1_0, .int .u32 a1_1, .int .u32 a1_2, .int .i64 a1_3, .int .u32 a1_4, .slice A1_5 l1_5.length c1_5] 27 (0, 0)) (by (with_reducible repeat (first | refine blk_drewN ?_ _ | refine blk_drew ?_ | refine blk_alloc ?_ _)); exact BK218.out) hb); have n5_ := Aside0.mk (blk_below (g := gb236) (o := .cells #[.int .u32 t227, .int .u32 t228, .int .u32 t229, .int .i64 t230, .int .u32 t231, .slice Ao42 t232.length co42] 27 (0, 0)) (by (with_reducible repeat (first | refine blk_drewN ?_ _ | refine blk_drew ?_ | refine blk_alloc ?_ _)); exact BK236.out) hb); have n6_ := Aside0.mk (below_step (by repeat (first | (with_reducible first | exact HB.out | apply below_alloc | apply pw_below_drewN | apply below_drew1 | refine below_set ?_ GE218.out | refine below_set ?_ GE236.out) | exact HB.out)) hb); clear HO_8; clear HO234; clear HO239; clear HO243; clear BK218; clear BK236; clear HB; have HO_8 := n0_; have HO234 := n1_; have HO239 := n2_; have HO243 := n3_; have BK218 := n4_; have BK236 := n5_; have HB := n6_; clear n0_ n1_ n2_ n3_ n4_ n5_ n6_; (try clear hb); (try clear hb2); (try clear hk); (try clear hi); obtain ⟨Ao52, co52, eo52⟩ := Kd.V_slice HO239.out; subst eo52; obtain ⟨Ao53, co53, eo53⟩ := Kd.V_slice HO243.out; subst eo53) | (go_at_call 11; (with_reducible refine (stolonref15_Rows.calls kj17 _ _ t237 _ _ t241 true _ ?side1 ?side2 ?side3 ?side4 A34.out).mono ?_); (case side1 => repeat (first | exact (Kd.V_reads' HO239.out).2.2 | (with_reducible refine Kd.C_alloc ?_ _) | (with_reducible refine Kd.C_drewN ?_ _) | (with_reducible refine Kd.C_drew ?_))); (case side2 => exact (Kd.V_reads' HO239.out).2.1); (case side3 => repeat (first | exact (Kd.V_reads' HO243.out).2.2 | (with_reducible refine Kd.C_alloc ?_ _) | (with_reducible refine Kd.C_drewN ?_ _) | (with_reducible refine Kd.C_drew ?_))); (case side4 => exact (Kd.V_reads' HO243.out).2.1); rintro e w54 ⟨rfl, hb⟩; have n0_ := Aside0.mk (Kd.V_below (by (with_reducible repeat (first | apply Kd.V_alloc | apply Kd.V_drewN | apply Kd.V_drew)); exact HO_8.out) hb); have n1_ := Aside0.mk (Kd.V_below (by (with_reducible repeat (first | apply Kd.V_alloc | apply Kd.V_drewN | apply Kd.V_drew)); exact HO234.out) hb); have n2_ := Aside0.mk (Kd.V_below (by (with_reducible repeat (first | apply Kd.V_alloc | apply Kd.V_drewN | apply Kd.V_drew)); exact HO239.out) hb); have n3_ := Aside0.mk (Kd.V_below (by (with_reducible repeat (first | apply Kd.V_alloc | apply Kd.V_drewN | apply Kd.V_drew)); exact HO243.out) hb); have n4_ := Aside0.mk (blk_below (g := gb218) (o := .cells #[.int .u32 a1_0, .int .u32 a1_1, .int .u32 a1_2, .int .i64 a1_3, .int .u32 a1_4, .slice A1_5 l1_5.length c1_5] 27 (0, 0)) (by (with_reducible repeat (first | refine blk_drewN ?_ _ | refine blk_drew ?_ | refine blk_alloc ?_ _)); exact BK218.out) hb); have n5_ := Aside0.mk (blk_below (g := gb236) (o := .cells #[.int .u32 t227, .int .u32 t228, .int .u32 t229, .int .i64 t230, .int .u32 t231, .slice Ao42 t232.length co42] 27 (0, 0)) (by (with_reducible repeat (first | refine blk_drewN ?_ _ | refine blk_drew ?_ | refine blk_alloc ?_ _)); exact BK236.out) hb); have n6_ := Aside0.mk (below_step (by repeat (first | (with_reducible first | exact HB.out | apply below_alloc | apply pw_below_drewN | apply below_drew1 | refine below_set ?_ GE218.out | refine below_set ?_ GE236.out) | exact HB.out)) hb); clear HO_8; clear HO234; clear HO239; clear HO243; clear BK218; clear BK236; clear HB; have HO_8 := n0_; have HO234 := n1_; have HO239 := n2_; have HO243 := n3_; have BK218 := n4_; have BK236 := n5_; have HB := n6_; clear n0_ n1_ n2_ n3_ n4_ n5_ n6_; (try clear hb); (try clear hb2); (try clear hk); (try clear hi)))
                          go_ret
                          exact ⟨by first | rfl | (simp [errW_none, errW_some] <;> rfl) | (simp [*, errW_none, errW_some] <;> rfl), by repeat (first | (with_reducible first | exact HB.out | apply below_alloc | apply pw_below_drewN | apply below_drew1 | refine below_set ?_ GE218.out | refine below_set ?_ GE236.out) | exact HB.out)⟩
                        · replace c35 := Bool.eq_false_iff.mpr c35
                          subst c35
                          have H1 : (some false) = some r := by rw [if_neg (show ¬ (false = true) by decide)] at H; exact H
                          clear H
                          have H := H1
                          clear H1
                          exact absurd ((Option.some.inj H).trans hTrue.out) (by simp)
                      · replace c33 := Bool.eq_false_iff.mpr c33
                        subst c33
                        have H1 : (some false) = some r := by rw [if_neg (show ¬ (false = true) by decide)] at H; exact H
                        clear H
                        have H := H1
                        clear H1
                        exact absurd ((Option.some.inj H).trans hTrue.out) (by simp)
                    · replace c32 := Bool.eq_false_iff.mpr c32
                      subst c32
                      have H1 : (some false) = some r := by rw [if_neg (show ¬ (false = true) by decide)] at H; exact H
                      clear H
                      have H := H1
                      clear H1
                      exact absurd ((Option.some.inj H).trans hTrue.out) (by simp)
                  · replace c30 := Bool.eq_false_iff.mpr c30
                    subst c30
                    have H1 : (some false) = some r := by rw [if_neg (show ¬ (false = true) by decide)] at H; exact H
                    clear H
                    have H := H1
                    clear H1
                    exact absurd ((Option.some.inj H).trans hTrue.out) (by simp)
                · replace c29 := Bool.eq_false_iff.mpr c29
                  subst c29
                  have H1 : (some false) = some r := by rw [if_neg (show ¬ (false = true) by decide)] at H; exact H
                  clear H
                  have H := H1
                  clear H1
                  exact absurd ((Option.some.inj H).trans hTrue.out) (by simp)
              · replace c27 := Bool.eq_false_iff.mpr c27
                subst c27
                have H1 : (some false) = some r := by rw [if_neg (show ¬ (false = true) by decide)] at H; exact H
                clear H
                have H := H1
                clear H1
                exact absurd ((Option.some.inj H).trans hTrue.out) (by simp)
        · rw [if_neg c17] at H
          have c17b0 : (t225 == 0) = false := beq_eq_false_iff_ne.mpr c17
          have c17b1 : (t225 != 0) = true := bne_iff_ne.mpr c17
          by_cases c55 : t219 = true
          · subst c55
            have H1 : ((stolonref15_Rows.f kj4 t222 l0).bind fun t226 => (if t226 = true then (if t225 = 1 then (some true) else (if t225 = 7 then (some (decide ((l0.length : Int) ≥ a2))) else (some false))) else (some false))) = some r := by rw [if_pos rfl] at H; exact H
            clear H
            have H := H1
            clear H1
            replace H := Option.bind_eq_some_iff.mp H
            obtain ⟨t226, A560, H⟩ := H
            replace H : (if t226 = true then (if t225 = 1 then (some true) else (if t225 = 7 then (some (decide ((l0.length : Int) ≥ a2))) else (some false))) else (some false)) = some r := H
            have A56 := Aside0.mk A560
            clear A560
            by_cases c57 : t226 = true
            · subst c57
              have H1 : (if t225 = 1 then (some true) else (if t225 = 7 then (some (decide ((l0.length : Int) ≥ a2))) else (some false))) = some r := by rw [if_pos rfl] at H; exact H
              clear H
              have H := H1
              clear H1
              by_cases c58 : t225 = 1
              · rw [if_pos c58] at H
                have c58b0 : (t225 == 1) = true := beq_iff_eq.mpr c58
                have c58b1 : (t225 != 1) = false := bne_eq_false_iff_eq.mpr c58
                clear c58
                obtain rfl := Option.some.inj H
                have hcz59_0 : wc.cell? ⟨gb218, 0, none⟩ = some (.int .u32 a1_0) := (blk_cell BK218.out 0).trans rfl
                have hcz59_1 : wc.cell? ⟨gb218, 1, none⟩ = some (.int .u32 a1_1) := (blk_cell BK218.out 1).trans rfl
                have hcz59_2 : wc.cell? ⟨gb218, 2, none⟩ = some (.int .u32 a1_2) := (blk_cell BK218.out 2).trans rfl
                have hcz59_3 : wc.cell? ⟨gb218, 3, none⟩ = some (.int .i64 a1_3) := (blk_cell BK218.out 3).trans rfl
                have hcz59_4 : wc.cell? ⟨gb218, 4, none⟩ = some (.int .u32 a1_4) := (blk_cell BK218.out 4).trans rfl
                have hcz59_5 : wc.cell? ⟨gb218, 5, none⟩ = some (.slice A1_5 l1_5.length c1_5) := (blk_cell BK218.out 5).trans rfl
                have hfz59_0 := blk_frozen BK218.out 0
                have hfz59_1 := blk_frozen BK218.out 1
                have hfz59_2 := blk_frozen BK218.out 2
                have hfz59_3 := blk_frozen BK218.out 3
                have hfz59_4 := blk_frozen BK218.out 4
                have hfz59_5 := blk_frozen BK218.out 5
                go_wp2_with (first | ((with_reducible refine gate_callee (f := 10) rfl ?_); refine goesL_ (some 37) rfl rfl Try.func10 (by kernel_rfl) rfl #[.slice A0 l0.length c0, .agg #[.int .u32 a1_0, .int .u32 a1_1, .int .u32 a1_2, .int .i64 a1_3, .int .u32 a1_4, .slice A1_5 l1_5.length c1_5], .int .i64 a2] rfl (by (try simp only [List.map_toArray, List.map_cons, List.map_nil]); first | done | rfl | (simp only [List.length_drop, List.length_take]; rfl)) ?_; (with_reducible refine (flow_Put.calls kj4 (fun k_ => k_ < w.heap.size) _ _ l0 a1_0 a1_1 a1_2 a1_3 a1_4 (fun k_ => k_ < w.heap.size) _ _ l1_5 a2 t222 t225 _ ?side1 ?side2 A16.out).mono ?_); (case side1 => exact Kd.V_mk HC0.out (Kd.F_below (Kd.C_F k27_heap HR0.out) (by repeat (first | (with_reducible first | exact HB.out | apply below_alloc | apply pw_below_drewN | apply below_drew1 | refine below_set ?_ GE218.out) | exact HB.out)))); (case side2 => exact Kd.V_mk HC1_5.out (Kd.F_below (Kd.C_F k53_heap HR1_5.out) (by repeat (first | (with_reducible first | exact HB.out | apply below_alloc | apply pw_below_drewN | apply below_drew1 | refine below_set ?_ GE218.out) | exact HB.out)))); rintro e w60 ⟨v223, rfl, ho0, hb⟩; refine ⟨_, rfl, ?_⟩; have n0_ := Aside0.mk (Kd.V_lower (Kd.V_mono (ok' := fun k_ => k_ ≠ gb218) ho0 (fun k_ hk_ => Or.elim hk_ (fun hs_ => Or.elim hs_ (fun hs_ => fun e_ => Nat.not_le.2 hs_ (by rw [e_]; exact GW218.out)) (fun hs_ => fun e_ => Nat.not_le.2 hs_ (by rw [e_]; exact GW218.out))) (fun hn_ => (Kd.freshB (g := gb218) (o := .cells #[.int .u32 a1_0, .int .u32 a1_1, .int .u32 a1_2, .int .i64 a1_3, .int .u32 a1_4, .slice A1_5 l1_5.length c1_5] 27 (0, 0)) (by (with_reducible repeat (first | refine blk_drewN ?_ _ | refine blk_drew ?_ | refine blk_alloc ?_ _)); exact BK218.out) k_ hn_)))) (below_size (by repeat (first | (with_reducible first | exact HB.out | apply below_alloc | apply pw_below_drewN | apply below_drew1 | refine below_set ?_ GE218.out) | exact HB.out)))); have n1_ := Aside0.mk (blk_below (g := gb218) (o := .cells #[.int .u32 a1_0, .int .u32 a1_1, .int .u32 a1_2, .int .i64 a1_3, .int .u32 a1_4, .slice A1_5 l1_5.length c1_5] 27 (0, 0)) (by (with_reducible repeat (first | refine blk_drewN ?_ _ | refine blk_drew ?_ | refine blk_alloc ?_ _)); exact BK218.out) hb); have n2_ := Aside0.mk (below_step (by repeat (first | (with_reducible first | exact HB.out | apply below_alloc | apply pw_below_drewN | apply below_drew1 | refine below_set ?_ GE218.out) | exact HB.out)) hb); clear BK218; clear HB; have HO224 := n0_; have BK218 := n1_; have HB := n2_; clear n0_ n1_ n2_; (try clear hb); (try clear hb2); (try clear hk); (try clear hi); (try clear ho0); obtain ⟨Ao61, co61, eo61⟩ := Kd.V_slice HO224.out; subst eo61) | (go_at_call 11; (with_reducible refine (stolonref15_Rows.calls kj4 _ _ t222 _ _ l0 true _ ?side1 ?side2 ?side3 ?side4 A56.out).mono ?_); (case side1 => repeat (first | exact (Kd.V_reads' HO224.out).2.2 | (with_reducible refine Kd.C_alloc ?_ _) | (with_reducible refine Kd.C_drewN ?_ _) | (with_reducible refine Kd.C_drew ?_))); (case side2 => exact (Kd.V_reads' HO224.out).2.1); (case side3 => repeat (first | exact (Kd.C_below HR0.out HB.out) | (with_reducible refine Kd.C_alloc ?_ _) | (with_reducible refine Kd.C_drewN ?_ _) | (with_reducible refine Kd.C_drew ?_))); (case side4 => exact HC0.out); rintro e w62 ⟨rfl, hb⟩; have n0_ := Aside0.mk (Kd.V_below (by (with_reducible repeat (first | apply Kd.V_alloc | apply Kd.V_drewN | apply Kd.V_drew)); exact HO224.out) hb); have n1_ := Aside0.mk (blk_below (g := gb218) (o := .cells #[.int .u32 a1_0, .int .u32 a1_1, .int .u32 a1_2, .int .i64 a1_3, .int .u32 a1_4, .slice A1_5 l1_5.length c1_5] 27 (0, 0)) (by (with_reducible repeat (first | refine blk_drewN ?_ _ | refine blk_drew ?_ | refine blk_alloc ?_ _)); exact BK218.out) hb); have n2_ := Aside0.mk (below_step (by repeat (first | (with_reducible first | exact HB.out | apply below_alloc | apply pw_below_drewN | apply below_drew1 | refine below_set ?_ GE218.out) | exact HB.out)) hb); clear HO224; clear BK218; clear HB; have HO224 := n0_; have BK218 := n1_; have HB := n2_; clear n0_ n1_ n2_; (try clear hb); (try clear hb2); (try clear hk); (try clear hi)))
                go_ret
                exact ⟨by first | rfl | (simp [errW_none, errW_some] <;> rfl) | (simp [*, errW_none, errW_some] <;> rfl), by repeat (first | (with_reducible first | exact HB.out | apply below_alloc | apply pw_below_drewN | apply below_drew1 | refine below_set ?_ GE218.out) | exact HB.out)⟩
              · rw [if_neg c58] at H
                have c58b0 : (t225 == 1) = false := beq_eq_false_iff_ne.mpr c58
                have c58b1 : (t225 != 1) = true := bne_iff_ne.mpr c58
                by_cases c63 : t225 = 7
                · rw [if_pos c63] at H
                  have c63b0 : (t225 == 7) = true := beq_iff_eq.mpr c63
                  have c63b1 : (t225 != 7) = false := bne_eq_false_iff_eq.mpr c63
                  clear c63
                  obtain rfl := Option.some.inj H
                  have hcz64_0 : wc.cell? ⟨gb218, 0, none⟩ = some (.int .u32 a1_0) := (blk_cell BK218.out 0).trans rfl
                  have hcz64_1 : wc.cell? ⟨gb218, 1, none⟩ = some (.int .u32 a1_1) := (blk_cell BK218.out 1).trans rfl
                  have hcz64_2 : wc.cell? ⟨gb218, 2, none⟩ = some (.int .u32 a1_2) := (blk_cell BK218.out 2).trans rfl
                  have hcz64_3 : wc.cell? ⟨gb218, 3, none⟩ = some (.int .i64 a1_3) := (blk_cell BK218.out 3).trans rfl
                  have hcz64_4 : wc.cell? ⟨gb218, 4, none⟩ = some (.int .u32 a1_4) := (blk_cell BK218.out 4).trans rfl
                  have hcz64_5 : wc.cell? ⟨gb218, 5, none⟩ = some (.slice A1_5 l1_5.length c1_5) := (blk_cell BK218.out 5).trans rfl
                  have hfz64_0 := blk_frozen BK218.out 0
                  have hfz64_1 := blk_frozen BK218.out 1
                  have hfz64_2 := blk_frozen BK218.out 2
                  have hfz64_3 := blk_frozen BK218.out 3
                  have hfz64_4 := blk_frozen BK218.out 4
                  have hfz64_5 := blk_frozen BK218.out 5
                  go_wp2_with (first | ((with_reducible refine gate_callee (f := 10) rfl ?_); refine goesL_ (some 37) rfl rfl Try.func10 (by kernel_rfl) rfl #[.slice A0 l0.length c0, .agg #[.int .u32 a1_0, .int .u32 a1_1, .int .u32 a1_2, .int .i64 a1_3, .int .u32 a1_4, .slice A1_5 l1_5.length c1_5], .int .i64 a2] rfl (by (try simp only [List.map_toArray, List.map_cons, List.map_nil]); first | done | rfl | (simp only [List.length_drop, List.length_take]; rfl)) ?_; (with_reducible refine (flow_Put.calls kj4 (fun k_ => k_ < w.heap.size) _ _ l0 a1_0 a1_1 a1_2 a1_3 a1_4 (fun k_ => k_ < w.heap.size) _ _ l1_5 a2 t222 t225 _ ?side1 ?side2 A16.out).mono ?_); (case side1 => exact Kd.V_mk HC0.out (Kd.F_below (Kd.C_F k27_heap HR0.out) (by repeat (first | (with_reducible first | exact HB.out | apply below_alloc | apply pw_below_drewN | apply below_drew1 | refine below_set ?_ GE218.out) | exact HB.out)))); (case side2 => exact Kd.V_mk HC1_5.out (Kd.F_below (Kd.C_F k53_heap HR1_5.out) (by repeat (first | (with_reducible first | exact HB.out | apply below_alloc | apply pw_below_drewN | apply below_drew1 | refine below_set ?_ GE218.out) | exact HB.out)))); rintro e w65 ⟨v223, rfl, ho0, hb⟩; refine ⟨_, rfl, ?_⟩; have n0_ := Aside0.mk (Kd.V_lower (Kd.V_mono (ok' := fun k_ => k_ ≠ gb218) ho0 (fun k_ hk_ => Or.elim hk_ (fun hs_ => Or.elim hs_ (fun hs_ => fun e_ => Nat.not_le.2 hs_ (by rw [e_]; exact GW218.out)) (fun hs_ => fun e_ => Nat.not_le.2 hs_ (by rw [e_]; exact GW218.out))) (fun hn_ => (Kd.freshB (g := gb218) (o := .cells #[.int .u32 a1_0, .int .u32 a1_1, .int .u32 a1_2, .int .i64 a1_3, .int .u32 a1_4, .slice A1_5 l1_5.length c1_5] 27 (0, 0)) (by (with_reducible repeat (first | refine blk_drewN ?_ _ | refine blk_drew ?_ | refine blk_alloc ?_ _)); exact BK218.out) k_ hn_)))) (below_size (by repeat (first | (with_reducible first | exact HB.out | apply below_alloc | apply pw_below_drewN | apply below_drew1 | refine below_set ?_ GE218.out) | exact HB.out)))); have n1_ := Aside0.mk (blk_below (g := gb218) (o := .cells #[.int .u32 a1_0, .int .u32 a1_1, .int .u32 a1_2, .int .i64 a1_3, .int .u32 a1_4, .slice A1_5 l1_5.length c1_5] 27 (0, 0)) (by (with_reducible repeat (first | refine blk_drewN ?_ _ | refine blk_drew ?_ | refine blk_alloc ?_ _)); exact BK218.out) hb); have n2_ := Aside0.mk (below_step (by repeat (first | (with_reducible first | exact HB.out | apply below_alloc | apply pw_below_drewN | apply below_drew1 | refine below_set ?_ GE218.out) | exact HB.out)) hb); clear BK218; clear HB; have HO224 := n0_; have BK218 := n1_; have HB := n2_; clear n0_ n1_ n2_; (try clear hb); (try clear hb2); (try clear hk); (try clear hi); (try clear ho0); obtain ⟨Ao66, co66, eo66⟩ := Kd.V_slice HO224.out; subst eo66) | (go_at_call 11; (with_reducible refine (stolonref15_Rows.calls kj4 _ _ t222 _ _ l0 true _ ?side1 ?side2 ?side3 ?side4 A56.out).mono ?_); (case side1 => repeat (first | exact (Kd.V_reads' HO224.out).2.2 | (with_reducible refine Kd.C_alloc ?_ _) | (with_reducible refine Kd.C_drewN ?_ _) | (with_reducible refine Kd.C_drew ?_))); (case side2 => exact (Kd.V_reads' HO224.out).2.1); (case side3 => repeat (first | exact (Kd.C_below HR0.out HB.out) | (with_reducible refine Kd.C_alloc ?_ _) | (with_reducible refine Kd.C_drewN ?_ _) | (with_reducible refine Kd.C_drew ?_))); (case side4 => exact HC0.out); rintro e w67 ⟨rfl, hb⟩; have n0_ := Aside0.mk (Kd.V_below (by (with_reducible repeat (first | apply Kd.V_alloc | apply Kd.V_drewN | apply Kd.V_drew)); exact HO224.out) hb); have n1_ := Aside0.mk (blk_below (g := gb218) (o := .cells #[.int .u32 a1_0, .int .u32 a1_1, .int .u32 a1_2, .int .i64 a1_3, .int .u32 a1_4, .slice A1_5 l1_5.length c1_5] 27 (0, 0)) (by (with_reducible repeat (first | refine blk_drewN ?_ _ | refine blk_drew ?_ | refine blk_alloc ?_ _)); exact BK218.out) hb); have n2_ := Aside0.mk (below_step (by repeat (first | (with_reducible first | exact HB.out | apply below_alloc | apply pw_below_drewN | apply below_drew1 | refine below_set ?_ GE218.out) | exact HB.out)) hb); clear HO224; clear BK218; clear HB; have HO224 := n0_; have BK218 := n1_; have HB := n2_; clear n0_ n1_ n2_; (try clear hb); (try clear hb2); (try clear hk); (try clear hi)))
                  go_ret
                  exact ⟨by first | rfl | (simp [errW_none, errW_some] <;> rfl) | (simp [*, errW_none, errW_some] <;> rfl), by repeat (first | (with_reducible first | exact HB.out | apply below_alloc | apply pw_below_drewN | apply below_drew1 | refine below_set ?_ GE218.out) | exact HB.out)⟩
                · rw [if_neg c63] at H
                  have c63b0 : (t225 == 7) = false := beq_eq_false_iff_ne.mpr c63
                  have c63b1 : (t225 != 7) = true := bne_iff_ne.mpr c63
                  exact absurd ((Option.some.inj H).trans hTrue.out) (by simp)
            · replace c57 := Bool.eq_false_iff.mpr c57
              subst c57
              have H1 : (some false) = some r := by rw [if_neg (show ¬ (false = true) by decide)] at H; exact H
              clear H
              have H := H1
              clear H1
              exact absurd ((Option.some.inj H).trans hTrue.out) (by simp)
          · replace c55 := Bool.eq_false_iff.mpr c55
            subst c55
            have H1 : (some false) = some r := by rw [if_neg (show ¬ (false = true) by decide)] at H; exact H
            clear H
            have H := H1
            clear H1
            exact absurd ((Option.some.inj H).trans hTrue.out) (by simp)

end Go.Proofs.Yteibolilodgjnaa.P

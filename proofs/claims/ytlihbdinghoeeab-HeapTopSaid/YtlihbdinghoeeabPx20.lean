/- For each Go function a Lean function, and the proof that a call comes to what it tells: made by program out of the translation (the kit's print, with texts by hand put in). No condition. -/
import Derived.Test.YtlihbdinghoeeabPx0
import Derived.Test.YtlihbdinghoeeabPx7
import Derived.Test.YtlihbdinghoeeabPx17
namespace Go.Proofs.Ytlihbdinghoeeab.P
open Go.RowKit Go.Proofs.Ytlihbdinghoeeab.HRows Go.Proofs.YtlihbdinghoeeabW.PrintWords Go.Proofs.YtlihbdinghoeeabW.PrintLast Go.Proofs.YtlihbdinghoeeabW.PrintMore
attribute [local go_sem] max2_int min2_int max_two min_two max_three min_three max_four min_four   -- for this text's walks alone
set_option linter.unusedVariables false
set_option linter.unusedSimpArgs false

/-! ### heap_Sort: function 19 -/
def heap_Sort.l0 : Nat → List (S24) → List (S24) → Option ((List (S24)))
  | 0, _, _ => none
  | k + 1, x3, x4 => if (x4.length : Int) > 0 then (if 0 < (x4.length : Int) then (if 0 ≤ (wrap64 ((x4.length : Int) - 1)) then (if (wrap64 ((x4.length : Int) - 1)) < (x4.length : Int) then (if (wrap64 ((x4.length : Int) - 1)) ≤ (x4.length : Int) then ((heap_sink.f k ((x4.set (0 : Int).toNat (⟨(rd_T24 x4 (wrap64 ((x4.length : Int) - 1))).f0, (rd_T24 x4 (wrap64 ((x4.length : Int) - 1))).f1⟩ : S24)).take ((wrap64 ((x4.length : Int) - 1)) : Int).toNat)).bind fun t271 => (if x3.length < 8796093022208 then (heap_Sort.l0 k (x3 ++ [(⟨(rd_T24 x4 0).f0, (rd_T24 x4 0).f1⟩ : S24)]) t271) else (none))) else (none)) else (none)) else (none)) else (none)) else (some x3)
def heap_Sort.f (k : Nat) (l0 : List (S24)) : Option ((List (S24))) := (heap_Make.f k l0).bind fun t261 => (heap_Sort.l0 k ([] : List (S24)) t261)
theorem heap_Sort.mono_l : ∀ k, (∀ y0 y1, LeO (heap_Sort.l0 k y0 y1) (heap_Sort.l0 (k + 1) y0 y1))
  | 0 => fun _ _ r h => by simp [heap_Sort.l0] at h
  | k + 1 => by
    have ih0 := heap_Sort.mono_l k
    · intro y0 y1
      unfold heap_Sort.l0
      repeat' first
      | (with_reducible exact ih0 _ _)
      | (with_reducible exact heap_Make.mono _ _)
      | (with_reducible exact heap_sink.mono _ _)
      | (with_reducible exact LeO.refl _)
      | (with_reducible exact LeO.none _)
      | (with_reducible refine LeO.ite ?_ ?_)
      | (with_reducible refine LeO.bind ?_ (fun _ => ?_))
      | exact ih0 _ _
      | exact heap_Make.mono _ _
      | exact heap_sink.mono _ _
      | exact LeO.none _
      | refine LeO.ite ?_ ?_
      | refine LeO.bind ?_ (fun _ => ?_)
theorem heap_Sort.mono : ∀ a0 k, LeO (heap_Sort.f k a0) (heap_Sort.f (k + 1) a0) := by
  intro a0 k
  have ih0 := heap_Sort.mono_l k
  unfold heap_Sort.f
  repeat' first
      | (with_reducible exact ih0 _ _)
      | (with_reducible exact heap_Make.mono _ _)
      | (with_reducible exact heap_sink.mono _ _)
      | (with_reducible exact LeO.refl _)
      | (with_reducible exact LeO.none _)
      | (with_reducible refine LeO.ite ?_ ?_)
      | (with_reducible refine LeO.bind ?_ (fun _ => ?_))
      | exact ih0 _ _
      | exact heap_Make.mono _ _
      | exact heap_sink.mono _ _
      | exact LeO.none _
      | refine LeO.ite ?_ ?_
      | refine LeO.bind ?_ (fun _ => ?_)
set_option maxHeartbeats 8000000 in
set_option maxRecDepth 100000 in
theorem heap_Sort.calls (k : Nat) (A0 : Option Addr) (c0 : Nat) (l0 : List (S24)) (r : List (S24)) (w : World) (hr0 : Kd.C k24 w A0 l0.length l0) (hc0 : l0.length ≤ c0) (h : heap_Sort.f k l0 = some r) :
    Calls Try.prog 19 #[.slice A0 l0.length c0] w fun e w' => ∃ v0_ : Value, e = .returned (v0_) ∧ Kd.R k24 24 w' w.heap.size (fun _ => True) v0_ r ∧ Below w.heap.size w w' := by
  have hu24 := Try.underlying24
  have HR0 := Aside0.mk hr0
  have HC0 := Aside0.mk hc0
  clear hr0 hc0
  have HB := Aside0.mk (Below.refl w.heap.size w)
  have H : ((heap_Make.f k l0).bind fun t261 => (heap_Sort.l0 k ([] : List (S24)) t261)) = some r := h
  clear h
  replace H := Option.bind_eq_some_iff.mp H
  obtain ⟨t261, A20, H⟩ := H
  replace H : (heap_Sort.l0 k ([] : List (S24)) t261) = some r := H
  have A2 := Aside0.mk A20
  clear A20
  have H' := Aside0.mk H
  clear H
  go_enter Try.func19, Try.ntmps19
  go_wp2_with (first | ((with_reducible refine gate_callee (f := 17) rfl ?_); refine goesL_ (some 7) rfl rfl Try.func17 (by kernel_rfl) rfl #[.slice A0 l0.length c0] rfl (by (try simp only [List.map_toArray, List.map_cons, List.map_nil]); first | done | rfl | (simp only [List.length_drop, List.length_take]; rfl)) ?_; (with_reducible refine (heap_Make.calls k _ _ l0 t261 _ ?side1 ?side2 A2.out).mono ?_); (case side1 => repeat (first | exact HR0.out | (with_reducible refine Kd.C_alloc ?_ _) | (with_reducible refine Kd.C_drewN ?_ _) | (with_reducible refine Kd.C_drew ?_))); (case side2 => exact HC0.out); rintro e w3 ⟨v262, rfl, ho0, hb⟩; refine ⟨_, rfl, ?_⟩; have n0_ := Aside0.mk (Kd.R_lower ho0 (below_size (by repeat (first | (with_reducible first | exact HB.out | apply below_alloc | apply pw_below_drewN | apply below_drew1) | exact HB.out)))); have n1_ := Aside0.mk (below_step (by repeat (first | (with_reducible first | exact HB.out | apply below_alloc | apply pw_below_drewN | apply below_drew1) | exact HB.out)) hb); clear HB; have HO263 := n0_; have HB := n1_; clear n0_ n1_; (try clear hb); (try clear hb2); (try clear hk); (try clear hi); (try clear ho0)))
  go_loopg [3, 4] k (fun kq v3 v4 w' => ∃ (x3_1 : List (S24)) (x4_1 : List (S24)), Aside0 (heap_Sort.l0 kq x3_1 x4_1 = some r) ∧ Aside0 (kq ≤ k) ∧ Aside0 (Kd.R k24 24 w' w.heap.size (fun k_ => some k_ ≠ (v4 : Value).ownBlock) v3 x3_1) ∧ Aside0 (Kd.R k24 24 w' w.heap.size (fun k_ => some k_ ≠ (v3 : Value).ownBlock) v4 x4_1) ∧ Aside0 (Below w.heap.size w w'))
  case atStart => exact ⟨(([] : List (S24))), (t261), H', ⟨Nat.le_refl _⟩, ⟨by first | exact Kd.R_nil _ _ _ _ _ | exact Kd.N_nil _ _ _ _ _ | exact Kd.V_nil _ _ _ _ _ | exact Kd.Q_nil _ _ _ _ _ | exact Kd.S_nil _ _ _ _ _⟩, ⟨by (with_reducible repeat (first | apply Kd.R_alloc | apply Kd.R_drewN | apply Kd.R_drew)); exact Kd.R_mono HO263.out (fun _ hk => (by simp [Value.ownBlock]))⟩, ⟨by repeat (first | (with_reducible first | exact HB.out | apply below_alloc | apply pw_below_drewN | apply below_drew1) | exact HB.out)⟩⟩
  case round =>
    clear H'
    try clear c1
    try clear p2
    obtain ⟨x3_1, x4_1, HA, HK1, HO_3, HO_4, HB⟩ := hrel
    cases gk with
    | zero => exact absurd HA.out (by simp [heap_Sort.l0])
    | succ k1 =>
      have H := HA.out
      clear HA
      simp only [heap_Sort.l0] at H
      by_cases c4 : (x4_1.length : Int) > 0
      · rw [if_pos c4] at H
        have c4b0 : decide (0 < (x4_1.length : Int)) = true := decide_eq_true c4
        have c4b1 : decide (0 < x4_1.length) = true := decide_eq_true (by omega)
        clear c4
        by_cases c5 : 0 < (x4_1.length : Int)
        · rw [if_pos c5] at H
          have c5b0 : decide (0 < (x4_1.length : Int)) = true := decide_eq_true c5
          have c5b1 : decide (0 < x4_1.length) = true := decide_eq_true (by omega)
          clear c5
          obtain ⟨ji6, hji6⟩ : ∃ j_ : Int, (wrap64 ((x4_1.length : Int) - 1)) = j_ := ⟨_, rfl⟩
          replace H : (if 0 ≤ (ji6) then (if (ji6) < (x4_1.length : Int) then (if (ji6) ≤ (x4_1.length : Int) then ((heap_sink.f k1 ((x4_1.set (0 : Int).toNat (⟨(rd_T24 x4_1 (ji6)).f0, (rd_T24 x4_1 (ji6)).f1⟩ : S24)).take ((ji6) : Int).toNat)).bind fun t271 => (if x3_1.length < 8796093022208 then (heap_Sort.l0 k1 (x3_1 ++ [(⟨(rd_T24 x4_1 0).f0, (rd_T24 x4_1 0).f1⟩ : S24)]) t271) else (none))) else (none)) else (none)) else (none)) = some r := by first | (rw [hji6] at H; exact H) | (simp only [hji6] at H ⊢; exact H)
          have hji6w : (IntKind.i64.wrap ((x4_1.length : Int) - 1)) = ji6 := (i64_w _).trans hji6
          by_cases c7 : 0 ≤ (ji6)
          · rw [if_pos c7] at H
            have c7b0 : decide (0 ≤ (ji6)) = true := decide_eq_true c7
            clear c7
            by_cases c8 : (ji6) < (x4_1.length : Int)
            · rw [if_pos c8] at H
              have c8b0 : decide ((ji6) < (x4_1.length : Int)) = true := decide_eq_true c8
              clear c8
              obtain ⟨y267, hy267⟩ : ∃ y_ : List (S24), y_ = (x4_1.set (0 : Int).toNat (⟨(rd_T24 x4_1 (ji6)).f0, (rd_T24 x4_1 (ji6)).f1⟩ : S24)) := ⟨_, rfl⟩
              replace H : (if (ji6) ≤ (x4_1.length : Int) then ((heap_sink.f k1 (y267.take ((ji6) : Int).toNat)).bind fun t271 => (if x3_1.length < 8796093022208 then (heap_Sort.l0 k1 (x3_1 ++ [(⟨(rd_T24 x4_1 0).f0, (rd_T24 x4_1 0).f1⟩ : S24)]) t271) else (none))) else (none)) = some r := by first | (rw [hy267]; with_reducible exact H) | (have H2_ := (Option.bind_some _ _).symm.trans H; rw [hy267]; with_reducible exact H2_) | (have H2_ := (Option.bind_some _ _).symm.trans H; with_reducible exact H2_) | with_reducible exact H | (rw [hy267]; exact H) | exact H
              have Ny267 := Aside0.mk hy267
              clear hy267
              by_cases c10 : (ji6) ≤ (x4_1.length : Int)
              · rw [if_pos c10] at H
                have c10b0 := eq_true c10
                have c10b1 : decide ((ji6) ≤ (x4_1.length : Int)) = true := decide_eq_true c10
                clear c10
                obtain ⟨y268, hy268⟩ : ∃ y_ : List (S24), y_ = (y267.take ((ji6) : Int).toNat) := ⟨_, rfl⟩
                replace H : ((heap_sink.f k1 y268).bind fun t271 => (if x3_1.length < 8796093022208 then (heap_Sort.l0 k1 (x3_1 ++ [(⟨(rd_T24 x4_1 0).f0, (rd_T24 x4_1 0).f1⟩ : S24)]) t271) else (none))) = some r := by first | (rw [hy268]; with_reducible exact H) | (have H2_ := (Option.bind_some _ _).symm.trans H; rw [hy268]; with_reducible exact H2_) | (have H2_ := (Option.bind_some _ _).symm.trans H; with_reducible exact H2_) | with_reducible exact H | (rw [hy268]; exact H) | exact H
                have Ny268 := Aside0.mk hy268
                clear hy268
                replace H := Option.bind_eq_some_iff.mp H
                obtain ⟨t271, A110, H⟩ := H
                replace H : (if x3_1.length < 8796093022208 then (heap_Sort.l0 k1 (x3_1 ++ [(⟨(rd_T24 x4_1 0).f0, (rd_T24 x4_1 0).f1⟩ : S24)]) t271) else (none)) = some r := H
                have A11 := Aside0.mk A110
                clear A110
                by_cases c12 : x3_1.length < 8796093022208
                · rw [if_pos c12] at H
                  have LMc12 := Aside0.mk c12
                  clear c12
                  obtain ⟨y272, hy272⟩ : ∃ y_ : List (S24), y_ = (x3_1 ++ [(⟨(rd_T24 x4_1 0).f0, (rd_T24 x4_1 0).f1⟩ : S24)]) := ⟨_, rfl⟩
                  replace H : (heap_Sort.l0 k1 y272 t271) = some r := by first | (rw [hy272]; with_reducible exact H) | (have H2_ := (Option.bind_some _ _).symm.trans H; rw [hy272]; with_reducible exact H2_) | (have H2_ := (Option.bind_some _ _).symm.trans H; with_reducible exact H2_) | with_reducible exact H | (rw [hy272]; exact H) | exact H
                  have Ny272 := Aside0.mk hy272
                  clear hy272
                  have H' := Aside0.mk H
                  clear H
                  obtain ⟨Ao13, co13, eo13⟩ := Kd.R_slice HO_4.out
                  subst eo13
                  have p264 : 0 ≤ (0 : Int) := (by omega)
                  have q264 : 0 < (x4_1.length : Int) := of_decide_eq_true (by first | (with_reducible assumption) | assumption)
                  obtain ⟨ad264, e264, hx264_0, hx264_1⟩ := at_T24 (Kd.R_reads' HO_4.out).2.2 0 p264 q264
                  cases e264
                  have qi264 : (0 < x4_1.length) = True := eq_true (by omega)
                  (try rw [show ((0 : Int)).toNat = 0 from rfl] at hx264_0)
                  (try rw [show 0 * 2 = 0 from rfl] at hx264_0)
                  (try rw [Addr.add_zero'] at hx264_0)
                  (try rw [show ((0 : Int)).toNat = 0 from rfl] at hx264_1)
                  (try rw [show 0 * 2 = 0 from rfl] at hx264_1)
                  (try rw [Addr.add_zero'] at hx264_1)
                  replace p264 := eq_true p264
                  replace q264 := eq_true q264
                  go_wp2_with (first | ((with_reducible refine gate_dst (N := 5) rfl ?_); refine box_event ?hg (N := 5) ?hd (cs := #[.int .i64 0, .int .i64 0]) (t := 24) ?hr ?_; (case hd => rfl); (case hg => rfl); (case hr => first | (go_simp; done) | (go_simp; rfl)); intro gb265 hg w14 hbox hb; have n0_ := Aside0.mk (Kd.R_below (Kd.R_elderB (by (with_reducible repeat (first | apply Kd.R_alloc | apply Kd.R_drewN | apply Kd.R_drew)); exact HO_3.out) gb265 (Nat.le_of_eq hg.symm)) hb); have n1_ := Aside0.mk (Kd.R_below (Kd.R_elderB (by (with_reducible repeat (first | apply Kd.R_alloc | apply Kd.R_drewN | apply Kd.R_drew)); exact HO_4.out) gb265 (Nat.le_of_eq hg.symm)) hb); have n2_ := Aside0.mk (below_step (by repeat (first | (with_reducible first | exact HB.out | apply below_alloc | apply pw_below_drewN | apply below_drew1) | exact HB.out)) hb); have n3_ := Aside0.mk (hbox); have n4_ := Aside0.mk ((by rw [hg]; exact (below_size (by repeat (first | (with_reducible first | exact HB.out | apply below_alloc | apply pw_below_drewN | apply below_drew1) | exact HB.out))) : w.heap.size ≤ gb265)); have n5_ := Aside0.mk ((by rw [hg]; exact (below_size (by repeat (first | (with_reducible first | exact HB.out | apply below_alloc | apply pw_below_drewN | apply below_drew1) | exact HB.out))) : w.heap.size ≤ gb265)); clear HO_3; clear HO_4; clear HB; have HO_3 := n0_; have HO_4 := n1_; have HB := n2_; have BK265 := n3_; have GW265 := n4_; have GE265 := n5_; clear n0_ n1_ n2_ n3_ n4_ n5_; clear hb hbox hg; have hcz15_0 : w14.cell? ⟨gb265, 0, none⟩ = some (.int .i64 0) := (blk_cell BK265.out 0).trans rfl; have hcz15_1 : w14.cell? ⟨gb265, 1, none⟩ = some (.int .i64 0) := (blk_cell BK265.out 1).trans rfl; have hfz15_0 := blk_frozen BK265.out 0; have hfz15_1 := blk_frozen BK265.out 1) | ((with_reducible refine gate_store (t := 24) (p := 5) rfl ?_); refine store_event (t := 24) (p := 5) (v := ?vo_w16) (w1 := ((w14.setCell ⟨gb265, 0, none⟩ (.int .i64 ((rd_T24 x4_1 0).f0))).setCell ⟨gb265, 1, none⟩ (.int .i64 ((rd_T24 x4_1 0).f1)))) ?hg ?ho ?hn ?hr ?_; (case ho => rfl); (case hg => rfl); (case hn => rfl); (case hr => first | (go_simp; done) | (go_simp; rfl)); intro w16 hw; have n0_ : Aside0 (Kd.R k24 24 w16 w.heap.size (fun k_ => some k_ ≠ (.slice (some ad264) x4_1.length co13 : Value).ownBlock ∧ k_ ≠ gb265) u3 x3_1) := ⟨(by rw [hw]; exact (by (with_reducible repeat (first | apply Kd.R_alloc | apply Kd.R_drewN | apply Kd.R_drew)); exact Kd.R_mono (Kd.R_far (p := ⟨gb265, 1, none⟩) (Kd.R_far (p := ⟨gb265, 0, none⟩) (Kd.R_mono HO_3.out (fun k_ hk => (⟨hk, hk.2⟩ : _ ∧ k_ ≠ gb265))) (fun _ hk => hk.2) (.int .i64 ((rd_T24 x4_1 0).f0))) (fun _ hk => hk.2) (.int .i64 ((rd_T24 x4_1 0).f1))) (fun _ hk => ⟨hk.1.1, hk.1.2⟩)))⟩; have n1_ : Aside0 (Kd.R k24 24 w16 w.heap.size (fun k_ => some k_ ≠ (u3 : Value).ownBlock ∧ k_ ≠ gb265) (.slice (some ad264) x4_1.length co13) x4_1) := ⟨(by rw [hw]; exact (by (with_reducible repeat (first | apply Kd.R_alloc | apply Kd.R_drewN | apply Kd.R_drew)); exact Kd.R_mono (Kd.R_far (p := ⟨gb265, 1, none⟩) (Kd.R_far (p := ⟨gb265, 0, none⟩) (Kd.R_mono HO_4.out (fun k_ hk => (⟨hk, hk.2⟩ : _ ∧ k_ ≠ gb265))) (fun _ hk => hk.2) (.int .i64 ((rd_T24 x4_1 0).f0))) (fun _ hk => hk.2) (.int .i64 ((rd_T24 x4_1 0).f1))) (fun _ hk => ⟨hk.1.1, hk.1.2⟩)))⟩; have n2_ : Aside0 (w16.heap[gb265]? = some (.cells #[.int .i64 ((rd_T24 x4_1 0).f0), .int .i64 ((rd_T24 x4_1 0).f1)] 24 (0, 0))) := ⟨(by rw [hw]; exact (by (with_reducible repeat (first | refine blk_drewN ?_ _ | refine blk_drew ?_ | refine blk_alloc ?_ _)); refine blk_put (cs := #[.int .i64 ((rd_T24 x4_1 0).f0), .int .i64 0]) ?_ 1 _ rfl; (with_reducible repeat (first | refine blk_drewN ?_ _ | refine blk_drew ?_ | refine blk_alloc ?_ _)); refine blk_put (cs := #[.int .i64 0, .int .i64 0]) ?_ 0 _ rfl; (with_reducible repeat (first | refine blk_drewN ?_ _ | refine blk_drew ?_ | refine blk_alloc ?_ _)); exact BK265.out))⟩; have n3_ : Aside0 (Below w.heap.size w w16) := ⟨(by rw [hw]; exact (by repeat (first | (with_reducible first | exact HB.out | apply below_alloc | apply pw_below_drewN | apply below_drew1 | refine below_set ?_ GE265.out) | exact HB.out)))⟩; clear hw; clear HO_3; clear HO_4; clear BK265; clear HB; have HO_3 := n0_; have HO_4 := n1_; have BK265 := n2_; have HB := n3_; clear n0_ n1_ n2_ n3_; have p266 : 0 ≤ ((ji6) : Int) := of_decide_eq_true (by first | (with_reducible assumption) | assumption); have q266 : (ji6) < (x4_1.length : Int) := of_decide_eq_true (by first | (with_reducible assumption) | assumption); obtain ⟨ad266, e266, hx266_0, hx266_1⟩ := at_T24 (Kd.R_reads' HO_4.out).2.2 (ji6) p266 q266; obtain rfl : ad264 = ad266 := (by injection e266); replace p266 := eq_true p266; replace q266 := eq_true q266; have p9 : 0 ≤ (0 : Int) := (by omega); have q9 : (0 : Int) < ((x4_1.length : Int) : Int) := of_decide_eq_true (by first | (with_reducible assumption) | assumption); have qi9 : (0 < x4_1.length) = True := eq_true (by omega); obtain ⟨go9, co9, eo9, gb9, gl9, cl9, HG9⟩ := Kd.R_form HO_4.out (by omega); (first | cases eo9 | (injection eo9 with ea_ en_ ec_; (first | subst ea_ | (injection ea_ with ea_; subst ea_)); subst ec_; clear en_)); have GB9 := Aside0.mk gb9; have GG9 := Aside0.mk HG9; clear gb9 gl9 HG9; (first | simp only [add_plain] at hx264_0 | skip); (first | simp only [add_plain] at hx264_1 | skip); (first | simp only [add_plain] at hx266_0 | skip); (first | simp only [add_plain] at hx266_1 | skip); obtain ⟨ce9, hcl9, hM9, hcc9, hfr9⟩ := Kd.R_elem HO_4.out z24 (0 : Int) p9 q9; obtain rfl := k24_openM hM9; have hx9_0 : w16.cell? ⟨go9, (0 : Int).toNat * 2, none⟩ = some (.int .i64 ((rd_T24 x4_1 0).f0)) := hcc9 0 _ rfl; have hx9_1 : w16.cell? ⟨go9, (0 : Int).toNat * 2 + 1, none⟩ = some (.int .i64 ((rd_T24 x4_1 0).f1)) := hcc9 1 _ rfl; have hf9_0 : w16.frozen? ⟨go9, (0 : Int).toNat * 2, none⟩ = false := hfr9 0; have hf9_1 : w16.frozen? ⟨go9, (0 : Int).toNat * 2 + 1, none⟩ = false := hfr9 1; clear hcl9 hcc9 hfr9 hM9; (try rw [show ((0 : Int)).toNat = 0 from rfl] at hx9_0); (try simp only [Nat.reduceMul, Nat.zero_mul, Nat.zero_add, Nat.reduceAdd] at hx9_0); (try rw [show ((0 : Int)).toNat = 0 from rfl] at hf9_0); (try simp only [Nat.reduceMul, Nat.zero_mul, Nat.zero_add, Nat.reduceAdd] at hf9_0); (try rw [show ((0 : Int)).toNat = 0 from rfl] at hx9_1); (try simp only [Nat.reduceMul, Nat.zero_mul, Nat.zero_add, Nat.reduceAdd] at hx9_1); (try rw [show ((0 : Int)).toNat = 0 from rfl] at hf9_1); (try simp only [Nat.reduceMul, Nat.zero_mul, Nat.zero_add, Nat.reduceAdd] at hf9_1); replace p9 := eq_true p9; replace q9 := eq_true q9; have HX17 := Aside0.mk (show Kd.R k24 24 w16 w.heap.size (fun k_ => some k_ ≠ (u3 : Value).ownBlock ∧ k_ ≠ gb265) (.slice (some ⟨go9, 0, none⟩) x4_1.length co13) x4_1 from (by (with_reducible repeat (first | apply Kd.R_alloc | apply Kd.R_drewN | apply Kd.R_drew)); exact HO_4.out)); obtain ⟨ce17, hcl17, hM17, hcc17, hfr17⟩ := Kd.R_elem HX17.out z24 (0 : Int) (by omega) (by have h_ : (0 : Int) < ((x4_1.length : Int) : Int) := of_decide_eq_true (by first | (with_reducible assumption) | assumption); first | exact h_ | (have e_ := (Kd.R_reads' HO_4.out).1; omega) | simpa using h_); obtain rfl := k24_openM hM17; have HP17 := Kd.R_seg HX17.out (0 : Int) (by omega) (by have h_ : (0 : Int) < ((x4_1.length : Int) : Int) := of_decide_eq_true (by first | (with_reducible assumption) | assumption); first | exact h_ | (have e_ := (Kd.R_reads' HO_4.out).1; omega) | simpa using h_) (seg := [.int .i64 ((rd_T24 x4_1 (ji6)).f0), .int .i64 ((rd_T24 x4_1 (ji6)).f1)]) (j := 0) hcl17 hcc17 (show 2 ≤ 2 from by decide) (x' := (⟨(rd_T24 x4_1 (ji6)).f0, (rd_T24 x4_1 (ji6)).f1⟩ : S24)) (k24_mkM _ _ _ (⟨(rd_T24 x4_1 (ji6)).f0, (rd_T24 x4_1 (ji6)).f1⟩ : S24) ) (fun _ hk => hk); have hx17_0 := hcc17 0 _ rfl; (try simp only [show (k24).sz = 2 from rfl, Nat.mul_one, Nat.add_zero] at hx17_0); (try rw [show ((0 : Int)).toNat = 0 from rfl] at hx17_0); (try simp only [Nat.reduceMul, Nat.zero_mul, Nat.zero_add, Nat.reduceAdd] at hx17_0); have hf17_0 := hfr17 0; (try simp only [show (k24).sz = 2 from rfl, Nat.mul_one, Nat.add_zero] at hf17_0); (try rw [show ((0 : Int)).toNat = 0 from rfl] at hf17_0); (try simp only [Nat.reduceMul, Nat.zero_mul, Nat.zero_add, Nat.reduceAdd] at hf17_0); have hx17_1 := hcc17 1 _ rfl; (try simp only [show (k24).sz = 2 from rfl, Nat.mul_one, Nat.add_zero] at hx17_1); (try rw [show ((0 : Int)).toNat = 0 from rfl] at hx17_1); (try simp only [Nat.reduceMul, Nat.zero_mul, Nat.zero_add, Nat.reduceAdd] at hx17_1); have hf17_1 := hfr17 1; (try simp only [show (k24).sz = 2 from rfl, Nat.mul_one, Nat.add_zero] at hf17_1); (try rw [show ((0 : Int)).toNat = 0 from rfl] at hf17_1); (try simp only [Nat.reduceMul, Nat.zero_mul, Nat.zero_add, Nat.reduceAdd] at hf17_1); clear hcl17 hcc17 hfr17 hM17) | ((with_reducible refine gate_store (t := 24) (p := 21) rfl ?_); refine store_event (t := 24) (p := 21) (v := ?vo_w18) (w1 := ((w16.setCell ⟨go9, 0, none⟩ (.int .i64 ((rd_T24 x4_1 (ji6)).f0))).setCell ⟨go9, 1, none⟩ (.int .i64 ((rd_T24 x4_1 (ji6)).f1)))) ?hg ?ho ?hn ?hr ?_; (case ho => rfl); (case hg => rfl); (case hn => rfl); (case hr => first | (go_simp; done) | (go_simp; rfl)); intro w18 hw; have hg : w16.grownBy w18 (some go9) := (by rw [hw]; exact HP17.2); have hp_ : Kd.R k24 24 w18 w.heap.size (fun k_ => some k_ ≠ (u3 : Value).ownBlock ∧ k_ ≠ gb265) (.slice (some ⟨go9, 0, none⟩) x4_1.length co13) y267 := (by rw [hw, Ny267.out]; exact HP17.1); clear HP17; have n0_ := Aside0.mk (Kd.R_after (v := (.slice (some ⟨go9, 0, none⟩) x4_1.length co13)) (v1 := (.slice (some ⟨go9, 0, none⟩) x4_1.length co13)) (ok := (fun k_ => k_ ≠ gb265)) (by (with_reducible repeat (first | apply Kd.R_alloc | apply Kd.R_drewN | apply Kd.R_drew)); exact Kd.R_mono HO_3.out (fun _ hk => ⟨hk.2, hk.1⟩)) hg (.inl rfl)); have n1_ := Aside0.mk (hp_); have n2_ := Aside0.mk (blk_grown (g := gb265) (o := .cells #[.int .i64 ((rd_T24 x4_1 0).f0), .int .i64 ((rd_T24 x4_1 0).f1)] 24 (0, 0)) (by (with_reducible repeat (first | refine blk_drewN ?_ _ | refine blk_drew ?_ | refine blk_alloc ?_ _)); exact BK265.out) hg (Kd.R_away HO_4.out (fun _ hk => hk.2))); have n3_ := Aside0.mk ((by rw [hw]; exact below_set (below_set (HB.out) GB9.out) GB9.out : Below w.heap.size w w18)); clear HO_3; clear HO_4; clear BK265; clear HB; have HO_3 := n0_; have HO_4 := n1_; have BK265 := n2_; have HB := n3_; clear n0_ n1_ n2_ n3_; clear hg hw hp_; have q19 : ((ji6) : Int) ≤ ((x4_1.length : Int) : Int) := of_decide_eq_true (by first | (with_reducible assumption) | assumption); obtain ⟨i019, hi019, _, hsz19, _⟩ := info_parts info24; have hcut19 := cut_to (P := Try.prog) 22 24 .i64 Try.underlying22 hi019 (some ⟨go9, 0, none⟩) x4_1.length co13 (ji6) (of_decide_eq_true (by first | (with_reducible assumption) | assumption)) q19 (Kd.R_reads' HO_4.out).2.1; have hr19 := Kd.R_take (m := ((ji6) : Int).toNat) HO_4.out (by first | omega | (have e_ := (Kd.R_reads' HO_4.out).1; omega)); have hy19 : y268.length = ((ji6) : Int).toNat := (by rw [Ny268.out, List.length_take]; first | omega | (have e_ := (Kd.R_reads' HO_4.out).1; omega)); rw [← Ny268.out] at hr19; rw [← hy19] at hr19 hcut19; clear hy19 hi019 hsz19 HO_4; have HO270 := Aside0.mk hr19; clear hr19; replace q19 := eq_true q19) | ((with_reducible refine gate_callee (f := 26) rfl ?_); refine goesL_ (some 28) rfl rfl Try.func26 (by kernel_rfl) rfl #[.slice (some ⟨go9, 0, none⟩) y268.length co13] rfl (by (try simp only [List.map_toArray, List.map_cons, List.map_nil]); first | done | rfl | (simp only [List.length_drop, List.length_take]; rfl)) ?_; (with_reducible refine (heap_sink.calls k1 (fun k_ => some k_ = (.slice (some ⟨go9, 0, none⟩) y268.length co13 : Value).ownBlock) (.slice (some ⟨go9, 0, none⟩) y268.length co13) y268 t271 w _ ?side1 ?side2 A11.out).mono ?_); (case side1 => repeat (first | (with_reducible first | exact HB.out | apply below_alloc | apply pw_below_drewN | apply below_drew1 | refine below_set ?_ GE265.out) | exact HB.out)); (case side2 => exact Kd.R_tight rfl HO270.out); rintro e w20 ⟨rfl, hy0, hb, hkp⟩; refine ⟨_, rfl, ?_⟩; have n0_ := Aside0.mk (Kd.R_mono (ok' := fun k_ => some k_ ≠ (.slice (some ⟨go9, 0, none⟩) y268.length co13 : Value).ownBlock ∧ k_ ≠ gb265) (Kd.R_keptB (HO_3.out) hkp (fun k_ hk_ hs_ => (hk_.2) hs_)) (fun k_ hk_ => ⟨hk_.1.2, hk_.1.1⟩)); have n1_ := Aside0.mk (Kd.R_reok rfl hy0 (fun k_ e_ => HO270.out.1 k_ e_)); have n2_ := Aside0.mk (blk_kept (by (with_reducible repeat (first | refine blk_drewN ?_ _ | refine blk_drew ?_ | refine blk_alloc ?_ _)); exact BK265.out) hkp (fun hs_ => (fun e_ => (Kd.R_away HO270.out (fun _ hk => hk.2)) e_) hs_)); have n3_ := Aside0.mk (hb); clear HO_3; clear HO270; clear BK265; clear HB; have HO_3 := n0_; have HO270 := n1_; have BK265 := n2_; have HB := n3_; clear n0_ n1_ n2_ n3_; (try clear hb); (try clear hkp); (try clear hy0); have hcz21_0 : w20.cell? ⟨gb265, 0, none⟩ = some (.int .i64 ((rd_T24 x4_1 0).f0)) := (blk_cell BK265.out 0).trans rfl; have hcz21_1 : w20.cell? ⟨gb265, 1, none⟩ = some (.int .i64 ((rd_T24 x4_1 0).f1)) := (blk_cell BK265.out 1).trans rfl; have hfz21_0 := blk_frozen BK265.out 0; have hfz21_1 := blk_frozen BK265.out 1) | ((with_reducible refine gate_builtin (b := .append) (xs := #[.tmp 29, .tmp 31]) rfl ?_); at_builtin; refine Kd.R_append k24 (w0 := w) w.heap.size rfl (.tmp 29) (.tmp 31) 22 24 (.agg #[(.int .i64 0), (.int .i64 0)]) 16 rfl Try.underlying22 info24 rfl (by decide) (by omega) u3 x3_1 (⟨(rd_T24 x4_1 0).f0, (rd_T24 x4_1 0).f1⟩ : S24) [.int .i64 ((rd_T24 x4_1 0).f0), .int .i64 ((rd_T24 x4_1 0).f1)] (fun k_ => some k_ ≠ (.slice (some ⟨go9, 0, none⟩) y268.length co13 : Value).ownBlock ∧ k_ ≠ gb265) (fun _ => False) rfl rfl ?aP (fun _ hk => hk.elim) ?aF ?aO ?aB ?aS ?aL ?_; (case aP => exact k24_mkM _ _ _ (⟨(rd_T24 x4_1 0).f0, (rd_T24 x4_1 0).f1⟩ : S24)); (case aB => exact (by repeat (first | (with_reducible first | exact HB.out | apply below_alloc | apply pw_below_drewN | apply below_drew1 | refine below_set ?_ GE265.out) | exact HB.out))); (case aF => exact (fun k_ hk => ⟨Kd.fresh' (Kd.R_lt (by (with_reducible repeat (first | apply Kd.R_alloc | apply Kd.R_drewN | apply Kd.R_drew)); exact HO270.out)) k_ hk, Kd.freshB (g := gb265) (o := .cells #[.int .i64 ((rd_T24 x4_1 0).f0), .int .i64 ((rd_T24 x4_1 0).f1)] 24 (0, 0)) (by (with_reducible repeat (first | refine blk_drewN ?_ _ | refine blk_drew ?_ | refine blk_alloc ?_ _)); exact BK265.out) k_ hk⟩)); (case aO => exact (by (with_reducible repeat (first | apply Kd.R_alloc | apply Kd.R_drewN | apply Kd.R_drew)); exact HO_3.out)); (case aS => exact (below_size (by repeat (first | (with_reducible first | exact HB.out | apply below_alloc | apply pw_below_drewN | apply below_drew1 | refine below_set ?_ GE265.out) | exact HB.out)))); (case aL => have := LMc12.out; omega); intro v273 w22 ho hb hg hat; rw [← Ny272.out] at ho; have n0_ := Aside0.mk (Kd.R_after (ok := (fun k_ => k_ ≠ gb265)) (by (with_reducible repeat (first | apply Kd.R_alloc | apply Kd.R_drewN | apply Kd.R_drew)); exact Kd.R_mono HO270.out (fun _ hk => ⟨hk.2, hk.1⟩)) hg hat); have n1_ := Aside0.mk (blk_grown (g := gb265) (o := .cells #[.int .i64 ((rd_T24 x4_1 0).f0), .int .i64 ((rd_T24 x4_1 0).f1)] 24 (0, 0)) (by (with_reducible repeat (first | refine blk_drewN ?_ _ | refine blk_drew ?_ | refine blk_alloc ?_ _)); exact BK265.out) hg (Kd.R_away HO_3.out (fun _ hk => hk.2))); have n2_ := Aside0.mk (hb); have n3_ := Aside0.mk (ho); clear HO270; clear BK265; clear HB; clear HO_3; have HO270 := n0_; have BK265 := n1_; have HB := n2_; have HO274 := n3_; clear n0_ n1_ n2_ n3_; clear ho hb hg hat))
                  go_roundg k1
                  case measure => have := HK1.out; omega
                  case rel => exact ⟨(y272), (t271), H', ⟨by have := HK1.out; omega⟩, ⟨by (with_reducible repeat (first | apply Kd.R_alloc | apply Kd.R_drewN | apply Kd.R_drew)); exact Kd.R_mono HO274.out (fun _ hk => hk.1)⟩, ⟨by (with_reducible repeat (first | apply Kd.R_alloc | apply Kd.R_drewN | apply Kd.R_drew)); exact Kd.R_mono HO270.out (fun _ hk => hk.2)⟩, ⟨by repeat (first | (with_reducible first | exact HB.out | apply below_alloc | apply pw_below_drewN | apply below_drew1 | refine below_set ?_ GE265.out) | exact HB.out)⟩⟩
                · rw [if_neg c12] at H
                  exact absurd H (by simp)
              · rw [if_neg c10] at H
                exact absurd H (by simp)
            · rw [if_neg c8] at H
              exact absurd H (by simp)
          · rw [if_neg c7] at H
            exact absurd H (by simp)
        · rw [if_neg c5] at H
          exact absurd H (by simp)
      · rw [if_neg c4] at H
        have c4b0 : decide (0 < (x4_1.length : Int)) = false := decide_eq_false c4
        have c4b1 : decide (0 < x4_1.length) = false := decide_eq_false (by omega)
        clear c4
        obtain rfl := Option.some.inj H
        obtain ⟨Ao23, co23, eo23⟩ := Kd.R_slice HO_4.out
        subst eo23
        go_wp2
        go_ret
        exact ⟨_, by first | rfl | (simp [errW_none, errW_some] <;> rfl) | (simp [*, errW_none, errW_some] <;> rfl), by (with_reducible repeat (first | apply Kd.R_alloc | apply Kd.R_drewN | apply Kd.R_drew)); exact Kd.R_mono HO_3.out (fun _ hk => trivial), by repeat (first | (with_reducible first | exact HB.out | apply below_alloc | apply pw_below_drewN | apply below_drew1) | exact HB.out)⟩

end Go.Proofs.Ytlihbdinghoeeab.P

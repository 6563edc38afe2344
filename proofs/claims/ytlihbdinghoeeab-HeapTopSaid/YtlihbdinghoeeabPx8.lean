/- For each Go function a Lean function, and the proof that a call comes to what it tells: made by program out of the translation (the kit's print, with texts by hand put in). No condition. -/
import Derived.Test.YtlihbdinghoeeabPx0
import Derived.Test.YtlihbdinghoeeabPx2
import Derived.Test.YtlihbdinghoeeabPx7
namespace Go.Proofs.Ytlihbdinghoeeab.P
open Go.RowKit Go.Proofs.Ytlihbdinghoeeab.HRows Go.Proofs.YtlihbdinghoeeabW.PrintWords Go.Proofs.YtlihbdinghoeeabW.PrintLast Go.Proofs.YtlihbdinghoeeabW.PrintMore
attribute [local go_sem] max2_int min2_int max_two min_two max_three min_three max_four min_four   -- for this text's walks alone
set_option linter.unusedVariables false
set_option linter.unusedSimpArgs false

/-! ### heap_Pop: function 12 -/
def heap_Pop.f (k : Nat) (l0 : List (S24)) : Option ((List (S24)) × Int × Int × Bool) := if (l0.length : Int) = 0 then (some (([] : List (S24)), 0, 0, false)) else ((heap_copied.f l0 0).bind fun t145 => (if 0 ≤ (wrap64 ((t145.length : Int) - 1)) then (if (wrap64 ((t145.length : Int) - 1)) < (t145.length : Int) then (if 0 < (t145.length : Int) then (if (wrap64 ((t145.length : Int) - 1)) ≤ (t145.length : Int) then ((heap_sink.f k ((t145.set (0 : Int).toNat (⟨(rd_T24 t145 (wrap64 ((t145.length : Int) - 1))).f0, (rd_T24 t145 (wrap64 ((t145.length : Int) - 1))).f1⟩ : S24)).take ((wrap64 ((t145.length : Int) - 1)) : Int).toNat)).bind fun t153 => (if 0 < (l0.length : Int) then (some (t153, (rd_T24 l0 0).f0, (rd_T24 l0 0).f1, true)) else (none))) else (none)) else (none)) else (none)) else (none)))
theorem heap_Pop.mono : ∀ a0 k, LeO (heap_Pop.f k a0) (heap_Pop.f (k + 1) a0) := by
  intro a0 k
  unfold heap_Pop.f
  repeat' first
      | (with_reducible exact heap_sink.mono _ _)
      | (with_reducible exact LeO.refl _)
      | (with_reducible exact LeO.none _)
      | (with_reducible refine LeO.ite ?_ ?_)
      | (with_reducible refine LeO.bind ?_ (fun _ => ?_))
      | exact heap_sink.mono _ _
      | exact LeO.none _
      | refine LeO.ite ?_ ?_
      | refine LeO.bind ?_ (fun _ => ?_)
set_option maxHeartbeats 8000000 in
set_option maxRecDepth 100000 in
theorem heap_Pop.calls (k : Nat) (A0 : Option Addr) (c0 : Nat) (l0 : List (S24)) (r1 : List (S24)) (r2 : Int) (r3 : Int) (r4 : Bool) (w : World) (hr0 : Kd.C k24 w A0 l0.length l0) (hc0 : l0.length ≤ c0) (h : heap_Pop.f k l0 = some (r1, r2, r3, r4)) :
    Calls Try.prog 12 #[.slice A0 l0.length c0] w fun e w' => ∃ v0_ : Value, e = .returned (.tuple #[v0_, .agg #[.int .i64 r2, .int .i64 r3], .bool r4]) ∧ Kd.R k24 24 w' w.heap.size (fun _ => True) v0_ r1 ∧ Below w.heap.size w w' := by
  have hu24 := Try.underlying24
  have HR0 := Aside0.mk hr0
  have HC0 := Aside0.mk hc0
  clear hr0 hc0
  have HB := Aside0.mk (Below.refl w.heap.size w)
  have H : (if (l0.length : Int) = 0 then (some (([] : List (S24)), 0, 0, false)) else ((heap_copied.f l0 0).bind fun t145 => (if 0 ≤ (wrap64 ((t145.length : Int) - 1)) then (if (wrap64 ((t145.length : Int) - 1)) < (t145.length : Int) then (if 0 < (t145.length : Int) then (if (wrap64 ((t145.length : Int) - 1)) ≤ (t145.length : Int) then ((heap_sink.f k ((t145.set (0 : Int).toNat (⟨(rd_T24 t145 (wrap64 ((t145.length : Int) - 1))).f0, (rd_T24 t145 (wrap64 ((t145.length : Int) - 1))).f1⟩ : S24)).take ((wrap64 ((t145.length : Int) - 1)) : Int).toNat)).bind fun t153 => (if 0 < (l0.length : Int) then (some (t153, (rd_T24 l0 0).f0, (rd_T24 l0 0).f1, true)) else (none))) else (none)) else (none)) else (none)) else (none)))) = some (r1, r2, r3, r4) := h
  clear h
  by_cases c2 : (l0.length : Int) = 0
  · rw [if_pos c2] at H
    have c2b0 : ((l0.length : Int) == 0) = true := beq_iff_eq.mpr c2
    have c2b1 : ((l0.length : Int) != 0) = false := bne_eq_false_iff_eq.mpr c2
    clear c2
    simp only [Option.some.injEq, Prod.mk.injEq] at H
    obtain ⟨rfl, rfl, rfl, rfl⟩ := H
    go_enter Try.func12, Try.ntmps12
    go_wp2_with (first | ((with_reducible refine gate_dst (N := 3) rfl ?_); refine box_event ?hg (N := 3) ?hd (cs := #[.int .i64 0, .int .i64 0]) (t := 24) ?hr ?_; (case hd => rfl); (case hg => rfl); (case hr => first | (go_simp; done) | (go_simp; rfl)); intro gb144 hg w3 hbox hb; have n0_ := Aside0.mk (below_step (by repeat (first | (with_reducible first | exact HB.out | apply below_alloc | apply pw_below_drewN | apply below_drew1) | exact HB.out)) hb); have n1_ := Aside0.mk (hbox); have n2_ := Aside0.mk ((by rw [hg]; exact (below_size (by repeat (first | (with_reducible first | exact HB.out | apply below_alloc | apply pw_below_drewN | apply below_drew1) | exact HB.out))) : w.heap.size ≤ gb144)); have n3_ := Aside0.mk ((by rw [hg]; exact (below_size (by repeat (first | (with_reducible first | exact HB.out | apply below_alloc | apply pw_below_drewN | apply below_drew1) | exact HB.out))) : w.heap.size ≤ gb144)); clear HB; have HB := n0_; have BK144 := n1_; have GW144 := n2_; have GE144 := n3_; clear n0_ n1_ n2_ n3_; clear hb hbox hg; have hcz4_0 : w3.cell? ⟨gb144, 0, none⟩ = some (.int .i64 0) := (blk_cell BK144.out 0).trans rfl; have hcz4_1 : w3.cell? ⟨gb144, 1, none⟩ = some (.int .i64 0) := (blk_cell BK144.out 1).trans rfl; have hfz4_0 := blk_frozen BK144.out 0; have hfz4_1 := blk_frozen BK144.out 1))
    refine bodyPost_ret (results_list (rs := [.tmp 2, .cell 3 24, .tmp 4]) rfl (by simp) (.tmp (.cell gb144 24 #[.int .i64 0, .int .i64 0] (0, 0) _ rfl (by (with_reducible repeat (first | refine blk_drewN ?_ _ | refine blk_drew ?_ | refine blk_alloc ?_ _)); refine blk_put (cs := #[.int .i64 0, .int .i64 0]) ?_ 1 _ rfl; (with_reducible repeat (first | refine blk_drewN ?_ _ | refine blk_drew ?_ | refine blk_alloc ?_ _)); refine blk_put (cs := #[.int .i64 0, .int .i64 0]) ?_ 0 _ rfl; (with_reducible repeat (first | refine blk_drewN ?_ _ | refine blk_drew ?_ | refine blk_alloc ?_ _)); exact BK144.out) Try.underlying24 rfl (by kernel_rfl) (.tmp .nil)))) rfl ?_
    exact ⟨_, by first | rfl | (simp [errW_none, errW_some] <;> rfl) | (simp [*, errW_none, errW_some] <;> rfl), by first | exact Kd.R_nil _ _ _ _ _ | exact Kd.N_nil _ _ _ _ _ | exact Kd.V_nil _ _ _ _ _ | exact Kd.Q_nil _ _ _ _ _ | exact Kd.S_nil _ _ _ _ _, by repeat (first | (with_reducible first | exact HB.out | apply below_alloc | apply pw_below_drewN | apply below_drew1 | refine below_set ?_ GE144.out) | exact HB.out)⟩
  · rw [if_neg c2] at H
    have c2b0 : ((l0.length : Int) == 0) = false := beq_eq_false_iff_ne.mpr c2
    have c2b1 : ((l0.length : Int) != 0) = true := bne_iff_ne.mpr c2
    have c2b2 : ¬ (l0 = []) := fun h_ => c2 (by rw [h_]; rfl)
    replace H := Option.bind_eq_some_iff.mp H
    obtain ⟨t145, A50, H⟩ := H
    replace H : (if 0 ≤ (wrap64 ((t145.length : Int) - 1)) then (if (wrap64 ((t145.length : Int) - 1)) < (t145.length : Int) then (if 0 < (t145.length : Int) then (if (wrap64 ((t145.length : Int) - 1)) ≤ (t145.length : Int) then ((heap_sink.f k ((t145.set (0 : Int).toNat (⟨(rd_T24 t145 (wrap64 ((t145.length : Int) - 1))).f0, (rd_T24 t145 (wrap64 ((t145.length : Int) - 1))).f1⟩ : S24)).take ((wrap64 ((t145.length : Int) - 1)) : Int).toNat)).bind fun t153 => (if 0 < (l0.length : Int) then (some (t153, (rd_T24 l0 0).f0, (rd_T24 l0 0).f1, true)) else (none))) else (none)) else (none)) else (none)) else (none)) = some (r1, r2, r3, r4) := H
    have A5 := Aside0.mk A50
    clear A50
    obtain ⟨ji6, hji6⟩ : ∃ j_ : Int, (wrap64 ((t145.length : Int) - 1)) = j_ := ⟨_, rfl⟩
    replace H : (if 0 ≤ (ji6) then (if (ji6) < (t145.length : Int) then (if 0 < (t145.length : Int) then (if (ji6) ≤ (t145.length : Int) then ((heap_sink.f k ((t145.set (0 : Int).toNat (⟨(rd_T24 t145 (ji6)).f0, (rd_T24 t145 (ji6)).f1⟩ : S24)).take ((ji6) : Int).toNat)).bind fun t153 => (if 0 < (l0.length : Int) then (some (t153, (rd_T24 l0 0).f0, (rd_T24 l0 0).f1, true)) else (none))) else (none)) else (none)) else (none)) else (none)) = some (r1, r2, r3, r4) := by first | (rw [hji6] at H; exact H) | (simp only [hji6] at H ⊢; exact H)
    (try rw [hji6] at A5)
    have hji6w : (IntKind.i64.wrap ((t145.length : Int) - 1)) = ji6 := (i64_w _).trans hji6
    by_cases c7 : 0 ≤ (ji6)
    · rw [if_pos c7] at H
      have c7b0 : decide (0 ≤ (ji6)) = true := decide_eq_true c7
      clear c7
      by_cases c8 : (ji6) < (t145.length : Int)
      · rw [if_pos c8] at H
        have c8b0 : decide ((ji6) < (t145.length : Int)) = true := decide_eq_true c8
        clear c8
        by_cases c9 : 0 < (t145.length : Int)
        · rw [if_pos c9] at H
          have c9b0 : decide (0 < (t145.length : Int)) = true := decide_eq_true c9
          have c9b1 : decide (0 < t145.length) = true := decide_eq_true (by omega)
          clear c9
          obtain ⟨y149, hy149⟩ : ∃ y_ : List (S24), y_ = (t145.set (0 : Int).toNat (⟨(rd_T24 t145 (ji6)).f0, (rd_T24 t145 (ji6)).f1⟩ : S24)) := ⟨_, rfl⟩
          replace H : (if (ji6) ≤ (t145.length : Int) then ((heap_sink.f k (y149.take ((ji6) : Int).toNat)).bind fun t153 => (if 0 < (l0.length : Int) then (some (t153, (rd_T24 l0 0).f0, (rd_T24 l0 0).f1, true)) else (none))) else (none)) = some (r1, r2, r3, r4) := by first | (rw [hy149]; with_reducible exact H) | (have H2_ := (Option.bind_some _ _).symm.trans H; rw [hy149]; with_reducible exact H2_) | (have H2_ := (Option.bind_some _ _).symm.trans H; with_reducible exact H2_) | with_reducible exact H | (rw [hy149]; exact H) | exact H
          have Ny149 := Aside0.mk hy149
          clear hy149
          by_cases c11 : (ji6) ≤ (t145.length : Int)
          · rw [if_pos c11] at H
            have c11b0 := eq_true c11
            have c11b1 : decide ((ji6) ≤ (t145.length : Int)) = true := decide_eq_true c11
            clear c11
            obtain ⟨y150, hy150⟩ : ∃ y_ : List (S24), y_ = (y149.take ((ji6) : Int).toNat) := ⟨_, rfl⟩
            replace H : ((heap_sink.f k y150).bind fun t153 => (if 0 < (l0.length : Int) then (some (t153, (rd_T24 l0 0).f0, (rd_T24 l0 0).f1, true)) else (none))) = some (r1, r2, r3, r4) := by first | (rw [hy150]; with_reducible exact H) | (have H2_ := (Option.bind_some _ _).symm.trans H; rw [hy150]; with_reducible exact H2_) | (have H2_ := (Option.bind_some _ _).symm.trans H; with_reducible exact H2_) | with_reducible exact H | (rw [hy150]; exact H) | exact H
            have Ny150 := Aside0.mk hy150
            clear hy150
            replace H := Option.bind_eq_some_iff.mp H
            obtain ⟨t153, A120, H⟩ := H
            replace H : (if 0 < (l0.length : Int) then (some (t153, (rd_T24 l0 0).f0, (rd_T24 l0 0).f1, true)) else (none)) = some (r1, r2, r3, r4) := H
            have A12 := Aside0.mk A120
            clear A120
            by_cases c13 : 0 < (l0.length : Int)
            · rw [if_pos c13] at H
              have c13b0 : decide (0 < (l0.length : Int)) = true := decide_eq_true c13
              have c13b1 : decide (0 < l0.length) = true := decide_eq_true (by omega)
              clear c13
              simp only [Option.some.injEq, Prod.mk.injEq] at H
              obtain ⟨rfl, rfl, rfl, rfl⟩ := H
              go_enter Try.func12, Try.ntmps12
              try go_wp2_with (first | ((with_reducible refine gate_dst (N := 3) rfl ?_); refine box_event ?hg (N := 3) ?hd (cs := #[.int .i64 0, .int .i64 0]) (t := 24) ?hr ?_; (case hd => rfl); (case hg => rfl); (case hr => first | (go_simp; done) | (go_simp; rfl)); intro gb144 hg w14 hbox hb; have n0_ := Aside0.mk (below_step (by repeat (first | (with_reducible first | exact HB.out | apply below_alloc | apply pw_below_drewN | apply below_drew1) | exact HB.out)) hb); have n1_ := Aside0.mk (hbox); have n2_ := Aside0.mk ((by rw [hg]; exact (below_size (by repeat (first | (with_reducible first | exact HB.out | apply below_alloc | apply pw_below_drewN | apply below_drew1) | exact HB.out))) : w.heap.size ≤ gb144)); have n3_ := Aside0.mk ((by rw [hg]; exact (below_size (by repeat (first | (with_reducible first | exact HB.out | apply below_alloc | apply pw_below_drewN | apply below_drew1) | exact HB.out))) : w.heap.size ≤ gb144)); clear HB; have HB := n0_; have BK144 := n1_; have GW144 := n2_; have GE144 := n3_; clear n0_ n1_ n2_ n3_; clear hb hbox hg) | ((with_reducible refine gate_callee (f := 24) rfl ?_); refine goesL_ (some 11) rfl rfl Try.func24 (by kernel_rfl) rfl #[.slice A0 l0.length c0, .int .i64 0] rfl (by (try simp only [List.map_toArray, List.map_cons, List.map_nil]); first | done | rfl | (simp only [List.length_drop, List.length_take]; rfl)) ?_; (with_reducible refine (heap_copied.calls _ _ l0 0 t145 _ ?side1 ?side2 A5.out).mono ?_); (case side1 => repeat (first | exact (Kd.C_below HR0.out HB.out) | (with_reducible refine Kd.C_alloc ?_ _) | (with_reducible refine Kd.C_drewN ?_ _) | (with_reducible refine Kd.C_drew ?_))); (case side2 => exact HC0.out); rintro e w15 ⟨v146, rfl, ho0, hb⟩; refine ⟨_, rfl, ?_⟩; have n0_ := Aside0.mk (Kd.R_lower (Kd.R_newB ho0 (g := gb144) (o := .cells #[.int .i64 0, .int .i64 0] 24 (0, 0)) (by (with_reducible repeat (first | refine blk_drewN ?_ _ | refine blk_drew ?_ | refine blk_alloc ?_ _)); exact BK144.out)) (below_size (by repeat (first | (with_reducible first | exact HB.out | apply below_alloc | apply pw_below_drewN | apply below_drew1 | refine below_set ?_ GE144.out) | exact HB.out)))); have n1_ := Aside0.mk (blk_below (g := gb144) (o := .cells #[.int .i64 0, .int .i64 0] 24 (0, 0)) (by (with_reducible repeat (first | refine blk_drewN ?_ _ | refine blk_drew ?_ | refine blk_alloc ?_ _)); exact BK144.out) hb); have n2_ := Aside0.mk (below_step (by repeat (first | (with_reducible first | exact HB.out | apply below_alloc | apply pw_below_drewN | apply below_drew1 | refine below_set ?_ GE144.out) | exact HB.out)) hb); clear BK144; clear HB; have HO147 := n0_; have BK144 := n1_; have HB := n2_; clear n0_ n1_ n2_; (try clear hb); (try clear hb2); (try clear hk); (try clear hi); (try clear ho0); obtain ⟨Ao16, co16, eo16⟩ := Kd.R_slice HO147.out; subst eo16; have p148 : 0 ≤ ((ji6) : Int) := of_decide_eq_true (by first | (with_reducible assumption) | assumption); have q148 : (ji6) < (t145.length : Int) := of_decide_eq_true (by first | (with_reducible assumption) | assumption); obtain ⟨ad148, e148, hx148_0, hx148_1⟩ := at_T24 (Kd.R_reads' HO147.out).2.2 (ji6) p148 q148; cases e148; replace p148 := eq_true p148; replace q148 := eq_true q148; have p10 : 0 ≤ (0 : Int) := (by omega); have q10 : (0 : Int) < ((t145.length : Int) : Int) := of_decide_eq_true (by first | (with_reducible assumption) | assumption); have qi10 : (0 < t145.length) = True := eq_true (by omega); obtain ⟨go10, co10, eo10, gb10, gl10, cl10, HG10⟩ := Kd.R_form HO147.out (by omega); (first | cases eo10 | (injection eo10 with ea_ en_ ec_; (first | subst ea_ | (injection ea_ with ea_; subst ea_)); subst ec_; clear en_)); have GB10 := Aside0.mk gb10; have GG10 := Aside0.mk HG10; clear gb10 gl10 HG10; (first | simp only [add_plain] at hx148_0 | skip); (first | simp only [add_plain] at hx148_1 | skip); obtain ⟨ce10, hcl10, hM10, hcc10, hfr10⟩ := Kd.R_elem HO147.out z24 (0 : Int) p10 q10; obtain rfl := k24_openM hM10; have hx10_0 : w15.cell? ⟨go10, (0 : Int).toNat * 2, none⟩ = some (.int .i64 ((rd_T24 t145 0).f0)) := hcc10 0 _ rfl; have hx10_1 : w15.cell? ⟨go10, (0 : Int).toNat * 2 + 1, none⟩ = some (.int .i64 ((rd_T24 t145 0).f1)) := hcc10 1 _ rfl; have hf10_0 : w15.frozen? ⟨go10, (0 : Int).toNat * 2, none⟩ = false := hfr10 0; have hf10_1 : w15.frozen? ⟨go10, (0 : Int).toNat * 2 + 1, none⟩ = false := hfr10 1; clear hcl10 hcc10 hfr10 hM10; (try rw [show ((0 : Int)).toNat = 0 from rfl] at hx10_0); (try simp only [Nat.reduceMul, Nat.zero_mul, Nat.zero_add, Nat.reduceAdd] at hx10_0); (try rw [show ((0 : Int)).toNat = 0 from rfl] at hf10_0); (try simp only [Nat.reduceMul, Nat.zero_mul, Nat.zero_add, Nat.reduceAdd] at hf10_0); (try rw [show ((0 : Int)).toNat = 0 from rfl] at hx10_1); (try simp only [Nat.reduceMul, Nat.zero_mul, Nat.zero_add, Nat.reduceAdd] at hx10_1); (try rw [show ((0 : Int)).toNat = 0 from rfl] at hf10_1); (try simp only [Nat.reduceMul, Nat.zero_mul, Nat.zero_add, Nat.reduceAdd] at hf10_1); replace p10 := eq_true p10; replace q10 := eq_true q10; have n_ := Aside0.mk (Kd.R_mono (ok' := (fun k_ => k_ ≠ gb144)) HO147.out (fun k_ hk => hk.2)); clear HO147; have HO147 := n_; clear n_; have HX17 := Aside0.mk (show Kd.R k24 24 w15 w.heap.size (fun k_ => k_ ≠ gb144) (.slice (some ⟨go10, 0, none⟩) t145.length co16) t145 from (by (with_reducible repeat (first | apply Kd.R_alloc | apply Kd.R_drewN | apply Kd.R_drew)); exact HO147.out)); obtain ⟨ce17, hcl17, hM17, hcc17, hfr17⟩ := Kd.R_elem HX17.out z24 (0 : Int) (by omega) (by have h_ : (0 : Int) < ((t145.length : Int) : Int) := of_decide_eq_true (by first | (with_reducible assumption) | assumption); first | exact h_ | (have e_ := (Kd.R_reads' HO147.out).1; omega) | simpa using h_); obtain rfl := k24_openM hM17; have HP17 := Kd.R_seg HX17.out (0 : Int) (by omega) (by have h_ : (0 : Int) < ((t145.length : Int) : Int) := of_decide_eq_true (by first | (with_reducible assumption) | assumption); first | exact h_ | (have e_ := (Kd.R_reads' HO147.out).1; omega) | simpa using h_) (seg := [.int .i64 ((rd_T24 t145 (ji6)).f0), .int .i64 ((rd_T24 t145 (ji6)).f1)]) (j := 0) hcl17 hcc17 (show 2 ≤ 2 from by decide) (x' := (⟨(rd_T24 t145 (ji6)).f0, (rd_T24 t145 (ji6)).f1⟩ : S24)) (k24_mkM _ _ _ (⟨(rd_T24 t145 (ji6)).f0, (rd_T24 t145 (ji6)).f1⟩ : S24) ) (fun _ hk => hk); have hx17_0 := hcc17 0 _ rfl; (try simp only [show (k24).sz = 2 from rfl, Nat.mul_one, Nat.add_zero] at hx17_0); (try rw [show ((0 : Int)).toNat = 0 from rfl] at hx17_0); (try simp only [Nat.reduceMul, Nat.zero_mul, Nat.zero_add, Nat.reduceAdd] at hx17_0); have hf17_0 := hfr17 0; (try simp only [show (k24).sz = 2 from rfl, Nat.mul_one, Nat.add_zero] at hf17_0); (try rw [show ((0 : Int)).toNat = 0 from rfl] at hf17_0); (try simp only [Nat.reduceMul, Nat.zero_mul, Nat.zero_add, Nat.reduceAdd] at hf17_0); have hx17_1 := hcc17 1 _ rfl; (try simp only [show (k24).sz = 2 from rfl, Nat.mul_one, Nat.add_zero] at hx17_1); (try rw [show ((0 : Int)).toNat = 0 from rfl] at hx17_1); (try simp only [Nat.reduceMul, Nat.zero_mul, Nat.zero_add, Nat.reduceAdd] at hx17_1); have hf17_1 := hfr17 1; (try simp only [show (k24).sz = 2 from rfl, Nat.mul_one, Nat.add_zero] at hf17_1); (try rw [show ((0 : Int)).toNat = 0 from rfl] at hf17_1); (try simp only [Nat.reduceMul, Nat.zero_mul, Nat.zero_add, Nat.reduceAdd] at hf17_1); clear hcl17 hcc17 hfr17 hM17) | ((with_reducible refine gate_store (t := 24) (p := 19) rfl ?_); refine store_event (t := 24) (p := 19) (v := ?vo_w18) (w1 := ((w15.setCell ⟨go10, 0, none⟩ (.int .i64 ((rd_T24 t145 (ji6)).f0))).setCell ⟨go10, 1, none⟩ (.int .i64 ((rd_T24 t145 (ji6)).f1)))) ?hg ?ho ?hn ?hr ?_; (case ho => rfl); (case hg => rfl); (case hn => rfl); (case hr => first | (go_simp; done) | (go_simp; rfl)); intro w18 hw; have hg : w15.grownBy w18 (some go10) := (by rw [hw]; exact HP17.2); have hp_ : Kd.R k24 24 w18 w.heap.size (fun k_ => k_ ≠ gb144) (.slice (some ⟨go10, 0, none⟩) t145.length co16) y149 := (by rw [hw, Ny149.out]; exact HP17.1); clear HP17; have n0_ := Aside0.mk (blk_grown (g := gb144) (o := .cells #[.int .i64 0, .int .i64 0] 24 (0, 0)) (by (with_reducible repeat (first | refine blk_drewN ?_ _ | refine blk_drew ?_ | refine blk_alloc ?_ _)); exact BK144.out) hg (Kd.R_away HO147.out (fun _ hk => hk))); have n1_ := Aside0.mk (hp_); have n2_ := Aside0.mk ((by rw [hw]; exact below_set (below_set (HB.out) GB10.out) GB10.out : Below w.heap.size w w18)); clear BK144; clear HO147; clear HB; have BK144 := n0_; have HO147 := n1_; have HB := n2_; clear n0_ n1_ n2_; clear hg hw hp_; have q19 : ((ji6) : Int) ≤ ((t145.length : Int) : Int) := of_decide_eq_true (by first | (with_reducible assumption) | assumption); obtain ⟨i019, hi019, _, hsz19, _⟩ := info_parts info24; have hcut19 := cut_to (P := Try.prog) 22 24 .i64 Try.underlying22 hi019 (some ⟨go10, 0, none⟩) t145.length co16 (ji6) (of_decide_eq_true (by first | (with_reducible assumption) | assumption)) q19 (Kd.R_reads' HO147.out).2.1; have hr19 := Kd.R_take (m := ((ji6) : Int).toNat) HO147.out (by first | omega | (have e_ := (Kd.R_reads' HO147.out).1; omega)); have hy19 : y150.length = ((ji6) : Int).toNat := (by rw [Ny150.out, List.length_take]; first | omega | (have e_ := (Kd.R_reads' HO147.out).1; omega)); rw [← Ny150.out] at hr19; rw [← hy19] at hr19 hcut19; clear hy19 hi019 hsz19 HO147; have HO152 := Aside0.mk hr19; clear hr19; replace q19 := eq_true q19) | ((with_reducible refine gate_callee (f := 26) rfl ?_); refine goesL_ (some 26) rfl rfl Try.func26 (by kernel_rfl) rfl #[.slice (some ⟨go10, 0, none⟩) y150.length co16] rfl (by (try simp only [List.map_toArray, List.map_cons, List.map_nil]); first | done | rfl | (simp only [List.length_drop, List.length_take]; rfl)) ?_; (with_reducible refine (heap_sink.calls k (fun k_ => some k_ = (.slice (some ⟨go10, 0, none⟩) y150.length co16 : Value).ownBlock) (.slice (some ⟨go10, 0, none⟩) y150.length co16) y150 t153 w _ ?side1 ?side2 A12.out).mono ?_); (case side1 => repeat (first | (with_reducible first | exact HB.out | apply below_alloc | apply pw_below_drewN | apply below_drew1 | refine below_set ?_ GE144.out) | exact HB.out)); (case side2 => exact Kd.R_tight rfl HO152.out); rintro e w20 ⟨rfl, hy0, hb, hkp⟩; refine ⟨_, rfl, ?_⟩; have n0_ := Aside0.mk (blk_kept (by (with_reducible repeat (first | refine blk_drewN ?_ _ | refine blk_drew ?_ | refine blk_alloc ?_ _)); exact BK144.out) hkp (fun hs_ => (fun e_ => (Kd.R_away HO152.out (fun _ hk => hk)) e_) hs_)); have n1_ := Aside0.mk (Kd.R_reok rfl hy0 (fun k_ e_ => HO152.out.1 k_ e_)); have n2_ := Aside0.mk (hb); clear BK144; clear HO152; clear HB; have BK144 := n0_; have HO152 := n1_; have HB := n2_; clear n0_ n1_ n2_; (try clear hb); (try clear hkp); (try clear hy0)))
              have n0_ := Aside0.mk (Kd.R_drew HO152.out)
              have n1_ := Aside0.mk (blk_drew BK144.out)
              have n2_ := Aside0.mk (below_drew1 HB.out)
              clear HO152
              clear BK144
              clear HB
              have HO152 := n0_
              have BK144 := n1_
              have HB := n2_
              clear n0_ n1_ n2_
              have p154 : 0 ≤ (0 : Int) := (by omega)
              have q154 : 0 < (l0.length : Int) := of_decide_eq_true (by first | (with_reducible assumption) | assumption)
              obtain ⟨ad154, e154, hx154_0, hx154_1⟩ := at_T24 HR0.out 0 p154 q154
              have hw154_1 := hx154_1
              (try rw [show ((0 : Int)).toNat = 0 from rfl] at hw154_1)
              (try rw [show 0 * 2 = 0 from rfl] at hw154_1)
              (try rw [Addr.add_zero'] at hw154_1)
              have hw154_0 := hx154_0
              (try rw [show ((0 : Int)).toNat = 0 from rfl] at hw154_0)
              (try rw [show 0 * 2 = 0 from rfl] at hw154_0)
              (try rw [Addr.add_zero'] at hw154_0)
              cases e154
              have qi154 : (0 < l0.length) = True := eq_true (by omega)
              (try rw [show ((0 : Int)).toNat = 0 from rfl] at hx154_0)
              (try rw [show 0 * 2 = 0 from rfl] at hx154_0)
              (try rw [Addr.add_zero'] at hx154_0)
              (try rw [show ((0 : Int)).toNat = 0 from rfl] at hx154_1)
              (try rw [show 0 * 2 = 0 from rfl] at hx154_1)
              (try rw [Addr.add_zero'] at hx154_1)
              replace hx154_0 := (HB.out.cell (World.block_lt_of_cell? w _ hx154_0)).trans hx154_0
              replace hx154_1 := (HB.out.cell (World.block_lt_of_cell? w _ hx154_1)).trans hx154_1
              replace p154 := eq_true p154
              replace q154 := eq_true q154
              refine start_ (n := 7) (S := fun w' => w'.cell? ad154 = some (.int .i64 ((rd_T24 l0 0).f0)) ∧ w'.cell? ⟨ad154.block, ad154.off + 1, none⟩ = some (.int .i64 ((rd_T24 l0 0).f1))) (ds := []) #[false, false, false, false, false, false, false] (by kernel_rfl) rfl rfl ⟨((HB.out.cell (World.block_lt_of_cell? w _ hw154_0)).trans hw154_0), ((HB.out.cell (World.block_lt_of_cell? w _ hw154_1)).trans hw154_1)⟩ (fun hHeld => ?_)
              generalize w20.drew = w21 at HO152 BK144 HB hx154_0 hx154_1 hHeld ⊢
              refine pure_ (i := 0) (N := some 27) (v := ?_) (a' := ?_) #[true, false, false, false, false, false, false] rfl rfl (by kernel_rfl) (fun _ _ _ h => h) (Or.inl ⟨by rfl, ?_⟩) ?_ ?_
              rotate_left
              · intro w'
                go_simp
                with_reducible rfl
              rotate_left
              · simp only [Act.put, List.setIfInBounds_toArray, List.set_cons_zero, List.set_cons_succ, i64_w, i32_w]
                rfl
              refine pure_ (i := 1) (N := some 28) (v := ?_) (a' := ?_) #[true, true, false, false, false, false, false] rfl rfl (by kernel_rfl) (fun _ _ _ h => h) (Or.inl ⟨by rfl, ?_⟩) ?_ ?_
              rotate_left
              · intro w'
                go_simp
                with_reducible rfl
              rotate_left
              · simp only [Act.put, List.setIfInBounds_toArray, List.set_cons_zero, List.set_cons_succ, i64_w, i32_w]
                rfl
              refine pure_ (i := 2) (N := some 29) (v := ?_) (a' := ?_) #[true, true, true, false, false, false, false] rfl rfl (by kernel_rfl) (fun _ _ _ h => h) (Or.inl ⟨by rfl, ?_⟩) ?_ ?_
              rotate_left
              · intro w'
                go_simp
                with_reducible rfl
              rotate_left
              · simp only [Act.put, List.setIfInBounds_toArray, List.set_cons_zero, List.set_cons_succ, i64_w, i32_w]
                rfl
              refine pure_ (i := 4) (N := some 2) (v := ?_) (a' := ?_) #[true, true, true, false, true, false, false] rfl rfl (by kernel_rfl) (fun _ _ _ h => h) (Or.inl ⟨by rfl, ?_⟩) ?_ ?_
              rotate_left
              · intro w'
                go_simp
                with_reducible rfl
              rotate_left
              · simp only [Act.put, List.setIfInBounds_toArray, List.set_cons_zero, List.set_cons_succ, i64_w, i32_w]
                rfl
              refine take_ (i := 3) (N := some 30) (v := ?_) (a' := ?_) #[true, true, true, true, true, false, false] rfl rfl (by kernel_rfl) (fun _ _ _ h => h) (Or.inl ⟨by rfl, ?_⟩) hHeld ?_ ?_
              rotate_left
              · rintro w' ⟨s0, s1⟩
                (try simp only [add_plain] at s0 s1)
                go_simp
                with_reducible rfl
              rotate_left
              · simp only [Act.put, List.setIfInBounds_toArray, List.set_cons_zero, List.set_cons_succ, i64_w, i32_w]
                rfl
              refine one_ (i := 5) (N := none) #[true, true, true, true, true, true, false] rfl rfl (by kernel_rfl) (by decide) (fun K hK => ?_)
              have hs22 : w21.cell? ⟨gb144, 0, none⟩ = some (.int .i64 0) := (blk_cell BK144.out 0).trans rfl
              have hfs22 := blk_frozen BK144.out 0
              have hs23 : w21.cell? ⟨gb144, 1, none⟩ = some (.int .i64 0) := (blk_cell BK144.out 1).trans rfl
              have hfs23 := blk_frozen BK144.out 1
              refine skip_ (w1 := ?_) (by rfl) rfl ?_ ?_
              rotate_left
              · go_simp
                rfl
              refine hK.out _ _ ⟨((cell_far (p := ⟨gb144, _, none⟩) (by first | exact Nat.ne_of_lt (Nat.lt_of_lt_of_le (by have := World.block_lt_of_cell? _ _ hw154_0; first | rwa [add_block] at this | exact this) GW144.out) | (rw [add_block]; exact Nat.ne_of_lt (Nat.lt_of_lt_of_le (by have := World.block_lt_of_cell? _ _ hw154_0; first | rwa [add_block] at this | exact this) GW144.out)) | (show (Addr.add _ _).block ≠ _; rw [add_block]; exact Nat.ne_of_lt (Nat.lt_of_lt_of_le (by have := World.block_lt_of_cell? _ _ hw154_0; first | rwa [add_block] at this | exact this) GW144.out)) | (dsimp only; exact Nat.ne_of_lt (Nat.lt_of_lt_of_le (by have := World.block_lt_of_cell? _ _ hw154_0; first | rwa [add_block] at this | exact this) GW144.out))) _).trans (((cell_far (p := ⟨gb144, _, none⟩) (by first | exact Nat.ne_of_lt (Nat.lt_of_lt_of_le (by have := World.block_lt_of_cell? _ _ hw154_0; first | rwa [add_block] at this | exact this) GW144.out) | (rw [add_block]; exact Nat.ne_of_lt (Nat.lt_of_lt_of_le (by have := World.block_lt_of_cell? _ _ hw154_0; first | rwa [add_block] at this | exact this) GW144.out)) | (show (Addr.add _ _).block ≠ _; rw [add_block]; exact Nat.ne_of_lt (Nat.lt_of_lt_of_le (by have := World.block_lt_of_cell? _ _ hw154_0; first | rwa [add_block] at this | exact this) GW144.out)) | (dsimp only; exact Nat.ne_of_lt (Nat.lt_of_lt_of_le (by have := World.block_lt_of_cell? _ _ hw154_0; first | rwa [add_block] at this | exact this) GW144.out))) _).trans (hHeld.1)))), ((cell_far (p := ⟨gb144, _, none⟩) (by first | exact Nat.ne_of_lt (Nat.lt_of_lt_of_le (by have := World.block_lt_of_cell? _ _ hw154_1; first | rwa [add_block] at this | exact this) GW144.out) | (rw [add_block]; exact Nat.ne_of_lt (Nat.lt_of_lt_of_le (by have := World.block_lt_of_cell? _ _ hw154_1; first | rwa [add_block] at this | exact this) GW144.out)) | (show (Addr.add _ _).block ≠ _; rw [add_block]; exact Nat.ne_of_lt (Nat.lt_of_lt_of_le (by have := World.block_lt_of_cell? _ _ hw154_1; first | rwa [add_block] at this | exact this) GW144.out)) | (dsimp only; exact Nat.ne_of_lt (Nat.lt_of_lt_of_le (by have := World.block_lt_of_cell? _ _ hw154_1; first | rwa [add_block] at this | exact this) GW144.out))) _).trans (((cell_far (p := ⟨gb144, _, none⟩) (by first | exact Nat.ne_of_lt (Nat.lt_of_lt_of_le (by have := World.block_lt_of_cell? _ _ hw154_1; first | rwa [add_block] at this | exact this) GW144.out) | (rw [add_block]; exact Nat.ne_of_lt (Nat.lt_of_lt_of_le (by have := World.block_lt_of_cell? _ _ hw154_1; first | rwa [add_block] at this | exact this) GW144.out)) | (show (Addr.add _ _).block ≠ _; rw [add_block]; exact Nat.ne_of_lt (Nat.lt_of_lt_of_le (by have := World.block_lt_of_cell? _ _ hw154_1; first | rwa [add_block] at this | exact this) GW144.out)) | (dsimp only; exact Nat.ne_of_lt (Nat.lt_of_lt_of_le (by have := World.block_lt_of_cell? _ _ hw154_1; first | rwa [add_block] at this | exact this) GW144.out))) _).trans (hHeld.2))))⟩ (fun hHeld => ?_)
              clear hK K
              refine pure_ (i := 6) (N := some 4) (v := ?_) (a' := ?_) #[true, true, true, true, true, true, true] rfl rfl (by kernel_rfl) (fun _ _ _ h => h) (Or.inl ⟨by rfl, ?_⟩) ?_ ?_
              rotate_left
              · intro w'
                go_simp
                with_reducible rfl
              rotate_left
              · simp only [Act.put, List.setIfInBounds_toArray, List.set_cons_zero, List.set_cons_succ, i64_w, i32_w]
                rfl
              refine done_ (by kernel_rfl) ?_
              try go_wp2
              refine bodyPost_ret (results_list (rs := [.tmp 2, .cell 3 24, .tmp 4]) rfl (by simp) (.tmp (.cell gb144 24 #[.int .i64 ((rd_T24 l0 0).f0), .int .i64 ((rd_T24 l0 0).f1)] (0, 0) _ rfl (by (with_reducible repeat (first | refine blk_drewN ?_ _ | refine blk_drew ?_ | refine blk_alloc ?_ _)); refine blk_put (cs := #[.int .i64 ((rd_T24 l0 0).f0), .int .i64 0]) ?_ 1 _ rfl; (with_reducible repeat (first | refine blk_drewN ?_ _ | refine blk_drew ?_ | refine blk_alloc ?_ _)); refine blk_put (cs := #[.int .i64 0, .int .i64 0]) ?_ 0 _ rfl; (with_reducible repeat (first | refine blk_drewN ?_ _ | refine blk_drew ?_ | refine blk_alloc ?_ _)); exact BK144.out) Try.underlying24 rfl (by kernel_rfl) (.tmp .nil)))) rfl ?_
              exact ⟨_, by first | rfl | (simp [errW_none, errW_some] <;> rfl) | (simp only [← hji6]; first | rfl | (simp [errW_none, errW_some] <;> rfl)) | (simp [*, errW_none, errW_some] <;> rfl), by (with_reducible repeat (first | apply Kd.R_alloc | apply Kd.R_drewN | apply Kd.R_drew)); exact Kd.R_mono (Kd.R_far (p := ⟨gb144, 1, none⟩) (Kd.R_far (p := ⟨gb144, 0, none⟩) (Kd.R_mono HO152.out (fun k_ hk => (⟨hk, hk⟩ : _ ∧ k_ ≠ gb144))) (fun _ hk => hk.2) (.int .i64 ((rd_T24 l0 0).f0))) (fun _ hk => hk.2) (.int .i64 ((rd_T24 l0 0).f1))) (fun _ hk => trivial), by repeat (first | (with_reducible first | exact HB.out | apply below_alloc | apply pw_below_drewN | apply below_drew1 | refine below_set ?_ GE144.out) | exact HB.out)⟩
            · rw [if_neg c13] at H
              exact absurd H (by simp)
          · rw [if_neg c11] at H
            exact absurd H (by simp)
        · rw [if_neg c9] at H
          exact absurd H (by simp)
      · rw [if_neg c8] at H
        exact absurd H (by simp)
    · rw [if_neg c7] at H
      exact absurd H (by simp)

end Go.Proofs.Ytlihbdinghoeeab.P

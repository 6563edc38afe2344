/- For each Go function a Lean function, and the proof that a call comes to what it tells: made by program out of the translation (the kit's print, with texts by hand put in). No condition. -/
import Derived.Test.YtlihbdinghoeeabPx0
import Derived.Test.YtlihbdinghoeeabPx11
namespace Go.Proofs.Ytlihbdinghoeeab.P
open Go.RowKit Go.Proofs.Ytlihbdinghoeeab.HRows Go.Proofs.YtlihbdinghoeeabW.PrintWords Go.Proofs.YtlihbdinghoeeabW.PrintLast Go.Proofs.YtlihbdinghoeeabW.PrintMore
attribute [local go_sem] max2_int min2_int max_two min_two max_three min_three max_four min_four   -- for this text's walks alone
set_option linter.unusedVariables false
set_option linter.unusedSimpArgs false

/-! ### stolonref12_Push: function 22 -/
def stolonref12_Push.l0 : Nat → List (S24) → Int → Int → Int → Option ((List (S24)))
  | 0, _, _, _, _ => none
  | k + 1, x5, x6, x243000, x243001 => if x6 > 0 then (if 0 ≤ (wrap64 (Int.tdiv (wrap64 (x6 - 1)) 2)) then (if (wrap64 (Int.tdiv (wrap64 (x6 - 1)) 2)) < (x5.length : Int) then ((stolonref12_Less.f x243000 x243001 ((rd_T24 x5 (wrap64 (Int.tdiv (wrap64 (x6 - 1)) 2))).f0) ((rd_T24 x5 (wrap64 (Int.tdiv (wrap64 (x6 - 1)) 2))).f1)).bind fun t253 => (if t253 = true then (if 0 ≤ x6 then (if x6 < (x5.length : Int) then (stolonref12_Push.l0 k ((x5.set (x6 : Int).toNat (⟨(rd_T24 x5 (wrap64 (Int.tdiv (wrap64 (x6 - 1)) 2))).f0, (rd_T24 x5 (wrap64 (Int.tdiv (wrap64 (x6 - 1)) 2))).f1⟩ : S24)).set ((wrap64 (Int.tdiv (wrap64 (x6 - 1)) 2)) : Int).toNat (⟨x243000, x243001⟩ : S24)) (wrap64 (Int.tdiv (wrap64 (x6 - 1)) 2)) x243000 x243001) else (none)) else (none)) else (some x5))) else (none)) else (none)) else (some x5)
def stolonref12_Push.f (k : Nat) (l0 : List (S24)) (a1_0 : Int) (a1_1 : Int) : Option ((List (S24))) := (some (([] : List (S24)) : List (S24))).bind fun y243 => (if y243.length + l0.length < 8796093022208 then ((some (y243 ++ l0 : List (S24))).bind fun y246 => (if y246.length < 8796093022208 then (stolonref12_Push.l0 k (y246 ++ [(⟨a1_0, a1_1⟩ : S24)]) (l0.length : Int) a1_0 a1_1) else (none))) else (none))
theorem stolonref12_Push.mono_l : ∀ k, (∀ y0 y1 y2 y3, LeO (stolonref12_Push.l0 k y0 y1 y2 y3) (stolonref12_Push.l0 (k + 1) y0 y1 y2 y3))
  | 0 => fun _ _ _ _ r h => by simp [stolonref12_Push.l0] at h
  | k + 1 => by
    have ih0 := stolonref12_Push.mono_l k
    · intro y0 y1 y2 y3
      unfold stolonref12_Push.l0
      repeat' first
      | (with_reducible exact ih0 _ _ _ _)
      | (with_reducible exact LeO.refl _)
      | (with_reducible exact LeO.none _)
      | (with_reducible refine LeO.ite ?_ ?_)
      | (with_reducible refine LeO.bind ?_ (fun _ => ?_))
      | exact ih0 _ _ _ _
      | exact LeO.none _
      | refine LeO.ite ?_ ?_
      | refine LeO.bind ?_ (fun _ => ?_)
theorem stolonref12_Push.mono : ∀ a0 a1 a2 k, LeO (stolonref12_Push.f k a0 a1 a2) (stolonref12_Push.f (k + 1) a0 a1 a2) := by
  intro a0 a1 a2 k
  have ih0 := stolonref12_Push.mono_l k
  unfold stolonref12_Push.f
  repeat' first
      | (with_reducible exact ih0 _ _ _ _)
      | (with_reducible exact LeO.refl _)
      | (with_reducible exact LeO.none _)
      | (with_reducible refine LeO.ite ?_ ?_)
      | (with_reducible refine LeO.bind ?_ (fun _ => ?_))
      | exact ih0 _ _ _ _
      | exact LeO.none _
      | refine LeO.ite ?_ ?_
      | refine LeO.bind ?_ (fun _ => ?_)
set_option maxHeartbeats 8000000 in
set_option maxRecDepth 100000 in
theorem stolonref12_Push.calls (k : Nat) (A0 : Option Addr) (c0 : Nat) (l0 : List (S24)) (a1_0 : Int) (a1_1 : Int) (r : List (S24)) (w : World) (hr0 : Kd.C k24 w A0 l0.length l0) (hc0 : l0.length ≤ c0) (h : stolonref12_Push.f k l0 a1_0 a1_1 = some r) :
    Calls Try.prog 22 #[.slice A0 l0.length c0, .agg #[.int .i64 a1_0, .int .i64 a1_1]] w fun e w' => ∃ v0_ : Value, e = .returned (v0_) ∧ Kd.R k24 24 w' w.heap.size (fun _ => True) v0_ r ∧ Below w.heap.size w w' := by
  have hu24 := Try.underlying24
  have HR0 := Aside0.mk hr0
  have HC0 := Aside0.mk hc0
  clear hr0 hc0
  have HB := Aside0.mk (Below.refl w.heap.size w)
  have H : ((some (([] : List (S24)) : List (S24))).bind fun y243 => (if y243.length + l0.length < 8796093022208 then ((some (y243 ++ l0 : List (S24))).bind fun y246 => (if y246.length < 8796093022208 then (stolonref12_Push.l0 k (y246 ++ [(⟨a1_0, a1_1⟩ : S24)]) (l0.length : Int) a1_0 a1_1) else (none))) else (none))) = some r := h
  clear h
  obtain ⟨y243, hy243⟩ : ∃ y_ : List (S24), y_ = (([] : List (S24))) := ⟨_, rfl⟩
  replace H : (if y243.length + l0.length < 8796093022208 then ((some (y243 ++ l0 : List (S24))).bind fun y246 => (if y246.length < 8796093022208 then (stolonref12_Push.l0 k (y246 ++ [(⟨a1_0, a1_1⟩ : S24)]) (l0.length : Int) a1_0 a1_1) else (none))) else (none)) = some r := by first | (rw [hy243]; with_reducible exact H) | (have H2_ := (Option.bind_some _ _).symm.trans H; rw [hy243]; with_reducible exact H2_) | (have H2_ := (Option.bind_some _ _).symm.trans H; with_reducible exact H2_) | with_reducible exact H | (rw [hy243]; exact H) | exact H
  have Ny243 := Aside0.mk hy243
  clear hy243
  by_cases c3 : y243.length + l0.length < 8796093022208
  · rw [if_pos c3] at H
    have LMc3 := Aside0.mk c3
    clear c3
    obtain ⟨y246, hy246⟩ : ∃ y_ : List (S24), y_ = (y243 ++ l0) := ⟨_, rfl⟩
    replace H : (if y246.length < 8796093022208 then (stolonref12_Push.l0 k (y246 ++ [(⟨a1_0, a1_1⟩ : S24)]) (l0.length : Int) a1_0 a1_1) else (none)) = some r := by first | (rw [hy246]; with_reducible exact H) | (have H2_ := (Option.bind_some _ _).symm.trans H; rw [hy246]; with_reducible exact H2_) | (have H2_ := (Option.bind_some _ _).symm.trans H; with_reducible exact H2_) | with_reducible exact H | (rw [hy246]; exact H) | exact H
    have Ny246 := Aside0.mk hy246
    clear hy246
    by_cases c4 : y246.length < 8796093022208
    · rw [if_pos c4] at H
      have LMc4 := Aside0.mk c4
      clear c4
      obtain ⟨y249, hy249⟩ : ∃ y_ : List (S24), y_ = (y246 ++ [(⟨a1_0, a1_1⟩ : S24)]) := ⟨_, rfl⟩
      replace H : (stolonref12_Push.l0 k y249 (l0.length : Int) a1_0 a1_1) = some r := by first | (rw [hy249]; with_reducible exact H) | (have H2_ := (Option.bind_some _ _).symm.trans H; rw [hy249]; with_reducible exact H2_) | (have H2_ := (Option.bind_some _ _).symm.trans H; with_reducible exact H2_) | with_reducible exact H | (rw [hy249]; exact H) | exact H
      have Ny249 := Aside0.mk hy249
      clear hy249
      have H' := Aside0.mk H
      clear H
      go_enter Try.func22, Try.ntmps22
      go_wp2_with (first | ((with_reducible refine gate_dst (N := 3) rfl ?_); refine box_event ?hg (N := 3) ?hd (cs := #[.int .i64 a1_0, .int .i64 a1_1]) (t := 24) ?hr ?_; (case hd => rfl); (case hg => rfl); (case hr => first | (go_simp; done) | (go_simp; rfl)); intro gb242 hg w5 hbox hb; have n0_ := Aside0.mk (below_step (by repeat (first | (with_reducible first | exact HB.out | apply below_alloc | apply pw_below_drewN | apply below_drew1) | exact HB.out)) hb); have n1_ := Aside0.mk (hbox); have n2_ := Aside0.mk ((by rw [hg]; exact (below_size (by repeat (first | (with_reducible first | exact HB.out | apply below_alloc | apply pw_below_drewN | apply below_drew1) | exact HB.out))) : w.heap.size ≤ gb242)); have n3_ := Aside0.mk ((by rw [hg]; exact (below_size (by repeat (first | (with_reducible first | exact HB.out | apply below_alloc | apply pw_below_drewN | apply below_drew1) | exact HB.out))) : w.heap.size ≤ gb242)); clear HB; have HB := n0_; have BK242 := n1_; have GW242 := n2_; have GE242 := n3_; clear n0_ n1_ n2_ n3_; clear hb hbox hg) | ((with_reducible refine gate_dst (N := 9) rfl ?_); refine Kd.R_lit k24 _ 24 ?hg (N := 9) ?hd (xs := ([] : List (S24))) (inner := []) (ok := fun _ => True) (okp := fun _ => True) ?hr ?hp (fun _ hk => hk) trivial (Below.refl _ _) (Nat.le_refl _) (by simp) ?_; (case hd => rfl); (case hg => rfl); (case hr => first | (go_simp; done) | (go_simp; rfl)); (case hp => exact (Reps.none _ _)); intro v244 w6 ho7 hb hg_ hnew_; clear hg_ hnew_; (first | rw [← Ny243.out] at ho7 | (simp only [Int.reduceToNat] at ho7; rw [← Ny243.out] at ho7)); have n0_ := Aside0.mk (Kd.R_lower (Kd.R_newB ho7 (g := gb242) (o := .cells #[.int .i64 a1_0, .int .i64 a1_1] 24 (0, 0)) (by (with_reducible repeat (first | refine blk_drewN ?_ _ | refine blk_drew ?_ | refine blk_alloc ?_ _)); exact BK242.out)) (below_size (by repeat (first | (with_reducible first | exact HB.out | apply below_alloc | apply pw_below_drewN | apply below_drew1 | refine below_set ?_ GE242.out) | exact HB.out)))); have n1_ := Aside0.mk (blk_below (g := gb242) (o := .cells #[.int .i64 a1_0, .int .i64 a1_1] 24 (0, 0)) (by (with_reducible repeat (first | refine blk_drewN ?_ _ | refine blk_drew ?_ | refine blk_alloc ?_ _)); exact BK242.out) hb); have n2_ := Aside0.mk (below_step (by repeat (first | (with_reducible first | exact HB.out | apply below_alloc | apply pw_below_drewN | apply below_drew1 | refine below_set ?_ GE242.out) | exact HB.out)) hb); clear BK242; clear HB; have HO245 := n0_; have BK242 := n1_; have HB := n2_; clear n0_ n1_ n2_; clear hb ho7) | ((with_reducible refine gate_builtin (b := .append) (xs := #[.tmp 9, .tmp 10]) rfl ?_); at_builtin; refine Kd.R_append_rows k24 (w0 := w) w.heap.size rfl (.tmp 9) (.tmp 10) 22 24 (.agg #[(.int .i64 0), (.int .i64 0)]) 16 rfl Try.underlying22 info24 rfl (by decide) (by omega) v244 y243 l0 _ _ _ (fun k_ => k_ ≠ gb242) (fun _ => False) rfl rfl ?aO ?aR (fun _ _ h => h) (fun _ h => h.elim) ?aF ?aB ?aS ?aL ?_; (case aR => repeat (first | exact (Kd.C_below HR0.out HB.out) | (with_reducible refine Kd.C_alloc ?_ _) | (with_reducible refine Kd.C_drewN ?_ _) | (with_reducible refine Kd.C_drew ?_))); (case aB => exact (by repeat (first | (with_reducible first | exact HB.out | apply below_alloc | apply pw_below_drewN | apply below_drew1 | refine below_set ?_ GE242.out) | exact HB.out))); (case aF => exact (fun k_ hk => Kd.freshB (g := gb242) (o := .cells #[.int .i64 a1_0, .int .i64 a1_1] 24 (0, 0)) (by (with_reducible repeat (first | refine blk_drewN ?_ _ | refine blk_drew ?_ | refine blk_alloc ?_ _)); exact BK242.out) k_ hk)); (case aO => exact (by (with_reducible repeat (first | apply Kd.R_alloc | apply Kd.R_drewN | apply Kd.R_drew)); exact Kd.R_mono HO245.out (fun _ hk => hk.2))); (case aS => exact (below_size (by repeat (first | (with_reducible first | exact HB.out | apply below_alloc | apply pw_below_drewN | apply below_drew1 | refine below_set ?_ GE242.out) | exact HB.out)))); (case aL => have := LMc3.out; omega); intro v247 w8 ho hb hg hat; rw [← Ny246.out] at ho; have n0_ := Aside0.mk (blk_grown (g := gb242) (o := .cells #[.int .i64 a1_0, .int .i64 a1_1] 24 (0, 0)) (by (with_reducible repeat (first | refine blk_drewN ?_ _ | refine blk_drew ?_ | refine blk_alloc ?_ _)); exact BK242.out) hg (Kd.R_away HO245.out (fun _ hk => hk.2))); have n1_ := Aside0.mk (hb); have n2_ := Aside0.mk (ho); clear BK242; clear HB; clear HO245; have BK242 := n0_; have HB := n1_; have HO248 := n2_; clear n0_ n1_ n2_; clear ho hb hg hat; have hcz9_0 : w8.cell? ⟨gb242, 0, none⟩ = some (.int .i64 a1_0) := (blk_cell BK242.out 0).trans rfl; have hcz9_1 : w8.cell? ⟨gb242, 1, none⟩ = some (.int .i64 a1_1) := (blk_cell BK242.out 1).trans rfl; have hfz9_0 := blk_frozen BK242.out 0; have hfz9_1 := blk_frozen BK242.out 1) | ((with_reducible refine gate_builtin (b := .append) (xs := #[.tmp 12, .tmp 14]) rfl ?_); at_builtin; refine Kd.R_append k24 (w0 := w) w.heap.size rfl (.tmp 12) (.tmp 14) 22 24 (.agg #[(.int .i64 0), (.int .i64 0)]) 16 rfl Try.underlying22 info24 rfl (by decide) (by omega) v247 y246 (⟨a1_0, a1_1⟩ : S24) [.int .i64 a1_0, .int .i64 a1_1] (fun k_ => k_ ≠ gb242) (fun _ => False) rfl rfl ?aP (fun _ hk => hk.elim) ?aF ?aO ?aB ?aS ?aL ?_; (case aP => exact k24_mkM _ _ _ (⟨a1_0, a1_1⟩ : S24)); (case aB => exact (by repeat (first | (with_reducible first | exact HB.out | apply below_alloc | apply pw_below_drewN | apply below_drew1 | refine below_set ?_ GE242.out) | exact HB.out))); (case aF => exact (fun k_ hk => Kd.freshB (g := gb242) (o := .cells #[.int .i64 a1_0, .int .i64 a1_1] 24 (0, 0)) (by (with_reducible repeat (first | refine blk_drewN ?_ _ | refine blk_drew ?_ | refine blk_alloc ?_ _)); exact BK242.out) k_ hk)); (case aO => exact (by (with_reducible repeat (first | apply Kd.R_alloc | apply Kd.R_drewN | apply Kd.R_drew)); exact HO248.out)); (case aS => exact (below_size (by repeat (first | (with_reducible first | exact HB.out | apply below_alloc | apply pw_below_drewN | apply below_drew1 | refine below_set ?_ GE242.out) | exact HB.out)))); (case aL => have := LMc4.out; omega); intro v250 w10 ho hb hg hat; rw [← Ny249.out] at ho; have n0_ := Aside0.mk (blk_grown (g := gb242) (o := .cells #[.int .i64 a1_0, .int .i64 a1_1] 24 (0, 0)) (by (with_reducible repeat (first | refine blk_drewN ?_ _ | refine blk_drew ?_ | refine blk_alloc ?_ _)); exact BK242.out) hg (Kd.R_away HO248.out (fun _ hk => hk))); have n1_ := Aside0.mk (hb); have n2_ := Aside0.mk (ho); clear BK242; clear HB; clear HO248; have BK242 := n0_; have HB := n1_; have HO251 := n2_; clear n0_ n1_ n2_; clear ho hb hg hat))
      go_loopg [6] k (fun kq v6 w' => ∃ (x5_1 : List (S24)) (x6_1 : Int) (x243000_1 : Int) (x243001_1 : Int), v6 = .int .i64 x6_1 ∧ Aside0 (stolonref12_Push.l0 kq x5_1 x6_1 x243000_1 x243001_1 = some r) ∧ Aside0 (kq ≤ k) ∧ Aside0 (Kd.R k24 24 w' w.heap.size (fun k_ => k_ ≠ gb242) v250 x5_1) ∧ Aside0 (w'.heap[gb242]? = some (.cells #[.int .i64 x243000_1, .int .i64 x243001_1] 24 (0, 0))) ∧ Aside0 (Below w.heap.size w w'))
      case atStart => exact ⟨(y249), ((l0.length : Int)), (a1_0), (a1_1), (by first | rfl | (simp; done) | (simp [*]; done)), H', ⟨Nat.le_refl _⟩, ⟨by (with_reducible repeat (first | apply Kd.R_alloc | apply Kd.R_drewN | apply Kd.R_drew)); exact HO251.out⟩, ⟨by (with_reducible repeat (first | refine blk_drewN ?_ _ | refine blk_drew ?_ | refine blk_alloc ?_ _)); exact BK242.out⟩, ⟨by repeat (first | (with_reducible first | exact HB.out | apply below_alloc | apply pw_below_drewN | apply below_drew1 | refine below_set ?_ GE242.out) | exact HB.out)⟩⟩
      case round =>
        clear H'
        try clear c2
        try clear p2
        try clear c3
        try clear c4
        try clear hcz9_0
        try clear hcz9_1
        try clear hfz9_0
        try clear hfz9_1
        obtain ⟨x5_1, x6_1, x243000_1, x243001_1, rfl, HA, HK1, HO_5, BK242, HB⟩ := hrel
        cases gk with
        | zero => exact absurd HA.out (by simp [stolonref12_Push.l0])
        | succ k1 =>
          have H := HA.out
          clear HA
          simp only [stolonref12_Push.l0] at H
          by_cases c11 : x6_1 > 0
          · rw [if_pos c11] at H
            have c11b0 : decide (0 < x6_1) = true := decide_eq_true c11
            clear c11
            obtain ⟨ji12, hji12⟩ : ∃ j_ : Int, (wrap64 (Int.tdiv (wrap64 (x6_1 - 1)) 2)) = j_ := ⟨_, rfl⟩
            replace H : (if 0 ≤ (ji12) then (if (ji12) < (x5_1.length : Int) then ((stolonref12_Less.f x243000_1 x243001_1 ((rd_T24 x5_1 (ji12)).f0) ((rd_T24 x5_1 (ji12)).f1)).bind fun t253 => (if t253 = true then (if 0 ≤ x6_1 then (if x6_1 < (x5_1.length : Int) then (stolonref12_Push.l0 k1 ((x5_1.set (x6_1 : Int).toNat (⟨(rd_T24 x5_1 (ji12)).f0, (rd_T24 x5_1 (ji12)).f1⟩ : S24)).set ((ji12) : Int).toNat (⟨x243000_1, x243001_1⟩ : S24)) ji12 x243000_1 x243001_1) else (none)) else (none)) else (some x5_1))) else (none)) else (none)) = some r := by first | (rw [hji12] at H; exact H) | (simp only [hji12] at H ⊢; exact H)
            have hji12w : (IntKind.i64.wrap (Int.tdiv (wrap64 (x6_1 - 1)) 2)) = ji12 := (i64_w _).trans hji12
            by_cases c13 : 0 ≤ (ji12)
            · rw [if_pos c13] at H
              have c13b0 : decide (0 ≤ (ji12)) = true := decide_eq_true c13
              clear c13
              by_cases c14 : (ji12) < (x5_1.length : Int)
              · rw [if_pos c14] at H
                have c14b0 : decide ((ji12) < (x5_1.length : Int)) = true := decide_eq_true c14
                clear c14
                replace H := Option.bind_eq_some_iff.mp H
                obtain ⟨t253, A150, H⟩ := H
                replace H : (if t253 = true then (if 0 ≤ x6_1 then (if x6_1 < (x5_1.length : Int) then (stolonref12_Push.l0 k1 ((x5_1.set (x6_1 : Int).toNat (⟨(rd_T24 x5_1 (ji12)).f0, (rd_T24 x5_1 (ji12)).f1⟩ : S24)).set ((ji12) : Int).toNat (⟨x243000_1, x243001_1⟩ : S24)) ji12 x243000_1 x243001_1) else (none)) else (none)) else (some x5_1)) = some r := H
                have A15 := Aside0.mk A150
                clear A150
                by_cases c16 : t253 = true
                · subst c16
                  have H1 : (if 0 ≤ x6_1 then (if x6_1 < (x5_1.length : Int) then (stolonref12_Push.l0 k1 ((x5_1.set (x6_1 : Int).toNat (⟨(rd_T24 x5_1 (ji12)).f0, (rd_T24 x5_1 (ji12)).f1⟩ : S24)).set ((ji12) : Int).toNat (⟨x243000_1, x243001_1⟩ : S24)) ji12 x243000_1 x243001_1) else (none)) else (none)) = some r := by rw [if_pos rfl] at H; exact H
                  clear H
                  have H := H1
                  clear H1
                  by_cases c17 : 0 ≤ x6_1
                  · rw [if_pos c17] at H
                    have c17b0 : decide (0 ≤ x6_1) = true := decide_eq_true c17
                    clear c17
                    by_cases c18 : x6_1 < (x5_1.length : Int)
                    · rw [if_pos c18] at H
                      have c18b0 : decide (x6_1 < (x5_1.length : Int)) = true := decide_eq_true c18
                      clear c18
                      obtain ⟨y255, hy255⟩ : ∃ y_ : List (S24), y_ = (x5_1.set (x6_1 : Int).toNat (⟨(rd_T24 x5_1 (ji12)).f0, (rd_T24 x5_1 (ji12)).f1⟩ : S24)) := ⟨_, rfl⟩
                      replace H : (stolonref12_Push.l0 k1 (y255.set ((ji12) : Int).toNat (⟨x243000_1, x243001_1⟩ : S24)) ji12 x243000_1 x243001_1) = some r := by first | (rw [hy255]; with_reducible exact H) | (have H2_ := (Option.bind_some _ _).symm.trans H; rw [hy255]; with_reducible exact H2_) | (have H2_ := (Option.bind_some _ _).symm.trans H; with_reducible exact H2_) | with_reducible exact H | (rw [hy255]; exact H) | exact H
                      have Ny255 := Aside0.mk hy255
                      clear hy255
                      obtain ⟨y256, hy256⟩ : ∃ y_ : List (S24), y_ = (y255.set ((ji12) : Int).toNat (⟨x243000_1, x243001_1⟩ : S24)) := ⟨_, rfl⟩
                      replace H : (stolonref12_Push.l0 k1 y256 ji12 x243000_1 x243001_1) = some r := by first | (rw [hy256]; with_reducible exact H) | (have H2_ := (Option.bind_some _ _).symm.trans H; rw [hy256]; with_reducible exact H2_) | (have H2_ := (Option.bind_some _ _).symm.trans H; with_reducible exact H2_) | with_reducible exact H | (rw [hy256]; exact H) | exact H
                      have Ny256 := Aside0.mk hy256
                      clear hy256
                      have H' := Aside0.mk H
                      clear H
                      try go_wp2
                      have n0_ := Aside0.mk (Kd.R_drew HO_5.out)
                      have n1_ := Aside0.mk (blk_drew BK242.out)
                      have n2_ := Aside0.mk (below_drew1 HB.out)
                      clear HO_5
                      clear BK242
                      clear HB
                      have HO_5 := n0_
                      have BK242 := n1_
                      have HB := n2_
                      clear n0_ n1_ n2_
                      obtain ⟨Ao22, co22, eo22⟩ := Kd.R_slice HO_5.out
                      (first | subst eo22 | (injection eo22 with f1_ f2_ f3_; have f4_ := f1_.symm; have f5_ := f3_.symm; clear f1_ f2_ f3_; subst f4_; subst f5_))
                      have p252 : 0 ≤ ((ji12) : Int) := of_decide_eq_true (by first | (with_reducible assumption) | assumption)
                      have q252 : (ji12) < (x5_1.length : Int) := of_decide_eq_true (by first | (with_reducible assumption) | assumption)
                      obtain ⟨ad252, e252, hx252_0, hx252_1⟩ := at_T24 (Kd.R_reads' HO_5.out).2.2 (ji12) p252 q252
                      cases e252
                      replace p252 := eq_true p252
                      replace q252 := eq_true q252
                      refine start_ (n := 7) (S := fun w' => w'.cell? ⟨gb242, 0, none⟩ = some (.int .i64 x243000_1) ∧ w'.cell? ⟨gb242, 1, none⟩ = some (.int .i64 x243001_1) ∧ w'.cell? (ad252.add (((ji12)).toNat * 2)) = some (.int .i64 ((rd_T24 x5_1 (ji12)).f0)) ∧ w'.cell? ⟨(ad252.add (((ji12)).toNat * 2)).block, (ad252.add (((ji12)).toNat * 2)).off + 1, none⟩ = some (.int .i64 ((rd_T24 x5_1 (ji12)).f1))) (ds := []) #[false, false, false, false, false, false, false] (by kernel_rfl) rfl rfl ⟨(blk_cell BK242.out 0).trans rfl, (blk_cell BK242.out 1).trans rfl, hx252_0, hx252_1⟩ (fun hHeld => ?_)
                      generalize wr.drew = w21 at HO_5 BK242 HB hx252_0 hx252_1 hHeld ⊢
                      refine pure_ (i := 1) (N := some 24) (v := ?_) (a' := ?_) #[false, true, false, false, false, false, false] rfl rfl (by kernel_rfl) (fun _ _ _ h => h) (Or.inl ⟨by rfl, ?_⟩) ?_ ?_
                      rotate_left
                      · intro w'
                        go_simp
                        with_reducible rfl
                      rotate_left
                      · simp only [Act.put, List.setIfInBounds_toArray, List.set_cons_zero, List.set_cons_succ, i64_w, i32_w]
                        rfl
                      refine pure_ (i := 2) (N := some 25) (v := ?_) (a' := ?_) #[false, true, true, false, false, false, false] rfl rfl (by kernel_rfl) (fun _ _ _ h => h) (Or.inl ⟨by rfl, ?_⟩) ?_ ?_
                      rotate_left
                      · intro w'
                        go_simp
                        with_reducible rfl
                      rotate_left
                      · simp only [Act.put, List.setIfInBounds_toArray, List.set_cons_zero, List.set_cons_succ, i64_w, i32_w]
                        rfl
                      refine pure_ (i := 3) (N := some 26) (v := ?_) (a' := ?_) #[false, true, true, true, false, false, false] rfl rfl (by kernel_rfl) (fun _ _ _ h => h) (Or.inl ⟨by rfl, ?_⟩) ?_ ?_
                      rotate_left
                      · intro w'
                        go_simp
                        with_reducible rfl
                      rotate_left
                      · simp only [Act.put, List.setIfInBounds_toArray, List.set_cons_zero, List.set_cons_succ, i64_w, i32_w]
                        rfl
                      refine take_ (i := 0) (N := some 23) (v := ?_) (a' := ?_) #[true, true, true, true, false, false, false] rfl rfl (by kernel_rfl) (fun _ _ _ h => h) (Or.inl ⟨by rfl, ?_⟩) hHeld ?_ ?_
                      rotate_left
                      · rintro w' ⟨s0, s1, s2, s3⟩
                        (try simp only [add_plain] at s0 s1 s2 s3)
                        go_simp
                        with_reducible rfl
                      rotate_left
                      · simp only [Act.put, List.setIfInBounds_toArray, List.set_cons_zero, List.set_cons_succ, i64_w, i32_w]
                        rfl
                      refine take_ (i := 4) (N := some 27) (v := ?_) (a' := ?_) #[true, true, true, true, true, false, false] rfl rfl (by kernel_rfl) (fun _ _ _ h => h) (Or.inl ⟨by rfl, ?_⟩) hHeld ?_ ?_
                      rotate_left
                      · rintro w' ⟨s0, s1, s2, s3⟩
                        (try simp only [add_plain] at s0 s1 s2 s3)
                        go_simp
                        with_reducible rfl
                      rotate_left
                      · simp only [Act.put, List.setIfInBounds_toArray, List.set_cons_zero, List.set_cons_succ, i64_w, i32_w]
                        rfl
                      refine one_ (i := 5) (N := some 28) #[true, true, true, true, true, true, false] rfl rfl (by kernel_rfl) (by decide) (fun K hK => ?_)
                      refine goes_ Try.func14 (by kernel_rfl) rfl #[.agg #[.int .i64 x243000_1, .int .i64 x243001_1], .agg #[.int .i64 ((rd_T24 x5_1 (ji12)).f0), .int .i64 ((rd_T24 x5_1 (ji12)).f1)]] (by rfl) rfl rfl (by (try simp only [List.map_toArray, List.map_cons, List.map_nil]); first | done | (simp only [hji12]; rfl) | rfl | (simp only [List.length_drop, List.length_take]; rfl)) ?_
                      with_reducible refine (stolonref12_Less.calls x243000_1 x243001_1 ((rd_T24 x5_1 (ji12)).f0) ((rd_T24 x5_1 (ji12)).f1) true _ A15.out).mono ?_
                      rintro e w23 ⟨rfl, hb⟩
                      have HS2_ := (hb.cell (World.block_lt_of_cell? _ _ (hHeld.2.2.1))).trans (hHeld.2.2.1)
                      have HS3_ := (hb.cell (World.block_lt_of_cell? _ _ (hHeld.2.2.2))).trans (hHeld.2.2.2)
                      refine ⟨_, rfl, ?_⟩
                      have n0_ := Aside0.mk (Kd.R_below (by (with_reducible repeat (first | apply Kd.R_alloc | apply Kd.R_drewN | apply Kd.R_drew)); exact HO_5.out) hb)
                      have n1_ := Aside0.mk (blk_below (g := gb242) (o := .cells #[.int .i64 x243000_1, .int .i64 x243001_1] 24 (0, 0)) (by (with_reducible repeat (first | refine blk_drewN ?_ _ | refine blk_drew ?_ | refine blk_alloc ?_ _)); exact BK242.out) hb)
                      have n2_ := Aside0.mk (below_step (by repeat (first | (with_reducible first | exact HB.out | apply below_alloc | apply pw_below_drewN | apply below_drew1 | refine below_set ?_ GE242.out) | exact HB.out)) hb)
                      clear HO_5
                      clear BK242
                      clear HB
                      have HO_5 := n0_
                      have BK242 := n1_
                      have HB := n2_
                      clear n0_ n1_ n2_
                      (try clear hb)
                      (try clear hb2)
                      (try clear hk)
                      (try clear hi)
                      refine hK.out _ _ ⟨(blk_cell BK242.out 0).trans rfl, (blk_cell BK242.out 1).trans rfl, HS2_, HS3_⟩ (fun hHeld => ?_)
                      clear hK K
                      refine norm_ (a' := ?_) ?_ ?_
                      rotate_left
                      · show Act.put _ (some 28) _ = _
                        simp only [Act.put, List.setIfInBounds_toArray, List.set_cons_zero, List.set_cons_succ, i64_w, i32_w]
                        rfl
                      refine pure_ (i := 6) (N := some 8) (v := ?_) (a' := ?_) #[true, true, true, true, true, true, true] rfl rfl (by kernel_rfl) (fun _ _ _ h => h) (Or.inl ⟨by rfl, ?_⟩) ?_ ?_
                      rotate_left
                      · intro w'
                        go_simp
                        with_reducible rfl
                      rotate_left
                      · simp only [Act.put, List.setIfInBounds_toArray, List.set_cons_zero, List.set_cons_succ, i64_w, i32_w]
                        rfl
                      refine done_ (by kernel_rfl) ?_
                      have p254 : 0 ≤ ((ji12) : Int) := of_decide_eq_true (by first | (with_reducible assumption) | assumption)
                      have q254 : (ji12) < (x5_1.length : Int) := of_decide_eq_true (by first | (with_reducible assumption) | assumption)
                      obtain ⟨ad254, e254, hx254_0, hx254_1⟩ := at_T24 (Kd.R_reads' HO_5.out).2.2 (ji12) p254 q254
                      obtain rfl : ad252 = ad254 := (by injection e254)
                      replace p254 := eq_true p254
                      replace q254 := eq_true q254
                      have p19 : 0 ≤ (x6_1 : Int) := of_decide_eq_true (by first | (with_reducible assumption) | assumption)
                      have q19 : (x6_1 : Int) < ((x5_1.length : Int) : Int) := of_decide_eq_true (by first | (with_reducible assumption) | assumption)
                      obtain ⟨go19, co19, eo19, gb19, gl19, cl19, HG19⟩ := Kd.R_form HO_5.out (by omega)
                      (first | cases eo19 | (injection eo19 with ea_ en_ ec_; (first | subst ea_ | (injection ea_ with ea_; subst ea_)); subst ec_; clear en_))
                      have GB19 := Aside0.mk gb19
                      have GG19 := Aside0.mk HG19
                      clear gb19 gl19 HG19
                      (first | simp only [add_plain] at hx252_0 | skip)
                      (first | simp only [add_plain] at hx252_1 | skip)
                      (first | simp only [add_plain] at hx254_0 | skip)
                      (first | simp only [add_plain] at hx254_1 | skip)
                      obtain ⟨ce19, hcl19, hM19, hcc19, hfr19⟩ := Kd.R_elem HO_5.out z24 (x6_1 : Int) p19 q19
                      obtain rfl := k24_openM hM19
                      have hx19_0 : w23.cell? ⟨go19, (x6_1 : Int).toNat * 2, none⟩ = some (.int .i64 ((rd_T24 x5_1 x6_1).f0)) := hcc19 0 _ rfl
                      have hx19_1 : w23.cell? ⟨go19, (x6_1 : Int).toNat * 2 + 1, none⟩ = some (.int .i64 ((rd_T24 x5_1 x6_1).f1)) := hcc19 1 _ rfl
                      have hf19_0 : w23.frozen? ⟨go19, (x6_1 : Int).toNat * 2, none⟩ = false := hfr19 0
                      have hf19_1 : w23.frozen? ⟨go19, (x6_1 : Int).toNat * 2 + 1, none⟩ = false := hfr19 1
                      clear hcl19 hcc19 hfr19 hM19
                      replace p19 := eq_true p19
                      replace q19 := eq_true q19
                      have HX24 := Aside0.mk (show Kd.R k24 24 w23 w.heap.size (fun k_ => k_ ≠ gb242) (.slice (some ⟨go19, 0, none⟩) x5_1.length co22) x5_1 from (by (with_reducible repeat (first | apply Kd.R_alloc | apply Kd.R_drewN | apply Kd.R_drew)); exact HO_5.out))
                      obtain ⟨ce24, hcl24, hM24, hcc24, hfr24⟩ := Kd.R_elem HX24.out z24 (x6_1 : Int) (of_decide_eq_true (by first | (with_reducible assumption) | assumption)) (by have h_ : (x6_1 : Int) < ((x5_1.length : Int) : Int) := of_decide_eq_true (by first | (with_reducible assumption) | assumption); first | exact h_ | (have e_ := (Kd.R_reads' HO_5.out).1; omega) | simpa using h_)
                      obtain rfl := k24_openM hM24
                      have HP24 := Kd.R_seg HX24.out (x6_1 : Int) (of_decide_eq_true (by first | (with_reducible assumption) | assumption)) (by have h_ : (x6_1 : Int) < ((x5_1.length : Int) : Int) := of_decide_eq_true (by first | (with_reducible assumption) | assumption); first | exact h_ | (have e_ := (Kd.R_reads' HO_5.out).1; omega) | simpa using h_) (seg := [.int .i64 ((rd_T24 x5_1 (ji12)).f0), .int .i64 ((rd_T24 x5_1 (ji12)).f1)]) (j := 0) hcl24 hcc24 (show 2 ≤ 2 from by decide) (x' := (⟨(rd_T24 x5_1 (ji12)).f0, (rd_T24 x5_1 (ji12)).f1⟩ : S24)) (k24_mkM _ _ _ (⟨(rd_T24 x5_1 (ji12)).f0, (rd_T24 x5_1 (ji12)).f1⟩ : S24) ) (fun _ hk => hk)
                      have hx24_0 := hcc24 0 _ rfl
                      (try simp only [show (k24).sz = 2 from rfl, Nat.mul_one, Nat.add_zero] at hx24_0)
                      have hf24_0 := hfr24 0
                      (try simp only [show (k24).sz = 2 from rfl, Nat.mul_one, Nat.add_zero] at hf24_0)
                      have hx24_1 := hcc24 1 _ rfl
                      (try simp only [show (k24).sz = 2 from rfl, Nat.mul_one, Nat.add_zero] at hx24_1)
                      have hf24_1 := hfr24 1
                      (try simp only [show (k24).sz = 2 from rfl, Nat.mul_one, Nat.add_zero] at hf24_1)
                      clear hcl24 hcc24 hfr24 hM24
                      try go_wp2_with (first | ((with_reducible refine gate_store (t := 24) (p := 37) rfl ?_); refine store_event (t := 24) (p := 37) (v := ?vo_w25) (w1 := ((w23.setCell ⟨go19, (x6_1 : Int).toNat * 2, none⟩ (.int .i64 ((rd_T24 x5_1 (ji12)).f0))).setCell ⟨go19, (x6_1 : Int).toNat * 2 + 1, none⟩ (.int .i64 ((rd_T24 x5_1 (ji12)).f1)))) ?hg ?ho ?hn ?hr ?_; (case ho => rfl); (case hg => rfl); (case hn => rfl); (case hr => first | (go_simp; done) | (go_simp; rfl)); intro w25 hw; have hg : w23.grownBy w25 (some go19) := (by rw [hw]; exact HP24.2); have hp_ : Kd.R k24 24 w25 w.heap.size (fun k_ => k_ ≠ gb242) (.slice (some ⟨go19, 0, none⟩) x5_1.length co22) y255 := (by rw [hw, Ny255.out]; exact HP24.1); clear HP24; have n0_ := Aside0.mk (hp_); have n1_ := Aside0.mk (blk_grown (g := gb242) (o := .cells #[.int .i64 x243000_1, .int .i64 x243001_1] 24 (0, 0)) (by (with_reducible repeat (first | refine blk_drewN ?_ _ | refine blk_drew ?_ | refine blk_alloc ?_ _)); exact BK242.out) hg (Kd.R_away HO_5.out (fun _ hk => hk))); have n2_ := Aside0.mk ((by rw [hw]; exact below_set (below_set (HB.out) GB19.out) GB19.out : Below w.heap.size w w25)); clear HO_5; clear BK242; clear HB; have HO_5 := n0_; have BK242 := n1_; have HB := n2_; clear n0_ n1_ n2_; clear hg hw hp_; have hcz26_0 : w25.cell? ⟨gb242, 0, none⟩ = some (.int .i64 x243000_1) := (blk_cell BK242.out 0).trans rfl; have hcz26_1 : w25.cell? ⟨gb242, 1, none⟩ = some (.int .i64 x243001_1) := (blk_cell BK242.out 1).trans rfl; have hfz26_0 := blk_frozen BK242.out 0; have hfz26_1 := blk_frozen BK242.out 1; have p20 : 0 ≤ ((ji12) : Int) := of_decide_eq_true (by first | (with_reducible assumption) | assumption); have q20 : ((ji12) : Int) < ((x5_1.length : Int) : Int) := of_decide_eq_true (by first | (with_reducible assumption) | assumption); obtain ⟨ce20, hcl20, hM20, hcc20, hfr20⟩ := Kd.R_elem HO_5.out z24 ((ji12) : Int) p20 q20; obtain rfl := k24_openM hM20; have hx20_0 : w25.cell? ⟨go19, ((ji12) : Int).toNat * 2, none⟩ = some (.int .i64 ((rd_T24 y255 (ji12)).f0)) := hcc20 0 _ rfl; have hx20_1 : w25.cell? ⟨go19, ((ji12) : Int).toNat * 2 + 1, none⟩ = some (.int .i64 ((rd_T24 y255 (ji12)).f1)) := hcc20 1 _ rfl; have hf20_0 : w25.frozen? ⟨go19, ((ji12) : Int).toNat * 2, none⟩ = false := hfr20 0; have hf20_1 : w25.frozen? ⟨go19, ((ji12) : Int).toNat * 2 + 1, none⟩ = false := hfr20 1; clear hcl20 hcc20 hfr20 hM20; replace p20 := eq_true p20; replace q20 := eq_true q20; have HX27 := Aside0.mk (show Kd.R k24 24 w25 w.heap.size (fun k_ => k_ ≠ gb242) (.slice (some ⟨go19, 0, none⟩) x5_1.length co22) y255 from (by (with_reducible repeat (first | apply Kd.R_alloc | apply Kd.R_drewN | apply Kd.R_drew)); exact HO_5.out)); obtain ⟨ce27, hcl27, hM27, hcc27, hfr27⟩ := Kd.R_elem HX27.out z24 ((ji12) : Int) (of_decide_eq_true (by first | (with_reducible assumption) | assumption)) (by have h_ : ((ji12) : Int) < ((x5_1.length : Int) : Int) := of_decide_eq_true (by first | (with_reducible assumption) | assumption); first | exact h_ | (have e_ := (Kd.R_reads' HO_5.out).1; omega) | simpa using h_); obtain rfl := k24_openM hM27; have HP27 := Kd.R_seg HX27.out ((ji12) : Int) (of_decide_eq_true (by first | (with_reducible assumption) | assumption)) (by have h_ : ((ji12) : Int) < ((x5_1.length : Int) : Int) := of_decide_eq_true (by first | (with_reducible assumption) | assumption); first | exact h_ | (have e_ := (Kd.R_reads' HO_5.out).1; omega) | simpa using h_) (seg := [.int .i64 x243000_1, .int .i64 x243001_1]) (j := 0) hcl27 hcc27 (show 2 ≤ 2 from by decide) (x' := (⟨x243000_1, x243001_1⟩ : S24)) (k24_mkM _ _ _ (⟨x243000_1, x243001_1⟩ : S24) ) (fun _ hk => hk); have hx27_0 := hcc27 0 _ rfl; (try simp only [show (k24).sz = 2 from rfl, Nat.mul_one, Nat.add_zero] at hx27_0); have hf27_0 := hfr27 0; (try simp only [show (k24).sz = 2 from rfl, Nat.mul_one, Nat.add_zero] at hf27_0); have hx27_1 := hcc27 1 _ rfl; (try simp only [show (k24).sz = 2 from rfl, Nat.mul_one, Nat.add_zero] at hx27_1); have hf27_1 := hfr27 1; (try simp only [show (k24).sz = 2 from rfl, Nat.mul_one, Nat.add_zero] at hf27_1); clear hcl27 hcc27 hfr27 hM27) | ((with_reducible refine gate_store (t := 24) (p := 41) rfl ?_); refine store_event (t := 24) (p := 41) (v := ?vo_w28) (w1 := ((w25.setCell ⟨go19, ((ji12) : Int).toNat * 2, none⟩ (.int .i64 x243000_1)).setCell ⟨go19, ((ji12) : Int).toNat * 2 + 1, none⟩ (.int .i64 x243001_1))) ?hg ?ho ?hn ?hr ?_; (case ho => rfl); (case hg => rfl); (case hn => rfl); (case hr => first | (go_simp; done) | (go_simp; rfl)); intro w28 hw; have hg : w25.grownBy w28 (some go19) := (by rw [hw]; exact HP27.2); have hp_ : Kd.R k24 24 w28 w.heap.size (fun k_ => k_ ≠ gb242) (.slice (some ⟨go19, 0, none⟩) x5_1.length co22) y256 := (by rw [hw, Ny256.out]; exact HP27.1); clear HP27; have n0_ := Aside0.mk (hp_); have n1_ := Aside0.mk (blk_grown (g := gb242) (o := .cells #[.int .i64 x243000_1, .int .i64 x243001_1] 24 (0, 0)) (by (with_reducible repeat (first | refine blk_drewN ?_ _ | refine blk_drew ?_ | refine blk_alloc ?_ _)); exact BK242.out) hg (Kd.R_away HO_5.out (fun _ hk => hk))); have n2_ := Aside0.mk ((by rw [hw]; exact below_set (below_set (HB.out) GB19.out) GB19.out : Below w.heap.size w w28)); clear HO_5; clear BK242; clear HB; have HO_5 := n0_; have BK242 := n1_; have HB := n2_; clear n0_ n1_ n2_; clear hg hw hp_))
                      go_roundg k1
                      case measure => have := HK1.out; omega
                      case rel => exact ⟨(y256), (ji12), (x243000_1), (x243001_1), (by first | rfl | (simp; done) | (simp only [← hji12] <;> (first | rfl | simp)) | (simp [*]; done)), H', ⟨by have := HK1.out; omega⟩, ⟨by (with_reducible repeat (first | apply Kd.R_alloc | apply Kd.R_drewN | apply Kd.R_drew)); exact HO_5.out⟩, ⟨by (with_reducible repeat (first | refine blk_drewN ?_ _ | refine blk_drew ?_ | refine blk_alloc ?_ _)); exact BK242.out⟩, ⟨by repeat (first | (with_reducible first | exact HB.out | apply below_alloc | apply pw_below_drewN | apply below_drew1 | refine below_set ?_ GE242.out) | exact HB.out)⟩⟩
                    · rw [if_neg c18] at H
                      exact absurd H (by simp)
                  · rw [if_neg c17] at H
                    exact absurd H (by simp)
                · replace c16 := Bool.eq_false_iff.mpr c16
                  subst c16
                  have H1 : (some x5_1) = some r := by rw [if_neg (show ¬ (false = true) by decide)] at H; exact H
                  clear H
                  have H := H1
                  clear H1
                  obtain rfl := Option.some.inj H
                  try go_wp2
                  have n0_ := Aside0.mk (Kd.R_drew HO_5.out)
                  have n1_ := Aside0.mk (blk_drew BK242.out)
                  have n2_ := Aside0.mk (below_drew1 HB.out)
                  clear HO_5
                  clear BK242
                  clear HB
                  have HO_5 := n0_
                  have BK242 := n1_
                  have HB := n2_
                  clear n0_ n1_ n2_
                  obtain ⟨Ao30, co30, eo30⟩ := Kd.R_slice HO_5.out
                  (first | subst eo30 | (injection eo30 with f1_ f2_ f3_; have f4_ := f1_.symm; have f5_ := f3_.symm; clear f1_ f2_ f3_; subst f4_; subst f5_))
                  have p252 : 0 ≤ ((ji12) : Int) := of_decide_eq_true (by first | (with_reducible assumption) | assumption)
                  have q252 : (ji12) < (x5_1.length : Int) := of_decide_eq_true (by first | (with_reducible assumption) | assumption)
                  obtain ⟨ad252, e252, hx252_0, hx252_1⟩ := at_T24 (Kd.R_reads' HO_5.out).2.2 (ji12) p252 q252
                  cases e252
                  replace p252 := eq_true p252
                  replace q252 := eq_true q252
                  refine start_ (n := 7) (S := fun w' => w'.cell? ⟨gb242, 0, none⟩ = some (.int .i64 x243000_1) ∧ w'.cell? ⟨gb242, 1, none⟩ = some (.int .i64 x243001_1) ∧ w'.cell? (ad252.add (((ji12)).toNat * 2)) = some (.int .i64 ((rd_T24 x5_1 (ji12)).f0)) ∧ w'.cell? ⟨(ad252.add (((ji12)).toNat * 2)).block, (ad252.add (((ji12)).toNat * 2)).off + 1, none⟩ = some (.int .i64 ((rd_T24 x5_1 (ji12)).f1))) (ds := []) #[false, false, false, false, false, false, false] (by kernel_rfl) rfl rfl ⟨(blk_cell BK242.out 0).trans rfl, (blk_cell BK242.out 1).trans rfl, hx252_0, hx252_1⟩ (fun hHeld => ?_)
                  generalize wr.drew = w29 at HO_5 BK242 HB hx252_0 hx252_1 hHeld ⊢
                  refine pure_ (i := 1) (N := some 24) (v := ?_) (a' := ?_) #[false, true, false, false, false, false, false] rfl rfl (by kernel_rfl) (fun _ _ _ h => h) (Or.inl ⟨by rfl, ?_⟩) ?_ ?_
                  rotate_left
                  · intro w'
                    go_simp
                    with_reducible rfl
                  rotate_left
                  · simp only [Act.put, List.setIfInBounds_toArray, List.set_cons_zero, List.set_cons_succ, i64_w, i32_w]
                    rfl
                  refine pure_ (i := 2) (N := some 25) (v := ?_) (a' := ?_) #[false, true, true, false, false, false, false] rfl rfl (by kernel_rfl) (fun _ _ _ h => h) (Or.inl ⟨by rfl, ?_⟩) ?_ ?_
                  rotate_left
                  · intro w'
                    go_simp
                    with_reducible rfl
                  rotate_left
                  · simp only [Act.put, List.setIfInBounds_toArray, List.set_cons_zero, List.set_cons_succ, i64_w, i32_w]
                    rfl
                  refine pure_ (i := 3) (N := some 26) (v := ?_) (a' := ?_) #[false, true, true, true, false, false, false] rfl rfl (by kernel_rfl) (fun _ _ _ h => h) (Or.inl ⟨by rfl, ?_⟩) ?_ ?_
                  rotate_left
                  · intro w'
                    go_simp
                    with_reducible rfl
                  rotate_left
                  · simp only [Act.put, List.setIfInBounds_toArray, List.set_cons_zero, List.set_cons_succ, i64_w, i32_w]
                    rfl
                  refine take_ (i := 0) (N := some 23) (v := ?_) (a' := ?_) #[true, true, true, true, false, false, false] rfl rfl (by kernel_rfl) (fun _ _ _ h => h) (Or.inl ⟨by rfl, ?_⟩) hHeld ?_ ?_
                  rotate_left
                  · rintro w' ⟨s0, s1, s2, s3⟩
                    (try simp only [add_plain] at s0 s1 s2 s3)
                    go_simp
                    with_reducible rfl
                  rotate_left
                  · simp only [Act.put, List.setIfInBounds_toArray, List.set_cons_zero, List.set_cons_succ, i64_w, i32_w]
                    rfl
                  refine take_ (i := 4) (N := some 27) (v := ?_) (a' := ?_) #[true, true, true, true, true, false, false] rfl rfl (by kernel_rfl) (fun _ _ _ h => h) (Or.inl ⟨by rfl, ?_⟩) hHeld ?_ ?_
                  rotate_left
                  · rintro w' ⟨s0, s1, s2, s3⟩
                    (try simp only [add_plain] at s0 s1 s2 s3)
                    go_simp
                    with_reducible rfl
                  rotate_left
                  · simp only [Act.put, List.setIfInBounds_toArray, List.set_cons_zero, List.set_cons_succ, i64_w, i32_w]
                    rfl
                  refine one_ (i := 5) (N := some 28) #[true, true, true, true, true, true, false] rfl rfl (by kernel_rfl) (by decide) (fun K hK => ?_)
                  refine goes_ Try.func14 (by kernel_rfl) rfl #[.agg #[.int .i64 x243000_1, .int .i64 x243001_1], .agg #[.int .i64 ((rd_T24 x5_1 (ji12)).f0), .int .i64 ((rd_T24 x5_1 (ji12)).f1)]] (by rfl) rfl rfl (by (try simp only [List.map_toArray, List.map_cons, List.map_nil]); first | done | (simp only [hji12]; rfl) | rfl | (simp only [List.length_drop, List.length_take]; rfl)) ?_
                  with_reducible refine (stolonref12_Less.calls x243000_1 x243001_1 ((rd_T24 x5_1 (ji12)).f0) ((rd_T24 x5_1 (ji12)).f1) false _ A15.out).mono ?_
                  rintro e w31 ⟨rfl, hb⟩
                  have HS2_ := (hb.cell (World.block_lt_of_cell? _ _ (hHeld.2.2.1))).trans (hHeld.2.2.1)
                  have HS3_ := (hb.cell (World.block_lt_of_cell? _ _ (hHeld.2.2.2))).trans (hHeld.2.2.2)
                  refine ⟨_, rfl, ?_⟩
                  have n0_ := Aside0.mk (Kd.R_below (by (with_reducible repeat (first | apply Kd.R_alloc | apply Kd.R_drewN | apply Kd.R_drew)); exact HO_5.out) hb)
                  have n1_ := Aside0.mk (blk_below (g := gb242) (o := .cells #[.int .i64 x243000_1, .int .i64 x243001_1] 24 (0, 0)) (by (with_reducible repeat (first | refine blk_drewN ?_ _ | refine blk_drew ?_ | refine blk_alloc ?_ _)); exact BK242.out) hb)
                  have n2_ := Aside0.mk (below_step (by repeat (first | (with_reducible first | exact HB.out | apply below_alloc | apply pw_below_drewN | apply below_drew1 | refine below_set ?_ GE242.out) | exact HB.out)) hb)
                  clear HO_5
                  clear BK242
                  clear HB
                  have HO_5 := n0_
                  have BK242 := n1_
                  have HB := n2_
                  clear n0_ n1_ n2_
                  (try clear hb)
                  (try clear hb2)
                  (try clear hk)
                  (try clear hi)
                  refine hK.out _ _ ⟨(blk_cell BK242.out 0).trans rfl, (blk_cell BK242.out 1).trans rfl, HS2_, HS3_⟩ (fun hHeld => ?_)
                  clear hK K
                  refine norm_ (a' := ?_) ?_ ?_
                  rotate_left
                  · show Act.put _ (some 28) _ = _
                    simp only [Act.put, List.setIfInBounds_toArray, List.set_cons_zero, List.set_cons_succ, i64_w, i32_w]
                    rfl
                  refine pure_ (i := 6) (N := some 8) (v := ?_) (a' := ?_) #[true, true, true, true, true, true, true] rfl rfl (by kernel_rfl) (fun _ _ _ h => h) (Or.inl ⟨by rfl, ?_⟩) ?_ ?_
                  rotate_left
                  · intro w'
                    go_simp
                    with_reducible rfl
                  rotate_left
                  · simp only [Act.put, List.setIfInBounds_toArray, List.set_cons_zero, List.set_cons_succ, i64_w, i32_w]
                    rfl
                  refine done_ (by kernel_rfl) ?_
                  try go_wp2
                  go_ret
                  exact ⟨_, by first | rfl | (simp [errW_none, errW_some] <;> rfl) | (simp only [← hji12]; first | rfl | (simp [errW_none, errW_some] <;> rfl)) | (simp [*, errW_none, errW_some] <;> rfl), by (with_reducible repeat (first | apply Kd.R_alloc | apply Kd.R_drewN | apply Kd.R_drew)); exact Kd.R_mono HO_5.out (fun _ hk => trivial), by repeat (first | (with_reducible first | exact HB.out | apply below_alloc | apply pw_below_drewN | apply below_drew1 | refine below_set ?_ GE242.out) | exact HB.out)⟩
              · rw [if_neg c14] at H
                exact absurd H (by simp)
            · rw [if_neg c13] at H
              exact absurd H (by simp)
          · rw [if_neg c11] at H
            have c11b0 : decide (0 < x6_1) = false := decide_eq_false c11
            clear c11
            obtain rfl := Option.some.inj H
            go_wp2
            go_ret
            exact ⟨_, by first | rfl | (simp [errW_none, errW_some] <;> rfl) | (simp [*, errW_none, errW_some] <;> rfl), by (with_reducible repeat (first | apply Kd.R_alloc | apply Kd.R_drewN | apply Kd.R_drew)); exact Kd.R_mono HO_5.out (fun _ hk => trivial), by repeat (first | (with_reducible first | exact HB.out | apply below_alloc | apply pw_below_drewN | apply below_drew1 | refine below_set ?_ GE242.out) | exact HB.out)⟩
    · rw [if_neg c4] at H
      exact absurd H (by simp)
  · rw [if_neg c3] at H
    exact absurd H (by simp)

end Go.Proofs.Ytlihbdinghoeeab.P

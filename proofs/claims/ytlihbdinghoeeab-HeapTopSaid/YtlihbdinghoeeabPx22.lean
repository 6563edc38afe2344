/- For each Go function a Lean function, and the proof that a call comes to what it tells: made by program out of the translation (the kit's print, with texts by hand put in). No condition. -/
import Derived.Test.YtlihbdinghoeeabPx0
import Derived.Test.YtlihbdinghoeeabPx11
namespace Go.Proofs.Ytlihbdinghoeeab.P
open Go.RowKit Go.Proofs.Ytlihbdinghoeeab.HRows Go.Proofs.YtlihbdinghoeeabW.PrintWords Go.Proofs.YtlihbdinghoeeabW.PrintLast Go.Proofs.YtlihbdinghoeeabW.PrintMore
attribute [local go_sem] max2_int min2_int max_two min_two max_three min_three max_four min_four   -- for this text's walks alone
set_option linter.unusedVariables false
set_option linter.unusedSimpArgs false

/-! ### stolonref12_Pop: function 21 -/
mutual
def stolonref12_Pop.l0 : Nat → List (S24) → Int → List (S24) → Int → Int → Int → Option ((List (S24)) × Int × Int × Bool)
  | 0, _, _, _, _, _, _ => none
  | k + 1, x0, x5, x6, x8, x318000, x318001 => if (wrap64 ((wrap64 (2 * x8)) + 1)) < x5 then (if (wrap64 ((wrap64 ((wrap64 (2 * x8)) + 1)) + 1)) < x5 then (if 0 ≤ (wrap64 ((wrap64 ((wrap64 (2 * x8)) + 1)) + 1)) then (if (wrap64 ((wrap64 ((wrap64 (2 * x8)) + 1)) + 1)) < (x6.length : Int) then (if 0 ≤ (wrap64 ((wrap64 (2 * x8)) + 1)) then (if (wrap64 ((wrap64 (2 * x8)) + 1)) < (x6.length : Int) then ((stolonref12_Less.f ((rd_T24 x6 (wrap64 ((wrap64 ((wrap64 (2 * x8)) + 1)) + 1))).f0) ((rd_T24 x6 (wrap64 ((wrap64 ((wrap64 (2 * x8)) + 1)) + 1))).f1) ((rd_T24 x6 (wrap64 ((wrap64 (2 * x8)) + 1))).f0) ((rd_T24 x6 (wrap64 ((wrap64 (2 * x8)) + 1))).f1)).bind fun t322 => (stolonref12_Pop.j1 k x0 x5 x6 x8 (wrap64 ((wrap64 (2 * x8)) + 1)) t322 x318000 x318001)) else (none)) else (none)) else (none)) else (none)) else (stolonref12_Pop.j1 k x0 x5 x6 x8 (wrap64 ((wrap64 (2 * x8)) + 1)) false x318000 x318001)) else (if 0 < (x0.length : Int) then (some (x6, (rd_T24 x0 0).f0, (rd_T24 x0 0).f1, true)) else (none))
def stolonref12_Pop.j1 : Nat → List (S24) → Int → List (S24) → Int → Int → Bool → Int → Int → Option ((List (S24)) × Int × Int × Bool)
  | 0, _, _, _, _, _, _, _, _ => none
  | k + 1, x0, x5, x6, x8, x9, x59, x318000, x318001 => if x59 = true then (if 0 ≤ (wrap64 (x9 + 1)) then (if (wrap64 (x9 + 1)) < (x6.length : Int) then ((stolonref12_Less.f ((rd_T24 x6 (wrap64 (x9 + 1))).f0) ((rd_T24 x6 (wrap64 (x9 + 1))).f1) x318000 x318001).bind fun t324 => (if t324 = true then (if 0 ≤ x8 then (if x8 < (x6.length : Int) then (stolonref12_Pop.l0 k x0 x5 ((x6.set (x8 : Int).toNat (⟨(rd_T24 x6 (wrap64 (x9 + 1))).f0, (rd_T24 x6 (wrap64 (x9 + 1))).f1⟩ : S24)).set ((wrap64 (x9 + 1)) : Int).toNat (⟨x318000, x318001⟩ : S24)) (wrap64 (x9 + 1)) x318000 x318001) else (none)) else (none)) else (if 0 < (x0.length : Int) then (some (x6, (rd_T24 x0 0).f0, (rd_T24 x0 0).f1, true)) else (none)))) else (none)) else (none)) else (if 0 ≤ x9 then (if x9 < (x6.length : Int) then ((stolonref12_Less.f ((rd_T24 x6 x9).f0) ((rd_T24 x6 x9).f1) x318000 x318001).bind fun t330 => (if t330 = true then (if 0 ≤ x8 then (if x8 < (x6.length : Int) then (stolonref12_Pop.l0 k x0 x5 ((x6.set (x8 : Int).toNat (⟨(rd_T24 x6 x9).f0, (rd_T24 x6 x9).f1⟩ : S24)).set (x9 : Int).toNat (⟨x318000, x318001⟩ : S24)) x9 x318000 x318001) else (none)) else (none)) else (if 0 < (x0.length : Int) then (some (x6, (rd_T24 x0 0).f0, (rd_T24 x0 0).f1, true)) else (none)))) else (none)) else (none))
end
def stolonref12_Pop.f (k : Nat) (l0 : List (S24)) : Option ((List (S24)) × Int × Int × Bool) := if (l0.length : Int) = 0 then (some (([] : List (S24)), 0, 0, false)) else ((some (([] : List (S24)) : List (S24))).bind fun y305 => (if 0 ≤ (wrap64 ((l0.length : Int) - 1)) then (if (wrap64 ((l0.length : Int) - 1)) ≤ (l0.length : Int) then ((some (l0.take ((wrap64 ((l0.length : Int) - 1)) : Int).toNat : List (S24))).bind fun y308 => (if y305.length + y308.length < 8796093022208 then ((some (y305 ++ y308 : List (S24))).bind fun y312 => (if (wrap64 ((l0.length : Int) - 1)) = 0 then (if 0 < (l0.length : Int) then (some (y312, (rd_T24 l0 0).f0, (rd_T24 l0 0).f1, true)) else (none)) else (if (wrap64 ((l0.length : Int) - 1)) < (l0.length : Int) then (if 0 < (y312.length : Int) then (stolonref12_Pop.l0 k l0 (wrap64 ((l0.length : Int) - 1)) (y312.set (0 : Int).toNat (⟨(rd_T24 l0 (wrap64 ((l0.length : Int) - 1))).f0, (rd_T24 l0 (wrap64 ((l0.length : Int) - 1))).f1⟩ : S24)) 0 ((rd_T24 l0 (wrap64 ((l0.length : Int) - 1))).f0) ((rd_T24 l0 (wrap64 ((l0.length : Int) - 1))).f1)) else (none)) else (none)))) else (none))) else (none)) else (none)))
theorem stolonref12_Pop.mono_l : ∀ k, (∀ y0 y1 y2 y3 y4 y5, LeO (stolonref12_Pop.l0 k y0 y1 y2 y3 y4 y5) (stolonref12_Pop.l0 (k + 1) y0 y1 y2 y3 y4 y5)) ∧ (∀ y0 y1 y2 y3 y4 y5 y6 y7, LeO (stolonref12_Pop.j1 k y0 y1 y2 y3 y4 y5 y6 y7) (stolonref12_Pop.j1 (k + 1) y0 y1 y2 y3 y4 y5 y6 y7))
  | 0 => ⟨fun _ _ _ _ _ _ r h => by simp [stolonref12_Pop.l0] at h, fun _ _ _ _ _ _ _ _ r h => by simp [stolonref12_Pop.j1] at h⟩
  | k + 1 => by
    obtain ⟨ih0, ih1⟩ := stolonref12_Pop.mono_l k
    refine ⟨?_, ?_⟩
    · intro y0 y1 y2 y3 y4 y5
      unfold stolonref12_Pop.l0
      repeat' first
      | (with_reducible exact ih0 _ _ _ _ _ _)
      | (with_reducible exact ih1 _ _ _ _ _ _ _ _)
      | (with_reducible exact LeO.refl _)
      | (with_reducible exact LeO.none _)
      | (with_reducible refine LeO.ite ?_ ?_)
      | (with_reducible refine LeO.bind ?_ (fun _ => ?_))
      | exact ih0 _ _ _ _ _ _
      | exact ih1 _ _ _ _ _ _ _ _
      | exact LeO.none _
      | refine LeO.ite ?_ ?_
      | refine LeO.bind ?_ (fun _ => ?_)
    · intro y0 y1 y2 y3 y4 y5 y6 y7
      unfold stolonref12_Pop.j1
      repeat' first
      | (with_reducible exact ih0 _ _ _ _ _ _)
      | (with_reducible exact ih1 _ _ _ _ _ _ _ _)
      | (with_reducible exact LeO.refl _)
      | (with_reducible exact LeO.none _)
      | (with_reducible refine LeO.ite ?_ ?_)
      | (with_reducible refine LeO.bind ?_ (fun _ => ?_))
      | exact ih0 _ _ _ _ _ _
      | exact ih1 _ _ _ _ _ _ _ _
      | exact LeO.none _
      | refine LeO.ite ?_ ?_
      | refine LeO.bind ?_ (fun _ => ?_)
theorem stolonref12_Pop.mono : ∀ a0 k, LeO (stolonref12_Pop.f k a0) (stolonref12_Pop.f (k + 1) a0) := by
  intro a0 k
  obtain ⟨ih0, ih1⟩ := stolonref12_Pop.mono_l k
  unfold stolonref12_Pop.f
  repeat' first
      | (with_reducible exact ih0 _ _ _ _ _ _)
      | (with_reducible exact ih1 _ _ _ _ _ _ _ _)
      | (with_reducible exact LeO.refl _)
      | (with_reducible exact LeO.none _)
      | (with_reducible refine LeO.ite ?_ ?_)
      | (with_reducible refine LeO.bind ?_ (fun _ => ?_))
      | exact ih0 _ _ _ _ _ _
      | exact ih1 _ _ _ _ _ _ _ _
      | exact LeO.none _
      | refine LeO.ite ?_ ?_
      | refine LeO.bind ?_ (fun _ => ?_)
def stolonref12_Pop.T12 : Bool × List (List Nat × List Nat) := (true, [([], []), ([0], [0]), ([], []), ([1, 2], [1, 2]), ([3], [3]), ([4], [4]), ([4], [4]), ([6, 4], [4, 6]), ([5, 7, 4], [4, 5, 7]), ([8, 4], [4, 8]), ([4], [4]), ([4], [4]), ([10, 11, 4], [4, 10, 11]), ([12, 4], [4, 12]), ([9, 13, 4, 4], [4, 9, 13]), ([4, 14], [4, 14])])
def stolonref12_Pop.B12 : List Nat := [0, 1, 0, 7, 15, 31, 31, 95, 255, 511, 31, 31, 3103, 7199, 16383, 32767]
theorem stolonref12_Pop.tab12 : rtab .any (opsOf Try.f21 12) = stolonref12_Pop.T12 := by kernel_rfl
theorem stolonref12_Pop.bits12 : waitsOk stolonref12_Pop.T12.2 stolonref12_Pop.B12 = true := by kernel_rfl
set_option maxHeartbeats 8000000 in
set_option maxRecDepth 100000 in
theorem stolonref12_Pop.calls (k : Nat) (A0 : Option Addr) (c0 : Nat) (l0 : List (S24)) (r1 : List (S24)) (r2 : Int) (r3 : Int) (r4 : Bool) (w : World) (hr0 : Kd.C k24 w A0 l0.length l0) (hc0 : l0.length ≤ c0) (h : stolonref12_Pop.f k l0 = some (r1, r2, r3, r4)) :
    Calls Try.prog 21 #[.slice A0 l0.length c0] w fun e w' => ∃ v0_ : Value, e = .returned (.tuple #[v0_, .agg #[.int .i64 r2, .int .i64 r3], .bool r4]) ∧ Kd.R k24 24 w' w.heap.size (fun _ => True) v0_ r1 ∧ Below w.heap.size w w' := by
  have hu24 := Try.underlying24
  have HR0 := Aside0.mk hr0
  have HC0 := Aside0.mk hc0
  clear hr0 hc0
  have HB := Aside0.mk (Below.refl w.heap.size w)
  have H : (if (l0.length : Int) = 0 then (some (([] : List (S24)), 0, 0, false)) else ((some (([] : List (S24)) : List (S24))).bind fun y305 => (if 0 ≤ (wrap64 ((l0.length : Int) - 1)) then (if (wrap64 ((l0.length : Int) - 1)) ≤ (l0.length : Int) then ((some (l0.take ((wrap64 ((l0.length : Int) - 1)) : Int).toNat : List (S24))).bind fun y308 => (if y305.length + y308.length < 8796093022208 then ((some (y305 ++ y308 : List (S24))).bind fun y312 => (if (wrap64 ((l0.length : Int) - 1)) = 0 then (if 0 < (l0.length : Int) then (some (y312, (rd_T24 l0 0).f0, (rd_T24 l0 0).f1, true)) else (none)) else (if (wrap64 ((l0.length : Int) - 1)) < (l0.length : Int) then (if 0 < (y312.length : Int) then (stolonref12_Pop.l0 k l0 (wrap64 ((l0.length : Int) - 1)) (y312.set (0 : Int).toNat (⟨(rd_T24 l0 (wrap64 ((l0.length : Int) - 1))).f0, (rd_T24 l0 (wrap64 ((l0.length : Int) - 1))).f1⟩ : S24)) 0 ((rd_T24 l0 (wrap64 ((l0.length : Int) - 1))).f0) ((rd_T24 l0 (wrap64 ((l0.length : Int) - 1))).f1)) else (none)) else (none)))) else (none))) else (none)) else (none)))) = some (r1, r2, r3, r4) := h
  clear h
  by_cases c2 : (l0.length : Int) = 0
  · rw [if_pos c2] at H
    have c2b0 : ((l0.length : Int) == 0) = true := beq_iff_eq.mpr c2
    have c2b1 : ((l0.length : Int) != 0) = false := bne_eq_false_iff_eq.mpr c2
    clear c2
    simp only [Option.some.injEq, Prod.mk.injEq] at H
    obtain ⟨rfl, rfl, rfl, rfl⟩ := H
    go_enter Try.func21, Try.ntmps21
    go_wp2_with (first | ((with_reducible refine gate_dst (N := 3) rfl ?_); refine box_event ?hg (N := 3) ?hd (cs := #[.int .i64 0, .int .i64 0]) (t := 24) ?hr ?_; (case hd => rfl); (case hg => rfl); (case hr => first | (go_simp; done) | (go_simp; rfl)); intro gb304 hg w3 hbox hb; have n0_ := Aside0.mk (below_step (by repeat (first | (with_reducible first | exact HB.out | apply below_alloc | apply pw_below_drewN | apply below_drew1) | exact HB.out)) hb); have n1_ := Aside0.mk (hbox); have n2_ := Aside0.mk ((by rw [hg]; exact (below_size (by repeat (first | (with_reducible first | exact HB.out | apply below_alloc | apply pw_below_drewN | apply below_drew1) | exact HB.out))) : w.heap.size ≤ gb304)); have n3_ := Aside0.mk ((by rw [hg]; exact (below_size (by repeat (first | (with_reducible first | exact HB.out | apply below_alloc | apply pw_below_drewN | apply below_drew1) | exact HB.out))) : w.heap.size ≤ gb304)); clear HB; have HB := n0_; have BK304 := n1_; have GW304 := n2_; have GE304 := n3_; clear n0_ n1_ n2_ n3_; clear hb hbox hg; have hcz4_0 : w3.cell? ⟨gb304, 0, none⟩ = some (.int .i64 0) := (blk_cell BK304.out 0).trans rfl; have hcz4_1 : w3.cell? ⟨gb304, 1, none⟩ = some (.int .i64 0) := (blk_cell BK304.out 1).trans rfl; have hfz4_0 := blk_frozen BK304.out 0; have hfz4_1 := blk_frozen BK304.out 1))
    refine bodyPost_ret (results_list (rs := [.tmp 2, .cell 3 24, .tmp 4]) rfl (by simp) (.tmp (.cell gb304 24 #[.int .i64 0, .int .i64 0] (0, 0) _ rfl (by (with_reducible repeat (first | refine blk_drewN ?_ _ | refine blk_drew ?_ | refine blk_alloc ?_ _)); refine blk_put (cs := #[.int .i64 0, .int .i64 0]) ?_ 1 _ rfl; (with_reducible repeat (first | refine blk_drewN ?_ _ | refine blk_drew ?_ | refine blk_alloc ?_ _)); refine blk_put (cs := #[.int .i64 0, .int .i64 0]) ?_ 0 _ rfl; (with_reducible repeat (first | refine blk_drewN ?_ _ | refine blk_drew ?_ | refine blk_alloc ?_ _)); exact BK304.out) Try.underlying24 rfl (by kernel_rfl) (.tmp .nil)))) rfl ?_
    exact ⟨_, by first | rfl | (simp [errW_none, errW_some] <;> rfl) | (simp [*, errW_none, errW_some] <;> rfl), by first | exact Kd.R_nil _ _ _ _ _ | exact Kd.N_nil _ _ _ _ _ | exact Kd.V_nil _ _ _ _ _ | exact Kd.Q_nil _ _ _ _ _ | exact Kd.S_nil _ _ _ _ _, by repeat (first | (with_reducible first | exact HB.out | apply below_alloc | apply pw_below_drewN | apply below_drew1 | refine below_set ?_ GE304.out) | exact HB.out)⟩
  · rw [if_neg c2] at H
    have c2b0 : ((l0.length : Int) == 0) = false := beq_eq_false_iff_ne.mpr c2
    have c2b1 : ((l0.length : Int) != 0) = true := bne_iff_ne.mpr c2
    have c2b2 : ¬ (l0 = []) := fun h_ => c2 (by rw [h_]; rfl)
    obtain ⟨y305, hy305⟩ : ∃ y_ : List (S24), y_ = (([] : List (S24))) := ⟨_, rfl⟩
    replace H : (if 0 ≤ (wrap64 ((l0.length : Int) - 1)) then (if (wrap64 ((l0.length : Int) - 1)) ≤ (l0.length : Int) then ((some (l0.take ((wrap64 ((l0.length : Int) - 1)) : Int).toNat : List (S24))).bind fun y308 => (if y305.length + y308.length < 8796093022208 then ((some (y305 ++ y308 : List (S24))).bind fun y312 => (if (wrap64 ((l0.length : Int) - 1)) = 0 then (if 0 < (l0.length : Int) then (some (y312, (rd_T24 l0 0).f0, (rd_T24 l0 0).f1, true)) else (none)) else (if (wrap64 ((l0.length : Int) - 1)) < (l0.length : Int) then (if 0 < (y312.length : Int) then (stolonref12_Pop.l0 k l0 (wrap64 ((l0.length : Int) - 1)) (y312.set (0 : Int).toNat (⟨(rd_T24 l0 (wrap64 ((l0.length : Int) - 1))).f0, (rd_T24 l0 (wrap64 ((l0.length : Int) - 1))).f1⟩ : S24)) 0 ((rd_T24 l0 (wrap64 ((l0.length : Int) - 1))).f0) ((rd_T24 l0 (wrap64 ((l0.length : Int) - 1))).f1)) else (none)) else (none)))) else (none))) else (none)) else (none)) = some (r1, r2, r3, r4) := by first | (rw [hy305]; with_reducible exact H) | (have H2_ := (Option.bind_some _ _).symm.trans H; rw [hy305]; with_reducible exact H2_) | (have H2_ := (Option.bind_some _ _).symm.trans H; with_reducible exact H2_) | with_reducible exact H | (rw [hy305]; exact H) | exact H
    have Ny305 := Aside0.mk hy305
    clear hy305
    obtain ⟨ji5, hji5⟩ : ∃ j_ : Int, (wrap64 ((l0.length : Int) - 1)) = j_ := ⟨_, rfl⟩
    replace H : (if 0 ≤ (ji5) then (if (ji5) ≤ (l0.length : Int) then ((some (l0.take ((ji5) : Int).toNat : List (S24))).bind fun y308 => (if y305.length + y308.length < 8796093022208 then ((some (y305 ++ y308 : List (S24))).bind fun y312 => (if (ji5) = 0 then (if 0 < (l0.length : Int) then (some (y312, (rd_T24 l0 0).f0, (rd_T24 l0 0).f1, true)) else (none)) else (if (ji5) < (l0.length : Int) then (if 0 < (y312.length : Int) then (stolonref12_Pop.l0 k l0 ji5 (y312.set (0 : Int).toNat (⟨(rd_T24 l0 (ji5)).f0, (rd_T24 l0 (ji5)).f1⟩ : S24)) 0 ((rd_T24 l0 (ji5)).f0) ((rd_T24 l0 (ji5)).f1)) else (none)) else (none)))) else (none))) else (none)) else (none)) = some (r1, r2, r3, r4) := by first | (rw [hji5] at H; exact H) | (simp only [hji5] at H ⊢; exact H)
    have hji5w : (IntKind.i64.wrap ((l0.length : Int) - 1)) = ji5 := (i64_w _).trans hji5
    by_cases c6 : 0 ≤ (ji5)
    · rw [if_pos c6] at H
      have c6b0 := eq_true c6
      have c6b1 : decide (0 ≤ (ji5)) = true := decide_eq_true c6
      clear c6
      by_cases c7 : (ji5) ≤ (l0.length : Int)
      · rw [if_pos c7] at H
        have c7b0 := eq_true c7
        have c7b1 : decide ((ji5) ≤ (l0.length : Int)) = true := decide_eq_true c7
        clear c7
        obtain ⟨y308, hy308⟩ : ∃ y_ : List (S24), y_ = (l0.take ((ji5) : Int).toNat) := ⟨_, rfl⟩
        replace H : (if y305.length + y308.length < 8796093022208 then ((some (y305 ++ y308 : List (S24))).bind fun y312 => (if (ji5) = 0 then (if 0 < (l0.length : Int) then (some (y312, (rd_T24 l0 0).f0, (rd_T24 l0 0).f1, true)) else (none)) else (if (ji5) < (l0.length : Int) then (if 0 < (y312.length : Int) then (stolonref12_Pop.l0 k l0 ji5 (y312.set (0 : Int).toNat (⟨(rd_T24 l0 (ji5)).f0, (rd_T24 l0 (ji5)).f1⟩ : S24)) 0 ((rd_T24 l0 (ji5)).f0) ((rd_T24 l0 (ji5)).f1)) else (none)) else (none)))) else (none)) = some (r1, r2, r3, r4) := by first | (rw [hy308]; with_reducible exact H) | (have H2_ := (Option.bind_some _ _).symm.trans H; rw [hy308]; with_reducible exact H2_) | (have H2_ := (Option.bind_some _ _).symm.trans H; with_reducible exact H2_) | with_reducible exact H | (rw [hy308]; exact H) | exact H
        have Ny308 := Aside0.mk hy308
        clear hy308
        by_cases c8 : y305.length + y308.length < 8796093022208
        · rw [if_pos c8] at H
          have LMc8 := Aside0.mk c8
          clear c8
          obtain ⟨y312, hy312⟩ : ∃ y_ : List (S24), y_ = (y305 ++ y308) := ⟨_, rfl⟩
          replace H : (if (ji5) = 0 then (if 0 < (l0.length : Int) then (some (y312, (rd_T24 l0 0).f0, (rd_T24 l0 0).f1, true)) else (none)) else (if (ji5) < (l0.length : Int) then (if 0 < (y312.length : Int) then (stolonref12_Pop.l0 k l0 ji5 (y312.set (0 : Int).toNat (⟨(rd_T24 l0 (ji5)).f0, (rd_T24 l0 (ji5)).f1⟩ : S24)) 0 ((rd_T24 l0 (ji5)).f0) ((rd_T24 l0 (ji5)).f1)) else (none)) else (none))) = some (r1, r2, r3, r4) := by first | (rw [hy312]; with_reducible exact H) | (have H2_ := (Option.bind_some _ _).symm.trans H; rw [hy312]; with_reducible exact H2_) | (have H2_ := (Option.bind_some _ _).symm.trans H; with_reducible exact H2_) | with_reducible exact H | (rw [hy312]; exact H) | exact H
          have Ny312 := Aside0.mk hy312
          clear hy312
          by_cases c9 : (ji5) = 0
          · rw [if_pos c9] at H
            have c9b0 : ((ji5) == 0) = true := beq_iff_eq.mpr c9
            have c9b1 : ((ji5) != 0) = false := bne_eq_false_iff_eq.mpr c9
            clear c9
            by_cases c10 : 0 < (l0.length : Int)
            · rw [if_pos c10] at H
              have c10b0 : decide (0 < (l0.length : Int)) = true := decide_eq_true c10
              have c10b1 : decide (0 < l0.length) = true := decide_eq_true (by omega)
              clear c10
              simp only [Option.some.injEq, Prod.mk.injEq] at H
              obtain ⟨rfl, rfl, rfl, rfl⟩ := H
              go_enter Try.func21, Try.ntmps21
              try go_wp2_with (first | ((with_reducible refine gate_dst (N := 3) rfl ?_); refine box_event ?hg (N := 3) ?hd (cs := #[.int .i64 0, .int .i64 0]) (t := 24) ?hr ?_; (case hd => rfl); (case hg => rfl); (case hr => first | (go_simp; done) | (go_simp; rfl)); intro gb304 hg w11 hbox hb; have n0_ := Aside0.mk (below_step (by repeat (first | (with_reducible first | exact HB.out | apply below_alloc | apply pw_below_drewN | apply below_drew1) | exact HB.out)) hb); have n1_ := Aside0.mk (hbox); have n2_ := Aside0.mk ((by rw [hg]; exact (below_size (by repeat (first | (with_reducible first | exact HB.out | apply below_alloc | apply pw_below_drewN | apply below_drew1) | exact HB.out))) : w.heap.size ≤ gb304)); have n3_ := Aside0.mk ((by rw [hg]; exact (below_size (by repeat (first | (with_reducible first | exact HB.out | apply below_alloc | apply pw_below_drewN | apply below_drew1) | exact HB.out))) : w.heap.size ≤ gb304)); clear HB; have HB := n0_; have BK304 := n1_; have GW304 := n2_; have GE304 := n3_; clear n0_ n1_ n2_ n3_; clear hb hbox hg) | ((with_reducible refine gate_dst (N := 18) rfl ?_); refine Kd.R_lit k24 _ 24 ?hg (N := 18) ?hd (xs := ([] : List (S24))) (inner := []) (ok := fun _ => True) (okp := fun _ => True) ?hr ?hp (fun _ hk => hk) trivial (Below.refl _ _) (Nat.le_refl _) (by simp) ?_; (case hd => rfl); (case hg => rfl); (case hr => first | (go_simp; done) | (go_simp; rfl)); (case hp => exact (Reps.none _ _)); intro v306 w12 ho13 hb hg_ hnew_; clear hg_ hnew_; (first | rw [← Ny305.out] at ho13 | (simp only [Int.reduceToNat] at ho13; rw [← Ny305.out] at ho13)); have n0_ := Aside0.mk (Kd.R_lower (Kd.R_newB ho13 (g := gb304) (o := .cells #[.int .i64 0, .int .i64 0] 24 (0, 0)) (by (with_reducible repeat (first | refine blk_drewN ?_ _ | refine blk_drew ?_ | refine blk_alloc ?_ _)); exact BK304.out)) (below_size (by repeat (first | (with_reducible first | exact HB.out | apply below_alloc | apply pw_below_drewN | apply below_drew1 | refine below_set ?_ GE304.out) | exact HB.out)))); have n1_ := Aside0.mk (blk_below (g := gb304) (o := .cells #[.int .i64 0, .int .i64 0] 24 (0, 0)) (by (with_reducible repeat (first | refine blk_drewN ?_ _ | refine blk_drew ?_ | refine blk_alloc ?_ _)); exact BK304.out) hb); have n2_ := Aside0.mk (below_step (by repeat (first | (with_reducible first | exact HB.out | apply below_alloc | apply pw_below_drewN | apply below_drew1 | refine below_set ?_ GE304.out) | exact HB.out)) hb); clear BK304; clear HB; have HO307 := n0_; have BK304 := n1_; have HB := n2_; clear n0_ n1_ n2_; clear hb ho13; have q14 : ((ji5) : Int) ≤ ((l0.length : Int) : Int) := of_decide_eq_true (by first | (with_reducible assumption) | assumption); obtain ⟨i014, hi014, _, hsz14, _⟩ := info_parts info24; have hroom14 : l0.length ≤ c0 := HC0.out; have hC14 : Kd.C k24 _ A0 l0.length l0 := HR0.out; have hcut14 := cut_to (P := Try.prog) 22 24 .i64 Try.underlying22 hi014 A0 l0.length c0 (ji5) (of_decide_eq_true (by first | (with_reducible assumption) | assumption)) q14 hroom14; have hr14 := Kd.C_take (m := ((ji5) : Int).toNat) hC14 (by omega); have hy14 : y308.length = ((ji5) : Int).toNat := (by rw [Ny308.out, List.length_take]; omega); rw [← Ny308.out] at hr14; rw [← hy14] at hcut14; have HR311 := Aside0.mk hr14; have HC311 := Aside0.mk (show y308.length ≤ c0 from by omega); clear hr14 hC14 hroom14 hi014 hsz14; have KY14 := Aside0.mk hy14; clear hy14; replace q14 := eq_true q14) | ((with_reducible refine gate_builtin (b := .append) (xs := #[.tmp 18, .tmp 21]) rfl ?_); at_builtin; refine Kd.R_append_rows k24 (w0 := w) w.heap.size rfl (.tmp 18) (.tmp 21) 22 24 (.agg #[(.int .i64 0), (.int .i64 0)]) 16 rfl Try.underlying22 info24 rfl (by decide) (by omega) v306 y305 y308 _ _ _ (fun k_ => k_ ≠ gb304) (fun _ => False) rfl rfl ?aO ?aR (fun _ _ h => h) (fun _ h => h.elim) ?aF ?aB ?aS ?aL ?_; (case aR => repeat (first | exact (Kd.C_below HR311.out HB.out) | (with_reducible refine Kd.C_alloc ?_ _) | (with_reducible refine Kd.C_drewN ?_ _) | (with_reducible refine Kd.C_drew ?_))); (case aB => exact (by repeat (first | (with_reducible first | exact HB.out | apply below_alloc | apply pw_below_drewN | apply below_drew1 | refine below_set ?_ GE304.out) | exact HB.out))); (case aF => exact (fun k_ hk => Kd.freshB (g := gb304) (o := .cells #[.int .i64 0, .int .i64 0] 24 (0, 0)) (by (with_reducible repeat (first | refine blk_drewN ?_ _ | refine blk_drew ?_ | refine blk_alloc ?_ _)); exact BK304.out) k_ hk)); (case aO => exact (by (with_reducible repeat (first | apply Kd.R_alloc | apply Kd.R_drewN | apply Kd.R_drew)); exact Kd.R_mono HO307.out (fun _ hk => hk.2))); (case aS => exact (below_size (by repeat (first | (with_reducible first | exact HB.out | apply below_alloc | apply pw_below_drewN | apply below_drew1 | refine below_set ?_ GE304.out) | exact HB.out)))); (case aL => have := LMc8.out; omega); intro v313 w15 ho hb hg hat; rw [← Ny312.out] at ho; have n0_ := Aside0.mk (blk_grown (g := gb304) (o := .cells #[.int .i64 0, .int .i64 0] 24 (0, 0)) (by (with_reducible repeat (first | refine blk_drewN ?_ _ | refine blk_drew ?_ | refine blk_alloc ?_ _)); exact BK304.out) hg (Kd.R_away HO307.out (fun _ hk => hk.2))); have n1_ := Aside0.mk (hb); have n2_ := Aside0.mk (ho); clear BK304; clear HB; clear HO307; have BK304 := n0_; have HB := n1_; have HO314 := n2_; clear n0_ n1_ n2_; clear ho hb hg hat))
              have n0_ := Aside0.mk (Kd.R_drew HO314.out)
              have n1_ := Aside0.mk (blk_drew BK304.out)
              have n2_ := Aside0.mk (below_drew1 HB.out)
              clear HO314
              clear BK304
              clear HB
              have HO314 := n0_
              have BK304 := n1_
              have HB := n2_
              clear n0_ n1_ n2_
              have p315 : 0 ≤ (0 : Int) := (by omega)
              have q315 : 0 < (l0.length : Int) := of_decide_eq_true (by first | (with_reducible assumption) | assumption)
              obtain ⟨ad315, e315, hx315_0, hx315_1⟩ := at_T24 HR0.out 0 p315 q315
              have hw315_1 := hx315_1
              (try rw [show ((0 : Int)).toNat = 0 from rfl] at hw315_1)
              (try rw [show 0 * 2 = 0 from rfl] at hw315_1)
              (try rw [Addr.add_zero'] at hw315_1)
              have hw315_0 := hx315_0
              (try rw [show ((0 : Int)).toNat = 0 from rfl] at hw315_0)
              (try rw [show 0 * 2 = 0 from rfl] at hw315_0)
              (try rw [Addr.add_zero'] at hw315_0)
              cases e315
              have qi315 : (0 < l0.length) = True := eq_true (by omega)
              (try rw [show ((0 : Int)).toNat = 0 from rfl] at hx315_0)
              (try rw [show 0 * 2 = 0 from rfl] at hx315_0)
              (try rw [Addr.add_zero'] at hx315_0)
              (try rw [show ((0 : Int)).toNat = 0 from rfl] at hx315_1)
              (try rw [show 0 * 2 = 0 from rfl] at hx315_1)
              (try rw [Addr.add_zero'] at hx315_1)
              replace hx315_0 := (HB.out.cell (World.block_lt_of_cell? w _ hx315_0)).trans hx315_0
              replace hx315_1 := (HB.out.cell (World.block_lt_of_cell? w _ hx315_1)).trans hx315_1
              replace p315 := eq_true p315
              replace q315 := eq_true q315
              refine start_ (n := 7) (S := fun w' => w'.cell? ad315 = some (.int .i64 ((rd_T24 l0 0).f0)) ∧ w'.cell? ⟨ad315.block, ad315.off + 1, none⟩ = some (.int .i64 ((rd_T24 l0 0).f1))) (ds := []) #[false, false, false, false, false, false, false] (by kernel_rfl) rfl rfl ⟨((HB.out.cell (World.block_lt_of_cell? w _ hw315_0)).trans hw315_0), ((HB.out.cell (World.block_lt_of_cell? w _ hw315_1)).trans hw315_1)⟩ (fun hHeld => ?_)
              generalize w15.drew = w16 at HO314 BK304 HB hx315_0 hx315_1 hHeld ⊢
              refine pure_ (i := 0) (N := some 25) (v := ?_) (a' := ?_) #[true, false, false, false, false, false, false] rfl rfl (by kernel_rfl) (fun _ _ _ h => h) (Or.inl ⟨by rfl, ?_⟩) ?_ ?_
              rotate_left
              · intro w'
                go_simp
                with_reducible rfl
              rotate_left
              · simp only [Act.put, List.setIfInBounds_toArray, List.set_cons_zero, List.set_cons_succ, i64_w, i32_w]
                rfl
              refine pure_ (i := 1) (N := some 26) (v := ?_) (a' := ?_) #[true, true, false, false, false, false, false] rfl rfl (by kernel_rfl) (fun _ _ _ h => h) (Or.inl ⟨by rfl, ?_⟩) ?_ ?_
              rotate_left
              · intro w'
                go_simp
                with_reducible rfl
              rotate_left
              · simp only [Act.put, List.setIfInBounds_toArray, List.set_cons_zero, List.set_cons_succ, i64_w, i32_w]
                rfl
              refine pure_ (i := 2) (N := some 27) (v := ?_) (a' := ?_) #[true, true, true, false, false, false, false] rfl rfl (by kernel_rfl) (fun _ _ _ h => h) (Or.inl ⟨by rfl, ?_⟩) ?_ ?_
              rotate_left
              · intro w'
                go_simp
                with_reducible rfl
              rotate_left
              · simp only [Act.put, List.setIfInBounds_toArray, List.set_cons_zero, List.set_cons_succ, i64_w, i32_w]
                rfl
              refine pure_ (i := 4) (N := some 2) (v := ?_) (a' := ?_) #[true, true, true, false, true, false, false] rfl rfl (by kernel_rfl) (fun _ _ _ h => h) (Or.inl ⟨by rfl, ?_⟩) ?_ ?_
              rotate_left
              · intro w'
                go_simp
                with_reducible rfl
              rotate_left
              · simp only [Act.put, List.setIfInBounds_toArray, List.set_cons_zero, List.set_cons_succ, i64_w, i32_w]
                rfl
              refine take_ (i := 3) (N := some 28) (v := ?_) (a' := ?_) #[true, true, true, true, true, false, false] rfl rfl (by kernel_rfl) (fun _ _ _ h => h) (Or.inl ⟨by rfl, ?_⟩) hHeld ?_ ?_
              rotate_left
              · rintro w' ⟨s0, s1⟩
                (try simp only [add_plain] at s0 s1)
                go_simp
                with_reducible rfl
              rotate_left
              · simp only [Act.put, List.setIfInBounds_toArray, List.set_cons_zero, List.set_cons_succ, i64_w, i32_w]
                rfl
              refine one_ (i := 5) (N := none) #[true, true, true, true, true, true, false] rfl rfl (by kernel_rfl) (by decide) (fun K hK => ?_)
              have hs17 : w16.cell? ⟨gb304, 0, none⟩ = some (.int .i64 0) := (blk_cell BK304.out 0).trans rfl
              have hfs17 := blk_frozen BK304.out 0
              have hs18 : w16.cell? ⟨gb304, 1, none⟩ = some (.int .i64 0) := (blk_cell BK304.out 1).trans rfl
              have hfs18 := blk_frozen BK304.out 1
              refine skip_ (w1 := ?_) (by rfl) rfl ?_ ?_
              rotate_left
              · go_simp
                rfl
              refine hK.out _ _ ⟨((cell_far (p := ⟨gb304, _, none⟩) (by first | exact Nat.ne_of_lt (Nat.lt_of_lt_of_le (by have := World.block_lt_of_cell? _ _ hw315_0; first | rwa [add_block] at this | exact this) GW304.out) | (rw [add_block]; exact Nat.ne_of_lt (Nat.lt_of_lt_of_le (by have := World.block_lt_of_cell? _ _ hw315_0; first | rwa [add_block] at this | exact this) GW304.out)) | (show (Addr.add _ _).block ≠ _; rw [add_block]; exact Nat.ne_of_lt (Nat.lt_of_lt_of_le (by have := World.block_lt_of_cell? _ _ hw315_0; first | rwa [add_block] at this | exact this) GW304.out)) | (dsimp only; exact Nat.ne_of_lt (Nat.lt_of_lt_of_le (by have := World.block_lt_of_cell? _ _ hw315_0; first | rwa [add_block] at this | exact this) GW304.out))) _).trans (((cell_far (p := ⟨gb304, _, none⟩) (by first | exact Nat.ne_of_lt (Nat.lt_of_lt_of_le (by have := World.block_lt_of_cell? _ _ hw315_0; first | rwa [add_block] at this | exact this) GW304.out) | (rw [add_block]; exact Nat.ne_of_lt (Nat.lt_of_lt_of_le (by have := World.block_lt_of_cell? _ _ hw315_0; first | rwa [add_block] at this | exact this) GW304.out)) | (show (Addr.add _ _).block ≠ _; rw [add_block]; exact Nat.ne_of_lt (Nat.lt_of_lt_of_le (by have := World.block_lt_of_cell? _ _ hw315_0; first | rwa [add_block] at this | exact this) GW304.out)) | (dsimp only; exact Nat.ne_of_lt (Nat.lt_of_lt_of_le (by have := World.block_lt_of_cell? _ _ hw315_0; first | rwa [add_block] at this | exact this) GW304.out))) _).trans (hHeld.1)))), ((cell_far (p := ⟨gb304, _, none⟩) (by first | exact Nat.ne_of_lt (Nat.lt_of_lt_of_le (by have := World.block_lt_of_cell? _ _ hw315_1; first | rwa [add_block] at this | exact this) GW304.out) | (rw [add_block]; exact Nat.ne_of_lt (Nat.lt_of_lt_of_le (by have := World.block_lt_of_cell? _ _ hw315_1; first | rwa [add_block] at this | exact this) GW304.out)) | (show (Addr.add _ _).block ≠ _; rw [add_block]; exact Nat.ne_of_lt (Nat.lt_of_lt_of_le (by have := World.block_lt_of_cell? _ _ hw315_1; first | rwa [add_block] at this | exact this) GW304.out)) | (dsimp only; exact Nat.ne_of_lt (Nat.lt_of_lt_of_le (by have := World.block_lt_of_cell? _ _ hw315_1; first | rwa [add_block] at this | exact this) GW304.out))) _).trans (((cell_far (p := ⟨gb304, _, none⟩) (by first | exact Nat.ne_of_lt (Nat.lt_of_lt_of_le (by have := World.block_lt_of_cell? _ _ hw315_1; first | rwa [add_block] at this | exact this) GW304.out) | (rw [add_block]; exact Nat.ne_of_lt (Nat.lt_of_lt_of_le (by have := World.block_lt_of_cell? _ _ hw315_1; first | rwa [add_block] at this | exact this) GW304.out)) | (show (Addr.add _ _).block ≠ _; rw [add_block]; exact Nat.ne_of_lt (Nat.lt_of_lt_of_le (by have := World.block_lt_of_cell? _ _ hw315_1; first | rwa [add_block] at this | exact this) GW304.out)) | (dsimp only; exact Nat.ne_of_lt (Nat.lt_of_lt_of_le (by have := World.block_lt_of_cell? _ _ hw315_1; first | rwa [add_block] at this | exact this) GW304.out))) _).trans (hHeld.2))))⟩ (fun hHeld => ?_)
              clear hK K
              refine pure_ (i := 6) (N := some 4) (v := ?_) (a' := ?_) #[true, true, true, true, true, true, true] rfl rfl (by kernel_rfl) (fun _ _ _ h => h) (Or.inl ⟨by rfl, ?_⟩) ?_ ?_
              rotate_left
              · intro w'
                go_simp
                with_reducible rfl
              rotate_left
              · simp only [Act.put, List.setIfInBounds_toArray, List.set_cons_zero, List.set_cons_succ, i64_w, i32_w]
                rfl
              refine done_ (by kernel_rfl) ?_
              try go_wp2
              refine bodyPost_ret (results_list (rs := [.tmp 2, .cell 3 24, .tmp 4]) rfl (by simp) (.tmp (.cell gb304 24 #[.int .i64 ((rd_T24 l0 0).f0), .int .i64 ((rd_T24 l0 0).f1)] (0, 0) _ rfl (by (with_reducible repeat (first | refine blk_drewN ?_ _ | refine blk_drew ?_ | refine blk_alloc ?_ _)); refine blk_put (cs := #[.int .i64 ((rd_T24 l0 0).f0), .int .i64 0]) ?_ 1 _ rfl; (with_reducible repeat (first | refine blk_drewN ?_ _ | refine blk_drew ?_ | refine blk_alloc ?_ _)); refine blk_put (cs := #[.int .i64 0, .int .i64 0]) ?_ 0 _ rfl; (with_reducible repeat (first | refine blk_drewN ?_ _ | refine blk_drew ?_ | refine blk_alloc ?_ _)); exact BK304.out) Try.underlying24 rfl (by kernel_rfl) (.tmp .nil)))) rfl ?_
              exact ⟨_, by first | rfl | (simp [errW_none, errW_some] <;> rfl) | (simp only [← hji5]; first | rfl | (simp [errW_none, errW_some] <;> rfl)) | (simp [*, errW_none, errW_some] <;> rfl), by (with_reducible repeat (first | apply Kd.R_alloc | apply Kd.R_drewN | apply Kd.R_drew)); exact Kd.R_mono (Kd.R_far (p := ⟨gb304, 1, none⟩) (Kd.R_far (p := ⟨gb304, 0, none⟩) (Kd.R_mono HO314.out (fun k_ hk => (⟨hk, hk⟩ : _ ∧ k_ ≠ gb304))) (fun _ hk => hk.2) (.int .i64 ((rd_T24 l0 0).f0))) (fun _ hk => hk.2) (.int .i64 ((rd_T24 l0 0).f1))) (fun _ hk => trivial), by repeat (first | (with_reducible first | exact HB.out | apply below_alloc | apply pw_below_drewN | apply below_drew1 | refine below_set ?_ GE304.out) | exact HB.out)⟩
            · rw [if_neg c10] at H
              exact absurd H (by simp)
          · rw [if_neg c9] at H
            have c9b0 : ((ji5) == 0) = false := beq_eq_false_iff_ne.mpr c9
            have c9b1 : ((ji5) != 0) = true := bne_iff_ne.mpr c9
            by_cases c19 : (ji5) < (l0.length : Int)
            · rw [if_pos c19] at H
              have c19b0 : decide ((ji5) < (l0.length : Int)) = true := decide_eq_true c19
              clear c19
              by_cases c20 : 0 < (y312.length : Int)
              · rw [if_pos c20] at H
                have c20b0 : decide (0 < (y312.length : Int)) = true := decide_eq_true c20
                have c20b1 : decide (0 < y312.length) = true := decide_eq_true (by omega)
                clear c20
                obtain ⟨y318, hy318⟩ : ∃ y_ : List (S24), y_ = (y312.set (0 : Int).toNat (⟨(rd_T24 l0 (ji5)).f0, (rd_T24 l0 (ji5)).f1⟩ : S24)) := ⟨_, rfl⟩
                replace H : (stolonref12_Pop.l0 k l0 ji5 y318 0 ((rd_T24 l0 (ji5)).f0) ((rd_T24 l0 (ji5)).f1)) = some (r1, r2, r3, r4) := by first | (rw [hy318]; with_reducible exact H) | (have H2_ := (Option.bind_some _ _).symm.trans H; rw [hy318]; with_reducible exact H2_) | (have H2_ := (Option.bind_some _ _).symm.trans H; with_reducible exact H2_) | with_reducible exact H | (rw [hy318]; exact H) | exact H
                have Ny318 := Aside0.mk hy318
                clear hy318
                have H' := Aside0.mk H
                clear H
                go_enter Try.func21, Try.ntmps21
                go_wp2_with (first | ((with_reducible refine gate_dst (N := 3) rfl ?_); refine box_event ?hg (N := 3) ?hd (cs := #[.int .i64 0, .int .i64 0]) (t := 24) ?hr ?_; (case hd => rfl); (case hg => rfl); (case hr => first | (go_simp; done) | (go_simp; rfl)); intro gb304 hg w22 hbox hb; have n0_ := Aside0.mk (below_step (by repeat (first | (with_reducible first | exact HB.out | apply below_alloc | apply pw_below_drewN | apply below_drew1) | exact HB.out)) hb); have n1_ := Aside0.mk (hbox); have n2_ := Aside0.mk ((by rw [hg]; exact (below_size (by repeat (first | (with_reducible first | exact HB.out | apply below_alloc | apply pw_below_drewN | apply below_drew1) | exact HB.out))) : w.heap.size ≤ gb304)); have n3_ := Aside0.mk ((by rw [hg]; exact (below_size (by repeat (first | (with_reducible first | exact HB.out | apply below_alloc | apply pw_below_drewN | apply below_drew1) | exact HB.out))) : w.heap.size ≤ gb304)); clear HB; have HB := n0_; have BK304 := n1_; have GW304 := n2_; have GE304 := n3_; clear n0_ n1_ n2_ n3_; clear hb hbox hg) | ((with_reducible refine gate_dst (N := 18) rfl ?_); refine Kd.R_lit k24 _ 24 ?hg (N := 18) ?hd (xs := ([] : List (S24))) (inner := []) (ok := fun _ => True) (okp := fun _ => True) ?hr ?hp (fun _ hk => hk) trivial (Below.refl _ _) (Nat.le_refl _) (by simp) ?_; (case hd => rfl); (case hg => rfl); (case hr => first | (go_simp; done) | (go_simp; rfl)); (case hp => exact (Reps.none _ _)); intro v306 w23 ho24 hb hg_ hnew_; clear hg_ hnew_; (first | rw [← Ny305.out] at ho24 | (simp only [Int.reduceToNat] at ho24; rw [← Ny305.out] at ho24)); have n0_ := Aside0.mk (Kd.R_lower (Kd.R_newB ho24 (g := gb304) (o := .cells #[.int .i64 0, .int .i64 0] 24 (0, 0)) (by (with_reducible repeat (first | refine blk_drewN ?_ _ | refine blk_drew ?_ | refine blk_alloc ?_ _)); exact BK304.out)) (below_size (by repeat (first | (with_reducible first | exact HB.out | apply below_alloc | apply pw_below_drewN | apply below_drew1 | refine below_set ?_ GE304.out) | exact HB.out)))); have n1_ := Aside0.mk (blk_below (g := gb304) (o := .cells #[.int .i64 0, .int .i64 0] 24 (0, 0)) (by (with_reducible repeat (first | refine blk_drewN ?_ _ | refine blk_drew ?_ | refine blk_alloc ?_ _)); exact BK304.out) hb); have n2_ := Aside0.mk (below_step (by repeat (first | (with_reducible first | exact HB.out | apply below_alloc | apply pw_below_drewN | apply below_drew1 | refine below_set ?_ GE304.out) | exact HB.out)) hb); clear BK304; clear HB; have HO307 := n0_; have BK304 := n1_; have HB := n2_; clear n0_ n1_ n2_; clear hb ho24; have q25 : ((ji5) : Int) ≤ ((l0.length : Int) : Int) := of_decide_eq_true (by first | (with_reducible assumption) | assumption); obtain ⟨i025, hi025, _, hsz25, _⟩ := info_parts info24; have hroom25 : l0.length ≤ c0 := HC0.out; have hC25 : Kd.C k24 _ A0 l0.length l0 := HR0.out; have hcut25 := cut_to (P := Try.prog) 22 24 .i64 Try.underlying22 hi025 A0 l0.length c0 (ji5) (of_decide_eq_true (by first | (with_reducible assumption) | assumption)) q25 hroom25; have hr25 := Kd.C_take (m := ((ji5) : Int).toNat) hC25 (by omega); have hy25 : y308.length = ((ji5) : Int).toNat := (by rw [Ny308.out, List.length_take]; omega); rw [← Ny308.out] at hr25; rw [← hy25] at hcut25; have HR311 := Aside0.mk hr25; have HC311 := Aside0.mk (show y308.length ≤ c0 from by omega); clear hr25 hC25 hroom25 hi025 hsz25; have KY25 := Aside0.mk hy25; clear hy25; replace q25 := eq_true q25) | ((with_reducible refine gate_builtin (b := .append) (xs := #[.tmp 18, .tmp 21]) rfl ?_); at_builtin; refine Kd.R_append_rows k24 (w0 := w) w.heap.size rfl (.tmp 18) (.tmp 21) 22 24 (.agg #[(.int .i64 0), (.int .i64 0)]) 16 rfl Try.underlying22 info24 rfl (by decide) (by omega) v306 y305 y308 _ _ _ (fun k_ => k_ ≠ gb304) (fun _ => False) rfl rfl ?aO ?aR (fun _ _ h => h) (fun _ h => h.elim) ?aF ?aB ?aS ?aL ?_; (case aR => repeat (first | exact (Kd.C_below HR311.out HB.out) | (with_reducible refine Kd.C_alloc ?_ _) | (with_reducible refine Kd.C_drewN ?_ _) | (with_reducible refine Kd.C_drew ?_))); (case aB => exact (by repeat (first | (with_reducible first | exact HB.out | apply below_alloc | apply pw_below_drewN | apply below_drew1 | refine below_set ?_ GE304.out) | exact HB.out))); (case aF => exact (fun k_ hk => Kd.freshB (g := gb304) (o := .cells #[.int .i64 0, .int .i64 0] 24 (0, 0)) (by (with_reducible repeat (first | refine blk_drewN ?_ _ | refine blk_drew ?_ | refine blk_alloc ?_ _)); exact BK304.out) k_ hk)); (case aO => exact (by (with_reducible repeat (first | apply Kd.R_alloc | apply Kd.R_drewN | apply Kd.R_drew)); exact Kd.R_mono HO307.out (fun _ hk => hk.2))); (case aS => exact (below_size (by repeat (first | (with_reducible first | exact HB.out | apply below_alloc | apply pw_below_drewN | apply below_drew1 | refine below_set ?_ GE304.out) | exact HB.out)))); (case aL => have := LMc8.out; omega); intro v313 w26 ho hb hg hat; rw [← Ny312.out] at ho; have n0_ := Aside0.mk (blk_grown (g := gb304) (o := .cells #[.int .i64 0, .int .i64 0] 24 (0, 0)) (by (with_reducible repeat (first | refine blk_drewN ?_ _ | refine blk_drew ?_ | refine blk_alloc ?_ _)); exact BK304.out) hg (Kd.R_away HO307.out (fun _ hk => hk.2))); have n1_ := Aside0.mk (hb); have n2_ := Aside0.mk (ho); clear BK304; clear HB; clear HO307; have BK304 := n0_; have HB := n1_; have HO314 := n2_; clear n0_ n1_ n2_; clear ho hb hg hat; have p316 : 0 ≤ ((ji5) : Int) := of_decide_eq_true (by first | (with_reducible assumption) | assumption); have q316 : (ji5) < (l0.length : Int) := of_decide_eq_true (by first | (with_reducible assumption) | assumption); obtain ⟨ad316, e316, hx316_0, hx316_1⟩ := at_T24 HR0.out (ji5) p316 q316; cases e316; replace hx316_0 := (HB.out.cell (World.block_lt_of_cell? w _ hx316_0)).trans hx316_0; replace hx316_1 := (HB.out.cell (World.block_lt_of_cell? w _ hx316_1)).trans hx316_1; replace p316 := eq_true p316; replace q316 := eq_true q316) | ((with_reducible refine gate_dst (N := 7) rfl ?_); refine box_event ?hg (N := 7) ?hd (cs := #[.int .i64 0, .int .i64 0]) (t := 24) ?hr ?_; (case hd => rfl); (case hg => rfl); (case hr => first | (go_simp; done) | (go_simp; rfl)); intro gb317 hg w27 hbox hb; have n0_ := Aside0.mk (Kd.R_below (Kd.R_elderB (by (with_reducible repeat (first | apply Kd.R_alloc | apply Kd.R_drewN | apply Kd.R_drew)); exact HO314.out) gb317 (Nat.le_of_eq hg.symm)) hb); have n1_ := Aside0.mk (blk_below (g := gb304) (o := .cells #[.int .i64 0, .int .i64 0] 24 (0, 0)) (by (with_reducible repeat (first | refine blk_drewN ?_ _ | refine blk_drew ?_ | refine blk_alloc ?_ _)); exact BK304.out) hb); have n2_ := Aside0.mk (below_step (by repeat (first | (with_reducible first | exact HB.out | apply below_alloc | apply pw_below_drewN | apply below_drew1 | refine below_set ?_ GE304.out) | exact HB.out)) hb); have n3_ := Aside0.mk (hbox); have n4_ := Aside0.mk ((by rw [hg]; exact (below_size (by repeat (first | (with_reducible first | exact HB.out | apply below_alloc | apply pw_below_drewN | apply below_drew1 | refine below_set ?_ GE304.out) | exact HB.out))) : w.heap.size ≤ gb317)); have n5_ := Aside0.mk ((by rw [hg]; exact (below_size (by repeat (first | (with_reducible first | exact HB.out | apply below_alloc | apply pw_below_drewN | apply below_drew1 | refine below_set ?_ GE304.out) | exact HB.out))) : w.heap.size ≤ gb317)); have n6_ := Aside0.mk ((by rw [hg]; exact Nat.ne_of_lt (blk_lt (g := gb304) (o := .cells #[.int .i64 0, .int .i64 0] 24 (0, 0)) (by (with_reducible repeat (first | refine blk_drewN ?_ _ | refine blk_drew ?_ | refine blk_alloc ?_ _)); exact BK304.out)) : gb304 ≠ gb317)); have n7_ := Aside0.mk ((by rw [hg]; exact Nat.ne_of_gt (blk_lt (g := gb304) (o := .cells #[.int .i64 0, .int .i64 0] 24 (0, 0)) (by (with_reducible repeat (first | refine blk_drewN ?_ _ | refine blk_drew ?_ | refine blk_alloc ?_ _)); exact BK304.out)) : gb317 ≠ gb304)); clear HO314; clear BK304; clear HB; have HO314 := n0_; have BK304 := n1_; have HB := n2_; have BK317 := n3_; have GW317 := n4_; have GE317 := n5_; have NB304_317 := n6_; have NB317_304 := n7_; clear n0_ n1_ n2_ n3_ n4_ n5_ n6_ n7_; clear hb hbox hg; have hnb28 := NB317_304.out; have hnc28 := NB304_317.out; have hcz29_0 : w27.cell? ⟨gb317, 0, none⟩ = some (.int .i64 0) := (blk_cell BK317.out 0).trans rfl; have hcz29_1 : w27.cell? ⟨gb317, 1, none⟩ = some (.int .i64 0) := (blk_cell BK317.out 1).trans rfl; have hfz29_0 := blk_frozen BK317.out 0; have hfz29_1 := blk_frozen BK317.out 1) | ((with_reducible refine gate_store (t := 24) (p := 7) rfl ?_); refine store_event (t := 24) (p := 7) (v := ?vo_w30) (w1 := ((w27.setCell ⟨gb317, 0, none⟩ (.int .i64 ((rd_T24 l0 (ji5)).f0))).setCell ⟨gb317, 1, none⟩ (.int .i64 ((rd_T24 l0 (ji5)).f1)))) ?hg ?ho ?hn ?hr ?_; (case ho => rfl); (case hg => rfl); (case hn => rfl); (case hr => first | (go_simp; done) | (go_simp; rfl)); intro w30 hw; have n0_ : Aside0 (Kd.R k24 24 w30 w.heap.size (fun k_ => k_ ≠ gb304 ∧ k_ ≠ gb317) v313 y312) := ⟨(by rw [hw]; exact (by (with_reducible repeat (first | apply Kd.R_alloc | apply Kd.R_drewN | apply Kd.R_drew)); exact Kd.R_mono (Kd.R_far (p := ⟨gb317, 1, none⟩) (Kd.R_far (p := ⟨gb317, 0, none⟩) (Kd.R_mono HO314.out (fun k_ hk => (⟨hk, hk.2⟩ : _ ∧ k_ ≠ gb317))) (fun _ hk => hk.2) (.int .i64 ((rd_T24 l0 (ji5)).f0))) (fun _ hk => hk.2) (.int .i64 ((rd_T24 l0 (ji5)).f1))) (fun _ hk => ⟨hk.1.1, hk.1.2⟩)))⟩; have n1_ : Aside0 (w30.heap[gb304]? = some (.cells #[.int .i64 0, .int .i64 0] 24 (0, 0))) := ⟨(by rw [hw]; exact (by (with_reducible repeat (first | refine blk_drewN ?_ _ | refine blk_drew ?_ | refine blk_alloc ?_ _)); refine blk_far ?_ NB304_317.out _; (with_reducible repeat (first | refine blk_drewN ?_ _ | refine blk_drew ?_ | refine blk_alloc ?_ _)); refine blk_far ?_ NB304_317.out _; (with_reducible repeat (first | refine blk_drewN ?_ _ | refine blk_drew ?_ | refine blk_alloc ?_ _)); exact BK304.out))⟩; have n2_ : Aside0 (w30.heap[gb317]? = some (.cells #[.int .i64 ((rd_T24 l0 (ji5)).f0), .int .i64 ((rd_T24 l0 (ji5)).f1)] 24 (0, 0))) := ⟨(by rw [hw]; exact (by (with_reducible repeat (first | refine blk_drewN ?_ _ | refine blk_drew ?_ | refine blk_alloc ?_ _)); refine blk_put (cs := #[.int .i64 ((rd_T24 l0 (ji5)).f0), .int .i64 0]) ?_ 1 _ rfl; (with_reducible repeat (first | refine blk_drewN ?_ _ | refine blk_drew ?_ | refine blk_alloc ?_ _)); refine blk_put (cs := #[.int .i64 0, .int .i64 0]) ?_ 0 _ rfl; (with_reducible repeat (first | refine blk_drewN ?_ _ | refine blk_drew ?_ | refine blk_alloc ?_ _)); exact BK317.out))⟩; have n3_ : Aside0 (Below w.heap.size w w30) := ⟨(by rw [hw]; exact (by repeat (first | (with_reducible first | exact HB.out | apply below_alloc | apply pw_below_drewN | apply below_drew1 | refine below_set ?_ GE304.out | refine below_set ?_ GE317.out) | exact HB.out)))⟩; clear hw; clear HO314; clear BK304; clear BK317; clear HB; have HO314 := n0_; have BK304 := n1_; have BK317 := n2_; have HB := n3_; clear n0_ n1_ n2_ n3_; have hcz31_0 : w30.cell? ⟨gb317, 0, none⟩ = some (.int .i64 ((rd_T24 l0 (ji5)).f0)) := (blk_cell BK317.out 0).trans rfl; have hcz31_1 : w30.cell? ⟨gb317, 1, none⟩ = some (.int .i64 ((rd_T24 l0 (ji5)).f1)) := (blk_cell BK317.out 1).trans rfl; have hfz31_0 := blk_frozen BK317.out 0; have hfz31_1 := blk_frozen BK317.out 1; have p21 : 0 ≤ (0 : Int) := (by omega); have q21 : (0 : Int) < ((y312.length : Int) : Int) := of_decide_eq_true (by first | (with_reducible assumption) | assumption); have qi21 : (0 < y312.length) = True := eq_true (by omega); obtain ⟨go21, co21, eo21, gb21, gl21, cl21, HG21⟩ := Kd.R_form HO314.out (by omega); (first | cases eo21 | (injection eo21 with ea_ en_ ec_; (first | subst ea_ | (injection ea_ with ea_; subst ea_)); subst ec_; clear en_)); have GB21 := Aside0.mk gb21; have GG21 := Aside0.mk HG21; clear gb21 gl21 HG21; obtain ⟨ce21, hcl21, hM21, hcc21, hfr21⟩ := Kd.R_elem HO314.out z24 (0 : Int) p21 q21; obtain rfl := k24_openM hM21; have hx21_0 : w30.cell? ⟨go21, (0 : Int).toNat * 2, none⟩ = some (.int .i64 ((rd_T24 y312 0).f0)) := hcc21 0 _ rfl; have hx21_1 : w30.cell? ⟨go21, (0 : Int).toNat * 2 + 1, none⟩ = some (.int .i64 ((rd_T24 y312 0).f1)) := hcc21 1 _ rfl; have hf21_0 : w30.frozen? ⟨go21, (0 : Int).toNat * 2, none⟩ = false := hfr21 0; have hf21_1 : w30.frozen? ⟨go21, (0 : Int).toNat * 2 + 1, none⟩ = false := hfr21 1; clear hcl21 hcc21 hfr21 hM21; (try rw [show ((0 : Int)).toNat = 0 from rfl] at hx21_0); (try simp only [Nat.reduceMul, Nat.zero_mul, Nat.zero_add, Nat.reduceAdd] at hx21_0); (try rw [show ((0 : Int)).toNat = 0 from rfl] at hf21_0); (try simp only [Nat.reduceMul, Nat.zero_mul, Nat.zero_add, Nat.reduceAdd] at hf21_0); (try rw [show ((0 : Int)).toNat = 0 from rfl] at hx21_1); (try simp only [Nat.reduceMul, Nat.zero_mul, Nat.zero_add, Nat.reduceAdd] at hx21_1); (try rw [show ((0 : Int)).toNat = 0 from rfl] at hf21_1); (try simp only [Nat.reduceMul, Nat.zero_mul, Nat.zero_add, Nat.reduceAdd] at hf21_1); replace p21 := eq_true p21; replace q21 := eq_true q21; have HX32 := Aside0.mk (show Kd.R k24 24 w30 w.heap.size (fun k_ => k_ ≠ gb304 ∧ k_ ≠ gb317) (.slice (some ⟨go21, 0, none⟩) y312.length co21) y312 from (by (with_reducible repeat (first | apply Kd.R_alloc | apply Kd.R_drewN | apply Kd.R_drew)); exact HO314.out)); obtain ⟨ce32, hcl32, hM32, hcc32, hfr32⟩ := Kd.R_elem HX32.out z24 (0 : Int) (by omega) (by have h_ : (0 : Int) < ((y312.length : Int) : Int) := of_decide_eq_true (by first | (with_reducible assumption) | assumption); first | exact h_ | (have e_ := (Kd.R_reads' HO314.out).1; omega) | simpa using h_); obtain rfl := k24_openM hM32; have HP32 := Kd.R_seg HX32.out (0 : Int) (by omega) (by have h_ : (0 : Int) < ((y312.length : Int) : Int) := of_decide_eq_true (by first | (with_reducible assumption) | assumption); first | exact h_ | (have e_ := (Kd.R_reads' HO314.out).1; omega) | simpa using h_) (seg := [.int .i64 ((rd_T24 l0 (ji5)).f0), .int .i64 ((rd_T24 l0 (ji5)).f1)]) (j := 0) hcl32 hcc32 (show 2 ≤ 2 from by decide) (x' := (⟨(rd_T24 l0 (ji5)).f0, (rd_T24 l0 (ji5)).f1⟩ : S24)) (k24_mkM _ _ _ (⟨(rd_T24 l0 (ji5)).f0, (rd_T24 l0 (ji5)).f1⟩ : S24) ) (fun _ hk => hk); have hx32_0 := hcc32 0 _ rfl; (try simp only [show (k24).sz = 2 from rfl, Nat.mul_one, Nat.add_zero] at hx32_0); (try rw [show ((0 : Int)).toNat = 0 from rfl] at hx32_0); (try simp only [Nat.reduceMul, Nat.zero_mul, Nat.zero_add, Nat.reduceAdd] at hx32_0); have hf32_0 := hfr32 0; (try simp only [show (k24).sz = 2 from rfl, Nat.mul_one, Nat.add_zero] at hf32_0); (try rw [show ((0 : Int)).toNat = 0 from rfl] at hf32_0); (try simp only [Nat.reduceMul, Nat.zero_mul, Nat.zero_add, Nat.reduceAdd] at hf32_0); have hx32_1 := hcc32 1 _ rfl; (try simp only [show (k24).sz = 2 from rfl, Nat.mul_one, Nat.add_zero] at hx32_1); (try rw [show ((0 : Int)).toNat = 0 from rfl] at hx32_1); (try simp only [Nat.reduceMul, Nat.zero_mul, Nat.zero_add, Nat.reduceAdd] at hx32_1); have hf32_1 := hfr32 1; (try simp only [show (k24).sz = 2 from rfl, Nat.mul_one, Nat.add_zero] at hf32_1); (try rw [show ((0 : Int)).toNat = 0 from rfl] at hf32_1); (try simp only [Nat.reduceMul, Nat.zero_mul, Nat.zero_add, Nat.reduceAdd] at hf32_1); clear hcl32 hcc32 hfr32 hM32) | ((with_reducible refine gate_store (t := 24) (p := 35) rfl ?_); refine store_event (t := 24) (p := 35) (v := ?vo_w33) (w1 := ((w30.setCell ⟨go21, 0, none⟩ (.int .i64 ((rd_T24 l0 (ji5)).f0))).setCell ⟨go21, 1, none⟩ (.int .i64 ((rd_T24 l0 (ji5)).f1)))) ?hg ?ho ?hn ?hr ?_; (case ho => rfl); (case hg => rfl); (case hn => rfl); (case hr => first | (go_simp; done) | (go_simp; rfl)); intro w33 hw; have hg : w30.grownBy w33 (some go21) := (by rw [hw]; exact HP32.2); have hp_ : Kd.R k24 24 w33 w.heap.size (fun k_ => k_ ≠ gb304 ∧ k_ ≠ gb317) (.slice (some ⟨go21, 0, none⟩) y312.length co21) y318 := (by rw [hw, Ny318.out]; exact HP32.1); clear HP32; have n0_ := Aside0.mk (blk_grown (g := gb304) (o := .cells #[.int .i64 0, .int .i64 0] 24 (0, 0)) (by (with_reducible repeat (first | refine blk_drewN ?_ _ | refine blk_drew ?_ | refine blk_alloc ?_ _)); exact BK304.out) hg (Kd.R_away HO314.out (fun _ hk => hk.1))); have n1_ := Aside0.mk (hp_); have n2_ := Aside0.mk (blk_grown (g := gb317) (o := .cells #[.int .i64 ((rd_T24 l0 (ji5)).f0), .int .i64 ((rd_T24 l0 (ji5)).f1)] 24 (0, 0)) (by (with_reducible repeat (first | refine blk_drewN ?_ _ | refine blk_drew ?_ | refine blk_alloc ?_ _)); exact BK317.out) hg (Kd.R_away HO314.out (fun _ hk => hk.2))); have n3_ := Aside0.mk ((by rw [hw]; exact below_set (below_set (HB.out) GB21.out) GB21.out : Below w.heap.size w w33)); clear BK304; clear HO314; clear BK317; clear HB; have BK304 := n0_; have HO314 := n1_; have BK317 := n2_; have HB := n3_; clear n0_ n1_ n2_ n3_; clear hg hw hp_))
                go_loopg [8] k (fun kq v8 w' => ∃ (x6_1 : List (S24)) (x8_1 : Int) (x305000_1 : Int) (x305001_1 : Int) (x318000_1 : Int) (x318001_1 : Int), v8 = .int .i64 x8_1 ∧ Aside0 (stolonref12_Pop.l0 kq l0 ji5 x6_1 x8_1 x318000_1 x318001_1 = some (r1, r2, r3, r4)) ∧ Aside0 (kq ≤ k) ∧ Aside0 (Kd.R k24 24 w' w.heap.size (fun k_ => k_ ≠ gb304 ∧ k_ ≠ gb317) (.slice (some ⟨go21, 0, none⟩) y312.length co21) x6_1) ∧ Aside0 (w'.heap[gb304]? = some (.cells #[.int .i64 x305000_1, .int .i64 x305001_1] 24 (0, 0))) ∧ Aside0 (w'.heap[gb317]? = some (.cells #[.int .i64 x318000_1, .int .i64 x318001_1] 24 (0, 0))) ∧ Aside0 (Below w.heap.size w w'))
                case atStart => exact ⟨(y318), (0), (0), (0), ((rd_T24 l0 (ji5)).f0), ((rd_T24 l0 (ji5)).f1), (by first | rfl | (simp; done) | (simp [*]; done)), H', ⟨Nat.le_refl _⟩, ⟨by (with_reducible repeat (first | apply Kd.R_alloc | apply Kd.R_drewN | apply Kd.R_drew)); exact HO314.out⟩, ⟨by (with_reducible repeat (first | refine blk_drewN ?_ _ | refine blk_drew ?_ | refine blk_alloc ?_ _)); exact BK304.out⟩, ⟨by (with_reducible repeat (first | refine blk_drewN ?_ _ | refine blk_drew ?_ | refine blk_alloc ?_ _)); exact BK317.out⟩, ⟨by repeat (first | (with_reducible first | exact HB.out | apply below_alloc | apply pw_below_drewN | apply below_drew1 | refine below_set ?_ GE304.out | refine below_set ?_ GE317.out) | exact HB.out)⟩⟩
                case round =>
                  clear H'
                  try clear c1
                  try clear q1
                  try clear c2
                  try clear c2b0
                  try clear c2b1
                  try clear c2b2
                  try clear p2
                  try clear q2
                  try clear hx2
                  try clear qi2
                  try clear hf2
                  try clear c3
                  try clear p3
                  try clear q3
                  try clear hx3
                  try clear qi3
                  try clear hf3
                  try clear c6
                  try clear c6b0
                  try clear c6b1
                  try clear p6
                  try clear c7
                  try clear c7b0
                  try clear c7b1
                  try clear c8
                  try clear c9
                  try clear c9b0
                  try clear c9b1
                  try clear c10
                  try clear c10b0
                  try clear c10b1
                  try clear q14
                  try clear c19
                  try clear c19b0
                  try clear c20
                  try clear c20b0
                  try clear c20b1
                  try clear c21
                  try clear p21
                  try clear q21
                  try clear hx21
                  try clear qi21
                  try clear hf21
                  try clear q25
                  try clear c28
                  try clear p31
                  try clear q31
                  try clear hx31
                  try clear qi31
                  try clear c32
                  try clear hx32
                  try clear hf32
                  try clear hcz29_0
                  try clear hcz29_1
                  try clear hcz31_0
                  try clear hcz31_1
                  try clear hcz4_0
                  try clear hcz4_1
                  try clear hfz29_0
                  try clear hfz29_1
                  try clear hfz31_0
                  try clear hfz31_1
                  try clear hfz4_0
                  try clear hfz4_1
                  try clear hx21_0
                  try clear hx21_1
                  try clear hx315_0
                  try clear hx315_1
                  try clear hx316_0
                  try clear hx316_1
                  try clear hx32_0
                  try clear hx32_1
                  try clear p21
                  try clear p315
                  try clear p316
                  try clear q14
                  try clear q21
                  try clear q25
                  try clear q315
                  try clear q316
                  obtain ⟨x6_1, x8_1, x305000_1, x305001_1, x318000_1, x318001_1, rfl, HA, HK1, HO_6, BK304, BK317, HB⟩ := hrel
                  have hl6_1 := (Kd.R_reads' HO_6.out).1
                  rw [hl6_1] at HO_6
                  (try simp only [hl6_1])
                  (try simp only [hl6_1] at BK304)
                  (try simp only [hl6_1] at BK317)
                  cases gk with
                  | zero => exact absurd HA.out (by simp [stolonref12_Pop.l0])
                  | succ k1 =>
                    have H := HA.out
                    clear HA
                    simp only [stolonref12_Pop.l0] at H
                    by_cases c34 : (wrap64 ((wrap64 (2 * x8_1)) + 1)) < ji5
                    · rw [if_pos c34] at H
                      have c34b0 : decide ((wrap64 ((wrap64 (2 * x8_1)) + 1)) < ji5) = true := decide_eq_true c34
                      clear c34
                      have HC35 := Aside0.mk H
                      clear H
                      go_upto_region 12 with (fail)
                      go_cut [59] (fun v59 wc => ∃ (kq : Nat) (x59_34 : Bool), v59 = .bool x59_34 ∧ Aside0 (stolonref12_Pop.j1 kq l0 ji5 x6_1 x8_1 (wrap64 ((wrap64 (2 * x8_1)) + 1)) x59_34 x318000_1 x318001_1 = some (r1, r2, r3, r4)) ∧ Aside0 (kq ≤ k1) ∧ Aside0 (Kd.R k24 24 wc w.heap.size (fun k_ => k_ ≠ gb304 ∧ k_ ≠ gb317) (.slice (some ⟨go21, 0, none⟩) x6_1.length co21) x6_1) ∧ Aside0 (wc.heap[gb304]? = some (.cells #[.int .i64 x305000_1, .int .i64 x305001_1] 24 (0, 0))) ∧ Aside0 (wc.heap[gb317]? = some (.cells #[.int .i64 x318000_1, .int .i64 x318001_1] 24 (0, 0))) ∧ Aside0 (Below w.heap.size w wc))
                      case first =>
                        have H := HC35.out
                        clear HC35
                        by_cases c36 : (wrap64 ((wrap64 ((wrap64 (2 * x8_1)) + 1)) + 1)) < ji5
                        · rw [if_pos c36] at H
                          have c36b0 : decide ((wrap64 ((wrap64 ((wrap64 (2 * x8_1)) + 1)) + 1)) < ji5) = true := decide_eq_true c36
                          clear c36
                          (first | rw [c36b0] | (simp only [i64_w, i32_w]; rw [c36b0]) | skip)
                          obtain ⟨ji37, hji37⟩ : ∃ j_ : Int, (wrap64 ((wrap64 ((wrap64 (2 * x8_1)) + 1)) + 1)) = j_ := ⟨_, rfl⟩
                          replace H : (if 0 ≤ (ji37) then (if (ji37) < (x6_1.length : Int) then (if 0 ≤ (wrap64 ((wrap64 (2 * x8_1)) + 1)) then (if (wrap64 ((wrap64 (2 * x8_1)) + 1)) < (x6_1.length : Int) then ((stolonref12_Less.f ((rd_T24 x6_1 (ji37)).f0) ((rd_T24 x6_1 (ji37)).f1) ((rd_T24 x6_1 (wrap64 ((wrap64 (2 * x8_1)) + 1))).f0) ((rd_T24 x6_1 (wrap64 ((wrap64 (2 * x8_1)) + 1))).f1)).bind fun t322 => (stolonref12_Pop.j1 k1 l0 ji5 x6_1 x8_1 (wrap64 ((wrap64 (2 * x8_1)) + 1)) t322 x318000_1 x318001_1)) else (none)) else (none)) else (none)) else (none)) = some (r1, r2, r3, r4) := by first | (rw [hji37] at H; exact H) | (simp only [hji37] at H ⊢; exact H)
                          (try rw [hji37] at c36b0)
                          have hji37w : (IntKind.i64.wrap ((wrap64 ((wrap64 (2 * x8_1)) + 1)) + 1)) = ji37 := (i64_w _).trans hji37
                          by_cases c38 : 0 ≤ (ji37)
                          · rw [if_pos c38] at H
                            have c38b0 : decide (0 ≤ (ji37)) = true := decide_eq_true c38
                            clear c38
                            by_cases c39 : (ji37) < (x6_1.length : Int)
                            · rw [if_pos c39] at H
                              have c39b0 : decide ((ji37) < (x6_1.length : Int)) = true := decide_eq_true c39
                              clear c39
                              obtain ⟨ji40, hji40⟩ : ∃ j_ : Int, (wrap64 ((wrap64 (2 * x8_1)) + 1)) = j_ := ⟨_, rfl⟩
                              (try rw [hji40] at hji37)
                              (try rw [hji40] at hji37w)
                              replace H : (if 0 ≤ (ji40) then (if (ji40) < (x6_1.length : Int) then ((stolonref12_Less.f ((rd_T24 x6_1 (ji37)).f0) ((rd_T24 x6_1 (ji37)).f1) ((rd_T24 x6_1 (ji40)).f0) ((rd_T24 x6_1 (ji40)).f1)).bind fun t322 => (stolonref12_Pop.j1 k1 l0 ji5 x6_1 x8_1 ji40 t322 x318000_1 x318001_1)) else (none)) else (none)) = some (r1, r2, r3, r4) := by first | (rw [hji40] at H; exact H) | (simp only [hji40] at H ⊢; exact H)
                              (try rw [hji40] at c34b0)
                              (try rw [hji40] at c36b0)
                              have hji40w : (IntKind.i64.wrap ((wrap64 (2 * x8_1)) + 1)) = ji40 := (i64_w _).trans hji40
                              by_cases c41 : 0 ≤ (ji40)
                              · rw [if_pos c41] at H
                                have c41b0 : decide (0 ≤ (ji40)) = true := decide_eq_true c41
                                clear c41
                                by_cases c42 : (ji40) < (x6_1.length : Int)
                                · rw [if_pos c42] at H
                                  have c42b0 : decide ((ji40) < (x6_1.length : Int)) = true := decide_eq_true c42
                                  clear c42
                                  replace H := Option.bind_eq_some_iff.mp H
                                  obtain ⟨t322, A430, H⟩ := H
                                  replace H : (stolonref12_Pop.j1 k1 l0 ji5 x6_1 x8_1 ji40 t322 x318000_1 x318001_1) = some (r1, r2, r3, r4) := H
                                  have A43 := Aside0.mk A430
                                  clear A430
                                  have H' := Aside0.mk H
                                  clear H
                                  try go_wp2
                                  have n0_ := Aside0.mk (Kd.R_drew HO_6.out)
                                  have n1_ := Aside0.mk (blk_drew BK304.out)
                                  have n2_ := Aside0.mk (blk_drew BK317.out)
                                  have n3_ := Aside0.mk (below_drew1 HB.out)
                                  clear HO_6
                                  clear BK304
                                  clear BK317
                                  clear HB
                                  have HO_6 := n0_
                                  have BK304 := n1_
                                  have BK317 := n2_
                                  have HB := n3_
                                  clear n0_ n1_ n2_ n3_
                                  have p320 : 0 ≤ ((ji37) : Int) := of_decide_eq_true (by first | (with_reducible assumption) | assumption)
                                  have q320 : (ji37) < (x6_1.length : Int) := of_decide_eq_true (by first | (with_reducible assumption) | assumption)
                                  obtain ⟨ad320, e320, hx320_0, hx320_1⟩ := at_T24 (Kd.R_reads' HO_6.out).2.2 (ji37) p320 q320
                                  obtain rfl : (⟨go21, 0, none⟩ : Addr) = ad320 := (by injection e320)
                                  (first | simp only [add_plain] at hx320_0 | simp only [add_at] at hx320_0 | simp only [Addr.add, Nat.zero_add] at hx320_0 | skip)
                                  (first | simp only [add_plain] at hx320_1 | simp only [add_at] at hx320_1 | simp only [Addr.add, Nat.zero_add] at hx320_1 | skip)
                                  replace p320 := eq_true p320
                                  replace q320 := eq_true q320
                                  have p321 : 0 ≤ ((ji40) : Int) := of_decide_eq_true (by first | (with_reducible assumption) | assumption)
                                  have q321 : (ji40) < (x6_1.length : Int) := of_decide_eq_true (by first | (with_reducible assumption) | assumption)
                                  obtain ⟨ad321, e321, hx321_0, hx321_1⟩ := at_T24 (Kd.R_reads' HO_6.out).2.2 (ji40) p321 q321
                                  obtain rfl : (⟨go21, 0, none⟩ : Addr) = ad321 := (by injection e321)
                                  (first | simp only [add_plain] at hx321_0 | simp only [add_at] at hx321_0 | simp only [Addr.add, Nat.zero_add] at hx321_0 | skip)
                                  (first | simp only [add_plain] at hx321_1 | simp only [add_at] at hx321_1 | simp only [Addr.add, Nat.zero_add] at hx321_1 | skip)
                                  replace p321 := eq_true p321
                                  replace q321 := eq_true q321
                                  refine start_ (n := 16) (S := fun w' => w'.cell? ⟨go21, ((ji37)).toNat * 2, none⟩ = some (.int .i64 ((rd_T24 x6_1 (ji37)).f0)) ∧ w'.cell? ⟨go21, ((ji37)).toNat * 2 + 1, none⟩ = some (.int .i64 ((rd_T24 x6_1 (ji37)).f1)) ∧ w'.cell? ⟨go21, ((ji40)).toNat * 2, none⟩ = some (.int .i64 ((rd_T24 x6_1 (ji40)).f0)) ∧ w'.cell? ⟨go21, ((ji40)).toNat * 2 + 1, none⟩ = some (.int .i64 ((rd_T24 x6_1 (ji40)).f1))) (ds := []) #[false, false, false, false, false, false, false, false, false, false, false, false, false, false, false, false] (by kernel_rfl) rfl rfl ⟨hx320_0, hx320_1, hx321_0, hx321_1⟩ (fun hHeld => ?_); refine with_tabW stolonref12_Pop.tab12 stolonref12_Pop.bits12 (fun HT_ HW_ => ?_)
                                  generalize wr.drew = w44 at HO_6 BK304 BK317 HB hx320_0 hx320_1 hx321_0 hx321_1 hHeld ⊢
                                  refine pure_ (i := 0) (N := some 44) (v := ?_) (a' := ?_) #[true, false, false, false, false, false, false, false, false, false, false, false, false, false, false, false] rfl rfl (any_of HT_.out (by kernel_rfl)) (fun _ _ _ h => h) (Or.inl ⟨by rfl, ?_⟩) ?_ ?_
                                  rotate_left
                                  · intro w'
                                    go_simp
                                    with_reducible rfl
                                  rotate_left
                                  · simp only [Act.put, List.setIfInBounds_toArray, List.set_cons_zero, List.set_cons_succ, i64_w, i32_w]
                                    rfl
                                  refine pure_ (i := 1) (N := some 45) (v := ?_) (a' := ?_) #[true, true, false, false, false, false, false, false, false, false, false, false, false, false, false, false] rfl rfl (any_of HT_.out (by kernel_rfl)) (fun _ _ _ h => h) (Or.inl ⟨by rfl, ?_⟩) ?_ ?_
                                  rotate_left
                                  · intro w'
                                    go_simp
                                    with_reducible rfl
                                  rotate_left
                                  · simp only [Act.put, List.setIfInBounds_toArray, List.set_cons_zero, List.set_cons_succ, i64_w, i32_w]
                                    rfl
                                  refine pure_ (i := 2) (N := some 46) (v := ?_) (a' := ?_) #[true, true, true, false, false, false, false, false, false, false, false, false, false, false, false, false] rfl rfl (any_of HT_.out (by kernel_rfl)) (fun _ _ _ h => h) (Or.inl ⟨by rfl, ?_⟩) ?_ ?_
                                  rotate_left
                                  · intro w'
                                    go_simp
                                    with_reducible rfl
                                  rotate_left
                                  · simp only [Act.put, List.setIfInBounds_toArray, List.set_cons_zero, List.set_cons_succ, i64_w, i32_w]
                                    rfl
                                  refine pure_ (i := 3) (N := some 47) (v := ?_) (a' := ?_) #[true, true, true, true, false, false, false, false, false, false, false, false, false, false, false, false] rfl rfl (any_of HT_.out (by kernel_rfl)) (fun _ _ _ h => h) (Or.inl ⟨by rfl, ?_⟩) ?_ ?_
                                  rotate_left
                                  · intro w'
                                    go_simp
                                    with_reducible rfl
                                  rotate_left
                                  · simp only [Act.put, List.setIfInBounds_toArray, List.set_cons_zero, List.set_cons_succ, i64_w, i32_w]
                                    rfl
                                  refine pure_ (i := 4) (N := some 48) (v := ?_) (a' := ?_) #[true, true, true, true, true, false, false, false, false, false, false, false, false, false, false, false] rfl rfl (any_of HT_.out (by kernel_rfl)) (fun _ _ _ h => h) (Or.inl ⟨by rfl, ?_⟩) ?_ ?_
                                  rotate_left
                                  · intro w'
                                    go_simp
                                    with_reducible rfl
                                  rotate_left
                                  · simp only [Act.put, List.setIfInBounds_toArray, List.set_cons_zero, List.set_cons_succ, i64_w, i32_w]
                                    rfl
                                  refine pure_ (i := 5) (N := some 49) (v := ?_) (a' := ?_) #[true, true, true, true, true, true, false, false, false, false, false, false, false, false, false, false] rfl rfl (any_of HT_.out (by kernel_rfl)) (fun _ _ _ h => h) (Or.inl ⟨by rfl, ?_⟩) ?_ ?_
                                  rotate_left
                                  · intro w'
                                    go_simp
                                    with_reducible rfl
                                  rotate_left
                                  · simp only [Act.put, List.setIfInBounds_toArray, List.set_cons_zero, List.set_cons_succ, i64_w, i32_w]
                                    rfl
                                  refine pure_ (i := 6) (N := some 50) (v := ?_) (a' := ?_) #[true, true, true, true, true, true, true, false, false, false, false, false, false, false, false, false] rfl rfl (any_of HT_.out (by kernel_rfl)) (fun _ _ _ h => h) (Or.inl ⟨by rfl, ?_⟩) ?_ ?_
                                  rotate_left
                                  · intro w'
                                    go_simp
                                    with_reducible rfl
                                  rotate_left
                                  · simp only [Act.put, List.setIfInBounds_toArray, List.set_cons_zero, List.set_cons_succ, i64_w, i32_w]
                                    rfl
                                  refine pure_ (i := 7) (N := some 51) (v := ?_) (a' := ?_) #[true, true, true, true, true, true, true, true, false, false, false, false, false, false, false, false] rfl rfl (any_of HT_.out (by kernel_rfl)) (fun _ _ _ h => h) (Or.inl ⟨by rfl, ?_⟩) ?_ ?_
                                  rotate_left
                                  · intro w'
                                    go_simp
                                    with_reducible rfl
                                  rotate_left
                                  · simp only [Act.put, List.setIfInBounds_toArray, List.set_cons_zero, List.set_cons_succ, i64_w, i32_w]
                                    rfl
                                  refine pure_ (i := 8) (N := some 52) (v := ?_) (a' := ?_) #[true, true, true, true, true, true, true, true, true, false, false, false, false, false, false, false] rfl rfl (any_of HT_.out (by kernel_rfl)) (fun _ _ _ h => h) (Or.inl ⟨by rfl, ?_⟩) ?_ ?_
                                  rotate_left
                                  · intro w'
                                    go_simp
                                    with_reducible rfl
                                  rotate_left
                                  · simp only [Act.put, List.setIfInBounds_toArray, List.set_cons_zero, List.set_cons_succ, i64_w, i32_w]
                                    rfl
                                  refine pure_ (i := 10) (N := some 54) (v := ?_) (a' := ?_) #[true, true, true, true, true, true, true, true, true, false, true, false, false, false, false, false] rfl rfl (any_of HT_.out (by kernel_rfl)) (fun _ _ _ h => h) (Or.inl ⟨by rfl, ?_⟩) ?_ ?_
                                  rotate_left
                                  · intro w'
                                    go_simp
                                    with_reducible rfl
                                  rotate_left
                                  · simp only [Act.put, List.setIfInBounds_toArray, List.set_cons_zero, List.set_cons_succ, i64_w, i32_w]
                                    rfl
                                  refine pure_ (i := 11) (N := some 55) (v := ?_) (a' := ?_) #[true, true, true, true, true, true, true, true, true, false, true, true, false, false, false, false] rfl rfl (any_of HT_.out (by kernel_rfl)) (fun _ _ _ h => h) (Or.inl ⟨by rfl, ?_⟩) ?_ ?_
                                  rotate_left
                                  · intro w'
                                    go_simp
                                    with_reducible rfl
                                  rotate_left
                                  · simp only [Act.put, List.setIfInBounds_toArray, List.set_cons_zero, List.set_cons_succ, i64_w, i32_w]
                                    rfl
                                  refine pure_ (i := 12) (N := some 56) (v := ?_) (a' := ?_) #[true, true, true, true, true, true, true, true, true, false, true, true, true, false, false, false] rfl rfl (any_of HT_.out (by kernel_rfl)) (fun _ _ _ h => h) (Or.inl ⟨by rfl, ?_⟩) ?_ ?_
                                  rotate_left
                                  · intro w'
                                    go_simp
                                    with_reducible rfl
                                  rotate_left
                                  · simp only [Act.put, List.setIfInBounds_toArray, List.set_cons_zero, List.set_cons_succ, i64_w, i32_w]
                                    rfl
                                  refine take_ (i := 9) (N := some 53) (v := ?_) (a' := ?_) #[true, true, true, true, true, true, true, true, true, true, true, true, true, false, false, false] rfl rfl (take_ofW HT_.out HW_.out (by kernel_rfl)) (fun _ _ _ h => h) (Or.inl ⟨by rfl, ?_⟩) hHeld ?_ ?_
                                  rotate_left
                                  · rintro w' ⟨s0, s1, s2, s3⟩
                                    (try simp only [add_plain] at s0 s1 s2 s3)
                                    go_simp
                                    with_reducible rfl
                                  rotate_left
                                  · simp only [Act.put, List.setIfInBounds_toArray, List.set_cons_zero, List.set_cons_succ, i64_w, i32_w]
                                    rfl
                                  refine take_ (i := 13) (N := some 57) (v := ?_) (a' := ?_) #[true, true, true, true, true, true, true, true, true, true, true, true, true, true, false, false] rfl rfl (take_ofW HT_.out HW_.out (by kernel_rfl)) (fun _ _ _ h => h) (Or.inl ⟨by rfl, ?_⟩) hHeld ?_ ?_
                                  rotate_left
                                  · rintro w' ⟨s0, s1, s2, s3⟩
                                    (try simp only [add_plain] at s0 s1 s2 s3)
                                    go_simp
                                    with_reducible rfl
                                  rotate_left
                                  · simp only [Act.put, List.setIfInBounds_toArray, List.set_cons_zero, List.set_cons_succ, i64_w, i32_w]
                                    rfl
                                  refine one_ (i := 14) (N := some 58) #[true, true, true, true, true, true, true, true, true, true, true, true, true, true, true, false] rfl rfl (one_of HT_.out (by kernel_rfl)) (by decide) (fun K hK => ?_)
                                  refine goes_ Try.func14 (by kernel_rfl) rfl #[.agg #[.int .i64 ((rd_T24 x6_1 (ji37)).f0), .int .i64 ((rd_T24 x6_1 (ji37)).f1)], .agg #[.int .i64 ((rd_T24 x6_1 (ji40)).f0), .int .i64 ((rd_T24 x6_1 (ji40)).f1)]] (by rfl) rfl rfl (by (try simp only [List.map_toArray, List.map_cons, List.map_nil]); first | done | (simp only [hji37, hji40]; rfl) | rfl | (simp only [List.length_drop, List.length_take]; rfl)) ?_
                                  with_reducible refine (stolonref12_Less.calls ((rd_T24 x6_1 (ji37)).f0) ((rd_T24 x6_1 (ji37)).f1) ((rd_T24 x6_1 (ji40)).f0) ((rd_T24 x6_1 (ji40)).f1) t322 _ A43.out).mono ?_
                                  rintro e w45 ⟨rfl, hb⟩
                                  have HS0_ := (hb.cell (World.block_lt_of_cell? _ _ (hHeld.1))).trans (hHeld.1)
                                  have HS1_ := (hb.cell (World.block_lt_of_cell? _ _ (hHeld.2.1))).trans (hHeld.2.1)
                                  have HS2_ := (hb.cell (World.block_lt_of_cell? _ _ (hHeld.2.2.1))).trans (hHeld.2.2.1)
                                  have HS3_ := (hb.cell (World.block_lt_of_cell? _ _ (hHeld.2.2.2))).trans (hHeld.2.2.2)
                                  refine ⟨_, rfl, ?_⟩
                                  have n0_ := Aside0.mk (Kd.R_below (by (with_reducible repeat (first | apply Kd.R_alloc | apply Kd.R_drewN | apply Kd.R_drew)); exact HO_6.out) hb)
                                  have n1_ := Aside0.mk (blk_below (g := gb304) (o := .cells #[.int .i64 x305000_1, .int .i64 x305001_1] 24 (0, 0)) (by (with_reducible repeat (first | refine blk_drewN ?_ _ | refine blk_drew ?_ | refine blk_alloc ?_ _)); exact BK304.out) hb)
                                  have n2_ := Aside0.mk (blk_below (g := gb317) (o := .cells #[.int .i64 x318000_1, .int .i64 x318001_1] 24 (0, 0)) (by (with_reducible repeat (first | refine blk_drewN ?_ _ | refine blk_drew ?_ | refine blk_alloc ?_ _)); exact BK317.out) hb)
                                  have n3_ := Aside0.mk (below_step (by repeat (first | (with_reducible first | exact HB.out | apply below_alloc | apply pw_below_drewN | apply below_drew1 | refine below_set ?_ GE304.out | refine below_set ?_ GE317.out) | exact HB.out)) hb)
                                  clear HO_6
                                  clear BK304
                                  clear BK317
                                  clear HB
                                  have HO_6 := n0_
                                  have BK304 := n1_
                                  have BK317 := n2_
                                  have HB := n3_
                                  clear n0_ n1_ n2_ n3_
                                  (try clear hb)
                                  (try clear hb2)
                                  (try clear hk)
                                  (try clear hi)
                                  refine hK.out _ _ ⟨HS0_, HS1_, HS2_, HS3_⟩ (fun hHeld => ?_)
                                  clear hK K
                                  refine norm_ (a' := ?_) ?_ ?_
                                  rotate_left
                                  · show Act.put _ (some 58) _ = _
                                    simp only [Act.put, List.setIfInBounds_toArray, List.set_cons_zero, List.set_cons_succ, i64_w, i32_w]
                                    rfl
                                  refine pure_ (i := 15) (N := some 59) (v := ?_) (a' := ?_) #[true, true, true, true, true, true, true, true, true, true, true, true, true, true, true, true] rfl rfl (any_of HT_.out (by kernel_rfl)) (fun _ _ _ h => h) (Or.inl ⟨by rfl, ?_⟩) ?_ ?_
                                  rotate_left
                                  · intro w'
                                    go_simp
                                    with_reducible rfl
                                  rotate_left
                                  · simp only [Act.put, List.setIfInBounds_toArray, List.set_cons_zero, List.set_cons_succ, i64_w, i32_w]
                                    rfl
                                  refine done_ (done_of HT_.out (by kernel_rfl)) ?_
                                  try go_wp2
                                  subst hji37
                                  subst hji40
                                  go_meet
                                  case rel => exact ⟨_, (t322), (by first | rfl | (simp; done) | (simp [*]; done)), H', ⟨by have := HK1.out; first | omega | exact Nat.le_refl _⟩, ⟨by (try simp only [hl6_1]); (with_reducible repeat (first | apply Kd.R_alloc | apply Kd.R_drewN | apply Kd.R_drew)); exact HO_6.out⟩, ⟨by (try simp only [hl6_1]); (with_reducible repeat (first | refine blk_drewN ?_ _ | refine blk_drew ?_ | refine blk_alloc ?_ _)); exact BK304.out⟩, ⟨by (try simp only [hl6_1]); (with_reducible repeat (first | refine blk_drewN ?_ _ | refine blk_drew ?_ | refine blk_alloc ?_ _)); exact BK317.out⟩, ⟨by repeat (first | (with_reducible first | exact HB.out | apply below_alloc | apply pw_below_drewN | apply below_drew1 | refine below_set ?_ GE304.out | refine below_set ?_ GE317.out) | exact HB.out)⟩⟩
                                · rw [if_neg c42] at H
                                  exact absurd H (by simp)
                              · rw [if_neg c41] at H
                                exact absurd H (by simp)
                            · rw [if_neg c39] at H
                              exact absurd H (by simp)
                          · rw [if_neg c38] at H
                            exact absurd H (by simp)
                        · rw [if_neg c36] at H
                          have c36b0 : decide ((wrap64 ((wrap64 ((wrap64 (2 * x8_1)) + 1)) + 1)) < ji5) = false := decide_eq_false c36
                          clear c36
                          (first | rw [c36b0] | (simp only [i64_w, i32_w]; rw [c36b0]) | skip)
                          have H' := Aside0.mk H
                          clear H
                          try go_wp2
                          have n0_ := Aside0.mk (Kd.R_drew HO_6.out)
                          have n1_ := Aside0.mk (blk_drew BK304.out)
                          have n2_ := Aside0.mk (blk_drew BK317.out)
                          have n3_ := Aside0.mk (below_drew1 HB.out)
                          clear HO_6
                          clear BK304
                          clear BK317
                          clear HB
                          have HO_6 := n0_
                          have BK304 := n1_
                          have BK317 := n2_
                          have HB := n3_
                          clear n0_ n1_ n2_ n3_
                          refine start_ (n := 16) (S := fun w' => True) (ds := []) #[false, false, false, false, false, false, false, false, false, false, false, false, false, false, false, false] (by kernel_rfl) rfl rfl trivial (fun hHeld => ?_); refine with_tabW stolonref12_Pop.tab12 stolonref12_Pop.bits12 (fun HT_ HW_ => ?_)
                          generalize wr.drew = w46 at HO_6 BK304 BK317 HB hHeld ⊢
                          refine pure_ (i := 0) (N := some 44) (v := ?_) (a' := ?_) #[true, false, false, false, false, false, false, false, false, false, false, false, false, false, false, false] rfl rfl (any_of HT_.out (by kernel_rfl)) (fun _ _ _ h => h) (Or.inl ⟨by rfl, ?_⟩) ?_ ?_
                          rotate_left
                          · intro w'
                            go_simp
                            with_reducible rfl
                          rotate_left
                          · simp only [Act.put, List.setIfInBounds_toArray, List.set_cons_zero, List.set_cons_succ, i64_w, i32_w]
                            rfl
                          refine pure_ (i := 1) (N := some 45) (v := ?_) (a' := ?_) #[true, true, false, false, false, false, false, false, false, false, false, false, false, false, false, false] rfl rfl (any_of HT_.out (by kernel_rfl)) (fun _ _ _ h => h) (Or.inl ⟨by rfl, ?_⟩) ?_ ?_
                          rotate_left
                          · intro w'
                            go_simp
                            with_reducible rfl
                          rotate_left
                          · simp only [Act.put, List.setIfInBounds_toArray, List.set_cons_zero, List.set_cons_succ, i64_w, i32_w]
                            rfl
                          refine pure_ (i := 2) (N := some 46) (v := ?_) (a' := ?_) #[true, true, true, false, false, false, false, false, false, false, false, false, false, false, false, false] rfl rfl (any_of HT_.out (by kernel_rfl)) (fun _ _ _ h => h) (Or.inl ⟨by rfl, ?_⟩) ?_ ?_
                          rotate_left
                          · intro w'
                            go_simp
                            with_reducible rfl
                          rotate_left
                          · simp only [Act.put, List.setIfInBounds_toArray, List.set_cons_zero, List.set_cons_succ, i64_w, i32_w]
                            rfl
                          refine pure_ (i := 3) (N := some 47) (v := ?_) (a' := ?_) #[true, true, true, true, false, false, false, false, false, false, false, false, false, false, false, false] rfl rfl (any_of HT_.out (by kernel_rfl)) (fun _ _ _ h => h) (Or.inl ⟨by rfl, ?_⟩) ?_ ?_
                          rotate_left
                          · intro w'
                            go_simp
                            with_reducible rfl
                          rotate_left
                          · simp only [Act.put, List.setIfInBounds_toArray, List.set_cons_zero, List.set_cons_succ, i64_w, i32_w]
                            rfl
                          refine pure_ (i := 4) (N := some 48) (v := ?_) (a' := ?_) #[true, true, true, true, true, false, false, false, false, false, false, false, false, false, false, false] rfl rfl (any_of HT_.out (by kernel_rfl)) (fun _ _ _ h => h) (Or.inl ⟨by rfl, ?_⟩) ?_ ?_
                          rotate_left
                          · intro w'
                            go_simp
                            with_reducible rfl
                          rotate_left
                          · simp only [Act.put, List.setIfInBounds_toArray, List.set_cons_zero, List.set_cons_succ, i64_w, i32_w]
                            rfl
                          refine pure_ (i := 5) (N := some 49) (v := undef) (a' := ?_) #[true, true, true, true, true, true, false, false, false, false, false, false, false, false, false, false] rfl rfl (any_of HT_.out (by kernel_rfl)) (fun _ _ _ h => h) (Or.inr ⟨by rfl, rfl⟩) ?_ ?_
                          rotate_left
                          · simp only [Act.put, List.setIfInBounds_toArray, List.set_cons_zero, List.set_cons_succ, i64_w, i32_w]
                            rfl
                          refine pure_ (i := 6) (N := some 50) (v := undef) (a' := ?_) #[true, true, true, true, true, true, true, false, false, false, false, false, false, false, false, false] rfl rfl (any_of HT_.out (by kernel_rfl)) (fun _ _ _ h => h) (Or.inr ⟨by rfl, rfl⟩) ?_ ?_
                          rotate_left
                          · simp only [Act.put, List.setIfInBounds_toArray, List.set_cons_zero, List.set_cons_succ, i64_w, i32_w]
                            rfl
                          refine pure_ (i := 7) (N := some 51) (v := undef) (a' := ?_) #[true, true, true, true, true, true, true, true, false, false, false, false, false, false, false, false] rfl rfl (any_of HT_.out (by kernel_rfl)) (fun _ _ _ h => h) (Or.inr ⟨by rfl, rfl⟩) ?_ ?_
                          rotate_left
                          · simp only [Act.put, List.setIfInBounds_toArray, List.set_cons_zero, List.set_cons_succ, i64_w, i32_w]
                            rfl
                          refine pure_ (i := 8) (N := some 52) (v := undef) (a' := ?_) #[true, true, true, true, true, true, true, true, true, false, false, false, false, false, false, false] rfl rfl (any_of HT_.out (by kernel_rfl)) (fun _ _ _ h => h) (Or.inr ⟨by rfl, rfl⟩) ?_ ?_
                          rotate_left
                          · simp only [Act.put, List.setIfInBounds_toArray, List.set_cons_zero, List.set_cons_succ, i64_w, i32_w]
                            rfl
                          refine pure_ (i := 9) (N := some 53) (v := undef) (a' := ?_) #[true, true, true, true, true, true, true, true, true, true, false, false, false, false, false, false] rfl rfl (any_of HT_.out (by kernel_rfl)) (fun _ _ _ h => h) (Or.inr ⟨by rfl, rfl⟩) ?_ ?_
                          rotate_left
                          · simp only [Act.put, List.setIfInBounds_toArray, List.set_cons_zero, List.set_cons_succ, i64_w, i32_w]
                            rfl
                          refine pure_ (i := 10) (N := some 54) (v := undef) (a' := ?_) #[true, true, true, true, true, true, true, true, true, true, true, false, false, false, false, false] rfl rfl (any_of HT_.out (by kernel_rfl)) (fun _ _ _ h => h) (Or.inr ⟨by rfl, rfl⟩) ?_ ?_
                          rotate_left
                          · simp only [Act.put, List.setIfInBounds_toArray, List.set_cons_zero, List.set_cons_succ, i64_w, i32_w]
                            rfl
                          refine pure_ (i := 11) (N := some 55) (v := undef) (a' := ?_) #[true, true, true, true, true, true, true, true, true, true, true, true, false, false, false, false] rfl rfl (any_of HT_.out (by kernel_rfl)) (fun _ _ _ h => h) (Or.inr ⟨by rfl, rfl⟩) ?_ ?_
                          rotate_left
                          · simp only [Act.put, List.setIfInBounds_toArray, List.set_cons_zero, List.set_cons_succ, i64_w, i32_w]
                            rfl
                          refine pure_ (i := 12) (N := some 56) (v := undef) (a' := ?_) #[true, true, true, true, true, true, true, true, true, true, true, true, true, false, false, false] rfl rfl (any_of HT_.out (by kernel_rfl)) (fun _ _ _ h => h) (Or.inr ⟨by rfl, rfl⟩) ?_ ?_
                          rotate_left
                          · simp only [Act.put, List.setIfInBounds_toArray, List.set_cons_zero, List.set_cons_succ, i64_w, i32_w]
                            rfl
                          refine pure_ (i := 13) (N := some 57) (v := undef) (a' := ?_) #[true, true, true, true, true, true, true, true, true, true, true, true, true, true, false, false] rfl rfl (any_of HT_.out (by kernel_rfl)) (fun _ _ _ h => h) (Or.inr ⟨by rfl, rfl⟩) ?_ ?_
                          rotate_left
                          · simp only [Act.put, List.setIfInBounds_toArray, List.set_cons_zero, List.set_cons_succ, i64_w, i32_w]
                            rfl
                          refine pure_ (i := 14) (N := some 58) (v := undef) (a' := ?_) #[true, true, true, true, true, true, true, true, true, true, true, true, true, true, true, false] rfl rfl (any_of HT_.out (by kernel_rfl)) (fun _ _ _ h => h) (Or.inr ⟨by rfl, rfl⟩) ?_ ?_
                          rotate_left
                          · simp only [Act.put, List.setIfInBounds_toArray, List.set_cons_zero, List.set_cons_succ, i64_w, i32_w]
                            rfl
                          refine pure_ (i := 15) (N := some 59) (v := ?_) (a' := ?_) #[true, true, true, true, true, true, true, true, true, true, true, true, true, true, true, true] rfl rfl (any_of HT_.out (by kernel_rfl)) (fun _ _ _ h => h) (Or.inl ⟨by rfl, ?_⟩) ?_ ?_
                          rotate_left
                          · intro w'
                            go_simp
                            with_reducible rfl
                          rotate_left
                          · simp only [Act.put, List.setIfInBounds_toArray, List.set_cons_zero, List.set_cons_succ, i64_w, i32_w]
                            rfl
                          refine done_ (done_of HT_.out (by kernel_rfl)) ?_
                          try go_wp2
                          go_meet
                          case rel => exact ⟨_, (false), (by first | rfl | (simp; done) | (simp [*]; done)), H', ⟨by have := HK1.out; first | omega | exact Nat.le_refl _⟩, ⟨by (try simp only [hl6_1]); (with_reducible repeat (first | apply Kd.R_alloc | apply Kd.R_drewN | apply Kd.R_drew)); exact HO_6.out⟩, ⟨by (try simp only [hl6_1]); (with_reducible repeat (first | refine blk_drewN ?_ _ | refine blk_drew ?_ | refine blk_alloc ?_ _)); exact BK304.out⟩, ⟨by (try simp only [hl6_1]); (with_reducible repeat (first | refine blk_drewN ?_ _ | refine blk_drew ?_ | refine blk_alloc ?_ _)); exact BK317.out⟩, ⟨by repeat (first | (with_reducible first | exact HB.out | apply below_alloc | apply pw_below_drewN | apply below_drew1 | refine below_set ?_ GE304.out | refine below_set ?_ GE317.out) | exact HB.out)⟩⟩
                      case rest =>
                        clear HC35
                        try clear c1
                        try clear q1
                        try clear c2
                        try clear c2b0
                        try clear c2b1
                        try clear c2b2
                        try clear p2
                        try clear q2
                        try clear hx2
                        try clear qi2
                        try clear hf2
                        try clear c3
                        try clear p3
                        try clear q3
                        try clear hx3
                        try clear qi3
                        try clear hf3
                        try clear c4
                        try clear c6
                        try clear c6b0
                        try clear c6b1
                        try clear p6
                        try clear c7
                        try clear c7b0
                        try clear c7b1
                        try clear c8
                        try clear c9
                        try clear c9b0
                        try clear c9b1
                        try clear c10
                        try clear c10b0
                        try clear c10b1
                        try clear c14
                        try clear q14
                        try clear c19
                        try clear c19b0
                        try clear c20
                        try clear c20b0
                        try clear c20b1
                        try clear c21
                        try clear p21
                        try clear q21
                        try clear hx21
                        try clear qi21
                        try clear hf21
                        try clear q25
                        try clear c28
                        try clear p31
                        try clear q31
                        try clear hx31
                        try clear qi31
                        try clear c32
                        try clear p32
                        try clear q32
                        try clear hx32
                        try clear hf32
                        try clear c34
                        try clear c34b0
                        try clear c36
                        try clear c36b0
                        try clear c38
                        try clear c38b0
                        try clear c39
                        try clear c39b0
                        try clear c41
                        try clear c41b0
                        try clear c42
                        try clear c42b0
                        try clear hcz29_0
                        try clear hcz29_1
                        try clear hcz31_0
                        try clear hcz31_1
                        try clear hcz4_0
                        try clear hcz4_1
                        try clear hfz29_0
                        try clear hfz29_1
                        try clear hfz31_0
                        try clear hfz31_1
                        try clear hfz4_0
                        try clear hfz4_1
                        try clear hx21_0
                        try clear hx21_1
                        try clear hx315_0
                        try clear hx315_1
                        try clear hx316_0
                        try clear hx316_1
                        try clear hx320_0
                        try clear hx320_1
                        try clear hx321_0
                        try clear hx321_1
                        try clear hx32_0
                        try clear hx32_1
                        try clear p2
                        try clear p21
                        try clear p3
                        try clear p31
                        try clear p315
                        try clear p316
                        try clear p320
                        try clear p321
                        try clear p6
                        try clear q1
                        try clear q14
                        try clear q2
                        try clear q21
                        try clear q25
                        try clear q3
                        try clear q31
                        try clear q315
                        try clear q316
                        try clear q320
                        try clear q321
                        obtain ⟨kq, x59_34, rfl, HA, HJ34, HO_6, BK304, BK317, HB⟩ := hcut
                        cases kq with
                        | zero => exact absurd HA.out (by simp [stolonref12_Pop.j1])
                        | succ kj34 =>
                          have H := HA.out
                          clear HA
                          simp only [stolonref12_Pop.j1] at H
                          by_cases c47 : x59_34 = true
                          · subst c47
                            have H1 : (if 0 ≤ (wrap64 ((wrap64 ((wrap64 (2 * x8_1)) + 1)) + 1)) then (if (wrap64 ((wrap64 ((wrap64 (2 * x8_1)) + 1)) + 1)) < (x6_1.length : Int) then ((stolonref12_Less.f ((rd_T24 x6_1 (wrap64 ((wrap64 ((wrap64 (2 * x8_1)) + 1)) + 1))).f0) ((rd_T24 x6_1 (wrap64 ((wrap64 ((wrap64 (2 * x8_1)) + 1)) + 1))).f1) x318000_1 x318001_1).bind fun t324 => (if t324 = true then (if 0 ≤ x8_1 then (if x8_1 < (x6_1.length : Int) then (stolonref12_Pop.l0 kj34 l0 ji5 ((x6_1.set (x8_1 : Int).toNat (⟨(rd_T24 x6_1 (wrap64 ((wrap64 ((wrap64 (2 * x8_1)) + 1)) + 1))).f0, (rd_T24 x6_1 (wrap64 ((wrap64 ((wrap64 (2 * x8_1)) + 1)) + 1))).f1⟩ : S24)).set ((wrap64 ((wrap64 ((wrap64 (2 * x8_1)) + 1)) + 1)) : Int).toNat (⟨x318000_1, x318001_1⟩ : S24)) (wrap64 ((wrap64 ((wrap64 (2 * x8_1)) + 1)) + 1)) x318000_1 x318001_1) else (none)) else (none)) else (if 0 < (l0.length : Int) then (some (x6_1, (rd_T24 l0 0).f0, (rd_T24 l0 0).f1, true)) else (none)))) else (none)) else (none)) = some (r1, r2, r3, r4) := by rw [if_pos rfl] at H; exact H
                            clear H
                            have H := H1
                            clear H1
                            obtain ⟨ji48, hji48⟩ : ∃ j_ : Int, (wrap64 ((wrap64 ((wrap64 (2 * x8_1)) + 1)) + 1)) = j_ := ⟨_, rfl⟩
                            replace H : (if 0 ≤ (ji48) then (if (ji48) < (x6_1.length : Int) then ((stolonref12_Less.f ((rd_T24 x6_1 (ji48)).f0) ((rd_T24 x6_1 (ji48)).f1) x318000_1 x318001_1).bind fun t324 => (if t324 = true then (if 0 ≤ x8_1 then (if x8_1 < (x6_1.length : Int) then (stolonref12_Pop.l0 kj34 l0 ji5 ((x6_1.set (x8_1 : Int).toNat (⟨(rd_T24 x6_1 (ji48)).f0, (rd_T24 x6_1 (ji48)).f1⟩ : S24)).set ((ji48) : Int).toNat (⟨x318000_1, x318001_1⟩ : S24)) ji48 x318000_1 x318001_1) else (none)) else (none)) else (if 0 < (l0.length : Int) then (some (x6_1, (rd_T24 l0 0).f0, (rd_T24 l0 0).f1, true)) else (none)))) else (none)) else (none)) = some (r1, r2, r3, r4) := by first | (rw [hji48] at H; exact H) | (simp only [hji48] at H ⊢; exact H)
                            have hji48w : (IntKind.i64.wrap ((wrap64 ((wrap64 (2 * x8_1)) + 1)) + 1)) = ji48 := (i64_w _).trans hji48
                            by_cases c49 : 0 ≤ (ji48)
                            · rw [if_pos c49] at H
                              have c49b0 : decide (0 ≤ (ji48)) = true := decide_eq_true c49
                              clear c49
                              by_cases c50 : (ji48) < (x6_1.length : Int)
                              · rw [if_pos c50] at H
                                have c50b0 : decide ((ji48) < (x6_1.length : Int)) = true := decide_eq_true c50
                                clear c50
                                replace H := Option.bind_eq_some_iff.mp H
                                obtain ⟨t324, A510, H⟩ := H
                                replace H : (if t324 = true then (if 0 ≤ x8_1 then (if x8_1 < (x6_1.length : Int) then (stolonref12_Pop.l0 kj34 l0 ji5 ((x6_1.set (x8_1 : Int).toNat (⟨(rd_T24 x6_1 (ji48)).f0, (rd_T24 x6_1 (ji48)).f1⟩ : S24)).set ((ji48) : Int).toNat (⟨x318000_1, x318001_1⟩ : S24)) ji48 x318000_1 x318001_1) else (none)) else (none)) else (if 0 < (l0.length : Int) then (some (x6_1, (rd_T24 l0 0).f0, (rd_T24 l0 0).f1, true)) else (none))) = some (r1, r2, r3, r4) := H
                                have A51 := Aside0.mk A510
                                clear A510
                                by_cases c52 : t324 = true
                                · subst c52
                                  have H1 : (if 0 ≤ x8_1 then (if x8_1 < (x6_1.length : Int) then (stolonref12_Pop.l0 kj34 l0 ji5 ((x6_1.set (x8_1 : Int).toNat (⟨(rd_T24 x6_1 (ji48)).f0, (rd_T24 x6_1 (ji48)).f1⟩ : S24)).set ((ji48) : Int).toNat (⟨x318000_1, x318001_1⟩ : S24)) ji48 x318000_1 x318001_1) else (none)) else (none)) = some (r1, r2, r3, r4) := by rw [if_pos rfl] at H; exact H
                                  clear H
                                  have H := H1
                                  clear H1
                                  by_cases c53 : 0 ≤ x8_1
                                  · rw [if_pos c53] at H
                                    have c53b0 : decide (0 ≤ x8_1) = true := decide_eq_true c53
                                    clear c53
                                    by_cases c54 : x8_1 < (x6_1.length : Int)
                                    · rw [if_pos c54] at H
                                      have c54b0 : decide (x8_1 < (x6_1.length : Int)) = true := decide_eq_true c54
                                      clear c54
                                      obtain ⟨y326, hy326⟩ : ∃ y_ : List (S24), y_ = (x6_1.set (x8_1 : Int).toNat (⟨(rd_T24 x6_1 (ji48)).f0, (rd_T24 x6_1 (ji48)).f1⟩ : S24)) := ⟨_, rfl⟩
                                      replace H : (stolonref12_Pop.l0 kj34 l0 ji5 (y326.set ((ji48) : Int).toNat (⟨x318000_1, x318001_1⟩ : S24)) ji48 x318000_1 x318001_1) = some (r1, r2, r3, r4) := by first | (rw [hy326]; with_reducible exact H) | (have H2_ := (Option.bind_some _ _).symm.trans H; rw [hy326]; with_reducible exact H2_) | (have H2_ := (Option.bind_some _ _).symm.trans H; with_reducible exact H2_) | with_reducible exact H | (rw [hy326]; exact H) | exact H
                                      have Ny326 := Aside0.mk hy326
                                      clear hy326
                                      obtain ⟨y327, hy327⟩ : ∃ y_ : List (S24), y_ = (y326.set ((ji48) : Int).toNat (⟨x318000_1, x318001_1⟩ : S24)) := ⟨_, rfl⟩
                                      replace H : (stolonref12_Pop.l0 kj34 l0 ji5 y327 ji48 x318000_1 x318001_1) = some (r1, r2, r3, r4) := by first | (rw [hy327]; with_reducible exact H) | (have H2_ := (Option.bind_some _ _).symm.trans H; rw [hy327]; with_reducible exact H2_) | (have H2_ := (Option.bind_some _ _).symm.trans H; with_reducible exact H2_) | with_reducible exact H | (rw [hy327]; exact H) | exact H
                                      have Ny327 := Aside0.mk hy327
                                      clear hy327
                                      have H' := Aside0.mk H
                                      clear H
                                      try go_wp2
                                      have n0_ := Aside0.mk (Kd.R_drew HO_6.out)
                                      have n1_ := Aside0.mk (blk_drew BK304.out)
                                      have n2_ := Aside0.mk (blk_drew BK317.out)
                                      have n3_ := Aside0.mk (below_drew1 HB.out)
                                      clear HO_6
                                      clear BK304
                                      clear BK317
                                      clear HB
                                      have HO_6 := n0_
                                      have BK304 := n1_
                                      have BK317 := n2_
                                      have HB := n3_
                                      clear n0_ n1_ n2_ n3_
                                      have p323 : 0 ≤ ((ji48) : Int) := of_decide_eq_true (by first | (with_reducible assumption) | assumption)
                                      have q323 : (ji48) < (x6_1.length : Int) := of_decide_eq_true (by first | (with_reducible assumption) | assumption)
                                      obtain ⟨ad323, e323, hx323_0, hx323_1⟩ := at_T24 (Kd.R_reads' HO_6.out).2.2 (ji48) p323 q323
                                      obtain rfl : (⟨go21, 0, none⟩ : Addr) = ad323 := (by injection e323)
                                      (first | simp only [add_plain] at hx323_0 | simp only [add_at] at hx323_0 | simp only [Addr.add, Nat.zero_add] at hx323_0 | skip)
                                      (first | simp only [add_plain] at hx323_1 | simp only [add_at] at hx323_1 | simp only [Addr.add, Nat.zero_add] at hx323_1 | skip)
                                      replace p323 := eq_true p323
                                      replace q323 := eq_true q323
                                      refine start_ (n := 7) (S := fun w' => w'.cell? ⟨gb317, 0, none⟩ = some (.int .i64 x318000_1) ∧ w'.cell? ⟨gb317, 1, none⟩ = some (.int .i64 x318001_1) ∧ w'.cell? ⟨go21, ((ji48)).toNat * 2, none⟩ = some (.int .i64 ((rd_T24 x6_1 (ji48)).f0)) ∧ w'.cell? ⟨go21, ((ji48)).toNat * 2 + 1, none⟩ = some (.int .i64 ((rd_T24 x6_1 (ji48)).f1))) (ds := []) #[false, false, false, false, false, false, false] (by kernel_rfl) rfl rfl ⟨(blk_cell BK317.out 0).trans rfl, (blk_cell BK317.out 1).trans rfl, hx323_0, hx323_1⟩ (fun hHeld => ?_)
                                      generalize wc.drew = w57 at HO_6 BK304 BK317 HB hx323_0 hx323_1 hHeld ⊢
                                      refine pure_ (i := 0) (N := some 62) (v := ?_) (a' := ?_) #[true, false, false, false, false, false, false] rfl rfl (by kernel_rfl) (fun _ _ _ h => h) (Or.inl ⟨by rfl, ?_⟩) ?_ ?_
                                      rotate_left
                                      · intro w'
                                        go_simp
                                        with_reducible rfl
                                      rotate_left
                                      · simp only [Act.put, List.setIfInBounds_toArray, List.set_cons_zero, List.set_cons_succ, i64_w, i32_w]
                                        rfl
                                      refine pure_ (i := 1) (N := some 63) (v := ?_) (a' := ?_) #[true, true, false, false, false, false, false] rfl rfl (by kernel_rfl) (fun _ _ _ h => h) (Or.inl ⟨by rfl, ?_⟩) ?_ ?_
                                      rotate_left
                                      · intro w'
                                        go_simp
                                        with_reducible rfl
                                      rotate_left
                                      · simp only [Act.put, List.setIfInBounds_toArray, List.set_cons_zero, List.set_cons_succ, i64_w, i32_w]
                                        rfl
                                      refine pure_ (i := 2) (N := some 64) (v := ?_) (a' := ?_) #[true, true, true, false, false, false, false] rfl rfl (by kernel_rfl) (fun _ _ _ h => h) (Or.inl ⟨by rfl, ?_⟩) ?_ ?_
                                      rotate_left
                                      · intro w'
                                        go_simp
                                        with_reducible rfl
                                      rotate_left
                                      · simp only [Act.put, List.setIfInBounds_toArray, List.set_cons_zero, List.set_cons_succ, i64_w, i32_w]
                                        rfl
                                      refine take_ (i := 3) (N := some 65) (v := ?_) (a' := ?_) #[true, true, true, true, false, false, false] rfl rfl (by kernel_rfl) (fun _ _ _ h => h) (Or.inl ⟨by rfl, ?_⟩) hHeld ?_ ?_
                                      rotate_left
                                      · rintro w' ⟨s0, s1, s2, s3⟩
                                        (try simp only [add_plain] at s0 s1 s2 s3)
                                        go_simp
                                        with_reducible rfl
                                      rotate_left
                                      · simp only [Act.put, List.setIfInBounds_toArray, List.set_cons_zero, List.set_cons_succ, i64_w, i32_w]
                                        rfl
                                      refine take_ (i := 4) (N := some 66) (v := ?_) (a' := ?_) #[true, true, true, true, true, false, false] rfl rfl (by kernel_rfl) (fun _ _ _ h => h) (Or.inl ⟨by rfl, ?_⟩) hHeld ?_ ?_
                                      rotate_left
                                      · rintro w' ⟨s0, s1, s2, s3⟩
                                        (try simp only [add_plain] at s0 s1 s2 s3)
                                        go_simp
                                        with_reducible rfl
                                      rotate_left
                                      · simp only [Act.put, List.setIfInBounds_toArray, List.set_cons_zero, List.set_cons_succ, i64_w, i32_w]
                                        rfl
                                      refine one_ (i := 5) (N := some 67) #[true, true, true, true, true, true, false] rfl rfl (by kernel_rfl) (by decide) (fun K hK => ?_)
                                      refine goes_ Try.func14 (by kernel_rfl) rfl #[.agg #[.int .i64 ((rd_T24 x6_1 (ji48)).f0), .int .i64 ((rd_T24 x6_1 (ji48)).f1)], .agg #[.int .i64 x318000_1, .int .i64 x318001_1]] (by rfl) rfl rfl (by (try simp only [List.map_toArray, List.map_cons, List.map_nil]); first | done | (simp only [hji48]; rfl) | rfl | (simp only [List.length_drop, List.length_take]; rfl)) ?_
                                      with_reducible refine (stolonref12_Less.calls ((rd_T24 x6_1 (ji48)).f0) ((rd_T24 x6_1 (ji48)).f1) x318000_1 x318001_1 true _ A51.out).mono ?_
                                      rintro e w58 ⟨rfl, hb⟩
                                      have HS2_ := (hb.cell (World.block_lt_of_cell? _ _ (hHeld.2.2.1))).trans (hHeld.2.2.1)
                                      have HS3_ := (hb.cell (World.block_lt_of_cell? _ _ (hHeld.2.2.2))).trans (hHeld.2.2.2)
                                      refine ⟨_, rfl, ?_⟩
                                      have n0_ := Aside0.mk (Kd.R_below (by (with_reducible repeat (first | apply Kd.R_alloc | apply Kd.R_drewN | apply Kd.R_drew)); exact HO_6.out) hb)
                                      have n1_ := Aside0.mk (blk_below (g := gb304) (o := .cells #[.int .i64 x305000_1, .int .i64 x305001_1] 24 (0, 0)) (by (with_reducible repeat (first | refine blk_drewN ?_ _ | refine blk_drew ?_ | refine blk_alloc ?_ _)); exact BK304.out) hb)
                                      have n2_ := Aside0.mk (blk_below (g := gb317) (o := .cells #[.int .i64 x318000_1, .int .i64 x318001_1] 24 (0, 0)) (by (with_reducible repeat (first | refine blk_drewN ?_ _ | refine blk_drew ?_ | refine blk_alloc ?_ _)); exact BK317.out) hb)
                                      have n3_ := Aside0.mk (below_step (by repeat (first | (with_reducible first | exact HB.out | apply below_alloc | apply pw_below_drewN | apply below_drew1 | refine below_set ?_ GE304.out | refine below_set ?_ GE317.out) | exact HB.out)) hb)
                                      clear HO_6
                                      clear BK304
                                      clear BK317
                                      clear HB
                                      have HO_6 := n0_
                                      have BK304 := n1_
                                      have BK317 := n2_
                                      have HB := n3_
                                      clear n0_ n1_ n2_ n3_
                                      (try clear hb)
                                      (try clear hb2)
                                      (try clear hk)
                                      (try clear hi)
                                      refine hK.out _ _ ⟨(blk_cell BK317.out 0).trans rfl, (blk_cell BK317.out 1).trans rfl, HS2_, HS3_⟩ (fun hHeld => ?_)
                                      clear hK K
                                      refine norm_ (a' := ?_) ?_ ?_
                                      rotate_left
                                      · show Act.put _ (some 67) _ = _
                                        simp only [Act.put, List.setIfInBounds_toArray, List.set_cons_zero, List.set_cons_succ, i64_w, i32_w]
                                        rfl
                                      refine pure_ (i := 6) (N := some 10) (v := ?_) (a' := ?_) #[true, true, true, true, true, true, true] rfl rfl (by kernel_rfl) (fun _ _ _ h => h) (Or.inl ⟨by rfl, ?_⟩) ?_ ?_
                                      rotate_left
                                      · intro w'
                                        go_simp
                                        with_reducible rfl
                                      rotate_left
                                      · simp only [Act.put, List.setIfInBounds_toArray, List.set_cons_zero, List.set_cons_succ, i64_w, i32_w]
                                        rfl
                                      refine done_ (by kernel_rfl) ?_
                                      have p325 : 0 ≤ ((ji48) : Int) := of_decide_eq_true (by first | (with_reducible assumption) | assumption)
                                      have q325 : (ji48) < (x6_1.length : Int) := of_decide_eq_true (by first | (with_reducible assumption) | assumption)
                                      obtain ⟨ad325, e325, hx325_0, hx325_1⟩ := at_T24 (Kd.R_reads' HO_6.out).2.2 (ji48) p325 q325
                                      obtain rfl : (⟨go21, 0, none⟩ : Addr) = ad325 := (by injection e325)
                                      (first | simp only [add_plain] at hx325_0 | simp only [add_at] at hx325_0 | simp only [Addr.add, Nat.zero_add] at hx325_0 | skip)
                                      (first | simp only [add_plain] at hx325_1 | simp only [add_at] at hx325_1 | simp only [Addr.add, Nat.zero_add] at hx325_1 | skip)
                                      replace p325 := eq_true p325
                                      replace q325 := eq_true q325
                                      have p55 : 0 ≤ (x8_1 : Int) := of_decide_eq_true (by first | (with_reducible assumption) | assumption)
                                      have q55 : (x8_1 : Int) < ((x6_1.length : Int) : Int) := of_decide_eq_true (by first | (with_reducible assumption) | assumption)
                                      obtain ⟨ce55, hcl55, hM55, hcc55, hfr55⟩ := Kd.R_elem HO_6.out z24 (x8_1 : Int) p55 q55
                                      obtain rfl := k24_openM hM55
                                      have hx55_0 : w58.cell? ⟨go21, (x8_1 : Int).toNat * 2, none⟩ = some (.int .i64 ((rd_T24 x6_1 x8_1).f0)) := hcc55 0 _ rfl
                                      have hx55_1 : w58.cell? ⟨go21, (x8_1 : Int).toNat * 2 + 1, none⟩ = some (.int .i64 ((rd_T24 x6_1 x8_1).f1)) := hcc55 1 _ rfl
                                      have hf55_0 : w58.frozen? ⟨go21, (x8_1 : Int).toNat * 2, none⟩ = false := hfr55 0
                                      have hf55_1 : w58.frozen? ⟨go21, (x8_1 : Int).toNat * 2 + 1, none⟩ = false := hfr55 1
                                      clear hcl55 hcc55 hfr55 hM55
                                      replace p55 := eq_true p55
                                      replace q55 := eq_true q55
                                      have HX59 := Aside0.mk (show Kd.R k24 24 w58 w.heap.size (fun k_ => k_ ≠ gb304 ∧ k_ ≠ gb317) (.slice (some ⟨go21, 0, none⟩) x6_1.length co21) x6_1 from (by (with_reducible repeat (first | apply Kd.R_alloc | apply Kd.R_drewN | apply Kd.R_drew)); exact HO_6.out))
                                      obtain ⟨ce59, hcl59, hM59, hcc59, hfr59⟩ := Kd.R_elem HX59.out z24 (x8_1 : Int) (of_decide_eq_true (by first | (with_reducible assumption) | assumption)) (by have h_ : (x8_1 : Int) < ((x6_1.length : Int) : Int) := of_decide_eq_true (by first | (with_reducible assumption) | assumption); first | exact h_ | (have e_ := (Kd.R_reads' HO_6.out).1; omega) | simpa using h_)
                                      obtain rfl := k24_openM hM59
                                      have HP59 := Kd.R_seg HX59.out (x8_1 : Int) (of_decide_eq_true (by first | (with_reducible assumption) | assumption)) (by have h_ : (x8_1 : Int) < ((x6_1.length : Int) : Int) := of_decide_eq_true (by first | (with_reducible assumption) | assumption); first | exact h_ | (have e_ := (Kd.R_reads' HO_6.out).1; omega) | simpa using h_) (seg := [.int .i64 ((rd_T24 x6_1 (ji48)).f0), .int .i64 ((rd_T24 x6_1 (ji48)).f1)]) (j := 0) hcl59 hcc59 (show 2 ≤ 2 from by decide) (x' := (⟨(rd_T24 x6_1 (ji48)).f0, (rd_T24 x6_1 (ji48)).f1⟩ : S24)) (k24_mkM _ _ _ (⟨(rd_T24 x6_1 (ji48)).f0, (rd_T24 x6_1 (ji48)).f1⟩ : S24) ) (fun _ hk => hk)
                                      have hx59_0 := hcc59 0 _ rfl
                                      (try simp only [show (k24).sz = 2 from rfl, Nat.mul_one, Nat.add_zero] at hx59_0)
                                      have hf59_0 := hfr59 0
                                      (try simp only [show (k24).sz = 2 from rfl, Nat.mul_one, Nat.add_zero] at hf59_0)
                                      have hx59_1 := hcc59 1 _ rfl
                                      (try simp only [show (k24).sz = 2 from rfl, Nat.mul_one, Nat.add_zero] at hx59_1)
                                      have hf59_1 := hfr59 1
                                      (try simp only [show (k24).sz = 2 from rfl, Nat.mul_one, Nat.add_zero] at hf59_1)
                                      clear hcl59 hcc59 hfr59 hM59
                                      try go_wp2_with (first | ((with_reducible refine gate_store (t := 24) (p := 76) rfl ?_); refine store_event (t := 24) (p := 76) (v := ?vo_w60) (w1 := ((w58.setCell ⟨go21, (x8_1 : Int).toNat * 2, none⟩ (.int .i64 ((rd_T24 x6_1 (ji48)).f0))).setCell ⟨go21, (x8_1 : Int).toNat * 2 + 1, none⟩ (.int .i64 ((rd_T24 x6_1 (ji48)).f1)))) ?hg ?ho ?hn ?hr ?_; (case ho => rfl); (case hg => rfl); (case hn => rfl); (case hr => first | (go_simp; done) | (go_simp; rfl)); intro w60 hw; have hg : w58.grownBy w60 (some go21) := (by rw [hw]; exact HP59.2); have hp_ : Kd.R k24 24 w60 w.heap.size (fun k_ => k_ ≠ gb304 ∧ k_ ≠ gb317) (.slice (some ⟨go21, 0, none⟩) x6_1.length co21) y326 := (by rw [hw, Ny326.out]; exact HP59.1); clear HP59; have n0_ := Aside0.mk (hp_); have n1_ := Aside0.mk (blk_grown (g := gb304) (o := .cells #[.int .i64 x305000_1, .int .i64 x305001_1] 24 (0, 0)) (by (with_reducible repeat (first | refine blk_drewN ?_ _ | refine blk_drew ?_ | refine blk_alloc ?_ _)); exact BK304.out) hg (Kd.R_away HO_6.out (fun _ hk => hk.1))); have n2_ := Aside0.mk (blk_grown (g := gb317) (o := .cells #[.int .i64 x318000_1, .int .i64 x318001_1] 24 (0, 0)) (by (with_reducible repeat (first | refine blk_drewN ?_ _ | refine blk_drew ?_ | refine blk_alloc ?_ _)); exact BK317.out) hg (Kd.R_away HO_6.out (fun _ hk => hk.2))); have n3_ := Aside0.mk ((by rw [hw]; exact below_set (below_set (HB.out) GB21.out) GB21.out : Below w.heap.size w w60)); clear HO_6; clear BK304; clear BK317; clear HB; have HO_6 := n0_; have BK304 := n1_; have BK317 := n2_; have HB := n3_; clear n0_ n1_ n2_ n3_; clear hg hw hp_; have hnb61 := NB317_304.out; have hnc61 := NB304_317.out; have hcz62_0 : w60.cell? ⟨gb317, 0, none⟩ = some (.int .i64 x318000_1) := (blk_cell BK317.out 0).trans rfl; have hcz62_1 : w60.cell? ⟨gb317, 1, none⟩ = some (.int .i64 x318001_1) := (blk_cell BK317.out 1).trans rfl; have hfz62_0 := blk_frozen BK317.out 0; have hfz62_1 := blk_frozen BK317.out 1; have p56 : 0 ≤ ((ji48) : Int) := of_decide_eq_true (by first | (with_reducible assumption) | assumption); have q56 : ((ji48) : Int) < ((x6_1.length : Int) : Int) := of_decide_eq_true (by first | (with_reducible assumption) | assumption); obtain ⟨ce56, hcl56, hM56, hcc56, hfr56⟩ := Kd.R_elem HO_6.out z24 ((ji48) : Int) p56 q56; obtain rfl := k24_openM hM56; have hx56_0 : w60.cell? ⟨go21, ((ji48) : Int).toNat * 2, none⟩ = some (.int .i64 ((rd_T24 y326 (ji48)).f0)) := hcc56 0 _ rfl; have hx56_1 : w60.cell? ⟨go21, ((ji48) : Int).toNat * 2 + 1, none⟩ = some (.int .i64 ((rd_T24 y326 (ji48)).f1)) := hcc56 1 _ rfl; have hf56_0 : w60.frozen? ⟨go21, ((ji48) : Int).toNat * 2, none⟩ = false := hfr56 0; have hf56_1 : w60.frozen? ⟨go21, ((ji48) : Int).toNat * 2 + 1, none⟩ = false := hfr56 1; clear hcl56 hcc56 hfr56 hM56; replace p56 := eq_true p56; replace q56 := eq_true q56; have HX63 := Aside0.mk (show Kd.R k24 24 w60 w.heap.size (fun k_ => k_ ≠ gb304 ∧ k_ ≠ gb317) (.slice (some ⟨go21, 0, none⟩) x6_1.length co21) y326 from (by (with_reducible repeat (first | apply Kd.R_alloc | apply Kd.R_drewN | apply Kd.R_drew)); exact HO_6.out)); obtain ⟨ce63, hcl63, hM63, hcc63, hfr63⟩ := Kd.R_elem HX63.out z24 ((ji48) : Int) (of_decide_eq_true (by first | (with_reducible assumption) | assumption)) (by have h_ : ((ji48) : Int) < ((x6_1.length : Int) : Int) := of_decide_eq_true (by first | (with_reducible assumption) | assumption); first | exact h_ | (have e_ := (Kd.R_reads' HO_6.out).1; omega) | simpa using h_); obtain rfl := k24_openM hM63; have HP63 := Kd.R_seg HX63.out ((ji48) : Int) (of_decide_eq_true (by first | (with_reducible assumption) | assumption)) (by have h_ : ((ji48) : Int) < ((x6_1.length : Int) : Int) := of_decide_eq_true (by first | (with_reducible assumption) | assumption); first | exact h_ | (have e_ := (Kd.R_reads' HO_6.out).1; omega) | simpa using h_) (seg := [.int .i64 x318000_1, .int .i64 x318001_1]) (j := 0) hcl63 hcc63 (show 2 ≤ 2 from by decide) (x' := (⟨x318000_1, x318001_1⟩ : S24)) (k24_mkM _ _ _ (⟨x318000_1, x318001_1⟩ : S24) ) (fun _ hk => hk); have hx63_0 := hcc63 0 _ rfl; (try simp only [show (k24).sz = 2 from rfl, Nat.mul_one, Nat.add_zero] at hx63_0); have hf63_0 := hfr63 0; (try simp only [show (k24).sz = 2 from rfl, Nat.mul_one, Nat.add_zero] at hf63_0); have hx63_1 := hcc63 1 _ rfl; (try simp only [show (k24).sz = 2 from rfl, Nat.mul_one, Nat.add_zero] at hx63_1); have hf63_1 := hfr63 1; (try simp only [show (k24).sz = 2 from rfl, Nat.mul_one, Nat.add_zero] at hf63_1); clear hcl63 hcc63 hfr63 hM63) | ((with_reducible refine gate_store (t := 24) (p := 80) rfl ?_); refine store_event (t := 24) (p := 80) (v := ?vo_w64) (w1 := ((w60.setCell ⟨go21, ((ji48) : Int).toNat * 2, none⟩ (.int .i64 x318000_1)).setCell ⟨go21, ((ji48) : Int).toNat * 2 + 1, none⟩ (.int .i64 x318001_1))) ?hg ?ho ?hn ?hr ?_; (case ho => rfl); (case hg => rfl); (case hn => rfl); (case hr => first | (go_simp; done) | (go_simp; rfl)); intro w64 hw; have hg : w60.grownBy w64 (some go21) := (by rw [hw]; exact HP63.2); have hp_ : Kd.R k24 24 w64 w.heap.size (fun k_ => k_ ≠ gb304 ∧ k_ ≠ gb317) (.slice (some ⟨go21, 0, none⟩) x6_1.length co21) y327 := (by rw [hw, Ny327.out]; exact HP63.1); clear HP63; have n0_ := Aside0.mk (hp_); have n1_ := Aside0.mk (blk_grown (g := gb304) (o := .cells #[.int .i64 x305000_1, .int .i64 x305001_1] 24 (0, 0)) (by (with_reducible repeat (first | refine blk_drewN ?_ _ | refine blk_drew ?_ | refine blk_alloc ?_ _)); exact BK304.out) hg (Kd.R_away HO_6.out (fun _ hk => hk.1))); have n2_ := Aside0.mk (blk_grown (g := gb317) (o := .cells #[.int .i64 x318000_1, .int .i64 x318001_1] 24 (0, 0)) (by (with_reducible repeat (first | refine blk_drewN ?_ _ | refine blk_drew ?_ | refine blk_alloc ?_ _)); exact BK317.out) hg (Kd.R_away HO_6.out (fun _ hk => hk.2))); have n3_ := Aside0.mk ((by rw [hw]; exact below_set (below_set (HB.out) GB21.out) GB21.out : Below w.heap.size w w64)); clear HO_6; clear BK304; clear BK317; clear HB; have HO_6 := n0_; have BK304 := n1_; have BK317 := n2_; have HB := n3_; clear n0_ n1_ n2_ n3_; clear hg hw hp_))
                                      (try simp only [← hl6_1])
                                      go_roundg kj34
                                      case measure => have := HK1.out; have := HJ34.out; omega
                                      case rel => exact ⟨(y327), (ji48), (x305000_1), (x305001_1), (x318000_1), (x318001_1), (by first | rfl | (simp; done) | (simp only [← hji48] <;> (first | rfl | simp)) | (simp [*]; done)), H', ⟨by have := HK1.out; have := HJ34.out; omega⟩, ⟨by (try simp only [hl6_1]); (with_reducible repeat (first | apply Kd.R_alloc | apply Kd.R_drewN | apply Kd.R_drew)); exact HO_6.out⟩, ⟨by (try simp only [hl6_1]); (with_reducible repeat (first | refine blk_drewN ?_ _ | refine blk_drew ?_ | refine blk_alloc ?_ _)); exact BK304.out⟩, ⟨by (try simp only [hl6_1]); (with_reducible repeat (first | refine blk_drewN ?_ _ | refine blk_drew ?_ | refine blk_alloc ?_ _)); exact BK317.out⟩, ⟨by repeat (first | (with_reducible first | exact HB.out | apply below_alloc | apply pw_below_drewN | apply below_drew1 | refine below_set ?_ GE304.out | refine below_set ?_ GE317.out) | exact HB.out)⟩⟩
                                    · rw [if_neg c54] at H
                                      exact absurd H (by simp)
                                  · rw [if_neg c53] at H
                                    exact absurd H (by simp)
                                · replace c52 := Bool.eq_false_iff.mpr c52
                                  subst c52
                                  have H1 : (if 0 < (l0.length : Int) then (some (x6_1, (rd_T24 l0 0).f0, (rd_T24 l0 0).f1, true)) else (none)) = some (r1, r2, r3, r4) := by rw [if_neg (show ¬ (false = true) by decide)] at H; exact H
                                  clear H
                                  have H := H1
                                  clear H1
                                  by_cases c65 : 0 < (l0.length : Int)
                                  · rw [if_pos c65] at H
                                    have c65b0 : decide (0 < (l0.length : Int)) = true := decide_eq_true c65
                                    have c65b1 : decide (0 < l0.length) = true := decide_eq_true (by omega)
                                    clear c65
                                    simp only [Option.some.injEq, Prod.mk.injEq] at H
                                    obtain ⟨rfl, rfl, rfl, rfl⟩ := H
                                    try go_wp2
                                    have n0_ := Aside0.mk (Kd.R_drew HO_6.out)
                                    have n1_ := Aside0.mk (blk_drew BK304.out)
                                    have n2_ := Aside0.mk (blk_drew BK317.out)
                                    have n3_ := Aside0.mk (below_drew1 HB.out)
                                    clear HO_6
                                    clear BK304
                                    clear BK317
                                    clear HB
                                    have HO_6 := n0_
                                    have BK304 := n1_
                                    have BK317 := n2_
                                    have HB := n3_
                                    clear n0_ n1_ n2_ n3_
                                    have p323 : 0 ≤ ((ji48) : Int) := of_decide_eq_true (by first | (with_reducible assumption) | assumption)
                                    have q323 : (ji48) < (x6_1.length : Int) := of_decide_eq_true (by first | (with_reducible assumption) | assumption)
                                    obtain ⟨ad323, e323, hx323_0, hx323_1⟩ := at_T24 (Kd.R_reads' HO_6.out).2.2 (ji48) p323 q323
                                    obtain rfl : (⟨go21, 0, none⟩ : Addr) = ad323 := (by injection e323)
                                    (first | simp only [add_plain] at hx323_0 | simp only [add_at] at hx323_0 | simp only [Addr.add, Nat.zero_add] at hx323_0 | skip)
                                    (first | simp only [add_plain] at hx323_1 | simp only [add_at] at hx323_1 | simp only [Addr.add, Nat.zero_add] at hx323_1 | skip)
                                    replace p323 := eq_true p323
                                    replace q323 := eq_true q323
                                    refine start_ (n := 7) (S := fun w' => w'.cell? ⟨gb317, 0, none⟩ = some (.int .i64 x318000_1) ∧ w'.cell? ⟨gb317, 1, none⟩ = some (.int .i64 x318001_1) ∧ w'.cell? ⟨go21, ((ji48)).toNat * 2, none⟩ = some (.int .i64 ((rd_T24 x6_1 (ji48)).f0)) ∧ w'.cell? ⟨go21, ((ji48)).toNat * 2 + 1, none⟩ = some (.int .i64 ((rd_T24 x6_1 (ji48)).f1))) (ds := []) #[false, false, false, false, false, false, false] (by kernel_rfl) rfl rfl ⟨(blk_cell BK317.out 0).trans rfl, (blk_cell BK317.out 1).trans rfl, hx323_0, hx323_1⟩ (fun hHeld => ?_)
                                    generalize wc.drew = w66 at HO_6 BK304 BK317 HB hx323_0 hx323_1 hHeld ⊢
                                    refine pure_ (i := 0) (N := some 62) (v := ?_) (a' := ?_) #[true, false, false, false, false, false, false] rfl rfl (by kernel_rfl) (fun _ _ _ h => h) (Or.inl ⟨by rfl, ?_⟩) ?_ ?_
                                    rotate_left
                                    · intro w'
                                      go_simp
                                      with_reducible rfl
                                    rotate_left
                                    · simp only [Act.put, List.setIfInBounds_toArray, List.set_cons_zero, List.set_cons_succ, i64_w, i32_w]
                                      rfl
                                    refine pure_ (i := 1) (N := some 63) (v := ?_) (a' := ?_) #[true, true, false, false, false, false, false] rfl rfl (by kernel_rfl) (fun _ _ _ h => h) (Or.inl ⟨by rfl, ?_⟩) ?_ ?_
                                    rotate_left
                                    · intro w'
                                      go_simp
                                      with_reducible rfl
                                    rotate_left
                                    · simp only [Act.put, List.setIfInBounds_toArray, List.set_cons_zero, List.set_cons_succ, i64_w, i32_w]
                                      rfl
                                    refine pure_ (i := 2) (N := some 64) (v := ?_) (a' := ?_) #[true, true, true, false, false, false, false] rfl rfl (by kernel_rfl) (fun _ _ _ h => h) (Or.inl ⟨by rfl, ?_⟩) ?_ ?_
                                    rotate_left
                                    · intro w'
                                      go_simp
                                      with_reducible rfl
                                    rotate_left
                                    · simp only [Act.put, List.setIfInBounds_toArray, List.set_cons_zero, List.set_cons_succ, i64_w, i32_w]
                                      rfl
                                    refine take_ (i := 3) (N := some 65) (v := ?_) (a' := ?_) #[true, true, true, true, false, false, false] rfl rfl (by kernel_rfl) (fun _ _ _ h => h) (Or.inl ⟨by rfl, ?_⟩) hHeld ?_ ?_
                                    rotate_left
                                    · rintro w' ⟨s0, s1, s2, s3⟩
                                      (try simp only [add_plain] at s0 s1 s2 s3)
                                      go_simp
                                      with_reducible rfl
                                    rotate_left
                                    · simp only [Act.put, List.setIfInBounds_toArray, List.set_cons_zero, List.set_cons_succ, i64_w, i32_w]
                                      rfl
                                    refine take_ (i := 4) (N := some 66) (v := ?_) (a' := ?_) #[true, true, true, true, true, false, false] rfl rfl (by kernel_rfl) (fun _ _ _ h => h) (Or.inl ⟨by rfl, ?_⟩) hHeld ?_ ?_
                                    rotate_left
                                    · rintro w' ⟨s0, s1, s2, s3⟩
                                      (try simp only [add_plain] at s0 s1 s2 s3)
                                      go_simp
                                      with_reducible rfl
                                    rotate_left
                                    · simp only [Act.put, List.setIfInBounds_toArray, List.set_cons_zero, List.set_cons_succ, i64_w, i32_w]
                                      rfl
                                    refine one_ (i := 5) (N := some 67) #[true, true, true, true, true, true, false] rfl rfl (by kernel_rfl) (by decide) (fun K hK => ?_)
                                    refine goes_ Try.func14 (by kernel_rfl) rfl #[.agg #[.int .i64 ((rd_T24 x6_1 (ji48)).f0), .int .i64 ((rd_T24 x6_1 (ji48)).f1)], .agg #[.int .i64 x318000_1, .int .i64 x318001_1]] (by rfl) rfl rfl (by (try simp only [List.map_toArray, List.map_cons, List.map_nil]); first | done | (simp only [hji48]; rfl) | rfl | (simp only [List.length_drop, List.length_take]; rfl)) ?_
                                    with_reducible refine (stolonref12_Less.calls ((rd_T24 x6_1 (ji48)).f0) ((rd_T24 x6_1 (ji48)).f1) x318000_1 x318001_1 false _ A51.out).mono ?_
                                    rintro e w67 ⟨rfl, hb⟩
                                    have HS2_ := (hb.cell (World.block_lt_of_cell? _ _ (hHeld.2.2.1))).trans (hHeld.2.2.1)
                                    have HS3_ := (hb.cell (World.block_lt_of_cell? _ _ (hHeld.2.2.2))).trans (hHeld.2.2.2)
                                    refine ⟨_, rfl, ?_⟩
                                    have n0_ := Aside0.mk (Kd.R_below (by (with_reducible repeat (first | apply Kd.R_alloc | apply Kd.R_drewN | apply Kd.R_drew)); exact HO_6.out) hb)
                                    have n1_ := Aside0.mk (blk_below (g := gb304) (o := .cells #[.int .i64 x305000_1, .int .i64 x305001_1] 24 (0, 0)) (by (with_reducible repeat (first | refine blk_drewN ?_ _ | refine blk_drew ?_ | refine blk_alloc ?_ _)); exact BK304.out) hb)
                                    have n2_ := Aside0.mk (blk_below (g := gb317) (o := .cells #[.int .i64 x318000_1, .int .i64 x318001_1] 24 (0, 0)) (by (with_reducible repeat (first | refine blk_drewN ?_ _ | refine blk_drew ?_ | refine blk_alloc ?_ _)); exact BK317.out) hb)
                                    have n3_ := Aside0.mk (below_step (by repeat (first | (with_reducible first | exact HB.out | apply below_alloc | apply pw_below_drewN | apply below_drew1 | refine below_set ?_ GE304.out | refine below_set ?_ GE317.out) | exact HB.out)) hb)
                                    clear HO_6
                                    clear BK304
                                    clear BK317
                                    clear HB
                                    have HO_6 := n0_
                                    have BK304 := n1_
                                    have BK317 := n2_
                                    have HB := n3_
                                    clear n0_ n1_ n2_ n3_
                                    (try clear hb)
                                    (try clear hb2)
                                    (try clear hk)
                                    (try clear hi)
                                    refine hK.out _ _ ⟨(blk_cell BK317.out 0).trans rfl, (blk_cell BK317.out 1).trans rfl, HS2_, HS3_⟩ (fun hHeld => ?_)
                                    clear hK K
                                    refine norm_ (a' := ?_) ?_ ?_
                                    rotate_left
                                    · show Act.put _ (some 67) _ = _
                                      simp only [Act.put, List.setIfInBounds_toArray, List.set_cons_zero, List.set_cons_succ, i64_w, i32_w]
                                      rfl
                                    refine pure_ (i := 6) (N := some 10) (v := ?_) (a' := ?_) #[true, true, true, true, true, true, true] rfl rfl (by kernel_rfl) (fun _ _ _ h => h) (Or.inl ⟨by rfl, ?_⟩) ?_ ?_
                                    rotate_left
                                    · intro w'
                                      go_simp
                                      with_reducible rfl
                                    rotate_left
                                    · simp only [Act.put, List.setIfInBounds_toArray, List.set_cons_zero, List.set_cons_succ, i64_w, i32_w]
                                      rfl
                                    refine done_ (by kernel_rfl) ?_
                                    try go_wp2
                                    have n0_ := Aside0.mk (Kd.R_drew HO_6.out)
                                    have n1_ := Aside0.mk (blk_drew BK304.out)
                                    have n2_ := Aside0.mk (blk_drew BK317.out)
                                    have n3_ := Aside0.mk (below_drew1 HB.out)
                                    clear HO_6
                                    clear BK304
                                    clear BK317
                                    clear HB
                                    have HO_6 := n0_
                                    have BK304 := n1_
                                    have BK317 := n2_
                                    have HB := n3_
                                    clear n0_ n1_ n2_ n3_
                                    have p328 : 0 ≤ (0 : Int) := (by omega)
                                    have q328 : 0 < (l0.length : Int) := of_decide_eq_true (by first | (with_reducible assumption) | assumption)
                                    obtain ⟨ad328, e328, hx328_0, hx328_1⟩ := at_T24 HR0.out 0 p328 q328
                                    have hw328_1 := hx328_1
                                    (try rw [show ((0 : Int)).toNat = 0 from rfl] at hw328_1)
                                    (try rw [show 0 * 2 = 0 from rfl] at hw328_1)
                                    (try rw [Addr.add_zero'] at hw328_1)
                                    have hw328_0 := hx328_0
                                    (try rw [show ((0 : Int)).toNat = 0 from rfl] at hw328_0)
                                    (try rw [show 0 * 2 = 0 from rfl] at hw328_0)
                                    (try rw [Addr.add_zero'] at hw328_0)
                                    obtain rfl : ad316 = ad328 := (by injection e328)
                                    have qi328 : (0 < l0.length) = True := eq_true (by omega)
                                    (try rw [show ((0 : Int)).toNat = 0 from rfl] at hx328_0)
                                    (try rw [show 0 * 2 = 0 from rfl] at hx328_0)
                                    (try rw [Addr.add_zero'] at hx328_0)
                                    (try rw [show ((0 : Int)).toNat = 0 from rfl] at hx328_1)
                                    (try rw [show 0 * 2 = 0 from rfl] at hx328_1)
                                    (try rw [Addr.add_zero'] at hx328_1)
                                    replace hx328_0 := (HB.out.cell (World.block_lt_of_cell? w _ hx328_0)).trans hx328_0
                                    replace hx328_1 := (HB.out.cell (World.block_lt_of_cell? w _ hx328_1)).trans hx328_1
                                    replace p328 := eq_true p328
                                    replace q328 := eq_true q328
                                    refine start_ (n := 7) (S := fun w' => w'.cell? ad316 = some (.int .i64 ((rd_T24 l0 0).f0)) ∧ w'.cell? ⟨ad316.block, ad316.off + 1, none⟩ = some (.int .i64 ((rd_T24 l0 0).f1))) (ds := []) #[false, false, false, false, false, false, false] (by kernel_rfl) rfl rfl ⟨((HB.out.cell (World.block_lt_of_cell? w _ hw328_0)).trans hw328_0), ((HB.out.cell (World.block_lt_of_cell? w _ hw328_1)).trans hw328_1)⟩ (fun hHeld => ?_)
                                    generalize w67.drew = w68 at HO_6 BK304 BK317 HB hx328_0 hx328_1 hHeld ⊢
                                    refine pure_ (i := 0) (N := some 82) (v := ?_) (a' := ?_) #[true, false, false, false, false, false, false] rfl rfl (by kernel_rfl) (fun _ _ _ h => h) (Or.inl ⟨by rfl, ?_⟩) ?_ ?_
                                    rotate_left
                                    · intro w'
                                      go_simp
                                      with_reducible rfl
                                    rotate_left
                                    · simp only [Act.put, List.setIfInBounds_toArray, List.set_cons_zero, List.set_cons_succ, i64_w, i32_w]
                                      rfl
                                    refine pure_ (i := 1) (N := some 83) (v := ?_) (a' := ?_) #[true, true, false, false, false, false, false] rfl rfl (by kernel_rfl) (fun _ _ _ h => h) (Or.inl ⟨by rfl, ?_⟩) ?_ ?_
                                    rotate_left
                                    · intro w'
                                      go_simp
                                      with_reducible rfl
                                    rotate_left
                                    · simp only [Act.put, List.setIfInBounds_toArray, List.set_cons_zero, List.set_cons_succ, i64_w, i32_w]
                                      rfl
                                    refine pure_ (i := 2) (N := some 84) (v := ?_) (a' := ?_) #[true, true, true, false, false, false, false] rfl rfl (by kernel_rfl) (fun _ _ _ h => h) (Or.inl ⟨by rfl, ?_⟩) ?_ ?_
                                    rotate_left
                                    · intro w'
                                      go_simp
                                      with_reducible rfl
                                    rotate_left
                                    · simp only [Act.put, List.setIfInBounds_toArray, List.set_cons_zero, List.set_cons_succ, i64_w, i32_w]
                                      rfl
                                    refine pure_ (i := 4) (N := some 2) (v := ?_) (a' := ?_) #[true, true, true, false, true, false, false] rfl rfl (by kernel_rfl) (fun _ _ _ h => h) (Or.inl ⟨by rfl, ?_⟩) ?_ ?_
                                    rotate_left
                                    · intro w'
                                      go_simp
                                      with_reducible rfl
                                    rotate_left
                                    · simp only [Act.put, List.setIfInBounds_toArray, List.set_cons_zero, List.set_cons_succ, i64_w, i32_w]
                                      rfl
                                    refine take_ (i := 3) (N := some 85) (v := ?_) (a' := ?_) #[true, true, true, true, true, false, false] rfl rfl (by kernel_rfl) (fun _ _ _ h => h) (Or.inl ⟨by rfl, ?_⟩) hHeld ?_ ?_
                                    rotate_left
                                    · rintro w' ⟨s0, s1⟩
                                      (try simp only [add_plain] at s0 s1)
                                      go_simp
                                      with_reducible rfl
                                    rotate_left
                                    · simp only [Act.put, List.setIfInBounds_toArray, List.set_cons_zero, List.set_cons_succ, i64_w, i32_w]
                                      rfl
                                    refine one_ (i := 5) (N := none) #[true, true, true, true, true, true, false] rfl rfl (by kernel_rfl) (by decide) (fun K hK => ?_)
                                    have hs69 : w68.cell? ⟨gb304, 0, none⟩ = some (.int .i64 x305000_1) := (blk_cell BK304.out 0).trans rfl
                                    have hfs69 := blk_frozen BK304.out 0
                                    have hns69_1 := NB317_304.out
                                    have hms69_1 := NB304_317.out
                                    have hs70 : w68.cell? ⟨gb304, 1, none⟩ = some (.int .i64 x305001_1) := (blk_cell BK304.out 1).trans rfl
                                    have hfs70 := blk_frozen BK304.out 1
                                    have hns70_1 := NB317_304.out
                                    have hms70_1 := NB304_317.out
                                    refine skip_ (w1 := ?_) (by rfl) rfl ?_ ?_
                                    rotate_left
                                    · go_simp
                                      rfl
                                    refine hK.out _ _ ⟨((cell_far (p := ⟨gb304, _, none⟩) (by first | exact Nat.ne_of_lt (Nat.lt_of_lt_of_le (by have := World.block_lt_of_cell? _ _ hw328_0; first | rwa [add_block] at this | exact this) GW304.out) | (rw [add_block]; exact Nat.ne_of_lt (Nat.lt_of_lt_of_le (by have := World.block_lt_of_cell? _ _ hw328_0; first | rwa [add_block] at this | exact this) GW304.out)) | (show (Addr.add _ _).block ≠ _; rw [add_block]; exact Nat.ne_of_lt (Nat.lt_of_lt_of_le (by have := World.block_lt_of_cell? _ _ hw328_0; first | rwa [add_block] at this | exact this) GW304.out)) | (dsimp only; exact Nat.ne_of_lt (Nat.lt_of_lt_of_le (by have := World.block_lt_of_cell? _ _ hw328_0; first | rwa [add_block] at this | exact this) GW304.out))) _).trans (((cell_far (p := ⟨gb304, _, none⟩) (by first | exact Nat.ne_of_lt (Nat.lt_of_lt_of_le (by have := World.block_lt_of_cell? _ _ hw328_0; first | rwa [add_block] at this | exact this) GW304.out) | (rw [add_block]; exact Nat.ne_of_lt (Nat.lt_of_lt_of_le (by have := World.block_lt_of_cell? _ _ hw328_0; first | rwa [add_block] at this | exact this) GW304.out)) | (show (Addr.add _ _).block ≠ _; rw [add_block]; exact Nat.ne_of_lt (Nat.lt_of_lt_of_le (by have := World.block_lt_of_cell? _ _ hw328_0; first | rwa [add_block] at this | exact this) GW304.out)) | (dsimp only; exact Nat.ne_of_lt (Nat.lt_of_lt_of_le (by have := World.block_lt_of_cell? _ _ hw328_0; first | rwa [add_block] at this | exact this) GW304.out))) _).trans (hHeld.1)))), ((cell_far (p := ⟨gb304, _, none⟩) (by first | exact Nat.ne_of_lt (Nat.lt_of_lt_of_le (by have := World.block_lt_of_cell? _ _ hw328_1; first | rwa [add_block] at this | exact this) GW304.out) | (rw [add_block]; exact Nat.ne_of_lt (Nat.lt_of_lt_of_le (by have := World.block_lt_of_cell? _ _ hw328_1; first | rwa [add_block] at this | exact this) GW304.out)) | (show (Addr.add _ _).block ≠ _; rw [add_block]; exact Nat.ne_of_lt (Nat.lt_of_lt_of_le (by have := World.block_lt_of_cell? _ _ hw328_1; first | rwa [add_block] at this | exact this) GW304.out)) | (dsimp only; exact Nat.ne_of_lt (Nat.lt_of_lt_of_le (by have := World.block_lt_of_cell? _ _ hw328_1; first | rwa [add_block] at this | exact this) GW304.out))) _).trans (((cell_far (p := ⟨gb304, _, none⟩) (by first | exact Nat.ne_of_lt (Nat.lt_of_lt_of_le (by have := World.block_lt_of_cell? _ _ hw328_1; first | rwa [add_block] at this | exact this) GW304.out) | (rw [add_block]; exact Nat.ne_of_lt (Nat.lt_of_lt_of_le (by have := World.block_lt_of_cell? _ _ hw328_1; first | rwa [add_block] at this | exact this) GW304.out)) | (show (Addr.add _ _).block ≠ _; rw [add_block]; exact Nat.ne_of_lt (Nat.lt_of_lt_of_le (by have := World.block_lt_of_cell? _ _ hw328_1; first | rwa [add_block] at this | exact this) GW304.out)) | (dsimp only; exact Nat.ne_of_lt (Nat.lt_of_lt_of_le (by have := World.block_lt_of_cell? _ _ hw328_1; first | rwa [add_block] at this | exact this) GW304.out))) _).trans (hHeld.2))))⟩ (fun hHeld => ?_)
                                    clear hK K
                                    refine pure_ (i := 6) (N := some 4) (v := ?_) (a' := ?_) #[true, true, true, true, true, true, true] rfl rfl (by kernel_rfl) (fun _ _ _ h => h) (Or.inl ⟨by rfl, ?_⟩) ?_ ?_
                                    rotate_left
                                    · intro w'
                                      go_simp
                                      with_reducible rfl
                                    rotate_left
                                    · simp only [Act.put, List.setIfInBounds_toArray, List.set_cons_zero, List.set_cons_succ, i64_w, i32_w]
                                      rfl
                                    refine done_ (by kernel_rfl) ?_
                                    try go_wp2
                                    refine bodyPost_ret (results_list (rs := [.tmp 2, .cell 3 24, .tmp 4]) rfl (by simp) (.tmp (.cell gb304 24 #[.int .i64 ((rd_T24 l0 0).f0), .int .i64 ((rd_T24 l0 0).f1)] (0, 0) _ rfl (by (with_reducible repeat (first | refine blk_drewN ?_ _ | refine blk_drew ?_ | refine blk_alloc ?_ _)); refine blk_put (cs := #[.int .i64 ((rd_T24 l0 0).f0), .int .i64 x305001_1]) ?_ 1 _ rfl; (with_reducible repeat (first | refine blk_drewN ?_ _ | refine blk_drew ?_ | refine blk_alloc ?_ _)); refine blk_put (cs := #[.int .i64 x305000_1, .int .i64 x305001_1]) ?_ 0 _ rfl; (with_reducible repeat (first | refine blk_drewN ?_ _ | refine blk_drew ?_ | refine blk_alloc ?_ _)); exact BK304.out) Try.underlying24 rfl (by kernel_rfl) (.tmp .nil)))) rfl ?_
                                    exact ⟨_, by first | rfl | (simp [errW_none, errW_some] <;> rfl) | (simp only [← hji5, ← hji48]; first | rfl | (simp [errW_none, errW_some] <;> rfl)) | (simp [*, errW_none, errW_some] <;> rfl), by (with_reducible repeat (first | apply Kd.R_alloc | apply Kd.R_drewN | apply Kd.R_drew)); exact Kd.R_mono (Kd.R_far (p := ⟨gb304, 1, none⟩) (Kd.R_far (p := ⟨gb304, 0, none⟩) (Kd.R_mono HO_6.out (fun k_ hk => (⟨hk, hk.1⟩ : _ ∧ k_ ≠ gb304))) (fun _ hk => hk.2) (.int .i64 ((rd_T24 l0 0).f0))) (fun _ hk => hk.2) (.int .i64 ((rd_T24 l0 0).f1))) (fun _ hk => trivial), by repeat (first | (with_reducible first | exact HB.out | apply below_alloc | apply pw_below_drewN | apply below_drew1 | refine below_set ?_ GE304.out | refine below_set ?_ GE317.out) | exact HB.out)⟩
                                  · rw [if_neg c65] at H
                                    exact absurd H (by simp)
                              · rw [if_neg c50] at H
                                exact absurd H (by simp)
                            · rw [if_neg c49] at H
                              exact absurd H (by simp)
                          · replace c47 := Bool.eq_false_iff.mpr c47
                            subst c47
                            have H1 : (if 0 ≤ (wrap64 ((wrap64 (2 * x8_1)) + 1)) then (if (wrap64 ((wrap64 (2 * x8_1)) + 1)) < (x6_1.length : Int) then ((stolonref12_Less.f ((rd_T24 x6_1 (wrap64 ((wrap64 (2 * x8_1)) + 1))).f0) ((rd_T24 x6_1 (wrap64 ((wrap64 (2 * x8_1)) + 1))).f1) x318000_1 x318001_1).bind fun t330 => (if t330 = true then (if 0 ≤ x8_1 then (if x8_1 < (x6_1.length : Int) then (stolonref12_Pop.l0 kj34 l0 ji5 ((x6_1.set (x8_1 : Int).toNat (⟨(rd_T24 x6_1 (wrap64 ((wrap64 (2 * x8_1)) + 1))).f0, (rd_T24 x6_1 (wrap64 ((wrap64 (2 * x8_1)) + 1))).f1⟩ : S24)).set ((wrap64 ((wrap64 (2 * x8_1)) + 1)) : Int).toNat (⟨x318000_1, x318001_1⟩ : S24)) (wrap64 ((wrap64 (2 * x8_1)) + 1)) x318000_1 x318001_1) else (none)) else (none)) else (if 0 < (l0.length : Int) then (some (x6_1, (rd_T24 l0 0).f0, (rd_T24 l0 0).f1, true)) else (none)))) else (none)) else (none)) = some (r1, r2, r3, r4) := by rw [if_neg (show ¬ (false = true) by decide)] at H; exact H
                            clear H
                            have H := H1
                            clear H1
                            obtain ⟨ji71, hji71⟩ : ∃ j_ : Int, (wrap64 ((wrap64 (2 * x8_1)) + 1)) = j_ := ⟨_, rfl⟩
                            (try rw [hji71] at hji37)
                            (try rw [hji71] at hji37w)
                            (try rw [hji71] at hji48)
                            (try rw [hji71] at hji48w)
                            replace H : (if 0 ≤ (ji71) then (if (ji71) < (x6_1.length : Int) then ((stolonref12_Less.f ((rd_T24 x6_1 (ji71)).f0) ((rd_T24 x6_1 (ji71)).f1) x318000_1 x318001_1).bind fun t330 => (if t330 = true then (if 0 ≤ x8_1 then (if x8_1 < (x6_1.length : Int) then (stolonref12_Pop.l0 kj34 l0 ji5 ((x6_1.set (x8_1 : Int).toNat (⟨(rd_T24 x6_1 (ji71)).f0, (rd_T24 x6_1 (ji71)).f1⟩ : S24)).set ((ji71) : Int).toNat (⟨x318000_1, x318001_1⟩ : S24)) (ji71) x318000_1 x318001_1) else (none)) else (none)) else (if 0 < (l0.length : Int) then (some (x6_1, (rd_T24 l0 0).f0, (rd_T24 l0 0).f1, true)) else (none)))) else (none)) else (none)) = some (r1, r2, r3, r4) := by first | (rw [hji71] at H; exact H) | (simp only [hji71] at H ⊢; exact H)
                            (try rw [hji71] at c34b0)
                            have hji71w : (IntKind.i64.wrap ((wrap64 (2 * x8_1)) + 1)) = ji71 := (i64_w _).trans hji71
                            by_cases c72 : 0 ≤ (ji71)
                            · rw [if_pos c72] at H
                              have c72b0 : decide (0 ≤ (ji71)) = true := decide_eq_true c72
                              clear c72
                              by_cases c73 : (ji71) < (x6_1.length : Int)
                              · rw [if_pos c73] at H
                                have c73b0 : decide ((ji71) < (x6_1.length : Int)) = true := decide_eq_true c73
                                clear c73
                                replace H := Option.bind_eq_some_iff.mp H
                                obtain ⟨t330, A740, H⟩ := H
                                replace H : (if t330 = true then (if 0 ≤ x8_1 then (if x8_1 < (x6_1.length : Int) then (stolonref12_Pop.l0 kj34 l0 ji5 ((x6_1.set (x8_1 : Int).toNat (⟨(rd_T24 x6_1 (ji71)).f0, (rd_T24 x6_1 (ji71)).f1⟩ : S24)).set ((ji71) : Int).toNat (⟨x318000_1, x318001_1⟩ : S24)) (ji71) x318000_1 x318001_1) else (none)) else (none)) else (if 0 < (l0.length : Int) then (some (x6_1, (rd_T24 l0 0).f0, (rd_T24 l0 0).f1, true)) else (none))) = some (r1, r2, r3, r4) := H
                                have A74 := Aside0.mk A740
                                clear A740
                                by_cases c75 : t330 = true
                                · subst c75
                                  have H1 : (if 0 ≤ x8_1 then (if x8_1 < (x6_1.length : Int) then (stolonref12_Pop.l0 kj34 l0 ji5 ((x6_1.set (x8_1 : Int).toNat (⟨(rd_T24 x6_1 (ji71)).f0, (rd_T24 x6_1 (ji71)).f1⟩ : S24)).set ((ji71) : Int).toNat (⟨x318000_1, x318001_1⟩ : S24)) (ji71) x318000_1 x318001_1) else (none)) else (none)) = some (r1, r2, r3, r4) := by rw [if_pos rfl] at H; exact H
                                  clear H
                                  have H := H1
                                  clear H1
                                  by_cases c76 : 0 ≤ x8_1
                                  · rw [if_pos c76] at H
                                    have c76b0 : decide (0 ≤ x8_1) = true := decide_eq_true c76
                                    clear c76
                                    by_cases c77 : x8_1 < (x6_1.length : Int)
                                    · rw [if_pos c77] at H
                                      have c77b0 : decide (x8_1 < (x6_1.length : Int)) = true := decide_eq_true c77
                                      clear c77
                                      obtain ⟨y332, hy332⟩ : ∃ y_ : List (S24), y_ = (x6_1.set (x8_1 : Int).toNat (⟨(rd_T24 x6_1 (ji71)).f0, (rd_T24 x6_1 (ji71)).f1⟩ : S24)) := ⟨_, rfl⟩
                                      replace H : (stolonref12_Pop.l0 kj34 l0 ji5 (y332.set ((ji71) : Int).toNat (⟨x318000_1, x318001_1⟩ : S24)) (ji71) x318000_1 x318001_1) = some (r1, r2, r3, r4) := by first | (rw [hy332]; with_reducible exact H) | (have H2_ := (Option.bind_some _ _).symm.trans H; rw [hy332]; with_reducible exact H2_) | (have H2_ := (Option.bind_some _ _).symm.trans H; with_reducible exact H2_) | with_reducible exact H | (rw [hy332]; exact H) | exact H
                                      have Ny332 := Aside0.mk hy332
                                      clear hy332
                                      obtain ⟨y333, hy333⟩ : ∃ y_ : List (S24), y_ = (y332.set ((ji71) : Int).toNat (⟨x318000_1, x318001_1⟩ : S24)) := ⟨_, rfl⟩
                                      replace H : (stolonref12_Pop.l0 kj34 l0 ji5 y333 (ji71) x318000_1 x318001_1) = some (r1, r2, r3, r4) := by first | (rw [hy333]; with_reducible exact H) | (have H2_ := (Option.bind_some _ _).symm.trans H; rw [hy333]; with_reducible exact H2_) | (have H2_ := (Option.bind_some _ _).symm.trans H; with_reducible exact H2_) | with_reducible exact H | (rw [hy333]; exact H) | exact H
                                      have Ny333 := Aside0.mk hy333
                                      clear hy333
                                      have H' := Aside0.mk H
                                      clear H
                                      try go_wp2
                                      have n0_ := Aside0.mk (Kd.R_drew HO_6.out)
                                      have n1_ := Aside0.mk (blk_drew BK304.out)
                                      have n2_ := Aside0.mk (blk_drew BK317.out)
                                      have n3_ := Aside0.mk (below_drew1 HB.out)
                                      clear HO_6
                                      clear BK304
                                      clear BK317
                                      clear HB
                                      have HO_6 := n0_
                                      have BK304 := n1_
                                      have BK317 := n2_
                                      have HB := n3_
                                      clear n0_ n1_ n2_ n3_
                                      have p329 : 0 ≤ ((ji71) : Int) := of_decide_eq_true (by first | (with_reducible assumption) | assumption)
                                      have q329 : (ji71) < (x6_1.length : Int) := of_decide_eq_true (by first | (with_reducible assumption) | assumption)
                                      obtain ⟨ad329, e329, hx329_0, hx329_1⟩ := at_T24 (Kd.R_reads' HO_6.out).2.2 (ji71) p329 q329
                                      obtain rfl : (⟨go21, 0, none⟩ : Addr) = ad329 := (by injection e329)
                                      (first | simp only [add_plain] at hx329_0 | simp only [add_at] at hx329_0 | simp only [Addr.add, Nat.zero_add] at hx329_0 | skip)
                                      (first | simp only [add_plain] at hx329_1 | simp only [add_at] at hx329_1 | simp only [Addr.add, Nat.zero_add] at hx329_1 | skip)
                                      replace p329 := eq_true p329
                                      replace q329 := eq_true q329
                                      refine start_ (n := 7) (S := fun w' => w'.cell? ⟨gb317, 0, none⟩ = some (.int .i64 x318000_1) ∧ w'.cell? ⟨gb317, 1, none⟩ = some (.int .i64 x318001_1) ∧ w'.cell? ⟨go21, ((ji71)).toNat * 2, none⟩ = some (.int .i64 ((rd_T24 x6_1 (ji71)).f0)) ∧ w'.cell? ⟨go21, ((ji71)).toNat * 2 + 1, none⟩ = some (.int .i64 ((rd_T24 x6_1 (ji71)).f1))) (ds := []) #[false, false, false, false, false, false, false] (by kernel_rfl) rfl rfl ⟨(blk_cell BK317.out 0).trans rfl, (blk_cell BK317.out 1).trans rfl, hx329_0, hx329_1⟩ (fun hHeld => ?_)
                                      generalize wc.drew = w80 at HO_6 BK304 BK317 HB hx329_0 hx329_1 hHeld ⊢
                                      refine pure_ (i := 0) (N := some 62) (v := ?_) (a' := ?_) #[true, false, false, false, false, false, false] rfl rfl (by kernel_rfl) (fun _ _ _ h => h) (Or.inl ⟨by rfl, ?_⟩) ?_ ?_
                                      rotate_left
                                      · intro w'
                                        go_simp
                                        with_reducible rfl
                                      rotate_left
                                      · simp only [Act.put, List.setIfInBounds_toArray, List.set_cons_zero, List.set_cons_succ, i64_w, i32_w]
                                        rfl
                                      refine pure_ (i := 1) (N := some 63) (v := ?_) (a' := ?_) #[true, true, false, false, false, false, false] rfl rfl (by kernel_rfl) (fun _ _ _ h => h) (Or.inl ⟨by rfl, ?_⟩) ?_ ?_
                                      rotate_left
                                      · intro w'
                                        go_simp
                                        with_reducible rfl
                                      rotate_left
                                      · simp only [Act.put, List.setIfInBounds_toArray, List.set_cons_zero, List.set_cons_succ, i64_w, i32_w]
                                        rfl
                                      refine pure_ (i := 2) (N := some 64) (v := ?_) (a' := ?_) #[true, true, true, false, false, false, false] rfl rfl (by kernel_rfl) (fun _ _ _ h => h) (Or.inl ⟨by rfl, ?_⟩) ?_ ?_
                                      rotate_left
                                      · intro w'
                                        go_simp
                                        with_reducible rfl
                                      rotate_left
                                      · simp only [Act.put, List.setIfInBounds_toArray, List.set_cons_zero, List.set_cons_succ, i64_w, i32_w]
                                        rfl
                                      refine take_ (i := 3) (N := some 65) (v := ?_) (a' := ?_) #[true, true, true, true, false, false, false] rfl rfl (by kernel_rfl) (fun _ _ _ h => h) (Or.inl ⟨by rfl, ?_⟩) hHeld ?_ ?_
                                      rotate_left
                                      · rintro w' ⟨s0, s1, s2, s3⟩
                                        (try simp only [add_plain] at s0 s1 s2 s3)
                                        go_simp
                                        with_reducible rfl
                                      rotate_left
                                      · simp only [Act.put, List.setIfInBounds_toArray, List.set_cons_zero, List.set_cons_succ, i64_w, i32_w]
                                        rfl
                                      refine take_ (i := 4) (N := some 66) (v := ?_) (a' := ?_) #[true, true, true, true, true, false, false] rfl rfl (by kernel_rfl) (fun _ _ _ h => h) (Or.inl ⟨by rfl, ?_⟩) hHeld ?_ ?_
                                      rotate_left
                                      · rintro w' ⟨s0, s1, s2, s3⟩
                                        (try simp only [add_plain] at s0 s1 s2 s3)
                                        go_simp
                                        with_reducible rfl
                                      rotate_left
                                      · simp only [Act.put, List.setIfInBounds_toArray, List.set_cons_zero, List.set_cons_succ, i64_w, i32_w]
                                        rfl
                                      refine one_ (i := 5) (N := some 67) #[true, true, true, true, true, true, false] rfl rfl (by kernel_rfl) (by decide) (fun K hK => ?_)
                                      refine goes_ Try.func14 (by kernel_rfl) rfl #[.agg #[.int .i64 ((rd_T24 x6_1 (ji71)).f0), .int .i64 ((rd_T24 x6_1 (ji71)).f1)], .agg #[.int .i64 x318000_1, .int .i64 x318001_1]] (by rfl) rfl rfl (by (try simp only [List.map_toArray, List.map_cons, List.map_nil]); first | done | (simp only [hji71]; rfl) | rfl | (simp only [List.length_drop, List.length_take]; rfl)) ?_
                                      with_reducible refine (stolonref12_Less.calls ((rd_T24 x6_1 (ji71)).f0) ((rd_T24 x6_1 (ji71)).f1) x318000_1 x318001_1 true _ A74.out).mono ?_
                                      rintro e w81 ⟨rfl, hb⟩
                                      have HS2_ := (hb.cell (World.block_lt_of_cell? _ _ (hHeld.2.2.1))).trans (hHeld.2.2.1)
                                      have HS3_ := (hb.cell (World.block_lt_of_cell? _ _ (hHeld.2.2.2))).trans (hHeld.2.2.2)
                                      refine ⟨_, rfl, ?_⟩
                                      have n0_ := Aside0.mk (Kd.R_below (by (with_reducible repeat (first | apply Kd.R_alloc | apply Kd.R_drewN | apply Kd.R_drew)); exact HO_6.out) hb)
                                      have n1_ := Aside0.mk (blk_below (g := gb304) (o := .cells #[.int .i64 x305000_1, .int .i64 x305001_1] 24 (0, 0)) (by (with_reducible repeat (first | refine blk_drewN ?_ _ | refine blk_drew ?_ | refine blk_alloc ?_ _)); exact BK304.out) hb)
                                      have n2_ := Aside0.mk (blk_below (g := gb317) (o := .cells #[.int .i64 x318000_1, .int .i64 x318001_1] 24 (0, 0)) (by (with_reducible repeat (first | refine blk_drewN ?_ _ | refine blk_drew ?_ | refine blk_alloc ?_ _)); exact BK317.out) hb)
                                      have n3_ := Aside0.mk (below_step (by repeat (first | (with_reducible first | exact HB.out | apply below_alloc | apply pw_below_drewN | apply below_drew1 | refine below_set ?_ GE304.out | refine below_set ?_ GE317.out) | exact HB.out)) hb)
                                      clear HO_6
                                      clear BK304
                                      clear BK317
                                      clear HB
                                      have HO_6 := n0_
                                      have BK304 := n1_
                                      have BK317 := n2_
                                      have HB := n3_
                                      clear n0_ n1_ n2_ n3_
                                      (try clear hb)
                                      (try clear hb2)
                                      (try clear hk)
                                      (try clear hi)
                                      refine hK.out _ _ ⟨(blk_cell BK317.out 0).trans rfl, (blk_cell BK317.out 1).trans rfl, HS2_, HS3_⟩ (fun hHeld => ?_)
                                      clear hK K
                                      refine norm_ (a' := ?_) ?_ ?_
                                      rotate_left
                                      · show Act.put _ (some 67) _ = _
                                        simp only [Act.put, List.setIfInBounds_toArray, List.set_cons_zero, List.set_cons_succ, i64_w, i32_w]
                                        rfl
                                      refine pure_ (i := 6) (N := some 10) (v := ?_) (a' := ?_) #[true, true, true, true, true, true, true] rfl rfl (by kernel_rfl) (fun _ _ _ h => h) (Or.inl ⟨by rfl, ?_⟩) ?_ ?_
                                      rotate_left
                                      · intro w'
                                        go_simp
                                        with_reducible rfl
                                      rotate_left
                                      · simp only [Act.put, List.setIfInBounds_toArray, List.set_cons_zero, List.set_cons_succ, i64_w, i32_w]
                                        rfl
                                      refine done_ (by kernel_rfl) ?_
                                      have p331 : 0 ≤ ((ji71) : Int) := of_decide_eq_true (by first | (with_reducible assumption) | assumption)
                                      have q331 : (ji71) < (x6_1.length : Int) := of_decide_eq_true (by first | (with_reducible assumption) | assumption)
                                      obtain ⟨ad331, e331, hx331_0, hx331_1⟩ := at_T24 (Kd.R_reads' HO_6.out).2.2 (ji71) p331 q331
                                      obtain rfl : (⟨go21, 0, none⟩ : Addr) = ad331 := (by injection e331)
                                      (first | simp only [add_plain] at hx331_0 | simp only [add_at] at hx331_0 | simp only [Addr.add, Nat.zero_add] at hx331_0 | skip)
                                      (first | simp only [add_plain] at hx331_1 | simp only [add_at] at hx331_1 | simp only [Addr.add, Nat.zero_add] at hx331_1 | skip)
                                      replace p331 := eq_true p331
                                      replace q331 := eq_true q331
                                      have p78 : 0 ≤ (x8_1 : Int) := of_decide_eq_true (by first | (with_reducible assumption) | assumption)
                                      have q78 : (x8_1 : Int) < ((x6_1.length : Int) : Int) := of_decide_eq_true (by first | (with_reducible assumption) | assumption)
                                      obtain ⟨ce78, hcl78, hM78, hcc78, hfr78⟩ := Kd.R_elem HO_6.out z24 (x8_1 : Int) p78 q78
                                      obtain rfl := k24_openM hM78
                                      have hx78_0 : w81.cell? ⟨go21, (x8_1 : Int).toNat * 2, none⟩ = some (.int .i64 ((rd_T24 x6_1 x8_1).f0)) := hcc78 0 _ rfl
                                      have hx78_1 : w81.cell? ⟨go21, (x8_1 : Int).toNat * 2 + 1, none⟩ = some (.int .i64 ((rd_T24 x6_1 x8_1).f1)) := hcc78 1 _ rfl
                                      have hf78_0 : w81.frozen? ⟨go21, (x8_1 : Int).toNat * 2, none⟩ = false := hfr78 0
                                      have hf78_1 : w81.frozen? ⟨go21, (x8_1 : Int).toNat * 2 + 1, none⟩ = false := hfr78 1
                                      clear hcl78 hcc78 hfr78 hM78
                                      replace p78 := eq_true p78
                                      replace q78 := eq_true q78
                                      have HX82 := Aside0.mk (show Kd.R k24 24 w81 w.heap.size (fun k_ => k_ ≠ gb304 ∧ k_ ≠ gb317) (.slice (some ⟨go21, 0, none⟩) x6_1.length co21) x6_1 from (by (with_reducible repeat (first | apply Kd.R_alloc | apply Kd.R_drewN | apply Kd.R_drew)); exact HO_6.out))
                                      obtain ⟨ce82, hcl82, hM82, hcc82, hfr82⟩ := Kd.R_elem HX82.out z24 (x8_1 : Int) (of_decide_eq_true (by first | (with_reducible assumption) | assumption)) (by have h_ : (x8_1 : Int) < ((x6_1.length : Int) : Int) := of_decide_eq_true (by first | (with_reducible assumption) | assumption); first | exact h_ | (have e_ := (Kd.R_reads' HO_6.out).1; omega) | simpa using h_)
                                      obtain rfl := k24_openM hM82
                                      have HP82 := Kd.R_seg HX82.out (x8_1 : Int) (of_decide_eq_true (by first | (with_reducible assumption) | assumption)) (by have h_ : (x8_1 : Int) < ((x6_1.length : Int) : Int) := of_decide_eq_true (by first | (with_reducible assumption) | assumption); first | exact h_ | (have e_ := (Kd.R_reads' HO_6.out).1; omega) | simpa using h_) (seg := [.int .i64 ((rd_T24 x6_1 (ji71)).f0), .int .i64 ((rd_T24 x6_1 (ji71)).f1)]) (j := 0) hcl82 hcc82 (show 2 ≤ 2 from by decide) (x' := (⟨(rd_T24 x6_1 (ji71)).f0, (rd_T24 x6_1 (ji71)).f1⟩ : S24)) (k24_mkM _ _ _ (⟨(rd_T24 x6_1 (ji71)).f0, (rd_T24 x6_1 (ji71)).f1⟩ : S24) ) (fun _ hk => hk)
                                      have hx82_0 := hcc82 0 _ rfl
                                      (try simp only [show (k24).sz = 2 from rfl, Nat.mul_one, Nat.add_zero] at hx82_0)
                                      have hf82_0 := hfr82 0
                                      (try simp only [show (k24).sz = 2 from rfl, Nat.mul_one, Nat.add_zero] at hf82_0)
                                      have hx82_1 := hcc82 1 _ rfl
                                      (try simp only [show (k24).sz = 2 from rfl, Nat.mul_one, Nat.add_zero] at hx82_1)
                                      have hf82_1 := hfr82 1
                                      (try simp only [show (k24).sz = 2 from rfl, Nat.mul_one, Nat.add_zero] at hf82_1)
                                      clear hcl82 hcc82 hfr82 hM82
                                      try go_wp2_with (first | ((with_reducible refine gate_store (t := 24) (p := 76) rfl ?_); refine store_event (t := 24) (p := 76) (v := ?vo_w83) (w1 := ((w81.setCell ⟨go21, (x8_1 : Int).toNat * 2, none⟩ (.int .i64 ((rd_T24 x6_1 (ji71)).f0))).setCell ⟨go21, (x8_1 : Int).toNat * 2 + 1, none⟩ (.int .i64 ((rd_T24 x6_1 (ji71)).f1)))) ?hg ?ho ?hn ?hr ?_; (case ho => rfl); (case hg => rfl); (case hn => rfl); (case hr => first | (go_simp; done) | (go_simp; rfl)); intro w83 hw; have hg : w81.grownBy w83 (some go21) := (by rw [hw]; exact HP82.2); have hp_ : Kd.R k24 24 w83 w.heap.size (fun k_ => k_ ≠ gb304 ∧ k_ ≠ gb317) (.slice (some ⟨go21, 0, none⟩) x6_1.length co21) y332 := (by rw [hw, Ny332.out]; exact HP82.1); clear HP82; have n0_ := Aside0.mk (hp_); have n1_ := Aside0.mk (blk_grown (g := gb304) (o := .cells #[.int .i64 x305000_1, .int .i64 x305001_1] 24 (0, 0)) (by (with_reducible repeat (first | refine blk_drewN ?_ _ | refine blk_drew ?_ | refine blk_alloc ?_ _)); exact BK304.out) hg (Kd.R_away HO_6.out (fun _ hk => hk.1))); have n2_ := Aside0.mk (blk_grown (g := gb317) (o := .cells #[.int .i64 x318000_1, .int .i64 x318001_1] 24 (0, 0)) (by (with_reducible repeat (first | refine blk_drewN ?_ _ | refine blk_drew ?_ | refine blk_alloc ?_ _)); exact BK317.out) hg (Kd.R_away HO_6.out (fun _ hk => hk.2))); have n3_ := Aside0.mk ((by rw [hw]; exact below_set (below_set (HB.out) GB21.out) GB21.out : Below w.heap.size w w83)); clear HO_6; clear BK304; clear BK317; clear HB; have HO_6 := n0_; have BK304 := n1_; have BK317 := n2_; have HB := n3_; clear n0_ n1_ n2_ n3_; clear hg hw hp_; have hnb84 := NB317_304.out; have hnc84 := NB304_317.out; have hcz85_0 : w83.cell? ⟨gb317, 0, none⟩ = some (.int .i64 x318000_1) := (blk_cell BK317.out 0).trans rfl; have hcz85_1 : w83.cell? ⟨gb317, 1, none⟩ = some (.int .i64 x318001_1) := (blk_cell BK317.out 1).trans rfl; have hfz85_0 := blk_frozen BK317.out 0; have hfz85_1 := blk_frozen BK317.out 1; have p79 : 0 ≤ ((ji71) : Int) := of_decide_eq_true (by first | (with_reducible assumption) | assumption); have q79 : ((ji71) : Int) < ((x6_1.length : Int) : Int) := of_decide_eq_true (by first | (with_reducible assumption) | assumption); obtain ⟨ce79, hcl79, hM79, hcc79, hfr79⟩ := Kd.R_elem HO_6.out z24 ((ji71) : Int) p79 q79; obtain rfl := k24_openM hM79; have hx79_0 : w83.cell? ⟨go21, ((ji71) : Int).toNat * 2, none⟩ = some (.int .i64 ((rd_T24 y332 (ji71)).f0)) := hcc79 0 _ rfl; have hx79_1 : w83.cell? ⟨go21, ((ji71) : Int).toNat * 2 + 1, none⟩ = some (.int .i64 ((rd_T24 y332 (ji71)).f1)) := hcc79 1 _ rfl; have hf79_0 : w83.frozen? ⟨go21, ((ji71) : Int).toNat * 2, none⟩ = false := hfr79 0; have hf79_1 : w83.frozen? ⟨go21, ((ji71) : Int).toNat * 2 + 1, none⟩ = false := hfr79 1; clear hcl79 hcc79 hfr79 hM79; replace p79 := eq_true p79; replace q79 := eq_true q79; have HX86 := Aside0.mk (show Kd.R k24 24 w83 w.heap.size (fun k_ => k_ ≠ gb304 ∧ k_ ≠ gb317) (.slice (some ⟨go21, 0, none⟩) x6_1.length co21) y332 from (by (with_reducible repeat (first | apply Kd.R_alloc | apply Kd.R_drewN | apply Kd.R_drew)); exact HO_6.out)); obtain ⟨ce86, hcl86, hM86, hcc86, hfr86⟩ := Kd.R_elem HX86.out z24 ((ji71) : Int) (of_decide_eq_true (by first | (with_reducible assumption) | assumption)) (by have h_ : ((ji71) : Int) < ((x6_1.length : Int) : Int) := of_decide_eq_true (by first | (with_reducible assumption) | assumption); first | exact h_ | (have e_ := (Kd.R_reads' HO_6.out).1; omega) | simpa using h_); obtain rfl := k24_openM hM86; have HP86 := Kd.R_seg HX86.out ((ji71) : Int) (of_decide_eq_true (by first | (with_reducible assumption) | assumption)) (by have h_ : ((ji71) : Int) < ((x6_1.length : Int) : Int) := of_decide_eq_true (by first | (with_reducible assumption) | assumption); first | exact h_ | (have e_ := (Kd.R_reads' HO_6.out).1; omega) | simpa using h_) (seg := [.int .i64 x318000_1, .int .i64 x318001_1]) (j := 0) hcl86 hcc86 (show 2 ≤ 2 from by decide) (x' := (⟨x318000_1, x318001_1⟩ : S24)) (k24_mkM _ _ _ (⟨x318000_1, x318001_1⟩ : S24) ) (fun _ hk => hk); have hx86_0 := hcc86 0 _ rfl; (try simp only [show (k24).sz = 2 from rfl, Nat.mul_one, Nat.add_zero] at hx86_0); have hf86_0 := hfr86 0; (try simp only [show (k24).sz = 2 from rfl, Nat.mul_one, Nat.add_zero] at hf86_0); have hx86_1 := hcc86 1 _ rfl; (try simp only [show (k24).sz = 2 from rfl, Nat.mul_one, Nat.add_zero] at hx86_1); have hf86_1 := hfr86 1; (try simp only [show (k24).sz = 2 from rfl, Nat.mul_one, Nat.add_zero] at hf86_1); clear hcl86 hcc86 hfr86 hM86) | ((with_reducible refine gate_store (t := 24) (p := 80) rfl ?_); refine store_event (t := 24) (p := 80) (v := ?vo_w87) (w1 := ((w83.setCell ⟨go21, ((ji71) : Int).toNat * 2, none⟩ (.int .i64 x318000_1)).setCell ⟨go21, ((ji71) : Int).toNat * 2 + 1, none⟩ (.int .i64 x318001_1))) ?hg ?ho ?hn ?hr ?_; (case ho => rfl); (case hg => rfl); (case hn => rfl); (case hr => first | (go_simp; done) | (go_simp; rfl)); intro w87 hw; have hg : w83.grownBy w87 (some go21) := (by rw [hw]; exact HP86.2); have hp_ : Kd.R k24 24 w87 w.heap.size (fun k_ => k_ ≠ gb304 ∧ k_ ≠ gb317) (.slice (some ⟨go21, 0, none⟩) x6_1.length co21) y333 := (by rw [hw, Ny333.out]; exact HP86.1); clear HP86; have n0_ := Aside0.mk (hp_); have n1_ := Aside0.mk (blk_grown (g := gb304) (o := .cells #[.int .i64 x305000_1, .int .i64 x305001_1] 24 (0, 0)) (by (with_reducible repeat (first | refine blk_drewN ?_ _ | refine blk_drew ?_ | refine blk_alloc ?_ _)); exact BK304.out) hg (Kd.R_away HO_6.out (fun _ hk => hk.1))); have n2_ := Aside0.mk (blk_grown (g := gb317) (o := .cells #[.int .i64 x318000_1, .int .i64 x318001_1] 24 (0, 0)) (by (with_reducible repeat (first | refine blk_drewN ?_ _ | refine blk_drew ?_ | refine blk_alloc ?_ _)); exact BK317.out) hg (Kd.R_away HO_6.out (fun _ hk => hk.2))); have n3_ := Aside0.mk ((by rw [hw]; exact below_set (below_set (HB.out) GB21.out) GB21.out : Below w.heap.size w w87)); clear HO_6; clear BK304; clear BK317; clear HB; have HO_6 := n0_; have BK304 := n1_; have BK317 := n2_; have HB := n3_; clear n0_ n1_ n2_ n3_; clear hg hw hp_))
                                      (try simp only [← hl6_1])
                                      go_roundg kj34
                                      case measure => have := HK1.out; have := HJ34.out; omega
                                      case rel => exact ⟨(y333), ((ji71)), (x305000_1), (x305001_1), (x318000_1), (x318001_1), (by first | rfl | (simp; done) | (simp only [← hji71] <;> (first | rfl | simp)) | (simp [*]; done)), H', ⟨by have := HK1.out; have := HJ34.out; omega⟩, ⟨by (try simp only [hl6_1]); (with_reducible repeat (first | apply Kd.R_alloc | apply Kd.R_drewN | apply Kd.R_drew)); exact HO_6.out⟩, ⟨by (try simp only [hl6_1]); (with_reducible repeat (first | refine blk_drewN ?_ _ | refine blk_drew ?_ | refine blk_alloc ?_ _)); exact BK304.out⟩, ⟨by (try simp only [hl6_1]); (with_reducible repeat (first | refine blk_drewN ?_ _ | refine blk_drew ?_ | refine blk_alloc ?_ _)); exact BK317.out⟩, ⟨by repeat (first | (with_reducible first | exact HB.out | apply below_alloc | apply pw_below_drewN | apply below_drew1 | refine below_set ?_ GE304.out | refine below_set ?_ GE317.out) | exact HB.out)⟩⟩
                                    · rw [if_neg c77] at H
                                      exact absurd H (by simp)
                                  · rw [if_neg c76] at H
                                    exact absurd H (by simp)
                                · replace c75 := Bool.eq_false_iff.mpr c75
                                  subst c75
                                  have H1 : (if 0 < (l0.length : Int) then (some (x6_1, (rd_T24 l0 0).f0, (rd_T24 l0 0).f1, true)) else (none)) = some (r1, r2, r3, r4) := by rw [if_neg (show ¬ (false = true) by decide)] at H; exact H
                                  clear H
                                  have H := H1
                                  clear H1
                                  by_cases c88 : 0 < (l0.length : Int)
                                  · rw [if_pos c88] at H
                                    have c88b0 : decide (0 < (l0.length : Int)) = true := decide_eq_true c88
                                    have c88b1 : decide (0 < l0.length) = true := decide_eq_true (by omega)
                                    clear c88
                                    simp only [Option.some.injEq, Prod.mk.injEq] at H
                                    obtain ⟨rfl, rfl, rfl, rfl⟩ := H
                                    try go_wp2
                                    have n0_ := Aside0.mk (Kd.R_drew HO_6.out)
                                    have n1_ := Aside0.mk (blk_drew BK304.out)
                                    have n2_ := Aside0.mk (blk_drew BK317.out)
                                    have n3_ := Aside0.mk (below_drew1 HB.out)
                                    clear HO_6
                                    clear BK304
                                    clear BK317
                                    clear HB
                                    have HO_6 := n0_
                                    have BK304 := n1_
                                    have BK317 := n2_
                                    have HB := n3_
                                    clear n0_ n1_ n2_ n3_
                                    have p329 : 0 ≤ ((ji71) : Int) := of_decide_eq_true (by first | (with_reducible assumption) | assumption)
                                    have q329 : (ji71) < (x6_1.length : Int) := of_decide_eq_true (by first | (with_reducible assumption) | assumption)
                                    obtain ⟨ad329, e329, hx329_0, hx329_1⟩ := at_T24 (Kd.R_reads' HO_6.out).2.2 (ji71) p329 q329
                                    obtain rfl : (⟨go21, 0, none⟩ : Addr) = ad329 := (by injection e329)
                                    (first | simp only [add_plain] at hx329_0 | simp only [add_at] at hx329_0 | simp only [Addr.add, Nat.zero_add] at hx329_0 | skip)
                                    (first | simp only [add_plain] at hx329_1 | simp only [add_at] at hx329_1 | simp only [Addr.add, Nat.zero_add] at hx329_1 | skip)
                                    replace p329 := eq_true p329
                                    replace q329 := eq_true q329
                                    refine start_ (n := 7) (S := fun w' => w'.cell? ⟨gb317, 0, none⟩ = some (.int .i64 x318000_1) ∧ w'.cell? ⟨gb317, 1, none⟩ = some (.int .i64 x318001_1) ∧ w'.cell? ⟨go21, ((ji71)).toNat * 2, none⟩ = some (.int .i64 ((rd_T24 x6_1 (ji71)).f0)) ∧ w'.cell? ⟨go21, ((ji71)).toNat * 2 + 1, none⟩ = some (.int .i64 ((rd_T24 x6_1 (ji71)).f1))) (ds := []) #[false, false, false, false, false, false, false] (by kernel_rfl) rfl rfl ⟨(blk_cell BK317.out 0).trans rfl, (blk_cell BK317.out 1).trans rfl, hx329_0, hx329_1⟩ (fun hHeld => ?_)
                                    generalize wc.drew = w89 at HO_6 BK304 BK317 HB hx329_0 hx329_1 hHeld ⊢
                                    refine pure_ (i := 0) (N := some 62) (v := ?_) (a' := ?_) #[true, false, false, false, false, false, false] rfl rfl (by kernel_rfl) (fun _ _ _ h => h) (Or.inl ⟨by rfl, ?_⟩) ?_ ?_
                                    rotate_left
                                    · intro w'
                                      go_simp
                                      with_reducible rfl
                                    rotate_left
                                    · simp only [Act.put, List.setIfInBounds_toArray, List.set_cons_zero, List.set_cons_succ, i64_w, i32_w]
                                      rfl
                                    refine pure_ (i := 1) (N := some 63) (v := ?_) (a' := ?_) #[true, true, false, false, false, false, false] rfl rfl (by kernel_rfl) (fun _ _ _ h => h) (Or.inl ⟨by rfl, ?_⟩) ?_ ?_
                                    rotate_left
                                    · intro w'
                                      go_simp
                                      with_reducible rfl
                                    rotate_left
                                    · simp only [Act.put, List.setIfInBounds_toArray, List.set_cons_zero, List.set_cons_succ, i64_w, i32_w]
                                      rfl
                                    refine pure_ (i := 2) (N := some 64) (v := ?_) (a' := ?_) #[true, true, true, false, false, false, false] rfl rfl (by kernel_rfl) (fun _ _ _ h => h) (Or.inl ⟨by rfl, ?_⟩) ?_ ?_
                                    rotate_left
                                    · intro w'
                                      go_simp
                                      with_reducible rfl
                                    rotate_left
                                    · simp only [Act.put, List.setIfInBounds_toArray, List.set_cons_zero, List.set_cons_succ, i64_w, i32_w]
                                      rfl
                                    refine take_ (i := 3) (N := some 65) (v := ?_) (a' := ?_) #[true, true, true, true, false, false, false] rfl rfl (by kernel_rfl) (fun _ _ _ h => h) (Or.inl ⟨by rfl, ?_⟩) hHeld ?_ ?_
                                    rotate_left
                                    · rintro w' ⟨s0, s1, s2, s3⟩
                                      (try simp only [add_plain] at s0 s1 s2 s3)
                                      go_simp
                                      with_reducible rfl
                                    rotate_left
                                    · simp only [Act.put, List.setIfInBounds_toArray, List.set_cons_zero, List.set_cons_succ, i64_w, i32_w]
                                      rfl
                                    refine take_ (i := 4) (N := some 66) (v := ?_) (a' := ?_) #[true, true, true, true, true, false, false] rfl rfl (by kernel_rfl) (fun _ _ _ h => h) (Or.inl ⟨by rfl, ?_⟩) hHeld ?_ ?_
                                    rotate_left
                                    · rintro w' ⟨s0, s1, s2, s3⟩
                                      (try simp only [add_plain] at s0 s1 s2 s3)
                                      go_simp
                                      with_reducible rfl
                                    rotate_left
                                    · simp only [Act.put, List.setIfInBounds_toArray, List.set_cons_zero, List.set_cons_succ, i64_w, i32_w]
                                      rfl
                                    refine one_ (i := 5) (N := some 67) #[true, true, true, true, true, true, false] rfl rfl (by kernel_rfl) (by decide) (fun K hK => ?_)
                                    refine goes_ Try.func14 (by kernel_rfl) rfl #[.agg #[.int .i64 ((rd_T24 x6_1 (ji71)).f0), .int .i64 ((rd_T24 x6_1 (ji71)).f1)], .agg #[.int .i64 x318000_1, .int .i64 x318001_1]] (by rfl) rfl rfl (by (try simp only [List.map_toArray, List.map_cons, List.map_nil]); first | done | (simp only [hji71]; rfl) | rfl | (simp only [List.length_drop, List.length_take]; rfl)) ?_
                                    with_reducible refine (stolonref12_Less.calls ((rd_T24 x6_1 (ji71)).f0) ((rd_T24 x6_1 (ji71)).f1) x318000_1 x318001_1 false _ A74.out).mono ?_
                                    rintro e w90 ⟨rfl, hb⟩
                                    have HS2_ := (hb.cell (World.block_lt_of_cell? _ _ (hHeld.2.2.1))).trans (hHeld.2.2.1)
                                    have HS3_ := (hb.cell (World.block_lt_of_cell? _ _ (hHeld.2.2.2))).trans (hHeld.2.2.2)
                                    refine ⟨_, rfl, ?_⟩
                                    have n0_ := Aside0.mk (Kd.R_below (by (with_reducible repeat (first | apply Kd.R_alloc | apply Kd.R_drewN | apply Kd.R_drew)); exact HO_6.out) hb)
                                    have n1_ := Aside0.mk (blk_below (g := gb304) (o := .cells #[.int .i64 x305000_1, .int .i64 x305001_1] 24 (0, 0)) (by (with_reducible repeat (first | refine blk_drewN ?_ _ | refine blk_drew ?_ | refine blk_alloc ?_ _)); exact BK304.out) hb)
                                    have n2_ := Aside0.mk (blk_below (g := gb317) (o := .cells #[.int .i64 x318000_1, .int .i64 x318001_1] 24 (0, 0)) (by (with_reducible repeat (first | refine blk_drewN ?_ _ | refine blk_drew ?_ | refine blk_alloc ?_ _)); exact BK317.out) hb)
                                    have n3_ := Aside0.mk (below_step (by repeat (first | (with_reducible first | exact HB.out | apply below_alloc | apply pw_below_drewN | apply below_drew1 | refine below_set ?_ GE304.out | refine below_set ?_ GE317.out) | exact HB.out)) hb)
                                    clear HO_6
                                    clear BK304
                                    clear BK317
                                    clear HB
                                    have HO_6 := n0_
                                    have BK304 := n1_
                                    have BK317 := n2_
                                    have HB := n3_
                                    clear n0_ n1_ n2_ n3_
                                    (try clear hb)
                                    (try clear hb2)
                                    (try clear hk)
                                    (try clear hi)
                                    refine hK.out _ _ ⟨(blk_cell BK317.out 0).trans rfl, (blk_cell BK317.out 1).trans rfl, HS2_, HS3_⟩ (fun hHeld => ?_)
                                    clear hK K
                                    refine norm_ (a' := ?_) ?_ ?_
                                    rotate_left
                                    · show Act.put _ (some 67) _ = _
                                      simp only [Act.put, List.setIfInBounds_toArray, List.set_cons_zero, List.set_cons_succ, i64_w, i32_w]
                                      rfl
                                    refine pure_ (i := 6) (N := some 10) (v := ?_) (a' := ?_) #[true, true, true, true, true, true, true] rfl rfl (by kernel_rfl) (fun _ _ _ h => h) (Or.inl ⟨by rfl, ?_⟩) ?_ ?_
                                    rotate_left
                                    · intro w'
                                      go_simp
                                      with_reducible rfl
                                    rotate_left
                                    · simp only [Act.put, List.setIfInBounds_toArray, List.set_cons_zero, List.set_cons_succ, i64_w, i32_w]
                                      rfl
                                    refine done_ (by kernel_rfl) ?_
                                    try go_wp2
                                    have n0_ := Aside0.mk (Kd.R_drew HO_6.out)
                                    have n1_ := Aside0.mk (blk_drew BK304.out)
                                    have n2_ := Aside0.mk (blk_drew BK317.out)
                                    have n3_ := Aside0.mk (below_drew1 HB.out)
                                    clear HO_6
                                    clear BK304
                                    clear BK317
                                    clear HB
                                    have HO_6 := n0_
                                    have BK304 := n1_
                                    have BK317 := n2_
                                    have HB := n3_
                                    clear n0_ n1_ n2_ n3_
                                    have p334 : 0 ≤ (0 : Int) := (by omega)
                                    have q334 : 0 < (l0.length : Int) := of_decide_eq_true (by first | (with_reducible assumption) | assumption)
                                    obtain ⟨ad334, e334, hx334_0, hx334_1⟩ := at_T24 HR0.out 0 p334 q334
                                    have hw334_1 := hx334_1
                                    (try rw [show ((0 : Int)).toNat = 0 from rfl] at hw334_1)
                                    (try rw [show 0 * 2 = 0 from rfl] at hw334_1)
                                    (try rw [Addr.add_zero'] at hw334_1)
                                    have hw334_0 := hx334_0
                                    (try rw [show ((0 : Int)).toNat = 0 from rfl] at hw334_0)
                                    (try rw [show 0 * 2 = 0 from rfl] at hw334_0)
                                    (try rw [Addr.add_zero'] at hw334_0)
                                    obtain rfl : ad316 = ad334 := (by injection e334)
                                    have qi334 : (0 < l0.length) = True := eq_true (by omega)
                                    (try rw [show ((0 : Int)).toNat = 0 from rfl] at hx334_0)
                                    (try rw [show 0 * 2 = 0 from rfl] at hx334_0)
                                    (try rw [Addr.add_zero'] at hx334_0)
                                    (try rw [show ((0 : Int)).toNat = 0 from rfl] at hx334_1)
                                    (try rw [show 0 * 2 = 0 from rfl] at hx334_1)
                                    (try rw [Addr.add_zero'] at hx334_1)
                                    replace hx334_0 := (HB.out.cell (World.block_lt_of_cell? w _ hx334_0)).trans hx334_0
                                    replace hx334_1 := (HB.out.cell (World.block_lt_of_cell? w _ hx334_1)).trans hx334_1
                                    replace p334 := eq_true p334
                                    replace q334 := eq_true q334
                                    refine start_ (n := 7) (S := fun w' => w'.cell? ad316 = some (.int .i64 ((rd_T24 l0 0).f0)) ∧ w'.cell? ⟨ad316.block, ad316.off + 1, none⟩ = some (.int .i64 ((rd_T24 l0 0).f1))) (ds := []) #[false, false, false, false, false, false, false] (by kernel_rfl) rfl rfl ⟨((HB.out.cell (World.block_lt_of_cell? w _ hw334_0)).trans hw334_0), ((HB.out.cell (World.block_lt_of_cell? w _ hw334_1)).trans hw334_1)⟩ (fun hHeld => ?_)
                                    generalize w90.drew = w91 at HO_6 BK304 BK317 HB hx334_0 hx334_1 hHeld ⊢
                                    refine pure_ (i := 0) (N := some 82) (v := ?_) (a' := ?_) #[true, false, false, false, false, false, false] rfl rfl (by kernel_rfl) (fun _ _ _ h => h) (Or.inl ⟨by rfl, ?_⟩) ?_ ?_
                                    rotate_left
                                    · intro w'
                                      go_simp
                                      with_reducible rfl
                                    rotate_left
                                    · simp only [Act.put, List.setIfInBounds_toArray, List.set_cons_zero, List.set_cons_succ, i64_w, i32_w]
                                      rfl
                                    refine pure_ (i := 1) (N := some 83) (v := ?_) (a' := ?_) #[true, true, false, false, false, false, false] rfl rfl (by kernel_rfl) (fun _ _ _ h => h) (Or.inl ⟨by rfl, ?_⟩) ?_ ?_
                                    rotate_left
                                    · intro w'
                                      go_simp
                                      with_reducible rfl
                                    rotate_left
                                    · simp only [Act.put, List.setIfInBounds_toArray, List.set_cons_zero, List.set_cons_succ, i64_w, i32_w]
                                      rfl
                                    refine pure_ (i := 2) (N := some 84) (v := ?_) (a' := ?_) #[true, true, true, false, false, false, false] rfl rfl (by kernel_rfl) (fun _ _ _ h => h) (Or.inl ⟨by rfl, ?_⟩) ?_ ?_
                                    rotate_left
                                    · intro w'
                                      go_simp
                                      with_reducible rfl
                                    rotate_left
                                    · simp only [Act.put, List.setIfInBounds_toArray, List.set_cons_zero, List.set_cons_succ, i64_w, i32_w]
                                      rfl
                                    refine pure_ (i := 4) (N := some 2) (v := ?_) (a' := ?_) #[true, true, true, false, true, false, false] rfl rfl (by kernel_rfl) (fun _ _ _ h => h) (Or.inl ⟨by rfl, ?_⟩) ?_ ?_
                                    rotate_left
                                    · intro w'
                                      go_simp
                                      with_reducible rfl
                                    rotate_left
                                    · simp only [Act.put, List.setIfInBounds_toArray, List.set_cons_zero, List.set_cons_succ, i64_w, i32_w]
                                      rfl
                                    refine take_ (i := 3) (N := some 85) (v := ?_) (a' := ?_) #[true, true, true, true, true, false, false] rfl rfl (by kernel_rfl) (fun _ _ _ h => h) (Or.inl ⟨by rfl, ?_⟩) hHeld ?_ ?_
                                    rotate_left
                                    · rintro w' ⟨s0, s1⟩
                                      (try simp only [add_plain] at s0 s1)
                                      go_simp
                                      with_reducible rfl
                                    rotate_left
                                    · simp only [Act.put, List.setIfInBounds_toArray, List.set_cons_zero, List.set_cons_succ, i64_w, i32_w]
                                      rfl
                                    refine one_ (i := 5) (N := none) #[true, true, true, true, true, true, false] rfl rfl (by kernel_rfl) (by decide) (fun K hK => ?_)
                                    have hs92 : w91.cell? ⟨gb304, 0, none⟩ = some (.int .i64 x305000_1) := (blk_cell BK304.out 0).trans rfl
                                    have hfs92 := blk_frozen BK304.out 0
                                    have hns92_1 := NB317_304.out
                                    have hms92_1 := NB304_317.out
                                    have hs93 : w91.cell? ⟨gb304, 1, none⟩ = some (.int .i64 x305001_1) := (blk_cell BK304.out 1).trans rfl
                                    have hfs93 := blk_frozen BK304.out 1
                                    have hns93_1 := NB317_304.out
                                    have hms93_1 := NB304_317.out
                                    refine skip_ (w1 := ?_) (by rfl) rfl ?_ ?_
                                    rotate_left
                                    · go_simp
                                      rfl
                                    refine hK.out _ _ ⟨((cell_far (p := ⟨gb304, _, none⟩) (by first | exact Nat.ne_of_lt (Nat.lt_of_lt_of_le (by have := World.block_lt_of_cell? _ _ hw334_0; first | rwa [add_block] at this | exact this) GW304.out) | (rw [add_block]; exact Nat.ne_of_lt (Nat.lt_of_lt_of_le (by have := World.block_lt_of_cell? _ _ hw334_0; first | rwa [add_block] at this | exact this) GW304.out)) | (show (Addr.add _ _).block ≠ _; rw [add_block]; exact Nat.ne_of_lt (Nat.lt_of_lt_of_le (by have := World.block_lt_of_cell? _ _ hw334_0; first | rwa [add_block] at this | exact this) GW304.out)) | (dsimp only; exact Nat.ne_of_lt (Nat.lt_of_lt_of_le (by have := World.block_lt_of_cell? _ _ hw334_0; first | rwa [add_block] at this | exact this) GW304.out))) _).trans (((cell_far (p := ⟨gb304, _, none⟩) (by first | exact Nat.ne_of_lt (Nat.lt_of_lt_of_le (by have := World.block_lt_of_cell? _ _ hw334_0; first | rwa [add_block] at this | exact this) GW304.out) | (rw [add_block]; exact Nat.ne_of_lt (Nat.lt_of_lt_of_le (by have := World.block_lt_of_cell? _ _ hw334_0; first | rwa [add_block] at this | exact this) GW304.out)) | (show (Addr.add _ _).block ≠ _; rw [add_block]; exact Nat.ne_of_lt (Nat.lt_of_lt_of_le (by have := World.block_lt_of_cell? _ _ hw334_0; first | rwa [add_block] at this | exact this) GW304.out)) | (dsimp only; exact Nat.ne_of_lt (Nat.lt_of_lt_of_le (by have := World.block_lt_of_cell? _ _ hw334_0; first | rwa [add_block] at this | exact this) GW304.out))) _).trans (hHeld.1)))), ((cell_far (p := ⟨gb304, _, none⟩) (by first | exact Nat.ne_of_lt (Nat.lt_of_lt_of_le (by have := World.block_lt_of_cell? _ _ hw334_1; first | rwa [add_block] at this | exact this) GW304.out) | (rw [add_block]; exact Nat.ne_of_lt (Nat.lt_of_lt_of_le (by have := World.block_lt_of_cell? _ _ hw334_1; first | rwa [add_block] at this | exact this) GW304.out)) | (show (Addr.add _ _).block ≠ _; rw [add_block]; exact Nat.ne_of_lt (Nat.lt_of_lt_of_le (by have := World.block_lt_of_cell? _ _ hw334_1; first | rwa [add_block] at this | exact this) GW304.out)) | (dsimp only; exact Nat.ne_of_lt (Nat.lt_of_lt_of_le (by have := World.block_lt_of_cell? _ _ hw334_1; first | rwa [add_block] at this | exact this) GW304.out))) _).trans (((cell_far (p := ⟨gb304, _, none⟩) (by first | exact Nat.ne_of_lt (Nat.lt_of_lt_of_le (by have := World.block_lt_of_cell? _ _ hw334_1; first | rwa [add_block] at this | exact this) GW304.out) | (rw [add_block]; exact Nat.ne_of_lt (Nat.lt_of_lt_of_le (by have := World.block_lt_of_cell? _ _ hw334_1; first | rwa [add_block] at this | exact this) GW304.out)) | (show (Addr.add _ _).block ≠ _; rw [add_block]; exact Nat.ne_of_lt (Nat.lt_of_lt_of_le (by have := World.block_lt_of_cell? _ _ hw334_1; first | rwa [add_block] at this | exact this) GW304.out)) | (dsimp only; exact Nat.ne_of_lt (Nat.lt_of_lt_of_le (by have := World.block_lt_of_cell? _ _ hw334_1; first | rwa [add_block] at this | exact this) GW304.out))) _).trans (hHeld.2))))⟩ (fun hHeld => ?_)
                                    clear hK K
                                    refine pure_ (i := 6) (N := some 4) (v := ?_) (a' := ?_) #[true, true, true, true, true, true, true] rfl rfl (by kernel_rfl) (fun _ _ _ h => h) (Or.inl ⟨by rfl, ?_⟩) ?_ ?_
                                    rotate_left
                                    · intro w'
                                      go_simp
                                      with_reducible rfl
                                    rotate_left
                                    · simp only [Act.put, List.setIfInBounds_toArray, List.set_cons_zero, List.set_cons_succ, i64_w, i32_w]
                                      rfl
                                    refine done_ (by kernel_rfl) ?_
                                    try go_wp2
                                    refine bodyPost_ret (results_list (rs := [.tmp 2, .cell 3 24, .tmp 4]) rfl (by simp) (.tmp (.cell gb304 24 #[.int .i64 ((rd_T24 l0 0).f0), .int .i64 ((rd_T24 l0 0).f1)] (0, 0) _ rfl (by (with_reducible repeat (first | refine blk_drewN ?_ _ | refine blk_drew ?_ | refine blk_alloc ?_ _)); refine blk_put (cs := #[.int .i64 ((rd_T24 l0 0).f0), .int .i64 x305001_1]) ?_ 1 _ rfl; (with_reducible repeat (first | refine blk_drewN ?_ _ | refine blk_drew ?_ | refine blk_alloc ?_ _)); refine blk_put (cs := #[.int .i64 x305000_1, .int .i64 x305001_1]) ?_ 0 _ rfl; (with_reducible repeat (first | refine blk_drewN ?_ _ | refine blk_drew ?_ | refine blk_alloc ?_ _)); exact BK304.out) Try.underlying24 rfl (by kernel_rfl) (.tmp .nil)))) rfl ?_
                                    exact ⟨_, by first | rfl | (simp [errW_none, errW_some] <;> rfl) | (simp only [← hji5, ← hji71]; first | rfl | (simp [errW_none, errW_some] <;> rfl)) | (simp [*, errW_none, errW_some] <;> rfl), by (with_reducible repeat (first | apply Kd.R_alloc | apply Kd.R_drewN | apply Kd.R_drew)); exact Kd.R_mono (Kd.R_far (p := ⟨gb304, 1, none⟩) (Kd.R_far (p := ⟨gb304, 0, none⟩) (Kd.R_mono HO_6.out (fun k_ hk => (⟨hk, hk.1⟩ : _ ∧ k_ ≠ gb304))) (fun _ hk => hk.2) (.int .i64 ((rd_T24 l0 0).f0))) (fun _ hk => hk.2) (.int .i64 ((rd_T24 l0 0).f1))) (fun _ hk => trivial), by repeat (first | (with_reducible first | exact HB.out | apply below_alloc | apply pw_below_drewN | apply below_drew1 | refine below_set ?_ GE304.out | refine below_set ?_ GE317.out) | exact HB.out)⟩
                                  · rw [if_neg c88] at H
                                    exact absurd H (by simp)
                              · rw [if_neg c73] at H
                                exact absurd H (by simp)
                            · rw [if_neg c72] at H
                              exact absurd H (by simp)
                    · rw [if_neg c34] at H
                      have c34b0 : decide ((wrap64 ((wrap64 (2 * x8_1)) + 1)) < ji5) = false := decide_eq_false c34
                      clear c34
                      by_cases c94 : 0 < (l0.length : Int)
                      · rw [if_pos c94] at H
                        have c94b0 : decide (0 < (l0.length : Int)) = true := decide_eq_true c94
                        have c94b1 : decide (0 < l0.length) = true := decide_eq_true (by omega)
                        clear c94
                        simp only [Option.some.injEq, Prod.mk.injEq] at H
                        obtain ⟨rfl, rfl, rfl, rfl⟩ := H
                        try go_wp2
                        have n0_ := Aside0.mk (Kd.R_drew HO_6.out)
                        have n1_ := Aside0.mk (blk_drew BK304.out)
                        have n2_ := Aside0.mk (blk_drew BK317.out)
                        have n3_ := Aside0.mk (below_drew1 HB.out)
                        clear HO_6
                        clear BK304
                        clear BK317
                        clear HB
                        have HO_6 := n0_
                        have BK304 := n1_
                        have BK317 := n2_
                        have HB := n3_
                        clear n0_ n1_ n2_ n3_
                        have p319 : 0 ≤ (0 : Int) := (by omega)
                        have q319 : 0 < (l0.length : Int) := of_decide_eq_true (by first | (with_reducible assumption) | assumption)
                        obtain ⟨ad319, e319, hx319_0, hx319_1⟩ := at_T24 HR0.out 0 p319 q319
                        have hw319_1 := hx319_1
                        (try rw [show ((0 : Int)).toNat = 0 from rfl] at hw319_1)
                        (try rw [show 0 * 2 = 0 from rfl] at hw319_1)
                        (try rw [Addr.add_zero'] at hw319_1)
                        have hw319_0 := hx319_0
                        (try rw [show ((0 : Int)).toNat = 0 from rfl] at hw319_0)
                        (try rw [show 0 * 2 = 0 from rfl] at hw319_0)
                        (try rw [Addr.add_zero'] at hw319_0)
                        obtain rfl : ad316 = ad319 := (by injection e319)
                        have qi319 : (0 < l0.length) = True := eq_true (by omega)
                        (try rw [show ((0 : Int)).toNat = 0 from rfl] at hx319_0)
                        (try rw [show 0 * 2 = 0 from rfl] at hx319_0)
                        (try rw [Addr.add_zero'] at hx319_0)
                        (try rw [show ((0 : Int)).toNat = 0 from rfl] at hx319_1)
                        (try rw [show 0 * 2 = 0 from rfl] at hx319_1)
                        (try rw [Addr.add_zero'] at hx319_1)
                        replace hx319_0 := (HB.out.cell (World.block_lt_of_cell? w _ hx319_0)).trans hx319_0
                        replace hx319_1 := (HB.out.cell (World.block_lt_of_cell? w _ hx319_1)).trans hx319_1
                        replace p319 := eq_true p319
                        replace q319 := eq_true q319
                        refine start_ (n := 7) (S := fun w' => w'.cell? ad316 = some (.int .i64 ((rd_T24 l0 0).f0)) ∧ w'.cell? ⟨ad316.block, ad316.off + 1, none⟩ = some (.int .i64 ((rd_T24 l0 0).f1))) (ds := []) #[false, false, false, false, false, false, false] (by kernel_rfl) rfl rfl ⟨((HB.out.cell (World.block_lt_of_cell? w _ hw319_0)).trans hw319_0), ((HB.out.cell (World.block_lt_of_cell? w _ hw319_1)).trans hw319_1)⟩ (fun hHeld => ?_)
                        generalize wr.drew = w95 at HO_6 BK304 BK317 HB hx319_0 hx319_1 hHeld ⊢
                        refine pure_ (i := 0) (N := some 82) (v := ?_) (a' := ?_) #[true, false, false, false, false, false, false] rfl rfl (by kernel_rfl) (fun _ _ _ h => h) (Or.inl ⟨by rfl, ?_⟩) ?_ ?_
                        rotate_left
                        · intro w'
                          go_simp
                          with_reducible rfl
                        rotate_left
                        · simp only [Act.put, List.setIfInBounds_toArray, List.set_cons_zero, List.set_cons_succ, i64_w, i32_w]
                          rfl
                        refine pure_ (i := 1) (N := some 83) (v := ?_) (a' := ?_) #[true, true, false, false, false, false, false] rfl rfl (by kernel_rfl) (fun _ _ _ h => h) (Or.inl ⟨by rfl, ?_⟩) ?_ ?_
                        rotate_left
                        · intro w'
                          go_simp
                          with_reducible rfl
                        rotate_left
                        · simp only [Act.put, List.setIfInBounds_toArray, List.set_cons_zero, List.set_cons_succ, i64_w, i32_w]
                          rfl
                        refine pure_ (i := 2) (N := some 84) (v := ?_) (a' := ?_) #[true, true, true, false, false, false, false] rfl rfl (by kernel_rfl) (fun _ _ _ h => h) (Or.inl ⟨by rfl, ?_⟩) ?_ ?_
                        rotate_left
                        · intro w'
                          go_simp
                          with_reducible rfl
                        rotate_left
                        · simp only [Act.put, List.setIfInBounds_toArray, List.set_cons_zero, List.set_cons_succ, i64_w, i32_w]
                          rfl
                        refine pure_ (i := 4) (N := some 2) (v := ?_) (a' := ?_) #[true, true, true, false, true, false, false] rfl rfl (by kernel_rfl) (fun _ _ _ h => h) (Or.inl ⟨by rfl, ?_⟩) ?_ ?_
                        rotate_left
                        · intro w'
                          go_simp
                          with_reducible rfl
                        rotate_left
                        · simp only [Act.put, List.setIfInBounds_toArray, List.set_cons_zero, List.set_cons_succ, i64_w, i32_w]
                          rfl
                        refine take_ (i := 3) (N := some 85) (v := ?_) (a' := ?_) #[true, true, true, true, true, false, false] rfl rfl (by kernel_rfl) (fun _ _ _ h => h) (Or.inl ⟨by rfl, ?_⟩) hHeld ?_ ?_
                        rotate_left
                        · rintro w' ⟨s0, s1⟩
                          (try simp only [add_plain] at s0 s1)
                          go_simp
                          with_reducible rfl
                        rotate_left
                        · simp only [Act.put, List.setIfInBounds_toArray, List.set_cons_zero, List.set_cons_succ, i64_w, i32_w]
                          rfl
                        refine one_ (i := 5) (N := none) #[true, true, true, true, true, true, false] rfl rfl (by kernel_rfl) (by decide) (fun K hK => ?_)
                        have hs96 : w95.cell? ⟨gb304, 0, none⟩ = some (.int .i64 x305000_1) := (blk_cell BK304.out 0).trans rfl
                        have hfs96 := blk_frozen BK304.out 0
                        have hns96_1 := NB317_304.out
                        have hms96_1 := NB304_317.out
                        have hs97 : w95.cell? ⟨gb304, 1, none⟩ = some (.int .i64 x305001_1) := (blk_cell BK304.out 1).trans rfl
                        have hfs97 := blk_frozen BK304.out 1
                        have hns97_1 := NB317_304.out
                        have hms97_1 := NB304_317.out
                        refine skip_ (w1 := ?_) (by rfl) rfl ?_ ?_
                        rotate_left
                        · go_simp
                          rfl
                        refine hK.out _ _ ⟨((cell_far (p := ⟨gb304, _, none⟩) (by first | exact Nat.ne_of_lt (Nat.lt_of_lt_of_le (by have := World.block_lt_of_cell? _ _ hw319_0; first | rwa [add_block] at this | exact this) GW304.out) | (rw [add_block]; exact Nat.ne_of_lt (Nat.lt_of_lt_of_le (by have := World.block_lt_of_cell? _ _ hw319_0; first | rwa [add_block] at this | exact this) GW304.out)) | (show (Addr.add _ _).block ≠ _; rw [add_block]; exact Nat.ne_of_lt (Nat.lt_of_lt_of_le (by have := World.block_lt_of_cell? _ _ hw319_0; first | rwa [add_block] at this | exact this) GW304.out)) | (dsimp only; exact Nat.ne_of_lt (Nat.lt_of_lt_of_le (by have := World.block_lt_of_cell? _ _ hw319_0; first | rwa [add_block] at this | exact this) GW304.out))) _).trans (((cell_far (p := ⟨gb304, _, none⟩) (by first | exact Nat.ne_of_lt (Nat.lt_of_lt_of_le (by have := World.block_lt_of_cell? _ _ hw319_0; first | rwa [add_block] at this | exact this) GW304.out) | (rw [add_block]; exact Nat.ne_of_lt (Nat.lt_of_lt_of_le (by have := World.block_lt_of_cell? _ _ hw319_0; first | rwa [add_block] at this | exact this) GW304.out)) | (show (Addr.add _ _).block ≠ _; rw [add_block]; exact Nat.ne_of_lt (Nat.lt_of_lt_of_le (by have := World.block_lt_of_cell? _ _ hw319_0; first | rwa [add_block] at this | exact this) GW304.out)) | (dsimp only; exact Nat.ne_of_lt (Nat.lt_of_lt_of_le (by have := World.block_lt_of_cell? _ _ hw319_0; first | rwa [add_block] at this | exact this) GW304.out))) _).trans (hHeld.1)))), ((cell_far (p := ⟨gb304, _, none⟩) (by first | exact Nat.ne_of_lt (Nat.lt_of_lt_of_le (by have := World.block_lt_of_cell? _ _ hw319_1; first | rwa [add_block] at this | exact this) GW304.out) | (rw [add_block]; exact Nat.ne_of_lt (Nat.lt_of_lt_of_le (by have := World.block_lt_of_cell? _ _ hw319_1; first | rwa [add_block] at this | exact this) GW304.out)) | (show (Addr.add _ _).block ≠ _; rw [add_block]; exact Nat.ne_of_lt (Nat.lt_of_lt_of_le (by have := World.block_lt_of_cell? _ _ hw319_1; first | rwa [add_block] at this | exact this) GW304.out)) | (dsimp only; exact Nat.ne_of_lt (Nat.lt_of_lt_of_le (by have := World.block_lt_of_cell? _ _ hw319_1; first | rwa [add_block] at this | exact this) GW304.out))) _).trans (((cell_far (p := ⟨gb304, _, none⟩) (by first | exact Nat.ne_of_lt (Nat.lt_of_lt_of_le (by have := World.block_lt_of_cell? _ _ hw319_1; first | rwa [add_block] at this | exact this) GW304.out) | (rw [add_block]; exact Nat.ne_of_lt (Nat.lt_of_lt_of_le (by have := World.block_lt_of_cell? _ _ hw319_1; first | rwa [add_block] at this | exact this) GW304.out)) | (show (Addr.add _ _).block ≠ _; rw [add_block]; exact Nat.ne_of_lt (Nat.lt_of_lt_of_le (by have := World.block_lt_of_cell? _ _ hw319_1; first | rwa [add_block] at this | exact this) GW304.out)) | (dsimp only; exact Nat.ne_of_lt (Nat.lt_of_lt_of_le (by have := World.block_lt_of_cell? _ _ hw319_1; first | rwa [add_block] at this | exact this) GW304.out))) _).trans (hHeld.2))))⟩ (fun hHeld => ?_)
                        clear hK K
                        refine pure_ (i := 6) (N := some 4) (v := ?_) (a' := ?_) #[true, true, true, true, true, true, true] rfl rfl (by kernel_rfl) (fun _ _ _ h => h) (Or.inl ⟨by rfl, ?_⟩) ?_ ?_
                        rotate_left
                        · intro w'
                          go_simp
                          with_reducible rfl
                        rotate_left
                        · simp only [Act.put, List.setIfInBounds_toArray, List.set_cons_zero, List.set_cons_succ, i64_w, i32_w]
                          rfl
                        refine done_ (by kernel_rfl) ?_
                        try go_wp2
                        refine bodyPost_ret (results_list (rs := [.tmp 2, .cell 3 24, .tmp 4]) rfl (by simp) (.tmp (.cell gb304 24 #[.int .i64 ((rd_T24 l0 0).f0), .int .i64 ((rd_T24 l0 0).f1)] (0, 0) _ rfl (by (with_reducible repeat (first | refine blk_drewN ?_ _ | refine blk_drew ?_ | refine blk_alloc ?_ _)); refine blk_put (cs := #[.int .i64 ((rd_T24 l0 0).f0), .int .i64 x305001_1]) ?_ 1 _ rfl; (with_reducible repeat (first | refine blk_drewN ?_ _ | refine blk_drew ?_ | refine blk_alloc ?_ _)); refine blk_put (cs := #[.int .i64 x305000_1, .int .i64 x305001_1]) ?_ 0 _ rfl; (with_reducible repeat (first | refine blk_drewN ?_ _ | refine blk_drew ?_ | refine blk_alloc ?_ _)); exact BK304.out) Try.underlying24 rfl (by kernel_rfl) (.tmp .nil)))) rfl ?_
                        exact ⟨_, by first | rfl | (simp [errW_none, errW_some] <;> rfl) | (simp only [← hji5]; first | rfl | (simp [errW_none, errW_some] <;> rfl)) | (simp [*, errW_none, errW_some] <;> rfl), by (with_reducible repeat (first | apply Kd.R_alloc | apply Kd.R_drewN | apply Kd.R_drew)); exact Kd.R_mono (Kd.R_far (p := ⟨gb304, 1, none⟩) (Kd.R_far (p := ⟨gb304, 0, none⟩) (Kd.R_mono HO_6.out (fun k_ hk => (⟨hk, hk.1⟩ : _ ∧ k_ ≠ gb304))) (fun _ hk => hk.2) (.int .i64 ((rd_T24 l0 0).f0))) (fun _ hk => hk.2) (.int .i64 ((rd_T24 l0 0).f1))) (fun _ hk => trivial), by repeat (first | (with_reducible first | exact HB.out | apply below_alloc | apply pw_below_drewN | apply below_drew1 | refine below_set ?_ GE304.out | refine below_set ?_ GE317.out) | exact HB.out)⟩
                      · rw [if_neg c94] at H
                        exact absurd H (by simp)
              · rw [if_neg c20] at H
                exact absurd H (by simp)
            · rw [if_neg c19] at H
              exact absurd H (by simp)
        · rw [if_neg c8] at H
          exact absurd H (by simp)
      · rw [if_neg c7] at H
        exact absurd H (by simp)
    · rw [if_neg c6] at H
      exact absurd H (by simp)

end Go.Proofs.Ytlihbdinghoeeab.P

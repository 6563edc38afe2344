/- For each Go function a Lean function, and the proof that a call comes to what it tells: made by program out of the translation (the kit's print, with texts by hand put in). No condition. -/
import Derived.Test.YteibolilodgjnaaSq
import Derived.Test.YteibolilodgjnaaPx0
import Derived.Test.YteibolilodgjnaaPx6
import Derived.Test.YteibolilodgjnaaPx7
import Derived.Test.YteibolilodgjnaaPx12
import Derived.Test.YteibolilodgjnaaPx13
namespace Go.Proofs.Yteibolilodgjnaa.P
open Go.RowKit Go.Proofs.Yteibolilodgjnaa.HRows Go.Proofs.YteibolilodgjnaaW.PrintWords Go.Proofs.YteibolilodgjnaaW.PrintLast Go.Proofs.YteibolilodgjnaaW.PrintMore
attribute [local go_sem] max2_int min2_int max_two min_two max_three min_three max_four min_four   -- for this text's walks alone
set_option linter.unusedVariables false
set_option linter.unusedSimpArgs false

/-! ### stolonref15_at: function 33 -/
def stolonref15_at.l0 : Nat → List (S27) → Int → Int → Int → Int → Option (Int)
 | 0, _, _, _, _, _ => none
 | k + 1, x0, x1, x2, x3, x9 => if x9 < (x0.length : Int) then (if 0 ≤ x9 then (if ((rd_T27 x0 x9).f0) = x1 then (if ((rd_T27 x0 x9).f1) = x2 then (if ((rd_T27 x0 x9).f2) = x3 then (some x9) else (stolonref15_at.l0 k x0 x1 x2 x3 (wrap64 (x9 + 1)))) else (stolonref15_at.l0 k x0 x1 x2 x3 (wrap64 (x9 + 1)))) else (stolonref15_at.l0 k x0 x1 x2 x3 (wrap64 (x9 + 1)))) else (none)) else (some (-1))
def stolonref15_at.f (k : Nat) (l0 : List (S27)) (a1 : Int) (a2 : Int) (a3 : Int) : Option (Int) := stolonref15_at.l0 k l0 a1 a2 a3 0
theorem stolonref15_at.mono_l : ∀ k, (∀ y0 y1 y2 y3 y4, LeO (stolonref15_at.l0 k y0 y1 y2 y3 y4) (stolonref15_at.l0 (k + 1) y0 y1 y2 y3 y4))
 | 0 => fun _ _ _ _ _ r h => by simp [stolonref15_at.l0] at h
 | k + 1 => by
  have ih0 := stolonref15_at.mono_l k
  ·intro y0 y1 y2 y3 y4
   unfold stolonref15_at.l0
   repeat' first
   | (with_reducible exact ih0 _ _ _ _ _)
   | (with_reducible exact LeO.refl _)
   | (with_reducible exact LeO.none _)
   | (with_reducible refine LeO.ite ?_ ?_)
   | (with_reducible refine LeO.bind ?_ (fun _ => ?_))
   | exact ih0 _ _ _ _ _
   | exact LeO.none _
   | refine LeO.ite ?_ ?_
   | refine LeO.bind ?_ (fun _ => ?_)
theorem stolonref15_at.mono : ∀ a0 a1 a2 a3 k, LeO (stolonref15_at.f k a0 a1 a2 a3) (stolonref15_at.f (k + 1) a0 a1 a2 a3) := by
 intro a0 a1 a2 a3 k
 have ih0 := stolonref15_at.mono_l k
 unfold stolonref15_at.f
 repeat' first
   | (with_reducible exact ih0 _ _ _ _ _)
   | (with_reducible exact LeO.refl _)
   | (with_reducible exact LeO.none _)
   | (with_reducible refine LeO.ite ?_ ?_)
   | (with_reducible refine LeO.bind ?_ (fun _ => ?_))
   | exact ih0 _ _ _ _ _
   | exact LeO.none _
   | refine LeO.ite ?_ ?_
   | refine LeO.bind ?_ (fun _ => ?_)
set_option maxHeartbeats 8000000 in
set_option maxRecDepth 100000 in
theorem stolonref15_at.calls (k : Nat) (A0 : Option Addr) (c0 : Nat) (l0 : List (S27)) (a1 : Int) (a2 : Int) (a3 : Int) (r : Int) (w : World) (hr0 : Kd.C k27 w A0 l0.length l0) (hc0 : l0.length ≤ c0) (h : stolonref15_at.f k l0 a1 a2 a3 = some r) :
  Calls Try.prog 33 #[.slice A0 l0.length c0, .int .u32 a1, .int .u32 a2, .int .u32 a3] w fun e w' => e = .returned (.int .i64 r) ∧ Drawn0 w w' := by
 have HR0 := m_ hr0
 have HC0 := m_ hc0
 clear hr0 hc0
 have H : (stolonref15_at.l0 k l0 a1 a2 a3 0) = some r := h
 clear h
 have H' := m_ H
 clear H
 go_enter Try.func33, Try.ntmps33
 go_wp2
 go_loopg [9] k (fun kq v9 w' => ∃ (x9_1 : Int), v9 = .int .i64 x9_1 ∧ Aside0 (stolonref15_at.l0 kq l0 a1 a2 a3 x9_1 = some r) ∧ Aside0 (kq ≤ k) ∧ Drawn0 w w')
 case atStart => exact ⟨(0), (by first | rfl | (simp; done) | (simp [*]; done)), H', ⟨Nat.le_refl _⟩, by repeat (first | exact Drawn0.refl _ | apply Drawn0.step)⟩
 case round =>
  clear H'
  try clear p2
  try clear c3
  obtain ⟨x9_1, rfl, HA, HK1, ⟨m1, rfl⟩⟩ := hrel
  cases gk with
  | zero => exact absurd HA.out (by simp [stolonref15_at.l0])
  | succ k1 =>
   have H := HA.out
   clear HA
   simp only [stolonref15_at.l0] at H
   by_cases c5 : x9_1 < (l0.length : Int)
   ·rw [if_pos c5] at H
    have c5b0 : decide (x9_1 < (l0.length : Int)) = true := decide_eq_true c5
    clear c5
    by_cases c6 : 0 ≤ x9_1
    ·rw [if_pos c6] at H
     have c6b0 : decide (0 ≤ x9_1) = true := decide_eq_true c6
     clear c6
     by_cases c7 : ((rd_T27 l0 x9_1).f0) = a1
     ·rw [if_pos c7] at H
      have c7b0 : (((rd_T27 l0 x9_1).f0) == a1) = true := beq_iff_eq.mpr c7
      have c7b1 : (((rd_T27 l0 x9_1).f0) != a1) = false := bne_eq_false_iff_eq.mpr c7
      clear c7
      by_cases c8 : ((rd_T27 l0 x9_1).f1) = a2
      ·rw [if_pos c8] at H
       have c8b0 : (((rd_T27 l0 x9_1).f1) == a2) = true := beq_iff_eq.mpr c8
       have c8b1 : (((rd_T27 l0 x9_1).f1) != a2) = false := bne_eq_false_iff_eq.mpr c8
       clear c8
       by_cases c9 : ((rd_T27 l0 x9_1).f2) = a3
       ·rw [if_pos c9] at H
        have c9b0 : (((rd_T27 l0 x9_1).f2) == a3) = true := beq_iff_eq.mpr c9
        have c9b1 : (((rd_T27 l0 x9_1).f2) != a3) = false := bne_eq_false_iff_eq.mpr c9
        clear c9
        obtain rfl := Option.some.inj H
        have p290 : 0 ≤ (x9_1 : Int) := of_decide_eq_true (by first | (with_reducible assumption) | assumption)
        have q290 : x9_1 < (l0.length : Int) := of_decide_eq_true (by first | (with_reducible assumption) | assumption)
        obtain ⟨ad290, A290_5, c290_5, e290, hx290_0, hx290_1, hx290_2, hx290_3, hx290_4, hx290_5, hl290_5, hi290_5⟩ := at_T27 HR0.out x9_1 p290 q290
        cases e290
        have HR290_5 := m_ hi290_5
        have HC290_5 := m_ hl290_5
        clear hi290_5 hl290_5
        replace p290 := eq_true p290
        replace q290 := eq_true q290
        have p291 : 0 ≤ (x9_1 : Int) := of_decide_eq_true (by first | (with_reducible assumption) | assumption)
        have q291 : x9_1 < (l0.length : Int) := of_decide_eq_true (by first | (with_reducible assumption) | assumption)
        obtain ⟨ad291, A291_5, c291_5, e291, hx291_0, hx291_1, hx291_2, hx291_3, hx291_4, hx291_5, hl291_5, hi291_5⟩ := at_T27 HR0.out x9_1 p291 q291
        obtain rfl : ad290 = ad291 := (by injection e291)
        have HR291_5 := m_ hi291_5
        have HC291_5 := m_ hl291_5
        clear hi291_5 hl291_5
        replace p291 := eq_true p291
        replace q291 := eq_true q291
        have ea_ := Option.some.inj (hx290_5.symm.trans hx291_5)
        injection ea_ with ea_ en_ ec_
        subst ea_
        subst ec_
        clear en_
        have p292 : 0 ≤ (x9_1 : Int) := of_decide_eq_true (by first | (with_reducible assumption) | assumption)
        have q292 : x9_1 < (l0.length : Int) := of_decide_eq_true (by first | (with_reducible assumption) | assumption)
        obtain ⟨ad292, A292_5, c292_5, e292, hx292_0, hx292_1, hx292_2, hx292_3, hx292_4, hx292_5, hl292_5, hi292_5⟩ := at_T27 HR0.out x9_1 p292 q292
        obtain rfl : ad290 = ad292 := (by injection e292)
        have HR292_5 := m_ hi292_5
        have HC292_5 := m_ hl292_5
        clear hi292_5 hl292_5
        replace p292 := eq_true p292
        replace q292 := eq_true q292
        have ea_ := Option.some.inj (hx290_5.symm.trans hx292_5)
        injection ea_ with ea_ en_ ec_
        subst ea_
        subst ec_
        clear en_
        go_wp2
        go_ret
        exact ⟨by first | rfl | (simp; done) | (simp [*]; done), by repeat (first | exact Drawn0.refl _ | apply Drawn0.step)⟩
       ·rw [if_neg c9] at H
        have c9b0 : (((rd_T27 l0 x9_1).f2) == a3) = false := beq_eq_false_iff_ne.mpr c9
        have c9b1 : (((rd_T27 l0 x9_1).f2) != a3) = true := bne_iff_ne.mpr c9
        have H' := m_ H
        clear H
        have p290 : 0 ≤ (x9_1 : Int) := of_decide_eq_true (by first | (with_reducible assumption) | assumption)
        have q290 : x9_1 < (l0.length : Int) := of_decide_eq_true (by first | (with_reducible assumption) | assumption)
        obtain ⟨ad290, A290_5, c290_5, e290, hx290_0, hx290_1, hx290_2, hx290_3, hx290_4, hx290_5, hl290_5, hi290_5⟩ := at_T27 HR0.out x9_1 p290 q290
        cases e290
        have HR290_5 := m_ hi290_5
        have HC290_5 := m_ hl290_5
        clear hi290_5 hl290_5
        replace p290 := eq_true p290
        replace q290 := eq_true q290
        have p291 : 0 ≤ (x9_1 : Int) := of_decide_eq_true (by first | (with_reducible assumption) | assumption)
        have q291 : x9_1 < (l0.length : Int) := of_decide_eq_true (by first | (with_reducible assumption) | assumption)
        obtain ⟨ad291, A291_5, c291_5, e291, hx291_0, hx291_1, hx291_2, hx291_3, hx291_4, hx291_5, hl291_5, hi291_5⟩ := at_T27 HR0.out x9_1 p291 q291
        obtain rfl : ad290 = ad291 := (by injection e291)
        have HR291_5 := m_ hi291_5
        have HC291_5 := m_ hl291_5
        clear hi291_5 hl291_5
        replace p291 := eq_true p291
        replace q291 := eq_true q291
        have ea_ := Option.some.inj (hx290_5.symm.trans hx291_5)
        injection ea_ with ea_ en_ ec_
        subst ea_
        subst ec_
        clear en_
        have p292 : 0 ≤ (x9_1 : Int) := of_decide_eq_true (by first | (with_reducible assumption) | assumption)
        have q292 : x9_1 < (l0.length : Int) := of_decide_eq_true (by first | (with_reducible assumption) | assumption)
        obtain ⟨ad292, A292_5, c292_5, e292, hx292_0, hx292_1, hx292_2, hx292_3, hx292_4, hx292_5, hl292_5, hi292_5⟩ := at_T27 HR0.out x9_1 p292 q292
        obtain rfl : ad290 = ad292 := (by injection e292)
        have HR292_5 := m_ hi292_5
        have HC292_5 := m_ hl292_5
        clear hi292_5 hl292_5
        replace p292 := eq_true p292
        replace q292 := eq_true q292
        have ea_ := Option.some.inj (hx290_5.symm.trans hx292_5)
        injection ea_ with ea_ en_ ec_
        subst ea_
        subst ec_
        clear en_
        go_wp2
        go_roundg k1
        case measure => have := HK1.out; omega
        case rel => exact ⟨(wrap64 (x9_1 + 1)), (by first | rfl | (simp; done) | (simp [*]; done)), H', ⟨by have := HK1.out; omega⟩, by repeat (first | exact Drawn0.refl _ | apply Drawn0.step)⟩
      ·rw [if_neg c8] at H
       have c8b0 : (((rd_T27 l0 x9_1).f1) == a2) = false := beq_eq_false_iff_ne.mpr c8
       have c8b1 : (((rd_T27 l0 x9_1).f1) != a2) = true := bne_iff_ne.mpr c8
       have H' := m_ H
       clear H
       have p290 : 0 ≤ (x9_1 : Int) := of_decide_eq_true (by first | (with_reducible assumption) | assumption)
       have q290 : x9_1 < (l0.length : Int) := of_decide_eq_true (by first | (with_reducible assumption) | assumption)
       obtain ⟨ad290, A290_5, c290_5, e290, hx290_0, hx290_1, hx290_2, hx290_3, hx290_4, hx290_5, hl290_5, hi290_5⟩ := at_T27 HR0.out x9_1 p290 q290
       cases e290
       have HR290_5 := m_ hi290_5
       have HC290_5 := m_ hl290_5
       clear hi290_5 hl290_5
       replace p290 := eq_true p290
       replace q290 := eq_true q290
       have p291 : 0 ≤ (x9_1 : Int) := of_decide_eq_true (by first | (with_reducible assumption) | assumption)
       have q291 : x9_1 < (l0.length : Int) := of_decide_eq_true (by first | (with_reducible assumption) | assumption)
       obtain ⟨ad291, A291_5, c291_5, e291, hx291_0, hx291_1, hx291_2, hx291_3, hx291_4, hx291_5, hl291_5, hi291_5⟩ := at_T27 HR0.out x9_1 p291 q291
       obtain rfl : ad290 = ad291 := (by injection e291)
       have HR291_5 := m_ hi291_5
       have HC291_5 := m_ hl291_5
       clear hi291_5 hl291_5
       replace p291 := eq_true p291
       replace q291 := eq_true q291
       have ea_ := Option.some.inj (hx290_5.symm.trans hx291_5)
       injection ea_ with ea_ en_ ec_
       subst ea_
       subst ec_
       clear en_
       go_wp2
       go_roundg k1
       case measure => have := HK1.out; omega
       case rel => exact ⟨(wrap64 (x9_1 + 1)), (by first | rfl | (simp; done) | (simp [*]; done)), H', ⟨by have := HK1.out; omega⟩, by repeat (first | exact Drawn0.refl _ | apply Drawn0.step)⟩
     ·rw [if_neg c7] at H
      have c7b0 : (((rd_T27 l0 x9_1).f0) == a1) = false := beq_eq_false_iff_ne.mpr c7
      have c7b1 : (((rd_T27 l0 x9_1).f0) != a1) = true := bne_iff_ne.mpr c7
      have H' := m_ H
      clear H
      have p290 : 0 ≤ (x9_1 : Int) := of_decide_eq_true (by first | (with_reducible assumption) | assumption)
      have q290 : x9_1 < (l0.length : Int) := of_decide_eq_true (by first | (with_reducible assumption) | assumption)
      obtain ⟨ad290, A290_5, c290_5, e290, hx290_0, hx290_1, hx290_2, hx290_3, hx290_4, hx290_5, hl290_5, hi290_5⟩ := at_T27 HR0.out x9_1 p290 q290
      cases e290
      have HR290_5 := m_ hi290_5
      have HC290_5 := m_ hl290_5
      clear hi290_5 hl290_5
      replace p290 := eq_true p290
      replace q290 := eq_true q290
      go_wp2
      go_roundg k1
      case measure => have := HK1.out; omega
      case rel => exact ⟨(wrap64 (x9_1 + 1)), (by first | rfl | (simp; done) | (simp [*]; done)), H', ⟨by have := HK1.out; omega⟩, by repeat (first | exact Drawn0.refl _ | apply Drawn0.step)⟩
    ·rw [if_neg c6] at H
     exact absurd H (by simp)
   ·rw [if_neg c5] at H
    have c5b0 : decide (x9_1 < (l0.length : Int)) = false := decide_eq_false c5
    clear c5
    obtain rfl := Option.some.inj H
    go_wp2
    go_ret
    exact ⟨by first | rfl | (simp; done) | (simp [*]; done), by repeat (first | exact Drawn0.refl _ | apply Drawn0.step)⟩

/-! ### stolonref15_Put: function 20, by hand (stolonref15.Put.lean.tpl) -/
/-- One round: a rule is laid ahead of the first one whose key is not less; the one of its own key is left out. -/
def putStep (r : S27) (s : List (S27) × Bool) (x : S27) : List (S27) × Bool :=
 if ltK (keyR x) (keyR r) = true then (s.1 ++ [x], s.2) else
 if s.2 = true then (if ltK (keyR r) (keyR x) = true then (s.1 ++ [x], true) else (s.1, true))
 else (if ltK (keyR r) (keyR x) = true then (s.1 ++ [r] ++ [x], true) else (s.1 ++ [r], true))
def putTo (r : S27) (l : List (S27)) : List (S27) × Bool := l.foldl (putStep r) ([], false)
def refPutF (r : S27) (l : List (S27)) : List (S27) := if (putTo r l).2 = true then (putTo r l).1 else (putTo r l).1 ++ [r]
def putRes (r x : S27) (xs : List (S27)) : Bool → Bool → Bool → List (S27) × Bool
 | true, laid, _ => (xs ++ [x], laid)
 | false, true, true => (xs ++ [x], true)
 | false, true, false => (xs, true)
 | false, false, true => (xs ++ [r] ++ [x], true)
 | false, false, false => (xs ++ [r], true)
theorem putStep_res (r x : S27) (xs : List (S27)) (laid : Bool) : putStep r (xs, laid) x = putRes r x xs (ltK (keyR x) (keyR r)) laid (ltK (keyR r) (keyR x)) := by
 unfold putStep
 cases ltK (keyR x) (keyR r) <;> cases laid <;> cases ltK (keyR r) (keyR x) <;> rfl
def endRes (r : S27) (xs : List (S27)) : Bool → List (S27)
 | true => xs
 | false => xs ++ [r]
theorem refPut_end (r : S27) (l : List (S27)) : refPutF r l = endRes r (putTo r l).1 (putTo r l).2 := by
 unfold refPutF
 cases (putTo r l).2 <;> rfl
theorem putTo_snoc (r : S27) (l : List (S27)) (x : S27) : putTo r (l ++ [x]) = putStep r (putTo r l) x := by
 unfold putTo
 rw [List.foldl_append]
 rfl
theorem putTo_len (r : S27) (l : List (S27)) : (putTo r l).1.length ≤ 2 * l.length := by
 have key : ∀ (l : List (S27)) (s : List (S27) × Bool), (l.foldl (putStep r) s).1.length ≤ s.1.length + 2 * l.length := by
  intro l
  induction l with
  | nil => intro s; simp
  | cons x l ih =>
   intro s
   rw [List.foldl_cons]
   refine Nat.le_trans (ih _) ?_
   unfold putStep
   repeat' split
   all_goals simp only [List.length_append, List.length_cons, List.length_nil]; omega
 have h := key l ([], false)
 simpa [putTo] using h
theorem six_below {w W : World} {a : Addr} {v0 v1 v2 v3 v4 v5 : Value} (hb : Below w.heap.size w W) (h : w.cell? a = some v0 ∧ w.cell? ⟨a.block, a.off + 1, none⟩ = some v1 ∧ w.cell? ⟨a.block, a.off + 2, none⟩ = some v2 ∧ w.cell? ⟨a.block, a.off + 3, none⟩ = some v3 ∧ w.cell? ⟨a.block, a.off + 4, none⟩ = some v4 ∧ w.cell? ⟨a.block, a.off + 5, none⟩ = some v5) :
  W.cell? a = some v0 ∧ W.cell? ⟨a.block, a.off + 1, none⟩ = some v1 ∧ W.cell? ⟨a.block, a.off + 2, none⟩ = some v2 ∧ W.cell? ⟨a.block, a.off + 3, none⟩ = some v3 ∧ W.cell? ⟨a.block, a.off + 4, none⟩ = some v4 ∧ W.cell? ⟨a.block, a.off + 5, none⟩ = some v5 :=
 ⟨pw_cell_below hb h.1, pw_cell_below hb h.2.1, pw_cell_below hb h.2.2.1, pw_cell_below hb h.2.2.2.1, pw_cell_below hb h.2.2.2.2.1, pw_cell_below hb h.2.2.2.2.2⟩
theorem six_cells {w : World} {ad : Addr} {i : Nat} {v0 v1 v2 v3 v4 v5 : Value} (h : ∀ j u, [v0, v1, v2, v3, v4, v5][j]? = some u → w.cell? (ad.add (i * 6 + j)) = some u) : w.cell? (ad.add (i * 6)) = some v0 ∧ w.cell? ⟨(ad.add (i * 6)).block, (ad.add (i * 6)).off + 1, none⟩ = some v1 ∧ w.cell? ⟨(ad.add (i * 6)).block, (ad.add (i * 6)).off + 2, none⟩ = some v2 ∧ w.cell? ⟨(ad.add (i * 6)).block, (ad.add (i * 6)).off + 3, none⟩ = some v3 ∧ w.cell? ⟨(ad.add (i * 6)).block, (ad.add (i * 6)).off + 4, none⟩ = some v4 ∧ w.cell? ⟨(ad.add (i * 6)).block, (ad.add (i * 6)).off + 5, none⟩ = some v5 :=
 ⟨h 0 _ rfl, by rw [← add_field _ _ 1 (by omega)]; exact h 1 _ rfl, by rw [← add_field _ _ 2 (by omega)]; exact h 2 _ rfl, by rw [← add_field _ _ 3 (by omega)]; exact h 3 _ rfl, by rw [← add_field _ _ 4 (by omega)]; exact h 4 _ rfl, by rw [← add_field _ _ 5 (by omega)]; exact h 5 _ rfl⟩
theorem less_f (a0 a1 a2 a3 a4 : Int) (l5 : List (S53)) (b0 b1 b2 b3 b4 : Int) (m5 : List (S53)) : stolonref15_less.f a0 a1 a2 a3 a4 l5 b0 b1 b2 b3 b4 m5 = some (ltK (a0, a1, a2) (b0, b1, b2)) := by
 unfold stolonref15_less.f ltK
 simp only
 by_cases h0 : a0 = b0
 ·subst h0
  by_cases h1 : a1 = b1
  ·subst h1; simp
  ·simp [h1]
 ·simp [h0]
def stolonref15_Put.f (k : Nat) (l0 : List (S27)) (a1_0 a1_1 a1_2 a1_3 a1_4 : Int) (l1_5 : List (S53)) (a2 : Int) : Option (List (S27) × Int) :=
 if l0.length ≤ 100000 then (stolonref15_Right.f k a1_0 a1_1 a1_2 a1_3 a1_4 l1_5).bind fun t => if t = true then (stolonref15_at.f k l0 a1_0 a1_1 a1_2).bind fun p => (if p < 0 ∧ (l0.length : Int) ≥ a2 then some (l0, 7) else some (refPutF ⟨a1_0, a1_1, a1_2, a1_3, a1_4, l1_5⟩ l0, 0)) else some (l0, 1)
 else none
theorem stolonref15_Put.mono : ∀ a0 a1 a2 a3 a4 a5 a6 a7 k, LeO (stolonref15_Put.f k a0 a1 a2 a3 a4 a5 a6 a7) (stolonref15_Put.f (k + 1) a0 a1 a2 a3 a4 a5 a6 a7) := by
 intro a0 a1 a2 a3 a4 a5 a6 a7 k
 unfold stolonref15_Put.f
 refine LeO.ite (LeO.bind (stolonref15_Right.mono _ _ _ _ _ _ _) (fun _ => LeO.ite (LeO.bind (stolonref15_at.mono _ _ _ _ _) (fun _ => LeO.refl _)) (LeO.refl _))) (LeO.refl _)
set_option maxHeartbeats 8000000 in
set_option maxRecDepth 100000 in
theorem stolonref15_Put.calls (k : Nat) (P0_ : Nat → Prop) (A0 : Option Addr) (c0 : Nat) (l0 : List (S27)) (a1_0 a1_1 a1_2 a1_3 a1_4 : Int) (P1_5_ : Nat → Prop) (A1_5 : Option Addr) (c1_5 : Nat) (l1_5 : List (S53)) (a2 : Int) (r1 : List (S27)) (r2 : Int) (w : World) (hs0 : Kd.V k27 27 w w.heap.size (fun k_ => P0_ k_) (.slice A0 l0.length c0) l0) (hs1_5 : Kd.V k53 53 w w.heap.size (fun k_ => P1_5_ k_) (.slice A1_5 l1_5.length c1_5) l1_5) (h : stolonref15_Put.f k l0 a1_0 a1_1 a1_2 a1_3 a1_4 l1_5 a2 = some (r1, r2)) :
  Calls Try.prog 20 #[.slice A0 l0.length c0, .agg #[.int .u32 a1_0, .int .u32 a1_1, .int .u32 a1_2, .int .i64 a1_3, .int .u32 a1_4, .slice A1_5 l1_5.length c1_5], .int .i64 a2] w fun e w' => ∃ v0_ : Value, e = .returned (.tuple #[v0_, .int .i64 r2]) ∧ Kd.V k27 27 w' w.heap.size (fun k_ => ((P0_ k_ ∨ P1_5_ k_) ∨ w.heap.size ≤ k_)) v0_ r1 ∧ Below w.heap.size w w' := by
 unfold stolonref15_Put.f at h
 split at h
 case isFalse => cases h
 case isTrue hl =>
 obtain ⟨t, hr, h⟩ := Option.bind_eq_some_iff.mp h
 have HS0 := m_ hs0
 have HS1 := m_ hs1_5
 have HRI := m_ hr
 have HL := m_ hl
 have H := m_ h
 have hu27 := Try.underlying27
 have HC1 := m_ (Kd.V_reads' HS1.out).2
 have HC0 := m_ (Kd.V_reads' HS0.out).2
 clear hs0 hs1_5 hr hl h
 go_enter Try.func20, Try.ntmps20
 go_wp2_with (go_at_call 17; refine Stop0.out ?_)
 refine ⟨?_⟩
 have BK := m_ (blk_new w (.cells #[.int .u32 a1_0, .int .u32 a1_1, .int .u32 a1_2, .int .i64 a1_3, .int .u32 a1_4, .slice A1_5 l1_5.length c1_5] 27))
 have HB := m_ (pa_ (Below.refl w.heap.size w) (.cells #[.int .u32 a1_0, .int .u32 a1_1, .int .u32 a1_2, .int .i64 a1_3, .int .u32 a1_4, .slice A1_5 l1_5.length c1_5] 27))
 generalize (w.alloc _) = w1 at BK HB ⊢
 refine (stolonref15_Right.calls k a1_0 a1_1 a1_2 a1_3 a1_4 A1_5 c1_5 l1_5 t w1 (Kd.C_below HC1.out.2 HB.out) HC1.out.1 HRI.out).mono ?_
 rintro e w2 ⟨rfl, hb⟩
 have BK2 := m_ (blk_below BK.out hb)
 have HB2 := m_ (below_step HB.out hb)
 clear hb BK HB
 cases t with
 | false =>
  have H1 := H.out
  rw [if_neg (by simp)] at H1
  simp only [Option.some.injEq, Prod.mk.injEq] at H1
  obtain ⟨rfl, rfl⟩ := H1
  go_wp2
  go_ret2
  exact ⟨_, rfl, Kd.V_mono (Kd.V_below HS0.out HB2.out) (fun k hk => .inl (.inl hk)), HB2.out⟩
 | true =>
  have H1 := H.out
  rw [if_pos rfl] at H1
  obtain ⟨p, hat, H1⟩ := Option.bind_eq_some_iff.mp H1
  have HAT := m_ hat
  have HH := m_ H1
  clear hat H1 H
  obtain ⟨b0, b1, b2, b3, b4, b5⟩ := blk6 BK2.out
  go_wp2_with (go_at_call 33; refine Stop0.out ?_)
  refine ⟨?_⟩
  refine (stolonref15_at.calls k A0 c0 l0 a1_0 a1_1 a1_2 p w2 (Kd.C_below HC0.out.2 HB2.out) HC0.out.1 HAT.out).mono ?_
  rintro e w3 ⟨rfl, hd⟩
  have hb := hd.below
  have BK3 := m_ (blk_below BK2.out hb)
  have HB3 := m_ (below_step HB2.out hb)
  clear hd hb BK2 HB2 b0 b1 b2 b3 b4 b5
  have hl2 := HL.out
  by_cases hp : p < 0 ∧ (l0.length : Int) ≥ a2
  ·have H1 := HH.out
   rw [if_pos hp] at H1
   simp only [Option.some.injEq, Prod.mk.injEq] at H1
   obtain ⟨rfl, rfl⟩ := H1
   have hd1 : decide (p < 0) = true := decide_eq_true hp.1
   have hd2 : decide ((l0.length : Int) ≥ a2) = true := decide_eq_true hp.2
   have hd3 : decide (a2 ≤ (l0.length : Int)) = true := decide_eq_true hp.2
   clear hp
   go_wp2
   go_ret2
   exact ⟨_, rfl, Kd.V_mono (Kd.V_below HS0.out HB3.out) (fun k hk => .inl (.inl hk)), HB3.out⟩
  ·have H1 := HH.out
   rw [if_neg hp] at H1
   simp only [Option.some.injEq, Prod.mk.injEq] at H1
   obtain ⟨rfl, rfl⟩ := H1
   have hgo : ∃ d1 d2 : Bool, decide (p < 0) = d1 ∧ decide ((l0.length : Int) ≥ a2) = d2 ∧ (d1 = true → d2 = false) := ⟨_, _, rfl, rfl, fun h1 => decide_eq_false (fun h2 => hp ⟨of_decide_eq_true h1, h2⟩)⟩
   obtain ⟨d1, d2, hd1, hd2, hd12⟩ := hgo
   have hd3 : decide (a2 ≤ (l0.length : Int)) = d2 := hd2
   have BKb := m_ (blk6 BK3.out)
   cases d1
   case' true => obtain rfl := hd12 rfl
   all_goals
    clear hp hd12
    go_wp2
    clear hd1 hd2 hd3
    -- LOOP
    have HRF := m_ (Kd.F_below (Kd.F_bound (Kd.V_F HS1.out)) HB3.out)
    have HC1w := m_ (Kd.C_below HC1.out.2 HB3.out)
    go_loopg [9, 10, 11] l0.length (fun g s9 s10 s11 wr => ∃ i : Nat, i ≤ l0.length ∧ l0.length - i ≤ g ∧ s11 = .int .i64 i ∧ s10 = .bool (putTo (⟨a1_0, a1_1, a1_2, a1_3, a1_4, l1_5⟩ : S27) (l0.take i)).2 ∧ Aside0 (Kd.N k27 27 wr w3.heap.size (fun k => ((P0_ k ∨ P1_5_ k) ∧ k < w.heap.size) ∨ w3.heap.size ≤ k) s9 (putTo (⟨a1_0, a1_1, a1_2, a1_3, a1_4, l1_5⟩ : S27) (l0.take i)).1) ∧ Aside0 (Below w3.heap.size w3 wr))
    case atStart => exact ⟨0, Nat.zero_le _, by omega, rfl, rfl, ⟨Kd.N_nil _ _ _ _ _⟩, ⟨Below.refl _ _⟩⟩
    case round =>
     obtain ⟨i, hi, hg, rfl, rfl, HN, HW⟩ := hrel
     have hl3 := HL.out
     by_cases hlt : i < l0.length
     ·have hlt' : (i : Int) < (l0.length : Int) := by omega
      have HST := m_ (show putTo (⟨a1_0, a1_1, a1_2, a1_3, a1_4, l1_5⟩ : S27) (l0.take (i + 1)) = putStep (⟨a1_0, a1_1, a1_2, a1_3, a1_4, l1_5⟩ : S27) (putTo (⟨a1_0, a1_1, a1_2, a1_3, a1_4, l1_5⟩ : S27) (l0.take i)) (l0[i]'hlt) from by rw [List.take_succ_eq_append_getElem hlt]; exact putTo_snoc _ _ _)
      have HLN := m_ (Nat.le_trans (putTo_len (⟨a1_0, a1_1, a1_2, a1_3, a1_4, l1_5⟩ : S27) (l0.take i)) (Nat.mul_le_mul_left 2 (List.length_take_le' i l0)))
      generalize putTo (⟨a1_0, a1_1, a1_2, a1_3, a1_4, l1_5⟩ : S27) (l0.take i) = st at HST HLN HN ⊢
      obtain ⟨xs, laid⟩ := st
      have HLN : Aside0 (xs.length ≤ 2 * l0.length) := HLN
      have HVF := m_ (Kd.F_below (Kd.F_bound (Kd.V_F HS0.out)) HB3.out)
      obtain ⟨ad, cx, rfl, hcl, hfk, hcc, hok⟩ := Kd.F_get HVF.out z27 (i : Int) (by omega) (by omega)
      obtain ⟨A5, c5, rfl, hl5, hf5⟩ := k27_openF hfk
      have hx : l0.getD (i : Int).toNat z27 = l0[i]'hlt := by rw [Int.toNat_natCast, List.getD_eq_getElem?_getD, List.getElem?_eq_getElem hlt, Option.getD_some]
      rw [hx] at hcc hl5 hf5
      rw [Int.toNat_natCast, show k27.sz = 6 from rfl] at hcc
      generalize (l0[i]'hlt) = x at HST hcc hl5 hf5
      have HE3 := m_ (six_cells hcc)
      have HX5 := m_ (And.intro hl5 (Kd.F_now hf5))
      have HXF := m_ (Kd.F_mono (ok' := fun k => P0_ k ∧ k < w.heap.size) hf5 (fun k hk => hk))
      clear hcc hcl hl5 hf5 hok hx hfk
      obtain ⟨e0, e1, e2, e3, e4, e5⟩ := six_below HW.out HE3.out
      obtain ⟨b0, b1, b2, b3, b4, b5⟩ := blk6 (blk_below BK3.out HW.out)
      have HL1 := m_ (less_f x.f0 x.f1 x.f2 x.f3 x.f4 x.f5 a1_0 a1_1 a1_2 a1_3 a1_4 l1_5)
      have HL2 := m_ (less_f a1_0 a1_1 a1_2 a1_3 a1_4 l1_5 x.f0 x.f1 x.f2 x.f3 x.f4 x.f5)
      have HST : Aside0 (putTo (⟨a1_0, a1_1, a1_2, a1_3, a1_4, l1_5⟩ : S27) (l0.take (i + 1)) = putRes (⟨a1_0, a1_1, a1_2, a1_3, a1_4, l1_5⟩ : S27) x xs (ltK (x.f0, x.f1, x.f2) (a1_0, a1_1, a1_2)) laid (ltK (a1_0, a1_1, a1_2) (x.f0, x.f1, x.f2))) := ⟨HST.out.trans (putStep_res _ _ _ _)⟩
      generalize ltK (x.f0, x.f1, x.f2) (a1_0, a1_1, a1_2) = q1 at HL1 HST
      generalize ltK (a1_0, a1_1, a1_2) (x.f0, x.f1, x.f2) = q2 at HL2 HST
      go_wp2
      go_region_held3 (fun W => W.cell? (ad.add (i * 6)) = some (.int .u32 x.f0) ∧ W.cell? ⟨(ad.add (i * 6)).block, (ad.add (i * 6)).off + 1, none⟩ = some (.int .u32 x.f1) ∧ W.cell? ⟨(ad.add (i * 6)).block, (ad.add (i * 6)).off + 2, none⟩ = some (.int .u32 x.f2) ∧ W.cell? ⟨(ad.add (i * 6)).block, (ad.add (i * 6)).off + 3, none⟩ = some (.int .i64 x.f3) ∧ W.cell? ⟨(ad.add (i * 6)).block, (ad.add (i * 6)).off + 4, none⟩ = some (.int .u32 x.f4) ∧ W.cell? ⟨(ad.add (i * 6)).block, (ad.add (i * 6)).off + 5, none⟩ = some (.slice A5 x.f5.length c5) ∧ W.cell? ⟨w.heap.size, 0, none⟩ = some (.int .u32 a1_0) ∧ W.cell? ⟨w.heap.size, 1, none⟩ = some (.int .u32 a1_1) ∧ W.cell? ⟨w.heap.size, 2, none⟩ = some (.int .u32 a1_2) ∧ W.cell? ⟨w.heap.size, 3, none⟩ = some (.int .i64 a1_3) ∧ W.cell? ⟨w.heap.size, 4, none⟩ = some (.int .u32 a1_4) ∧ W.cell? ⟨w.heap.size, 5, none⟩ = some (.slice A1_5 l1_5.length c1_5)) (first | exact ⟨e0, e1, e2, e3, e4, e5, b0, b1, b2, b3, b4, b5⟩ | exact ⟨(HE.out.cell (World.block_lt_of_cell? _ _ e0)).trans e0, (HE.out.cell (World.block_lt_of_cell? _ _ e1)).trans e1, (HE.out.cell (World.block_lt_of_cell? _ _ e2)).trans e2, (HE.out.cell (World.block_lt_of_cell? _ _ e3)).trans e3, (HE.out.cell (World.block_lt_of_cell? _ _ e4)).trans e4, (HE.out.cell (World.block_lt_of_cell? _ _ e5)).trans e5, (HE.out.cell (World.block_lt_of_cell? _ _ b0)).trans b0, (HE.out.cell (World.block_lt_of_cell? _ _ b1)).trans b1, (HE.out.cell (World.block_lt_of_cell? _ _ b2)).trans b2, (HE.out.cell (World.block_lt_of_cell? _ _ b3)).trans b3, (HE.out.cell (World.block_lt_of_cell? _ _ b4)).trans b4, (HE.out.cell (World.block_lt_of_cell? _ _ b5)).trans b5⟩) ((go_at_call 22; refine (stolonref15_less.calls x.f0 x.f1 x.f2 x.f3 x.f4 A5 c5 x.f5 a1_0 a1_1 a1_2 a1_3 a1_4 A1_5 c1_5 l1_5 q1 _ ?sa1 HX5.out.1 ?sb1 HC1.out.1 HL1.out).mono ?_; (case sa1 => exact Kd.C_below HX5.out.2 (pd_ HW.out)); (case sb1 => exact Kd.C_below HC1w.out (pd_ HW.out)); rintro e w5 ⟨rfl, hb5⟩; have HE := m_ hb5; have HW5 := m_ (below_step (pd_ HW.out) hb5); have HN5 := m_ (Kd.N_below (Kd.N_drew HN.out) hb5); clear hb5))
      clear HE
      clear e0 e1 e2 e3 e4 e5 b0 b1 b2 b3 b4 b5
      try (rename_i hHeld; clear hHeld)
      cases q1 with
      | true =>
       go_wp2
       go_quiet (fail)
       rename_i nq
       have HWq := m_ (pn_ HW5.out nq)
       have HNq := m_ (Kd.N_drewN HN5.out nq)
       generalize (w5.drewN nq) = w6 at HWq HNq ⊢
       obtain ⟨e0, e1, e2, e3, e4, e5⟩ := six_below HWq.out HE3.out
       obtain ⟨b0, b1, b2, b3, b4, b5⟩ := blk6 (blk_below BK3.out HWq.out)
       go_wp2_with ((with_reducible refine gate_builtin (b := .append) (xs := #[.tmp 65, .tmp 70]) rfl ?_); refine Stop0.out ?_)
       refine ⟨?_⟩
       clear e0 e1 e2 e3 e4 e5 b0 b1 b2 b3 b4 b5
       refine Kd.N_append k27 (w0 := w6) w3.heap.size rfl (.tmp 65) (.tmp 70) 22 27 (.agg #[(.int .u32 0), (.int .u32 0), (.int .u32 0), (.int .i64 0), (.int .u32 0), (.slice none 0 0)]) 56 rfl Try.underlying22 info27 rfl (by decide) (by omega) u9 (xs) x [.int .u32 x.f0, .int .u32 x.f1, .int .u32 x.f2, .int .i64 x.f3, .int .u32 x.f4, .slice A5 x.f5.length c5] (fun k => ((P0_ k ∨ P1_5_ k) ∧ k < w.heap.size) ∨ w3.heap.size ≤ k) (fun k => (P0_ k ∨ P1_5_ k) ∧ k < w.heap.size) rfl rfl (k27_mkF _ _ x HX5.out.1 (Kd.F_mono (Kd.F_below HXF.out HWq.out) (fun k hk => ⟨.inl hk.1, hk.2⟩))) (fun k hk => ⟨.inl hk, fun e => Nat.lt_irrefl _ (Nat.lt_of_lt_of_le (Nat.lt_of_lt_of_le hk.2 HB3.out.size) (Kd.N_base HNq.out _ e.symm))⟩) (fun k hk => .inr (Nat.le_trans HWq.out.size hk)) HNq.out (Below.refl _ _) HWq.out.size (by have h_ := HLN.out; (try simp only [List.length_append, List.length_cons, List.length_nil]); omega) ?_
       intro v1 w7 hn_ hb_ _ _
       have HN7 := m_ hn_
       have HW7 := m_ (HWq.out.trans hb_)
       clear hn_ hb_
       go_wp2
       go_roundg (l0.length - (i + 1))
       case measure => omega
       case rel => exact ⟨i + 1, by omega, by omega, by go_num, by rw [HST.out]; rfl, ⟨by rw [HST.out]; exact HN7.out⟩, HW7⟩
      | false =>
       cases laid with
       | true =>
        obtain ⟨e0, e1, e2, e3, e4, e5⟩ := six_below HW5.out HE3.out
        obtain ⟨b0, b1, b2, b3, b4, b5⟩ := blk6 (blk_below BK3.out HW5.out)
        go_wp2
        go_region_held3 (fun W => W.cell? (ad.add (i * 6)) = some (.int .u32 x.f0) ∧ W.cell? ⟨(ad.add (i * 6)).block, (ad.add (i * 6)).off + 1, none⟩ = some (.int .u32 x.f1) ∧ W.cell? ⟨(ad.add (i * 6)).block, (ad.add (i * 6)).off + 2, none⟩ = some (.int .u32 x.f2) ∧ W.cell? ⟨(ad.add (i * 6)).block, (ad.add (i * 6)).off + 3, none⟩ = some (.int .i64 x.f3) ∧ W.cell? ⟨(ad.add (i * 6)).block, (ad.add (i * 6)).off + 4, none⟩ = some (.int .u32 x.f4) ∧ W.cell? ⟨(ad.add (i * 6)).block, (ad.add (i * 6)).off + 5, none⟩ = some (.slice A5 x.f5.length c5) ∧ W.cell? ⟨w.heap.size, 0, none⟩ = some (.int .u32 a1_0) ∧ W.cell? ⟨w.heap.size, 1, none⟩ = some (.int .u32 a1_1) ∧ W.cell? ⟨w.heap.size, 2, none⟩ = some (.int .u32 a1_2) ∧ W.cell? ⟨w.heap.size, 3, none⟩ = some (.int .i64 a1_3) ∧ W.cell? ⟨w.heap.size, 4, none⟩ = some (.int .u32 a1_4) ∧ W.cell? ⟨w.heap.size, 5, none⟩ = some (.slice A1_5 l1_5.length c1_5)) (first | exact ⟨e0, e1, e2, e3, e4, e5, b0, b1, b2, b3, b4, b5⟩ | exact ⟨(HE.out.cell (World.block_lt_of_cell? _ _ e0)).trans e0, (HE.out.cell (World.block_lt_of_cell? _ _ e1)).trans e1, (HE.out.cell (World.block_lt_of_cell? _ _ e2)).trans e2, (HE.out.cell (World.block_lt_of_cell? _ _ e3)).trans e3, (HE.out.cell (World.block_lt_of_cell? _ _ e4)).trans e4, (HE.out.cell (World.block_lt_of_cell? _ _ e5)).trans e5, (HE.out.cell (World.block_lt_of_cell? _ _ b0)).trans b0, (HE.out.cell (World.block_lt_of_cell? _ _ b1)).trans b1, (HE.out.cell (World.block_lt_of_cell? _ _ b2)).trans b2, (HE.out.cell (World.block_lt_of_cell? _ _ b3)).trans b3, (HE.out.cell (World.block_lt_of_cell? _ _ b4)).trans b4, (HE.out.cell (World.block_lt_of_cell? _ _ b5)).trans b5⟩) ((go_at_call 22; refine (stolonref15_less.calls a1_0 a1_1 a1_2 a1_3 a1_4 A1_5 c1_5 l1_5 x.f0 x.f1 x.f2 x.f3 x.f4 A5 c5 x.f5 q2 _ ?sa2 HC1.out.1 ?sb2 HX5.out.1 HL2.out).mono ?_; (case sa2 => exact Kd.C_below HC1w.out (pd_ HW5.out)); (case sb2 => exact Kd.C_below HX5.out.2 (pd_ HW5.out)); rintro e w6 ⟨rfl, hb5⟩; have HE := m_ hb5; have HW6 := m_ (below_step (pd_ HW5.out) hb5); have HN6 := m_ (Kd.N_below (Kd.N_drew HN5.out) hb5); clear hb5))
        clear HE
        clear e0 e1 e2 e3 e4 e5 b0 b1 b2 b3 b4 b5
        try (rename_i hHeld; clear hHeld)
        cases q2 with
        | true =>
         obtain ⟨e0, e1, e2, e3, e4, e5⟩ := six_below HW6.out HE3.out
         obtain ⟨b0, b1, b2, b3, b4, b5⟩ := blk6 (blk_below BK3.out HW6.out)
         go_wp2_with ((with_reducible refine gate_builtin (b := .append) (xs := #[.tmp 65, .tmp 70]) rfl ?_); refine Stop0.out ?_)
         refine ⟨?_⟩
         clear e0 e1 e2 e3 e4 e5 b0 b1 b2 b3 b4 b5
         refine Kd.N_append k27 (w0 := w6) w3.heap.size rfl (.tmp 65) (.tmp 70) 22 27 (.agg #[(.int .u32 0), (.int .u32 0), (.int .u32 0), (.int .i64 0), (.int .u32 0), (.slice none 0 0)]) 56 rfl Try.underlying22 info27 rfl (by decide) (by omega) u9 (xs) x [.int .u32 x.f0, .int .u32 x.f1, .int .u32 x.f2, .int .i64 x.f3, .int .u32 x.f4, .slice A5 x.f5.length c5] (fun k => ((P0_ k ∨ P1_5_ k) ∧ k < w.heap.size) ∨ w3.heap.size ≤ k) (fun k => (P0_ k ∨ P1_5_ k) ∧ k < w.heap.size) rfl rfl (k27_mkF _ _ x HX5.out.1 (Kd.F_mono (Kd.F_below HXF.out HW6.out) (fun k hk => ⟨.inl hk.1, hk.2⟩))) (fun k hk => ⟨.inl hk, fun e => Nat.lt_irrefl _ (Nat.lt_of_lt_of_le (Nat.lt_of_lt_of_le hk.2 HB3.out.size) (Kd.N_base HN6.out _ e.symm))⟩) (fun k hk => .inr (Nat.le_trans HW6.out.size hk)) HN6.out (Below.refl _ _) HW6.out.size (by have h_ := HLN.out; (try simp only [List.length_append, List.length_cons, List.length_nil]); omega) ?_
         intro v9 w7 hn_ hb_ _ _
         have HN9 := m_ hn_
         have HW9 := m_ (HW6.out.trans hb_)
         clear hn_ hb_
         go_wp2
         go_roundg (l0.length - (i + 1))
         case measure => omega
         case rel => exact ⟨i + 1, by omega, by omega, by go_num, by rw [HST.out]; rfl, ⟨by rw [HST.out]; exact HN9.out⟩, HW9⟩
        | false =>
         go_wp2
         go_roundg (l0.length - (i + 1))
         case measure => omega
         case rel => exact ⟨i + 1, by omega, by omega, by go_num, by rw [HST.out]; rfl, ⟨by rw [HST.out]; exact HN6.out⟩, HW6⟩
       | false =>
        obtain ⟨e0, e1, e2, e3, e4, e5⟩ := six_below HW5.out HE3.out
        obtain ⟨b0, b1, b2, b3, b4, b5⟩ := blk6 (blk_below BK3.out HW5.out)
        go_wp2_with ((with_reducible refine gate_builtin (b := .append) (xs := #[.tmp 52, .tmp 54]) rfl ?_); refine Stop0.out ?_)
        refine ⟨?_⟩
        clear e0 e1 e2 e3 e4 e5 b0 b1 b2 b3 b4 b5
        refine Kd.N_append k27 (w0 := w5) w3.heap.size rfl (.tmp 52) (.tmp 54) 22 27 (.agg #[(.int .u32 0), (.int .u32 0), (.int .u32 0), (.int .i64 0), (.int .u32 0), (.slice none 0 0)]) 56 rfl Try.underlying22 info27 rfl (by decide) (by omega) u9 (xs) (⟨a1_0, a1_1, a1_2, a1_3, a1_4, l1_5⟩ : S27) [.int .u32 a1_0, .int .u32 a1_1, .int .u32 a1_2, .int .i64 a1_3, .int .u32 a1_4, .slice A1_5 l1_5.length c1_5] (fun k => ((P0_ k ∨ P1_5_ k) ∧ k < w.heap.size) ∨ w3.heap.size ≤ k) (fun k => (P0_ k ∨ P1_5_ k) ∧ k < w.heap.size) rfl rfl (k27_mkF _ _ (⟨a1_0, a1_1, a1_2, a1_3, a1_4, l1_5⟩ : S27) HC1.out.1 (Kd.F_mono (Kd.F_below HRF.out HW5.out) (fun k hk => ⟨.inr hk.1, hk.2⟩))) (fun k hk => ⟨.inl hk, fun e => Nat.lt_irrefl _ (Nat.lt_of_lt_of_le (Nat.lt_of_lt_of_le hk.2 HB3.out.size) (Kd.N_base HN5.out _ e.symm))⟩) (fun k hk => .inr (Nat.le_trans HW5.out.size hk)) HN5.out (Below.refl _ _) HW5.out.size (by have h_ := HLN.out; (try simp only [List.length_append, List.length_cons, List.length_nil]); omega) ?_
        intro v1 w6 hn_ hb_ _ _
        have HN6 := m_ hn_
        have HW6 := m_ (HW5.out.trans hb_)
        clear hn_ hb_
        obtain ⟨e0, e1, e2, e3, e4, e5⟩ := six_below HW6.out HE3.out
        obtain ⟨b0, b1, b2, b3, b4, b5⟩ := blk6 (blk_below BK3.out HW6.out)
        go_wp2
        go_region_held3 (fun W => W.cell? (ad.add (i * 6)) = some (.int .u32 x.f0) ∧ W.cell? ⟨(ad.add (i * 6)).block, (ad.add (i * 6)).off + 1, none⟩ = some (.int .u32 x.f1) ∧ W.cell? ⟨(ad.add (i * 6)).block, (ad.add (i * 6)).off + 2, none⟩ = some (.int .u32 x.f2) ∧ W.cell? ⟨(ad.add (i * 6)).block, (ad.add (i * 6)).off + 3, none⟩ = some (.int .i64 x.f3) ∧ W.cell? ⟨(ad.add (i * 6)).block, (ad.add (i * 6)).off + 4, none⟩ = some (.int .u32 x.f4) ∧ W.cell? ⟨(ad.add (i * 6)).block, (ad.add (i * 6)).off + 5, none⟩ = some (.slice A5 x.f5.length c5) ∧ W.cell? ⟨w.heap.size, 0, none⟩ = some (.int .u32 a1_0) ∧ W.cell? ⟨w.heap.size, 1, none⟩ = some (.int .u32 a1_1) ∧ W.cell? ⟨w.heap.size, 2, none⟩ = some (.int .u32 a1_2) ∧ W.cell? ⟨w.heap.size, 3, none⟩ = some (.int .i64 a1_3) ∧ W.cell? ⟨w.heap.size, 4, none⟩ = some (.int .u32 a1_4) ∧ W.cell? ⟨w.heap.size, 5, none⟩ = some (.slice A1_5 l1_5.length c1_5)) (first | exact ⟨e0, e1, e2, e3, e4, e5, b0, b1, b2, b3, b4, b5⟩ | exact ⟨(HE.out.cell (World.block_lt_of_cell? _ _ e0)).trans e0, (HE.out.cell (World.block_lt_of_cell? _ _ e1)).trans e1, (HE.out.cell (World.block_lt_of_cell? _ _ e2)).trans e2, (HE.out.cell (World.block_lt_of_cell? _ _ e3)).trans e3, (HE.out.cell (World.block_lt_of_cell? _ _ e4)).trans e4, (HE.out.cell (World.block_lt_of_cell? _ _ e5)).trans e5, (HE.out.cell (World.block_lt_of_cell? _ _ b0)).trans b0, (HE.out.cell (World.block_lt_of_cell? _ _ b1)).trans b1, (HE.out.cell (World.block_lt_of_cell? _ _ b2)).trans b2, (HE.out.cell (World.block_lt_of_cell? _ _ b3)).trans b3, (HE.out.cell (World.block_lt_of_cell? _ _ b4)).trans b4, (HE.out.cell (World.block_lt_of_cell? _ _ b5)).trans b5⟩) ((go_at_call 22; refine (stolonref15_less.calls a1_0 a1_1 a1_2 a1_3 a1_4 A1_5 c1_5 l1_5 x.f0 x.f1 x.f2 x.f3 x.f4 A5 c5 x.f5 q2 _ ?sa3 HC1.out.1 ?sb3 HX5.out.1 HL2.out).mono ?_; (case sa3 => exact Kd.C_below HC1w.out (pd_ HW6.out)); (case sb3 => exact Kd.C_below HX5.out.2 (pd_ HW6.out)); rintro e w7 ⟨rfl, hb5⟩; have HE := m_ hb5; have HW7 := m_ (below_step (pd_ HW6.out) hb5); have HN7 := m_ (Kd.N_below (Kd.N_drew HN6.out) hb5); clear hb5))
        clear HE
        clear e0 e1 e2 e3 e4 e5 b0 b1 b2 b3 b4 b5
        try (rename_i hHeld; clear hHeld)
        cases q2 with
        | true =>
         obtain ⟨e0, e1, e2, e3, e4, e5⟩ := six_below HW7.out HE3.out
         obtain ⟨b0, b1, b2, b3, b4, b5⟩ := blk6 (blk_below BK3.out HW7.out)
         go_wp2_with ((with_reducible refine gate_builtin (b := .append) (xs := #[.tmp 65, .tmp 70]) rfl ?_); refine Stop0.out ?_)
         refine ⟨?_⟩
         clear e0 e1 e2 e3 e4 e5 b0 b1 b2 b3 b4 b5
         refine Kd.N_append k27 (w0 := w7) w3.heap.size rfl (.tmp 65) (.tmp 70) 22 27 (.agg #[(.int .u32 0), (.int .u32 0), (.int .u32 0), (.int .i64 0), (.int .u32 0), (.slice none 0 0)]) 56 rfl Try.underlying22 info27 rfl (by decide) (by omega) v1 (xs ++ [(⟨a1_0, a1_1, a1_2, a1_3, a1_4, l1_5⟩ : S27)]) x [.int .u32 x.f0, .int .u32 x.f1, .int .u32 x.f2, .int .i64 x.f3, .int .u32 x.f4, .slice A5 x.f5.length c5] (fun k => ((P0_ k ∨ P1_5_ k) ∧ k < w.heap.size) ∨ w3.heap.size ≤ k) (fun k => (P0_ k ∨ P1_5_ k) ∧ k < w.heap.size) rfl rfl (k27_mkF _ _ x HX5.out.1 (Kd.F_mono (Kd.F_below HXF.out HW7.out) (fun k hk => ⟨.inl hk.1, hk.2⟩))) (fun k hk => ⟨.inl hk, fun e => Nat.lt_irrefl _ (Nat.lt_of_lt_of_le (Nat.lt_of_lt_of_le hk.2 HB3.out.size) (Kd.N_base HN7.out _ e.symm))⟩) (fun k hk => .inr (Nat.le_trans HW7.out.size hk)) HN7.out (Below.refl _ _) HW7.out.size (by have h_ := HLN.out; (try simp only [List.length_append, List.length_cons, List.length_nil]); omega) ?_
         intro v9 w8 hn_ hb_ _ _
         have HN9 := m_ hn_
         have HW9 := m_ (HW7.out.trans hb_)
         clear hn_ hb_
         go_wp2
         go_roundg (l0.length - (i + 1))
         case measure => omega
         case rel => exact ⟨i + 1, by omega, by omega, by go_num, by rw [HST.out]; rfl, ⟨by rw [HST.out]; exact HN9.out⟩, HW9⟩
        | false =>
         go_wp2
         go_roundg (l0.length - (i + 1))
         case measure => omega
         case rel => exact ⟨i + 1, by omega, by omega, by go_num, by rw [HST.out]; rfl, ⟨by rw [HST.out]; exact HN7.out⟩, HW7⟩
     ·obtain rfl : i = l0.length := by omega
      have hlt' : ¬ ((l0.length : Int) < (l0.length : Int)) := by omega
      have hN := HN.out
      rw [List.take_of_length_le (Nat.le_refl _)] at hN ⊢
      have HLN := m_ (putTo_len (⟨a1_0, a1_1, a1_2, a1_3, a1_4, l1_5⟩ : S27) l0)
      have HRS : Aside0 (refPutF (⟨a1_0, a1_1, a1_2, a1_3, a1_4, l1_5⟩ : S27) l0 = endRes (⟨a1_0, a1_1, a1_2, a1_3, a1_4, l1_5⟩ : S27) (putTo (⟨a1_0, a1_1, a1_2, a1_3, a1_4, l1_5⟩ : S27) l0).1 (putTo (⟨a1_0, a1_1, a1_2, a1_3, a1_4, l1_5⟩ : S27) l0).2) := ⟨refPut_end _ _⟩
      generalize putTo (⟨a1_0, a1_1, a1_2, a1_3, a1_4, l1_5⟩ : S27) l0 = st at hN HRS HLN ⊢
      obtain ⟨xs, laid⟩ := st
      have HN := m_ hN
      have HLN : Aside0 (xs.length ≤ 2 * l0.length) := HLN
      clear hN
      cases laid with
      | true =>
       go_wp2
       go_ret2
       exact ⟨_, rfl, by rw [HRS.out]; exact Kd.V_mono (Kd.N_V HN.out) (fun k hk => hk.elim (fun h => .inl h.1) (fun h => .inr (Nat.le_trans HB3.out.size h))), below_step HB3.out HW.out⟩
      | false =>
       obtain ⟨e0, e1, e2, e3, e4, e5⟩ : True ∧ True ∧ True ∧ True ∧ True ∧ True := ⟨trivial, trivial, trivial, trivial, trivial, trivial⟩
       skip
       obtain ⟨b0, b1, b2, b3, b4, b5⟩ := blk6 (blk_below BK3.out HW.out)
       go_wp2_with ((with_reducible refine gate_builtin (b := .append) (xs := #[.tmp 74, .tmp 76]) rfl ?_); refine Stop0.out ?_)
       refine ⟨?_⟩
       clear e0 e1 e2 e3 e4 e5 b0 b1 b2 b3 b4 b5
       refine Kd.N_append k27 (w0 := wr) w3.heap.size rfl (.tmp 74) (.tmp 76) 22 27 (.agg #[(.int .u32 0), (.int .u32 0), (.int .u32 0), (.int .i64 0), (.int .u32 0), (.slice none 0 0)]) 56 rfl Try.underlying22 info27 rfl (by decide) (by omega) u9 (xs) (⟨a1_0, a1_1, a1_2, a1_3, a1_4, l1_5⟩ : S27) [.int .u32 a1_0, .int .u32 a1_1, .int .u32 a1_2, .int .i64 a1_3, .int .u32 a1_4, .slice A1_5 l1_5.length c1_5] (fun k => ((P0_ k ∨ P1_5_ k) ∧ k < w.heap.size) ∨ w3.heap.size ≤ k) (fun k => (P0_ k ∨ P1_5_ k) ∧ k < w.heap.size) rfl rfl (k27_mkF _ _ (⟨a1_0, a1_1, a1_2, a1_3, a1_4, l1_5⟩ : S27) HC1.out.1 (Kd.F_mono (Kd.F_below HRF.out HW.out) (fun k hk => ⟨.inr hk.1, hk.2⟩))) (fun k hk => ⟨.inl hk, fun e => Nat.lt_irrefl _ (Nat.lt_of_lt_of_le (Nat.lt_of_lt_of_le hk.2 HB3.out.size) (Kd.N_base HN.out _ e.symm))⟩) (fun k hk => .inr (Nat.le_trans HW.out.size hk)) HN.out (Below.refl _ _) HW.out.size (by have h_ := HLN.out; (try simp only [List.length_append, List.length_cons, List.length_nil]); omega) ?_
       intro v1 w7 hn_ hb_ _ _
       have HN7 := m_ hn_
       have HW7 := m_ (HW.out.trans hb_)
       clear hn_ hb_
       go_wp2
       go_ret2
       exact ⟨_, rfl, by rw [HRS.out]; exact Kd.V_mono (Kd.N_V HN7.out) (fun k hk => hk.elim (fun h => .inl h.1) (fun h => .inr (Nat.le_trans HB3.out.size h))), below_step HB3.out HW7.out⟩

end Go.Proofs.Yteibolilodgjnaa.P

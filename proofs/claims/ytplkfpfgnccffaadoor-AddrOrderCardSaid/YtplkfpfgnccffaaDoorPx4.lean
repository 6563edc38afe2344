/- For each Go function a Lean function, and the proof that a call comes to what it tells: made by program out of the translation (the kit's print, with texts by hand put in). No condition. -/
import Derived.Test.YtplkfpfgnccffaaDoorSq
import Derived.Test.YtplkfpfgnccffaaDoorPx0
import Derived.Test.YtplkfpfgnccffaaDoorPx3
namespace Go.Proofs.YtplkfpfgnccffaaDoor.P
open Go.RowKit Go.Proofs.YtplkfpfgnccffaaDoor.HRows Go.Proofs.YtplkfpfgnccffaaDoorW.PrintWords Go.Proofs.YtplkfpfgnccffaaDoorW.PrintLast Go.Proofs.YtplkfpfgnccffaaDoorW.PrintMore
attribute [local go_sem] max2_int min2_int max_two min_two max_three min_three max_four min_four   -- for this text's walks alone
set_option linter.unusedVariables false
set_option linter.unusedSimpArgs false

/-! ### stolonref01_Parse: function 11 -/
mutual
def stolonref01_Parse.l0 : Nat → ByteArray → List Int → Int → Int → Option (Int × Int)
 | 0, _, _, _, _ => none
 | k + 1, x0, x4, x5, x6 => if x6 < (x0.size : Int) then (if 0 ≤ x6 then (if (bt x0 x6) = 46 then (if x4.length < 17592186044416 then (stolonref01_Parse.l0 k x0 (x4 ++ [x5]) 0 (wrap64 (x6 + 1))) else (none)) else (if (bt x0 x6) < 48 then (some (0, 2)) else (if (bt x0 x6) > 57 then (some (0, 2)) else (if x5 > 255 then (some (0, 2)) else (stolonref01_Parse.l0 k x0 x4 (wrap64 ((wrap64 (x5 * 10)) + (((bt x0 x6) - 48) % 256))) (wrap64 (x6 + 1))))))) else (none)) else (if x4.length < 17592186044416 then ((some (x4 ++ [x5] : List Int)).bind fun y141 => (if (y141.length : Int) = 4 then (stolonref01_Parse.l1 k x0 y141 0 0) else (some (0, 2)))) else (none))
def stolonref01_Parse.l1 : Nat → ByteArray → List Int → Int → Int → Option (Int × Int)
 | 0, _, _, _, _ => none
 | k + 1, x0, x4, x7, x8 => if x8 < 4 then (if 0 ≤ x8 then (if x8 < (x4.length : Int) then (if (rd x4 x8) > 255 then (some (0, 2)) else (stolonref01_Parse.l1 k x0 x4 ((((x7 * 256) % 4294967296) + ((rd x4 x8) % 4294967296)) % 4294967296) (wrap64 (x8 + 1)))) else (none)) else (none)) else ((stolonref01_Text.f x7).bind fun t146 => (if t146.toList = x0.toList then (some (x7, 0)) else (some (0, 2))))
end
def stolonref01_Parse.f (k : Nat) (a0 : ByteArray) : Option (Int × Int) := stolonref01_Parse.l0 k a0 ([] : List Int) 0 0
theorem stolonref01_Parse.mono_l : ∀ k, (∀ y0 y1 y2 y3, LeO (stolonref01_Parse.l0 k y0 y1 y2 y3) (stolonref01_Parse.l0 (k + 1) y0 y1 y2 y3)) ∧ (∀ y0 y1 y2 y3, LeO (stolonref01_Parse.l1 k y0 y1 y2 y3) (stolonref01_Parse.l1 (k + 1) y0 y1 y2 y3))
 | 0 => ⟨fun _ _ _ _ r h => by simp [stolonref01_Parse.l0] at h, fun _ _ _ _ r h => by simp [stolonref01_Parse.l1] at h⟩
 | k + 1 => by
  obtain ⟨ih0, ih1⟩ := stolonref01_Parse.mono_l k
  refine ⟨?_, ?_⟩
  ·intro y0 y1 y2 y3
   unfold stolonref01_Parse.l0
   repeat' first
   | (with_reducible exact ih0 _ _ _ _)
   | (with_reducible exact ih1 _ _ _ _)
   | (with_reducible exact LeO.refl _)
   | (with_reducible exact LeO.none _)
   | (with_reducible refine LeO.ite ?_ ?_)
   | (with_reducible refine LeO.bind ?_ (fun _ => ?_))
   | exact ih0 _ _ _ _
   | exact ih1 _ _ _ _
   | exact LeO.none _
   | refine LeO.ite ?_ ?_
   | refine LeO.bind ?_ (fun _ => ?_)
  ·intro y0 y1 y2 y3
   unfold stolonref01_Parse.l1
   repeat' first
   | (with_reducible exact ih0 _ _ _ _)
   | (with_reducible exact ih1 _ _ _ _)
   | (with_reducible exact LeO.refl _)
   | (with_reducible exact LeO.none _)
   | (with_reducible refine LeO.ite ?_ ?_)
   | (with_reducible refine LeO.bind ?_ (fun _ => ?_))
   | exact ih0 _ _ _ _
   | exact ih1 _ _ _ _
   | exact LeO.none _
   | refine LeO.ite ?_ ?_
   | refine LeO.bind ?_ (fun _ => ?_)
theorem stolonref01_Parse.mono : ∀ a0 k, LeO (stolonref01_Parse.f k a0) (stolonref01_Parse.f (k + 1) a0) := by
 intro a0 k
 obtain ⟨ih0, ih1⟩ := stolonref01_Parse.mono_l k
 unfold stolonref01_Parse.f
 repeat' first
   | (with_reducible exact ih0 _ _ _ _)
   | (with_reducible exact ih1 _ _ _ _)
   | (with_reducible exact LeO.refl _)
   | (with_reducible exact LeO.none _)
   | (with_reducible refine LeO.ite ?_ ?_)
   | (with_reducible refine LeO.bind ?_ (fun _ => ?_))
   | exact ih0 _ _ _ _
   | exact ih1 _ _ _ _
   | exact LeO.none _
   | refine LeO.ite ?_ ?_
   | refine LeO.bind ?_ (fun _ => ?_)
set_option maxHeartbeats 8000000 in
set_option maxRecDepth 100000 in
theorem stolonref01_Parse.calls (k : Nat) (a0 : ByteArray) (r1 : Int) (r2 : Int) (w : World) (h : stolonref01_Parse.f k a0 = some (r1, r2)) :
  Calls Tryd.prog 11 #[.string a0] w fun e w' => e = .returned (.tuple #[.int .u32 r1, .int .i64 r2]) ∧ Below w.heap.size w w' := by
 have HB := m_ (Below.refl w.heap.size w)
 have H : (stolonref01_Parse.l0 k a0 ([] : List Int) 0 0) = some (r1, r2) := h
 clear h
 have H' := m_ H
 clear H
 go_enter Tryd.func11, Tryd.ntmps11
 go_wp2
 go_loopg [4, 5, 6] k (fun kq v4 v5 v6 w' => ∃ (x4_1 : List Int) (x5_1 : Int) (x6_1 : Int), v5 = .int .i64 x5_1 ∧ v6 = .int .i64 x6_1 ∧ Aside0 (stolonref01_Parse.l0 kq a0 x4_1 x5_1 x6_1 = some (r1, r2)) ∧ Aside0 (kq ≤ k) ∧ Aside0 (Kd.R (Kd.int .i64) 3 w' w.heap.size (fun _ => True) v4 x4_1) ∧ Aside0 (Below w.heap.size w w'))
 case atStart => exact ⟨(([] : List Int)), (0), (0), (by first | rfl | (simp; done) | (simp [*]; done)), (by first | rfl | (simp; done) | (simp [*]; done)), H', ⟨Nat.le_refl _⟩, ⟨by first | exact Kd.R_nil _ _ _ _ _ | exact Kd.N_nil _ _ _ _ _ | exact Kd.V_nil _ _ _ _ _ | exact Kd.Q_nil _ _ _ _ _ | exact Kd.S_nil _ _ _ _ _⟩, ⟨bz_⟩⟩
 case round =>
  clear H'
  try clear c1
  obtain ⟨x4_1, x5_1, x6_1, rfl, rfl, HA, HK1, HO_4, HB⟩ := hrel
  cases gk with
  | zero => exact absurd HA.out (by simp [stolonref01_Parse.l0])
  | succ k1 =>
   have H := HA.out
   clear HA
   simp only [stolonref01_Parse.l0] at H
   by_cases c2 : x6_1 < (a0.size : Int)
   ·rw [if_pos c2] at H
    have c2b0 : decide (x6_1 < (a0.size : Int)) = true := decide_eq_true c2
    clear c2
    by_cases c3 : 0 ≤ x6_1
    ·rw [if_pos c3] at H
     have c3b0 : decide (0 ≤ x6_1) = true := decide_eq_true c3
     clear c3
     by_cases c5 : (bt a0 x6_1) = 46
     ·rw [if_pos c5] at H
      have c5b0 : ((bt a0 x6_1) == 46) = true := beq_iff_eq.mpr c5
      have c5b1 : ((bt a0 x6_1) != 46) = false := bne_eq_false_iff_eq.mpr c5
      clear c5
      by_cases c6 : x4_1.length < 17592186044416
      ·rw [if_pos c6] at H
       have LMc6 := m_ c6
       clear c6
       obtain ⟨y138, hy138⟩ : ∃ y_ : List Int, y_ = (x4_1 ++ [x5_1]) := ⟨_, rfl⟩
       replace H : (stolonref01_Parse.l0 k1 a0 y138 0 (wrap64 (x6_1 + 1))) = some (r1, r2) := by first | (rw [hy138]; with_reducible exact H) | (have H2_ := (Option.bind_some _ _).symm.trans H; rw [hy138]; with_reducible exact H2_) | (have H2_ := (Option.bind_some _ _).symm.trans H; with_reducible exact H2_) | with_reducible exact H | (rw [hy138]; exact H) | exact H
       have Ny138 := m_ hy138
       clear hy138
       have H' := m_ H
       clear H
       have p4 : 0 ≤ (x6_1 : Int) := od_
       have q4 : x6_1 < (a0.size : Int) := od_
       have hx4 := bt_at a0 x6_1
       replace p4 := eq_true p4
       replace q4 := eq_true q4
       go_wp2_with (first | ((with_reducible refine gate_builtin (b := .append) (xs := #[.tmp 19, .tmp 21]) rfl ?_); at_builtin; refine Kd.R_append (Kd.int .i64) (w0 := w) w.heap.size rfl (.tmp 19) (.tmp 21) 52 3 (.int .i64 0) 8 rfl Tryd.underlying52 info3 rfl (by decide) (by omega) u4 x4_1 x5_1 [.int .i64 x5_1] (fun _ => True) (fun _ => False) rfl rfl ?aP (fun _ hk => hk.elim) ?aF ?aO ?aB ?aS ?aL ?_; (case aP => exact rfl); (case aB => exact bz_); (case aF => exact (fun _ _ => trivial)); (case aO => exact (Rz_ HO_4.out)); (case aS => exact (below_size bz_)); (case aL => have := LMc6.out; omega); intro v139 w7 ho hb hg hat; rw [← Ny138.out] at ho; have HO140 := m_ (ho); replace HB := m_ (hb); clear HO_4 ho hb hg hat))
       go_roundg k1
       case measure => have := HK1.out; omega
       case rel => exact ⟨(y138), (0), (wrap64 (x6_1 + 1)), (by first | rfl | (simp; done) | (simp [*]; done)), (by first | rfl | (simp; done) | (simp [*]; done)), H', ⟨by have := HK1.out; omega⟩, ⟨Rz_ HO140.out⟩, ⟨bz_⟩⟩
      ·rw [if_neg c6] at H
       exact absurd H (by simp)
     ·rw [if_neg c5] at H
      have c5b0 : ((bt a0 x6_1) == 46) = false := beq_eq_false_iff_ne.mpr c5
      have c5b1 : ((bt a0 x6_1) != 46) = true := bne_iff_ne.mpr c5
      by_cases c9 : (bt a0 x6_1) < 48
      ·rw [if_pos c9] at H
       have c9b0 : decide ((bt a0 x6_1) < 48) = true := decide_eq_true c9
       clear c9
       simp only [Option.some.injEq, Prod.mk.injEq] at H
       obtain ⟨rfl, rfl⟩ := H
       have p4 : 0 ≤ (x6_1 : Int) := od_
       have q4 : x6_1 < (a0.size : Int) := od_
       have hx4 := bt_at a0 x6_1
       replace p4 := eq_true p4
       replace q4 := eq_true q4
       have p8 : 0 ≤ (x6_1 : Int) := od_
       have q8 : x6_1 < (a0.size : Int) := od_
       have hx8 := bt_at a0 x6_1
       replace p8 := eq_true p8
       replace q8 := eq_true q8
       go_wp2
       go_ret2
       exact ⟨ew_, bz_⟩
      ·rw [if_neg c9] at H
       have c9b0 : decide ((bt a0 x6_1) < 48) = false := decide_eq_false c9
       clear c9
       by_cases c11 : (bt a0 x6_1) > 57
       ·rw [if_pos c11] at H
        have c11b0 : decide (57 < (bt a0 x6_1)) = true := decide_eq_true c11
        clear c11
        simp only [Option.some.injEq, Prod.mk.injEq] at H
        obtain ⟨rfl, rfl⟩ := H
        have p4 : 0 ≤ (x6_1 : Int) := od_
        have q4 : x6_1 < (a0.size : Int) := od_
        have hx4 := bt_at a0 x6_1
        replace p4 := eq_true p4
        replace q4 := eq_true q4
        have p8 : 0 ≤ (x6_1 : Int) := od_
        have q8 : x6_1 < (a0.size : Int) := od_
        have hx8 := bt_at a0 x6_1
        replace p8 := eq_true p8
        replace q8 := eq_true q8
        have p10 : 0 ≤ (x6_1 : Int) := od_
        have q10 : x6_1 < (a0.size : Int) := od_
        have hx10 := bt_at a0 x6_1
        replace p10 := eq_true p10
        replace q10 := eq_true q10
        go_wp2
        go_ret2
        exact ⟨ew_, bz_⟩
       ·rw [if_neg c11] at H
        have c11b0 : decide (57 < (bt a0 x6_1)) = false := decide_eq_false c11
        clear c11
        by_cases c12 : x5_1 > 255
        ·rw [if_pos c12] at H
         have c12b0 : decide (255 < x5_1) = true := decide_eq_true c12
         clear c12
         simp only [Option.some.injEq, Prod.mk.injEq] at H
         obtain ⟨rfl, rfl⟩ := H
         have p4 : 0 ≤ (x6_1 : Int) := od_
         have q4 : x6_1 < (a0.size : Int) := od_
         have hx4 := bt_at a0 x6_1
         replace p4 := eq_true p4
         replace q4 := eq_true q4
         have p8 : 0 ≤ (x6_1 : Int) := od_
         have q8 : x6_1 < (a0.size : Int) := od_
         have hx8 := bt_at a0 x6_1
         replace p8 := eq_true p8
         replace q8 := eq_true q8
         have p10 : 0 ≤ (x6_1 : Int) := od_
         have q10 : x6_1 < (a0.size : Int) := od_
         have hx10 := bt_at a0 x6_1
         replace p10 := eq_true p10
         replace q10 := eq_true q10
         go_wp2
         go_ret2
         exact ⟨ew_, bz_⟩
        ·rw [if_neg c12] at H
         have c12b0 : decide (255 < x5_1) = false := decide_eq_false c12
         clear c12
         have H' := m_ H
         clear H
         have p4 : 0 ≤ (x6_1 : Int) := od_
         have q4 : x6_1 < (a0.size : Int) := od_
         have hx4 := bt_at a0 x6_1
         replace p4 := eq_true p4
         replace q4 := eq_true q4
         have p8 : 0 ≤ (x6_1 : Int) := od_
         have q8 : x6_1 < (a0.size : Int) := od_
         have hx8 := bt_at a0 x6_1
         replace p8 := eq_true p8
         replace q8 := eq_true q8
         have p10 : 0 ≤ (x6_1 : Int) := od_
         have q10 : x6_1 < (a0.size : Int) := od_
         have hx10 := bt_at a0 x6_1
         replace p10 := eq_true p10
         replace q10 := eq_true q10
         have p13 : 0 ≤ (x6_1 : Int) := od_
         have q13 : x6_1 < (a0.size : Int) := od_
         have hx13 := bt_at a0 x6_1
         replace p13 := eq_true p13
         replace q13 := eq_true q13
         go_wp2
         go_roundg k1
         case measure => have := HK1.out; omega
         case rel => exact ⟨(x4_1), (wrap64 ((wrap64 (x5_1 * 10)) + (((bt a0 x6_1) - 48) % 256))), (wrap64 (x6_1 + 1)), (by first | rfl | (simp; done) | (simp [*]; done)), (by first | rfl | (simp; done) | (simp [*]; done)), H', ⟨by have := HK1.out; omega⟩, ⟨Rz_ HO_4.out⟩, ⟨bz_⟩⟩
    ·rw [if_neg c3] at H
     exact absurd H (by simp)
   ·rw [if_neg c2] at H
    have c2b0 : decide (x6_1 < (a0.size : Int)) = false := decide_eq_false c2
    clear c2
    by_cases c14 : x4_1.length < 17592186044416
    ·rw [if_pos c14] at H
     have LMc14 := m_ c14
     clear c14
     obtain ⟨y141, hy141⟩ : ∃ y_ : List Int, y_ = (x4_1 ++ [x5_1]) := ⟨_, rfl⟩
     replace H : (if (y141.length : Int) = 4 then (stolonref01_Parse.l1 k1 a0 y141 0 0) else (some (0, 2))) = some (r1, r2) := by first | (rw [hy141]; with_reducible exact H) | (have H2_ := (Option.bind_some _ _).symm.trans H; rw [hy141]; with_reducible exact H2_) | (have H2_ := (Option.bind_some _ _).symm.trans H; with_reducible exact H2_) | with_reducible exact H | (rw [hy141]; exact H) | exact H
     have Ny141 := m_ hy141
     clear hy141
     by_cases c15 : (y141.length : Int) = 4
     ·rw [if_pos c15] at H
      have c15b0 : ((y141.length : Int) == 4) = true := beq_iff_eq.mpr c15
      have c15b1 : ((y141.length : Int) != 4) = false := bne_eq_false_iff_eq.mpr c15
      clear c15
      have H' := m_ H
      clear H
      go_wp2_with (first | ((with_reducible refine gate_builtin (b := .append) (xs := #[.tmp 45, .tmp 47]) rfl ?_); at_builtin; refine Kd.R_append (Kd.int .i64) (w0 := w) w.heap.size rfl (.tmp 45) (.tmp 47) 52 3 (.int .i64 0) 8 rfl Tryd.underlying52 info3 rfl (by decide) (by omega) u4 x4_1 x5_1 [.int .i64 x5_1] (fun _ => True) (fun _ => False) rfl rfl ?aP (fun _ hk => hk.elim) ?aF ?aO ?aB ?aS ?aL ?_; (case aP => exact rfl); (case aB => exact bz_); (case aF => exact (fun _ _ => trivial)); (case aO => exact (Rz_ HO_4.out)); (case aS => exact (below_size bz_)); (case aL => have := LMc14.out; omega); intro v142 w16 ho hb hg hat; rw [← Ny141.out] at ho; have HO143 := m_ (ho); replace HB := m_ (hb); clear HO_4 ho hb hg hat; obtain ⟨Ao17, co17, eo17⟩ := Kd.R_slice HO143.out; subst eo17))
      go_loopg [7, 8] k1 (fun kq v7 v8 w' => ∃ (x7_2 : Int) (x8_2 : Int), v7 = .int .u32 x7_2 ∧ v8 = .int .i64 x8_2 ∧ Aside0 (stolonref01_Parse.l1 kq a0 y141 x7_2 x8_2 = some (r1, r2)) ∧ Aside0 (kq ≤ k1) ∧ Aside0 (Kd.R (Kd.int .i64) 3 w' w.heap.size (fun _ => True) (.slice Ao17 y141.length co17) y141) ∧ Aside0 (Below w.heap.size w w'))
      case atStart => exact ⟨(0), (0), (by first | rfl | (simp; done) | (simp [*]; done)), (by first | rfl | (simp; done) | (simp [*]; done)), H', ⟨Nat.le_refl _⟩, ⟨Rz_ HO143.out⟩, ⟨bz_⟩⟩
      case round =>
       clear H'
       try clear c1
       try clear p1
       try clear q1
       try clear hx1
       try clear c2
       try clear c2b0
       try clear p2
       try clear c3
       try clear c3b0
       try clear p4
       try clear q4
       try clear hx4
       try clear c5
       try clear c5b0
       try clear c5b1
       try clear c6
       try clear p6
       try clear p8
       try clear q8
       try clear hx8
       try clear c9
       try clear c9b0
       try clear p10
       try clear q10
       try clear hx10
       try clear c11
       try clear c11b0
       try clear c12
       try clear c12b0
       try clear p13
       try clear q13
       try clear hx13
       try clear c14
       try clear c15
       try clear c15b0
       try clear c15b1
       try clear p10
       try clear p13
       try clear p4
       try clear p8
       try clear q10
       try clear q13
       try clear q4
       try clear q8
       obtain ⟨x7_2, x8_2, rfl, rfl, HA, HK2, HO_4, HB⟩ := hrel
       cases gk with
       | zero => exact absurd HA.out (by simp [stolonref01_Parse.l1])
       | succ k2 =>
        have H := HA.out
        clear HA
        simp only [stolonref01_Parse.l1] at H
        by_cases c18 : x8_2 < 4
        ·rw [if_pos c18] at H
         have c18b0 : decide (x8_2 < 4) = true := decide_eq_true c18
         clear c18
         by_cases c19 : 0 ≤ x8_2
         ·rw [if_pos c19] at H
          have c19b0 : decide (0 ≤ x8_2) = true := decide_eq_true c19
          clear c19
          by_cases c20 : x8_2 < (y141.length : Int)
          ·rw [if_pos c20] at H
           have c20b0 : decide (x8_2 < (y141.length : Int)) = true := decide_eq_true c20
           clear c20
           by_cases c21 : (rd y141 x8_2) > 255
           ·rw [if_pos c21] at H
            have c21b0 : decide (255 < (rd y141 x8_2)) = true := decide_eq_true c21
            clear c21
            simp only [Option.some.injEq, Prod.mk.injEq] at H
            obtain ⟨rfl, rfl⟩ := H
            have p144 : 0 ≤ (x8_2 : Int) := od_
            have q144 : x8_2 < (y141.length : Int) := od_
            obtain ⟨ad144, e144, hx144_0⟩ := Kd.at_int (Kd.R_reads' HO_4.out).2.2 x8_2 p144 q144
            cases e144
            replace p144 := eq_true p144
            replace q144 := eq_true q144
            go_wp2
            go_ret2
            exact ⟨ew_, bz_⟩
           ·rw [if_neg c21] at H
            have c21b0 : decide (255 < (rd y141 x8_2)) = false := decide_eq_false c21
            clear c21
            have H' := m_ H
            clear H
            have p144 : 0 ≤ (x8_2 : Int) := od_
            have q144 : x8_2 < (y141.length : Int) := od_
            obtain ⟨ad144, e144, hx144_0⟩ := Kd.at_int (Kd.R_reads' HO_4.out).2.2 x8_2 p144 q144
            cases e144
            replace p144 := eq_true p144
            replace q144 := eq_true q144
            have p145 : 0 ≤ (x8_2 : Int) := od_
            have q145 : x8_2 < (y141.length : Int) := od_
            obtain ⟨ad145, e145, hx145_0⟩ := Kd.at_int (Kd.R_reads' HO_4.out).2.2 x8_2 p145 q145
            obtain rfl : ad144 = ad145 := (by injection e145)
            replace p145 := eq_true p145
            replace q145 := eq_true q145
            go_wp2
            go_roundg k2
            case measure => have := HK1.out; have := HK2.out; omega
            case rel => exact ⟨((((x7_2 * 256) % 4294967296) + ((rd y141 x8_2) % 4294967296)) % 4294967296), (wrap64 (x8_2 + 1)), (by first | rfl | (simp; done) | (simp [*]; done)), (by first | rfl | (simp; done) | (simp [*]; done)), H', ⟨by have := HK1.out; have := HK2.out; omega⟩, ⟨Rz_ HO_4.out⟩, ⟨bz_⟩⟩
          ·rw [if_neg c20] at H
           exact absurd H (by simp)
         ·rw [if_neg c19] at H
          exact absurd H (by simp)
        ·rw [if_neg c18] at H
         have c18b0 : decide (x8_2 < 4) = false := decide_eq_false c18
         clear c18
         replace H := Option.bind_eq_some_iff.mp H
         obtain ⟨t146, A220, H⟩ := H
         replace H : (if t146.toList = a0.toList then (some (x7_2, 0)) else (some (0, 2))) = some (r1, r2) := H
         have A22 := m_ A220
         clear A220
         by_cases c23 : t146.toList = a0.toList
         ·rw [if_pos c23] at H
          have c23b0 : (t146.toList == a0.toList) = true := beq_iff_eq.mpr c23
          have c23b1 : (t146.toList != a0.toList) = false := bne_eq_false_iff_eq.mpr c23
          clear c23
          simp only [Option.some.injEq, Prod.mk.injEq] at H
          obtain ⟨rfl, rfl⟩ := H
          go_wp2_with (first | ((with_reducible refine gate_callee (f := 17) rfl ?_); refine gL_ (some 70) Tryd.func17 #[.int .u32 x7_2] ?_; (with_reducible refine (stolonref01_Text.calls x7_2 t146 _ A22.out).mono ?_); rintro e w24 ⟨rfl, hb⟩; refine ⟨_, rfl, ?_⟩; replace HO_4 := m_ (Kd.R_below (Rz_ HO_4.out) hb); replace HB := m_ (below_step bz_ hb); (try clear hb); (try clear hb2); (try clear hk); (try clear hi)))
          go_ret2
          exact ⟨ew_, bz_⟩
         ·rw [if_neg c23] at H
          have c23b0 : (t146.toList == a0.toList) = false := beq_eq_false_iff_ne.mpr c23
          have c23b1 : (t146.toList != a0.toList) = true := bne_iff_ne.mpr c23
          simp only [Option.some.injEq, Prod.mk.injEq] at H
          obtain ⟨rfl, rfl⟩ := H
          go_wp2_with (first | ((with_reducible refine gate_callee (f := 17) rfl ?_); refine gL_ (some 70) Tryd.func17 #[.int .u32 x7_2] ?_; (with_reducible refine (stolonref01_Text.calls x7_2 t146 _ A22.out).mono ?_); rintro e w25 ⟨rfl, hb⟩; refine ⟨_, rfl, ?_⟩; replace HO_4 := m_ (Kd.R_below (Rz_ HO_4.out) hb); replace HB := m_ (below_step bz_ hb); (try clear hb); (try clear hb2); (try clear hk); (try clear hi)))
          go_ret2
          exact ⟨ew_, bz_⟩
     ·rw [if_neg c15] at H
      have c15b0 : ((y141.length : Int) == 4) = false := beq_eq_false_iff_ne.mpr c15
      have c15b1 : ((y141.length : Int) != 4) = true := bne_iff_ne.mpr c15
      simp only [Option.some.injEq, Prod.mk.injEq] at H
      obtain ⟨rfl, rfl⟩ := H
      go_wp2_with (first | ((with_reducible refine gate_builtin (b := .append) (xs := #[.tmp 45, .tmp 47]) rfl ?_); at_builtin; refine Kd.R_append (Kd.int .i64) (w0 := w) w.heap.size rfl (.tmp 45) (.tmp 47) 52 3 (.int .i64 0) 8 rfl Tryd.underlying52 info3 rfl (by decide) (by omega) u4 x4_1 x5_1 [.int .i64 x5_1] (fun _ => True) (fun _ => False) rfl rfl ?aP (fun _ hk => hk.elim) ?aF ?aO ?aB ?aS ?aL ?_; (case aP => exact rfl); (case aB => exact bz_); (case aF => exact (fun _ _ => trivial)); (case aO => exact (Rz_ HO_4.out)); (case aS => exact (below_size bz_)); (case aL => have := LMc14.out; omega); intro v142 w26 ho hb hg hat; rw [← Ny141.out] at ho; have HO143 := m_ (ho); replace HB := m_ (hb); clear HO_4 ho hb hg hat; obtain ⟨Ao27, co27, eo27⟩ := Kd.R_slice HO143.out; subst eo27))
      go_ret2
      exact ⟨ew_, bz_⟩
    ·rw [if_neg c14] at H
     exact absurd H (by simp)

/-! ### stolonref01_Of: function 13 -/
def stolonref01_Of.f (l0 : List Int) : Option (Int × Int) := if (l0.length : Int) < 4 then (some (0, 3)) else (if (l0.length : Int) > 4 then (some (0, 2)) else (if 0 < (l0.length : Int) then (if 1 < (l0.length : Int) then (if 2 < (l0.length : Int) then (if 3 < (l0.length : Int) then (some ((((((((((rd l0 0) % 4294967296) * 16777216) % 4294967296) + ((((rd l0 1) % 4294967296) * 65536) % 4294967296)) % 4294967296) + ((((rd l0 2) % 4294967296) * 256) % 4294967296)) % 4294967296) + ((rd l0 3) % 4294967296)) % 4294967296, 0)) else (none)) else (none)) else (none)) else (none)))
set_option maxHeartbeats 8000000 in
set_option maxRecDepth 100000 in
theorem stolonref01_Of.calls (A0 : Option Addr) (c0 : Nat) (l0 : List Int) (r1 : Int) (r2 : Int) (w : World) (hr0 : Kd.C (Kd.int .u8) w A0 l0.length l0) (hc0 : l0.length ≤ c0) (h : stolonref01_Of.f l0 = some (r1, r2)) :
  Calls Tryd.prog 13 #[.slice A0 l0.length c0] w fun e w' => e = .returned (.tuple #[.int .u32 r1, .int .i64 r2]) ∧ Drawn0 w w' := by
 have HR0 := m_ hr0
 have HC0 := m_ hc0
 clear hr0 hc0
 have H : (if (l0.length : Int) < 4 then (some (0, 3)) else (if (l0.length : Int) > 4 then (some (0, 2)) else (if 0 < (l0.length : Int) then (if 1 < (l0.length : Int) then (if 2 < (l0.length : Int) then (if 3 < (l0.length : Int) then (some ((((((((((rd l0 0) % 4294967296) * 16777216) % 4294967296) + ((((rd l0 1) % 4294967296) * 65536) % 4294967296)) % 4294967296) + ((((rd l0 2) % 4294967296) * 256) % 4294967296)) % 4294967296) + ((rd l0 3) % 4294967296)) % 4294967296, 0)) else (none)) else (none)) else (none)) else (none)))) = some (r1, r2) := h
 clear h
 by_cases c2 : (l0.length : Int) < 4
 ·rw [if_pos c2] at H
  have c2b0 : decide ((l0.length : Int) < 4) = true := decide_eq_true c2
  have c2b1 : decide (l0.length < 4) = true := decide_eq_true (by omega)
  clear c2
  simp only [Option.some.injEq, Prod.mk.injEq] at H
  obtain ⟨rfl, rfl⟩ := H
  go_enter Tryd.func13, Tryd.ntmps13
  go_wp2
  repeat (go_quiet (fail); try go_wp2)
  go_ret2
  exact ⟨(by first | rfl | (simp; done) | (simp [*]; done)), (by repeat (first | exact Drawn0.refl _ | apply Drawn0.step))⟩
 ·rw [if_neg c2] at H
  have c2b0 : decide ((l0.length : Int) < 4) = false := decide_eq_false c2
  have c2b1 : decide (l0.length < 4) = false := decide_eq_false (by omega)
  clear c2
  by_cases c3 : (l0.length : Int) > 4
  ·rw [if_pos c3] at H
   have c3b0 : decide (4 < (l0.length : Int)) = true := decide_eq_true c3
   have c3b1 : decide (4 < l0.length) = true := decide_eq_true (by omega)
   clear c3
   simp only [Option.some.injEq, Prod.mk.injEq] at H
   obtain ⟨rfl, rfl⟩ := H
   go_enter Tryd.func13, Tryd.ntmps13
   go_wp2
   repeat (go_quiet (fail); try go_wp2)
   go_ret2
   exact ⟨(by first | rfl | (simp; done) | (simp [*]; done)), (by repeat (first | exact Drawn0.refl _ | apply Drawn0.step))⟩
  ·rw [if_neg c3] at H
   have c3b0 : decide (4 < (l0.length : Int)) = false := decide_eq_false c3
   have c3b1 : decide (4 < l0.length) = false := decide_eq_false (by omega)
   clear c3
   by_cases c4 : 0 < (l0.length : Int)
   ·rw [if_pos c4] at H
    have c4b0 : decide (0 < (l0.length : Int)) = true := decide_eq_true c4
    have c4b1 : decide (0 < l0.length) = true := decide_eq_true (by omega)
    clear c4
    by_cases c5 : 1 < (l0.length : Int)
    ·rw [if_pos c5] at H
     have c5b0 : decide (1 < (l0.length : Int)) = true := decide_eq_true c5
     have c5b1 : decide (1 < l0.length) = true := decide_eq_true (by omega)
     clear c5
     by_cases c6 : 2 < (l0.length : Int)
     ·rw [if_pos c6] at H
      have c6b0 : decide (2 < (l0.length : Int)) = true := decide_eq_true c6
      have c6b1 : decide (2 < l0.length) = true := decide_eq_true (by omega)
      clear c6
      by_cases c7 : 3 < (l0.length : Int)
      ·rw [if_pos c7] at H
       have c7b0 : decide (3 < (l0.length : Int)) = true := decide_eq_true c7
       have c7b1 : decide (3 < l0.length) = true := decide_eq_true (by omega)
       clear c7
       simp only [Option.some.injEq, Prod.mk.injEq] at H
       obtain ⟨rfl, rfl⟩ := H
       have p147 : 0 ≤ (0 : Int) := (by omega)
       have q147 : 0 < (l0.length : Int) := od_
       obtain ⟨ad147, e147, hx147_0⟩ := Kd.at_int HR0.out 0 p147 q147
       cases e147
       have qi147 : (0 < l0.length) = True := eq_true (by omega)
       (try rw [show ((0 : Int)).toNat = 0 from rfl] at hx147_0)
       (try rw [Addr.add_zero'] at hx147_0)
       replace p147 := eq_true p147
       replace q147 := eq_true q147
       have p148 : 0 ≤ (1 : Int) := (by omega)
       have q148 : 1 < (l0.length : Int) := od_
       obtain ⟨ad148, e148, hx148_0⟩ := Kd.at_int HR0.out 1 p148 q148
       obtain rfl : ad147 = ad148 := (by injection e148)
       (try simp only [show (1 : Int).toNat = 1 from rfl, Nat.reduceMul, Nat.reduceEqDiff, Go.Addr.add, ↓reduceIte] at hx148_0)
       have qi148 : (1 < l0.length) = True := eq_true (by omega)
       (try rw [show ((1 : Int)).toNat = 1 from rfl] at hx148_0)
       replace p148 := eq_true p148
       replace q148 := eq_true q148
       have p149 : 0 ≤ (2 : Int) := (by omega)
       have q149 : 2 < (l0.length : Int) := od_
       obtain ⟨ad149, e149, hx149_0⟩ := Kd.at_int HR0.out 2 p149 q149
       obtain rfl : ad147 = ad149 := (by injection e149)
       (try simp only [show (2 : Int).toNat = 2 from rfl, Nat.reduceMul, Nat.reduceEqDiff, Go.Addr.add, ↓reduceIte] at hx149_0)
       have qi149 : (2 < l0.length) = True := eq_true (by omega)
       (try rw [show ((2 : Int)).toNat = 2 from rfl] at hx149_0)
       replace p149 := eq_true p149
       replace q149 := eq_true q149
       have p150 : 0 ≤ (3 : Int) := (by omega)
       have q150 : 3 < (l0.length : Int) := od_
       obtain ⟨ad150, e150, hx150_0⟩ := Kd.at_int HR0.out 3 p150 q150
       obtain rfl : ad147 = ad150 := (by injection e150)
       (try simp only [show (3 : Int).toNat = 3 from rfl, Nat.reduceMul, Nat.reduceEqDiff, Go.Addr.add, ↓reduceIte] at hx150_0)
       have qi150 : (3 < l0.length) = True := eq_true (by omega)
       (try rw [show ((3 : Int)).toNat = 3 from rfl] at hx150_0)
       replace p150 := eq_true p150
       replace q150 := eq_true q150
       go_enter Tryd.func13, Tryd.ntmps13
       go_wp2
       repeat (go_quiet (fail); try go_wp2)
       go_ret2
       exact ⟨(by first | rfl | (simp; done) | (simp [*]; done)), (by repeat (first | exact Drawn0.refl _ | apply Drawn0.step))⟩
      ·rw [if_neg c7] at H
       exact absurd H (by simp)
     ·rw [if_neg c6] at H
      exact absurd H (by simp)
    ·rw [if_neg c5] at H
     exact absurd H (by simp)
   ·rw [if_neg c4] at H
    exact absurd H (by simp)

end Go.Proofs.YtplkfpfgnccffaaDoor.P

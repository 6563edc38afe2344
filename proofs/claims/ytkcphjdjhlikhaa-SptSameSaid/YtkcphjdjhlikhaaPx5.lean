/- For each Go function a Lean function, and the proof that a call comes to what it tells: made by program out of the translation (the kit's print, with texts by hand put in). No condition. -/
import Derived.Test.YtkcphjdjhlikhaaSq
import Derived.Test.YtkcphjdjhlikhaaPx0
import Derived.Test.YtkcphjdjhlikhaaPx4
namespace Go.Proofs.Ytkcphjdjhlikhaa.P
open Go.RowKit Go.Proofs.Ytkcphjdjhlikhaa.HRows Go.Proofs.YtkcphjdjhlikhaaW.PrintWords Go.Proofs.YtkcphjdjhlikhaaW.PrintLast Go.Proofs.YtkcphjdjhlikhaaW.PrintMore
attribute [local go_sem] max2_int min2_int max_two min_two max_three min_three max_four min_four   -- for this text's walks alone
set_option linter.unusedVariables false
set_option linter.unusedSimpArgs false

/-! ### heap_rise: function 52 -/
mutual
def heap_rise.l0 : Nat → List (S76) → Int → Option ((List (S76)))
 | 0, _, _ => none
 | k + 1, x0, x2 => if x2 > 0 then (if 0 ≤ x2 then (if x2 < (x0.length : Int) then ((heap_above.f x2).bind fun t139 => (if 0 ≤ t139 then (if t139 < (x0.length : Int) then ((heap_Less.f k ((rd_T76 x0 x2).f0) ((rd_T76 x0 x2).f1) ((rd_T76 x0 t139).f0) ((rd_T76 x0 t139).f1)).bind fun t141 => (heap_rise.j1 k x0 x2 t141)) else (none)) else (none))) else (none)) else (none)) else (heap_rise.j1 k x0 x2 false)
def heap_rise.j1 : Nat → List (S76) → Int → Bool → Option ((List (S76)))
 | 0, _, _, _ => none
 | k + 1, x0, x2, x19 => if x19 = true then ((heap_above.f x2).bind fun t142 => ((heap_above.f x2).bind fun t143 => (if 0 ≤ t143 then (if t143 < (x0.length : Int) then (if 0 ≤ x2 then (if x2 < (x0.length : Int) then (if 0 ≤ t142 then (if t142 < (x0.length : Int) then ((heap_above.f x2).bind fun t148 => (heap_rise.l0 k ((x0.set (x2 : Int).toNat (⟨(rd_T76 x0 t143).f0, (rd_T76 x0 t143).f1⟩ : S76)).set (t142 : Int).toNat (⟨(rd_T76 x0 x2).f0, (rd_T76 x0 x2).f1⟩ : S76)) t148)) else (none)) else (none)) else (none)) else (none)) else (none)) else (none)))) else (some x0)
end
def heap_rise.f (k : Nat) (l0 : List (S76)) : Option ((List (S76))) := heap_rise.l0 k l0 (wrap64 ((l0.length : Int) - 1))
theorem heap_rise.mono_l : ∀ k, (∀ y0 y1, LeO (heap_rise.l0 k y0 y1) (heap_rise.l0 (k + 1) y0 y1)) ∧ (∀ y0 y1 y2, LeO (heap_rise.j1 k y0 y1 y2) (heap_rise.j1 (k + 1) y0 y1 y2))
 | 0 => ⟨fun _ _ r h => by simp [heap_rise.l0] at h, fun _ _ _ r h => by simp [heap_rise.j1] at h⟩
 | k + 1 => by
  obtain ⟨ih0, ih1⟩ := heap_rise.mono_l k
  refine ⟨?_, ?_⟩
  ·intro y0 y1
   unfold heap_rise.l0
   repeat' first
   | (with_reducible exact ih0 _ _)
   | (with_reducible exact ih1 _ _ _)
   | (with_reducible exact heap_Less.mono _ _ _ _ _)
   | (with_reducible exact LeO.refl _)
   | (with_reducible exact LeO.none _)
   | (with_reducible refine LeO.ite ?_ ?_)
   | (with_reducible refine LeO.bind ?_ (fun _ => ?_))
   | exact ih0 _ _
   | exact ih1 _ _ _
   | exact heap_Less.mono _ _ _ _ _
   | exact LeO.none _
   | refine LeO.ite ?_ ?_
   | refine LeO.bind ?_ (fun _ => ?_)
  ·intro y0 y1 y2
   unfold heap_rise.j1
   repeat' first
   | (with_reducible exact ih0 _ _)
   | (with_reducible exact ih1 _ _ _)
   | (with_reducible exact heap_Less.mono _ _ _ _ _)
   | (with_reducible exact LeO.refl _)
   | (with_reducible exact LeO.none _)
   | (with_reducible refine LeO.ite ?_ ?_)
   | (with_reducible refine LeO.bind ?_ (fun _ => ?_))
   | exact ih0 _ _
   | exact ih1 _ _ _
   | exact heap_Less.mono _ _ _ _ _
   | exact LeO.none _
   | refine LeO.ite ?_ ?_
   | refine LeO.bind ?_ (fun _ => ?_)
theorem heap_rise.mono : ∀ a0 k, LeO (heap_rise.f k a0) (heap_rise.f (k + 1) a0) := by
 intro a0 k
 obtain ⟨ih0, ih1⟩ := heap_rise.mono_l k
 unfold heap_rise.f
 repeat' first
   | (with_reducible exact ih0 _ _)
   | (with_reducible exact ih1 _ _ _)
   | (with_reducible exact heap_Less.mono _ _ _ _ _)
   | (with_reducible exact LeO.refl _)
   | (with_reducible exact LeO.none _)
   | (with_reducible refine LeO.ite ?_ ?_)
   | (with_reducible refine LeO.bind ?_ (fun _ => ?_))
   | exact ih0 _ _
   | exact ih1 _ _ _
   | exact heap_Less.mono _ _ _ _ _
   | exact LeO.none _
   | refine LeO.ite ?_ ?_
   | refine LeO.bind ?_ (fun _ => ?_)
def heap_rise.T1 : Bool × List (List Nat × List Nat) := (true, [([], []), ([0], [0]), ([1], [1]), ([2], [2]), ([2], [2]), ([3, 4, 2], [2, 3, 4]), ([5, 2], [2, 5]), ([2], [2]), ([2], [2]), ([8, 2, 2], [2, 8]), ([7, 9, 2], [2, 7, 9]), ([10, 2], [2, 10]), ([6, 11, 9, 2], [2, 6, 11]), ([2, 12], [2, 12])])
def heap_rise.B1 : List Nat := [0, 1, 3, 7, 7, 31, 63, 7, 7, 263, 903, 1927, 4095, 8191]
theorem heap_rise.tab1 : rtab .any (opsOf Try.f52 1) = heap_rise.T1 := by kernel_rfl
theorem heap_rise.bits1 : waitsOk heap_rise.T1.2 heap_rise.B1 = true := by kernel_rfl
def heap_rise.T3 : Bool × List (List Nat × List Nat) := (true, [([], []), ([], []), ([], []), ([], []), ([3], [3]), ([], []), ([], []), ([6, 4], [6]), ([5, 7], [5, 7]), ([8], [8]), ([], []), ([], []), ([10, 11], [10, 11]), ([12], [12]), ([0, 1, 0, 1, 4, 5, 6, 7, 8, 9, 13], [0, 1]), ([14, 9, 7, 0, 1, 4, 5, 6, 7, 8, 9, 13], [9, 14]), ([2, 4, 0, 1, 2, 3, 4, 5, 6, 7, 8, 9, 10, 11, 12, 13, 14, 15], [2, 4]), ([16, 13, 15, 0, 1, 2, 3, 4, 5, 6, 7, 8, 9, 10, 11, 12, 13, 14, 15], [13, 16])])
def heap_rise.B3 : List Nat := [0, 0, 0, 0, 8, 0, 0, 88, 248, 504, 0, 0, 3072, 7168, 16379, 32763, 65535, 131071]
theorem heap_rise.tab3 : rtab .any (opsOf Try.f52 3) = heap_rise.T3 := by kernel_rfl
theorem heap_rise.bits3 : waitsOk heap_rise.T3.2 heap_rise.B3 = true := by kernel_rfl
set_option maxHeartbeats 8000000 in
set_option maxRecDepth 100000 in
theorem heap_rise.calls (k : Nat) (P0_ : Nat → Prop) (u9000_ : Value) (l0 : List (S76)) (r : List (S76)) (w0 w : World) (hB : Below w0.heap.size w0 w) (ho0 : Kd.R k76 76 w w0.heap.size P0_ u9000_ l0) (h : heap_rise.f k l0 = some r) :
  Calls Try.prog 52 #[u9000_] w fun e w' => e = .returned (.tuple #[]) ∧ Kd.R k76 76 w' w0.heap.size (fun k_ => (P0_ k_ ∨ w.heap.size ≤ k_)) u9000_ r ∧ Below w0.heap.size w0 w' ∧ Kept w w' (fun k_ => P0_ k_) := by
 have hu76 := Try.underlying76
 have HO0 := m_ (show Kd.R k76 76 w w0.heap.size (fun k_ => (P0_ k_ ∨ w.heap.size ≤ k_)) u9000_ l0 from Kd.R_mono ho0 (fun k_ hk => (.inl hk)))
 have HK := m_ (Kept.refl w (fun k_ => P0_ k_))
 have HW0 := m_ hB.size
 have HB := m_ hB
 clear hB
 have H : (heap_rise.l0 k l0 (wrap64 ((l0.length : Int) - 1))) = some r := h
 clear h
 have H' := m_ H
 clear H
 obtain ⟨Ao2, co2, eo2⟩ := Kd.R_slice HO0.out
 subst eo2
 go_enter Try.func52, Try.ntmps52
 go_wp2
 go_loopg [2] k (fun kq v2 w' => ∃ (x0_1 : List (S76)) (x2_1 : Int), v2 = .int .i64 x2_1 ∧ Aside0 (heap_rise.l0 kq x0_1 x2_1 = some r) ∧ Aside0 (kq ≤ k) ∧ Aside0 (Kd.R k76 76 w' w0.heap.size (fun k_ => (P0_ k_ ∨ w.heap.size ≤ k_)) (.slice Ao2 l0.length co2) x0_1) ∧ Aside0 (Kept w w' (fun k_ => P0_ k_)) ∧ Aside0 (Below w0.heap.size w0 w'))
 case atStart => exact ⟨(l0), (wrap64 ((l0.length : Int) - 1)), (by first | rfl | (simp; done) | (simp [*]; done)), H', ⟨Nat.le_refl _⟩, ⟨Rz_ HO0.out⟩, ⟨by repeat (first | (with_reducible first | exact HK.out | apply Kept.alloc | apply Kept.drewN | apply Kept.drew) | exact HK.out)⟩, ⟨bz_⟩⟩
 case round =>
  clear H'
  try clear p2
  obtain ⟨x0_1, x2_1, rfl, HA, HK1, HO_0, HK, HB⟩ := hrel
  have hl0_1 := (Kd.R_reads' HO_0.out).1
  rw [hl0_1] at HO_0
  (try simp only [hl0_1])
  cases gk with
  | zero => exact absurd HA.out (by simp [heap_rise.l0])
  | succ k1 =>
   have H := HA.out
   clear HA
   simp only [heap_rise.l0] at H
   have HC3 := m_ H
   clear H
   go_upto_region 1 with (fail)
   go_cut [19] (fun v19 wc => ∃ (kq : Nat) (x19_2 : Bool), v19 = .bool x19_2 ∧ Aside0 (heap_rise.j1 kq x0_1 x2_1 x19_2 = some r) ∧ Aside0 (kq ≤ k1) ∧ Aside0 (Kd.R k76 76 wc w0.heap.size (fun k_ => (P0_ k_ ∨ w.heap.size ≤ k_)) (.slice Ao2 x0_1.length co2) x0_1) ∧ Aside0 (Kept w wc (fun k_ => P0_ k_)) ∧ Aside0 (Below w0.heap.size w0 wc))
   case first =>
    have H := HC3.out
    clear HC3
    by_cases c4 : x2_1 > 0
    ·rw [if_pos c4] at H
     have c4b0 : decide (0 < x2_1) = true := decide_eq_true c4
     clear c4
     (first | rw [c4b0] | (simp only [i64_w, i32_w]; rw [c4b0]) | skip)
     by_cases c5 : 0 ≤ x2_1
     ·rw [if_pos c5] at H
      have c5b0 : decide (0 ≤ x2_1) = true := decide_eq_true c5
      clear c5
      by_cases c6 : x2_1 < (x0_1.length : Int)
      ·rw [if_pos c6] at H
       have c6b0 : decide (x2_1 < (x0_1.length : Int)) = true := decide_eq_true c6
       clear c6
       replace H := Option.bind_eq_some_iff.mp H
       obtain ⟨t139, A70, H⟩ := H
       replace H : (if 0 ≤ t139 then (if t139 < (x0_1.length : Int) then ((heap_Less.f k1 ((rd_T76 x0_1 x2_1).f0) ((rd_T76 x0_1 x2_1).f1) ((rd_T76 x0_1 t139).f0) ((rd_T76 x0_1 t139).f1)).bind fun t141 => (heap_rise.j1 k1 x0_1 x2_1 t141)) else (none)) else (none)) = some r := H
       have A7 := m_ A70
       clear A70
       by_cases c8 : 0 ≤ t139
       ·rw [if_pos c8] at H
        have c8b0 : decide (0 ≤ t139) = true := decide_eq_true c8
        clear c8
        by_cases c9 : t139 < (x0_1.length : Int)
        ·rw [if_pos c9] at H
         have c9b0 : decide (t139 < (x0_1.length : Int)) = true := decide_eq_true c9
         clear c9
         replace H := Option.bind_eq_some_iff.mp H
         obtain ⟨t141, A100, H⟩ := H
         replace H : (heap_rise.j1 k1 x0_1 x2_1 t141) = some r := H
         have A10 := m_ A100
         clear A100
         have H' := m_ H
         clear H
         try go_wp2
         replace HO_0 := m_ (Kd.R_drew HO_0.out)
         replace HK := m_ (Kept.drew HK.out)
         replace HB := m_ (below_drew1 HB.out)
         have p138 : 0 ≤ (x2_1 : Int) := od_
         have q138 : x2_1 < (x0_1.length : Int) := od_
         obtain ⟨ad138, e138, hx138_0, hx138_1⟩ := at_T76 (Kd.R_reads' HO_0.out).2.2 x2_1 p138 q138
         cases e138
         replace p138 := eq_true p138
         replace q138 := eq_true q138
         have p140 : 0 ≤ (t139 : Int) := od_
         have q140 : t139 < (x0_1.length : Int) := od_
         obtain ⟨ad140, e140, hx140_0, hx140_1⟩ := at_T76 (Kd.R_reads' HO_0.out).2.2 t139 p140 q140
         obtain rfl : ad138 = ad140 := (by injection e140)
         replace p140 := eq_true p140
         replace q140 := eq_true q140
         refine start_ (n := 14) (S := fun w' => w'.cell? (ad138.add ((x2_1).toNat * 2)) = some (.int .i64 ((rd_T76 x0_1 x2_1).f0)) ∧ w'.cell? ⟨(ad138.add ((x2_1).toNat * 2)).block, (ad138.add ((x2_1).toNat * 2)).off + 1, none⟩ = some (.int .i64 ((rd_T76 x0_1 x2_1).f1)) ∧ w'.cell? (ad138.add ((t139).toNat * 2)) = some (.int .i64 ((rd_T76 x0_1 t139).f0)) ∧ w'.cell? ⟨(ad138.add ((t139).toNat * 2)).block, (ad138.add ((t139).toNat * 2)).off + 1, none⟩ = some (.int .i64 ((rd_T76 x0_1 t139).f1))) (ds := []) (bs_ 14 0) (by kernel_rfl) rfl rfl ⟨hx138_0, hx138_1, hx140_0, hx140_1⟩ (fun hHeld => ?_); refine with_tabW heap_rise.tab1 heap_rise.bits1 (fun HT_ HW_ => ?_)
         generalize wr.drew = w11 at HO_0 HK HB hx138_0 hx138_1 hx140_0 hx140_1 hHeld ⊢
         refine pz_ 0 6 ?_
         refine pz_ 1 7 ?_
         refine pz_ 2 8 ?_
         refine pz_ 3 9 ?_
         refine pz_ 4 10 ?_
         refine pz_ 5 11 ?_
         refine pz_ 7 13 ?_
         refine pz_ 8 14 ?_
         refine tz_ 6 12 ?_
         refine oz_ 9 (some 15) (fun K hK => ?_)
         refine gz_ Try.func69 #[.int .i64 x2_1] ?_
         with_reducible refine (heap_above.calls x2_1 t139 _ A7.out).mono ?_
         rintro e w' ⟨rfl, ⟨nd, rfl⟩⟩
         refine ⟨_, rfl, ?_⟩
         refine hK.out _ _ ⟨hHeld.1, hHeld.2.1, hHeld.2.2.1, hHeld.2.2.2⟩ (fun hHeld => ?_)
         clear hK K
         refine nz_ (some 15) ?_
         refine pz_ 10 16 ?_
         refine tz_ 11 17 ?_
         refine oz_ 12 (some 18) (fun K hK => ?_)
         refine gz_ Try.func68 #[.agg #[.int .i64 ((rd_T76 x0_1 x2_1).f0), .int .i64 ((rd_T76 x0_1 x2_1).f1)], .agg #[.int .i64 ((rd_T76 x0_1 t139).f0), .int .i64 ((rd_T76 x0_1 t139).f1)]] ?_
         with_reducible refine (heap_Less.calls k1 ((rd_T76 x0_1 x2_1).f0) ((rd_T76 x0_1 x2_1).f1) ((rd_T76 x0_1 t139).f0) ((rd_T76 x0_1 t139).f1) t141 _ A10.out).mono ?_
         rintro e w12 ⟨rfl, hb⟩
         have HS0_ := (hb.cell (World.block_lt_of_cell? _ _ (hHeld.1))).trans (hHeld.1)
         have HS1_ := (hb.cell (World.block_lt_of_cell? _ _ (hHeld.2.1))).trans (hHeld.2.1)
         have HS2_ := (hb.cell (World.block_lt_of_cell? _ _ (hHeld.2.2.1))).trans (hHeld.2.2.1)
         have HS3_ := (hb.cell (World.block_lt_of_cell? _ _ (hHeld.2.2.2))).trans (hHeld.2.2.2)
         refine ⟨_, rfl, ?_⟩
         replace HO_0 := m_ (Kd.R_below (Rz_ HO_0.out) hb)
         replace HK := m_ (Kept.below (S := (fun k_ => P0_ k_)) (by repeat (first | (with_reducible first | exact HK.out | apply Kept.alloc | apply Kept.drewN | apply Kept.drew) | exact HK.out)) hb)
         replace HB := m_ (below_step bz_ hb)
         (try clear hb)
         (try clear hb2)
         (try clear hk)
         (try clear hi)
         refine hK.out _ _ ⟨HS0_, HS1_, HS2_, HS3_⟩ (fun hHeld => ?_)
         clear hK K
         refine nz_ (some 18) ?_
         refine pz_ 13 19 ?_
         refine dz_ ?_
         try go_wp2
         go_meet
         case rel => exact ⟨_, (t141), (by first | rfl | (simp; done) | (simp [*]; done)), H', ⟨by have := HK1.out; first | omega | exact Nat.le_refl _⟩, ⟨by (try simp only [hl0_1]); (with_reducible repeat (first | apply Kd.R_alloc | apply Kd.R_drewN | apply Kd.R_drew)); exact HO_0.out⟩, ⟨by repeat (first | (with_reducible first | exact HK.out | apply Kept.alloc | apply Kept.drewN | apply Kept.drew) | exact HK.out)⟩, ⟨bz_⟩⟩
        ·rw [if_neg c9] at H
         exact absurd H (by simp)
       ·rw [if_neg c8] at H
        exact absurd H (by simp)
      ·rw [if_neg c6] at H
       exact absurd H (by simp)
     ·rw [if_neg c5] at H
      exact absurd H (by simp)
    ·rw [if_neg c4] at H
     have c4b0 : decide (0 < x2_1) = false := decide_eq_false c4
     clear c4
     (first | rw [c4b0] | (simp only [i64_w, i32_w]; rw [c4b0]) | skip)
     have H' := m_ H
     clear H
     try go_wp2
     replace HO_0 := m_ (Kd.R_drew HO_0.out)
     replace HK := m_ (Kept.drew HK.out)
     replace HB := m_ (below_drew1 HB.out)
     refine start_ (n := 14) (S := fun w' => True) (ds := []) (bs_ 14 0) (by kernel_rfl) rfl rfl trivial (fun hHeld => ?_); refine with_tabW heap_rise.tab1 heap_rise.bits1 (fun HT_ HW_ => ?_)
     generalize wr.drew = w13 at HO_0 HK HB hHeld ⊢
     refine pz_ 0 6 ?_
     refine pz_ 1 7 ?_
     refine pz_ 2 8 ?_
     refine pz_ 3 9 ?_
     refine pz_ 4 10 ?_
     refine pz_ 5 11 ?_
     refine pz_ 6 12 ?_
     refine pz_ 7 13 ?_
     refine pz_ 8 14 ?_
     refine pz_ 9 15 ?_
     refine pz_ 10 16 ?_
     refine pz_ 11 17 ?_
     refine pz_ 12 18 ?_
     refine pz_ 13 19 ?_
     refine dz_ ?_
     try go_wp2
     go_meet
     case rel => exact ⟨_, (false), (by first | rfl | (simp; done) | (simp [*]; done)), H', ⟨by have := HK1.out; first | omega | exact Nat.le_refl _⟩, ⟨by (try simp only [hl0_1]); (with_reducible repeat (first | apply Kd.R_alloc | apply Kd.R_drewN | apply Kd.R_drew)); exact HO_0.out⟩, ⟨by repeat (first | (with_reducible first | exact HK.out | apply Kept.alloc | apply Kept.drewN | apply Kept.drew) | exact HK.out)⟩, ⟨bz_⟩⟩
   case rest =>
    clear HC3
    try clear p1
    try clear q1
    try clear hx1
    try clear p2
    try clear c4
    try clear c4b0
    try clear c5
    try clear c5b0
    try clear c6
    try clear c6b0
    try clear p6
    try clear c8
    try clear c8b0
    try clear c9
    try clear c9b0
    try clear p13
    try clear q13
    try clear hx13
    try clear hx138_0
    try clear hx138_1
    try clear hx140_0
    try clear hx140_1
    try clear p138
    try clear p140
    try clear p2
    try clear q138
    try clear q140
    obtain ⟨kq, x19_2, rfl, HA, HJ2, HO_0, HK, HB⟩ := hcut
    cases kq with
    | zero => exact absurd HA.out (by simp [heap_rise.j1])
    | succ kj2 =>
     have H := HA.out
     clear HA
     simp only [heap_rise.j1] at H
     by_cases c14 : x19_2 = true
     ·subst c14
      have H1 : ((heap_above.f x2_1).bind fun t142 => ((heap_above.f x2_1).bind fun t143 => (if 0 ≤ t143 then (if t143 < (x0_1.length : Int) then (if 0 ≤ x2_1 then (if x2_1 < (x0_1.length : Int) then (if 0 ≤ t142 then (if t142 < (x0_1.length : Int) then ((heap_above.f x2_1).bind fun t148 => (heap_rise.l0 kj2 ((x0_1.set (x2_1 : Int).toNat (⟨(rd_T76 x0_1 t143).f0, (rd_T76 x0_1 t143).f1⟩ : S76)).set (t142 : Int).toNat (⟨(rd_T76 x0_1 x2_1).f0, (rd_T76 x0_1 x2_1).f1⟩ : S76)) t148)) else (none)) else (none)) else (none)) else (none)) else (none)) else (none)))) = some r := by rw [if_pos rfl] at H; exact H
      clear H
      have H := H1
      clear H1
      replace H := Option.bind_eq_some_iff.mp H
      obtain ⟨t142, A150, H⟩ := H
      replace H : ((heap_above.f x2_1).bind fun t143 => (if 0 ≤ t143 then (if t143 < (x0_1.length : Int) then (if 0 ≤ x2_1 then (if x2_1 < (x0_1.length : Int) then (if 0 ≤ t142 then (if t142 < (x0_1.length : Int) then ((heap_above.f x2_1).bind fun t148 => (heap_rise.l0 kj2 ((x0_1.set (x2_1 : Int).toNat (⟨(rd_T76 x0_1 t143).f0, (rd_T76 x0_1 t143).f1⟩ : S76)).set (t142 : Int).toNat (⟨(rd_T76 x0_1 x2_1).f0, (rd_T76 x0_1 x2_1).f1⟩ : S76)) t148)) else (none)) else (none)) else (none)) else (none)) else (none)) else (none))) = some r := H
      have A15 := m_ A150
      clear A150
      replace H := Option.bind_eq_some_iff.mp H
      obtain ⟨t143, A160, H⟩ := H
      replace H : (if 0 ≤ t143 then (if t143 < (x0_1.length : Int) then (if 0 ≤ x2_1 then (if x2_1 < (x0_1.length : Int) then (if 0 ≤ t142 then (if t142 < (x0_1.length : Int) then ((heap_above.f x2_1).bind fun t148 => (heap_rise.l0 kj2 ((x0_1.set (x2_1 : Int).toNat (⟨(rd_T76 x0_1 t143).f0, (rd_T76 x0_1 t143).f1⟩ : S76)).set (t142 : Int).toNat (⟨(rd_T76 x0_1 x2_1).f0, (rd_T76 x0_1 x2_1).f1⟩ : S76)) t148)) else (none)) else (none)) else (none)) else (none)) else (none)) else (none)) = some r := H
      have A16 := m_ A160
      clear A160
      have z_ := Option.some.inj (A15.out.symm.trans A16.out)
      subst z_
      by_cases c17 : 0 ≤ t142
      ·rw [if_pos c17] at H
       have c17b0 : decide (0 ≤ t142) = true := decide_eq_true c17
       clear c17
       by_cases c18 : t142 < (x0_1.length : Int)
       ·rw [if_pos c18] at H
        have c18b0 : decide (t142 < (x0_1.length : Int)) = true := decide_eq_true c18
        clear c18
        by_cases c19 : 0 ≤ x2_1
        ·rw [if_pos c19] at H
         have c19b0 : decide (0 ≤ x2_1) = true := decide_eq_true c19
         clear c19
         by_cases c20 : x2_1 < (x0_1.length : Int)
         ·rw [if_pos c20] at H
          have c20b0 : decide (x2_1 < (x0_1.length : Int)) = true := decide_eq_true c20
          clear c20
          obtain ⟨y146, hy146⟩ : ∃ y_ : List (S76), y_ = (x0_1.set (x2_1 : Int).toNat (⟨(rd_T76 x0_1 t142).f0, (rd_T76 x0_1 t142).f1⟩ : S76)) := ⟨_, rfl⟩
          replace H : (if 0 ≤ t142 then (if t142 < (x0_1.length : Int) then ((heap_above.f x2_1).bind fun t148 => (heap_rise.l0 kj2 (y146.set (t142 : Int).toNat (⟨(rd_T76 x0_1 x2_1).f0, (rd_T76 x0_1 x2_1).f1⟩ : S76)) t148)) else (none)) else (none)) = some r := by first | (rw [hy146]; with_reducible exact H) | (have H2_ := (Option.bind_some _ _).symm.trans H; rw [hy146]; with_reducible exact H2_) | (have H2_ := (Option.bind_some _ _).symm.trans H; with_reducible exact H2_) | with_reducible exact H | (rw [hy146]; exact H) | exact H
          have Ny146 := m_ hy146
          clear hy146
          by_cases c22 : 0 ≤ t142
          ·rw [if_pos c22] at H
           have c22b0 : decide (0 ≤ t142) = true := decide_eq_true c22
           clear c22
           by_cases c23 : t142 < (x0_1.length : Int)
           ·rw [if_pos c23] at H
            have c23b0 : decide (t142 < (x0_1.length : Int)) = true := decide_eq_true c23
            clear c23
            obtain ⟨y147, hy147⟩ : ∃ y_ : List (S76), y_ = (y146.set (t142 : Int).toNat (⟨(rd_T76 x0_1 x2_1).f0, (rd_T76 x0_1 x2_1).f1⟩ : S76)) := ⟨_, rfl⟩
            replace H : ((heap_above.f x2_1).bind fun t148 => (heap_rise.l0 kj2 y147 t148)) = some r := by first | (rw [hy147]; with_reducible exact H) | (have H2_ := (Option.bind_some _ _).symm.trans H; rw [hy147]; with_reducible exact H2_) | (have H2_ := (Option.bind_some _ _).symm.trans H; with_reducible exact H2_) | with_reducible exact H | (rw [hy147]; exact H) | exact H
            have Ny147 := m_ hy147
            clear hy147
            replace H := Option.bind_eq_some_iff.mp H
            obtain ⟨t148, A250, H⟩ := H
            replace H : (heap_rise.l0 kj2 y147 t148) = some r := H
            have A25 := m_ A250
            clear A250
            have z_ := Option.some.inj (A15.out.symm.trans A25.out)
            subst z_
            have H' := m_ H
            clear H
            try go_wp2
            replace HO_0 := m_ (Kd.R_drew HO_0.out)
            replace HK := m_ (Kept.drew HK.out)
            replace HB := m_ (below_drew1 HB.out)
            have p145 : 0 ≤ (x2_1 : Int) := od_
            have q145 : x2_1 < (x0_1.length : Int) := od_
            obtain ⟨ad145, e145, hx145_0, hx145_1⟩ := at_T76 (Kd.R_reads' HO_0.out).2.2 x2_1 p145 q145
            cases e145
            replace p145 := eq_true p145
            replace q145 := eq_true q145
            have p144 : 0 ≤ (t142 : Int) := od_
            have q144 : t142 < (x0_1.length : Int) := od_
            obtain ⟨ad144, e144, hx144_0, hx144_1⟩ := at_T76 (Kd.R_reads' HO_0.out).2.2 t142 p144 q144
            obtain rfl : ad145 = ad144 := (by injection e144)
            replace p144 := eq_true p144
            replace q144 := eq_true q144
            refine start_ (n := 18) (S := fun w' => w'.cell? (ad145.add ((x2_1).toNat * 2)) = some (.int .i64 ((rd_T76 x0_1 x2_1).f0)) ∧ w'.cell? ⟨(ad145.add ((x2_1).toNat * 2)).block, (ad145.add ((x2_1).toNat * 2)).off + 1, none⟩ = some (.int .i64 ((rd_T76 x0_1 x2_1).f1)) ∧ w'.cell? (ad145.add ((t142).toNat * 2)) = some (.int .i64 ((rd_T76 x0_1 t142).f0)) ∧ w'.cell? ⟨(ad145.add ((t142).toNat * 2)).block, (ad145.add ((t142).toNat * 2)).off + 1, none⟩ = some (.int .i64 ((rd_T76 x0_1 t142).f1))) (ds := [15, 17]) (bs_ 18 0) (by kernel_rfl) rfl rfl ⟨hx145_0, hx145_1, hx144_0, hx144_1⟩ (fun hHeld => ?_); refine with_tabW heap_rise.tab3 heap_rise.bits3 (fun HT_ HW_ => ?_)
            generalize wc.drew = w26 at HO_0 HK HB hx144_0 hx144_1 hx145_0 hx145_1 hHeld ⊢
            refine pz_ 0 22 ?_
            refine pz_ 1 23 ?_
            refine pz_ 2 24 ?_
            refine pz_ 3 25 ?_
            refine pz_ 5 27 ?_
            refine pz_ 6 28 ?_
            refine pz_ 10 32 ?_
            refine pz_ 11 33 ?_
            refine pz_ 12 34 ?_
            refine tz_ 13 35 ?_
            refine oz_ 4 (some 26) (fun K hK => ?_)
            refine gz_ Try.func69 #[.int .i64 x2_1] ?_
            with_reducible refine (heap_above.calls x2_1 t142 _ A15.out).mono ?_
            rintro e w' ⟨rfl, ⟨nd, rfl⟩⟩
            refine ⟨_, rfl, ?_⟩
            refine hK.out _ _ ⟨hHeld.1, hHeld.2.1, hHeld.2.2.1, hHeld.2.2.2⟩ (fun hHeld => ?_)
            clear hK K
            refine nz_ (some 26) ?_
            refine oz_ 7 (some 29) (fun K hK => ?_)
            refine gz_ Try.func69 #[.int .i64 x2_1] ?_
            with_reducible refine (heap_above.calls x2_1 t142 _ A16.out).mono ?_
            rintro e w' ⟨rfl, ⟨nd, rfl⟩⟩
            refine ⟨_, rfl, ?_⟩
            have p21 : 0 ≤ (x2_1 : Int) := od_
            have q21 : (x2_1 : Int) < ((x0_1.length : Int) : Int) := od_
            obtain ⟨go21, co21, eo21, gb21, gl21, cl21, HG21⟩ := Kd.R_form HO_0.out (by omega)
            (first | cases eo21 | (injection eo21 with ea_ en_ ec_; (first | subst ea_ | (injection ea_ with ea_; subst ea_)); subst ec_; clear en_))
            have GB21 := m_ gb21
            have GG21 := m_ HG21
            clear gb21 gl21 HG21
            have HMgo21 := m_ (show (P0_ go21 ∨ w.heap.size ≤ go21) from (HO_0.out.1 _ rfl))
            (first | simp only [add_plain] at hx145_0 | skip)
            (first | simp only [add_plain] at hx145_1 | skip)
            (first | simp only [add_plain] at hx144_0 | skip)
            (first | simp only [add_plain] at hx144_1 | skip)
            obtain ⟨ce21, hcl21, hM21, hcc21, hfr21⟩ := Kd.R_elem HO_0.out z76 (x2_1 : Int) p21 q21
            obtain rfl := k76_openM hM21
            have hx21_0 : World.cell? _ ⟨go21, (x2_1 : Int).toNat * 2, none⟩ = some (.int .i64 ((rd_T76 x0_1 x2_1).f0)) := hcc21 0 _ rfl
            have hx21_1 : World.cell? _ ⟨go21, (x2_1 : Int).toNat * 2 + 1, none⟩ = some (.int .i64 ((rd_T76 x0_1 x2_1).f1)) := hcc21 1 _ rfl
            have hf21_0 : World.frozen? _ ⟨go21, (x2_1 : Int).toNat * 2, none⟩ = false := hfr21 0
            have hf21_1 : World.frozen? _ ⟨go21, (x2_1 : Int).toNat * 2 + 1, none⟩ = false := hfr21 1
            clear hcl21 hcc21 hfr21 hM21
            replace p21 := eq_true p21
            replace q21 := eq_true q21
            obtain ⟨ce27, hcl27, hM27, hcc27, hfr27⟩ := Kd.R_elem HO_0.out z76 (x2_1 : Int) od_ (by have h_ : (x2_1 : Int) < ((x0_1.length : Int) : Int) := od_; first | exact h_ | (have e_ := (Kd.R_reads' HO_0.out).1; omega) | simpa using h_)
            obtain rfl := k76_openM hM27
            have HP27 := (Kd.R_seg HO_0.out (x2_1 : Int) od_ (by have h_ : (x2_1 : Int) < ((x0_1.length : Int) : Int) := od_; first | exact h_ | (have e_ := (Kd.R_reads' HO_0.out).1; omega) | simpa using h_) (seg := [.int .i64 ((rd_T76 x0_1 t142).f0), .int .i64 ((rd_T76 x0_1 t142).f1)]) (j := 0) hcl27 hcc27 (show 2 ≤ 2 from by decide) (x' := (⟨(rd_T76 x0_1 t142).f0, (rd_T76 x0_1 t142).f1⟩ : S76)) (k76_mkM _ _ _ (⟨(rd_T76 x0_1 t142).f0, (rd_T76 x0_1 t142).f1⟩ : S76) ) (fun _ hk => hk)).1
            rw [← Ny146.out] at HP27
            have HQ27 := m_ HP27
            clear hcl27 hcc27 hfr27 hM27 HP27
            have p24 : 0 ≤ (t142 : Int) := od_
            have q24 : (t142 : Int) < ((x0_1.length : Int) : Int) := od_
            obtain ⟨ce24, hcl24, hM24, hcc24, hfr24⟩ := Kd.R_elem HQ27.out z76 (t142 : Int) p24 q24
            obtain rfl := k76_openM hM24
            have hx24_0 : World.cell? _ ⟨go21, (t142 : Int).toNat * 2, none⟩ = some (.int .i64 ((rd_T76 y146 t142).f0)) := hcc24 0 _ rfl
            have hx24_1 : World.cell? _ ⟨go21, (t142 : Int).toNat * 2 + 1, none⟩ = some (.int .i64 ((rd_T76 y146 t142).f1)) := hcc24 1 _ rfl
            have hf24_0 : World.frozen? _ ⟨go21, (t142 : Int).toNat * 2, none⟩ = false := hfr24 0
            have hf24_1 : World.frozen? _ ⟨go21, (t142 : Int).toNat * 2 + 1, none⟩ = false := hfr24 1
            clear hcl24 hcc24 hfr24 hM24
            (try simp only [World.setCells, Nat.add_zero, show k76.sz = 2 from rfl] at hx24_0 hf24_0 hx24_1 hf24_1)
            (try simp only [World.frozen?_setCell] at hf24_0 hf24_1)
            (try rw [World.cell?_setCell_other (by intro e_; injection e_; omega)] at hx24_0)
            have hcd1_ : ∀ (W : World) (m : Nat) (p : Addr) (v : Value) (q : Addr), ((W.drewN m).setCell p v).cell? q = (W.setCell p v).cell? q := fun _ _ _ _ _ => rfl
            have hcd2_ : ∀ (W : World) (m : Nat) (p : Addr) (v : Value) (p2 : Addr) (v2 : Value) (q : Addr), (((W.drewN m).setCell p v).setCell p2 v2).cell? q = ((W.setCell p v).setCell p2 v2).cell? q := fun _ _ _ _ _ _ _ => rfl
            replace p24 := eq_true p24
            replace q24 := eq_true q24
            obtain ⟨ce28, hcl28, hM28, hcc28, hfr28⟩ := Kd.R_elem HQ27.out z76 (t142 : Int) od_ (by have h_ : (t142 : Int) < ((x0_1.length : Int) : Int) := od_; first | exact h_ | (have e_ := (Kd.R_reads' HO_0.out).1; omega) | simpa using h_)
            obtain rfl := k76_openM hM28
            have HP28 := (Kd.R_seg HQ27.out (t142 : Int) od_ (by have h_ : (t142 : Int) < ((x0_1.length : Int) : Int) := od_; first | exact h_ | (have e_ := (Kd.R_reads' HO_0.out).1; omega) | simpa using h_) (seg := [.int .i64 ((rd_T76 x0_1 x2_1).f0), .int .i64 ((rd_T76 x0_1 x2_1).f1)]) (j := 0) hcl28 hcc28 (show 2 ≤ 2 from by decide) (x' := (⟨(rd_T76 x0_1 x2_1).f0, (rd_T76 x0_1 x2_1).f1⟩ : S76)) (k76_mkM _ _ _ (⟨(rd_T76 x0_1 x2_1).f0, (rd_T76 x0_1 x2_1).f1⟩ : S76) ) (fun _ hk => hk)).1
            rw [← Ny147.out] at HP28
            have HQ28 := m_ HP28
            clear hcl28 hcc28 hfr28 hM28 HP28
            refine hK.out _ _ ⟨hHeld.1, hHeld.2.1, hHeld.2.2.1, hHeld.2.2.2⟩ (fun hHeld => ?_)
            clear hK K
            refine nz_ (some 29) ?_
            refine pz_ 8 30 ?_
            refine tz_ 9 31 ?_
            refine pz_ 14 36 ?_
            refine last_ (i := 15) (N := none) (bs_ 18 65535) rfl rfl (one_of HT_.out (by kernel_rfl)) (by decide) (fun K hK => ?_)
            refine skip_ (w1 := ?_) (by rfl) rfl ?_ ?_
            rotate_left
            ·go_simp
             rfl
            refine hK.out _ _ ?_
            clear hK K
            refine pz_ 16 37 ?_
            refine last_ (i := 17) (N := none) (bs_ 18 262143) rfl rfl (one_of HT_.out (by kernel_rfl)) (by decide) (fun K hK => ?_)
            refine skip_ (w1 := ?_) (by rfl) rfl ?_ ?_
            rotate_left
            ·go_simp
             rfl
            refine hK.out _ _ ?_
            clear hK K
            refine dz_ ?_
            try go_wp2_with (first | ((with_reducible refine gate_callee (f := 69) rfl ?_); refine gL_ (some 21) Try.func69 #[.int .i64 x2_1] ?_; (with_reducible refine (heap_above.calls x2_1 t142 _ A25.out).mono ?_); rintro e w' ⟨rfl, ⟨nd, rfl⟩⟩; refine ⟨_, rfl, ?_⟩))
            (try simp only [← hl0_1])
            go_roundg kj2
            case measure => have := HK1.out; have := HJ2.out; omega
            case rel => exact ⟨(y147), (t142), (by first | rfl | (simp; done) | (simp [*]; done)), H', ⟨by have := HK1.out; have := HJ2.out; omega⟩, ⟨by (try simp only [hl0_1]); (with_reducible repeat (first | apply Kd.R_alloc | apply Kd.R_drewN | apply Kd.R_drew)); exact HQ28.out⟩, ⟨by repeat (first | (with_reducible first | exact HK.out | apply Kept.alloc | apply Kept.drewN | apply Kept.drew | refine Kept.setCell ?_ HMgo21.out _ | refine Kept.setCell ?_ HMgo21.out _ | refine Kept.setCell ?_ HMgo21.out _ | refine Kept.setCell ?_ HMgo21.out _) | exact HK.out)⟩, ⟨by repeat (first | (with_reducible first | exact HB.out | apply below_alloc | apply pw_below_drewN | apply below_drew1 | refine below_set ?_ GB21.out | refine below_set ?_ GB21.out | refine below_set ?_ GB21.out | refine below_set ?_ GB21.out) | exact HB.out)⟩⟩
           ·rw [if_neg c23] at H
            exact absurd H (by simp)
          ·rw [if_neg c22] at H
           exact absurd H (by simp)
         ·rw [if_neg c20] at H
          exact absurd H (by simp)
        ·rw [if_neg c19] at H
         exact absurd H (by simp)
       ·rw [if_neg c18] at H
        exact absurd H (by simp)
      ·rw [if_neg c17] at H
       exact absurd H (by simp)
     ·replace c14 := Bool.eq_false_iff.mpr c14
      subst c14
      have H1 : (some x0_1) = some r := by rw [if_neg (show ¬ (false = true) by decide)] at H; exact H
      clear H
      have H := H1
      clear H1
      obtain rfl := Option.some.inj H
      go_wp2
      first | go_end0 | ((try simp only [Exit.inBlock, Exit.then]); refine bodyPost_ret (results_none rfl _ _ _) rfl ?_)
      exact ⟨ew_, (by first | exact (Rz_ HO_0.out) | (simp only [hl0_1]; exact (Rz_ HO_0.out))), bz_, (by repeat (first | (with_reducible first | exact HK.out | apply Kept.alloc | apply Kept.drewN | apply Kept.drew) | exact HK.out))⟩

end Go.Proofs.Ytkcphjdjhlikhaa.P

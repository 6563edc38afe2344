/- For each Go function a Lean function, and the proof that a call comes to what it tells: made by program out of the translation (the kit's print, with texts by hand put in). No condition. -/
import Derived.Test.YtboonfidioombaaSq
import Derived.Test.YtboonfidioombaaPx0
import Derived.Test.YtboonfidioombaaPx7
namespace Go.Proofs.Ytboonfidioombaa.P
open Go.RowKit Go.Proofs.Ytboonfidioombaa.HRows Go.Proofs.YtboonfidioombaaW.PrintWords Go.Proofs.YtboonfidioombaaW.PrintLast Go.Proofs.YtboonfidioombaaW.PrintMore
attribute [local go_sem] max2_int min2_int max_two min_two max_three min_three max_four min_four
set_option linter.unusedVariables false
set_option linter.unusedSimpArgs false
mutual
def flow_Right.l0 : Nat → Int → List (S59) → Int → Int → Int → Int → Int → Int → Int → List (S59) → Option (Bool)
 | 0, _, _, _, _, _, _, _, _, _, _ => none
 | k + 1, x3, x8, x9, x10, x121000, x121001, x121002, x121003, x121004, x121005 => if x10 < x9 then (if 0 ≤ x10 then (if x10 < (x8.length : Int) then (if ((rd_T59 x8 x10).f0) ≤ x3 then (some false) else (if ((rd_T59 x8 x10).f0) ≥ 128 then (some false) else ((flow_access.f ((rd_T59 x8 x10).f0)).bind fun t123 => (if (((rd_T59 x8 x10).f1) != t123) = true then (some false) else (flow_Right.l0 k ((rd_T59 x8 x10).f0) x8 x9 (wrap64 (x10 + 1)) x121000 x121001 x121002 x121003 x121004 x121005))))) else (none)) else (none)) else (if x121003 = (-1) then (flow_Right.j1 k (x121004 == 0) x121000 x121001 x121002 x121003 x121004 x121005) else (flow_Right.j1 k false x121000 x121001 x121002 x121003 x121004 x121005))
def flow_Right.j1 : Nat → Bool → Int → Int → Int → Int → Int → List (S59) → Option (Bool)
 | 0, _, _, _, _, _, _, _ => none
 | k + 1, x6, x121000, x121001, x121002, x121003, x121004, x121005 => if x121002 = 0 then ((flow_access.f x121003).bind fun t124 => (if t124 = true then ((addr_IsAsked.f x121001).bind fun t125 => (if t125 = true then (if (x121005.length : Int) ≤ 128 then (some (x121004 != 0)) else (some false)) else (some false))) else ((addr_IsAsked.f x121001).bind fun t126 => (if t126 = true then (if (x121005.length : Int) ≤ 128 then (some false) else (some false)) else (some false))))) else ((addr_IsAsked.f x121001).bind fun t127 => (if t127 = true then (if (x121005.length : Int) ≤ 128 then (some x6) else (some false)) else (some false)))
end
def flow_Right.f (k : Nat) (a0_0 : Int) (a0_1 : Int) (a0_2 : Int) (a0_3 : Int) (a0_4 : Int) (l0_5 : List (S59)) : Option (Bool) := flow_Right.l0 k (-1) l0_5 (l0_5.length : Int) 0 a0_0 a0_1 a0_2 a0_3 a0_4 l0_5
theorem flow_Right.mono_l : ∀ k, (∀ y0 y1 y2 y3 y4 y5 y6 y7 y8 y9, LeO (flow_Right.l0 k y0 y1 y2 y3 y4 y5 y6 y7 y8 y9) (flow_Right.l0 (k + 1) y0 y1 y2 y3 y4 y5 y6 y7 y8 y9)) ∧ (∀ y0 y1 y2 y3 y4 y5 y6, LeO (flow_Right.j1 k y0 y1 y2 y3 y4 y5 y6) (flow_Right.j1 (k + 1) y0 y1 y2 y3 y4 y5 y6))
 | 0 => ⟨fun _ _ _ _ _ _ _ _ _ _ r h => by simp [flow_Right.l0] at h, fun _ _ _ _ _ _ _ r h => by simp [flow_Right.j1] at h⟩
 | k + 1 => by
  obtain ⟨ih0, ih1⟩ := flow_Right.mono_l k
  refine ⟨?_, ?_⟩
  ·intro y0 y1 y2 y3 y4 y5 y6 y7 y8 y9
   unfold flow_Right.l0
   repeat' first
   | (with_reducible exact ih0 _ _ _ _ _ _ _ _ _ _)
   | (with_reducible exact ih1 _ _ _ _ _ _ _)
   | (with_reducible exact LeO.refl _)
   | (with_reducible exact LeO.none _)
   | (with_reducible refine LeO.ite ?_ ?_)
   | (with_reducible refine LeO.bind ?_ (fun _ => ?_))
   | exact ih0 _ _ _ _ _ _ _ _ _ _
   | exact ih1 _ _ _ _ _ _ _
   | exact LeO.none _
   | refine LeO.ite ?_ ?_
   | refine LeO.bind ?_ (fun _ => ?_)
  ·intro y0 y1 y2 y3 y4 y5 y6
   unfold flow_Right.j1
   repeat' first
   | (with_reducible exact ih0 _ _ _ _ _ _ _ _ _ _)
   | (with_reducible exact ih1 _ _ _ _ _ _ _)
   | (with_reducible exact LeO.refl _)
   | (with_reducible exact LeO.none _)
   | (with_reducible refine LeO.ite ?_ ?_)
   | (with_reducible refine LeO.bind ?_ (fun _ => ?_))
   | exact ih0 _ _ _ _ _ _ _ _ _ _
   | exact ih1 _ _ _ _ _ _ _
   | exact LeO.none _
   | refine LeO.ite ?_ ?_
   | refine LeO.bind ?_ (fun _ => ?_)
theorem flow_Right.mono : ∀ a0 a1 a2 a3 a4 a5 k, LeO (flow_Right.f k a0 a1 a2 a3 a4 a5) (flow_Right.f (k + 1) a0 a1 a2 a3 a4 a5) := by
 intro a0 a1 a2 a3 a4 a5 k
 obtain ⟨ih0, ih1⟩ := flow_Right.mono_l k
 unfold flow_Right.f
 repeat' first
   | (with_reducible exact ih0 _ _ _ _ _ _ _ _ _ _)
   | (with_reducible exact ih1 _ _ _ _ _ _ _)
   | (with_reducible exact LeO.refl _)
   | (with_reducible exact LeO.none _)
   | (with_reducible refine LeO.ite ?_ ?_)
   | (with_reducible refine LeO.bind ?_ (fun _ => ?_))
   | exact ih0 _ _ _ _ _ _ _ _ _ _
   | exact ih1 _ _ _ _ _ _ _
   | exact LeO.none _
   | refine LeO.ite ?_ ?_
   | refine LeO.bind ?_ (fun _ => ?_)
set_option maxHeartbeats 8000000 in
set_option maxRecDepth 100000 in
theorem flow_Right.calls (k : Nat) (a0_0 : Int) (a0_1 : Int) (a0_2 : Int) (a0_3 : Int) (a0_4 : Int) (A0_5 : Option Addr) (c0_5 : Nat) (l0_5 : List (S59)) (r : Bool) (w : World) (hr0_5 : Kd.C k59 w A0_5 l0_5.length l0_5) (hc0_5 : l0_5.length ≤ c0_5) (h : flow_Right.f k a0_0 a0_1 a0_2 a0_3 a0_4 l0_5 = some r) :
  Calls Try.prog 29 #[.agg #[.int .u32 a0_0, .int .u32 a0_1, .int .u32 a0_2, .int .i64 a0_3, .int .u32 a0_4, .slice A0_5 l0_5.length c0_5]] w fun e w' => e = .returned (.bool r) ∧ Below w.heap.size w w' := by
 have hu26 := Try.underlying26
 have hu59 := Try.underlying59
 have HR0_5 := m_ hr0_5
 have HC0_5 := m_ hc0_5
 clear hr0_5 hc0_5
 have HB := m_ (Below.refl w.heap.size w)
 have H : (flow_Right.l0 k (-1) l0_5 (l0_5.length : Int) 0 a0_0 a0_1 a0_2 a0_3 a0_4 l0_5) = some r := h
 clear h
 have H' := m_ H
 clear H
 go_enter Try.func29, Try.ntmps29
 go_wp2_with (first | ((with_reducible refine gate_dst (N := 1) rfl ?_); (try (refine gate_guard (by rfl) ?_; dsimp only)); refine bx_ 1 26 #[.int .u32 a0_0, .int .u32 a0_1, .int .u32 a0_2, .int .i64 a0_3, .int .u32 a0_4, .slice A0_5 l0_5.length c0_5] ?_; intro gb120 hg w2 hbox hb; have BK120 := m_ (hbox); have GW120 := m_ ((gw_ : w.heap.size ≤ gb120)); have GE120 := m_ ((gw_ : w.heap.size ≤ gb120)); replace HB := m_ (below_step bz_ hb); clear hb hbox hg; have hcz3_0 : w2.cell? ⟨gb120, 0, none⟩ = some (.int .u32 a0_0) := (blk_cell BK120.out 0).trans rfl; have hcz3_1 : w2.cell? ⟨gb120, 1, none⟩ = some (.int .u32 a0_1) := (blk_cell BK120.out 1).trans rfl; have hcz3_2 : w2.cell? ⟨gb120, 2, none⟩ = some (.int .u32 a0_2) := (blk_cell BK120.out 2).trans rfl; have hcz3_3 : w2.cell? ⟨gb120, 3, none⟩ = some (.int .i64 a0_3) := (blk_cell BK120.out 3).trans rfl; have hcz3_4 : w2.cell? ⟨gb120, 4, none⟩ = some (.int .u32 a0_4) := (blk_cell BK120.out 4).trans rfl; have hcz3_5 : w2.cell? ⟨gb120, 5, none⟩ = some (.slice A0_5 l0_5.length c0_5) := (blk_cell BK120.out 5).trans rfl; have hfz3_0 := blk_frozen BK120.out 0; have hfz3_1 := blk_frozen BK120.out 1; have hfz3_2 := blk_frozen BK120.out 2; have hfz3_3 := blk_frozen BK120.out 3; have hfz3_4 := blk_frozen BK120.out 4; have hfz3_5 := blk_frozen BK120.out 5))
 repeat (go_quiet (first | ((with_reducible refine gate_dst (N := 1) rfl ?_); (try (refine gate_guard (by rfl) ?_; dsimp only)); refine bx_ 1 26 #[.int .u32 a0_0, .int .u32 a0_1, .int .u32 a0_2, .int .i64 a0_3, .int .u32 a0_4, .slice A0_5 l0_5.length c0_5] ?_; intro gb120 hg w2 hbox hb; have BK120 := m_ (hbox); have GW120 := m_ ((gw_ : w.heap.size ≤ gb120)); have GE120 := m_ ((gw_ : w.heap.size ≤ gb120)); replace HB := m_ (below_step bz_ hb); clear hb hbox hg; have hcz3_0 : w2.cell? ⟨gb120, 0, none⟩ = some (.int .u32 a0_0) := (blk_cell BK120.out 0).trans rfl; have hcz3_1 : w2.cell? ⟨gb120, 1, none⟩ = some (.int .u32 a0_1) := (blk_cell BK120.out 1).trans rfl; have hcz3_2 : w2.cell? ⟨gb120, 2, none⟩ = some (.int .u32 a0_2) := (blk_cell BK120.out 2).trans rfl; have hcz3_3 : w2.cell? ⟨gb120, 3, none⟩ = some (.int .i64 a0_3) := (blk_cell BK120.out 3).trans rfl; have hcz3_4 : w2.cell? ⟨gb120, 4, none⟩ = some (.int .u32 a0_4) := (blk_cell BK120.out 4).trans rfl; have hcz3_5 : w2.cell? ⟨gb120, 5, none⟩ = some (.slice A0_5 l0_5.length c0_5) := (blk_cell BK120.out 5).trans rfl; have hfz3_0 := blk_frozen BK120.out 0; have hfz3_1 := blk_frozen BK120.out 1; have hfz3_2 := blk_frozen BK120.out 2; have hfz3_3 := blk_frozen BK120.out 3; have hfz3_4 := blk_frozen BK120.out 4; have hfz3_5 := blk_frozen BK120.out 5)); try go_wp2_with (first | ((with_reducible refine gate_dst (N := 1) rfl ?_); (try (refine gate_guard (by rfl) ?_; dsimp only)); refine bx_ 1 26 #[.int .u32 a0_0, .int .u32 a0_1, .int .u32 a0_2, .int .i64 a0_3, .int .u32 a0_4, .slice A0_5 l0_5.length c0_5] ?_; intro gb120 hg w2 hbox hb; have BK120 := m_ (hbox); have GW120 := m_ ((gw_ : w.heap.size ≤ gb120)); have GE120 := m_ ((gw_ : w.heap.size ≤ gb120)); replace HB := m_ (below_step bz_ hb); clear hb hbox hg; have hcz3_0 : w2.cell? ⟨gb120, 0, none⟩ = some (.int .u32 a0_0) := (blk_cell BK120.out 0).trans rfl; have hcz3_1 : w2.cell? ⟨gb120, 1, none⟩ = some (.int .u32 a0_1) := (blk_cell BK120.out 1).trans rfl; have hcz3_2 : w2.cell? ⟨gb120, 2, none⟩ = some (.int .u32 a0_2) := (blk_cell BK120.out 2).trans rfl; have hcz3_3 : w2.cell? ⟨gb120, 3, none⟩ = some (.int .i64 a0_3) := (blk_cell BK120.out 3).trans rfl; have hcz3_4 : w2.cell? ⟨gb120, 4, none⟩ = some (.int .u32 a0_4) := (blk_cell BK120.out 4).trans rfl; have hcz3_5 : w2.cell? ⟨gb120, 5, none⟩ = some (.slice A0_5 l0_5.length c0_5) := (blk_cell BK120.out 5).trans rfl; have hfz3_0 := blk_frozen BK120.out 0; have hfz3_1 := blk_frozen BK120.out 1; have hfz3_2 := blk_frozen BK120.out 2; have hfz3_3 := blk_frozen BK120.out 3; have hfz3_4 := blk_frozen BK120.out 4; have hfz3_5 := blk_frozen BK120.out 5)))
 go_loopg [3, 10] k (fun kq v3 v10 w' => ∃ (x3_1 : Int) (x10_1 : Int), v3 = .int .i64 x3_1 ∧ v10 = .int .i64 x10_1 ∧ Aside0 (flow_Right.l0 kq x3_1 l0_5 (l0_5.length : Int) x10_1 a0_0 a0_1 a0_2 a0_3 a0_4 l0_5 = some r) ∧ Aside0 (kq ≤ k) ∧ Aside0 (w'.heap[gb120]? = some (.cells #[.int .u32 a0_0, .int .u32 a0_1, .int .u32 a0_2, .int .i64 a0_3, .int .u32 a0_4, (.slice A0_5 l0_5.length c0_5)] 26 (0, 0))) ∧ Aside0 (Below w.heap.size w w'))
 case atStart => exact ⟨((-1)), (0), (by first | rfl | (simp; done) | (simp [*]; done)), (by first | rfl | (simp; done) | (simp [*]; done)), H', ⟨Nat.le_refl _⟩, ⟨kz_⟩, ⟨bz_⟩⟩
 case round =>
  clear H'
  try clear c2
  try clear p2
  try clear hcz3_0
  try clear hcz3_1
  try clear hcz3_2
  try clear hcz3_3
  try clear hcz3_4
  try clear hcz3_5
  try clear hfz3_0
  try clear hfz3_1
  try clear hfz3_2
  try clear hfz3_3
  try clear hfz3_4
  try clear hfz3_5
  obtain ⟨x3_1, x10_1, rfl, rfl, HA, HK1, BK120, HB⟩ := hrel
  cases gk with
  | zero => exact absurd HA.out (by simp [flow_Right.l0])
  | succ k1 =>
   have H := HA.out
   clear HA
   simp only [flow_Right.l0] at H
   by_cases c4 : x10_1 < (l0_5.length : Int)
   ·rw [if_pos c4] at H
    have c4b0 : decide (x10_1 < (l0_5.length : Int)) = true := decide_eq_true c4
    clear c4
    by_cases c5 : 0 ≤ x10_1
    ·rw [if_pos c5] at H
     have c5b0 : decide (0 ≤ x10_1) = true := decide_eq_true c5
     clear c5
     by_cases c6 : x10_1 < (l0_5.length : Int)
     ·rw [if_pos c6] at H
      have c6b0 : decide (x10_1 < (l0_5.length : Int)) = true := decide_eq_true c6
      clear c6
      by_cases c7 : ((rd_T59 l0_5 x10_1).f0) ≤ x3_1
      ·rw [if_pos c7] at H
       have c7b0 : decide (((rd_T59 l0_5 x10_1).f0) ≤ x3_1) = true := decide_eq_true c7
       clear c7
       obtain rfl := Option.some.inj H
       have p121 : 0 ≤ (x10_1 : Int) := od_
       have q121 : x10_1 < (l0_5.length : Int) := od_
       obtain ⟨ad121, e121, hx121_0, hx121_1⟩ := at_T59 HR0_5.out x10_1 p121 q121
       cases e121
       replace hx121_0 := kp_ HB.out hx121_0
       replace hx121_1 := kp_ HB.out hx121_1
       replace p121 := eq_true p121
       replace q121 := eq_true q121
       go_wp2_with (first | ((with_reducible refine gate_dst (N := 5) rfl ?_); (try (refine gate_guard (by rfl) ?_; dsimp only)); refine bx_ 5 59 #[.int .i64 0, .bool false] ?_; intro gb122 hg w8 hbox hb; have BK122 := m_ (hbox); have GW122 := m_ ((gw_ : w.heap.size ≤ gb122)); have GE122 := m_ ((gw_ : w.heap.size ≤ gb122)); have NB120_122 := m_ ((gl_ : gb120 ≠ gb122)); have NB122_120 := m_ ((gr_ : gb122 ≠ gb120)); replace BK120 := m_ (kl_ gb120 hb); replace HB := m_ (below_step bz_ hb); clear hb hbox hg; have hnb9 := NB122_120.out; have hnc9 := NB120_122.out; have hcz10_0 : w8.cell? ⟨gb122, 0, none⟩ = some (.int .i64 0) := (blk_cell BK122.out 0).trans rfl; have hcz10_1 : w8.cell? ⟨gb122, 1, none⟩ = some (.bool false) := (blk_cell BK122.out 1).trans rfl; have hfz10_0 := blk_frozen BK122.out 0; have hfz10_1 := blk_frozen BK122.out 1))
       repeat (go_quiet (first | ((with_reducible refine gate_dst (N := 5) rfl ?_); (try (refine gate_guard (by rfl) ?_; dsimp only)); refine bx_ 5 59 #[.int .i64 0, .bool false] ?_; intro gb122 hg w8 hbox hb; have BK122 := m_ (hbox); have GW122 := m_ ((gw_ : w.heap.size ≤ gb122)); have GE122 := m_ ((gw_ : w.heap.size ≤ gb122)); have NB120_122 := m_ ((gl_ : gb120 ≠ gb122)); have NB122_120 := m_ ((gr_ : gb122 ≠ gb120)); replace BK120 := m_ (kl_ gb120 hb); replace HB := m_ (below_step bz_ hb); clear hb hbox hg; have hnb9 := NB122_120.out; have hnc9 := NB120_122.out; have hcz10_0 : w8.cell? ⟨gb122, 0, none⟩ = some (.int .i64 0) := (blk_cell BK122.out 0).trans rfl; have hcz10_1 : w8.cell? ⟨gb122, 1, none⟩ = some (.bool false) := (blk_cell BK122.out 1).trans rfl; have hfz10_0 := blk_frozen BK122.out 0; have hfz10_1 := blk_frozen BK122.out 1)); try go_wp2_with (first | ((with_reducible refine gate_dst (N := 5) rfl ?_); (try (refine gate_guard (by rfl) ?_; dsimp only)); refine bx_ 5 59 #[.int .i64 0, .bool false] ?_; intro gb122 hg w8 hbox hb; have BK122 := m_ (hbox); have GW122 := m_ ((gw_ : w.heap.size ≤ gb122)); have GE122 := m_ ((gw_ : w.heap.size ≤ gb122)); have NB120_122 := m_ ((gl_ : gb120 ≠ gb122)); have NB122_120 := m_ ((gr_ : gb122 ≠ gb120)); replace BK120 := m_ (kl_ gb120 hb); replace HB := m_ (below_step bz_ hb); clear hb hbox hg; have hnb9 := NB122_120.out; have hnc9 := NB120_122.out; have hcz10_0 : w8.cell? ⟨gb122, 0, none⟩ = some (.int .i64 0) := (blk_cell BK122.out 0).trans rfl; have hcz10_1 : w8.cell? ⟨gb122, 1, none⟩ = some (.bool false) := (blk_cell BK122.out 1).trans rfl; have hfz10_0 := blk_frozen BK122.out 0; have hfz10_1 := blk_frozen BK122.out 1)))
       go_ret
       exact ⟨ew_, bz_⟩
      ·rw [if_neg c7] at H
       have c7b0 : decide (((rd_T59 l0_5 x10_1).f0) ≤ x3_1) = false := decide_eq_false c7
       clear c7
       by_cases c11 : ((rd_T59 l0_5 x10_1).f0) ≥ 128
       ·rw [if_pos c11] at H
        have c11b0 : decide (128 ≤ ((rd_T59 l0_5 x10_1).f0)) = true := decide_eq_true c11
        clear c11
        obtain rfl := Option.some.inj H
        have p121 : 0 ≤ (x10_1 : Int) := od_
        have q121 : x10_1 < (l0_5.length : Int) := od_
        obtain ⟨ad121, e121, hx121_0, hx121_1⟩ := at_T59 HR0_5.out x10_1 p121 q121
        cases e121
        replace hx121_0 := kp_ HB.out hx121_0
        replace hx121_1 := kp_ HB.out hx121_1
        replace p121 := eq_true p121
        replace q121 := eq_true q121
        go_wp2_with (first | ((with_reducible refine gate_dst (N := 5) rfl ?_); (try (refine gate_guard (by rfl) ?_; dsimp only)); refine bx_ 5 59 #[.int .i64 0, .bool false] ?_; intro gb122 hg w12 hbox hb; have BK122 := m_ (hbox); have GW122 := m_ ((gw_ : w.heap.size ≤ gb122)); have GE122 := m_ ((gw_ : w.heap.size ≤ gb122)); have NB120_122 := m_ ((gl_ : gb120 ≠ gb122)); have NB122_120 := m_ ((gr_ : gb122 ≠ gb120)); replace BK120 := m_ (kl_ gb120 hb); replace HB := m_ (below_step bz_ hb); clear hb hbox hg; have hnb13 := NB122_120.out; have hnc13 := NB120_122.out; have hcz14_0 : w12.cell? ⟨gb122, 0, none⟩ = some (.int .i64 0) := (blk_cell BK122.out 0).trans rfl; have hcz14_1 : w12.cell? ⟨gb122, 1, none⟩ = some (.bool false) := (blk_cell BK122.out 1).trans rfl; have hfz14_0 := blk_frozen BK122.out 0; have hfz14_1 := blk_frozen BK122.out 1))
        repeat (go_quiet (first | ((with_reducible refine gate_dst (N := 5) rfl ?_); (try (refine gate_guard (by rfl) ?_; dsimp only)); refine bx_ 5 59 #[.int .i64 0, .bool false] ?_; intro gb122 hg w12 hbox hb; have BK122 := m_ (hbox); have GW122 := m_ ((gw_ : w.heap.size ≤ gb122)); have GE122 := m_ ((gw_ : w.heap.size ≤ gb122)); have NB120_122 := m_ ((gl_ : gb120 ≠ gb122)); have NB122_120 := m_ ((gr_ : gb122 ≠ gb120)); replace BK120 := m_ (kl_ gb120 hb); replace HB := m_ (below_step bz_ hb); clear hb hbox hg; have hnb13 := NB122_120.out; have hnc13 := NB120_122.out; have hcz14_0 : w12.cell? ⟨gb122, 0, none⟩ = some (.int .i64 0) := (blk_cell BK122.out 0).trans rfl; have hcz14_1 : w12.cell? ⟨gb122, 1, none⟩ = some (.bool false) := (blk_cell BK122.out 1).trans rfl; have hfz14_0 := blk_frozen BK122.out 0; have hfz14_1 := blk_frozen BK122.out 1)); try go_wp2_with (first | ((with_reducible refine gate_dst (N := 5) rfl ?_); (try (refine gate_guard (by rfl) ?_; dsimp only)); refine bx_ 5 59 #[.int .i64 0, .bool false] ?_; intro gb122 hg w12 hbox hb; have BK122 := m_ (hbox); have GW122 := m_ ((gw_ : w.heap.size ≤ gb122)); have GE122 := m_ ((gw_ : w.heap.size ≤ gb122)); have NB120_122 := m_ ((gl_ : gb120 ≠ gb122)); have NB122_120 := m_ ((gr_ : gb122 ≠ gb120)); replace BK120 := m_ (kl_ gb120 hb); replace HB := m_ (below_step bz_ hb); clear hb hbox hg; have hnb13 := NB122_120.out; have hnc13 := NB120_122.out; have hcz14_0 : w12.cell? ⟨gb122, 0, none⟩ = some (.int .i64 0) := (blk_cell BK122.out 0).trans rfl; have hcz14_1 : w12.cell? ⟨gb122, 1, none⟩ = some (.bool false) := (blk_cell BK122.out 1).trans rfl; have hfz14_0 := blk_frozen BK122.out 0; have hfz14_1 := blk_frozen BK122.out 1)))
        go_ret
        exact ⟨ew_, bz_⟩
       ·rw [if_neg c11] at H
        have c11b0 : decide (128 ≤ ((rd_T59 l0_5 x10_1).f0)) = false := decide_eq_false c11
        clear c11
        replace H := Option.bind_eq_some_iff.mp H
        obtain ⟨t123, A150, H⟩ := H
        replace H : (if (((rd_T59 l0_5 x10_1).f1) != t123) = true then (some false) else (flow_Right.l0 k1 ((rd_T59 l0_5 x10_1).f0) l0_5 (l0_5.length : Int) (wrap64 (x10_1 + 1)) a0_0 a0_1 a0_2 a0_3 a0_4 l0_5)) = some r := H
        have A15 := m_ A150
        clear A150
        by_cases c16 : (((rd_T59 l0_5 x10_1).f1) != t123) = true
        ·rw [if_pos c16] at H
         have c16b0 : (((rd_T59 l0_5 x10_1).f1) != t123) = true := c16
         (try (have c16b1 : decide (((rd_T59 l0_5 x10_1).f1) = t123) = false := by simpa using c16))
         (try (have c16b2 : (((rd_T59 l0_5 x10_1).f1) == t123) = false := by simpa using c16))
         (try (have c16b3 : ¬ (((rd_T59 l0_5 x10_1).f1) = t123) := by simpa using c16))
         clear c16
         obtain rfl := Option.some.inj H
         have p121 : 0 ≤ (x10_1 : Int) := od_
         have q121 : x10_1 < (l0_5.length : Int) := od_
         obtain ⟨ad121, e121, hx121_0, hx121_1⟩ := at_T59 HR0_5.out x10_1 p121 q121
         cases e121
         replace hx121_0 := kp_ HB.out hx121_0
         replace hx121_1 := kp_ HB.out hx121_1
         replace p121 := eq_true p121
         replace q121 := eq_true q121
         go_wp2_with (first | ((with_reducible refine gate_dst (N := 5) rfl ?_); (try (refine gate_guard (by rfl) ?_; dsimp only)); refine bx_ 5 59 #[.int .i64 0, .bool false] ?_; intro gb122 hg w17 hbox hb; have BK122 := m_ (hbox); have GW122 := m_ ((gw_ : w.heap.size ≤ gb122)); have GE122 := m_ ((gw_ : w.heap.size ≤ gb122)); have NB120_122 := m_ ((gl_ : gb120 ≠ gb122)); have NB122_120 := m_ ((gr_ : gb122 ≠ gb120)); replace BK120 := m_ (kl_ gb120 hb); replace HB := m_ (below_step bz_ hb); clear hb hbox hg; have hnb18 := NB122_120.out; have hnc18 := NB120_122.out; have hcz19_0 : w17.cell? ⟨gb122, 0, none⟩ = some (.int .i64 0) := (blk_cell BK122.out 0).trans rfl; have hcz19_1 : w17.cell? ⟨gb122, 1, none⟩ = some (.bool false) := (blk_cell BK122.out 1).trans rfl; have hfz19_0 := blk_frozen BK122.out 0; have hfz19_1 := blk_frozen BK122.out 1) | (go_at_call 43; (with_reducible refine (flow_access.calls ((rd_T59 l0_5 x10_1).f0) t123 _ A15.out).mono ?_); rintro e w' ⟨rfl, ⟨nd, rfl⟩⟩; (try first | exact ⟨rfl, _, World.drewN_drewN _ _ _⟩ | exact ⟨rfl, _, Eq.trans (World.drewN_drewN _ _ _) (congrArg (World.drewN _) (Nat.add_assoc _ _ _))⟩)))
         repeat (go_quiet (first | ((with_reducible refine gate_dst (N := 5) rfl ?_); (try (refine gate_guard (by rfl) ?_; dsimp only)); refine bx_ 5 59 #[.int .i64 0, .bool false] ?_; intro gb122 hg w17 hbox hb; have BK122 := m_ (hbox); have GW122 := m_ ((gw_ : w.heap.size ≤ gb122)); have GE122 := m_ ((gw_ : w.heap.size ≤ gb122)); have NB120_122 := m_ ((gl_ : gb120 ≠ gb122)); have NB122_120 := m_ ((gr_ : gb122 ≠ gb120)); replace BK120 := m_ (kl_ gb120 hb); replace HB := m_ (below_step bz_ hb); clear hb hbox hg; have hnb18 := NB122_120.out; have hnc18 := NB120_122.out; have hcz19_0 : w17.cell? ⟨gb122, 0, none⟩ = some (.int .i64 0) := (blk_cell BK122.out 0).trans rfl; have hcz19_1 : w17.cell? ⟨gb122, 1, none⟩ = some (.bool false) := (blk_cell BK122.out 1).trans rfl; have hfz19_0 := blk_frozen BK122.out 0; have hfz19_1 := blk_frozen BK122.out 1) | (go_at_call 43; (with_reducible refine (flow_access.calls ((rd_T59 l0_5 x10_1).f0) t123 _ A15.out).mono ?_); rintro e w' ⟨rfl, ⟨nd, rfl⟩⟩; (try first | exact ⟨rfl, _, World.drewN_drewN _ _ _⟩ | exact ⟨rfl, _, Eq.trans (World.drewN_drewN _ _ _) (congrArg (World.drewN _) (Nat.add_assoc _ _ _))⟩))); try go_wp2_with (first | ((with_reducible refine gate_dst (N := 5) rfl ?_); (try (refine gate_guard (by rfl) ?_; dsimp only)); refine bx_ 5 59 #[.int .i64 0, .bool false] ?_; intro gb122 hg w17 hbox hb; have BK122 := m_ (hbox); have GW122 := m_ ((gw_ : w.heap.size ≤ gb122)); have GE122 := m_ ((gw_ : w.heap.size ≤ gb122)); have NB120_122 := m_ ((gl_ : gb120 ≠ gb122)); have NB122_120 := m_ ((gr_ : gb122 ≠ gb120)); replace BK120 := m_ (kl_ gb120 hb); replace HB := m_ (below_step bz_ hb); clear hb hbox hg; have hnb18 := NB122_120.out; have hnc18 := NB120_122.out; have hcz19_0 : w17.cell? ⟨gb122, 0, none⟩ = some (.int .i64 0) := (blk_cell BK122.out 0).trans rfl; have hcz19_1 : w17.cell? ⟨gb122, 1, none⟩ = some (.bool false) := (blk_cell BK122.out 1).trans rfl; have hfz19_0 := blk_frozen BK122.out 0; have hfz19_1 := blk_frozen BK122.out 1) | (go_at_call 43; (with_reducible refine (flow_access.calls ((rd_T59 l0_5 x10_1).f0) t123 _ A15.out).mono ?_); rintro e w' ⟨rfl, ⟨nd, rfl⟩⟩; (try first | exact ⟨rfl, _, World.drewN_drewN _ _ _⟩ | exact ⟨rfl, _, Eq.trans (World.drewN_drewN _ _ _) (congrArg (World.drewN _) (Nat.add_assoc _ _ _))⟩))))
         go_ret
         exact ⟨ew_, bz_⟩
        ·rw [if_neg c16] at H
         have c16b0 : (((rd_T59 l0_5 x10_1).f1) != t123) = false := by simpa using c16
         (try (have c16b1 : decide (((rd_T59 l0_5 x10_1).f1) = t123) = true := by simpa using c16))
         (try (have c16b2 : (((rd_T59 l0_5 x10_1).f1) == t123) = true := by simpa using c16))
         clear c16
         have H' := m_ H
         clear H
         have p121 : 0 ≤ (x10_1 : Int) := od_
         have q121 : x10_1 < (l0_5.length : Int) := od_
         obtain ⟨ad121, e121, hx121_0, hx121_1⟩ := at_T59 HR0_5.out x10_1 p121 q121
         cases e121
         replace hx121_0 := kp_ HB.out hx121_0
         replace hx121_1 := kp_ HB.out hx121_1
         replace p121 := eq_true p121
         replace q121 := eq_true q121
         go_wp2_with (first | ((with_reducible refine gate_dst (N := 5) rfl ?_); (try (refine gate_guard (by rfl) ?_; dsimp only)); refine bx_ 5 59 #[.int .i64 0, .bool false] ?_; intro gb122 hg w20 hbox hb; have BK122 := m_ (hbox); have GW122 := m_ ((gw_ : w.heap.size ≤ gb122)); have GE122 := m_ ((gw_ : w.heap.size ≤ gb122)); have NB120_122 := m_ ((gl_ : gb120 ≠ gb122)); have NB122_120 := m_ ((gr_ : gb122 ≠ gb120)); replace BK120 := m_ (kl_ gb120 hb); replace HB := m_ (below_step bz_ hb); clear hb hbox hg; have hnb21 := NB122_120.out; have hnc21 := NB120_122.out; have hcz22_0 : w20.cell? ⟨gb122, 0, none⟩ = some (.int .i64 0) := (blk_cell BK122.out 0).trans rfl; have hcz22_1 : w20.cell? ⟨gb122, 1, none⟩ = some (.bool false) := (blk_cell BK122.out 1).trans rfl; have hfz22_0 := blk_frozen BK122.out 0; have hfz22_1 := blk_frozen BK122.out 1) | (go_at_call 43; (with_reducible refine (flow_access.calls ((rd_T59 l0_5 x10_1).f0) t123 _ A15.out).mono ?_); rintro e w' ⟨rfl, ⟨nd, rfl⟩⟩; (try first | exact ⟨rfl, _, World.drewN_drewN _ _ _⟩ | exact ⟨rfl, _, Eq.trans (World.drewN_drewN _ _ _) (congrArg (World.drewN _) (Nat.add_assoc _ _ _))⟩)))
         repeat (go_quiet (first | ((with_reducible refine gate_dst (N := 5) rfl ?_); (try (refine gate_guard (by rfl) ?_; dsimp only)); refine bx_ 5 59 #[.int .i64 0, .bool false] ?_; intro gb122 hg w20 hbox hb; have BK122 := m_ (hbox); have GW122 := m_ ((gw_ : w.heap.size ≤ gb122)); have GE122 := m_ ((gw_ : w.heap.size ≤ gb122)); have NB120_122 := m_ ((gl_ : gb120 ≠ gb122)); have NB122_120 := m_ ((gr_ : gb122 ≠ gb120)); replace BK120 := m_ (kl_ gb120 hb); replace HB := m_ (below_step bz_ hb); clear hb hbox hg; have hnb21 := NB122_120.out; have hnc21 := NB120_122.out; have hcz22_0 : w20.cell? ⟨gb122, 0, none⟩ = some (.int .i64 0) := (blk_cell BK122.out 0).trans rfl; have hcz22_1 : w20.cell? ⟨gb122, 1, none⟩ = some (.bool false) := (blk_cell BK122.out 1).trans rfl; have hfz22_0 := blk_frozen BK122.out 0; have hfz22_1 := blk_frozen BK122.out 1) | (go_at_call 43; (with_reducible refine (flow_access.calls ((rd_T59 l0_5 x10_1).f0) t123 _ A15.out).mono ?_); rintro e w' ⟨rfl, ⟨nd, rfl⟩⟩; (try first | exact ⟨rfl, _, World.drewN_drewN _ _ _⟩ | exact ⟨rfl, _, Eq.trans (World.drewN_drewN _ _ _) (congrArg (World.drewN _) (Nat.add_assoc _ _ _))⟩))); try go_wp2_with (first | ((with_reducible refine gate_dst (N := 5) rfl ?_); (try (refine gate_guard (by rfl) ?_; dsimp only)); refine bx_ 5 59 #[.int .i64 0, .bool false] ?_; intro gb122 hg w20 hbox hb; have BK122 := m_ (hbox); have GW122 := m_ ((gw_ : w.heap.size ≤ gb122)); have GE122 := m_ ((gw_ : w.heap.size ≤ gb122)); have NB120_122 := m_ ((gl_ : gb120 ≠ gb122)); have NB122_120 := m_ ((gr_ : gb122 ≠ gb120)); replace BK120 := m_ (kl_ gb120 hb); replace HB := m_ (below_step bz_ hb); clear hb hbox hg; have hnb21 := NB122_120.out; have hnc21 := NB120_122.out; have hcz22_0 : w20.cell? ⟨gb122, 0, none⟩ = some (.int .i64 0) := (blk_cell BK122.out 0).trans rfl; have hcz22_1 : w20.cell? ⟨gb122, 1, none⟩ = some (.bool false) := (blk_cell BK122.out 1).trans rfl; have hfz22_0 := blk_frozen BK122.out 0; have hfz22_1 := blk_frozen BK122.out 1) | (go_at_call 43; (with_reducible refine (flow_access.calls ((rd_T59 l0_5 x10_1).f0) t123 _ A15.out).mono ?_); rintro e w' ⟨rfl, ⟨nd, rfl⟩⟩; (try first | exact ⟨rfl, _, World.drewN_drewN _ _ _⟩ | exact ⟨rfl, _, Eq.trans (World.drewN_drewN _ _ _) (congrArg (World.drewN _) (Nat.add_assoc _ _ _))⟩))))
         go_roundg k1
         case measure => have := HK1.out; omega
         case rel => exact ⟨((rd_T59 l0_5 x10_1).f0), (wrap64 (x10_1 + 1)), (by first | rfl | (simp; done) | (simp [*]; done)), (by first | rfl | (simp; done) | (simp [*]; done)), H', ⟨by have := HK1.out; omega⟩, ⟨kb_⟩, ⟨bz_⟩⟩
     ·rw [if_neg c6] at H
      exact absurd H (by simp)
    ·rw [if_neg c5] at H
     exact absurd H (by simp)
   ·rw [if_neg c4] at H
    have c4b0 : decide (x10_1 < (l0_5.length : Int)) = false := decide_eq_false c4
    clear c4
    have HC23 := m_ H
    clear H
    go_upto_region 9 with (fail)
    repeat (go_quiet (fail); go_upto_region 9 with (fail))
    go_cut [6] (fun v6 wc => ∃ (kq : Nat) (x6_22 : Bool), v6 = .bool x6_22 ∧ Aside0 (flow_Right.j1 kq x6_22 a0_0 a0_1 a0_2 a0_3 a0_4 l0_5 = some r) ∧ Aside0 (kq ≤ k1) ∧ Aside0 (wc.heap[gb120]? = some (.cells #[.int .u32 a0_0, .int .u32 a0_1, .int .u32 a0_2, .int .i64 a0_3, .int .u32 a0_4, (.slice A0_5 l0_5.length c0_5)] 26 (0, 0))) ∧ Aside0 (Below w.heap.size w wc))
    case first =>
     have H := HC23.out
     clear HC23
     by_cases c24 : a0_3 = (-1)
     ·rw [if_pos c24] at H
      have c24b0 : (a0_3 == (-1)) = true := beq_iff_eq.mpr c24
      have c24b1 : (a0_3 != (-1)) = false := bne_eq_false_iff_eq.mpr c24
      clear c24
      (first | rw [c24b0] | (simp only [i64_w, i32_w]; rw [c24b0]) | skip)
      have H' := m_ H
      clear H
      have hcz25 := cz6_ BK120.out
      go_wp2
      repeat (go_quiet (fail); try go_wp2)
      go_meet
      case rel => exact ⟨_, ((a0_4 == 0)), (by first | rfl | (simp; done) | (simp [*]; done)), H', ⟨by have := HK1.out; first | omega | exact Nat.le_refl _⟩, ⟨kz_⟩, ⟨bz_⟩⟩
     ·rw [if_neg c24] at H
      have c24b0 : (a0_3 == (-1)) = false := beq_eq_false_iff_ne.mpr c24
      have c24b1 : (a0_3 != (-1)) = true := bne_iff_ne.mpr c24
      (first | rw [c24b0] | (simp only [i64_w, i32_w]; rw [c24b0]) | skip)
      have H' := m_ H
      clear H
      have hcz26 := cz6_ BK120.out
      go_wp2
      repeat (go_quiet (fail); try go_wp2)
      go_meet
      case rel => exact ⟨_, (false), (by first | rfl | (simp; done) | (simp [*]; done)), H', ⟨by have := HK1.out; first | omega | exact Nat.le_refl _⟩, ⟨kz_⟩, ⟨bz_⟩⟩
    case rest =>
     clear HC23
     try clear c1
     try clear p1
     try clear q1
     try clear hx1
     try clear c2
     try clear p2
     try clear c4
     try clear c4b0
     try clear c5
     try clear c5b0
     try clear c6
     try clear c6b0
     try clear p6
     try clear c7
     try clear c7b0
     try clear c9
     try clear c11
     try clear c11b0
     try clear p12
     try clear q12
     try clear hx12
     try clear c13
     try clear c16
     try clear c16b0
     try clear c16b1
     try clear c16b2
     try clear c18
     try clear c21
     try clear c24
     try clear c24b0
     try clear c24b1
     try clear hcz10_0
     try clear hcz10_1
     try clear hcz14_0
     try clear hcz14_1
     try clear hcz19_0
     try clear hcz19_1
     try clear hcz22_0
     try clear hcz22_1
     (try clear hcz25)
     (try clear hcz26)
     try clear hcz3_0
     try clear hcz3_1
     try clear hcz3_2
     try clear hcz3_3
     try clear hcz3_4
     try clear hcz3_5
     try clear hfz10_0
     try clear hfz10_1
     try clear hfz14_0
     try clear hfz14_1
     try clear hfz19_0
     try clear hfz19_1
     try clear hfz22_0
     try clear hfz22_1
     try clear hfz3_0
     try clear hfz3_1
     try clear hfz3_2
     try clear hfz3_3
     try clear hfz3_4
     try clear hfz3_5
     try clear hx121_0
     try clear hx121_1
     try clear p121
     try clear p2
     try clear q121
     obtain ⟨kq, x6_22, rfl, HA, HJ22, BK120, HB⟩ := hcut
     cases kq with
     | zero => exact absurd HA.out (by simp [flow_Right.j1])
     | succ kj22 =>
      have H := HA.out
      clear HA
      simp only [flow_Right.j1] at H
      by_cases c27 : a0_2 = 0
      ·rw [if_pos c27] at H
       have c27b0 : (a0_2 == 0) = true := beq_iff_eq.mpr c27
       have c27b1 : (a0_2 != 0) = false := bne_eq_false_iff_eq.mpr c27
       clear c27
       replace H := Option.bind_eq_some_iff.mp H
       obtain ⟨t124, A280, H⟩ := H
       replace H : (if t124 = true then ((addr_IsAsked.f a0_1).bind fun t125 => (if t125 = true then (if (l0_5.length : Int) ≤ 128 then (some (a0_4 != 0)) else (some false)) else (some false))) else ((addr_IsAsked.f a0_1).bind fun t126 => (if t126 = true then (if (l0_5.length : Int) ≤ 128 then (some false) else (some false)) else (some false)))) = some r := H
       have A28 := m_ A280
       clear A280
       by_cases c29 : t124 = true
       ·subst c29
        have H1 : ((addr_IsAsked.f a0_1).bind fun t125 => (if t125 = true then (if (l0_5.length : Int) ≤ 128 then (some (a0_4 != 0)) else (some false)) else (some false))) = some r := by rw [if_pos rfl] at H; exact H
        clear H
        have H := H1
        clear H1
        replace H := Option.bind_eq_some_iff.mp H
        obtain ⟨t125, A300, H⟩ := H
        replace H : (if t125 = true then (if (l0_5.length : Int) ≤ 128 then (some (a0_4 != 0)) else (some false)) else (some false)) = some r := H
        have A30 := m_ A300
        clear A300
        by_cases c31 : t125 = true
        ·subst c31
         have H1 : (if (l0_5.length : Int) ≤ 128 then (some (a0_4 != 0)) else (some false)) = some r := by rw [if_pos rfl] at H; exact H
         clear H
         have H := H1
         clear H1
         by_cases c32 : (l0_5.length : Int) ≤ 128
         ·rw [if_pos c32] at H
          have c32b0 : decide ((l0_5.length : Int) ≤ 128) = true := decide_eq_true c32
          have c32b1 : decide (l0_5.length ≤ 128) = true := decide_eq_true (by omega)
          clear c32
          obtain rfl := Option.some.inj H
          have hcz33 := cz6_ BK120.out
          go_wp2_with (first | (go_at_call 43; (with_reducible refine (flow_access.calls a0_3 true _ A28.out).mono ?_); rintro e w' ⟨rfl, ⟨nd, rfl⟩⟩; (try first | exact ⟨rfl, _, World.drewN_drewN _ _ _⟩ | exact ⟨rfl, _, Eq.trans (World.drewN_drewN _ _ _) (congrArg (World.drewN _) (Nat.add_assoc _ _ _))⟩)) | (go_at_call 30; (with_reducible refine (addr_IsAsked.calls a0_1 true _ A30.out).mono ?_); rintro e w' ⟨rfl, ⟨nd, rfl⟩⟩; (try first | exact ⟨rfl, _, World.drewN_drewN _ _ _⟩ | exact ⟨rfl, _, Eq.trans (World.drewN_drewN _ _ _) (congrArg (World.drewN _) (Nat.add_assoc _ _ _))⟩)))
          repeat (go_quiet (first | (go_at_call 43; (with_reducible refine (flow_access.calls a0_3 true _ A28.out).mono ?_); rintro e w' ⟨rfl, ⟨nd, rfl⟩⟩; (try first | exact ⟨rfl, _, World.drewN_drewN _ _ _⟩ | exact ⟨rfl, _, Eq.trans (World.drewN_drewN _ _ _) (congrArg (World.drewN _) (Nat.add_assoc _ _ _))⟩)) | (go_at_call 30; (with_reducible refine (addr_IsAsked.calls a0_1 true _ A30.out).mono ?_); rintro e w' ⟨rfl, ⟨nd, rfl⟩⟩; (try first | exact ⟨rfl, _, World.drewN_drewN _ _ _⟩ | exact ⟨rfl, _, Eq.trans (World.drewN_drewN _ _ _) (congrArg (World.drewN _) (Nat.add_assoc _ _ _))⟩))); try go_wp2_with (first | (go_at_call 43; (with_reducible refine (flow_access.calls a0_3 true _ A28.out).mono ?_); rintro e w' ⟨rfl, ⟨nd, rfl⟩⟩; (try first | exact ⟨rfl, _, World.drewN_drewN _ _ _⟩ | exact ⟨rfl, _, Eq.trans (World.drewN_drewN _ _ _) (congrArg (World.drewN _) (Nat.add_assoc _ _ _))⟩)) | (go_at_call 30; (with_reducible refine (addr_IsAsked.calls a0_1 true _ A30.out).mono ?_); rintro e w' ⟨rfl, ⟨nd, rfl⟩⟩; (try first | exact ⟨rfl, _, World.drewN_drewN _ _ _⟩ | exact ⟨rfl, _, Eq.trans (World.drewN_drewN _ _ _) (congrArg (World.drewN _) (Nat.add_assoc _ _ _))⟩))))
          go_ret
          exact ⟨ew_, bz_⟩
         ·rw [if_neg c32] at H
          have c32b0 : decide ((l0_5.length : Int) ≤ 128) = false := decide_eq_false c32
          have c32b1 : decide (l0_5.length ≤ 128) = false := decide_eq_false (by omega)
          clear c32
          obtain rfl := Option.some.inj H
          have hcz34 := cz6_ BK120.out
          go_wp2_with (first | (go_at_call 43; (with_reducible refine (flow_access.calls a0_3 true _ A28.out).mono ?_); rintro e w' ⟨rfl, ⟨nd, rfl⟩⟩; (try first | exact ⟨rfl, _, World.drewN_drewN _ _ _⟩ | exact ⟨rfl, _, Eq.trans (World.drewN_drewN _ _ _) (congrArg (World.drewN _) (Nat.add_assoc _ _ _))⟩)) | (go_at_call 30; (with_reducible refine (addr_IsAsked.calls a0_1 true _ A30.out).mono ?_); rintro e w' ⟨rfl, ⟨nd, rfl⟩⟩; (try first | exact ⟨rfl, _, World.drewN_drewN _ _ _⟩ | exact ⟨rfl, _, Eq.trans (World.drewN_drewN _ _ _) (congrArg (World.drewN _) (Nat.add_assoc _ _ _))⟩)))
          repeat (go_quiet (first | (go_at_call 43; (with_reducible refine (flow_access.calls a0_3 true _ A28.out).mono ?_); rintro e w' ⟨rfl, ⟨nd, rfl⟩⟩; (try first | exact ⟨rfl, _, World.drewN_drewN _ _ _⟩ | exact ⟨rfl, _, Eq.trans (World.drewN_drewN _ _ _) (congrArg (World.drewN _) (Nat.add_assoc _ _ _))⟩)) | (go_at_call 30; (with_reducible refine (addr_IsAsked.calls a0_1 true _ A30.out).mono ?_); rintro e w' ⟨rfl, ⟨nd, rfl⟩⟩; (try first | exact ⟨rfl, _, World.drewN_drewN _ _ _⟩ | exact ⟨rfl, _, Eq.trans (World.drewN_drewN _ _ _) (congrArg (World.drewN _) (Nat.add_assoc _ _ _))⟩))); try go_wp2_with (first | (go_at_call 43; (with_reducible refine (flow_access.calls a0_3 true _ A28.out).mono ?_); rintro e w' ⟨rfl, ⟨nd, rfl⟩⟩; (try first | exact ⟨rfl, _, World.drewN_drewN _ _ _⟩ | exact ⟨rfl, _, Eq.trans (World.drewN_drewN _ _ _) (congrArg (World.drewN _) (Nat.add_assoc _ _ _))⟩)) | (go_at_call 30; (with_reducible refine (addr_IsAsked.calls a0_1 true _ A30.out).mono ?_); rintro e w' ⟨rfl, ⟨nd, rfl⟩⟩; (try first | exact ⟨rfl, _, World.drewN_drewN _ _ _⟩ | exact ⟨rfl, _, Eq.trans (World.drewN_drewN _ _ _) (congrArg (World.drewN _) (Nat.add_assoc _ _ _))⟩))))
          go_ret
          exact ⟨ew_, bz_⟩
        ·replace c31 := Bool.eq_false_iff.mpr c31
         subst c31
         have H1 : (some false) = some r := by rw [if_neg (show ¬ (false = true) by decide)] at H; exact H
         clear H
         have H := H1
         clear H1
         obtain rfl := Option.some.inj H
         have hcz35 := cz6_ BK120.out
         go_wp2_with (first | (go_at_call 43; (with_reducible refine (flow_access.calls a0_3 true _ A28.out).mono ?_); rintro e w' ⟨rfl, ⟨nd, rfl⟩⟩; (try first | exact ⟨rfl, _, World.drewN_drewN _ _ _⟩ | exact ⟨rfl, _, Eq.trans (World.drewN_drewN _ _ _) (congrArg (World.drewN _) (Nat.add_assoc _ _ _))⟩)) | (go_at_call 30; (with_reducible refine (addr_IsAsked.calls a0_1 false _ A30.out).mono ?_); rintro e w' ⟨rfl, ⟨nd, rfl⟩⟩; (try first | exact ⟨rfl, _, World.drewN_drewN _ _ _⟩ | exact ⟨rfl, _, Eq.trans (World.drewN_drewN _ _ _) (congrArg (World.drewN _) (Nat.add_assoc _ _ _))⟩)))
         repeat (go_quiet (first | (go_at_call 43; (with_reducible refine (flow_access.calls a0_3 true _ A28.out).mono ?_); rintro e w' ⟨rfl, ⟨nd, rfl⟩⟩; (try first | exact ⟨rfl, _, World.drewN_drewN _ _ _⟩ | exact ⟨rfl, _, Eq.trans (World.drewN_drewN _ _ _) (congrArg (World.drewN _) (Nat.add_assoc _ _ _))⟩)) | (go_at_call 30; (with_reducible refine (addr_IsAsked.calls a0_1 false _ A30.out).mono ?_); rintro e w' ⟨rfl, ⟨nd, rfl⟩⟩; (try first | exact ⟨rfl, _, World.drewN_drewN _ _ _⟩ | exact ⟨rfl, _, Eq.trans (World.drewN_drewN _ _ _) (congrArg (World.drewN _) (Nat.add_assoc _ _ _))⟩))); try go_wp2_with (first | (go_at_call 43; (with_reducible refine (flow_access.calls a0_3 true _ A28.out).mono ?_); rintro e w' ⟨rfl, ⟨nd, rfl⟩⟩; (try first | exact ⟨rfl, _, World.drewN_drewN _ _ _⟩ | exact ⟨rfl, _, Eq.trans (World.drewN_drewN _ _ _) (congrArg (World.drewN _) (Nat.add_assoc _ _ _))⟩)) | (go_at_call 30; (with_reducible refine (addr_IsAsked.calls a0_1 false _ A30.out).mono ?_); rintro e w' ⟨rfl, ⟨nd, rfl⟩⟩; (try first | exact ⟨rfl, _, World.drewN_drewN _ _ _⟩ | exact ⟨rfl, _, Eq.trans (World.drewN_drewN _ _ _) (congrArg (World.drewN _) (Nat.add_assoc _ _ _))⟩))))
         go_ret
         exact ⟨ew_, bz_⟩
       ·replace c29 := Bool.eq_false_iff.mpr c29
        subst c29
        have H1 : ((addr_IsAsked.f a0_1).bind fun t126 => (if t126 = true then (if (l0_5.length : Int) ≤ 128 then (some false) else (some false)) else (some false))) = some r := by rw [if_neg (show ¬ (false = true) by decide)] at H; exact H
        clear H
        have H := H1
        clear H1
        replace H := Option.bind_eq_some_iff.mp H
        obtain ⟨t126, A360, H⟩ := H
        replace H : (if t126 = true then (if (l0_5.length : Int) ≤ 128 then (some false) else (some false)) else (some false)) = some r := H
        have A36 := m_ A360
        clear A360
        by_cases c37 : t126 = true
        ·subst c37
         have H1 : (if (l0_5.length : Int) ≤ 128 then (some false) else (some false)) = some r := by rw [if_pos rfl] at H; exact H
         clear H
         have H := H1
         clear H1
         by_cases c38 : (l0_5.length : Int) ≤ 128
         ·rw [if_pos c38] at H
          have c38b0 : decide ((l0_5.length : Int) ≤ 128) = true := decide_eq_true c38
          have c38b1 : decide (l0_5.length ≤ 128) = true := decide_eq_true (by omega)
          clear c38
          obtain rfl := Option.some.inj H
          have hcz39 := cz6_ BK120.out
          go_wp2_with (first | (go_at_call 43; (with_reducible refine (flow_access.calls a0_3 false _ A28.out).mono ?_); rintro e w' ⟨rfl, ⟨nd, rfl⟩⟩; (try first | exact ⟨rfl, _, World.drewN_drewN _ _ _⟩ | exact ⟨rfl, _, Eq.trans (World.drewN_drewN _ _ _) (congrArg (World.drewN _) (Nat.add_assoc _ _ _))⟩)) | (go_at_call 30; (with_reducible refine (addr_IsAsked.calls a0_1 true _ A36.out).mono ?_); rintro e w' ⟨rfl, ⟨nd, rfl⟩⟩; (try first | exact ⟨rfl, _, World.drewN_drewN _ _ _⟩ | exact ⟨rfl, _, Eq.trans (World.drewN_drewN _ _ _) (congrArg (World.drewN _) (Nat.add_assoc _ _ _))⟩)))
          repeat (go_quiet (first | (go_at_call 43; (with_reducible refine (flow_access.calls a0_3 false _ A28.out).mono ?_); rintro e w' ⟨rfl, ⟨nd, rfl⟩⟩; (try first | exact ⟨rfl, _, World.drewN_drewN _ _ _⟩ | exact ⟨rfl, _, Eq.trans (World.drewN_drewN _ _ _) (congrArg (World.drewN _) (Nat.add_assoc _ _ _))⟩)) | (go_at_call 30; (with_reducible refine (addr_IsAsked.calls a0_1 true _ A36.out).mono ?_); rintro e w' ⟨rfl, ⟨nd, rfl⟩⟩; (try first | exact ⟨rfl, _, World.drewN_drewN _ _ _⟩ | exact ⟨rfl, _, Eq.trans (World.drewN_drewN _ _ _) (congrArg (World.drewN _) (Nat.add_assoc _ _ _))⟩))); try go_wp2_with (first | (go_at_call 43; (with_reducible refine (flow_access.calls a0_3 false _ A28.out).mono ?_); rintro e w' ⟨rfl, ⟨nd, rfl⟩⟩; (try first | exact ⟨rfl, _, World.drewN_drewN _ _ _⟩ | exact ⟨rfl, _, Eq.trans (World.drewN_drewN _ _ _) (congrArg (World.drewN _) (Nat.add_assoc _ _ _))⟩)) | (go_at_call 30; (with_reducible refine (addr_IsAsked.calls a0_1 true _ A36.out).mono ?_); rintro e w' ⟨rfl, ⟨nd, rfl⟩⟩; (try first | exact ⟨rfl, _, World.drewN_drewN _ _ _⟩ | exact ⟨rfl, _, Eq.trans (World.drewN_drewN _ _ _) (congrArg (World.drewN _) (Nat.add_assoc _ _ _))⟩))))
          go_ret
          exact ⟨ew_, bz_⟩
         ·rw [if_neg c38] at H
          have c38b0 : decide ((l0_5.length : Int) ≤ 128) = false := decide_eq_false c38
          have c38b1 : decide (l0_5.length ≤ 128) = false := decide_eq_false (by omega)
          clear c38
          obtain rfl := Option.some.inj H
          have hcz40 := cz6_ BK120.out
          go_wp2_with (first | (go_at_call 43; (with_reducible refine (flow_access.calls a0_3 false _ A28.out).mono ?_); rintro e w' ⟨rfl, ⟨nd, rfl⟩⟩; (try first | exact ⟨rfl, _, World.drewN_drewN _ _ _⟩ | exact ⟨rfl, _, Eq.trans (World.drewN_drewN _ _ _) (congrArg (World.drewN _) (Nat.add_assoc _ _ _))⟩)) | (go_at_call 30; (with_reducible refine (addr_IsAsked.calls a0_1 true _ A36.out).mono ?_); rintro e w' ⟨rfl, ⟨nd, rfl⟩⟩; (try first | exact ⟨rfl, _, World.drewN_drewN _ _ _⟩ | exact ⟨rfl, _, Eq.trans (World.drewN_drewN _ _ _) (congrArg (World.drewN _) (Nat.add_assoc _ _ _))⟩)))
          repeat (go_quiet (first | (go_at_call 43; (with_reducible refine (flow_access.calls a0_3 false _ A28.out).mono ?_); rintro e w' ⟨rfl, ⟨nd, rfl⟩⟩; (try first | exact ⟨rfl, _, World.drewN_drewN _ _ _⟩ | exact ⟨rfl, _, Eq.trans (World.drewN_drewN _ _ _) (congrArg (World.drewN _) (Nat.add_assoc _ _ _))⟩)) | (go_at_call 30; (with_reducible refine (addr_IsAsked.calls a0_1 true _ A36.out).mono ?_); rintro e w' ⟨rfl, ⟨nd, rfl⟩⟩; (try first | exact ⟨rfl, _, World.drewN_drewN _ _ _⟩ | exact ⟨rfl, _, Eq.trans (World.drewN_drewN _ _ _) (congrArg (World.drewN _) (Nat.add_assoc _ _ _))⟩))); try go_wp2_with (first | (go_at_call 43; (with_reducible refine (flow_access.calls a0_3 false _ A28.out).mono ?_); rintro e w' ⟨rfl, ⟨nd, rfl⟩⟩; (try first | exact ⟨rfl, _, World.drewN_drewN _ _ _⟩ | exact ⟨rfl, _, Eq.trans (World.drewN_drewN _ _ _) (congrArg (World.drewN _) (Nat.add_assoc _ _ _))⟩)) | (go_at_call 30; (with_reducible refine (addr_IsAsked.calls a0_1 true _ A36.out).mono ?_); rintro e w' ⟨rfl, ⟨nd, rfl⟩⟩; (try first | exact ⟨rfl, _, World.drewN_drewN _ _ _⟩ | exact ⟨rfl, _, Eq.trans (World.drewN_drewN _ _ _) (congrArg (World.drewN _) (Nat.add_assoc _ _ _))⟩))))
          go_ret
          exact ⟨ew_, bz_⟩
        ·replace c37 := Bool.eq_false_iff.mpr c37
         subst c37
         have H1 : (some false) = some r := by rw [if_neg (show ¬ (false = true) by decide)] at H; exact H
         clear H
         have H := H1
         clear H1
         obtain rfl := Option.some.inj H
         have hcz41 := cz6_ BK120.out
         go_wp2_with (first | (go_at_call 43; (with_reducible refine (flow_access.calls a0_3 false _ A28.out).mono ?_); rintro e w' ⟨rfl, ⟨nd, rfl⟩⟩; (try first | exact ⟨rfl, _, World.drewN_drewN _ _ _⟩ | exact ⟨rfl, _, Eq.trans (World.drewN_drewN _ _ _) (congrArg (World.drewN _) (Nat.add_assoc _ _ _))⟩)) | (go_at_call 30; (with_reducible refine (addr_IsAsked.calls a0_1 false _ A36.out).mono ?_); rintro e w' ⟨rfl, ⟨nd, rfl⟩⟩; (try first | exact ⟨rfl, _, World.drewN_drewN _ _ _⟩ | exact ⟨rfl, _, Eq.trans (World.drewN_drewN _ _ _) (congrArg (World.drewN _) (Nat.add_assoc _ _ _))⟩)))
         repeat (go_quiet (first | (go_at_call 43; (with_reducible refine (flow_access.calls a0_3 false _ A28.out).mono ?_); rintro e w' ⟨rfl, ⟨nd, rfl⟩⟩; (try first | exact ⟨rfl, _, World.drewN_drewN _ _ _⟩ | exact ⟨rfl, _, Eq.trans (World.drewN_drewN _ _ _) (congrArg (World.drewN _) (Nat.add_assoc _ _ _))⟩)) | (go_at_call 30; (with_reducible refine (addr_IsAsked.calls a0_1 false _ A36.out).mono ?_); rintro e w' ⟨rfl, ⟨nd, rfl⟩⟩; (try first | exact ⟨rfl, _, World.drewN_drewN _ _ _⟩ | exact ⟨rfl, _, Eq.trans (World.drewN_drewN _ _ _) (congrArg (World.drewN _) (Nat.add_assoc _ _ _))⟩))); try go_wp2_with (first | (go_at_call 43; (with_reducible refine (flow_access.calls a0_3 false _ A28.out).mono ?_); rintro e w' ⟨rfl, ⟨nd, rfl⟩⟩; (try first | exact ⟨rfl, _, World.drewN_drewN _ _ _⟩ | exact ⟨rfl, _, Eq.trans (World.drewN_drewN _ _ _) (congrArg (World.drewN _) (Nat.add_assoc _ _ _))⟩)) | (go_at_call 30; (with_reducible refine (addr_IsAsked.calls a0_1 false _ A36.out).mono ?_); rintro e w' ⟨rfl, ⟨nd, rfl⟩⟩; (try first | exact ⟨rfl, _, World.drewN_drewN _ _ _⟩ | exact ⟨rfl, _, Eq.trans (World.drewN_drewN _ _ _) (congrArg (World.drewN _) (Nat.add_assoc _ _ _))⟩))))
         go_ret
         exact ⟨ew_, bz_⟩
      ·rw [if_neg c27] at H
       have c27b0 : (a0_2 == 0) = false := beq_eq_false_iff_ne.mpr c27
       have c27b1 : (a0_2 != 0) = true := bne_iff_ne.mpr c27
       replace H := Option.bind_eq_some_iff.mp H
       obtain ⟨t127, A420, H⟩ := H
       replace H : (if t127 = true then (if (l0_5.length : Int) ≤ 128 then (some x6_22) else (some false)) else (some false)) = some r := H
       have A42 := m_ A420
       clear A420
       by_cases c43 : t127 = true
       ·subst c43
        have H1 : (if (l0_5.length : Int) ≤ 128 then (some x6_22) else (some false)) = some r := by rw [if_pos rfl] at H; exact H
        clear H
        have H := H1
        clear H1
        by_cases c44 : (l0_5.length : Int) ≤ 128
        ·rw [if_pos c44] at H
         have c44b0 : decide ((l0_5.length : Int) ≤ 128) = true := decide_eq_true c44
         have c44b1 : decide (l0_5.length ≤ 128) = true := decide_eq_true (by omega)
         clear c44
         obtain rfl := Option.some.inj H
         have hcz45 := cz6_ BK120.out
         go_wp2_with (first | (go_at_call 30; (with_reducible refine (addr_IsAsked.calls a0_1 true _ A42.out).mono ?_); rintro e w' ⟨rfl, ⟨nd, rfl⟩⟩; (try first | exact ⟨rfl, _, World.drewN_drewN _ _ _⟩ | exact ⟨rfl, _, Eq.trans (World.drewN_drewN _ _ _) (congrArg (World.drewN _) (Nat.add_assoc _ _ _))⟩)))
         repeat (go_quiet (first | (go_at_call 30; (with_reducible refine (addr_IsAsked.calls a0_1 true _ A42.out).mono ?_); rintro e w' ⟨rfl, ⟨nd, rfl⟩⟩; (try first | exact ⟨rfl, _, World.drewN_drewN _ _ _⟩ | exact ⟨rfl, _, Eq.trans (World.drewN_drewN _ _ _) (congrArg (World.drewN _) (Nat.add_assoc _ _ _))⟩))); try go_wp2_with (first | (go_at_call 30; (with_reducible refine (addr_IsAsked.calls a0_1 true _ A42.out).mono ?_); rintro e w' ⟨rfl, ⟨nd, rfl⟩⟩; (try first | exact ⟨rfl, _, World.drewN_drewN _ _ _⟩ | exact ⟨rfl, _, Eq.trans (World.drewN_drewN _ _ _) (congrArg (World.drewN _) (Nat.add_assoc _ _ _))⟩))))
         go_ret
         exact ⟨ew_, bz_⟩
        ·rw [if_neg c44] at H
         have c44b0 : decide ((l0_5.length : Int) ≤ 128) = false := decide_eq_false c44
         have c44b1 : decide (l0_5.length ≤ 128) = false := decide_eq_false (by omega)
         clear c44
         obtain rfl := Option.some.inj H
         have hcz46 := cz6_ BK120.out
         go_wp2_with (first | (go_at_call 30; (with_reducible refine (addr_IsAsked.calls a0_1 true _ A42.out).mono ?_); rintro e w' ⟨rfl, ⟨nd, rfl⟩⟩; (try first | exact ⟨rfl, _, World.drewN_drewN _ _ _⟩ | exact ⟨rfl, _, Eq.trans (World.drewN_drewN _ _ _) (congrArg (World.drewN _) (Nat.add_assoc _ _ _))⟩)))
         repeat (go_quiet (first | (go_at_call 30; (with_reducible refine (addr_IsAsked.calls a0_1 true _ A42.out).mono ?_); rintro e w' ⟨rfl, ⟨nd, rfl⟩⟩; (try first | exact ⟨rfl, _, World.drewN_drewN _ _ _⟩ | exact ⟨rfl, _, Eq.trans (World.drewN_drewN _ _ _) (congrArg (World.drewN _) (Nat.add_assoc _ _ _))⟩))); try go_wp2_with (first | (go_at_call 30; (with_reducible refine (addr_IsAsked.calls a0_1 true _ A42.out).mono ?_); rintro e w' ⟨rfl, ⟨nd, rfl⟩⟩; (try first | exact ⟨rfl, _, World.drewN_drewN _ _ _⟩ | exact ⟨rfl, _, Eq.trans (World.drewN_drewN _ _ _) (congrArg (World.drewN _) (Nat.add_assoc _ _ _))⟩))))
         go_ret
         exact ⟨ew_, bz_⟩
       ·replace c43 := Bool.eq_false_iff.mpr c43
        subst c43
        have H1 : (some false) = some r := by rw [if_neg (show ¬ (false = true) by decide)] at H; exact H
        clear H
        have H := H1
        clear H1
        obtain rfl := Option.some.inj H
        have hcz47 := cz6_ BK120.out
        go_wp2_with (first | (go_at_call 30; (with_reducible refine (addr_IsAsked.calls a0_1 false _ A42.out).mono ?_); rintro e w' ⟨rfl, ⟨nd, rfl⟩⟩; (try first | exact ⟨rfl, _, World.drewN_drewN _ _ _⟩ | exact ⟨rfl, _, Eq.trans (World.drewN_drewN _ _ _) (congrArg (World.drewN _) (Nat.add_assoc _ _ _))⟩)))
        repeat (go_quiet (first | (go_at_call 30; (with_reducible refine (addr_IsAsked.calls a0_1 false _ A42.out).mono ?_); rintro e w' ⟨rfl, ⟨nd, rfl⟩⟩; (try first | exact ⟨rfl, _, World.drewN_drewN _ _ _⟩ | exact ⟨rfl, _, Eq.trans (World.drewN_drewN _ _ _) (congrArg (World.drewN _) (Nat.add_assoc _ _ _))⟩))); try go_wp2_with (first | (go_at_call 30; (with_reducible refine (addr_IsAsked.calls a0_1 false _ A42.out).mono ?_); rintro e w' ⟨rfl, ⟨nd, rfl⟩⟩; (try first | exact ⟨rfl, _, World.drewN_drewN _ _ _⟩ | exact ⟨rfl, _, Eq.trans (World.drewN_drewN _ _ _) (congrArg (World.drewN _) (Nat.add_assoc _ _ _))⟩))))
        go_ret
        exact ⟨ew_, bz_⟩
end Go.Proofs.Ytboonfidioombaa.P

/- For each Go function a Lean function, and the proof that a call comes to what it tells: made by program out of the translation (the kit's print, with texts by hand put in). No condition. -/
import Derived.Test.YtfomnmdjbdohgaaSq
import Derived.Test.YtfomnmdjbdohgaaPx0
import Derived.Test.YtfomnmdjbdohgaaPx3
namespace Go.Proofs.Ytfomnmdjbdohgaa.P
open Go.RowKit Go.Proofs.Ytfomnmdjbdohgaa.HRows Go.Proofs.YtfomnmdjbdohgaaW.PrintWords Go.Proofs.YtfomnmdjbdohgaaW.PrintLast Go.Proofs.YtfomnmdjbdohgaaW.PrintMore
attribute [local go_sem] max2_int min2_int max_two min_two max_three min_three max_four min_four
set_option linter.unusedVariables false
set_option linter.unusedSimpArgs false
mutual
def flow_Right.l0 : Nat → Int → List (S74) → Int → Int → Int → Int → Int → Int → Int → List (S74) → Option (Bool)
 | 0, _, _, _, _, _, _, _, _, _, _ => none
 | k + 1, x3, x8, x9, x10, x104000, x104001, x104002, x104003, x104004, x104005 => if x10 < x9 then (if 0 ≤ x10 then (if x10 < (x8.length : Int) then (if ((rd_T74 x8 x10).f0) ≤ x3 then (some false) else (if ((rd_T74 x8 x10).f0) ≥ 128 then (some false) else ((flow_access.f ((rd_T74 x8 x10).f0)).bind fun t106 => (if (((rd_T74 x8 x10).f1) != t106) = true then (some false) else (flow_Right.l0 k ((rd_T74 x8 x10).f0) x8 x9 (wrap64 (x10 + 1)) x104000 x104001 x104002 x104003 x104004 x104005))))) else (none)) else (none)) else (if x104003 = (-1) then (flow_Right.j1 k (x104004 == 0) x104000 x104001 x104002 x104003 x104004 x104005) else (flow_Right.j1 k false x104000 x104001 x104002 x104003 x104004 x104005))
def flow_Right.j1 : Nat → Bool → Int → Int → Int → Int → Int → List (S74) → Option (Bool)
 | 0, _, _, _, _, _, _, _ => none
 | k + 1, x6, x104000, x104001, x104002, x104003, x104004, x104005 => if x104002 = 0 then ((flow_access.f x104003).bind fun t107 => (if t107 = true then ((addr_IsAsked.f x104001).bind fun t108 => (if t108 = true then (if (x104005.length : Int) ≤ 128 then (some (x104004 != 0)) else (some false)) else (some false))) else ((addr_IsAsked.f x104001).bind fun t109 => (if t109 = true then (if (x104005.length : Int) ≤ 128 then (some false) else (some false)) else (some false))))) else ((addr_IsAsked.f x104001).bind fun t110 => (if t110 = true then (if (x104005.length : Int) ≤ 128 then (some x6) else (some false)) else (some false)))
end
def flow_Right.f (k : Nat) (a0_0 : Int) (a0_1 : Int) (a0_2 : Int) (a0_3 : Int) (a0_4 : Int) (l0_5 : List (S74)) : Option (Bool) := flow_Right.l0 k (-1) l0_5 (l0_5.length : Int) 0 a0_0 a0_1 a0_2 a0_3 a0_4 l0_5
theorem flow_Right.mono_l : ∀ k, (∀ y0 y1 y2 y3 y4 y5 y6 y7 y8 y9, LeO (flow_Right.l0 k y0 y1 y2 y3 y4 y5 y6 y7 y8 y9) (flow_Right.l0 (k + 1) y0 y1 y2 y3 y4 y5 y6 y7 y8 y9)) ∧ (∀ y0 y1 y2 y3 y4 y5 y6, LeO (flow_Right.j1 k y0 y1 y2 y3 y4 y5 y6) (flow_Right.j1 (k + 1) y0 y1 y2 y3 y4 y5 y6))
 | 0 => ⟨fun _ _ _ _ _ _ _ _ _ _ r h => by simp [flow_Right.l0] at h, fun _ _ _ _ _ _ _ r h => by simp [flow_Right.j1] at h⟩
 | k + 1 => by
  obtain ⟨ih0, ih1⟩ := flow_Right.mono_l k
  refine ⟨?_, ?_⟩
  ·intro y0 y1 y2 y3 y4 y5 y6 y7 y8 y9
   unfold flow_Right.l0
   repeat' first
   | (with_reducible exact ih0 _ _ _ _ _ _ _ _ _ _)
   | (with_reducible exact ih1 _ _ _ _ _ _ _)
   | (with_reducible exact LeO.refl _)
   | (with_reducible exact LeO.none _)
   | (with_reducible refine LeO.ite ?_ ?_)
   | (with_reducible refine LeO.bind ?_ (fun _ => ?_))
   | exact ih0 _ _ _ _ _ _ _ _ _ _
   | exact ih1 _ _ _ _ _ _ _
   | exact LeO.none _
   | refine LeO.ite ?_ ?_
   | refine LeO.bind ?_ (fun _ => ?_)
  ·intro y0 y1 y2 y3 y4 y5 y6
   unfold flow_Right.j1
   repeat' first
   | (with_reducible exact ih0 _ _ _ _ _ _ _ _ _ _)
   | (with_reducible exact ih1 _ _ _ _ _ _ _)
   | (with_reducible exact LeO.refl _)
   | (with_reducible exact LeO.none _)
   | (with_reducible refine LeO.ite ?_ ?_)
   | (with_reducible refine LeO.bind ?_ (fun _ => ?_))
   | exact ih0 _ _ _ _ _ _ _ _ _ _
   | exact ih1 _ _ _ _ _ _ _
   | exact LeO.none _
   | refine LeO.ite ?_ ?_
   | refine LeO.bind ?_ (fun _ => ?_)
theorem flow_Right.mono : ∀ a0 a1 a2 a3 a4 a5 k, LeO (flow_Right.f k a0 a1 a2 a3 a4 a5) (flow_Right.f (k + 1) a0 a1 a2 a3 a4 a5) := by
 intro a0 a1 a2 a3 a4 a5 k
 obtain ⟨ih0, ih1⟩ := flow_Right.mono_l k
 unfold flow_Right.f
 repeat' first
   | (with_reducible exact ih0 _ _ _ _ _ _ _ _ _ _)
   | (with_reducible exact ih1 _ _ _ _ _ _ _)
   | (with_reducible exact LeO.refl _)
   | (with_reducible exact LeO.none _)
   | (with_reducible refine LeO.ite ?_ ?_)
   | (with_reducible refine LeO.bind ?_ (fun _ => ?_))
   | exact ih0 _ _ _ _ _ _ _ _ _ _
   | exact ih1 _ _ _ _ _ _ _
   | exact LeO.none _
   | refine LeO.ite ?_ ?_
   | refine LeO.bind ?_ (fun _ => ?_)
set_option maxHeartbeats 8000000 in
set_option maxRecDepth 100000 in
theorem flow_Right.calls (k : Nat) (a0_0 : Int) (a0_1 : Int) (a0_2 : Int) (a0_3 : Int) (a0_4 : Int) (A0_5 : Option Addr) (c0_5 : Nat) (l0_5 : List (S74)) (r : Bool) (w : World) (hr0_5 : Kd.C k74 w A0_5 l0_5.length l0_5) (hc0_5 : l0_5.length ≤ c0_5) (h : flow_Right.f k a0_0 a0_1 a0_2 a0_3 a0_4 l0_5 = some r) :
  Calls Try.prog 45 #[.agg #[.int .u32 a0_0, .int .u32 a0_1, .int .u32 a0_2, .int .i64 a0_3, .int .u32 a0_4, .slice A0_5 l0_5.length c0_5]] w fun e w' => e = .returned (.bool r) ∧ Below w.heap.size w w' := by
 have hu29 := Try.underlying29
 have hu74 := Try.underlying74
 have HR0_5 := m_ hr0_5
 have HC0_5 := m_ hc0_5
 clear hr0_5 hc0_5
 have HB := m_ (Below.refl w.heap.size w)
 have H : (flow_Right.l0 k (-1) l0_5 (l0_5.length : Int) 0 a0_0 a0_1 a0_2 a0_3 a0_4 l0_5) = some r := h
 clear h
 have H' := m_ H
 clear H
 go_enter Try.func45, Try.ntmps45
 go_wp2_with (first | ((with_reducible refine gate_dst (N := 1) rfl ?_); (try (refine gate_guard (by rfl) ?_; dsimp only)); refine bx_ 1 29 #[.int .u32 a0_0, .int .u32 a0_1, .int .u32 a0_2, .int .i64 a0_3, .int .u32 a0_4, .slice A0_5 l0_5.length c0_5] ?_; intro gb103 hg w2 hbox hb; have BK103 := m_ (hbox); have GW103 := m_ ((gw_ : w.heap.size ≤ gb103)); have GE103 := m_ ((gw_ : w.heap.size ≤ gb103)); replace HB := m_ (below_step bz_ hb); clear hb hbox hg; have hcz3_0 : w2.cell? ⟨gb103, 0, none⟩ = some (.int .u32 a0_0) := (blk_cell BK103.out 0).trans rfl; have hcz3_1 : w2.cell? ⟨gb103, 1, none⟩ = some (.int .u32 a0_1) := (blk_cell BK103.out 1).trans rfl; have hcz3_2 : w2.cell? ⟨gb103, 2, none⟩ = some (.int .u32 a0_2) := (blk_cell BK103.out 2).trans rfl; have hcz3_3 : w2.cell? ⟨gb103, 3, none⟩ = some (.int .i64 a0_3) := (blk_cell BK103.out 3).trans rfl; have hcz3_4 : w2.cell? ⟨gb103, 4, none⟩ = some (.int .u32 a0_4) := (blk_cell BK103.out 4).trans rfl; have hcz3_5 : w2.cell? ⟨gb103, 5, none⟩ = some (.slice A0_5 l0_5.length c0_5) := (blk_cell BK103.out 5).trans rfl; have hfz3_0 := blk_frozen BK103.out 0; have hfz3_1 := blk_frozen BK103.out 1; have hfz3_2 := blk_frozen BK103.out 2; have hfz3_3 := blk_frozen BK103.out 3; have hfz3_4 := blk_frozen BK103.out 4; have hfz3_5 := blk_frozen BK103.out 5))
 repeat (go_quiet (first | ((with_reducible refine gate_dst (N := 1) rfl ?_); (try (refine gate_guard (by rfl) ?_; dsimp only)); refine bx_ 1 29 #[.int .u32 a0_0, .int .u32 a0_1, .int .u32 a0_2, .int .i64 a0_3, .int .u32 a0_4, .slice A0_5 l0_5.length c0_5] ?_; intro gb103 hg w2 hbox hb; have BK103 := m_ (hbox); have GW103 := m_ ((gw_ : w.heap.size ≤ gb103)); have GE103 := m_ ((gw_ : w.heap.size ≤ gb103)); replace HB := m_ (below_step bz_ hb); clear hb hbox hg; have hcz3_0 : w2.cell? ⟨gb103, 0, none⟩ = some (.int .u32 a0_0) := (blk_cell BK103.out 0).trans rfl; have hcz3_1 : w2.cell? ⟨gb103, 1, none⟩ = some (.int .u32 a0_1) := (blk_cell BK103.out 1).trans rfl; have hcz3_2 : w2.cell? ⟨gb103, 2, none⟩ = some (.int .u32 a0_2) := (blk_cell BK103.out 2).trans rfl; have hcz3_3 : w2.cell? ⟨gb103, 3, none⟩ = some (.int .i64 a0_3) := (blk_cell BK103.out 3).trans rfl; have hcz3_4 : w2.cell? ⟨gb103, 4, none⟩ = some (.int .u32 a0_4) := (blk_cell BK103.out 4).trans rfl; have hcz3_5 : w2.cell? ⟨gb103, 5, none⟩ = some (.slice A0_5 l0_5.length c0_5) := (blk_cell BK103.out 5).trans rfl; have hfz3_0 := blk_frozen BK103.out 0; have hfz3_1 := blk_frozen BK103.out 1; have hfz3_2 := blk_frozen BK103.out 2; have hfz3_3 := blk_frozen BK103.out 3; have hfz3_4 := blk_frozen BK103.out 4; have hfz3_5 := blk_frozen BK103.out 5)); try go_wp2_with (first | ((with_reducible refine gate_dst (N := 1) rfl ?_); (try (refine gate_guard (by rfl) ?_; dsimp only)); refine bx_ 1 29 #[.int .u32 a0_0, .int .u32 a0_1, .int .u32 a0_2, .int .i64 a0_3, .int .u32 a0_4, .slice A0_5 l0_5.length c0_5] ?_; intro gb103 hg w2 hbox hb; have BK103 := m_ (hbox); have GW103 := m_ ((gw_ : w.heap.size ≤ gb103)); have GE103 := m_ ((gw_ : w.heap.size ≤ gb103)); replace HB := m_ (below_step bz_ hb); clear hb hbox hg; have hcz3_0 : w2.cell? ⟨gb103, 0, none⟩ = some (.int .u32 a0_0) := (blk_cell BK103.out 0).trans rfl; have hcz3_1 : w2.cell? ⟨gb103, 1, none⟩ = some (.int .u32 a0_1) := (blk_cell BK103.out 1).trans rfl; have hcz3_2 : w2.cell? ⟨gb103, 2, none⟩ = some (.int .u32 a0_2) := (blk_cell BK103.out 2).trans rfl; have hcz3_3 : w2.cell? ⟨gb103, 3, none⟩ = some (.int .i64 a0_3) := (blk_cell BK103.out 3).trans rfl; have hcz3_4 : w2.cell? ⟨gb103, 4, none⟩ = some (.int .u32 a0_4) := (blk_cell BK103.out 4).trans rfl; have hcz3_5 : w2.cell? ⟨gb103, 5, none⟩ = some (.slice A0_5 l0_5.length c0_5) := (blk_cell BK103.out 5).trans rfl; have hfz3_0 := blk_frozen BK103.out 0; have hfz3_1 := blk_frozen BK103.out 1; have hfz3_2 := blk_frozen BK103.out 2; have hfz3_3 := blk_frozen BK103.out 3; have hfz3_4 := blk_frozen BK103.out 4; have hfz3_5 := blk_frozen BK103.out 5)))
 go_loopg [3, 10] k (fun kq v3 v10 w' => ∃ (x3_1 : Int) (x10_1 : Int), v3 = .int .i64 x3_1 ∧ v10 = .int .i64 x10_1 ∧ Aside0 (flow_Right.l0 kq x3_1 l0_5 (l0_5.length : Int) x10_1 a0_0 a0_1 a0_2 a0_3 a0_4 l0_5 = some r) ∧ Aside0 (kq ≤ k) ∧ Aside0 (w'.heap[gb103]? = some (.cells #[.int .u32 a0_0, .int .u32 a0_1, .int .u32 a0_2, .int .i64 a0_3, .int .u32 a0_4, (.slice A0_5 l0_5.length c0_5)] 29 (0, 0))) ∧ Aside0 (Below w.heap.size w w'))
 case atStart => exact ⟨((-1)), (0), (by first | rfl | (simp; done) | (simp [*]; done)), (by first | rfl | (simp; done) | (simp [*]; done)), H', ⟨Nat.le_refl _⟩, ⟨kz_⟩, ⟨bz_⟩⟩
 case round =>
  clear H'
  try clear p2
  try clear hcz3_0
  try clear hcz3_1
  try clear hcz3_2
  try clear hcz3_3
  try clear hcz3_4
  try clear hcz3_5
  try clear hfz3_0
  try clear hfz3_1
  try clear hfz3_2
  try clear hfz3_3
  try clear hfz3_4
  try clear hfz3_5
  obtain ⟨x3_1, x10_1, rfl, rfl, HA, HK1, BK103, HB⟩ := hrel
  cases gk with
  | zero => exact absurd HA.out (by simp [flow_Right.l0])
  | succ k1 =>
   have H := HA.out
   clear HA
   simp only [flow_Right.l0] at H
   by_cases c4 : x10_1 < (l0_5.length : Int)
   ·rw [if_pos c4] at H
    have c4b0 : decide (x10_1 < (l0_5.length : Int)) = true := decide_eq_true c4
    clear c4
    by_cases c5 : 0 ≤ x10_1
    ·rw [if_pos c5] at H
     have c5b0 : decide (0 ≤ x10_1) = true := decide_eq_true c5
     clear c5
     by_cases c6 : x10_1 < (l0_5.length : Int)
     ·rw [if_pos c6] at H
      have c6b0 : decide (x10_1 < (l0_5.length : Int)) = true := decide_eq_true c6
      clear c6
      by_cases c7 : ((rd_T74 l0_5 x10_1).f0) ≤ x3_1
      ·rw [if_pos c7] at H
       have c7b0 : decide (((rd_T74 l0_5 x10_1).f0) ≤ x3_1) = true := decide_eq_true c7
       clear c7
       obtain rfl := Option.some.inj H
       have p104 : 0 ≤ (x10_1 : Int) := od_
       have q104 : x10_1 < (l0_5.length : Int) := od_
       obtain ⟨ad104, e104, hx104_0, hx104_1⟩ := at_T74 HR0_5.out x10_1 p104 q104
       cases e104
       replace hx104_0 := kp_ HB.out hx104_0
       replace hx104_1 := kp_ HB.out hx104_1
       replace p104 := eq_true p104
       replace q104 := eq_true q104
       go_wp2_with (first | ((with_reducible refine gate_dst (N := 5) rfl ?_); (try (refine gate_guard (by rfl) ?_; dsimp only)); refine bx_ 5 74 #[.int .i64 0, .bool false] ?_; intro gb105 hg w8 hbox hb; have BK105 := m_ (hbox); have GW105 := m_ ((gw_ : w.heap.size ≤ gb105)); have GE105 := m_ ((gw_ : w.heap.size ≤ gb105)); have NB103_105 := m_ ((gl_ : gb103 ≠ gb105)); have NB105_103 := m_ ((gr_ : gb105 ≠ gb103)); replace BK103 := m_ (kl_ gb103 hb); replace HB := m_ (below_step bz_ hb); clear hb hbox hg; have hnb9 := NB105_103.out; have hnc9 := NB103_105.out; have hcz10_0 : w8.cell? ⟨gb105, 0, none⟩ = some (.int .i64 0) := (blk_cell BK105.out 0).trans rfl; have hcz10_1 : w8.cell? ⟨gb105, 1, none⟩ = some (.bool false) := (blk_cell BK105.out 1).trans rfl; have hfz10_0 := blk_frozen BK105.out 0; have hfz10_1 := blk_frozen BK105.out 1))
       repeat (go_quiet (first | ((with_reducible refine gate_dst (N := 5) rfl ?_); (try (refine gate_guard (by rfl) ?_; dsimp only)); refine bx_ 5 74 #[.int .i64 0, .bool false] ?_; intro gb105 hg w8 hbox hb; have BK105 := m_ (hbox); have GW105 := m_ ((gw_ : w.heap.size ≤ gb105)); have GE105 := m_ ((gw_ : w.heap.size ≤ gb105)); have NB103_105 := m_ ((gl_ : gb103 ≠ gb105)); have NB105_103 := m_ ((gr_ : gb105 ≠ gb103)); replace BK103 := m_ (kl_ gb103 hb); replace HB := m_ (below_step bz_ hb); clear hb hbox hg; have hnb9 := NB105_103.out; have hnc9 := NB103_105.out; have hcz10_0 : w8.cell? ⟨gb105, 0, none⟩ = some (.int .i64 0) := (blk_cell BK105.out 0).trans rfl; have hcz10_1 : w8.cell? ⟨gb105, 1, none⟩ = some (.bool false) := (blk_cell BK105.out 1).trans rfl; have hfz10_0 := blk_frozen BK105.out 0; have hfz10_1 := blk_frozen BK105.out 1)); try go_wp2_with (first | ((with_reducible refine gate_dst (N := 5) rfl ?_); (try (refine gate_guard (by rfl) ?_; dsimp only)); refine bx_ 5 74 #[.int .i64 0, .bool false] ?_; intro gb105 hg w8 hbox hb; have BK105 := m_ (hbox); have GW105 := m_ ((gw_ : w.heap.size ≤ gb105)); have GE105 := m_ ((gw_ : w.heap.size ≤ gb105)); have NB103_105 := m_ ((gl_ : gb103 ≠ gb105)); have NB105_103 := m_ ((gr_ : gb105 ≠ gb103)); replace BK103 := m_ (kl_ gb103 hb); replace HB := m_ (below_step bz_ hb); clear hb hbox hg; have hnb9 := NB105_103.out; have hnc9 := NB103_105.out; have hcz10_0 : w8.cell? ⟨gb105, 0, none⟩ = some (.int .i64 0) := (blk_cell BK105.out 0).trans rfl; have hcz10_1 : w8.cell? ⟨gb105, 1, none⟩ = some (.bool false) := (blk_cell BK105.out 1).trans rfl; have hfz10_0 := blk_frozen BK105.out 0; have hfz10_1 := blk_frozen BK105.out 1)))
       go_ret
       exact ⟨ew_, bz_⟩
      ·rw [if_neg c7] at H
       have c7b0 : decide (((rd_T74 l0_5 x10_1).f0) ≤ x3_1) = false := decide_eq_false c7
       clear c7
       by_cases c11 : ((rd_T74 l0_5 x10_1).f0) ≥ 128
       ·rw [if_pos c11] at H
        have c11b0 : decide (128 ≤ ((rd_T74 l0_5 x10_1).f0)) = true := decide_eq_true c11
        clear c11
        obtain rfl := Option.some.inj H
        have p104 : 0 ≤ (x10_1 : Int) := od_
        have q104 : x10_1 < (l0_5.length : Int) := od_
        obtain ⟨ad104, e104, hx104_0, hx104_1⟩ := at_T74 HR0_5.out x10_1 p104 q104
        cases e104
        replace hx104_0 := kp_ HB.out hx104_0
        replace hx104_1 := kp_ HB.out hx104_1
        replace p104 := eq_true p104
        replace q104 := eq_true q104
        go_wp2_with (first | ((with_reducible refine gate_dst (N := 5) rfl ?_); (try (refine gate_guard (by rfl) ?_; dsimp only)); refine bx_ 5 74 #[.int .i64 0, .bool false] ?_; intro gb105 hg w12 hbox hb; have BK105 := m_ (hbox); have GW105 := m_ ((gw_ : w.heap.size ≤ gb105)); have GE105 := m_ ((gw_ : w.heap.size ≤ gb105)); have NB103_105 := m_ ((gl_ : gb103 ≠ gb105)); have NB105_103 := m_ ((gr_ : gb105 ≠ gb103)); replace BK103 := m_ (kl_ gb103 hb); replace HB := m_ (below_step bz_ hb); clear hb hbox hg; have hnb13 := NB105_103.out; have hnc13 := NB103_105.out; have hcz14_0 : w12.cell? ⟨gb105, 0, none⟩ = some (.int .i64 0) := (blk_cell BK105.out 0).trans rfl; have hcz14_1 : w12.cell? ⟨gb105, 1, none⟩ = some (.bool false) := (blk_cell BK105.out 1).trans rfl; have hfz14_0 := blk_frozen BK105.out 0; have hfz14_1 := blk_frozen BK105.out 1))
        repeat (go_quiet (first | ((with_reducible refine gate_dst (N := 5) rfl ?_); (try (refine gate_guard (by rfl) ?_; dsimp only)); refine bx_ 5 74 #[.int .i64 0, .bool false] ?_; intro gb105 hg w12 hbox hb; have BK105 := m_ (hbox); have GW105 := m_ ((gw_ : w.heap.size ≤ gb105)); have GE105 := m_ ((gw_ : w.heap.size ≤ gb105)); have NB103_105 := m_ ((gl_ : gb103 ≠ gb105)); have NB105_103 := m_ ((gr_ : gb105 ≠ gb103)); replace BK103 := m_ (kl_ gb103 hb); replace HB := m_ (below_step bz_ hb); clear hb hbox hg; have hnb13 := NB105_103.out; have hnc13 := NB103_105.out; have hcz14_0 : w12.cell? ⟨gb105, 0, none⟩ = some (.int .i64 0) := (blk_cell BK105.out 0).trans rfl; have hcz14_1 : w12.cell? ⟨gb105, 1, none⟩ = some (.bool false) := (blk_cell BK105.out 1).trans rfl; have hfz14_0 := blk_frozen BK105.out 0; have hfz14_1 := blk_frozen BK105.out 1)); try go_wp2_with (first | ((with_reducible refine gate_dst (N := 5) rfl ?_); (try (refine gate_guard (by rfl) ?_; dsimp only)); refine bx_ 5 74 #[.int .i64 0, .bool false] ?_; intro gb105 hg w12 hbox hb; have BK105 := m_ (hbox); have GW105 := m_ ((gw_ : w.heap.size ≤ gb105)); have GE105 := m_ ((gw_ : w.heap.size ≤ gb105)); have NB103_105 := m_ ((gl_ : gb103 ≠ gb105)); have NB105_103 := m_ ((gr_ : gb105 ≠ gb103)); replace BK103 := m_ (kl_ gb103 hb); replace HB := m_ (below_step bz_ hb); clear hb hbox hg; have hnb13 := NB105_103.out; have hnc13 := NB103_105.out; have hcz14_0 : w12.cell? ⟨gb105, 0, none⟩ = some (.int .i64 0) := (blk_cell BK105.out 0).trans rfl; have hcz14_1 : w12.cell? ⟨gb105, 1, none⟩ = some (.bool false) := (blk_cell BK105.out 1).trans rfl; have hfz14_0 := blk_frozen BK105.out 0; have hfz14_1 := blk_frozen BK105.out 1)))
        go_ret
        exact ⟨ew_, bz_⟩
       ·rw [if_neg c11] at H
        have c11b0 : decide (128 ≤ ((rd_T74 l0_5 x10_1).f0)) = false := decide_eq_false c11
        clear c11
        replace H := Option.bind_eq_some_iff.mp H
        obtain ⟨t106, A150, H⟩ := H
        replace H : (if (((rd_T74 l0_5 x10_1).f1) != t106) = true then (some false) else (flow_Right.l0 k1 ((rd_T74 l0_5 x10_1).f0) l0_5 (l0_5.length : Int) (wrap64 (x10_1 + 1)) a0_0 a0_1 a0_2 a0_3 a0_4 l0_5)) = some r := H
        have A15 := m_ A150
        clear A150
        by_cases c16 : (((rd_T74 l0_5 x10_1).f1) != t106) = true
        ·rw [if_pos c16] at H
         have c16b0 : (((rd_T74 l0_5 x10_1).f1) != t106) = true := c16
         (try (have c16b1 : decide (((rd_T74 l0_5 x10_1).f1) = t106) = false := by simpa using c16))
         (try (have c16b2 : (((rd_T74 l0_5 x10_1).f1) == t106) = false := by simpa using c16))
         (try (have c16b3 : ¬ (((rd_T74 l0_5 x10_1).f1) = t106) := by simpa using c16))
         clear c16
         obtain rfl := Option.some.inj H
         have p104 : 0 ≤ (x10_1 : Int) := od_
         have q104 : x10_1 < (l0_5.length : Int) := od_
         obtain ⟨ad104, e104, hx104_0, hx104_1⟩ := at_T74 HR0_5.out x10_1 p104 q104
         cases e104
         replace hx104_0 := kp_ HB.out hx104_0
         replace hx104_1 := kp_ HB.out hx104_1
         replace p104 := eq_true p104
         replace q104 := eq_true q104
         go_wp2_with (first | ((with_reducible refine gate_dst (N := 5) rfl ?_); (try (refine gate_guard (by rfl) ?_; dsimp only)); refine bx_ 5 74 #[.int .i64 0, .bool false] ?_; intro gb105 hg w17 hbox hb; have BK105 := m_ (hbox); have GW105 := m_ ((gw_ : w.heap.size ≤ gb105)); have GE105 := m_ ((gw_ : w.heap.size ≤ gb105)); have NB103_105 := m_ ((gl_ : gb103 ≠ gb105)); have NB105_103 := m_ ((gr_ : gb105 ≠ gb103)); replace BK103 := m_ (kl_ gb103 hb); replace HB := m_ (below_step bz_ hb); clear hb hbox hg; have hnb18 := NB105_103.out; have hnc18 := NB103_105.out; have hcz19_0 : w17.cell? ⟨gb105, 0, none⟩ = some (.int .i64 0) := (blk_cell BK105.out 0).trans rfl; have hcz19_1 : w17.cell? ⟨gb105, 1, none⟩ = some (.bool false) := (blk_cell BK105.out 1).trans rfl; have hfz19_0 := blk_frozen BK105.out 0; have hfz19_1 := blk_frozen BK105.out 1) | (go_at_call 54; (with_reducible refine (flow_access.calls ((rd_T74 l0_5 x10_1).f0) t106 _ A15.out).mono ?_); rintro e w' ⟨rfl, ⟨nd, rfl⟩⟩; (try first | exact ⟨rfl, _, World.drewN_drewN _ _ _⟩ | exact ⟨rfl, _, Eq.trans (World.drewN_drewN _ _ _) (congrArg (World.drewN _) (Nat.add_assoc _ _ _))⟩)))
         repeat (go_quiet (first | ((with_reducible refine gate_dst (N := 5) rfl ?_); (try (refine gate_guard (by rfl) ?_; dsimp only)); refine bx_ 5 74 #[.int .i64 0, .bool false] ?_; intro gb105 hg w17 hbox hb; have BK105 := m_ (hbox); have GW105 := m_ ((gw_ : w.heap.size ≤ gb105)); have GE105 := m_ ((gw_ : w.heap.size ≤ gb105)); have NB103_105 := m_ ((gl_ : gb103 ≠ gb105)); have NB105_103 := m_ ((gr_ : gb105 ≠ gb103)); replace BK103 := m_ (kl_ gb103 hb); replace HB := m_ (below_step bz_ hb); clear hb hbox hg; have hnb18 := NB105_103.out; have hnc18 := NB103_105.out; have hcz19_0 : w17.cell? ⟨gb105, 0, none⟩ = some (.int .i64 0) := (blk_cell BK105.out 0).trans rfl; have hcz19_1 : w17.cell? ⟨gb105, 1, none⟩ = some (.bool false) := (blk_cell BK105.out 1).trans rfl; have hfz19_0 := blk_frozen BK105.out 0; have hfz19_1 := blk_frozen BK105.out 1) | (go_at_call 54; (with_reducible refine (flow_access.calls ((rd_T74 l0_5 x10_1).f0) t106 _ A15.out).mono ?_); rintro e w' ⟨rfl, ⟨nd, rfl⟩⟩; (try first | exact ⟨rfl, _, World.drewN_drewN _ _ _⟩ | exact ⟨rfl, _, Eq.trans (World.drewN_drewN _ _ _) (congrArg (World.drewN _) (Nat.add_assoc _ _ _))⟩))); try go_wp2_with (first | ((with_reducible refine gate_dst (N := 5) rfl ?_); (try (refine gate_guard (by rfl) ?_; dsimp only)); refine bx_ 5 74 #[.int .i64 0, .bool false] ?_; intro gb105 hg w17 hbox hb; have BK105 := m_ (hbox); have GW105 := m_ ((gw_ : w.heap.size ≤ gb105)); have GE105 := m_ ((gw_ : w.heap.size ≤ gb105)); have NB103_105 := m_ ((gl_ : gb103 ≠ gb105)); have NB105_103 := m_ ((gr_ : gb105 ≠ gb103)); replace BK103 := m_ (kl_ gb103 hb); replace HB := m_ (below_step bz_ hb); clear hb hbox hg; have hnb18 := NB105_103.out; have hnc18 := NB103_105.out; have hcz19_0 : w17.cell? ⟨gb105, 0, none⟩ = some (.int .i64 0) := (blk_cell BK105.out 0).trans rfl; have hcz19_1 : w17.cell? ⟨gb105, 1, none⟩ = some (.bool false) := (blk_cell BK105.out 1).trans rfl; have hfz19_0 := blk_frozen BK105.out 0; have hfz19_1 := blk_frozen BK105.out 1) | (go_at_call 54; (with_reducible refine (flow_access.calls ((rd_T74 l0_5 x10_1).f0) t106 _ A15.out).mono ?_); rintro e w' ⟨rfl, ⟨nd, rfl⟩⟩; (try first | exact ⟨rfl, _, World.drewN_drewN _ _ _⟩ | exact ⟨rfl, _, Eq.trans (World.drewN_drewN _ _ _) (congrArg (World.drewN _) (Nat.add_assoc _ _ _))⟩))))
         go_ret
         exact ⟨ew_, bz_⟩
        ·rw [if_neg c16] at H
         have c16b0 : (((rd_T74 l0_5 x10_1).f1) != t106) = false := by simpa using c16
         (try (have c16b1 : decide (((rd_T74 l0_5 x10_1).f1) = t106) = true := by simpa using c16))
         (try (have c16b2 : (((rd_T74 l0_5 x10_1).f1) == t106) = true := by simpa using c16))
         clear c16
         have H' := m_ H
         clear H
         have p104 : 0 ≤ (x10_1 : Int) := od_
         have q104 : x10_1 < (l0_5.length : Int) := od_
         obtain ⟨ad104, e104, hx104_0, hx104_1⟩ := at_T74 HR0_5.out x10_1 p104 q104
         cases e104
         replace hx104_0 := kp_ HB.out hx104_0
         replace hx104_1 := kp_ HB.out hx104_1
         replace p104 := eq_true p104
         replace q104 := eq_true q104
         go_wp2_with (first | ((with_reducible refine gate_dst (N := 5) rfl ?_); (try (refine gate_guard (by rfl) ?_; dsimp only)); refine bx_ 5 74 #[.int .i64 0, .bool false] ?_; intro gb105 hg w20 hbox hb; have BK105 := m_ (hbox); have GW105 := m_ ((gw_ : w.heap.size ≤ gb105)); have GE105 := m_ ((gw_ : w.heap.size ≤ gb105)); have NB103_105 := m_ ((gl_ : gb103 ≠ gb105)); have NB105_103 := m_ ((gr_ : gb105 ≠ gb103)); replace BK103 := m_ (kl_ gb103 hb); replace HB := m_ (below_step bz_ hb); clear hb hbox hg; have hnb21 := NB105_103.out; have hnc21 := NB103_105.out; have hcz22_0 : w20.cell? ⟨gb105, 0, none⟩ = some (.int .i64 0) := (blk_cell BK105.out 0).trans rfl; have hcz22_1 : w20.cell? ⟨gb105, 1, none⟩ = some (.bool false) := (blk_cell BK105.out 1).trans rfl; have hfz22_0 := blk_frozen BK105.out 0; have hfz22_1 := blk_frozen BK105.out 1) | (go_at_call 54; (with_reducible refine (flow_access.calls ((rd_T74 l0_5 x10_1).f0) t106 _ A15.out).mono ?_); rintro e w' ⟨rfl, ⟨nd, rfl⟩⟩; (try first | exact ⟨rfl, _, World.drewN_drewN _ _ _⟩ | exact ⟨rfl, _, Eq.trans (World.drewN_drewN _ _ _) (congrArg (World.drewN _) (Nat.add_assoc _ _ _))⟩)))
         repeat (go_quiet (first | ((with_reducible refine gate_dst (N := 5) rfl ?_); (try (refine gate_guard (by rfl) ?_; dsimp only)); refine bx_ 5 74 #[.int .i64 0, .bool false] ?_; intro gb105 hg w20 hbox hb; have BK105 := m_ (hbox); have GW105 := m_ ((gw_ : w.heap.size ≤ gb105)); have GE105 := m_ ((gw_ : w.heap.size ≤ gb105)); have NB103_105 := m_ ((gl_ : gb103 ≠ gb105)); have NB105_103 := m_ ((gr_ : gb105 ≠ gb103)); replace BK103 := m_ (kl_ gb103 hb); replace HB := m_ (below_step bz_ hb); clear hb hbox hg; have hnb21 := NB105_103.out; have hnc21 := NB103_105.out; have hcz22_0 : w20.cell? ⟨gb105, 0, none⟩ = some (.int .i64 0) := (blk_cell BK105.out 0).trans rfl; have hcz22_1 : w20.cell? ⟨gb105, 1, none⟩ = some (.bool false) := (blk_cell BK105.out 1).trans rfl; have hfz22_0 := blk_frozen BK105.out 0; have hfz22_1 := blk_frozen BK105.out 1) | (go_at_call 54; (with_reducible refine (flow_access.calls ((rd_T74 l0_5 x10_1).f0) t106 _ A15.out).mono ?_); rintro e w' ⟨rfl, ⟨nd, rfl⟩⟩; (try first | exact ⟨rfl, _, World.drewN_drewN _ _ _⟩ | exact ⟨rfl, _, Eq.trans (World.drewN_drewN _ _ _) (congrArg (World.drewN _) (Nat.add_assoc _ _ _))⟩))); try go_wp2_with (first | ((with_reducible refine gate_dst (N := 5) rfl ?_); (try (refine gate_guard (by rfl) ?_; dsimp only)); refine bx_ 5 74 #[.int .i64 0, .bool false] ?_; intro gb105 hg w20 hbox hb; have BK105 := m_ (hbox); have GW105 := m_ ((gw_ : w.heap.size ≤ gb105)); have GE105 := m_ ((gw_ : w.heap.size ≤ gb105)); have NB103_105 := m_ ((gl_ : gb103 ≠ gb105)); have NB105_103 := m_ ((gr_ : gb105 ≠ gb103)); replace BK103 := m_ (kl_ gb103 hb); replace HB := m_ (below_step bz_ hb); clear hb hbox hg; have hnb21 := NB105_103.out; have hnc21 := NB103_105.out; have hcz22_0 : w20.cell? ⟨gb105, 0, none⟩ = some (.int .i64 0) := (blk_cell BK105.out 0).trans rfl; have hcz22_1 : w20.cell? ⟨gb105, 1, none⟩ = some (.bool false) := (blk_cell BK105.out 1).trans rfl; have hfz22_0 := blk_frozen BK105.out 0; have hfz22_1 := blk_frozen BK105.out 1) | (go_at_call 54; (with_reducible refine (flow_access.calls ((rd_T74 l0_5 x10_1).f0) t106 _ A15.out).mono ?_); rintro e w' ⟨rfl, ⟨nd, rfl⟩⟩; (try first | exact ⟨rfl, _, World.drewN_drewN _ _ _⟩ | exact ⟨rfl, _, Eq.trans (World.drewN_drewN _ _ _) (congrArg (World.drewN _) (Nat.add_assoc _ _ _))⟩))))
         go_roundg k1
         case measure => have := HK1.out; omega
         case rel => exact ⟨((rd_T74 l0_5 x10_1).f0), (wrap64 (x10_1 + 1)), (by first | rfl | (simp; done) | (simp [*]; done)), (by first | rfl | (simp; done) | (simp [*]; done)), H', ⟨by have := HK1.out; omega⟩, ⟨kb_⟩, ⟨bz_⟩⟩
     ·rw [if_neg c6] at H
      exact absurd H (by simp)
    ·rw [if_neg c5] at H
     exact absurd H (by simp)
   ·rw [if_neg c4] at H
    have c4b0 : decide (x10_1 < (l0_5.length : Int)) = false := decide_eq_false c4
    clear c4
    have HC23 := m_ H
    clear H
    go_upto_region 9 with (fail)
    repeat (go_quiet (fail); go_upto_region 9 with (fail))
    go_cut [6] (fun v6 wc => ∃ (kq : Nat) (x6_22 : Bool), v6 = .bool x6_22 ∧ Aside0 (flow_Right.j1 kq x6_22 a0_0 a0_1 a0_2 a0_3 a0_4 l0_5 = some r) ∧ Aside0 (kq ≤ k1) ∧ Aside0 (wc.heap[gb103]? = some (.cells #[.int .u32 a0_0, .int .u32 a0_1, .int .u32 a0_2, .int .i64 a0_3, .int .u32 a0_4, (.slice A0_5 l0_5.length c0_5)] 29 (0, 0))) ∧ Aside0 (Below w.heap.size w wc))
    case first =>
     have H := HC23.out
     clear HC23
     by_cases c24 : a0_3 = (-1)
     ·rw [if_pos c24] at H
      have c24b0 : (a0_3 == (-1)) = true := beq_iff_eq.mpr c24
      have c24b1 : (a0_3 != (-1)) = false := bne_eq_false_iff_eq.mpr c24
      clear c24
      (first | rw [c24b0] | (simp only [i64_w, i32_w]; rw [c24b0]) | skip)
      have H' := m_ H
      clear H
      have hcz25 := cz6_ BK103.out
      go_wp2
      repeat (go_quiet (fail); try go_wp2)
      go_meet
      case rel => exact ⟨_, ((a0_4 == 0)), (by first | rfl | (simp; done) | (simp [*]; done)), H', ⟨by have := HK1.out; first | omega | exact Nat.le_refl _⟩, ⟨kz_⟩, ⟨bz_⟩⟩
     ·rw [if_neg c24] at H
      have c24b0 : (a0_3 == (-1)) = false := beq_eq_false_iff_ne.mpr c24
      have c24b1 : (a0_3 != (-1)) = true := bne_iff_ne.mpr c24
      (first | rw [c24b0] | (simp only [i64_w, i32_w]; rw [c24b0]) | skip)
      have H' := m_ H
      clear H
      have hcz26 := cz6_ BK103.out
      go_wp2
      repeat (go_quiet (fail); try go_wp2)
      go_meet
      case rel => exact ⟨_, (false), (by first | rfl | (simp; done) | (simp [*]; done)), H', ⟨by have := HK1.out; first | omega | exact Nat.le_refl _⟩, ⟨kz_⟩, ⟨bz_⟩⟩
    case rest =>
     clear HC23
     try clear c1
     try clear p1
     try clear q1
     try clear hx1
     try clear c2
     try clear p2
     try clear c4
     try clear c4b0
     try clear c5
     try clear c5b0
     try clear c6
     try clear c6b0
     try clear p6
     try clear c7
     try clear c7b0
     try clear c9
     try clear p10
     try clear q10
     try clear hx10
     try clear c11
     try clear c11b0
     try clear c13
     try clear c16
     try clear c16b0
     try clear c16b1
     try clear c16b2
     try clear c18
     try clear c21
     try clear c24
     try clear c24b0
     try clear c24b1
     try clear hcz10_0
     try clear hcz10_1
     try clear hcz14_0
     try clear hcz14_1
     try clear hcz19_0
     try clear hcz19_1
     try clear hcz22_0
     try clear hcz22_1
     (try clear hcz25)
     (try clear hcz26)
     try clear hcz3_0
     try clear hcz3_1
     try clear hcz3_2
     try clear hcz3_3
     try clear hcz3_4
     try clear hcz3_5
     try clear hfz10_0
     try clear hfz10_1
     try clear hfz14_0
     try clear hfz14_1
     try clear hfz19_0
     try clear hfz19_1
     try clear hfz22_0
     try clear hfz22_1
     try clear hfz3_0
     try clear hfz3_1
     try clear hfz3_2
     try clear hfz3_3
     try clear hfz3_4
     try clear hfz3_5
     try clear hx104_0
     try clear hx104_1
     try clear p104
     try clear p2
     try clear q104
     obtain ⟨kq, x6_22, rfl, HA, HJ22, BK103, HB⟩ := hcut
     cases kq with
     | zero => exact absurd HA.out (by simp [flow_Right.j1])
     | succ kj22 =>
      have H := HA.out
      clear HA
      simp only [flow_Right.j1] at H
      by_cases c27 : a0_2 = 0
      ·rw [if_pos c27] at H
       have c27b0 : (a0_2 == 0) = true := beq_iff_eq.mpr c27
       have c27b1 : (a0_2 != 0) = false := bne_eq_false_iff_eq.mpr c27
       clear c27
       replace H := Option.bind_eq_some_iff.mp H
       obtain ⟨t107, A280, H⟩ := H
       replace H : (if t107 = true then ((addr_IsAsked.f a0_1).bind fun t108 => (if t108 = true then (if (l0_5.length : Int) ≤ 128 then (some (a0_4 != 0)) else (some false)) else (some false))) else ((addr_IsAsked.f a0_1).bind fun t109 => (if t109 = true then (if (l0_5.length : Int) ≤ 128 then (some false) else (some false)) else (some false)))) = some r := H
       have A28 := m_ A280
       clear A280
       by_cases c29 : t107 = true
       ·subst c29
        have H1 : ((addr_IsAsked.f a0_1).bind fun t108 => (if t108 = true then (if (l0_5.length : Int) ≤ 128 then (some (a0_4 != 0)) else (some false)) else (some false))) = some r := by rw [if_pos rfl] at H; exact H
        clear H
        have H := H1
        clear H1
        replace H := Option.bind_eq_some_iff.mp H
        obtain ⟨t108, A300, H⟩ := H
        replace H : (if t108 = true then (if (l0_5.length : Int) ≤ 128 then (some (a0_4 != 0)) else (some false)) else (some false)) = some r := H
        have A30 := m_ A300
        clear A300
        by_cases c31 : t108 = true
        ·subst c31
         have H1 : (if (l0_5.length : Int) ≤ 128 then (some (a0_4 != 0)) else (some false)) = some r := by rw [if_pos rfl] at H; exact H
         clear H
         have H := H1
         clear H1
         by_cases c32 : (l0_5.length : Int) ≤ 128
         ·rw [if_pos c32] at H
          have c32b0 : decide ((l0_5.length : Int) ≤ 128) = true := decide_eq_true c32
          have c32b1 : decide (l0_5.length ≤ 128) = true := decide_eq_true (by omega)
          clear c32
          obtain rfl := Option.some.inj H
          have hcz33 := cz6_ BK103.out
          go_wp2_with (first | (go_at_call 54; (with_reducible refine (flow_access.calls a0_3 true _ A28.out).mono ?_); rintro e w' ⟨rfl, ⟨nd, rfl⟩⟩; (try first | exact ⟨rfl, _, World.drewN_drewN _ _ _⟩ | exact ⟨rfl, _, Eq.trans (World.drewN_drewN _ _ _) (congrArg (World.drewN _) (Nat.add_assoc _ _ _))⟩)) | (go_at_call 51; (with_reducible refine (addr_IsAsked.calls a0_1 true _ A30.out).mono ?_); rintro e w' ⟨rfl, ⟨nd, rfl⟩⟩; (try first | exact ⟨rfl, _, World.drewN_drewN _ _ _⟩ | exact ⟨rfl, _, Eq.trans (World.drewN_drewN _ _ _) (congrArg (World.drewN _) (Nat.add_assoc _ _ _))⟩)))
          repeat (go_quiet (first | (go_at_call 54; (with_reducible refine (flow_access.calls a0_3 true _ A28.out).mono ?_); rintro e w' ⟨rfl, ⟨nd, rfl⟩⟩; (try first | exact ⟨rfl, _, World.drewN_drewN _ _ _⟩ | exact ⟨rfl, _, Eq.trans (World.drewN_drewN _ _ _) (congrArg (World.drewN _) (Nat.add_assoc _ _ _))⟩)) | (go_at_call 51; (with_reducible refine (addr_IsAsked.calls a0_1 true _ A30.out).mono ?_); rintro e w' ⟨rfl, ⟨nd, rfl⟩⟩; (try first | exact ⟨rfl, _, World.drewN_drewN _ _ _⟩ | exact ⟨rfl, _, Eq.trans (World.drewN_drewN _ _ _) (congrArg (World.drewN _) (Nat.add_assoc _ _ _))⟩))); try go_wp2_with (first | (go_at_call 54; (with_reducible refine (flow_access.calls a0_3 true _ A28.out).mono ?_); rintro e w' ⟨rfl, ⟨nd, rfl⟩⟩; (try first | exact ⟨rfl, _, World.drewN_drewN _ _ _⟩ | exact ⟨rfl, _, Eq.trans (World.drewN_drewN _ _ _) (congrArg (World.drewN _) (Nat.add_assoc _ _ _))⟩)) | (go_at_call 51; (with_reducible refine (addr_IsAsked.calls a0_1 true _ A30.out).mono ?_); rintro e w' ⟨rfl, ⟨nd, rfl⟩⟩; (try first | exact ⟨rfl, _, World.drewN_drewN _ _ _⟩ | exact ⟨rfl, _, Eq.trans (World.drewN_drewN _ _ _) (congrArg (World.drewN _) (Nat.add_assoc _ _ _))⟩))))
          go_ret
          exact ⟨ew_, bz_⟩
         ·rw [if_neg c32] at H
          have c32b0 : decide ((l0_5.length : Int) ≤ 128) = false := decide_eq_false c32
          have c32b1 : decide (l0_5.length ≤ 128) = false := decide_eq_false (by omega)
          clear c32
          obtain rfl := Option.some.inj H
          have hcz34 := cz6_ BK103.out
          go_wp2_with (first | (go_at_call 54; (with_reducible refine (flow_access.calls a0_3 true _ A28.out).mono ?_); rintro e w' ⟨rfl, ⟨nd, rfl⟩⟩; (try first | exact ⟨rfl, _, World.drewN_drewN _ _ _⟩ | exact ⟨rfl, _, Eq.trans (World.drewN_drewN _ _ _) (congrArg (World.drewN _) (Nat.add_assoc _ _ _))⟩)) | (go_at_call 51; (with_reducible refine (addr_IsAsked.calls a0_1 true _ A30.out).mono ?_); rintro e w' ⟨rfl, ⟨nd, rfl⟩⟩; (try first | exact ⟨rfl, _, World.drewN_drewN _ _ _⟩ | exact ⟨rfl, _, Eq.trans (World.drewN_drewN _ _ _) (congrArg (World.drewN _) (Nat.add_assoc _ _ _))⟩)))
          repeat (go_quiet (first | (go_at_call 54; (with_reducible refine (flow_access.calls a0_3 true _ A28.out).mono ?_); rintro e w' ⟨rfl, ⟨nd, rfl⟩⟩; (try first | exact ⟨rfl, _, World.drewN_drewN _ _ _⟩ | exact ⟨rfl, _, Eq.trans (World.drewN_drewN _ _ _) (congrArg (World.drewN _) (Nat.add_assoc _ _ _))⟩)) | (go_at_call 51; (with_reducible refine (addr_IsAsked.calls a0_1 true _ A30.out).mono ?_); rintro e w' ⟨rfl, ⟨nd, rfl⟩⟩; (try first | exact ⟨rfl, _, World.drewN_drewN _ _ _⟩ | exact ⟨rfl, _, Eq.trans (World.drewN_drewN _ _ _) (congrArg (World.drewN _) (Nat.add_assoc _ _ _))⟩))); try go_wp2_with (first | (go_at_call 54; (with_reducible refine (flow_access.calls a0_3 true _ A28.out).mono ?_); rintro e w' ⟨rfl, ⟨nd, rfl⟩⟩; (try first | exact ⟨rfl, _, World.drewN_drewN _ _ _⟩ | exact ⟨rfl, _, Eq.trans (World.drewN_drewN _ _ _) (congrArg (World.drewN _) (Nat.add_assoc _ _ _))⟩)) | (go_at_call 51; (with_reducible refine (addr_IsAsked.calls a0_1 true _ A30.out).mono ?_); rintro e w' ⟨rfl, ⟨nd, rfl⟩⟩; (try first | exact ⟨rfl, _, World.drewN_drewN _ _ _⟩ | exact ⟨rfl, _, Eq.trans (World.drewN_drewN _ _ _) (congrArg (World.drewN _) (Nat.add_assoc _ _ _))⟩))))
          go_ret
          exact ⟨ew_, bz_⟩
        ·replace c31 := Bool.eq_false_iff.mpr c31
         subst c31
         have H1 : (some false) = some r := by rw [if_neg (show ¬ (false = true) by decide)] at H; exact H
         clear H
         have H := H1
         clear H1
         obtain rfl := Option.some.inj H
         have hcz35 := cz6_ BK103.out
         go_wp2_with (first | (go_at_call 54; (with_reducible refine (flow_access.calls a0_3 true _ A28.out).mono ?_); rintro e w' ⟨rfl, ⟨nd, rfl⟩⟩; (try first | exact ⟨rfl, _, World.drewN_drewN _ _ _⟩ | exact ⟨rfl, _, Eq.trans (World.drewN_drewN _ _ _) (congrArg (World.drewN _) (Nat.add_assoc _ _ _))⟩)) | (go_at_call 51; (with_reducible refine (addr_IsAsked.calls a0_1 false _ A30.out).mono ?_); rintro e w' ⟨rfl, ⟨nd, rfl⟩⟩; (try first | exact ⟨rfl, _, World.drewN_drewN _ _ _⟩ | exact ⟨rfl, _, Eq.trans (World.drewN_drewN _ _ _) (congrArg (World.drewN _) (Nat.add_assoc _ _ _))⟩)))
         repeat (go_quiet (first | (go_at_call 54; (with_reducible refine (flow_access.calls a0_3 true _ A28.out).mono ?_); rintro e w' ⟨rfl, ⟨nd, rfl⟩⟩; (try first | exact ⟨rfl, _, World.drewN_drewN _ _ _⟩ | exact ⟨rfl, _, Eq.trans (World.drewN_drewN _ _ _) (congrArg (World.drewN _) (Nat.add_assoc _ _ _))⟩)) | (go_at_call 51; (with_reducible refine (addr_IsAsked.calls a0_1 false _ A30.out).mono ?_); rintro e w' ⟨rfl, ⟨nd, rfl⟩⟩; (try first | exact ⟨rfl, _, World.drewN_drewN _ _ _⟩ | exact ⟨rfl, _, Eq.trans (World.drewN_drewN _ _ _) (congrArg (World.drewN _) (Nat.add_assoc _ _ _))⟩))); try go_wp2_with (first | (go_at_call 54; (with_reducible refine (flow_access.calls a0_3 true _ A28.out).mono ?_); rintro e w' ⟨rfl, ⟨nd, rfl⟩⟩; (try first | exact ⟨rfl, _, World.drewN_drewN _ _ _⟩ | exact ⟨rfl, _, Eq.trans (World.drewN_drewN _ _ _) (congrArg (World.drewN _) (Nat.add_assoc _ _ _))⟩)) | (go_at_call 51; (with_reducible refine (addr_IsAsked.calls a0_1 false _ A30.out).mono ?_); rintro e w' ⟨rfl, ⟨nd, rfl⟩⟩; (try first | exact ⟨rfl, _, World.drewN_drewN _ _ _⟩ | exact ⟨rfl, _, Eq.trans (World.drewN_drewN _ _ _) (congrArg (World.drewN _) (Nat.add_assoc _ _ _))⟩))))
         go_ret
         exact ⟨ew_, bz_⟩
       ·replace c29 := Bool.eq_false_iff.mpr c29
        subst c29
        have H1 : ((addr_IsAsked.f a0_1).bind fun t109 => (if t109 = true then (if (l0_5.length : Int) ≤ 128 then (some false) else (some false)) else (some false))) = some r := by rw [if_neg (show ¬ (false = true) by decide)] at H; exact H
        clear H
        have H := H1
        clear H1
        replace H := Option.bind_eq_some_iff.mp H
        obtain ⟨t109, A360, H⟩ := H
        replace H : (if t109 = true then (if (l0_5.length : Int) ≤ 128 then (some false) else (some false)) else (some false)) = some r := H
        have A36 := m_ A360
        clear A360
        by_cases c37 : t109 = true
        ·subst c37
         have H1 : (if (l0_5.length : Int) ≤ 128 then (some false) else (some false)) = some r := by rw [if_pos rfl] at H; exact H
         clear H
         have H := H1
         clear H1
         by_cases c38 : (l0_5.length : Int) ≤ 128
         ·rw [if_pos c38] at H
          have c38b0 : decide ((l0_5.length : Int) ≤ 128) = true := decide_eq_true c38
          have c38b1 : decide (l0_5.length ≤ 128) = true := decide_eq_true (by omega)
          clear c38
          obtain rfl := Option.some.inj H
          have hcz39 := cz6_ BK103.out
          go_wp2_with (first | (go_at_call 54; (with_reducible refine (flow_access.calls a0_3 false _ A28.out).mono ?_); rintro e w' ⟨rfl, ⟨nd, rfl⟩⟩; (try first | exact ⟨rfl, _, World.drewN_drewN _ _ _⟩ | exact ⟨rfl, _, Eq.trans (World.drewN_drewN _ _ _) (congrArg (World.drewN _) (Nat.add_assoc _ _ _))⟩)) | (go_at_call 51; (with_reducible refine (addr_IsAsked.calls a0_1 true _ A36.out).mono ?_); rintro e w' ⟨rfl, ⟨nd, rfl⟩⟩; (try first | exact ⟨rfl, _, World.drewN_drewN _ _ _⟩ | exact ⟨rfl, _, Eq.trans (World.drewN_drewN _ _ _) (congrArg (World.drewN _) (Nat.add_assoc _ _ _))⟩)))
          repeat (go_quiet (first | (go_at_call 54; (with_reducible refine (flow_access.calls a0_3 false _ A28.out).mono ?_); rintro e w' ⟨rfl, ⟨nd, rfl⟩⟩; (try first | exact ⟨rfl, _, World.drewN_drewN _ _ _⟩ | exact ⟨rfl, _, Eq.trans (World.drewN_drewN _ _ _) (congrArg (World.drewN _) (Nat.add_assoc _ _ _))⟩)) | (go_at_call 51; (with_reducible refine (addr_IsAsked.calls a0_1 true _ A36.out).mono ?_); rintro e w' ⟨rfl, ⟨nd, rfl⟩⟩; (try first | exact ⟨rfl, _, World.drewN_drewN _ _ _⟩ | exact ⟨rfl, _, Eq.trans (World.drewN_drewN _ _ _) (congrArg (World.drewN _) (Nat.add_assoc _ _ _))⟩))); try go_wp2_with (first | (go_at_call 54; (with_reducible refine (flow_access.calls a0_3 false _ A28.out).mono ?_); rintro e w' ⟨rfl, ⟨nd, rfl⟩⟩; (try first | exact ⟨rfl, _, World.drewN_drewN _ _ _⟩ | exact ⟨rfl, _, Eq.trans (World.drewN_drewN _ _ _) (congrArg (World.drewN _) (Nat.add_assoc _ _ _))⟩)) | (go_at_call 51; (with_reducible refine (addr_IsAsked.calls a0_1 true _ A36.out).mono ?_); rintro e w' ⟨rfl, ⟨nd, rfl⟩⟩; (try first | exact ⟨rfl, _, World.drewN_drewN _ _ _⟩ | exact ⟨rfl, _, Eq.trans (World.drewN_drewN _ _ _) (congrArg (World.drewN _) (Nat.add_assoc _ _ _))⟩))))
          go_ret
          exact ⟨ew_, bz_⟩
         ·rw [if_neg c38] at H
          have c38b0 : decide ((l0_5.length : Int) ≤ 128) = false := decide_eq_false c38
          have c38b1 : decide (l0_5.length ≤ 128) = false := decide_eq_false (by omega)
          clear c38
          obtain rfl := Option.some.inj H
          have hcz40 := cz6_ BK103.out
          go_wp2_with (first | (go_at_call 54; (with_reducible refine (flow_access.calls a0_3 false _ A28.out).mono ?_); rintro e w' ⟨rfl, ⟨nd, rfl⟩⟩; (try first | exact ⟨rfl, _, World.drewN_drewN _ _ _⟩ | exact ⟨rfl, _, Eq.trans (World.drewN_drewN _ _ _) (congrArg (World.drewN _) (Nat.add_assoc _ _ _))⟩)) | (go_at_call 51; (with_reducible refine (addr_IsAsked.calls a0_1 true _ A36.out).mono ?_); rintro e w' ⟨rfl, ⟨nd, rfl⟩⟩; (try first | exact ⟨rfl, _, World.drewN_drewN _ _ _⟩ | exact ⟨rfl, _, Eq.trans (World.drewN_drewN _ _ _) (congrArg (World.drewN _) (Nat.add_assoc _ _ _))⟩)))
          repeat (go_quiet (first | (go_at_call 54; (with_reducible refine (flow_access.calls a0_3 false _ A28.out).mono ?_); rintro e w' ⟨rfl, ⟨nd, rfl⟩⟩; (try first | exact ⟨rfl, _, World.drewN_drewN _ _ _⟩ | exact ⟨rfl, _, Eq.trans (World.drewN_drewN _ _ _) (congrArg (World.drewN _) (Nat.add_assoc _ _ _))⟩)) | (go_at_call 51; (with_reducible refine (addr_IsAsked.calls a0_1 true _ A36.out).mono ?_); rintro e w' ⟨rfl, ⟨nd, rfl⟩⟩; (try first | exact ⟨rfl, _, World.drewN_drewN _ _ _⟩ | exact ⟨rfl, _, Eq.trans (World.drewN_drewN _ _ _) (congrArg (World.drewN _) (Nat.add_assoc _ _ _))⟩))); try go_wp2_with (first | (go_at_call 54; (with_reducible refine (flow_access.calls a0_3 false _ A28.out).mono ?_); rintro e w' ⟨rfl, ⟨nd, rfl⟩⟩; (try first | exact ⟨rfl, _, World.drewN_drewN _ _ _⟩ | exact ⟨rfl, _, Eq.trans (World.drewN_drewN _ _ _) (congrArg (World.drewN _) (Nat.add_assoc _ _ _))⟩)) | (go_at_call 51; (with_reducible refine (addr_IsAsked.calls a0_1 true _ A36.out).mono ?_); rintro e w' ⟨rfl, ⟨nd, rfl⟩⟩; (try first | exact ⟨rfl, _, World.drewN_drewN _ _ _⟩ | exact ⟨rfl, _, Eq.trans (World.drewN_drewN _ _ _) (congrArg (World.drewN _) (Nat.add_assoc _ _ _))⟩))))
          go_ret
          exact ⟨ew_, bz_⟩
        ·replace c37 := Bool.eq_false_iff.mpr c37
         subst c37
         have H1 : (some false) = some r := by rw [if_neg (show ¬ (false = true) by decide)] at H; exact H
         clear H
         have H := H1
         clear H1
         obtain rfl := Option.some.inj H
         have hcz41 := cz6_ BK103.out
         go_wp2_with (first | (go_at_call 54; (with_reducible refine (flow_access.calls a0_3 false _ A28.out).mono ?_); rintro e w' ⟨rfl, ⟨nd, rfl⟩⟩; (try first | exact ⟨rfl, _, World.drewN_drewN _ _ _⟩ | exact ⟨rfl, _, Eq.trans (World.drewN_drewN _ _ _) (congrArg (World.drewN _) (Nat.add_assoc _ _ _))⟩)) | (go_at_call 51; (with_reducible refine (addr_IsAsked.calls a0_1 false _ A36.out).mono ?_); rintro e w' ⟨rfl, ⟨nd, rfl⟩⟩; (try first | exact ⟨rfl, _, World.drewN_drewN _ _ _⟩ | exact ⟨rfl, _, Eq.trans (World.drewN_drewN _ _ _) (congrArg (World.drewN _) (Nat.add_assoc _ _ _))⟩)))
         repeat (go_quiet (first | (go_at_call 54; (with_reducible refine (flow_access.calls a0_3 false _ A28.out).mono ?_); rintro e w' ⟨rfl, ⟨nd, rfl⟩⟩; (try first | exact ⟨rfl, _, World.drewN_drewN _ _ _⟩ | exact ⟨rfl, _, Eq.trans (World.drewN_drewN _ _ _) (congrArg (World.drewN _) (Nat.add_assoc _ _ _))⟩)) | (go_at_call 51; (with_reducible refine (addr_IsAsked.calls a0_1 false _ A36.out).mono ?_); rintro e w' ⟨rfl, ⟨nd, rfl⟩⟩; (try first | exact ⟨rfl, _, World.drewN_drewN _ _ _⟩ | exact ⟨rfl, _, Eq.trans (World.drewN_drewN _ _ _) (congrArg (World.drewN _) (Nat.add_assoc _ _ _))⟩))); try go_wp2_with (first | (go_at_call 54; (with_reducible refine (flow_access.calls a0_3 false _ A28.out).mono ?_); rintro e w' ⟨rfl, ⟨nd, rfl⟩⟩; (try first | exact ⟨rfl, _, World.drewN_drewN _ _ _⟩ | exact ⟨rfl, _, Eq.trans (World.drewN_drewN _ _ _) (congrArg (World.drewN _) (Nat.add_assoc _ _ _))⟩)) | (go_at_call 51; (with_reducible refine (addr_IsAsked.calls a0_1 false _ A36.out).mono ?_); rintro e w' ⟨rfl, ⟨nd, rfl⟩⟩; (try first | exact ⟨rfl, _, World.drewN_drewN _ _ _⟩ | exact ⟨rfl, _, Eq.trans (World.drewN_drewN _ _ _) (congrArg (World.drewN _) (Nat.add_assoc _ _ _))⟩))))
         go_ret
         exact ⟨ew_, bz_⟩
      ·rw [if_neg c27] at H
       have c27b0 : (a0_2 == 0) = false := beq_eq_false_iff_ne.mpr c27
       have c27b1 : (a0_2 != 0) = true := bne_iff_ne.mpr c27
       replace H := Option.bind_eq_some_iff.mp H
       obtain ⟨t110, A420, H⟩ := H
       replace H : (if t110 = true then (if (l0_5.length : Int) ≤ 128 then (some x6_22) else (some false)) else (some false)) = some r := H
       have A42 := m_ A420
       clear A420
       by_cases c43 : t110 = true
       ·subst c43
        have H1 : (if (l0_5.length : Int) ≤ 128 then (some x6_22) else (some false)) = some r := by rw [if_pos rfl] at H; exact H
        clear H
        have H := H1
        clear H1
        by_cases c44 : (l0_5.length : Int) ≤ 128
        ·rw [if_pos c44] at H
         have c44b0 : decide ((l0_5.length : Int) ≤ 128) = true := decide_eq_true c44
         have c44b1 : decide (l0_5.length ≤ 128) = true := decide_eq_true (by omega)
         clear c44
         obtain rfl := Option.some.inj H
         have hcz45 := cz6_ BK103.out
         go_wp2_with (first | (go_at_call 51; (with_reducible refine (addr_IsAsked.calls a0_1 true _ A42.out).mono ?_); rintro e w' ⟨rfl, ⟨nd, rfl⟩⟩; (try first | exact ⟨rfl, _, World.drewN_drewN _ _ _⟩ | exact ⟨rfl, _, Eq.trans (World.drewN_drewN _ _ _) (congrArg (World.drewN _) (Nat.add_assoc _ _ _))⟩)))
         repeat (go_quiet (first | (go_at_call 51; (with_reducible refine (addr_IsAsked.calls a0_1 true _ A42.out).mono ?_); rintro e w' ⟨rfl, ⟨nd, rfl⟩⟩; (try first | exact ⟨rfl, _, World.drewN_drewN _ _ _⟩ | exact ⟨rfl, _, Eq.trans (World.drewN_drewN _ _ _) (congrArg (World.drewN _) (Nat.add_assoc _ _ _))⟩))); try go_wp2_with (first | (go_at_call 51; (with_reducible refine (addr_IsAsked.calls a0_1 true _ A42.out).mono ?_); rintro e w' ⟨rfl, ⟨nd, rfl⟩⟩; (try first | exact ⟨rfl, _, World.drewN_drewN _ _ _⟩ | exact ⟨rfl, _, Eq.trans (World.drewN_drewN _ _ _) (congrArg (World.drewN _) (Nat.add_assoc _ _ _))⟩))))
         go_ret
         exact ⟨ew_, bz_⟩
        ·rw [if_neg c44] at H
         have c44b0 : decide ((l0_5.length : Int) ≤ 128) = false := decide_eq_false c44
         have c44b1 : decide (l0_5.length ≤ 128) = false := decide_eq_false (by omega)
         clear c44
         obtain rfl := Option.some.inj H
         have hcz46 := cz6_ BK103.out
         go_wp2_with (first | (go_at_call 51; (with_reducible refine (addr_IsAsked.calls a0_1 true _ A42.out).mono ?_); rintro e w' ⟨rfl, ⟨nd, rfl⟩⟩; (try first | exact ⟨rfl, _, World.drewN_drewN _ _ _⟩ | exact ⟨rfl, _, Eq.trans (World.drewN_drewN _ _ _) (congrArg (World.drewN _) (Nat.add_assoc _ _ _))⟩)))
         repeat (go_quiet (first | (go_at_call 51; (with_reducible refine (addr_IsAsked.calls a0_1 true _ A42.out).mono ?_); rintro e w' ⟨rfl, ⟨nd, rfl⟩⟩; (try first | exact ⟨rfl, _, World.drewN_drewN _ _ _⟩ | exact ⟨rfl, _, Eq.trans (World.drewN_drewN _ _ _) (congrArg (World.drewN _) (Nat.add_assoc _ _ _))⟩))); try go_wp2_with (first | (go_at_call 51; (with_reducible refine (addr_IsAsked.calls a0_1 true _ A42.out).mono ?_); rintro e w' ⟨rfl, ⟨nd, rfl⟩⟩; (try first | exact ⟨rfl, _, World.drewN_drewN _ _ _⟩ | exact ⟨rfl, _, Eq.trans (World.drewN_drewN _ _ _) (congrArg (World.drewN _) (Nat.add_assoc _ _ _))⟩))))
         go_ret
         exact ⟨ew_, bz_⟩
       ·replace c43 := Bool.eq_false_iff.mpr c43
        subst c43
        have H1 : (some false) = some r := by rw [if_neg (show ¬ (false = true) by decide)] at H; exact H
        clear H
        have H := H1
        clear H1
        obtain rfl := Option.some.inj H
        have hcz47 := cz6_ BK103.out
        go_wp2_with (first | (go_at_call 51; (with_reducible refine (addr_IsAsked.calls a0_1 false _ A42.out).mono ?_); rintro e w' ⟨rfl, ⟨nd, rfl⟩⟩; (try first | exact ⟨rfl, _, World.drewN_drewN _ _ _⟩ | exact ⟨rfl, _, Eq.trans (World.drewN_drewN _ _ _) (congrArg (World.drewN _) (Nat.add_assoc _ _ _))⟩)))
        repeat (go_quiet (first | (go_at_call 51; (with_reducible refine (addr_IsAsked.calls a0_1 false _ A42.out).mono ?_); rintro e w' ⟨rfl, ⟨nd, rfl⟩⟩; (try first | exact ⟨rfl, _, World.drewN_drewN _ _ _⟩ | exact ⟨rfl, _, Eq.trans (World.drewN_drewN _ _ _) (congrArg (World.drewN _) (Nat.add_assoc _ _ _))⟩))); try go_wp2_with (first | (go_at_call 51; (with_reducible refine (addr_IsAsked.calls a0_1 false _ A42.out).mono ?_); rintro e w' ⟨rfl, ⟨nd, rfl⟩⟩; (try first | exact ⟨rfl, _, World.drewN_drewN _ _ _⟩ | exact ⟨rfl, _, Eq.trans (World.drewN_drewN _ _ _) (congrArg (World.drewN _) (Nat.add_assoc _ _ _))⟩))))
        go_ret
        exact ⟨ew_, bz_⟩
end Go.Proofs.Ytfomnmdjbdohgaa.P

/- For each Go function a Lean function, and the proof that a call comes to what it tells: made by program out of the translation (the kit's print, with texts by hand put in). No condition. -/
import Derived.Test.YteibolilodgjnaaSq
import Derived.Test.YteibolilodgjnaaPx0
import Derived.Test.YteibolilodgjnaaPx11
namespace Go.Proofs.Yteibolilodgjnaa.P
open Go.RowKit Go.Proofs.Yteibolilodgjnaa.HRows Go.Proofs.YteibolilodgjnaaW.PrintWords Go.Proofs.YteibolilodgjnaaW.PrintLast Go.Proofs.YteibolilodgjnaaW.PrintMore
attribute [local go_sem] max2_int min2_int max_two min_two max_three min_three max_four min_four   -- for this text's walks alone
set_option linter.unusedVariables false
set_option linter.unusedSimpArgs false

/-! ### stolonref15_Right: function 17 -/
mutual
def stolonref15_Right.j0 : Nat → Bool → Int → Int → Int → Int → Int → List (S53) → Option (Bool)
 | 0, _, _, _, _, _, _, _ => none
 | k + 1, x16, x173000, x173001, x173002, x173003, x173004, x173005 => if x16 = true then (some false) else (stolonref15_Right.l0 k 0 x173000 x173001 x173002 x173003 x173004 x173005)
def stolonref15_Right.l0 : Nat → Int → Int → Int → Int → Int → Int → List (S53) → Option (Bool)
 | 0, _, _, _, _, _, _, _ => none
 | k + 1, x4, x173000, x173001, x173002, x173003, x173004, x173005 => if x4 < (x173005.length : Int) then (if 0 ≤ x4 then (if ((rd_T53 x173005 x4).f0) < 0 then (some false) else (if ((rd_T53 x173005 x4).f0) > 127 then (some false) else (if (((rd_T53 x173005 x4).f1) != (decide (((rd_T53 x173005 x4).f0) ≥ 64))) = true then (some false) else (if x4 > 0 then (if 0 ≤ (wrap64 (x4 - 1)) then (if (wrap64 (x4 - 1)) < (x173005.length : Int) then (if ((rd_T53 x173005 (wrap64 (x4 - 1))).f0) ≥ ((rd_T53 x173005 x4).f0) then (some false) else (stolonref15_Right.l0 k (wrap64 (x4 + 1)) x173000 x173001 x173002 x173003 x173004 x173005)) else (none)) else (none)) else (stolonref15_Right.l0 k (wrap64 (x4 + 1)) x173000 x173001 x173002 x173003 x173004 x173005))))) else (none)) else (if x173002 = 0 then (if x173003 ≥ 64 then (if x173003 ≤ 127 then (some (decide (x173004 > 0))) else (some false)) else (some false)) else (if x173003 = (-1) then (some (x173004 == 0)) else (some false)))
end
def stolonref15_Right.f (k : Nat) (a0_0 : Int) (a0_1 : Int) (a0_2 : Int) (a0_3 : Int) (a0_4 : Int) (l0_5 : List (S53)) : Option (Bool) := (stolonref01_Asked.f a0_1).bind fun t173 => (if t173 = true then (stolonref15_Right.j0 k (decide ((l0_5.length : Int) > 128)) a0_0 a0_1 a0_2 a0_3 a0_4 l0_5) else (stolonref15_Right.j0 k true a0_0 a0_1 a0_2 a0_3 a0_4 l0_5))
theorem stolonref15_Right.mono_l : ∀ k, (∀ y0 y1 y2 y3 y4 y5 y6, LeO (stolonref15_Right.j0 k y0 y1 y2 y3 y4 y5 y6) (stolonref15_Right.j0 (k + 1) y0 y1 y2 y3 y4 y5 y6)) ∧ (∀ y0 y1 y2 y3 y4 y5 y6, LeO (stolonref15_Right.l0 k y0 y1 y2 y3 y4 y5 y6) (stolonref15_Right.l0 (k + 1) y0 y1 y2 y3 y4 y5 y6))
 | 0 => ⟨fun _ _ _ _ _ _ _ r h => by simp [stolonref15_Right.j0] at h, fun _ _ _ _ _ _ _ r h => by simp [stolonref15_Right.l0] at h⟩
 | k + 1 => by
  obtain ⟨ih0, ih1⟩ := stolonref15_Right.mono_l k
  refine ⟨?_, ?_⟩
  ·intro y0 y1 y2 y3 y4 y5 y6
   unfold stolonref15_Right.j0
   repeat' first
   | (with_reducible exact ih0 _ _ _ _ _ _ _)
   | (with_reducible exact ih1 _ _ _ _ _ _ _)
   | (with_reducible exact LeO.refl _)
   | (with_reducible exact LeO.none _)
   | (with_reducible refine LeO.ite ?_ ?_)
   | (with_reducible refine LeO.bind ?_ (fun _ => ?_))
   | exact ih0 _ _ _ _ _ _ _
   | exact ih1 _ _ _ _ _ _ _
   | exact LeO.none _
   | refine LeO.ite ?_ ?_
   | refine LeO.bind ?_ (fun _ => ?_)
  ·intro y0 y1 y2 y3 y4 y5 y6
   unfold stolonref15_Right.l0
   repeat' first
   | (with_reducible exact ih0 _ _ _ _ _ _ _)
   | (with_reducible exact ih1 _ _ _ _ _ _ _)
   | (with_reducible exact LeO.refl _)
   | (with_reducible exact LeO.none _)
   | (with_reducible refine LeO.ite ?_ ?_)
   | (with_reducible refine LeO.bind ?_ (fun _ => ?_))
   | exact ih0 _ _ _ _ _ _ _
   | exact ih1 _ _ _ _ _ _ _
   | exact LeO.none _
   | refine LeO.ite ?_ ?_
   | refine LeO.bind ?_ (fun _ => ?_)
theorem stolonref15_Right.mono : ∀ a0 a1 a2 a3 a4 a5 k, LeO (stolonref15_Right.f k a0 a1 a2 a3 a4 a5) (stolonref15_Right.f (k + 1) a0 a1 a2 a3 a4 a5) := by
 intro a0 a1 a2 a3 a4 a5 k
 obtain ⟨ih0, ih1⟩ := stolonref15_Right.mono_l k
 unfold stolonref15_Right.f
 repeat' first
   | (with_reducible exact ih0 _ _ _ _ _ _ _)
   | (with_reducible exact ih1 _ _ _ _ _ _ _)
   | (with_reducible exact LeO.refl _)
   | (with_reducible exact LeO.none _)
   | (with_reducible refine LeO.ite ?_ ?_)
   | (with_reducible refine LeO.bind ?_ (fun _ => ?_))
   | exact ih0 _ _ _ _ _ _ _
   | exact ih1 _ _ _ _ _ _ _
   | exact LeO.none _
   | refine LeO.ite ?_ ?_
   | refine LeO.bind ?_ (fun _ => ?_)
set_option maxHeartbeats 8000000 in
set_option maxRecDepth 100000 in
theorem stolonref15_Right.calls (k : Nat) (a0_0 : Int) (a0_1 : Int) (a0_2 : Int) (a0_3 : Int) (a0_4 : Int) (A0_5 : Option Addr) (c0_5 : Nat) (l0_5 : List (S53)) (r : Bool) (w : World) (hr0_5 : Kd.C k53 w A0_5 l0_5.length l0_5) (hc0_5 : l0_5.length ≤ c0_5) (h : stolonref15_Right.f k a0_0 a0_1 a0_2 a0_3 a0_4 l0_5 = some r) :
  Calls Try.prog 17 #[.agg #[.int .u32 a0_0, .int .u32 a0_1, .int .u32 a0_2, .int .i64 a0_3, .int .u32 a0_4, .slice A0_5 l0_5.length c0_5]] w fun e w' => e = .returned (.bool r) ∧ Below w.heap.size w w' := by
 have hu27 := Try.underlying27
 have HR0_5 := m_ hr0_5
 have HC0_5 := m_ hc0_5
 clear hr0_5 hc0_5
 have HB := m_ (Below.refl w.heap.size w)
 have H : ((stolonref01_Asked.f a0_1).bind fun t173 => (if t173 = true then (stolonref15_Right.j0 k (decide ((l0_5.length : Int) > 128)) a0_0 a0_1 a0_2 a0_3 a0_4 l0_5) else (stolonref15_Right.j0 k true a0_0 a0_1 a0_2 a0_3 a0_4 l0_5))) = some r := h
 clear h
 replace H := Option.bind_eq_some_iff.mp H
 obtain ⟨t173, A20, H⟩ := H
 replace H : (if t173 = true then (stolonref15_Right.j0 k (decide ((l0_5.length : Int) > 128)) a0_0 a0_1 a0_2 a0_3 a0_4 l0_5) else (stolonref15_Right.j0 k true a0_0 a0_1 a0_2 a0_3 a0_4 l0_5)) = some r := H
 have A2 := m_ A20
 clear A20
 have HC3 := m_ H
 clear H
 go_enter Try.func17, Try.ntmps17
 go_upto_region 2 with (first | ((with_reducible refine gate_dst (N := 1) rfl ?_); (try (refine gate_guard (by rfl) ?_; dsimp only)); refine box_event ?hg (N := 1) ?hd (cs := #[.int .u32 a0_0, .int .u32 a0_1, .int .u32 a0_2, .int .i64 a0_3, .int .u32 a0_4, .slice A0_5 l0_5.length c0_5]) (t := 27) ?hr ?_; (case hd => rfl); (case hg => rfl); (case hr => first | (go_simp; done) | (go_simp; rfl)); intro gb172 hg w4 hbox hb; have n0_ := m_ (below_step (by repeat (first | (with_reducible first | exact HB.out | apply pa_ | apply pn_ | apply pd_) | exact HB.out)) hb); have n1_ := m_ (hbox); have n2_ := m_ ((by rw [hg]; exact (below_size (by repeat (first | (with_reducible first | exact HB.out | apply pa_ | apply pn_ | apply pd_) | exact HB.out))) : w.heap.size ≤ gb172)); have n3_ := m_ ((by rw [hg]; exact (below_size (by repeat (first | (with_reducible first | exact HB.out | apply pa_ | apply pn_ | apply pd_) | exact HB.out))) : w.heap.size ≤ gb172)); clear HB; have HB := n0_; have BK172 := n1_; have GW172 := n2_; have GE172 := n3_; clear n0_ n1_ n2_ n3_; clear hb hbox hg; have hcz5_0 : w4.cell? ⟨gb172, 0, none⟩ = some (.int .u32 a0_0) := (bc_ BK172.out 0).trans rfl; have hcz5_1 : w4.cell? ⟨gb172, 1, none⟩ = some (.int .u32 a0_1) := (bc_ BK172.out 1).trans rfl; have hcz5_2 : w4.cell? ⟨gb172, 2, none⟩ = some (.int .u32 a0_2) := (bc_ BK172.out 2).trans rfl; have hcz5_3 : w4.cell? ⟨gb172, 3, none⟩ = some (.int .i64 a0_3) := (bc_ BK172.out 3).trans rfl; have hcz5_4 : w4.cell? ⟨gb172, 4, none⟩ = some (.int .u32 a0_4) := (bc_ BK172.out 4).trans rfl; have hcz5_5 : w4.cell? ⟨gb172, 5, none⟩ = some (.slice A0_5 l0_5.length c0_5) := (bc_ BK172.out 5).trans rfl; have hfz5_0 := bf_ BK172.out 0; have hfz5_1 := bf_ BK172.out 1; have hfz5_2 := bf_ BK172.out 2; have hfz5_3 := bf_ BK172.out 3; have hfz5_4 := bf_ BK172.out 4; have hfz5_5 := bf_ BK172.out 5) | ((with_reducible refine gate_callee (f := 30) rfl ?_); refine goesL_ (some 8) rfl rfl Try.func30 (by kernel_rfl) rfl #[.int .u32 a0_1] rfl (by (try simp only [List.map_toArray, List.map_cons, List.map_nil]); first | done | rfl | (simp only [List.length_drop, List.length_take]; rfl)) ?_; (with_reducible refine (stolonref01_Asked.calls a0_1 t173 _ A2.out).mono ?_); rintro e w' ⟨rfl, ⟨nd, rfl⟩⟩; refine ⟨_, rfl, ?_⟩))
 (try simp only [Act.put, List.setIfInBounds_toArray, List.set_cons_zero, List.set_cons_succ])
 go_cut [16] (fun v16 wc => ∃ (kq : Nat) (x16_2 : Bool), v16 = .bool x16_2 ∧ Aside0 (stolonref15_Right.j0 kq x16_2 a0_0 a0_1 a0_2 a0_3 a0_4 l0_5 = some r) ∧ Aside0 (kq ≤ k) ∧ Aside0 (wc.heap[gb172]? = some (.cells #[.int .u32 a0_0, .int .u32 a0_1, .int .u32 a0_2, .int .i64 a0_3, .int .u32 a0_4, (.slice A0_5 l0_5.length c0_5)] 27 (0, 0))) ∧ Aside0 (Below w.heap.size w wc))
 case first =>
  have H := HC3.out
  clear HC3
  by_cases c6 : t173 = true
  ·subst c6
   have H1 : (stolonref15_Right.j0 k (decide ((l0_5.length : Int) > 128)) a0_0 a0_1 a0_2 a0_3 a0_4 l0_5) = some r := by rw [if_pos rfl] at H; exact H
   clear H
   have H := H1
   clear H1
   have H' := m_ H
   clear H
   have hcz7_0 : w4.cell? ⟨gb172, 0, none⟩ = some (.int .u32 a0_0) := (bc_ BK172.out 0).trans rfl
   have hcz7_1 : w4.cell? ⟨gb172, 1, none⟩ = some (.int .u32 a0_1) := (bc_ BK172.out 1).trans rfl
   have hcz7_2 : w4.cell? ⟨gb172, 2, none⟩ = some (.int .u32 a0_2) := (bc_ BK172.out 2).trans rfl
   have hcz7_3 : w4.cell? ⟨gb172, 3, none⟩ = some (.int .i64 a0_3) := (bc_ BK172.out 3).trans rfl
   have hcz7_4 : w4.cell? ⟨gb172, 4, none⟩ = some (.int .u32 a0_4) := (bc_ BK172.out 4).trans rfl
   have hcz7_5 : w4.cell? ⟨gb172, 5, none⟩ = some (.slice A0_5 l0_5.length c0_5) := (bc_ BK172.out 5).trans rfl
   have hfz7_0 := bf_ BK172.out 0
   have hfz7_1 := bf_ BK172.out 1
   have hfz7_2 := bf_ BK172.out 2
   have hfz7_3 := bf_ BK172.out 3
   have hfz7_4 := bf_ BK172.out 4
   have hfz7_5 := bf_ BK172.out 5
   go_wp2
   go_meet
   case rel => exact ⟨_, (decide ((l0_5.length : Int) > 128)), (by first | rfl | (simp; done) | (simp [*]; done)), H', ⟨by first | omega | exact Nat.le_refl _⟩, ⟨by (with_reducible repeat (first | refine bn_ ?_ _ | refine bd_ ?_ | refine ba_ ?_ _)); exact BK172.out⟩, ⟨by repeat (first | (with_reducible first | exact HB.out | apply pa_ | apply pn_ | apply pd_ | refine below_set ?_ GE172.out) | exact HB.out)⟩⟩
  ·replace c6 := Bool.eq_false_iff.mpr c6
   subst c6
   have H1 : (stolonref15_Right.j0 k true a0_0 a0_1 a0_2 a0_3 a0_4 l0_5) = some r := by rw [if_neg (show ¬ (false = true) by decide)] at H; exact H
   clear H
   have H := H1
   clear H1
   have H' := m_ H
   clear H
   go_wp2
   go_meet
   case rel => exact ⟨_, (true), (by first | rfl | (simp; done) | (simp [*]; done)), H', ⟨by first | omega | exact Nat.le_refl _⟩, ⟨by (with_reducible repeat (first | refine bn_ ?_ _ | refine bd_ ?_ | refine ba_ ?_ _)); exact BK172.out⟩, ⟨by repeat (first | (with_reducible first | exact HB.out | apply pa_ | apply pn_ | apply pd_ | refine below_set ?_ GE172.out) | exact HB.out)⟩⟩
 case rest =>
  clear HC3
  try clear c1
  try clear p2
  try clear c3
  try clear c6
  try clear hcz5_0
  try clear hcz5_1
  try clear hcz5_2
  try clear hcz5_3
  try clear hcz5_4
  try clear hcz5_5
  try clear hcz7_0
  try clear hcz7_1
  try clear hcz7_2
  try clear hcz7_3
  try clear hcz7_4
  try clear hcz7_5
  try clear hfz5_0
  try clear hfz5_1
  try clear hfz5_2
  try clear hfz5_3
  try clear hfz5_4
  try clear hfz5_5
  try clear hfz7_0
  try clear hfz7_1
  try clear hfz7_2
  try clear hfz7_3
  try clear hfz7_4
  try clear hfz7_5
  obtain ⟨kq, x16_2, rfl, HA, HJ2, BK172, HB⟩ := hcut
  cases kq with
  | zero => exact absurd HA.out (by simp [stolonref15_Right.j0])
  | succ kj2 =>
   have H := HA.out
   clear HA
   simp only [stolonref15_Right.j0] at H
   by_cases c8 : x16_2 = true
   ·subst c8
    have H1 : (some false) = some r := by rw [if_pos rfl] at H; exact H
    clear H
    have H := H1
    clear H1
    obtain rfl := Option.some.inj H
    go_wp2
    go_ret
    exact ⟨by first | rfl | (simp [errW_none, errW_some] <;> rfl) | (simp [*, errW_none, errW_some] <;> rfl), by repeat (first | (with_reducible first | exact HB.out | apply pa_ | apply pn_ | apply pd_ | refine below_set ?_ GE172.out) | exact HB.out)⟩
   ·replace c8 := Bool.eq_false_iff.mpr c8
    subst c8
    have H1 : (stolonref15_Right.l0 kj2 0 a0_0 a0_1 a0_2 a0_3 a0_4 l0_5) = some r := by rw [if_neg (show ¬ (false = true) by decide)] at H; exact H
    clear H
    have H := H1
    clear H1
    have H' := m_ H
    clear H
    go_wp2
    go_loopg [4] kj2 (fun kq v4 w' => ∃ (x4_2 : Int), v4 = .int .i64 x4_2 ∧ Aside0 (stolonref15_Right.l0 kq x4_2 a0_0 a0_1 a0_2 a0_3 a0_4 l0_5 = some r) ∧ Aside0 (kq ≤ kj2) ∧ Aside0 (w'.heap[gb172]? = some (.cells #[.int .u32 a0_0, .int .u32 a0_1, .int .u32 a0_2, .int .i64 a0_3, .int .u32 a0_4, (.slice A0_5 l0_5.length c0_5)] 27 (0, 0))) ∧ Aside0 (Below w.heap.size w w'))
    case atStart => exact ⟨(0), (by first | rfl | (simp; done) | (simp [*]; done)), H', ⟨Nat.le_refl _⟩, ⟨by (with_reducible repeat (first | refine bn_ ?_ _ | refine bd_ ?_ | refine ba_ ?_ _)); exact BK172.out⟩, ⟨by repeat (first | (with_reducible first | exact HB.out | apply pa_ | apply pn_ | apply pd_ | refine below_set ?_ GE172.out) | exact HB.out)⟩⟩
    case round =>
     clear H'
     try clear c1
     try clear p2
     try clear c3
     try clear c6
     try clear c8
     try clear hcz5_0
     try clear hcz5_1
     try clear hcz5_2
     try clear hcz5_3
     try clear hcz5_4
     try clear hcz5_5
     try clear hcz7_0
     try clear hcz7_1
     try clear hcz7_2
     try clear hcz7_3
     try clear hcz7_4
     try clear hcz7_5
     try clear hfz5_0
     try clear hfz5_1
     try clear hfz5_2
     try clear hfz5_3
     try clear hfz5_4
     try clear hfz5_5
     try clear hfz7_0
     try clear hfz7_1
     try clear hfz7_2
     try clear hfz7_3
     try clear hfz7_4
     try clear hfz7_5
     try clear p2
     obtain ⟨x4_2, rfl, HA, HK2, BK172, HB⟩ := hrel
     cases gk with
     | zero => exact absurd HA.out (by simp [stolonref15_Right.l0])
     | succ k2 =>
      have H := HA.out
      clear HA
      simp only [stolonref15_Right.l0] at H
      by_cases c9 : x4_2 < (l0_5.length : Int)
      ·rw [if_pos c9] at H
       have c9b0 : decide (x4_2 < (l0_5.length : Int)) = true := decide_eq_true c9
       clear c9
       by_cases c10 : 0 ≤ x4_2
       ·rw [if_pos c10] at H
        have c10b0 : decide (0 ≤ x4_2) = true := decide_eq_true c10
        clear c10
        by_cases c11 : ((rd_T53 l0_5 x4_2).f0) < 0
        ·rw [if_pos c11] at H
         have c11b0 : decide (((rd_T53 l0_5 x4_2).f0) < 0) = true := decide_eq_true c11
         clear c11
         obtain rfl := Option.some.inj H
         have hcz12_0 : wr.cell? ⟨gb172, 0, none⟩ = some (.int .u32 a0_0) := (bc_ BK172.out 0).trans rfl
         have hcz12_1 : wr.cell? ⟨gb172, 1, none⟩ = some (.int .u32 a0_1) := (bc_ BK172.out 1).trans rfl
         have hcz12_2 : wr.cell? ⟨gb172, 2, none⟩ = some (.int .u32 a0_2) := (bc_ BK172.out 2).trans rfl
         have hcz12_3 : wr.cell? ⟨gb172, 3, none⟩ = some (.int .i64 a0_3) := (bc_ BK172.out 3).trans rfl
         have hcz12_4 : wr.cell? ⟨gb172, 4, none⟩ = some (.int .u32 a0_4) := (bc_ BK172.out 4).trans rfl
         have hcz12_5 : wr.cell? ⟨gb172, 5, none⟩ = some (.slice A0_5 l0_5.length c0_5) := (bc_ BK172.out 5).trans rfl
         have hfz12_0 := bf_ BK172.out 0
         have hfz12_1 := bf_ BK172.out 1
         have hfz12_2 := bf_ BK172.out 2
         have hfz12_3 := bf_ BK172.out 3
         have hfz12_4 := bf_ BK172.out 4
         have hfz12_5 := bf_ BK172.out 5
         have p174 : 0 ≤ (x4_2 : Int) := of_decide_eq_true (by first | (with_reducible assumption) | assumption)
         have q174 : x4_2 < (l0_5.length : Int) := of_decide_eq_true (by first | (with_reducible assumption) | assumption)
         obtain ⟨ad174, e174, hx174_0, hx174_1⟩ := at_T53 HR0_5.out x4_2 p174 q174
         cases e174
         replace hx174_0 := kp_ HB.out hx174_0
         replace hx174_1 := kp_ HB.out hx174_1
         replace p174 := eq_true p174
         replace q174 := eq_true q174
         go_wp2
         go_ret
         exact ⟨by first | rfl | (simp [errW_none, errW_some] <;> rfl) | (simp [*, errW_none, errW_some] <;> rfl), by repeat (first | (with_reducible first | exact HB.out | apply pa_ | apply pn_ | apply pd_ | refine below_set ?_ GE172.out) | exact HB.out)⟩
        ·rw [if_neg c11] at H
         have c11b0 : decide (((rd_T53 l0_5 x4_2).f0) < 0) = false := decide_eq_false c11
         clear c11
         by_cases c13 : ((rd_T53 l0_5 x4_2).f0) > 127
         ·rw [if_pos c13] at H
          have c13b0 : decide (127 < ((rd_T53 l0_5 x4_2).f0)) = true := decide_eq_true c13
          clear c13
          obtain rfl := Option.some.inj H
          have hcz14_0 : wr.cell? ⟨gb172, 0, none⟩ = some (.int .u32 a0_0) := (bc_ BK172.out 0).trans rfl
          have hcz14_1 : wr.cell? ⟨gb172, 1, none⟩ = some (.int .u32 a0_1) := (bc_ BK172.out 1).trans rfl
          have hcz14_2 : wr.cell? ⟨gb172, 2, none⟩ = some (.int .u32 a0_2) := (bc_ BK172.out 2).trans rfl
          have hcz14_3 : wr.cell? ⟨gb172, 3, none⟩ = some (.int .i64 a0_3) := (bc_ BK172.out 3).trans rfl
          have hcz14_4 : wr.cell? ⟨gb172, 4, none⟩ = some (.int .u32 a0_4) := (bc_ BK172.out 4).trans rfl
          have hcz14_5 : wr.cell? ⟨gb172, 5, none⟩ = some (.slice A0_5 l0_5.length c0_5) := (bc_ BK172.out 5).trans rfl
          have hfz14_0 := bf_ BK172.out 0
          have hfz14_1 := bf_ BK172.out 1
          have hfz14_2 := bf_ BK172.out 2
          have hfz14_3 := bf_ BK172.out 3
          have hfz14_4 := bf_ BK172.out 4
          have hfz14_5 := bf_ BK172.out 5
          have p174 : 0 ≤ (x4_2 : Int) := of_decide_eq_true (by first | (with_reducible assumption) | assumption)
          have q174 : x4_2 < (l0_5.length : Int) := of_decide_eq_true (by first | (with_reducible assumption) | assumption)
          obtain ⟨ad174, e174, hx174_0, hx174_1⟩ := at_T53 HR0_5.out x4_2 p174 q174
          cases e174
          replace hx174_0 := kp_ HB.out hx174_0
          replace hx174_1 := kp_ HB.out hx174_1
          replace p174 := eq_true p174
          replace q174 := eq_true q174
          go_wp2
          go_ret
          exact ⟨by first | rfl | (simp [errW_none, errW_some] <;> rfl) | (simp [*, errW_none, errW_some] <;> rfl), by repeat (first | (with_reducible first | exact HB.out | apply pa_ | apply pn_ | apply pd_ | refine below_set ?_ GE172.out) | exact HB.out)⟩
         ·rw [if_neg c13] at H
          have c13b0 : decide (127 < ((rd_T53 l0_5 x4_2).f0)) = false := decide_eq_false c13
          clear c13
          by_cases c15 : (((rd_T53 l0_5 x4_2).f1) != (decide (((rd_T53 l0_5 x4_2).f0) ≥ 64))) = true
          ·rw [if_pos c15] at H
           have c15b0 : (((rd_T53 l0_5 x4_2).f1) != (decide (((rd_T53 l0_5 x4_2).f0) ≥ 64))) = true := c15
           (try (have c15b1 : decide (((rd_T53 l0_5 x4_2).f1) = (decide (((rd_T53 l0_5 x4_2).f0) ≥ 64))) = false := by simpa using c15))
           (try (have c15b2 : (((rd_T53 l0_5 x4_2).f1) == (decide (((rd_T53 l0_5 x4_2).f0) ≥ 64))) = false := by simpa using c15))
           (try (have c15b3 : ¬ (((rd_T53 l0_5 x4_2).f1) = (decide (((rd_T53 l0_5 x4_2).f0) ≥ 64))) := by simpa using c15))
           clear c15
           obtain rfl := Option.some.inj H
           have hcz16_0 : wr.cell? ⟨gb172, 0, none⟩ = some (.int .u32 a0_0) := (bc_ BK172.out 0).trans rfl
           have hcz16_1 : wr.cell? ⟨gb172, 1, none⟩ = some (.int .u32 a0_1) := (bc_ BK172.out 1).trans rfl
           have hcz16_2 : wr.cell? ⟨gb172, 2, none⟩ = some (.int .u32 a0_2) := (bc_ BK172.out 2).trans rfl
           have hcz16_3 : wr.cell? ⟨gb172, 3, none⟩ = some (.int .i64 a0_3) := (bc_ BK172.out 3).trans rfl
           have hcz16_4 : wr.cell? ⟨gb172, 4, none⟩ = some (.int .u32 a0_4) := (bc_ BK172.out 4).trans rfl
           have hcz16_5 : wr.cell? ⟨gb172, 5, none⟩ = some (.slice A0_5 l0_5.length c0_5) := (bc_ BK172.out 5).trans rfl
           have hfz16_0 := bf_ BK172.out 0
           have hfz16_1 := bf_ BK172.out 1
           have hfz16_2 := bf_ BK172.out 2
           have hfz16_3 := bf_ BK172.out 3
           have hfz16_4 := bf_ BK172.out 4
           have hfz16_5 := bf_ BK172.out 5
           have p174 : 0 ≤ (x4_2 : Int) := of_decide_eq_true (by first | (with_reducible assumption) | assumption)
           have q174 : x4_2 < (l0_5.length : Int) := of_decide_eq_true (by first | (with_reducible assumption) | assumption)
           obtain ⟨ad174, e174, hx174_0, hx174_1⟩ := at_T53 HR0_5.out x4_2 p174 q174
           cases e174
           replace hx174_0 := kp_ HB.out hx174_0
           replace hx174_1 := kp_ HB.out hx174_1
           replace p174 := eq_true p174
           replace q174 := eq_true q174
           have p175 : 0 ≤ (x4_2 : Int) := of_decide_eq_true (by first | (with_reducible assumption) | assumption)
           have q175 : x4_2 < (l0_5.length : Int) := of_decide_eq_true (by first | (with_reducible assumption) | assumption)
           obtain ⟨ad175, e175, hx175_0, hx175_1⟩ := at_T53 HR0_5.out x4_2 p175 q175
           obtain rfl : ad174 = ad175 := (by injection e175)
           replace hx175_0 := kp_ HB.out hx175_0
           replace hx175_1 := kp_ HB.out hx175_1
           replace p175 := eq_true p175
           replace q175 := eq_true q175
           go_wp2
           go_ret
           exact ⟨by first | rfl | (simp [errW_none, errW_some] <;> rfl) | (simp [*, errW_none, errW_some] <;> rfl), by repeat (first | (with_reducible first | exact HB.out | apply pa_ | apply pn_ | apply pd_ | refine below_set ?_ GE172.out) | exact HB.out)⟩
          ·rw [if_neg c15] at H
           have c15b0 : (((rd_T53 l0_5 x4_2).f1) != (decide (((rd_T53 l0_5 x4_2).f0) ≥ 64))) = false := by simpa using c15
           (try (have c15b1 : decide (((rd_T53 l0_5 x4_2).f1) = (decide (((rd_T53 l0_5 x4_2).f0) ≥ 64))) = true := by simpa using c15))
           (try (have c15b2 : (((rd_T53 l0_5 x4_2).f1) == (decide (((rd_T53 l0_5 x4_2).f0) ≥ 64))) = true := by simpa using c15))
           clear c15
           by_cases c17 : x4_2 > 0
           ·rw [if_pos c17] at H
            have c17b0 : decide (0 < x4_2) = true := decide_eq_true c17
            clear c17
            obtain ⟨ji18, hji18⟩ : ∃ j_ : Int, (wrap64 (x4_2 - 1)) = j_ := ⟨_, rfl⟩
            replace H : (if 0 ≤ (ji18) then (if (ji18) < (l0_5.length : Int) then (if ((rd_T53 l0_5 (ji18)).f0) ≥ ((rd_T53 l0_5 x4_2).f0) then (some false) else (stolonref15_Right.l0 k2 (wrap64 (x4_2 + 1)) a0_0 a0_1 a0_2 a0_3 a0_4 l0_5)) else (none)) else (none)) = some r := by first | (rw [hji18] at H; exact H) | (simp only [hji18] at H ⊢; exact H)
            have hji18w : (IntKind.i64.wrap (x4_2 - 1)) = ji18 := (i64_w _).trans hji18
            by_cases c19 : 0 ≤ (ji18)
            ·rw [if_pos c19] at H
             have c19b0 : decide (0 ≤ (ji18)) = true := decide_eq_true c19
             clear c19
             by_cases c20 : (ji18) < (l0_5.length : Int)
             ·rw [if_pos c20] at H
              have c20b0 : decide ((ji18) < (l0_5.length : Int)) = true := decide_eq_true c20
              clear c20
              by_cases c21 : ((rd_T53 l0_5 (ji18)).f0) ≥ ((rd_T53 l0_5 x4_2).f0)
              ·rw [if_pos c21] at H
               have c21b0 : decide (((rd_T53 l0_5 x4_2).f0) ≤ ((rd_T53 l0_5 (ji18)).f0)) = true := decide_eq_true c21
               clear c21
               obtain rfl := Option.some.inj H
               have hcz22_0 : wr.cell? ⟨gb172, 0, none⟩ = some (.int .u32 a0_0) := (bc_ BK172.out 0).trans rfl
               have hcz22_1 : wr.cell? ⟨gb172, 1, none⟩ = some (.int .u32 a0_1) := (bc_ BK172.out 1).trans rfl
               have hcz22_2 : wr.cell? ⟨gb172, 2, none⟩ = some (.int .u32 a0_2) := (bc_ BK172.out 2).trans rfl
               have hcz22_3 : wr.cell? ⟨gb172, 3, none⟩ = some (.int .i64 a0_3) := (bc_ BK172.out 3).trans rfl
               have hcz22_4 : wr.cell? ⟨gb172, 4, none⟩ = some (.int .u32 a0_4) := (bc_ BK172.out 4).trans rfl
               have hcz22_5 : wr.cell? ⟨gb172, 5, none⟩ = some (.slice A0_5 l0_5.length c0_5) := (bc_ BK172.out 5).trans rfl
               have hfz22_0 := bf_ BK172.out 0
               have hfz22_1 := bf_ BK172.out 1
               have hfz22_2 := bf_ BK172.out 2
               have hfz22_3 := bf_ BK172.out 3
               have hfz22_4 := bf_ BK172.out 4
               have hfz22_5 := bf_ BK172.out 5
               have p174 : 0 ≤ (x4_2 : Int) := of_decide_eq_true (by first | (with_reducible assumption) | assumption)
               have q174 : x4_2 < (l0_5.length : Int) := of_decide_eq_true (by first | (with_reducible assumption) | assumption)
               obtain ⟨ad174, e174, hx174_0, hx174_1⟩ := at_T53 HR0_5.out x4_2 p174 q174
               cases e174
               replace hx174_0 := kp_ HB.out hx174_0
               replace hx174_1 := kp_ HB.out hx174_1
               replace p174 := eq_true p174
               replace q174 := eq_true q174
               have p175 : 0 ≤ (x4_2 : Int) := of_decide_eq_true (by first | (with_reducible assumption) | assumption)
               have q175 : x4_2 < (l0_5.length : Int) := of_decide_eq_true (by first | (with_reducible assumption) | assumption)
               obtain ⟨ad175, e175, hx175_0, hx175_1⟩ := at_T53 HR0_5.out x4_2 p175 q175
               obtain rfl : ad174 = ad175 := (by injection e175)
               replace hx175_0 := kp_ HB.out hx175_0
               replace hx175_1 := kp_ HB.out hx175_1
               replace p175 := eq_true p175
               replace q175 := eq_true q175
               have p176 : 0 ≤ ((ji18) : Int) := of_decide_eq_true (by first | (with_reducible assumption) | assumption)
               have q176 : (ji18) < (l0_5.length : Int) := of_decide_eq_true (by first | (with_reducible assumption) | assumption)
               obtain ⟨ad176, e176, hx176_0, hx176_1⟩ := at_T53 HR0_5.out (ji18) p176 q176
               obtain rfl : ad174 = ad176 := (by injection e176)
               replace hx176_0 := kp_ HB.out hx176_0
               replace hx176_1 := kp_ HB.out hx176_1
               replace p176 := eq_true p176
               replace q176 := eq_true q176
               go_wp2
               go_ret
               exact ⟨by first | rfl | (simp [errW_none, errW_some] <;> rfl) | (simp only [← hji18]; first | rfl | (simp [errW_none, errW_some] <;> rfl)) | (simp [*, errW_none, errW_some] <;> rfl), by repeat (first | (with_reducible first | exact HB.out | apply pa_ | apply pn_ | apply pd_ | refine below_set ?_ GE172.out) | exact HB.out)⟩
              ·rw [if_neg c21] at H
               have c21b0 : decide (((rd_T53 l0_5 x4_2).f0) ≤ ((rd_T53 l0_5 (ji18)).f0)) = false := decide_eq_false c21
               clear c21
               have H' := m_ H
               clear H
               have hcz23_0 : wr.cell? ⟨gb172, 0, none⟩ = some (.int .u32 a0_0) := (bc_ BK172.out 0).trans rfl
               have hcz23_1 : wr.cell? ⟨gb172, 1, none⟩ = some (.int .u32 a0_1) := (bc_ BK172.out 1).trans rfl
               have hcz23_2 : wr.cell? ⟨gb172, 2, none⟩ = some (.int .u32 a0_2) := (bc_ BK172.out 2).trans rfl
               have hcz23_3 : wr.cell? ⟨gb172, 3, none⟩ = some (.int .i64 a0_3) := (bc_ BK172.out 3).trans rfl
               have hcz23_4 : wr.cell? ⟨gb172, 4, none⟩ = some (.int .u32 a0_4) := (bc_ BK172.out 4).trans rfl
               have hcz23_5 : wr.cell? ⟨gb172, 5, none⟩ = some (.slice A0_5 l0_5.length c0_5) := (bc_ BK172.out 5).trans rfl
               have hfz23_0 := bf_ BK172.out 0
               have hfz23_1 := bf_ BK172.out 1
               have hfz23_2 := bf_ BK172.out 2
               have hfz23_3 := bf_ BK172.out 3
               have hfz23_4 := bf_ BK172.out 4
               have hfz23_5 := bf_ BK172.out 5
               have p174 : 0 ≤ (x4_2 : Int) := of_decide_eq_true (by first | (with_reducible assumption) | assumption)
               have q174 : x4_2 < (l0_5.length : Int) := of_decide_eq_true (by first | (with_reducible assumption) | assumption)
               obtain ⟨ad174, e174, hx174_0, hx174_1⟩ := at_T53 HR0_5.out x4_2 p174 q174
               cases e174
               replace hx174_0 := kp_ HB.out hx174_0
               replace hx174_1 := kp_ HB.out hx174_1
               replace p174 := eq_true p174
               replace q174 := eq_true q174
               have p175 : 0 ≤ (x4_2 : Int) := of_decide_eq_true (by first | (with_reducible assumption) | assumption)
               have q175 : x4_2 < (l0_5.length : Int) := of_decide_eq_true (by first | (with_reducible assumption) | assumption)
               obtain ⟨ad175, e175, hx175_0, hx175_1⟩ := at_T53 HR0_5.out x4_2 p175 q175
               obtain rfl : ad174 = ad175 := (by injection e175)
               replace hx175_0 := kp_ HB.out hx175_0
               replace hx175_1 := kp_ HB.out hx175_1
               replace p175 := eq_true p175
               replace q175 := eq_true q175
               have p176 : 0 ≤ ((ji18) : Int) := of_decide_eq_true (by first | (with_reducible assumption) | assumption)
               have q176 : (ji18) < (l0_5.length : Int) := of_decide_eq_true (by first | (with_reducible assumption) | assumption)
               obtain ⟨ad176, e176, hx176_0, hx176_1⟩ := at_T53 HR0_5.out (ji18) p176 q176
               obtain rfl : ad174 = ad176 := (by injection e176)
               replace hx176_0 := kp_ HB.out hx176_0
               replace hx176_1 := kp_ HB.out hx176_1
               replace p176 := eq_true p176
               replace q176 := eq_true q176
               go_wp2
               go_roundg k2
               case measure => have := HJ2.out; have := HK2.out; omega
               case rel => exact ⟨(wrap64 (x4_2 + 1)), (by first | rfl | (simp; done) | (simp [*]; done)), H', ⟨by have := HJ2.out; have := HK2.out; omega⟩, ⟨by (with_reducible repeat (first | refine bn_ ?_ _ | refine bd_ ?_ | refine ba_ ?_ _)); exact BK172.out⟩, ⟨by repeat (first | (with_reducible first | exact HB.out | apply pa_ | apply pn_ | apply pd_ | refine below_set ?_ GE172.out) | exact HB.out)⟩⟩
             ·rw [if_neg c20] at H
              exact absurd H (by simp)
            ·rw [if_neg c19] at H
             exact absurd H (by simp)
           ·rw [if_neg c17] at H
            have c17b0 : decide (0 < x4_2) = false := decide_eq_false c17
            clear c17
            have H' := m_ H
            clear H
            have hcz24_0 : wr.cell? ⟨gb172, 0, none⟩ = some (.int .u32 a0_0) := (bc_ BK172.out 0).trans rfl
            have hcz24_1 : wr.cell? ⟨gb172, 1, none⟩ = some (.int .u32 a0_1) := (bc_ BK172.out 1).trans rfl
            have hcz24_2 : wr.cell? ⟨gb172, 2, none⟩ = some (.int .u32 a0_2) := (bc_ BK172.out 2).trans rfl
            have hcz24_3 : wr.cell? ⟨gb172, 3, none⟩ = some (.int .i64 a0_3) := (bc_ BK172.out 3).trans rfl
            have hcz24_4 : wr.cell? ⟨gb172, 4, none⟩ = some (.int .u32 a0_4) := (bc_ BK172.out 4).trans rfl
            have hcz24_5 : wr.cell? ⟨gb172, 5, none⟩ = some (.slice A0_5 l0_5.length c0_5) := (bc_ BK172.out 5).trans rfl
            have hfz24_0 := bf_ BK172.out 0
            have hfz24_1 := bf_ BK172.out 1
            have hfz24_2 := bf_ BK172.out 2
            have hfz24_3 := bf_ BK172.out 3
            have hfz24_4 := bf_ BK172.out 4
            have hfz24_5 := bf_ BK172.out 5
            have p174 : 0 ≤ (x4_2 : Int) := of_decide_eq_true (by first | (with_reducible assumption) | assumption)
            have q174 : x4_2 < (l0_5.length : Int) := of_decide_eq_true (by first | (with_reducible assumption) | assumption)
            obtain ⟨ad174, e174, hx174_0, hx174_1⟩ := at_T53 HR0_5.out x4_2 p174 q174
            cases e174
            replace hx174_0 := kp_ HB.out hx174_0
            replace hx174_1 := kp_ HB.out hx174_1
            replace p174 := eq_true p174
            replace q174 := eq_true q174
            have p175 : 0 ≤ (x4_2 : Int) := of_decide_eq_true (by first | (with_reducible assumption) | assumption)
            have q175 : x4_2 < (l0_5.length : Int) := of_decide_eq_true (by first | (with_reducible assumption) | assumption)
            obtain ⟨ad175, e175, hx175_0, hx175_1⟩ := at_T53 HR0_5.out x4_2 p175 q175
            obtain rfl : ad174 = ad175 := (by injection e175)
            replace hx175_0 := kp_ HB.out hx175_0
            replace hx175_1 := kp_ HB.out hx175_1
            replace p175 := eq_true p175
            replace q175 := eq_true q175
            go_wp2
            go_roundg k2
            case measure => have := HJ2.out; have := HK2.out; omega
            case rel => exact ⟨(wrap64 (x4_2 + 1)), (by first | rfl | (simp; done) | (simp [*]; done)), H', ⟨by have := HJ2.out; have := HK2.out; omega⟩, ⟨by (with_reducible repeat (first | refine bn_ ?_ _ | refine bd_ ?_ | refine ba_ ?_ _)); exact BK172.out⟩, ⟨by repeat (first | (with_reducible first | exact HB.out | apply pa_ | apply pn_ | apply pd_ | refine below_set ?_ GE172.out) | exact HB.out)⟩⟩
       ·rw [if_neg c10] at H
        exact absurd H (by simp)
      ·rw [if_neg c9] at H
       have c9b0 : decide (x4_2 < (l0_5.length : Int)) = false := decide_eq_false c9
       clear c9
       by_cases c25 : a0_2 = 0
       ·rw [if_pos c25] at H
        have c25b0 : (a0_2 == 0) = true := beq_iff_eq.mpr c25
        have c25b1 : (a0_2 != 0) = false := bne_eq_false_iff_eq.mpr c25
        clear c25
        by_cases c26 : a0_3 ≥ 64
        ·rw [if_pos c26] at H
         have c26b0 : decide (64 ≤ a0_3) = true := decide_eq_true c26
         clear c26
         by_cases c27 : a0_3 ≤ 127
         ·rw [if_pos c27] at H
          have c27b0 : decide (a0_3 ≤ 127) = true := decide_eq_true c27
          clear c27
          obtain rfl := Option.some.inj H
          have hcz28_0 : wr.cell? ⟨gb172, 0, none⟩ = some (.int .u32 a0_0) := (bc_ BK172.out 0).trans rfl
          have hcz28_1 : wr.cell? ⟨gb172, 1, none⟩ = some (.int .u32 a0_1) := (bc_ BK172.out 1).trans rfl
          have hcz28_2 : wr.cell? ⟨gb172, 2, none⟩ = some (.int .u32 a0_2) := (bc_ BK172.out 2).trans rfl
          have hcz28_3 : wr.cell? ⟨gb172, 3, none⟩ = some (.int .i64 a0_3) := (bc_ BK172.out 3).trans rfl
          have hcz28_4 : wr.cell? ⟨gb172, 4, none⟩ = some (.int .u32 a0_4) := (bc_ BK172.out 4).trans rfl
          have hcz28_5 : wr.cell? ⟨gb172, 5, none⟩ = some (.slice A0_5 l0_5.length c0_5) := (bc_ BK172.out 5).trans rfl
          have hfz28_0 := bf_ BK172.out 0
          have hfz28_1 := bf_ BK172.out 1
          have hfz28_2 := bf_ BK172.out 2
          have hfz28_3 := bf_ BK172.out 3
          have hfz28_4 := bf_ BK172.out 4
          have hfz28_5 := bf_ BK172.out 5
          go_wp2
          go_ret
          exact ⟨by first | rfl | (simp [errW_none, errW_some] <;> rfl) | (simp [*, errW_none, errW_some] <;> rfl), by repeat (first | (with_reducible first | exact HB.out | apply pa_ | apply pn_ | apply pd_ | refine below_set ?_ GE172.out) | exact HB.out)⟩
         ·rw [if_neg c27] at H
          have c27b0 : decide (a0_3 ≤ 127) = false := decide_eq_false c27
          clear c27
          obtain rfl := Option.some.inj H
          have hcz29_0 : wr.cell? ⟨gb172, 0, none⟩ = some (.int .u32 a0_0) := (bc_ BK172.out 0).trans rfl
          have hcz29_1 : wr.cell? ⟨gb172, 1, none⟩ = some (.int .u32 a0_1) := (bc_ BK172.out 1).trans rfl
          have hcz29_2 : wr.cell? ⟨gb172, 2, none⟩ = some (.int .u32 a0_2) := (bc_ BK172.out 2).trans rfl
          have hcz29_3 : wr.cell? ⟨gb172, 3, none⟩ = some (.int .i64 a0_3) := (bc_ BK172.out 3).trans rfl
          have hcz29_4 : wr.cell? ⟨gb172, 4, none⟩ = some (.int .u32 a0_4) := (bc_ BK172.out 4).trans rfl
          have hcz29_5 : wr.cell? ⟨gb172, 5, none⟩ = some (.slice A0_5 l0_5.length c0_5) := (bc_ BK172.out 5).trans rfl
          have hfz29_0 := bf_ BK172.out 0
          have hfz29_1 := bf_ BK172.out 1
          have hfz29_2 := bf_ BK172.out 2
          have hfz29_3 := bf_ BK172.out 3
          have hfz29_4 := bf_ BK172.out 4
          have hfz29_5 := bf_ BK172.out 5
          go_wp2
          go_ret
          exact ⟨by first | rfl | (simp [errW_none, errW_some] <;> rfl) | (simp [*, errW_none, errW_some] <;> rfl), by repeat (first | (with_reducible first | exact HB.out | apply pa_ | apply pn_ | apply pd_ | refine below_set ?_ GE172.out) | exact HB.out)⟩
        ·rw [if_neg c26] at H
         have c26b0 : decide (64 ≤ a0_3) = false := decide_eq_false c26
         clear c26
         obtain rfl := Option.some.inj H
         have hcz30_0 : wr.cell? ⟨gb172, 0, none⟩ = some (.int .u32 a0_0) := (bc_ BK172.out 0).trans rfl
         have hcz30_1 : wr.cell? ⟨gb172, 1, none⟩ = some (.int .u32 a0_1) := (bc_ BK172.out 1).trans rfl
         have hcz30_2 : wr.cell? ⟨gb172, 2, none⟩ = some (.int .u32 a0_2) := (bc_ BK172.out 2).trans rfl
         have hcz30_3 : wr.cell? ⟨gb172, 3, none⟩ = some (.int .i64 a0_3) := (bc_ BK172.out 3).trans rfl
         have hcz30_4 : wr.cell? ⟨gb172, 4, none⟩ = some (.int .u32 a0_4) := (bc_ BK172.out 4).trans rfl
         have hcz30_5 : wr.cell? ⟨gb172, 5, none⟩ = some (.slice A0_5 l0_5.length c0_5) := (bc_ BK172.out 5).trans rfl
         have hfz30_0 := bf_ BK172.out 0
         have hfz30_1 := bf_ BK172.out 1
         have hfz30_2 := bf_ BK172.out 2
         have hfz30_3 := bf_ BK172.out 3
         have hfz30_4 := bf_ BK172.out 4
         have hfz30_5 := bf_ BK172.out 5
         go_wp2
         go_ret
         exact ⟨by first | rfl | (simp [errW_none, errW_some] <;> rfl) | (simp [*, errW_none, errW_some] <;> rfl), by repeat (first | (with_reducible first | exact HB.out | apply pa_ | apply pn_ | apply pd_ | refine below_set ?_ GE172.out) | exact HB.out)⟩
       ·rw [if_neg c25] at H
        have c25b0 : (a0_2 == 0) = false := beq_eq_false_iff_ne.mpr c25
        have c25b1 : (a0_2 != 0) = true := bne_iff_ne.mpr c25
        by_cases c31 : a0_3 = (-1)
        ·rw [if_pos c31] at H
         have c31b0 : (a0_3 == (-1)) = true := beq_iff_eq.mpr c31
         have c31b1 : (a0_3 != (-1)) = false := bne_eq_false_iff_eq.mpr c31
         clear c31
         obtain rfl := Option.some.inj H
         have hcz32_0 : wr.cell? ⟨gb172, 0, none⟩ = some (.int .u32 a0_0) := (bc_ BK172.out 0).trans rfl
         have hcz32_1 : wr.cell? ⟨gb172, 1, none⟩ = some (.int .u32 a0_1) := (bc_ BK172.out 1).trans rfl
         have hcz32_2 : wr.cell? ⟨gb172, 2, none⟩ = some (.int .u32 a0_2) := (bc_ BK172.out 2).trans rfl
         have hcz32_3 : wr.cell? ⟨gb172, 3, none⟩ = some (.int .i64 a0_3) := (bc_ BK172.out 3).trans rfl
         have hcz32_4 : wr.cell? ⟨gb172, 4, none⟩ = some (.int .u32 a0_4) := (bc_ BK172.out 4).trans rfl
         have hcz32_5 : wr.cell? ⟨gb172, 5, none⟩ = some (.slice A0_5 l0_5.length c0_5) := (bc_ BK172.out 5).trans rfl
         have hfz32_0 := bf_ BK172.out 0
         have hfz32_1 := bf_ BK172.out 1
         have hfz32_2 := bf_ BK172.out 2
         have hfz32_3 := bf_ BK172.out 3
         have hfz32_4 := bf_ BK172.out 4
         have hfz32_5 := bf_ BK172.out 5
         go_wp2
         go_ret
         exact ⟨by first | rfl | (simp [errW_none, errW_some] <;> rfl) | (simp [*, errW_none, errW_some] <;> rfl), by repeat (first | (with_reducible first | exact HB.out | apply pa_ | apply pn_ | apply pd_ | refine below_set ?_ GE172.out) | exact HB.out)⟩
        ·rw [if_neg c31] at H
         have c31b0 : (a0_3 == (-1)) = false := beq_eq_false_iff_ne.mpr c31
         have c31b1 : (a0_3 != (-1)) = true := bne_iff_ne.mpr c31
         obtain rfl := Option.some.inj H
         have hcz33_0 : wr.cell? ⟨gb172, 0, none⟩ = some (.int .u32 a0_0) := (bc_ BK172.out 0).trans rfl
         have hcz33_1 : wr.cell? ⟨gb172, 1, none⟩ = some (.int .u32 a0_1) := (bc_ BK172.out 1).trans rfl
         have hcz33_2 : wr.cell? ⟨gb172, 2, none⟩ = some (.int .u32 a0_2) := (bc_ BK172.out 2).trans rfl
         have hcz33_3 : wr.cell? ⟨gb172, 3, none⟩ = some (.int .i64 a0_3) := (bc_ BK172.out 3).trans rfl
         have hcz33_4 : wr.cell? ⟨gb172, 4, none⟩ = some (.int .u32 a0_4) := (bc_ BK172.out 4).trans rfl
         have hcz33_5 : wr.cell? ⟨gb172, 5, none⟩ = some (.slice A0_5 l0_5.length c0_5) := (bc_ BK172.out 5).trans rfl
         have hfz33_0 := bf_ BK172.out 0
         have hfz33_1 := bf_ BK172.out 1
         have hfz33_2 := bf_ BK172.out 2
         have hfz33_3 := bf_ BK172.out 3
         have hfz33_4 := bf_ BK172.out 4
         have hfz33_5 := bf_ BK172.out 5
         go_wp2
         go_ret
         exact ⟨by first | rfl | (simp [errW_none, errW_some] <;> rfl) | (simp [*, errW_none, errW_some] <;> rfl), by repeat (first | (with_reducible first | exact HB.out | apply pa_ | apply pn_ | apply pd_ | refine below_set ?_ GE172.out) | exact HB.out)⟩

end Go.Proofs.Yteibolilodgjnaa.P

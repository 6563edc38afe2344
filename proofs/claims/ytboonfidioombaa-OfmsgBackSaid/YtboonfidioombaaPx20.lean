/- For each Go function a Lean function, and the proof that a call comes to what it tells: made by program out of the translation (the kit's print, with texts by hand put in). No condition. -/
import Derived.Test.YtboonfidioombaaSq
import Derived.Test.YtboonfidioombaaPx0
import Derived.Test.YtboonfidioombaaPx19
namespace Go.Proofs.Ytboonfidioombaa.P
open Go.RowKit Go.Proofs.Ytboonfidioombaa.HRows Go.Proofs.YtboonfidioombaaW.PrintWords Go.Proofs.YtboonfidioombaaW.PrintLast Go.Proofs.YtboonfidioombaaW.PrintMore
attribute [local go_sem] max2_int min2_int max_two min_two max_three min_three max_four min_four
set_option linter.unusedVariables false
set_option linter.unusedSimpArgs false
mutual
def stolonref15_Right.j0 : Nat → Bool → Int → Int → Int → Int → Int → List (S59) → Option (Bool)
 | 0, _, _, _, _, _, _, _ => none
 | k + 1, x16, x307000, x307001, x307002, x307003, x307004, x307005 => if x16 = true then (some false) else (stolonref15_Right.l0 k 0 x307000 x307001 x307002 x307003 x307004 x307005)
def stolonref15_Right.l0 : Nat → Int → Int → Int → Int → Int → Int → List (S59) → Option (Bool)
 | 0, _, _, _, _, _, _, _ => none
 | k + 1, x4, x307000, x307001, x307002, x307003, x307004, x307005 => if x4 < (x307005.length : Int) then (if 0 ≤ x4 then (if ((rd_T59 x307005 x4).f0) < 0 then (some false) else (if ((rd_T59 x307005 x4).f0) > 127 then (some false) else (if (((rd_T59 x307005 x4).f1) != (decide (((rd_T59 x307005 x4).f0) ≥ 64))) = true then (some false) else (if x4 > 0 then (if 0 ≤ (wrap64 (x4 - 1)) then (if (wrap64 (x4 - 1)) < (x307005.length : Int) then (if ((rd_T59 x307005 (wrap64 (x4 - 1))).f0) ≥ ((rd_T59 x307005 x4).f0) then (some false) else (stolonref15_Right.l0 k (wrap64 (x4 + 1)) x307000 x307001 x307002 x307003 x307004 x307005)) else (none)) else (none)) else (stolonref15_Right.l0 k (wrap64 (x4 + 1)) x307000 x307001 x307002 x307003 x307004 x307005))))) else (none)) else (if x307002 = 0 then (if x307003 ≥ 64 then (if x307003 ≤ 127 then (some (decide (x307004 > 0))) else (some false)) else (some false)) else (if x307003 = (-1) then (some (x307004 == 0)) else (some false)))
end
def stolonref15_Right.f (k : Nat) (a0_0 : Int) (a0_1 : Int) (a0_2 : Int) (a0_3 : Int) (a0_4 : Int) (l0_5 : List (S59)) : Option (Bool) := (stolonref01_Asked.f a0_1).bind fun t307 => (if t307 = true then (stolonref15_Right.j0 k (decide ((l0_5.length : Int) > 128)) a0_0 a0_1 a0_2 a0_3 a0_4 l0_5) else (stolonref15_Right.j0 k true a0_0 a0_1 a0_2 a0_3 a0_4 l0_5))
theorem stolonref15_Right.mono_l : ∀ k, (∀ y0 y1 y2 y3 y4 y5 y6, LeO (stolonref15_Right.j0 k y0 y1 y2 y3 y4 y5 y6) (stolonref15_Right.j0 (k + 1) y0 y1 y2 y3 y4 y5 y6)) ∧ (∀ y0 y1 y2 y3 y4 y5 y6, LeO (stolonref15_Right.l0 k y0 y1 y2 y3 y4 y5 y6) (stolonref15_Right.l0 (k + 1) y0 y1 y2 y3 y4 y5 y6))
 | 0 => ⟨fun _ _ _ _ _ _ _ r h => by simp [stolonref15_Right.j0] at h, fun _ _ _ _ _ _ _ r h => by simp [stolonref15_Right.l0] at h⟩
 | k + 1 => by
  obtain ⟨ih0, ih1⟩ := stolonref15_Right.mono_l k
  refine ⟨?_, ?_⟩
  ·intro y0 y1 y2 y3 y4 y5 y6
   unfold stolonref15_Right.j0
   repeat' first
   | (with_reducible exact ih0 _ _ _ _ _ _ _)
   | (with_reducible exact ih1 _ _ _ _ _ _ _)
   | (with_reducible exact LeO.refl _)
   | (with_reducible exact LeO.none _)
   | (with_reducible refine LeO.ite ?_ ?_)
   | (with_reducible refine LeO.bind ?_ (fun _ => ?_))
   | exact ih0 _ _ _ _ _ _ _
   | exact ih1 _ _ _ _ _ _ _
   | exact LeO.none _
   | refine LeO.ite ?_ ?_
   | refine LeO.bind ?_ (fun _ => ?_)
  ·intro y0 y1 y2 y3 y4 y5 y6
   unfold stolonref15_Right.l0
   repeat' first
   | (with_reducible exact ih0 _ _ _ _ _ _ _)
   | (with_reducible exact ih1 _ _ _ _ _ _ _)
   | (with_reducible exact LeO.refl _)
   | (with_reducible exact LeO.none _)
   | (with_reducible refine LeO.ite ?_ ?_)
   | (with_reducible refine LeO.bind ?_ (fun _ => ?_))
   | exact ih0 _ _ _ _ _ _ _
   | exact ih1 _ _ _ _ _ _ _
   | exact LeO.none _
   | refine LeO.ite ?_ ?_
   | refine LeO.bind ?_ (fun _ => ?_)
theorem stolonref15_Right.mono : ∀ a0 a1 a2 a3 a4 a5 k, LeO (stolonref15_Right.f k a0 a1 a2 a3 a4 a5) (stolonref15_Right.f (k + 1) a0 a1 a2 a3 a4 a5) := by
 intro a0 a1 a2 a3 a4 a5 k
 obtain ⟨ih0, ih1⟩ := stolonref15_Right.mono_l k
 unfold stolonref15_Right.f
 repeat' first
   | (with_reducible exact ih0 _ _ _ _ _ _ _)
   | (with_reducible exact ih1 _ _ _ _ _ _ _)
   | (with_reducible exact LeO.refl _)
   | (with_reducible exact LeO.none _)
   | (with_reducible refine LeO.ite ?_ ?_)
   | (with_reducible refine LeO.bind ?_ (fun _ => ?_))
   | exact ih0 _ _ _ _ _ _ _
   | exact ih1 _ _ _ _ _ _ _
   | exact LeO.none _
   | refine LeO.ite ?_ ?_
   | refine LeO.bind ?_ (fun _ => ?_)
set_option maxHeartbeats 8000000 in
set_option maxRecDepth 100000 in
theorem stolonref15_Right.calls (k : Nat) (a0_0 : Int) (a0_1 : Int) (a0_2 : Int) (a0_3 : Int) (a0_4 : Int) (A0_5 : Option Addr) (c0_5 : Nat) (l0_5 : List (S59)) (r : Bool) (w : World) (hr0_5 : Kd.C k59 w A0_5 l0_5.length l0_5) (hc0_5 : l0_5.length ≤ c0_5) (h : stolonref15_Right.f k a0_0 a0_1 a0_2 a0_3 a0_4 l0_5 = some r) :
  Calls Try.prog 31 #[.agg #[.int .u32 a0_0, .int .u32 a0_1, .int .u32 a0_2, .int .i64 a0_3, .int .u32 a0_4, .slice A0_5 l0_5.length c0_5]] w fun e w' => e = .returned (.bool r) ∧ Below w.heap.size w w' := by
 have hu26 := Try.underlying26
 have HR0_5 := m_ hr0_5
 have HC0_5 := m_ hc0_5
 clear hr0_5 hc0_5
 have HB := m_ (Below.refl w.heap.size w)
 have H : ((stolonref01_Asked.f a0_1).bind fun t307 => (if t307 = true then (stolonref15_Right.j0 k (decide ((l0_5.length : Int) > 128)) a0_0 a0_1 a0_2 a0_3 a0_4 l0_5) else (stolonref15_Right.j0 k true a0_0 a0_1 a0_2 a0_3 a0_4 l0_5))) = some r := h
 clear h
 replace H := Option.bind_eq_some_iff.mp H
 obtain ⟨t307, A20, H⟩ := H
 replace H : (if t307 = true then (stolonref15_Right.j0 k (decide ((l0_5.length : Int) > 128)) a0_0 a0_1 a0_2 a0_3 a0_4 l0_5) else (stolonref15_Right.j0 k true a0_0 a0_1 a0_2 a0_3 a0_4 l0_5)) = some r := H
 have A2 := m_ A20
 clear A20
 have HC3 := m_ H
 clear H
 go_enter Try.func31, Try.ntmps31
 go_upto_region 2 with (first | ((with_reducible refine gate_dst (N := 1) rfl ?_); (try (refine gate_guard (by rfl) ?_; dsimp only)); refine bx_ 1 26 #[.int .u32 a0_0, .int .u32 a0_1, .int .u32 a0_2, .int .i64 a0_3, .int .u32 a0_4, .slice A0_5 l0_5.length c0_5] ?_; intro gb306 hg w4 hbox hb; have BK306 := m_ (hbox); have GW306 := m_ ((gw_ : w.heap.size ≤ gb306)); have GE306 := m_ ((gw_ : w.heap.size ≤ gb306)); replace HB := m_ (below_step bz_ hb); clear hb hbox hg; have hcz5 := cz6_ BK306.out) | ((with_reducible refine gate_callee (f := 32) rfl ?_); refine gL_ (some 8) Try.func32 #[.int .u32 a0_1] ?_; (with_reducible refine (stolonref01_Asked.calls a0_1 t307 _ A2.out).mono ?_); rintro e w' ⟨rfl, ⟨nd, rfl⟩⟩; refine ⟨_, rfl, ?_⟩))
 (try simp only [Act.put, List.setIfInBounds_toArray, List.set_cons_zero, List.set_cons_succ])
 go_cut [16] (fun v16 wc => ∃ (kq : Nat) (x16_2 : Bool), v16 = .bool x16_2 ∧ Aside0 (stolonref15_Right.j0 kq x16_2 a0_0 a0_1 a0_2 a0_3 a0_4 l0_5 = some r) ∧ Aside0 (kq ≤ k) ∧ Aside0 (wc.heap[gb306]? = some (.cells #[.int .u32 a0_0, .int .u32 a0_1, .int .u32 a0_2, .int .i64 a0_3, .int .u32 a0_4, (.slice A0_5 l0_5.length c0_5)] 26 (0, 0))) ∧ Aside0 (Below w.heap.size w wc))
 case first =>
  have H := HC3.out
  clear HC3
  by_cases c6 : t307 = true
  ·subst c6
   have H1 : (stolonref15_Right.j0 k (decide ((l0_5.length : Int) > 128)) a0_0 a0_1 a0_2 a0_3 a0_4 l0_5) = some r := by rw [if_pos rfl] at H; exact H
   clear H
   have H := H1
   clear H1
   have H' := m_ H
   clear H
   have hcz7 := cz6_ BK306.out
   go_wp2
   go_meet
   case rel => exact ⟨_, (decide ((l0_5.length : Int) > 128)), (by first | rfl | (simp; done) | (simp [*]; done)), H', ⟨by first | omega | exact Nat.le_refl _⟩, ⟨kz_⟩, ⟨bz_⟩⟩
  ·replace c6 := Bool.eq_false_iff.mpr c6
   subst c6
   have H1 : (stolonref15_Right.j0 k true a0_0 a0_1 a0_2 a0_3 a0_4 l0_5) = some r := by rw [if_neg (show ¬ (false = true) by decide)] at H; exact H
   clear H
   have H := H1
   clear H1
   have H' := m_ H
   clear H
   go_wp2
   go_meet
   case rel => exact ⟨_, (true), (by first | rfl | (simp; done) | (simp [*]; done)), H', ⟨by first | omega | exact Nat.le_refl _⟩, ⟨kz_⟩, ⟨bz_⟩⟩
 case rest =>
  clear HC3
  try clear p2
  try clear c3
  try clear c6
  (try clear hcz5)
  (try clear hcz7)
  obtain ⟨kq, x16_2, rfl, HA, HJ2, BK306, HB⟩ := hcut
  cases kq with
  | zero => exact absurd HA.out (by simp [stolonref15_Right.j0])
  | succ kj2 =>
   have H := HA.out
   clear HA
   simp only [stolonref15_Right.j0] at H
   by_cases c8 : x16_2 = true
   ·subst c8
    have H1 : (some false) = some r := by rw [if_pos rfl] at H; exact H
    clear H
    have H := H1
    clear H1
    obtain rfl := Option.some.inj H
    go_wp2
    go_ret
    exact ⟨ew_, bz_⟩
   ·replace c8 := Bool.eq_false_iff.mpr c8
    subst c8
    have H1 : (stolonref15_Right.l0 kj2 0 a0_0 a0_1 a0_2 a0_3 a0_4 l0_5) = some r := by rw [if_neg (show ¬ (false = true) by decide)] at H; exact H
    clear H
    have H := H1
    clear H1
    have H' := m_ H
    clear H
    go_wp2
    go_loopg [4] kj2 (fun kq v4 w' => ∃ (x4_2 : Int), v4 = .int .i64 x4_2 ∧ Aside0 (stolonref15_Right.l0 kq x4_2 a0_0 a0_1 a0_2 a0_3 a0_4 l0_5 = some r) ∧ Aside0 (kq ≤ kj2) ∧ Aside0 (w'.heap[gb306]? = some (.cells #[.int .u32 a0_0, .int .u32 a0_1, .int .u32 a0_2, .int .i64 a0_3, .int .u32 a0_4, (.slice A0_5 l0_5.length c0_5)] 26 (0, 0))) ∧ Aside0 (Below w.heap.size w w'))
    case atStart => exact ⟨(0), (by first | rfl | (simp; done) | (simp [*]; done)), H', ⟨Nat.le_refl _⟩, ⟨kz_⟩, ⟨bz_⟩⟩
    case round =>
     clear H'
     try clear p2
     try clear c3
     try clear c6
     try clear c8
     (try clear hcz5)
     (try clear hcz7)
     try clear p2
     obtain ⟨x4_2, rfl, HA, HK2, BK306, HB⟩ := hrel
     cases gk with
     | zero => exact absurd HA.out (by simp [stolonref15_Right.l0])
     | succ k2 =>
      have H := HA.out
      clear HA
      simp only [stolonref15_Right.l0] at H
      by_cases c9 : x4_2 < (l0_5.length : Int)
      ·rw [if_pos c9] at H
       have c9b0 : decide (x4_2 < (l0_5.length : Int)) = true := decide_eq_true c9
       clear c9
       by_cases c10 : 0 ≤ x4_2
       ·rw [if_pos c10] at H
        have c10b0 : decide (0 ≤ x4_2) = true := decide_eq_true c10
        clear c10
        by_cases c11 : ((rd_T59 l0_5 x4_2).f0) < 0
        ·rw [if_pos c11] at H
         have c11b0 : decide (((rd_T59 l0_5 x4_2).f0) < 0) = true := decide_eq_true c11
         clear c11
         obtain rfl := Option.some.inj H
         have hcz12 := cz6_ BK306.out
         have p308 : 0 ≤ (x4_2 : Int) := od_
         have q308 : x4_2 < (l0_5.length : Int) := od_
         obtain ⟨ad308, e308, hx308_0, hx308_1⟩ := at_T59 HR0_5.out x4_2 p308 q308
         cases e308
         replace hx308_0 := kp_ HB.out hx308_0
         replace hx308_1 := kp_ HB.out hx308_1
         replace p308 := eq_true p308
         replace q308 := eq_true q308
         go_wp2
         go_ret
         exact ⟨ew_, bz_⟩
        ·rw [if_neg c11] at H
         have c11b0 : decide (((rd_T59 l0_5 x4_2).f0) < 0) = false := decide_eq_false c11
         clear c11
         by_cases c13 : ((rd_T59 l0_5 x4_2).f0) > 127
         ·rw [if_pos c13] at H
          have c13b0 : decide (127 < ((rd_T59 l0_5 x4_2).f0)) = true := decide_eq_true c13
          clear c13
          obtain rfl := Option.some.inj H
          have hcz14 := cz6_ BK306.out
          have p308 : 0 ≤ (x4_2 : Int) := od_
          have q308 : x4_2 < (l0_5.length : Int) := od_
          obtain ⟨ad308, e308, hx308_0, hx308_1⟩ := at_T59 HR0_5.out x4_2 p308 q308
          cases e308
          replace hx308_0 := kp_ HB.out hx308_0
          replace hx308_1 := kp_ HB.out hx308_1
          replace p308 := eq_true p308
          replace q308 := eq_true q308
          go_wp2
          go_ret
          exact ⟨ew_, bz_⟩
         ·rw [if_neg c13] at H
          have c13b0 : decide (127 < ((rd_T59 l0_5 x4_2).f0)) = false := decide_eq_false c13
          clear c13
          by_cases c15 : (((rd_T59 l0_5 x4_2).f1) != (decide (((rd_T59 l0_5 x4_2).f0) ≥ 64))) = true
          ·rw [if_pos c15] at H
           have c15b0 : (((rd_T59 l0_5 x4_2).f1) != (decide (((rd_T59 l0_5 x4_2).f0) ≥ 64))) = true := c15
           (try (have c15b1 : decide (((rd_T59 l0_5 x4_2).f1) = (decide (((rd_T59 l0_5 x4_2).f0) ≥ 64))) = false := by simpa using c15))
           (try (have c15b2 : (((rd_T59 l0_5 x4_2).f1) == (decide (((rd_T59 l0_5 x4_2).f0) ≥ 64))) = false := by simpa using c15))
           (try (have c15b3 : ¬ (((rd_T59 l0_5 x4_2).f1) = (decide (((rd_T59 l0_5 x4_2).f0) ≥ 64))) := by simpa using c15))
           clear c15
           obtain rfl := Option.some.inj H
           have hcz16 := cz6_ BK306.out
           have p308 : 0 ≤ (x4_2 : Int) := od_
           have q308 : x4_2 < (l0_5.length : Int) := od_
           obtain ⟨ad308, e308, hx308_0, hx308_1⟩ := at_T59 HR0_5.out x4_2 p308 q308
           cases e308
           replace hx308_0 := kp_ HB.out hx308_0
           replace hx308_1 := kp_ HB.out hx308_1
           replace p308 := eq_true p308
           replace q308 := eq_true q308
           have p309 : 0 ≤ (x4_2 : Int) := od_
           have q309 : x4_2 < (l0_5.length : Int) := od_
           obtain ⟨ad309, e309, hx309_0, hx309_1⟩ := at_T59 HR0_5.out x4_2 p309 q309
           obtain rfl : ad308 = ad309 := (by injection e309)
           replace hx309_0 := kp_ HB.out hx309_0
           replace hx309_1 := kp_ HB.out hx309_1
           replace p309 := eq_true p309
           replace q309 := eq_true q309
           go_wp2
           go_ret
           exact ⟨ew_, bz_⟩
          ·rw [if_neg c15] at H
           have c15b0 : (((rd_T59 l0_5 x4_2).f1) != (decide (((rd_T59 l0_5 x4_2).f0) ≥ 64))) = false := by simpa using c15
           (try (have c15b1 : decide (((rd_T59 l0_5 x4_2).f1) = (decide (((rd_T59 l0_5 x4_2).f0) ≥ 64))) = true := by simpa using c15))
           (try (have c15b2 : (((rd_T59 l0_5 x4_2).f1) == (decide (((rd_T59 l0_5 x4_2).f0) ≥ 64))) = true := by simpa using c15))
           clear c15
           by_cases c17 : x4_2 > 0
           ·rw [if_pos c17] at H
            have c17b0 : decide (0 < x4_2) = true := decide_eq_true c17
            clear c17
            obtain ⟨ji18, hji18⟩ : ∃ j_ : Int, (wrap64 (x4_2 - 1)) = j_ := ⟨_, rfl⟩
            replace H : (if 0 ≤ (ji18) then (if (ji18) < (l0_5.length : Int) then (if ((rd_T59 l0_5 (ji18)).f0) ≥ ((rd_T59 l0_5 x4_2).f0) then (some false) else (stolonref15_Right.l0 k2 (wrap64 (x4_2 + 1)) a0_0 a0_1 a0_2 a0_3 a0_4 l0_5)) else (none)) else (none)) = some r := by first | (rw [hji18] at H; exact H) | (simp only [hji18] at H ⊢; exact H)
            have hji18w : (IntKind.i64.wrap (x4_2 - 1)) = ji18 := (i64_w _).trans hji18
            by_cases c19 : 0 ≤ (ji18)
            ·rw [if_pos c19] at H
             have c19b0 : decide (0 ≤ (ji18)) = true := decide_eq_true c19
             clear c19
             by_cases c20 : (ji18) < (l0_5.length : Int)
             ·rw [if_pos c20] at H
              have c20b0 : decide ((ji18) < (l0_5.length : Int)) = true := decide_eq_true c20
              clear c20
              by_cases c21 : ((rd_T59 l0_5 (ji18)).f0) ≥ ((rd_T59 l0_5 x4_2).f0)
              ·rw [if_pos c21] at H
               have c21b0 : decide (((rd_T59 l0_5 x4_2).f0) ≤ ((rd_T59 l0_5 (ji18)).f0)) = true := decide_eq_true c21
               clear c21
               obtain rfl := Option.some.inj H
               have hcz22 := cz6_ BK306.out
               have p308 : 0 ≤ (x4_2 : Int) := od_
               have q308 : x4_2 < (l0_5.length : Int) := od_
               obtain ⟨ad308, e308, hx308_0, hx308_1⟩ := at_T59 HR0_5.out x4_2 p308 q308
               cases e308
               replace hx308_0 := kp_ HB.out hx308_0
               replace hx308_1 := kp_ HB.out hx308_1
               replace p308 := eq_true p308
               replace q308 := eq_true q308
               have p309 : 0 ≤ (x4_2 : Int) := od_
               have q309 : x4_2 < (l0_5.length : Int) := od_
               obtain ⟨ad309, e309, hx309_0, hx309_1⟩ := at_T59 HR0_5.out x4_2 p309 q309
               obtain rfl : ad308 = ad309 := (by injection e309)
               replace hx309_0 := kp_ HB.out hx309_0
               replace hx309_1 := kp_ HB.out hx309_1
               replace p309 := eq_true p309
               replace q309 := eq_true q309
               have p310 : 0 ≤ ((ji18) : Int) := od_
               have q310 : (ji18) < (l0_5.length : Int) := od_
               obtain ⟨ad310, e310, hx310_0, hx310_1⟩ := at_T59 HR0_5.out (ji18) p310 q310
               obtain rfl : ad308 = ad310 := (by injection e310)
               replace hx310_0 := kp_ HB.out hx310_0
               replace hx310_1 := kp_ HB.out hx310_1
               replace p310 := eq_true p310
               replace q310 := eq_true q310
               go_wp2
               go_ret
               exact ⟨(by first | rfl | (simp [errW_none, errW_some] <;> rfl) | (simp only [← hji18]; first | rfl | (simp [errW_none, errW_some] <;> rfl)) | (simp [*, errW_none, errW_some] <;> rfl)), bz_⟩
              ·rw [if_neg c21] at H
               have c21b0 : decide (((rd_T59 l0_5 x4_2).f0) ≤ ((rd_T59 l0_5 (ji18)).f0)) = false := decide_eq_false c21
               clear c21
               have H' := m_ H
               clear H
               have hcz23 := cz6_ BK306.out
               have p308 : 0 ≤ (x4_2 : Int) := od_
               have q308 : x4_2 < (l0_5.length : Int) := od_
               obtain ⟨ad308, e308, hx308_0, hx308_1⟩ := at_T59 HR0_5.out x4_2 p308 q308
               cases e308
               replace hx308_0 := kp_ HB.out hx308_0
               replace hx308_1 := kp_ HB.out hx308_1
               replace p308 := eq_true p308
               replace q308 := eq_true q308
               have p309 : 0 ≤ (x4_2 : Int) := od_
               have q309 : x4_2 < (l0_5.length : Int) := od_
               obtain ⟨ad309, e309, hx309_0, hx309_1⟩ := at_T59 HR0_5.out x4_2 p309 q309
               obtain rfl : ad308 = ad309 := (by injection e309)
               replace hx309_0 := kp_ HB.out hx309_0
               replace hx309_1 := kp_ HB.out hx309_1
               replace p309 := eq_true p309
               replace q309 := eq_true q309
               have p310 : 0 ≤ ((ji18) : Int) := od_
               have q310 : (ji18) < (l0_5.length : Int) := od_
               obtain ⟨ad310, e310, hx310_0, hx310_1⟩ := at_T59 HR0_5.out (ji18) p310 q310
               obtain rfl : ad308 = ad310 := (by injection e310)
               replace hx310_0 := kp_ HB.out hx310_0
               replace hx310_1 := kp_ HB.out hx310_1
               replace p310 := eq_true p310
               replace q310 := eq_true q310
               go_wp2
               go_roundg k2
               case measure => have := HJ2.out; have := HK2.out; omega
               case rel => exact ⟨(wrap64 (x4_2 + 1)), (by first | rfl | (simp; done) | (simp [*]; done)), H', ⟨by have := HJ2.out; have := HK2.out; omega⟩, ⟨kz_⟩, ⟨bz_⟩⟩
             ·rw [if_neg c20] at H
              exact absurd H (by simp)
            ·rw [if_neg c19] at H
             exact absurd H (by simp)
           ·rw [if_neg c17] at H
            have c17b0 : decide (0 < x4_2) = false := decide_eq_false c17
            clear c17
            have H' := m_ H
            clear H
            have hcz24 := cz6_ BK306.out
            have p308 : 0 ≤ (x4_2 : Int) := od_
            have q308 : x4_2 < (l0_5.length : Int) := od_
            obtain ⟨ad308, e308, hx308_0, hx308_1⟩ := at_T59 HR0_5.out x4_2 p308 q308
            cases e308
            replace hx308_0 := kp_ HB.out hx308_0
            replace hx308_1 := kp_ HB.out hx308_1
            replace p308 := eq_true p308
            replace q308 := eq_true q308
            have p309 : 0 ≤ (x4_2 : Int) := od_
            have q309 : x4_2 < (l0_5.length : Int) := od_
            obtain ⟨ad309, e309, hx309_0, hx309_1⟩ := at_T59 HR0_5.out x4_2 p309 q309
            obtain rfl : ad308 = ad309 := (by injection e309)
            replace hx309_0 := kp_ HB.out hx309_0
            replace hx309_1 := kp_ HB.out hx309_1
            replace p309 := eq_true p309
            replace q309 := eq_true q309
            go_wp2
            go_roundg k2
            case measure => have := HJ2.out; have := HK2.out; omega
            case rel => exact ⟨(wrap64 (x4_2 + 1)), (by first | rfl | (simp; done) | (simp [*]; done)), H', ⟨by have := HJ2.out; have := HK2.out; omega⟩, ⟨kz_⟩, ⟨bz_⟩⟩
       ·rw [if_neg c10] at H
        exact absurd H (by simp)
      ·rw [if_neg c9] at H
       have c9b0 : decide (x4_2 < (l0_5.length : Int)) = false := decide_eq_false c9
       clear c9
       by_cases c25 : a0_2 = 0
       ·rw [if_pos c25] at H
        have c25b0 : (a0_2 == 0) = true := beq_iff_eq.mpr c25
        have c25b1 : (a0_2 != 0) = false := bne_eq_false_iff_eq.mpr c25
        clear c25
        by_cases c26 : a0_3 ≥ 64
        ·rw [if_pos c26] at H
         have c26b0 : decide (64 ≤ a0_3) = true := decide_eq_true c26
         clear c26
         by_cases c27 : a0_3 ≤ 127
         ·rw [if_pos c27] at H
          have c27b0 : decide (a0_3 ≤ 127) = true := decide_eq_true c27
          clear c27
          obtain rfl := Option.some.inj H
          have hcz28 := cz6_ BK306.out
          go_wp2
          go_ret
          exact ⟨ew_, bz_⟩
         ·rw [if_neg c27] at H
          have c27b0 : decide (a0_3 ≤ 127) = false := decide_eq_false c27
          clear c27
          obtain rfl := Option.some.inj H
          have hcz29 := cz6_ BK306.out
          go_wp2
          go_ret
          exact ⟨ew_, bz_⟩
        ·rw [if_neg c26] at H
         have c26b0 : decide (64 ≤ a0_3) = false := decide_eq_false c26
         clear c26
         obtain rfl := Option.some.inj H
         have hcz30 := cz6_ BK306.out
         go_wp2
         go_ret
         exact ⟨ew_, bz_⟩
       ·rw [if_neg c25] at H
        have c25b0 : (a0_2 == 0) = false := beq_eq_false_iff_ne.mpr c25
        have c25b1 : (a0_2 != 0) = true := bne_iff_ne.mpr c25
        by_cases c31 : a0_3 = (-1)
        ·rw [if_pos c31] at H
         have c31b0 : (a0_3 == (-1)) = true := beq_iff_eq.mpr c31
         have c31b1 : (a0_3 != (-1)) = false := bne_eq_false_iff_eq.mpr c31
         clear c31
         obtain rfl := Option.some.inj H
         have hcz32 := cz6_ BK306.out
         go_wp2
         go_ret
         exact ⟨ew_, bz_⟩
        ·rw [if_neg c31] at H
         have c31b0 : (a0_3 == (-1)) = false := beq_eq_false_iff_ne.mpr c31
         have c31b1 : (a0_3 != (-1)) = true := bne_iff_ne.mpr c31
         obtain rfl := Option.some.inj H
         have hcz33 := cz6_ BK306.out
         go_wp2
         go_ret
         exact ⟨ew_, bz_⟩
end Go.Proofs.Ytboonfidioombaa.P

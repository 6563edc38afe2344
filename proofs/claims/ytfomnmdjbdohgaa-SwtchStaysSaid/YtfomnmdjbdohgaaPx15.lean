/- For each Go function a Lean function, and the proof that a call comes to what it tells: made by program out of the translation (the kit's print, with texts by hand put in). No condition. -/
import Derived.Test.YtfomnmdjbdohgaaSq
import Derived.Test.YtfomnmdjbdohgaaPx0
import Derived.Test.YtfomnmdjbdohgaaPx2
import Derived.Test.YtfomnmdjbdohgaaPx4
import Derived.Test.YtfomnmdjbdohgaaPx5
namespace Go.Proofs.Ytfomnmdjbdohgaa.P
open Go.RowKit Go.Proofs.Ytfomnmdjbdohgaa.HRows Go.Proofs.YtfomnmdjbdohgaaW.PrintWords Go.Proofs.YtfomnmdjbdohgaaW.PrintLast Go.Proofs.YtfomnmdjbdohgaaW.PrintMore
attribute [local go_sem] max2_int min2_int max_two min_two max_three min_three max_four min_four
set_option linter.unusedVariables false
set_option linter.unusedSimpArgs false
attribute [local go_sem high] eqA85
def flow_Table.l0 : Nat → List (S29) → List (S29) → Int → Int → Option (Bool)
 | 0, _, _, _, _ => none
 | k + 1, x0, x5, x6, x7 => if x7 < x6 then (if 0 ≤ x7 then (if x7 < (x5.length : Int) then ((flow_Right.f k ((rd_T29 x5 x7).f0) ((rd_T29 x5 x7).f1) ((rd_T29 x5 x7).f2) ((rd_T29 x5 x7).f3) ((rd_T29 x5 x7).f4) ((rd_T29 x5 x7).f5)).bind fun t166 => (if t166 = true then (if x7 > 0 then (if 0 ≤ (wrap64 (x7 - 1)) then (if (wrap64 (x7 - 1)) < (x0.length : Int) then ((flow_of.f ((rd_T29 x0 (wrap64 (x7 - 1))).f0) ((rd_T29 x0 (wrap64 (x7 - 1))).f1) ((rd_T29 x0 (wrap64 (x7 - 1))).f2) ((rd_T29 x0 (wrap64 (x7 - 1))).f3) ((rd_T29 x0 (wrap64 (x7 - 1))).f4) ((rd_T29 x0 (wrap64 (x7 - 1))).f5)).bind fun bt168 => ((flow_of.f ((rd_T29 x5 x7).f0) ((rd_T29 x5 x7).f1) ((rd_T29 x5 x7).f2) ((rd_T29 x5 x7).f3) ((rd_T29 x5 x7).f4) ((rd_T29 x5 x7).f5)).bind fun bt171 => (if (bt168.1 == bt171.1 && (bt168.2.1 == bt171.2.1 && (bt168.2.2 == bt171.2.2))) = true then (some false) else ((flow_of.f ((rd_T29 x5 x7).f0) ((rd_T29 x5 x7).f1) ((rd_T29 x5 x7).f2) ((rd_T29 x5 x7).f3) ((rd_T29 x5 x7).f4) ((rd_T29 x5 x7).f5)).bind fun bt175 => ((flow_order.f k ((rd_T29 x0 (wrap64 (x7 - 1))).f0) ((rd_T29 x0 (wrap64 (x7 - 1))).f1) ((rd_T29 x0 (wrap64 (x7 - 1))).f2) ((rd_T29 x0 (wrap64 (x7 - 1))).f3) ((rd_T29 x0 (wrap64 (x7 - 1))).f4) ((rd_T29 x0 (wrap64 (x7 - 1))).f5) bt175.1 bt175.2.1 bt175.2.2).bind fun t178 => (if t178 > 0 then (some false) else (flow_Table.l0 k x0 x5 x6 (wrap64 (x7 + 1))))))))) else (none)) else (none)) else (flow_Table.l0 k x0 x5 x6 (wrap64 (x7 + 1)))) else (some false))) else (none)) else (none)) else (some true)
def flow_Table.f (k : Nat) (l0 : List (S29)) : Option (Bool) := flow_Table.l0 k l0 l0 (l0.length : Int) 0
theorem flow_Table.mono_l : ∀ k, (∀ y0 y1 y2 y3, LeO (flow_Table.l0 k y0 y1 y2 y3) (flow_Table.l0 (k + 1) y0 y1 y2 y3))
 | 0 => fun _ _ _ _ r h => by simp [flow_Table.l0] at h
 | k + 1 => by
  have ih0 := flow_Table.mono_l k
  ·intro y0 y1 y2 y3
   unfold flow_Table.l0
   repeat' first
   | (with_reducible exact ih0 _ _ _ _)
   | (with_reducible exact flow_Right.mono _ _ _ _ _ _ _)
   | (with_reducible exact flow_order.mono _ _ _ _ _ _ _ _ _ _)
   | (with_reducible exact LeO.refl _)
   | (with_reducible exact LeO.none _)
   | (with_reducible refine LeO.ite ?_ ?_)
   | (with_reducible refine LeO.bind ?_ (fun _ => ?_))
   | exact ih0 _ _ _ _
   | exact flow_Right.mono _ _ _ _ _ _ _
   | exact flow_order.mono _ _ _ _ _ _ _ _ _ _
   | exact LeO.none _
   | refine LeO.ite ?_ ?_
   | refine LeO.bind ?_ (fun _ => ?_)
theorem flow_Table.mono : ∀ a0 k, LeO (flow_Table.f k a0) (flow_Table.f (k + 1) a0) := by
 intro a0 k
 have ih0 := flow_Table.mono_l k
 unfold flow_Table.f
 repeat' first
   | (with_reducible exact ih0 _ _ _ _)
   | (with_reducible exact flow_Right.mono _ _ _ _ _ _ _)
   | (with_reducible exact flow_order.mono _ _ _ _ _ _ _ _ _ _)
   | (with_reducible exact LeO.refl _)
   | (with_reducible exact LeO.none _)
   | (with_reducible refine LeO.ite ?_ ?_)
   | (with_reducible refine LeO.bind ?_ (fun _ => ?_))
   | exact ih0 _ _ _ _
   | exact flow_Right.mono _ _ _ _ _ _ _
   | exact flow_order.mono _ _ _ _ _ _ _ _ _ _
   | exact LeO.none _
   | refine LeO.ite ?_ ?_
   | refine LeO.bind ?_ (fun _ => ?_)
def flow_Table.T4 : Bool × List (List Nat × List Nat) := (true, [([], []), ([0], [0]), ([1], [1]), ([2, 1], [2]), ([3], [3]), ([4, 3], [3, 4]), ([5, 3, 3], [3, 5]), ([6], [6]), ([6], [6]), ([8, 6], [6, 8]), ([7, 9, 6], [6, 7, 9]), ([10, 6], [6, 10]), ([11, 6, 6], [6, 11]), ([6], [6]), ([13, 12, 6], [6, 13]), ([12, 14, 6], [6, 12, 14]), ([15, 14, 6], [6, 15]), ([16], [16]), ([16], [16]), ([18, 16], [16, 18]), ([17, 19, 16], [16, 17, 19]), ([20, 16], [16, 20]), ([16], [16]), ([22, 16, 16], [16, 22]), ([21, 23, 23, 16], [16, 21, 23]), ([24, 16], [16, 24]), ([16, 25, 6], [6, 16, 25]), ([6, 26, 3], [3, 6, 26]), ([3, 27], [3, 27])])
def flow_Table.B4 : List Nat := [0, 1, 3, 7, 15, 31, 63, 127, 127, 383, 1023, 2047, 4095, 127, 16383, 32767, 65535, 131071, 131071, 393215, 1048575, 2097151, 131071, 4325375, 16777215, 33554431, 67108863, 134217727, 268435455]
theorem flow_Table.tab4 : rtab .any (opsOf Try.f34 4) = flow_Table.T4 := by kernel_rfl
theorem flow_Table.bits4 : waitsOk flow_Table.T4.2 flow_Table.B4 = true := by kernel_rfl
set_option maxHeartbeats 8000000 in
set_option maxRecDepth 100000 in
theorem flow_Table.calls (k : Nat) (A0 : Option Addr) (c0 : Nat) (l0 : List (S29)) (r : Bool) (w : World) (hr0 : Kd.C k29 w A0 l0.length l0) (hc0 : l0.length ≤ c0) (h : flow_Table.f k l0 = some r) :
  Calls Try.prog 34 #[.slice A0 l0.length c0] w fun e w' => e = .returned (.bool r) ∧ Below w.heap.size w w' := by
 have hu29 := Try.underlying29
 have HR0 := m_ hr0
 have HC0 := m_ hc0
 clear hr0 hc0
 have HB := m_ (Below.refl w.heap.size w)
 have H : (flow_Table.l0 k l0 l0 (l0.length : Int) 0) = some r := h
 clear h
 have H' := m_ H
 clear H
 go_enter Try.func34, Try.ntmps34
 go_wp2
 go_loopg [7] k (fun kq v7 w' => ∃ (x7_1 : Int), v7 = .int .i64 x7_1 ∧ Aside0 (flow_Table.l0 kq l0 l0 (l0.length : Int) x7_1 = some r) ∧ Aside0 (kq ≤ k) ∧ Aside0 (Below w.heap.size w w'))
 case atStart => exact ⟨(0), (by first | rfl | (simp; done) | (simp [*]; done)), H', ⟨Nat.le_refl _⟩, ⟨bz_⟩⟩
 case round =>
  clear H'
  obtain ⟨x7_1, rfl, HA, HK1, HB⟩ := hrel
  cases gk with
  | zero => exact absurd HA.out (by simp [flow_Table.l0])
  | succ k1 =>
   have H := HA.out
   clear HA
   simp only [flow_Table.l0] at H
   by_cases c2 : x7_1 < (l0.length : Int)
   ·rw [if_pos c2] at H
    have c2b0 : decide (x7_1 < (l0.length : Int)) = true := decide_eq_true c2
    clear c2
    by_cases c3 : 0 ≤ x7_1
    ·rw [if_pos c3] at H
     have c3b0 : decide (0 ≤ x7_1) = true := decide_eq_true c3
     clear c3
     by_cases c4 : x7_1 < (l0.length : Int)
     ·rw [if_pos c4] at H
      have c4b0 : decide (x7_1 < (l0.length : Int)) = true := decide_eq_true c4
      clear c4
      replace H := Option.bind_eq_some_iff.mp H
      obtain ⟨t166, A50, H⟩ := H
      replace H : (if t166 = true then (if x7_1 > 0 then (if 0 ≤ (wrap64 (x7_1 - 1)) then (if (wrap64 (x7_1 - 1)) < (l0.length : Int) then ((flow_of.f ((rd_T29 l0 (wrap64 (x7_1 - 1))).f0) ((rd_T29 l0 (wrap64 (x7_1 - 1))).f1) ((rd_T29 l0 (wrap64 (x7_1 - 1))).f2) ((rd_T29 l0 (wrap64 (x7_1 - 1))).f3) ((rd_T29 l0 (wrap64 (x7_1 - 1))).f4) ((rd_T29 l0 (wrap64 (x7_1 - 1))).f5)).bind fun bt168 => ((flow_of.f ((rd_T29 l0 x7_1).f0) ((rd_T29 l0 x7_1).f1) ((rd_T29 l0 x7_1).f2) ((rd_T29 l0 x7_1).f3) ((rd_T29 l0 x7_1).f4) ((rd_T29 l0 x7_1).f5)).bind fun bt171 => (if (bt168.1 == bt171.1 && (bt168.2.1 == bt171.2.1 && (bt168.2.2 == bt171.2.2))) = true then (some false) else ((flow_of.f ((rd_T29 l0 x7_1).f0) ((rd_T29 l0 x7_1).f1) ((rd_T29 l0 x7_1).f2) ((rd_T29 l0 x7_1).f3) ((rd_T29 l0 x7_1).f4) ((rd_T29 l0 x7_1).f5)).bind fun bt175 => ((flow_order.f k1 ((rd_T29 l0 (wrap64 (x7_1 - 1))).f0) ((rd_T29 l0 (wrap64 (x7_1 - 1))).f1) ((rd_T29 l0 (wrap64 (x7_1 - 1))).f2) ((rd_T29 l0 (wrap64 (x7_1 - 1))).f3) ((rd_T29 l0 (wrap64 (x7_1 - 1))).f4) ((rd_T29 l0 (wrap64 (x7_1 - 1))).f5) bt175.1 bt175.2.1 bt175.2.2).bind fun t178 => (if t178 > 0 then (some false) else (flow_Table.l0 k1 l0 l0 (l0.length : Int) (wrap64 (x7_1 + 1))))))))) else (none)) else (none)) else (flow_Table.l0 k1 l0 l0 (l0.length : Int) (wrap64 (x7_1 + 1)))) else (some false)) = some r := H
      have A5 := m_ A50
      clear A50
      by_cases c6 : t166 = true
      ·subst c6
       have H1 : (if x7_1 > 0 then (if 0 ≤ (wrap64 (x7_1 - 1)) then (if (wrap64 (x7_1 - 1)) < (l0.length : Int) then ((flow_of.f ((rd_T29 l0 (wrap64 (x7_1 - 1))).f0) ((rd_T29 l0 (wrap64 (x7_1 - 1))).f1) ((rd_T29 l0 (wrap64 (x7_1 - 1))).f2) ((rd_T29 l0 (wrap64 (x7_1 - 1))).f3) ((rd_T29 l0 (wrap64 (x7_1 - 1))).f4) ((rd_T29 l0 (wrap64 (x7_1 - 1))).f5)).bind fun bt168 => ((flow_of.f ((rd_T29 l0 x7_1).f0) ((rd_T29 l0 x7_1).f1) ((rd_T29 l0 x7_1).f2) ((rd_T29 l0 x7_1).f3) ((rd_T29 l0 x7_1).f4) ((rd_T29 l0 x7_1).f5)).bind fun bt171 => (if (bt168.1 == bt171.1 && (bt168.2.1 == bt171.2.1 && (bt168.2.2 == bt171.2.2))) = true then (some false) else ((flow_of.f ((rd_T29 l0 x7_1).f0) ((rd_T29 l0 x7_1).f1) ((rd_T29 l0 x7_1).f2) ((rd_T29 l0 x7_1).f3) ((rd_T29 l0 x7_1).f4) ((rd_T29 l0 x7_1).f5)).bind fun bt175 => ((flow_order.f k1 ((rd_T29 l0 (wrap64 (x7_1 - 1))).f0) ((rd_T29 l0 (wrap64 (x7_1 - 1))).f1) ((rd_T29 l0 (wrap64 (x7_1 - 1))).f2) ((rd_T29 l0 (wrap64 (x7_1 - 1))).f3) ((rd_T29 l0 (wrap64 (x7_1 - 1))).f4) ((rd_T29 l0 (wrap64 (x7_1 - 1))).f5) bt175.1 bt175.2.1 bt175.2.2).bind fun t178 => (if t178 > 0 then (some false) else (flow_Table.l0 k1 l0 l0 (l0.length : Int) (wrap64 (x7_1 + 1))))))))) else (none)) else (none)) else (flow_Table.l0 k1 l0 l0 (l0.length : Int) (wrap64 (x7_1 + 1)))) = some r := by rw [if_pos rfl] at H; exact H
       clear H
       have H := H1
       clear H1
       by_cases c7 : x7_1 > 0
       ·rw [if_pos c7] at H
        have c7b0 : decide (0 < x7_1) = true := decide_eq_true c7
        clear c7
        obtain ⟨ji8, hji8⟩ : ∃ j_ : Int, (wrap64 (x7_1 - 1)) = j_ := ⟨_, rfl⟩
        replace H : (if 0 ≤ (ji8) then (if (ji8) < (l0.length : Int) then ((flow_of.f ((rd_T29 l0 (ji8)).f0) ((rd_T29 l0 (ji8)).f1) ((rd_T29 l0 (ji8)).f2) ((rd_T29 l0 (ji8)).f3) ((rd_T29 l0 (ji8)).f4) ((rd_T29 l0 (ji8)).f5)).bind fun bt168 => ((flow_of.f ((rd_T29 l0 x7_1).f0) ((rd_T29 l0 x7_1).f1) ((rd_T29 l0 x7_1).f2) ((rd_T29 l0 x7_1).f3) ((rd_T29 l0 x7_1).f4) ((rd_T29 l0 x7_1).f5)).bind fun bt171 => (if (bt168.1 == bt171.1 && (bt168.2.1 == bt171.2.1 && (bt168.2.2 == bt171.2.2))) = true then (some false) else ((flow_of.f ((rd_T29 l0 x7_1).f0) ((rd_T29 l0 x7_1).f1) ((rd_T29 l0 x7_1).f2) ((rd_T29 l0 x7_1).f3) ((rd_T29 l0 x7_1).f4) ((rd_T29 l0 x7_1).f5)).bind fun bt175 => ((flow_order.f k1 ((rd_T29 l0 (ji8)).f0) ((rd_T29 l0 (ji8)).f1) ((rd_T29 l0 (ji8)).f2) ((rd_T29 l0 (ji8)).f3) ((rd_T29 l0 (ji8)).f4) ((rd_T29 l0 (ji8)).f5) bt175.1 bt175.2.1 bt175.2.2).bind fun t178 => (if t178 > 0 then (some false) else (flow_Table.l0 k1 l0 l0 (l0.length : Int) (wrap64 (x7_1 + 1))))))))) else (none)) else (none)) = some r := by first | (rw [hji8] at H; exact H) | (simp only [hji8] at H ⊢; exact H)
        (try rw [hji8] at A5)
        have hji8w : (IntKind.i64.wrap (x7_1 - 1)) = ji8 := (i64_w _).trans hji8
        by_cases c9 : 0 ≤ (ji8)
        ·rw [if_pos c9] at H
         have c9b0 : decide (0 ≤ (ji8)) = true := decide_eq_true c9
         clear c9
         by_cases c10 : (ji8) < (l0.length : Int)
         ·rw [if_pos c10] at H
          have c10b0 : decide ((ji8) < (l0.length : Int)) = true := decide_eq_true c10
          clear c10
          replace H := Option.bind_eq_some_iff.mp H
          obtain ⟨⟨t168, t169, t170⟩, A110, H⟩ := H
          replace H : ((flow_of.f ((rd_T29 l0 x7_1).f0) ((rd_T29 l0 x7_1).f1) ((rd_T29 l0 x7_1).f2) ((rd_T29 l0 x7_1).f3) ((rd_T29 l0 x7_1).f4) ((rd_T29 l0 x7_1).f5)).bind fun bt171 => (if (t168 == bt171.1 && (t169 == bt171.2.1 && (t170 == bt171.2.2))) = true then (some false) else ((flow_of.f ((rd_T29 l0 x7_1).f0) ((rd_T29 l0 x7_1).f1) ((rd_T29 l0 x7_1).f2) ((rd_T29 l0 x7_1).f3) ((rd_T29 l0 x7_1).f4) ((rd_T29 l0 x7_1).f5)).bind fun bt175 => ((flow_order.f k1 ((rd_T29 l0 (ji8)).f0) ((rd_T29 l0 (ji8)).f1) ((rd_T29 l0 (ji8)).f2) ((rd_T29 l0 (ji8)).f3) ((rd_T29 l0 (ji8)).f4) ((rd_T29 l0 (ji8)).f5) bt175.1 bt175.2.1 bt175.2.2).bind fun t178 => (if t178 > 0 then (some false) else (flow_Table.l0 k1 l0 l0 (l0.length : Int) (wrap64 (x7_1 + 1)))))))) = some r := H
          have A11 := m_ A110
          clear A110
          replace H := Option.bind_eq_some_iff.mp H
          obtain ⟨⟨t171, t172, t173⟩, A120, H⟩ := H
          replace H : (if (t168 == t171 && (t169 == t172 && (t170 == t173))) = true then (some false) else ((flow_of.f ((rd_T29 l0 x7_1).f0) ((rd_T29 l0 x7_1).f1) ((rd_T29 l0 x7_1).f2) ((rd_T29 l0 x7_1).f3) ((rd_T29 l0 x7_1).f4) ((rd_T29 l0 x7_1).f5)).bind fun bt175 => ((flow_order.f k1 ((rd_T29 l0 (ji8)).f0) ((rd_T29 l0 (ji8)).f1) ((rd_T29 l0 (ji8)).f2) ((rd_T29 l0 (ji8)).f3) ((rd_T29 l0 (ji8)).f4) ((rd_T29 l0 (ji8)).f5) bt175.1 bt175.2.1 bt175.2.2).bind fun t178 => (if t178 > 0 then (some false) else (flow_Table.l0 k1 l0 l0 (l0.length : Int) (wrap64 (x7_1 + 1))))))) = some r := H
          have A12 := m_ A120
          clear A120
          by_cases c13 : (t168 == t171 && (t169 == t172 && (t170 == t173))) = true
          ·rw [if_pos c13] at H
           have c13b0 : (t168 == t171 && (t169 == t172 && (t170 == t173))) = true := c13
           (try (have c13b1 : decide (t168 = t171 && (t169 == t172 && (t170 == t173))) = true := by simpa using c13))
           (try (have c13b2 : (t168 == t171 && (t169 == t172 && (t170 == t173))) = true := by simpa using c13))
           clear c13
           obtain rfl := Option.some.inj H
           have p164 : 0 ≤ (x7_1 : Int) := od_
           have q164 : x7_1 < (l0.length : Int) := od_
           obtain ⟨ad164, A164_5, c164_5, e164, hx164_0, hx164_1, hx164_2, hx164_3, hx164_4, hx164_5, hl164_5, hi164_5⟩ := at_T29 HR0.out x7_1 p164 q164
           cases e164
           replace hx164_0 := kp_ HB.out hx164_0
           replace hx164_1 := kp_ HB.out hx164_1
           replace hx164_2 := kp_ HB.out hx164_2
           replace hx164_3 := kp_ HB.out hx164_3
           replace hx164_4 := kp_ HB.out hx164_4
           replace hx164_5 := kp_ HB.out hx164_5
           have HR164_5 := m_ hi164_5
           have HC164_5 := m_ hl164_5
           clear hi164_5 hl164_5
           replace p164 := eq_true p164
           replace q164 := eq_true q164
           try go_wp2_with (first | ((with_reducible refine gate_dst (N := 4) rfl ?_); refine bx_ 4 29 #[.int .u32 0, .int .u32 0, .int .u32 0, .int .i64 0, .int .u32 0, .slice none 0 0] ?_; intro gb165 hg w14 hbox hb; have BK165 := m_ (hbox); have GW165 := m_ ((gw_ : w.heap.size ≤ gb165)); have GE165 := m_ ((gw_ : w.heap.size ≤ gb165)); replace HB := m_ (below_step bz_ hb); clear hb hbox hg; have hcz15 := cz6_ BK165.out))
           obtain ⟨w16, hw⟩ : ∃ W_, W_ = ((((((w14.setCell ⟨gb165, 0, none⟩ (.int .u32 ((rd_T29 l0 x7_1).f0))).setCell ⟨gb165, 1, none⟩ (.int .u32 ((rd_T29 l0 x7_1).f1))).setCell ⟨gb165, 2, none⟩ (.int .u32 ((rd_T29 l0 x7_1).f2))).setCell ⟨gb165, 3, none⟩ (.int .i64 ((rd_T29 l0 x7_1).f3))).setCell ⟨gb165, 4, none⟩ (.int .u32 ((rd_T29 l0 x7_1).f4))).setCell ⟨gb165, 5, none⟩ (.slice A164_5 ((rd_T29 l0 x7_1).f5).length c164_5)) := ⟨_, rfl⟩
           replace BK165 : Aside0 (w16.heap[gb165]? = some (.cells #[.int .u32 ((rd_T29 l0 x7_1).f0), .int .u32 ((rd_T29 l0 x7_1).f1), .int .u32 ((rd_T29 l0 x7_1).f2), .int .i64 ((rd_T29 l0 x7_1).f3), .int .u32 ((rd_T29 l0 x7_1).f4), .slice A164_5 ((rd_T29 l0 x7_1).f5).length c164_5] 29 (0, 0))) := ⟨by rw [hw]; exact kb_⟩
           replace HB : Aside0 (Below w.heap.size w w16) := ⟨by rw [hw]; exact bz_⟩
           rw [← hw]; clear hw
           replace BK165 := m_ (blk_drew BK165.out)
           replace HB := m_ (below_drew1 HB.out)
           have p167 : 0 ≤ ((ji8) : Int) := od_
           have q167 : (ji8) < (l0.length : Int) := od_
           obtain ⟨ad167, A167_5, c167_5, e167, hx167_0, hx167_1, hx167_2, hx167_3, hx167_4, hx167_5, hl167_5, hi167_5⟩ := at_T29 HR0.out (ji8) p167 q167
           have hw167_5 := hx167_5
           have hw167_4 := hx167_4
           have hw167_3 := hx167_3
           have hw167_2 := hx167_2
           have hw167_1 := hx167_1
           have hw167_0 := hx167_0
           obtain rfl : ad164 = ad167 := (by injection e167)
           replace hx167_0 := kp_ HB.out hx167_0
           replace hx167_1 := kp_ HB.out hx167_1
           replace hx167_2 := kp_ HB.out hx167_2
           replace hx167_3 := kp_ HB.out hx167_3
           replace hx167_4 := kp_ HB.out hx167_4
           replace hx167_5 := kp_ HB.out hx167_5
           have HR167_5 := m_ hi167_5
           have HC167_5 := m_ hl167_5
           clear hi167_5 hl167_5
           replace p167 := eq_true p167
           replace q167 := eq_true q167
           refine start_ (n := 29) (S := fun w' => w'.cell? ⟨gb165, 0, none⟩ = some (.int .u32 ((rd_T29 l0 x7_1).f0)) ∧ w'.cell? ⟨gb165, 1, none⟩ = some (.int .u32 ((rd_T29 l0 x7_1).f1)) ∧ w'.cell? ⟨gb165, 2, none⟩ = some (.int .u32 ((rd_T29 l0 x7_1).f2)) ∧ w'.cell? ⟨gb165, 3, none⟩ = some (.int .i64 ((rd_T29 l0 x7_1).f3)) ∧ w'.cell? ⟨gb165, 4, none⟩ = some (.int .u32 ((rd_T29 l0 x7_1).f4)) ∧ w'.cell? ⟨gb165, 5, none⟩ = some (.slice A164_5 ((rd_T29 l0 x7_1).f5).length c164_5) ∧ w'.cell? (ad164.add (((ji8)).toNat * 6)) = some (.int .u32 ((rd_T29 l0 (ji8)).f0)) ∧ w'.cell? ⟨(ad164.add (((ji8)).toNat * 6)).block, (ad164.add (((ji8)).toNat * 6)).off + 1, none⟩ = some (.int .u32 ((rd_T29 l0 (ji8)).f1)) ∧ w'.cell? ⟨(ad164.add (((ji8)).toNat * 6)).block, (ad164.add (((ji8)).toNat * 6)).off + 2, none⟩ = some (.int .u32 ((rd_T29 l0 (ji8)).f2)) ∧ w'.cell? ⟨(ad164.add (((ji8)).toNat * 6)).block, (ad164.add (((ji8)).toNat * 6)).off + 3, none⟩ = some (.int .i64 ((rd_T29 l0 (ji8)).f3)) ∧ w'.cell? ⟨(ad164.add (((ji8)).toNat * 6)).block, (ad164.add (((ji8)).toNat * 6)).off + 4, none⟩ = some (.int .u32 ((rd_T29 l0 (ji8)).f4)) ∧ w'.cell? ⟨(ad164.add (((ji8)).toNat * 6)).block, (ad164.add (((ji8)).toNat * 6)).off + 5, none⟩ = some (.slice A167_5 ((rd_T29 l0 (ji8)).f5).length c167_5)) (ds := []) (bs_ 29 0) (by kernel_rfl) rfl rfl ⟨bc_ BK165.out 0, bc_ BK165.out 1, bc_ BK165.out 2, bc_ BK165.out 3, bc_ BK165.out 4, bc_ BK165.out 5, (kp_ HB.out hw167_0), (kp_ HB.out hw167_1), (kp_ HB.out hw167_2), (kp_ HB.out hw167_3), (kp_ HB.out hw167_4), (kp_ HB.out hw167_5)⟩ (fun hHeld => ?_); refine with_tabW flow_Table.tab4 flow_Table.bits4 (fun HT_ HW_ => ?_)
           generalize w16.drew = w17 at BK165 HB HR167_5 hx167_0 hx167_1 hx167_2 hx167_3 hx167_4 hx167_5 hHeld ⊢
           refine tz_ 0 12 ?_
           refine oz_ 1 (some 13) (fun K hK => ?_)
           refine gz_ Try.func45 #[.agg #[.int .u32 ((rd_T29 l0 x7_1).f0), .int .u32 ((rd_T29 l0 x7_1).f1), .int .u32 ((rd_T29 l0 x7_1).f2), .int .i64 ((rd_T29 l0 x7_1).f3), .int .u32 ((rd_T29 l0 x7_1).f4), .slice A164_5 ((rd_T29 l0 x7_1).f5).length c164_5]] ?_
           with_reducible refine (flow_Right.calls k1 ((rd_T29 l0 x7_1).f0) ((rd_T29 l0 x7_1).f1) ((rd_T29 l0 x7_1).f2) ((rd_T29 l0 x7_1).f3) ((rd_T29 l0 x7_1).f4) _ _ ((rd_T29 l0 x7_1).f5) true _ ?side1 ?side2 A5.out).mono ?_
           (case side1 => exact Cd_ (Kd.C_below HR164_5.out HB.out))
           (case side2 => exact HC164_5.out)
           rintro e w18 ⟨rfl, hb⟩
           refine ⟨_, rfl, ?_⟩
           replace BK165 := m_ (kl_ gb165 hb)
           replace HB := m_ (below_step bz_ hb)
           (try clear hb)
           (try clear hb2)
           (try clear hk)
           (try clear hi)
           refine hK.out _ _ ⟨bc_ BK165.out 0, bc_ BK165.out 1, bc_ BK165.out 2, bc_ BK165.out 3, bc_ BK165.out 4, bc_ BK165.out 5, (kp_ HB.out hw167_0), (kp_ HB.out hw167_1), (kp_ HB.out hw167_2), (kp_ HB.out hw167_3), (kp_ HB.out hw167_4), (kp_ HB.out hw167_5)⟩ (fun hHeld => ?_)
           clear hK K
           refine nz_ (some 13) ?_
           refine pz_ 2 14 ?_
           refine pz_ 3 15 ?_
           refine pz_ 4 16 ?_
           refine pz_ 5 17 ?_
           refine pz_ 6 18 ?_
           refine pz_ 7 19 ?_
           refine pz_ 8 20 ?_
           refine pz_ 9 21 ?_
           refine pz_ 10 22 ?_
           refine tz_ 11 23 ?_
           refine tz_ 13 25 ?_
           refine oz_ 12 (some 24) (fun K hK => ?_)
           refine goes_ Try.func46 (by kernel_rfl) rfl #[.agg #[.int .u32 ((rd_T29 l0 (ji8)).f0), .int .u32 ((rd_T29 l0 (ji8)).f1), .int .u32 ((rd_T29 l0 (ji8)).f2), .int .i64 ((rd_T29 l0 (ji8)).f3), .int .u32 ((rd_T29 l0 (ji8)).f4), .slice A167_5 ((rd_T29 l0 (ji8)).f5).length c167_5]] (by rfl) rfl rfl (by (try simp only [List.map_toArray, List.map_cons, List.map_nil]); first | done | (simp only [hji8]; rfl) | rfl | (simp only [List.length_drop, List.length_take]; rfl)) ?_
           with_reducible refine (flow_of.calls ((rd_T29 l0 (ji8)).f0) ((rd_T29 l0 (ji8)).f1) ((rd_T29 l0 (ji8)).f2) ((rd_T29 l0 (ji8)).f3) ((rd_T29 l0 (ji8)).f4) _ _ ((rd_T29 l0 (ji8)).f5) t168 t169 t170 _ ?side1 ?side2 A11.out).mono ?_
           (case side1 => exact Cd_ (Kd.C_below HR167_5.out HB.out))
           (case side2 => exact HC167_5.out)
           rintro e w19 ⟨rfl, hb⟩
           refine ⟨_, rfl, ?_⟩
           replace BK165 := m_ (kl_ gb165 hb)
           replace HB := m_ (below_step bz_ hb)
           (try clear hb)
           (try clear hb2)
           (try clear hk)
           (try clear hi)
           refine hK.out _ _ ⟨bc_ BK165.out 0, bc_ BK165.out 1, bc_ BK165.out 2, bc_ BK165.out 3, bc_ BK165.out 4, bc_ BK165.out 5, (kp_ HB.out hw167_0), (kp_ HB.out hw167_1), (kp_ HB.out hw167_2), (kp_ HB.out hw167_3), (kp_ HB.out hw167_4), (kp_ HB.out hw167_5)⟩ (fun hHeld => ?_)
           clear hK K
           refine nz_ (some 24) ?_
           refine oz_ 14 (some 26) (fun K hK => ?_)
           refine gz_ Try.func46 #[.agg #[.int .u32 ((rd_T29 l0 x7_1).f0), .int .u32 ((rd_T29 l0 x7_1).f1), .int .u32 ((rd_T29 l0 x7_1).f2), .int .i64 ((rd_T29 l0 x7_1).f3), .int .u32 ((rd_T29 l0 x7_1).f4), .slice A164_5 ((rd_T29 l0 x7_1).f5).length c164_5]] ?_
           with_reducible refine (flow_of.calls ((rd_T29 l0 x7_1).f0) ((rd_T29 l0 x7_1).f1) ((rd_T29 l0 x7_1).f2) ((rd_T29 l0 x7_1).f3) ((rd_T29 l0 x7_1).f4) _ _ ((rd_T29 l0 x7_1).f5) t171 t172 t173 _ ?side1 ?side2 A12.out).mono ?_
           (case side1 => exact Cd_ (Kd.C_below HR164_5.out HB.out))
           (case side2 => exact HC164_5.out)
           rintro e w20 ⟨rfl, hb⟩
           refine ⟨_, rfl, ?_⟩
           replace BK165 := m_ (kl_ gb165 hb)
           replace HB := m_ (below_step bz_ hb)
           (try clear hb)
           (try clear hb2)
           (try clear hk)
           (try clear hi)
           refine hK.out _ _ ⟨bc_ BK165.out 0, bc_ BK165.out 1, bc_ BK165.out 2, bc_ BK165.out 3, bc_ BK165.out 4, bc_ BK165.out 5, (kp_ HB.out hw167_0), (kp_ HB.out hw167_1), (kp_ HB.out hw167_2), (kp_ HB.out hw167_3), (kp_ HB.out hw167_4), (kp_ HB.out hw167_5)⟩ (fun hHeld => ?_)
           clear hK K
           refine nz_ (some 26) ?_
           refine pz_ 15 27 ?_
           refine pz_ 16 28 ?_
           refine pz_ 17 29 ?_
           refine pz_ 18 30 ?_
           refine pz_ 19 31 ?_
           refine pz_ 20 32 ?_
           refine pz_ 21 33 ?_
           refine pz_ 22 34 ?_
           refine pz_ 23 35 ?_
           refine pz_ 24 36 ?_
           refine pz_ 25 37 ?_
           refine pz_ 26 38 ?_
           refine pz_ 27 39 ?_
           refine pz_ 28 40 ?_
           refine dz_ ?_
           try go_wp2
           go_ret
           exact ⟨(by first | rfl | (simp [errW_none, errW_some] <;> rfl) | (simp only [← hji8]; first | rfl | (simp [errW_none, errW_some] <;> rfl)) | (simp [*, errW_none, errW_some] <;> rfl)), bz_⟩
          ·rw [if_neg c13] at H
           have c13b0 : (t168 == t171 && (t169 == t172 && (t170 == t173))) = false := by simpa using c13
           (try (have c13b1 : decide (t168 = t171 && (t169 == t172 && (t170 == t173))) = false := by simpa using c13))
           (try (have c13b2 : (t168 == t171 && (t169 == t172 && (t170 == t173))) = false := by simpa using c13))
           (try (have c13b3 : ¬ (t168 = t171 && (t169 == t172 && (t170 == t173))) := by simpa using c13))
           clear c13
           replace H := Option.bind_eq_some_iff.mp H
           obtain ⟨⟨t175, t176, t177⟩, A210, H⟩ := H
           replace H : ((flow_order.f k1 ((rd_T29 l0 (ji8)).f0) ((rd_T29 l0 (ji8)).f1) ((rd_T29 l0 (ji8)).f2) ((rd_T29 l0 (ji8)).f3) ((rd_T29 l0 (ji8)).f4) ((rd_T29 l0 (ji8)).f5) t175 t176 t177).bind fun t178 => (if t178 > 0 then (some false) else (flow_Table.l0 k1 l0 l0 (l0.length : Int) (wrap64 (x7_1 + 1))))) = some r := H
           have A21 := m_ A210
           clear A210
           have z_ := Option.some.inj (A12.out.symm.trans A21.out)
           simp only [Prod.mk.injEq] at z_
           obtain ⟨z0_, z1_, z2_⟩ := z_
           subst z0_
           subst z1_
           subst z2_
           replace H := Option.bind_eq_some_iff.mp H
           obtain ⟨t178, A220, H⟩ := H
           replace H : (if t178 > 0 then (some false) else (flow_Table.l0 k1 l0 l0 (l0.length : Int) (wrap64 (x7_1 + 1)))) = some r := H
           have A22 := m_ A220
           clear A220
           by_cases c23 : t178 > 0
           ·rw [if_pos c23] at H
            have c23b0 : decide (0 < t178) = true := decide_eq_true c23
            clear c23
            obtain rfl := Option.some.inj H
            have p164 : 0 ≤ (x7_1 : Int) := od_
            have q164 : x7_1 < (l0.length : Int) := od_
            obtain ⟨ad164, A164_5, c164_5, e164, hx164_0, hx164_1, hx164_2, hx164_3, hx164_4, hx164_5, hl164_5, hi164_5⟩ := at_T29 HR0.out x7_1 p164 q164
            cases e164
            replace hx164_0 := kp_ HB.out hx164_0
            replace hx164_1 := kp_ HB.out hx164_1
            replace hx164_2 := kp_ HB.out hx164_2
            replace hx164_3 := kp_ HB.out hx164_3
            replace hx164_4 := kp_ HB.out hx164_4
            replace hx164_5 := kp_ HB.out hx164_5
            have HR164_5 := m_ hi164_5
            have HC164_5 := m_ hl164_5
            clear hi164_5 hl164_5
            replace p164 := eq_true p164
            replace q164 := eq_true q164
            try go_wp2_with (first | ((with_reducible refine gate_dst (N := 4) rfl ?_); refine bx_ 4 29 #[.int .u32 0, .int .u32 0, .int .u32 0, .int .i64 0, .int .u32 0, .slice none 0 0] ?_; intro gb165 hg w24 hbox hb; have BK165 := m_ (hbox); have GW165 := m_ ((gw_ : w.heap.size ≤ gb165)); have GE165 := m_ ((gw_ : w.heap.size ≤ gb165)); replace HB := m_ (below_step bz_ hb); clear hb hbox hg; have hcz25 := cz6_ BK165.out))
            obtain ⟨w26, hw⟩ : ∃ W_, W_ = ((((((w24.setCell ⟨gb165, 0, none⟩ (.int .u32 ((rd_T29 l0 x7_1).f0))).setCell ⟨gb165, 1, none⟩ (.int .u32 ((rd_T29 l0 x7_1).f1))).setCell ⟨gb165, 2, none⟩ (.int .u32 ((rd_T29 l0 x7_1).f2))).setCell ⟨gb165, 3, none⟩ (.int .i64 ((rd_T29 l0 x7_1).f3))).setCell ⟨gb165, 4, none⟩ (.int .u32 ((rd_T29 l0 x7_1).f4))).setCell ⟨gb165, 5, none⟩ (.slice A164_5 ((rd_T29 l0 x7_1).f5).length c164_5)) := ⟨_, rfl⟩
            replace BK165 : Aside0 (w26.heap[gb165]? = some (.cells #[.int .u32 ((rd_T29 l0 x7_1).f0), .int .u32 ((rd_T29 l0 x7_1).f1), .int .u32 ((rd_T29 l0 x7_1).f2), .int .i64 ((rd_T29 l0 x7_1).f3), .int .u32 ((rd_T29 l0 x7_1).f4), .slice A164_5 ((rd_T29 l0 x7_1).f5).length c164_5] 29 (0, 0))) := ⟨by rw [hw]; exact kb_⟩
            replace HB : Aside0 (Below w.heap.size w w26) := ⟨by rw [hw]; exact bz_⟩
            rw [← hw]; clear hw
            replace BK165 := m_ (blk_drew BK165.out)
            replace HB := m_ (below_drew1 HB.out)
            have p167 : 0 ≤ ((ji8) : Int) := od_
            have q167 : (ji8) < (l0.length : Int) := od_
            obtain ⟨ad167, A167_5, c167_5, e167, hx167_0, hx167_1, hx167_2, hx167_3, hx167_4, hx167_5, hl167_5, hi167_5⟩ := at_T29 HR0.out (ji8) p167 q167
            have hw167_5 := hx167_5
            have hw167_4 := hx167_4
            have hw167_3 := hx167_3
            have hw167_2 := hx167_2
            have hw167_1 := hx167_1
            have hw167_0 := hx167_0
            obtain rfl : ad164 = ad167 := (by injection e167)
            replace hx167_0 := kp_ HB.out hx167_0
            replace hx167_1 := kp_ HB.out hx167_1
            replace hx167_2 := kp_ HB.out hx167_2
            replace hx167_3 := kp_ HB.out hx167_3
            replace hx167_4 := kp_ HB.out hx167_4
            replace hx167_5 := kp_ HB.out hx167_5
            have HR167_5 := m_ hi167_5
            have HC167_5 := m_ hl167_5
            clear hi167_5 hl167_5
            replace p167 := eq_true p167
            replace q167 := eq_true q167
            have p174 : 0 ≤ ((ji8) : Int) := od_
            have q174 : (ji8) < (l0.length : Int) := od_
            obtain ⟨ad174, A174_5, c174_5, e174, hx174_0, hx174_1, hx174_2, hx174_3, hx174_4, hx174_5, hl174_5, hi174_5⟩ := at_T29 HR0.out (ji8) p174 q174
            have hw174_5 := hx174_5
            have hw174_4 := hx174_4
            have hw174_3 := hx174_3
            have hw174_2 := hx174_2
            have hw174_1 := hx174_1
            have hw174_0 := hx174_0
            obtain rfl : ad164 = ad174 := (by injection e174)
            obtain ⟨ez1_, ez2_⟩ : A167_5 = A174_5 ∧ c167_5 = c174_5 := (by first | (have z_ := Option.some.inj (hw167_5.symm.trans hx174_5); injection z_ with z1_ z2_ z3_; exact ⟨z1_, z3_⟩) | (have z_ := Option.some.inj (hx167_5.symm.trans hx174_5); injection z_ with z1_ z2_ z3_; exact ⟨z1_, z3_⟩))
            subst ez1_
            subst ez2_
            replace hx174_0 := kp_ HB.out hx174_0
            replace hx174_1 := kp_ HB.out hx174_1
            replace hx174_2 := kp_ HB.out hx174_2
            replace hx174_3 := kp_ HB.out hx174_3
            replace hx174_4 := kp_ HB.out hx174_4
            replace hx174_5 := kp_ HB.out hx174_5
            have HR174_5 := m_ hi174_5
            have HC174_5 := m_ hl174_5
            clear hi174_5 hl174_5
            replace p174 := eq_true p174
            replace q174 := eq_true q174
            refine start_ (n := 29) (S := fun w' => w'.cell? ⟨gb165, 0, none⟩ = some (.int .u32 ((rd_T29 l0 x7_1).f0)) ∧ w'.cell? ⟨gb165, 1, none⟩ = some (.int .u32 ((rd_T29 l0 x7_1).f1)) ∧ w'.cell? ⟨gb165, 2, none⟩ = some (.int .u32 ((rd_T29 l0 x7_1).f2)) ∧ w'.cell? ⟨gb165, 3, none⟩ = some (.int .i64 ((rd_T29 l0 x7_1).f3)) ∧ w'.cell? ⟨gb165, 4, none⟩ = some (.int .u32 ((rd_T29 l0 x7_1).f4)) ∧ w'.cell? ⟨gb165, 5, none⟩ = some (.slice A164_5 ((rd_T29 l0 x7_1).f5).length c164_5) ∧ w'.cell? (ad164.add (((ji8)).toNat * 6)) = some (.int .u32 ((rd_T29 l0 (ji8)).f0)) ∧ w'.cell? ⟨(ad164.add (((ji8)).toNat * 6)).block, (ad164.add (((ji8)).toNat * 6)).off + 1, none⟩ = some (.int .u32 ((rd_T29 l0 (ji8)).f1)) ∧ w'.cell? ⟨(ad164.add (((ji8)).toNat * 6)).block, (ad164.add (((ji8)).toNat * 6)).off + 2, none⟩ = some (.int .u32 ((rd_T29 l0 (ji8)).f2)) ∧ w'.cell? ⟨(ad164.add (((ji8)).toNat * 6)).block, (ad164.add (((ji8)).toNat * 6)).off + 3, none⟩ = some (.int .i64 ((rd_T29 l0 (ji8)).f3)) ∧ w'.cell? ⟨(ad164.add (((ji8)).toNat * 6)).block, (ad164.add (((ji8)).toNat * 6)).off + 4, none⟩ = some (.int .u32 ((rd_T29 l0 (ji8)).f4)) ∧ w'.cell? ⟨(ad164.add (((ji8)).toNat * 6)).block, (ad164.add (((ji8)).toNat * 6)).off + 5, none⟩ = some (.slice A167_5 ((rd_T29 l0 (ji8)).f5).length c167_5) ∧ w'.cell? (ad164.add (((ji8)).toNat * 6)) = some (.int .u32 ((rd_T29 l0 (ji8)).f0)) ∧ w'.cell? ⟨(ad164.add (((ji8)).toNat * 6)).block, (ad164.add (((ji8)).toNat * 6)).off + 1, none⟩ = some (.int .u32 ((rd_T29 l0 (ji8)).f1)) ∧ w'.cell? ⟨(ad164.add (((ji8)).toNat * 6)).block, (ad164.add (((ji8)).toNat * 6)).off + 2, none⟩ = some (.int .u32 ((rd_T29 l0 (ji8)).f2)) ∧ w'.cell? ⟨(ad164.add (((ji8)).toNat * 6)).block, (ad164.add (((ji8)).toNat * 6)).off + 3, none⟩ = some (.int .i64 ((rd_T29 l0 (ji8)).f3)) ∧ w'.cell? ⟨(ad164.add (((ji8)).toNat * 6)).block, (ad164.add (((ji8)).toNat * 6)).off + 4, none⟩ = some (.int .u32 ((rd_T29 l0 (ji8)).f4)) ∧ w'.cell? ⟨(ad164.add (((ji8)).toNat * 6)).block, (ad164.add (((ji8)).toNat * 6)).off + 5, none⟩ = some (.slice A167_5 ((rd_T29 l0 (ji8)).f5).length c167_5)) (ds := []) (bs_ 29 0) (by kernel_rfl) rfl rfl ⟨bc_ BK165.out 0, bc_ BK165.out 1, bc_ BK165.out 2, bc_ BK165.out 3, bc_ BK165.out 4, bc_ BK165.out 5, (kp_ HB.out hw167_0), (kp_ HB.out hw167_1), (kp_ HB.out hw167_2), (kp_ HB.out hw167_3), (kp_ HB.out hw167_4), (kp_ HB.out hw167_5), (kp_ HB.out hw174_0), (kp_ HB.out hw174_1), (kp_ HB.out hw174_2), (kp_ HB.out hw174_3), (kp_ HB.out hw174_4), (kp_ HB.out hw174_5)⟩ (fun hHeld => ?_); refine with_tabW flow_Table.tab4 flow_Table.bits4 (fun HT_ HW_ => ?_)
            generalize w26.drew = w27 at BK165 HB HR167_5 HR174_5 hx167_0 hx167_1 hx167_2 hx167_3 hx167_4 hx167_5 hx174_0 hx174_1 hx174_2 hx174_3 hx174_4 hx174_5 hHeld ⊢
            refine tz_ 0 12 ?_
            refine oz_ 1 (some 13) (fun K hK => ?_)
            refine gz_ Try.func45 #[.agg #[.int .u32 ((rd_T29 l0 x7_1).f0), .int .u32 ((rd_T29 l0 x7_1).f1), .int .u32 ((rd_T29 l0 x7_1).f2), .int .i64 ((rd_T29 l0 x7_1).f3), .int .u32 ((rd_T29 l0 x7_1).f4), .slice A164_5 ((rd_T29 l0 x7_1).f5).length c164_5]] ?_
            with_reducible refine (flow_Right.calls k1 ((rd_T29 l0 x7_1).f0) ((rd_T29 l0 x7_1).f1) ((rd_T29 l0 x7_1).f2) ((rd_T29 l0 x7_1).f3) ((rd_T29 l0 x7_1).f4) _ _ ((rd_T29 l0 x7_1).f5) true _ ?side1 ?side2 A5.out).mono ?_
            (case side1 => exact Cd_ (Kd.C_below HR164_5.out HB.out))
            (case side2 => exact HC164_5.out)
            rintro e w28 ⟨rfl, hb⟩
            refine ⟨_, rfl, ?_⟩
            replace BK165 := m_ (kl_ gb165 hb)
            replace HB := m_ (below_step bz_ hb)
            (try clear hb)
            (try clear hb2)
            (try clear hk)
            (try clear hi)
            refine hK.out _ _ ⟨bc_ BK165.out 0, bc_ BK165.out 1, bc_ BK165.out 2, bc_ BK165.out 3, bc_ BK165.out 4, bc_ BK165.out 5, (kp_ HB.out hw167_0), (kp_ HB.out hw167_1), (kp_ HB.out hw167_2), (kp_ HB.out hw167_3), (kp_ HB.out hw167_4), (kp_ HB.out hw167_5), (kp_ HB.out hw174_0), (kp_ HB.out hw174_1), (kp_ HB.out hw174_2), (kp_ HB.out hw174_3), (kp_ HB.out hw174_4), (kp_ HB.out hw174_5)⟩ (fun hHeld => ?_)
            clear hK K
            refine nz_ (some 13) ?_
            refine pz_ 2 14 ?_
            refine pz_ 3 15 ?_
            refine pz_ 4 16 ?_
            refine pz_ 5 17 ?_
            refine pz_ 6 18 ?_
            refine pz_ 7 19 ?_
            refine pz_ 8 20 ?_
            refine pz_ 9 21 ?_
            refine pz_ 10 22 ?_
            refine tz_ 11 23 ?_
            refine tz_ 13 25 ?_
            refine oz_ 12 (some 24) (fun K hK => ?_)
            refine goes_ Try.func46 (by kernel_rfl) rfl #[.agg #[.int .u32 ((rd_T29 l0 (ji8)).f0), .int .u32 ((rd_T29 l0 (ji8)).f1), .int .u32 ((rd_T29 l0 (ji8)).f2), .int .i64 ((rd_T29 l0 (ji8)).f3), .int .u32 ((rd_T29 l0 (ji8)).f4), .slice A167_5 ((rd_T29 l0 (ji8)).f5).length c167_5]] (by rfl) rfl rfl (by (try simp only [List.map_toArray, List.map_cons, List.map_nil]); first | done | (simp only [hji8]; rfl) | rfl | (simp only [List.length_drop, List.length_take]; rfl)) ?_
            with_reducible refine (flow_of.calls ((rd_T29 l0 (ji8)).f0) ((rd_T29 l0 (ji8)).f1) ((rd_T29 l0 (ji8)).f2) ((rd_T29 l0 (ji8)).f3) ((rd_T29 l0 (ji8)).f4) _ _ ((rd_T29 l0 (ji8)).f5) t168 t169 t170 _ ?side1 ?side2 A11.out).mono ?_
            (case side1 => exact Cd_ (Kd.C_below HR167_5.out HB.out))
            (case side2 => exact HC167_5.out)
            rintro e w29 ⟨rfl, hb⟩
            refine ⟨_, rfl, ?_⟩
            replace BK165 := m_ (kl_ gb165 hb)
            replace HB := m_ (below_step bz_ hb)
            (try clear hb)
            (try clear hb2)
            (try clear hk)
            (try clear hi)
            refine hK.out _ _ ⟨bc_ BK165.out 0, bc_ BK165.out 1, bc_ BK165.out 2, bc_ BK165.out 3, bc_ BK165.out 4, bc_ BK165.out 5, (kp_ HB.out hw167_0), (kp_ HB.out hw167_1), (kp_ HB.out hw167_2), (kp_ HB.out hw167_3), (kp_ HB.out hw167_4), (kp_ HB.out hw167_5), (kp_ HB.out hw174_0), (kp_ HB.out hw174_1), (kp_ HB.out hw174_2), (kp_ HB.out hw174_3), (kp_ HB.out hw174_4), (kp_ HB.out hw174_5)⟩ (fun hHeld => ?_)
            clear hK K
            refine nz_ (some 24) ?_
            refine oz_ 14 (some 26) (fun K hK => ?_)
            refine gz_ Try.func46 #[.agg #[.int .u32 ((rd_T29 l0 x7_1).f0), .int .u32 ((rd_T29 l0 x7_1).f1), .int .u32 ((rd_T29 l0 x7_1).f2), .int .i64 ((rd_T29 l0 x7_1).f3), .int .u32 ((rd_T29 l0 x7_1).f4), .slice A164_5 ((rd_T29 l0 x7_1).f5).length c164_5]] ?_
            with_reducible refine (flow_of.calls ((rd_T29 l0 x7_1).f0) ((rd_T29 l0 x7_1).f1) ((rd_T29 l0 x7_1).f2) ((rd_T29 l0 x7_1).f3) ((rd_T29 l0 x7_1).f4) _ _ ((rd_T29 l0 x7_1).f5) t171 t172 t173 _ ?side1 ?side2 A12.out).mono ?_
            (case side1 => exact Cd_ (Kd.C_below HR164_5.out HB.out))
            (case side2 => exact HC164_5.out)
            rintro e w30 ⟨rfl, hb⟩
            refine ⟨_, rfl, ?_⟩
            replace BK165 := m_ (kl_ gb165 hb)
            replace HB := m_ (below_step bz_ hb)
            (try clear hb)
            (try clear hb2)
            (try clear hk)
            (try clear hi)
            refine hK.out _ _ ⟨bc_ BK165.out 0, bc_ BK165.out 1, bc_ BK165.out 2, bc_ BK165.out 3, bc_ BK165.out 4, bc_ BK165.out 5, (kp_ HB.out hw167_0), (kp_ HB.out hw167_1), (kp_ HB.out hw167_2), (kp_ HB.out hw167_3), (kp_ HB.out hw167_4), (kp_ HB.out hw167_5), (kp_ HB.out hw174_0), (kp_ HB.out hw174_1), (kp_ HB.out hw174_2), (kp_ HB.out hw174_3), (kp_ HB.out hw174_4), (kp_ HB.out hw174_5)⟩ (fun hHeld => ?_)
            clear hK K
            refine nz_ (some 26) ?_
            refine pz_ 15 27 ?_
            refine pz_ 16 28 ?_
            refine pz_ 17 29 ?_
            refine pz_ 18 30 ?_
            refine pz_ 19 31 ?_
            refine pz_ 20 32 ?_
            refine tz_ 21 33 ?_
            refine tz_ 22 34 ?_
            refine oz_ 23 (some 35) (fun K hK => ?_)
            refine gz_ Try.func46 #[.agg #[.int .u32 ((rd_T29 l0 x7_1).f0), .int .u32 ((rd_T29 l0 x7_1).f1), .int .u32 ((rd_T29 l0 x7_1).f2), .int .i64 ((rd_T29 l0 x7_1).f3), .int .u32 ((rd_T29 l0 x7_1).f4), .slice A164_5 ((rd_T29 l0 x7_1).f5).length c164_5]] ?_
            with_reducible refine (flow_of.calls ((rd_T29 l0 x7_1).f0) ((rd_T29 l0 x7_1).f1) ((rd_T29 l0 x7_1).f2) ((rd_T29 l0 x7_1).f3) ((rd_T29 l0 x7_1).f4) _ _ ((rd_T29 l0 x7_1).f5) t171 t172 t173 _ ?side1 ?side2 A21.out).mono ?_
            (case side1 => exact Cd_ (Kd.C_below HR164_5.out HB.out))
            (case side2 => exact HC164_5.out)
            rintro e w31 ⟨rfl, hb⟩
            refine ⟨_, rfl, ?_⟩
            replace BK165 := m_ (kl_ gb165 hb)
            replace HB := m_ (below_step bz_ hb)
            (try clear hb)
            (try clear hb2)
            (try clear hk)
            (try clear hi)
            refine hK.out _ _ ⟨bc_ BK165.out 0, bc_ BK165.out 1, bc_ BK165.out 2, bc_ BK165.out 3, bc_ BK165.out 4, bc_ BK165.out 5, (kp_ HB.out hw167_0), (kp_ HB.out hw167_1), (kp_ HB.out hw167_2), (kp_ HB.out hw167_3), (kp_ HB.out hw167_4), (kp_ HB.out hw167_5), (kp_ HB.out hw174_0), (kp_ HB.out hw174_1), (kp_ HB.out hw174_2), (kp_ HB.out hw174_3), (kp_ HB.out hw174_4), (kp_ HB.out hw174_5)⟩ (fun hHeld => ?_)
            clear hK K
            refine nz_ (some 35) ?_
            refine oz_ 24 (some 36) (fun K hK => ?_)
            refine goes_ Try.func47 (by kernel_rfl) rfl #[.agg #[.int .u32 ((rd_T29 l0 (ji8)).f0), .int .u32 ((rd_T29 l0 (ji8)).f1), .int .u32 ((rd_T29 l0 (ji8)).f2), .int .i64 ((rd_T29 l0 (ji8)).f3), .int .u32 ((rd_T29 l0 (ji8)).f4), .slice A167_5 ((rd_T29 l0 (ji8)).f5).length c167_5], .agg #[.int .u32 t171, .int .u32 t172, .int .u32 t173]] (by rfl) rfl rfl (by (try simp only [List.map_toArray, List.map_cons, List.map_nil]); first | done | (simp only [hji8]; rfl) | rfl | (simp only [List.length_drop, List.length_take]; rfl)) ?_
            with_reducible refine (flow_order.calls k1 ((rd_T29 l0 (ji8)).f0) ((rd_T29 l0 (ji8)).f1) ((rd_T29 l0 (ji8)).f2) ((rd_T29 l0 (ji8)).f3) ((rd_T29 l0 (ji8)).f4) _ _ ((rd_T29 l0 (ji8)).f5) t171 t172 t173 t178 _ ?side1 ?side2 A22.out).mono ?_
            (case side1 => exact Cd_ (Kd.C_below HR174_5.out HB.out))
            (case side2 => exact HC174_5.out)
            rintro e w32 ⟨rfl, hb⟩
            refine ⟨_, rfl, ?_⟩
            replace BK165 := m_ (kl_ gb165 hb)
            replace HB := m_ (below_step bz_ hb)
            (try clear hb)
            (try clear hb2)
            (try clear hk)
            (try clear hi)
            refine hK.out _ _ ⟨bc_ BK165.out 0, bc_ BK165.out 1, bc_ BK165.out 2, bc_ BK165.out 3, bc_ BK165.out 4, bc_ BK165.out 5, (kp_ HB.out hw167_0), (kp_ HB.out hw167_1), (kp_ HB.out hw167_2), (kp_ HB.out hw167_3), (kp_ HB.out hw167_4), (kp_ HB.out hw167_5), (kp_ HB.out hw174_0), (kp_ HB.out hw174_1), (kp_ HB.out hw174_2), (kp_ HB.out hw174_3), (kp_ HB.out hw174_4), (kp_ HB.out hw174_5)⟩ (fun hHeld => ?_)
            clear hK K
            refine nz_ (some 36) ?_
            refine pz_ 25 37 ?_
            refine pz_ 26 38 ?_
            refine pz_ 27 39 ?_
            refine pz_ 28 40 ?_
            refine dz_ ?_
            try go_wp2
            go_ret
            exact ⟨(by first | rfl | (simp [errW_none, errW_some] <;> rfl) | (simp only [← hji8]; first | rfl | (simp [errW_none, errW_some] <;> rfl)) | (simp [*, errW_none, errW_some] <;> rfl)), bz_⟩
           ·rw [if_neg c23] at H
            have c23b0 : decide (0 < t178) = false := decide_eq_false c23
            clear c23
            have H' := m_ H
            clear H
            have p164 : 0 ≤ (x7_1 : Int) := od_
            have q164 : x7_1 < (l0.length : Int) := od_
            obtain ⟨ad164, A164_5, c164_5, e164, hx164_0, hx164_1, hx164_2, hx164_3, hx164_4, hx164_5, hl164_5, hi164_5⟩ := at_T29 HR0.out x7_1 p164 q164
            cases e164
            replace hx164_0 := kp_ HB.out hx164_0
            replace hx164_1 := kp_ HB.out hx164_1
            replace hx164_2 := kp_ HB.out hx164_2
            replace hx164_3 := kp_ HB.out hx164_3
            replace hx164_4 := kp_ HB.out hx164_4
            replace hx164_5 := kp_ HB.out hx164_5
            have HR164_5 := m_ hi164_5
            have HC164_5 := m_ hl164_5
            clear hi164_5 hl164_5
            replace p164 := eq_true p164
            replace q164 := eq_true q164
            try go_wp2_with (first | ((with_reducible refine gate_dst (N := 4) rfl ?_); refine bx_ 4 29 #[.int .u32 0, .int .u32 0, .int .u32 0, .int .i64 0, .int .u32 0, .slice none 0 0] ?_; intro gb165 hg w33 hbox hb; have BK165 := m_ (hbox); have GW165 := m_ ((gw_ : w.heap.size ≤ gb165)); have GE165 := m_ ((gw_ : w.heap.size ≤ gb165)); replace HB := m_ (below_step bz_ hb); clear hb hbox hg; have hcz34 := cz6_ BK165.out))
            obtain ⟨w35, hw⟩ : ∃ W_, W_ = ((((((w33.setCell ⟨gb165, 0, none⟩ (.int .u32 ((rd_T29 l0 x7_1).f0))).setCell ⟨gb165, 1, none⟩ (.int .u32 ((rd_T29 l0 x7_1).f1))).setCell ⟨gb165, 2, none⟩ (.int .u32 ((rd_T29 l0 x7_1).f2))).setCell ⟨gb165, 3, none⟩ (.int .i64 ((rd_T29 l0 x7_1).f3))).setCell ⟨gb165, 4, none⟩ (.int .u32 ((rd_T29 l0 x7_1).f4))).setCell ⟨gb165, 5, none⟩ (.slice A164_5 ((rd_T29 l0 x7_1).f5).length c164_5)) := ⟨_, rfl⟩
            replace BK165 : Aside0 (w35.heap[gb165]? = some (.cells #[.int .u32 ((rd_T29 l0 x7_1).f0), .int .u32 ((rd_T29 l0 x7_1).f1), .int .u32 ((rd_T29 l0 x7_1).f2), .int .i64 ((rd_T29 l0 x7_1).f3), .int .u32 ((rd_T29 l0 x7_1).f4), .slice A164_5 ((rd_T29 l0 x7_1).f5).length c164_5] 29 (0, 0))) := ⟨by rw [hw]; exact kb_⟩
            replace HB : Aside0 (Below w.heap.size w w35) := ⟨by rw [hw]; exact bz_⟩
            rw [← hw]; clear hw
            replace BK165 := m_ (blk_drew BK165.out)
            replace HB := m_ (below_drew1 HB.out)
            have p167 : 0 ≤ ((ji8) : Int) := od_
            have q167 : (ji8) < (l0.length : Int) := od_
            obtain ⟨ad167, A167_5, c167_5, e167, hx167_0, hx167_1, hx167_2, hx167_3, hx167_4, hx167_5, hl167_5, hi167_5⟩ := at_T29 HR0.out (ji8) p167 q167
            have hw167_5 := hx167_5
            have hw167_4 := hx167_4
            have hw167_3 := hx167_3
            have hw167_2 := hx167_2
            have hw167_1 := hx167_1
            have hw167_0 := hx167_0
            obtain rfl : ad164 = ad167 := (by injection e167)
            replace hx167_0 := kp_ HB.out hx167_0
            replace hx167_1 := kp_ HB.out hx167_1
            replace hx167_2 := kp_ HB.out hx167_2
            replace hx167_3 := kp_ HB.out hx167_3
            replace hx167_4 := kp_ HB.out hx167_4
            replace hx167_5 := kp_ HB.out hx167_5
            have HR167_5 := m_ hi167_5
            have HC167_5 := m_ hl167_5
            clear hi167_5 hl167_5
            replace p167 := eq_true p167
            replace q167 := eq_true q167
            have p174 : 0 ≤ ((ji8) : Int) := od_
            have q174 : (ji8) < (l0.length : Int) := od_
            obtain ⟨ad174, A174_5, c174_5, e174, hx174_0, hx174_1, hx174_2, hx174_3, hx174_4, hx174_5, hl174_5, hi174_5⟩ := at_T29 HR0.out (ji8) p174 q174
            have hw174_5 := hx174_5
            have hw174_4 := hx174_4
            have hw174_3 := hx174_3
            have hw174_2 := hx174_2
            have hw174_1 := hx174_1
            have hw174_0 := hx174_0
            obtain rfl : ad164 = ad174 := (by injection e174)
            obtain ⟨ez1_, ez2_⟩ : A167_5 = A174_5 ∧ c167_5 = c174_5 := (by first | (have z_ := Option.some.inj (hw167_5.symm.trans hx174_5); injection z_ with z1_ z2_ z3_; exact ⟨z1_, z3_⟩) | (have z_ := Option.some.inj (hx167_5.symm.trans hx174_5); injection z_ with z1_ z2_ z3_; exact ⟨z1_, z3_⟩))
            subst ez1_
            subst ez2_
            replace hx174_0 := kp_ HB.out hx174_0
            replace hx174_1 := kp_ HB.out hx174_1
            replace hx174_2 := kp_ HB.out hx174_2
            replace hx174_3 := kp_ HB.out hx174_3
            replace hx174_4 := kp_ HB.out hx174_4
            replace hx174_5 := kp_ HB.out hx174_5
            have HR174_5 := m_ hi174_5
            have HC174_5 := m_ hl174_5
            clear hi174_5 hl174_5
            replace p174 := eq_true p174
            replace q174 := eq_true q174
            refine start_ (n := 29) (S := fun w' => w'.cell? ⟨gb165, 0, none⟩ = some (.int .u32 ((rd_T29 l0 x7_1).f0)) ∧ w'.cell? ⟨gb165, 1, none⟩ = some (.int .u32 ((rd_T29 l0 x7_1).f1)) ∧ w'.cell? ⟨gb165, 2, none⟩ = some (.int .u32 ((rd_T29 l0 x7_1).f2)) ∧ w'.cell? ⟨gb165, 3, none⟩ = some (.int .i64 ((rd_T29 l0 x7_1).f3)) ∧ w'.cell? ⟨gb165, 4, none⟩ = some (.int .u32 ((rd_T29 l0 x7_1).f4)) ∧ w'.cell? ⟨gb165, 5, none⟩ = some (.slice A164_5 ((rd_T29 l0 x7_1).f5).length c164_5) ∧ w'.cell? (ad164.add (((ji8)).toNat * 6)) = some (.int .u32 ((rd_T29 l0 (ji8)).f0)) ∧ w'.cell? ⟨(ad164.add (((ji8)).toNat * 6)).block, (ad164.add (((ji8)).toNat * 6)).off + 1, none⟩ = some (.int .u32 ((rd_T29 l0 (ji8)).f1)) ∧ w'.cell? ⟨(ad164.add (((ji8)).toNat * 6)).block, (ad164.add (((ji8)).toNat * 6)).off + 2, none⟩ = some (.int .u32 ((rd_T29 l0 (ji8)).f2)) ∧ w'.cell? ⟨(ad164.add (((ji8)).toNat * 6)).block, (ad164.add (((ji8)).toNat * 6)).off + 3, none⟩ = some (.int .i64 ((rd_T29 l0 (ji8)).f3)) ∧ w'.cell? ⟨(ad164.add (((ji8)).toNat * 6)).block, (ad164.add (((ji8)).toNat * 6)).off + 4, none⟩ = some (.int .u32 ((rd_T29 l0 (ji8)).f4)) ∧ w'.cell? ⟨(ad164.add (((ji8)).toNat * 6)).block, (ad164.add (((ji8)).toNat * 6)).off + 5, none⟩ = some (.slice A167_5 ((rd_T29 l0 (ji8)).f5).length c167_5) ∧ w'.cell? (ad164.add (((ji8)).toNat * 6)) = some (.int .u32 ((rd_T29 l0 (ji8)).f0)) ∧ w'.cell? ⟨(ad164.add (((ji8)).toNat * 6)).block, (ad164.add (((ji8)).toNat * 6)).off + 1, none⟩ = some (.int .u32 ((rd_T29 l0 (ji8)).f1)) ∧ w'.cell? ⟨(ad164.add (((ji8)).toNat * 6)).block, (ad164.add (((ji8)).toNat * 6)).off + 2, none⟩ = some (.int .u32 ((rd_T29 l0 (ji8)).f2)) ∧ w'.cell? ⟨(ad164.add (((ji8)).toNat * 6)).block, (ad164.add (((ji8)).toNat * 6)).off + 3, none⟩ = some (.int .i64 ((rd_T29 l0 (ji8)).f3)) ∧ w'.cell? ⟨(ad164.add (((ji8)).toNat * 6)).block, (ad164.add (((ji8)).toNat * 6)).off + 4, none⟩ = some (.int .u32 ((rd_T29 l0 (ji8)).f4)) ∧ w'.cell? ⟨(ad164.add (((ji8)).toNat * 6)).block, (ad164.add (((ji8)).toNat * 6)).off + 5, none⟩ = some (.slice A167_5 ((rd_T29 l0 (ji8)).f5).length c167_5)) (ds := []) (bs_ 29 0) (by kernel_rfl) rfl rfl ⟨bc_ BK165.out 0, bc_ BK165.out 1, bc_ BK165.out 2, bc_ BK165.out 3, bc_ BK165.out 4, bc_ BK165.out 5, (kp_ HB.out hw167_0), (kp_ HB.out hw167_1), (kp_ HB.out hw167_2), (kp_ HB.out hw167_3), (kp_ HB.out hw167_4), (kp_ HB.out hw167_5), (kp_ HB.out hw174_0), (kp_ HB.out hw174_1), (kp_ HB.out hw174_2), (kp_ HB.out hw174_3), (kp_ HB.out hw174_4), (kp_ HB.out hw174_5)⟩ (fun hHeld => ?_); refine with_tabW flow_Table.tab4 flow_Table.bits4 (fun HT_ HW_ => ?_)
            generalize w35.drew = w36 at BK165 HB HR167_5 HR174_5 hx167_0 hx167_1 hx167_2 hx167_3 hx167_4 hx167_5 hx174_0 hx174_1 hx174_2 hx174_3 hx174_4 hx174_5 hHeld ⊢
            refine tz_ 0 12 ?_
            refine oz_ 1 (some 13) (fun K hK => ?_)
            refine gz_ Try.func45 #[.agg #[.int .u32 ((rd_T29 l0 x7_1).f0), .int .u32 ((rd_T29 l0 x7_1).f1), .int .u32 ((rd_T29 l0 x7_1).f2), .int .i64 ((rd_T29 l0 x7_1).f3), .int .u32 ((rd_T29 l0 x7_1).f4), .slice A164_5 ((rd_T29 l0 x7_1).f5).length c164_5]] ?_
            with_reducible refine (flow_Right.calls k1 ((rd_T29 l0 x7_1).f0) ((rd_T29 l0 x7_1).f1) ((rd_T29 l0 x7_1).f2) ((rd_T29 l0 x7_1).f3) ((rd_T29 l0 x7_1).f4) _ _ ((rd_T29 l0 x7_1).f5) true _ ?side1 ?side2 A5.out).mono ?_
            (case side1 => exact Cd_ (Kd.C_below HR164_5.out HB.out))
            (case side2 => exact HC164_5.out)
            rintro e w37 ⟨rfl, hb⟩
            refine ⟨_, rfl, ?_⟩
            replace BK165 := m_ (kl_ gb165 hb)
            replace HB := m_ (below_step bz_ hb)
            (try clear hb)
            (try clear hb2)
            (try clear hk)
            (try clear hi)
            refine hK.out _ _ ⟨bc_ BK165.out 0, bc_ BK165.out 1, bc_ BK165.out 2, bc_ BK165.out 3, bc_ BK165.out 4, bc_ BK165.out 5, (kp_ HB.out hw167_0), (kp_ HB.out hw167_1), (kp_ HB.out hw167_2), (kp_ HB.out hw167_3), (kp_ HB.out hw167_4), (kp_ HB.out hw167_5), (kp_ HB.out hw174_0), (kp_ HB.out hw174_1), (kp_ HB.out hw174_2), (kp_ HB.out hw174_3), (kp_ HB.out hw174_4), (kp_ HB.out hw174_5)⟩ (fun hHeld => ?_)
            clear hK K
            refine nz_ (some 13) ?_
            refine pz_ 2 14 ?_
            refine pz_ 3 15 ?_
            refine pz_ 4 16 ?_
            refine pz_ 5 17 ?_
            refine pz_ 6 18 ?_
            refine pz_ 7 19 ?_
            refine pz_ 8 20 ?_
            refine pz_ 9 21 ?_
            refine pz_ 10 22 ?_
            refine tz_ 11 23 ?_
            refine tz_ 13 25 ?_
            refine oz_ 12 (some 24) (fun K hK => ?_)
            refine goes_ Try.func46 (by kernel_rfl) rfl #[.agg #[.int .u32 ((rd_T29 l0 (ji8)).f0), .int .u32 ((rd_T29 l0 (ji8)).f1), .int .u32 ((rd_T29 l0 (ji8)).f2), .int .i64 ((rd_T29 l0 (ji8)).f3), .int .u32 ((rd_T29 l0 (ji8)).f4), .slice A167_5 ((rd_T29 l0 (ji8)).f5).length c167_5]] (by rfl) rfl rfl (by (try simp only [List.map_toArray, List.map_cons, List.map_nil]); first | done | (simp only [hji8]; rfl) | rfl | (simp only [List.length_drop, List.length_take]; rfl)) ?_
            with_reducible refine (flow_of.calls ((rd_T29 l0 (ji8)).f0) ((rd_T29 l0 (ji8)).f1) ((rd_T29 l0 (ji8)).f2) ((rd_T29 l0 (ji8)).f3) ((rd_T29 l0 (ji8)).f4) _ _ ((rd_T29 l0 (ji8)).f5) t168 t169 t170 _ ?side1 ?side2 A11.out).mono ?_
            (case side1 => exact Cd_ (Kd.C_below HR167_5.out HB.out))
            (case side2 => exact HC167_5.out)
            rintro e w38 ⟨rfl, hb⟩
            refine ⟨_, rfl, ?_⟩
            replace BK165 := m_ (kl_ gb165 hb)
            replace HB := m_ (below_step bz_ hb)
            (try clear hb)
            (try clear hb2)
            (try clear hk)
            (try clear hi)
            refine hK.out _ _ ⟨bc_ BK165.out 0, bc_ BK165.out 1, bc_ BK165.out 2, bc_ BK165.out 3, bc_ BK165.out 4, bc_ BK165.out 5, (kp_ HB.out hw167_0), (kp_ HB.out hw167_1), (kp_ HB.out hw167_2), (kp_ HB.out hw167_3), (kp_ HB.out hw167_4), (kp_ HB.out hw167_5), (kp_ HB.out hw174_0), (kp_ HB.out hw174_1), (kp_ HB.out hw174_2), (kp_ HB.out hw174_3), (kp_ HB.out hw174_4), (kp_ HB.out hw174_5)⟩ (fun hHeld => ?_)
            clear hK K
            refine nz_ (some 24) ?_
            refine oz_ 14 (some 26) (fun K hK => ?_)
            refine gz_ Try.func46 #[.agg #[.int .u32 ((rd_T29 l0 x7_1).f0), .int .u32 ((rd_T29 l0 x7_1).f1), .int .u32 ((rd_T29 l0 x7_1).f2), .int .i64 ((rd_T29 l0 x7_1).f3), .int .u32 ((rd_T29 l0 x7_1).f4), .slice A164_5 ((rd_T29 l0 x7_1).f5).length c164_5]] ?_
            with_reducible refine (flow_of.calls ((rd_T29 l0 x7_1).f0) ((rd_T29 l0 x7_1).f1) ((rd_T29 l0 x7_1).f2) ((rd_T29 l0 x7_1).f3) ((rd_T29 l0 x7_1).f4) _ _ ((rd_T29 l0 x7_1).f5) t171 t172 t173 _ ?side1 ?side2 A12.out).mono ?_
            (case side1 => exact Cd_ (Kd.C_below HR164_5.out HB.out))
            (case side2 => exact HC164_5.out)
            rintro e w39 ⟨rfl, hb⟩
            refine ⟨_, rfl, ?_⟩
            replace BK165 := m_ (kl_ gb165 hb)
            replace HB := m_ (below_step bz_ hb)
            (try clear hb)
            (try clear hb2)
            (try clear hk)
            (try clear hi)
            refine hK.out _ _ ⟨bc_ BK165.out 0, bc_ BK165.out 1, bc_ BK165.out 2, bc_ BK165.out 3, bc_ BK165.out 4, bc_ BK165.out 5, (kp_ HB.out hw167_0), (kp_ HB.out hw167_1), (kp_ HB.out hw167_2), (kp_ HB.out hw167_3), (kp_ HB.out hw167_4), (kp_ HB.out hw167_5), (kp_ HB.out hw174_0), (kp_ HB.out hw174_1), (kp_ HB.out hw174_2), (kp_ HB.out hw174_3), (kp_ HB.out hw174_4), (kp_ HB.out hw174_5)⟩ (fun hHeld => ?_)
            clear hK K
            refine nz_ (some 26) ?_
            refine pz_ 15 27 ?_
            refine pz_ 16 28 ?_
            refine pz_ 17 29 ?_
            refine pz_ 18 30 ?_
            refine pz_ 19 31 ?_
            refine pz_ 20 32 ?_
            refine tz_ 21 33 ?_
            refine tz_ 22 34 ?_
            refine oz_ 23 (some 35) (fun K hK => ?_)
            refine gz_ Try.func46 #[.agg #[.int .u32 ((rd_T29 l0 x7_1).f0), .int .u32 ((rd_T29 l0 x7_1).f1), .int .u32 ((rd_T29 l0 x7_1).f2), .int .i64 ((rd_T29 l0 x7_1).f3), .int .u32 ((rd_T29 l0 x7_1).f4), .slice A164_5 ((rd_T29 l0 x7_1).f5).length c164_5]] ?_
            with_reducible refine (flow_of.calls ((rd_T29 l0 x7_1).f0) ((rd_T29 l0 x7_1).f1) ((rd_T29 l0 x7_1).f2) ((rd_T29 l0 x7_1).f3) ((rd_T29 l0 x7_1).f4) _ _ ((rd_T29 l0 x7_1).f5) t171 t172 t173 _ ?side1 ?side2 A21.out).mono ?_
            (case side1 => exact Cd_ (Kd.C_below HR164_5.out HB.out))
            (case side2 => exact HC164_5.out)
            rintro e w40 ⟨rfl, hb⟩
            refine ⟨_, rfl, ?_⟩
            replace BK165 := m_ (kl_ gb165 hb)
            replace HB := m_ (below_step bz_ hb)
            (try clear hb)
            (try clear hb2)
            (try clear hk)
            (try clear hi)
            refine hK.out _ _ ⟨bc_ BK165.out 0, bc_ BK165.out 1, bc_ BK165.out 2, bc_ BK165.out 3, bc_ BK165.out 4, bc_ BK165.out 5, (kp_ HB.out hw167_0), (kp_ HB.out hw167_1), (kp_ HB.out hw167_2), (kp_ HB.out hw167_3), (kp_ HB.out hw167_4), (kp_ HB.out hw167_5), (kp_ HB.out hw174_0), (kp_ HB.out hw174_1), (kp_ HB.out hw174_2), (kp_ HB.out hw174_3), (kp_ HB.out hw174_4), (kp_ HB.out hw174_5)⟩ (fun hHeld => ?_)
            clear hK K
            refine nz_ (some 35) ?_
            refine oz_ 24 (some 36) (fun K hK => ?_)
            refine goes_ Try.func47 (by kernel_rfl) rfl #[.agg #[.int .u32 ((rd_T29 l0 (ji8)).f0), .int .u32 ((rd_T29 l0 (ji8)).f1), .int .u32 ((rd_T29 l0 (ji8)).f2), .int .i64 ((rd_T29 l0 (ji8)).f3), .int .u32 ((rd_T29 l0 (ji8)).f4), .slice A167_5 ((rd_T29 l0 (ji8)).f5).length c167_5], .agg #[.int .u32 t171, .int .u32 t172, .int .u32 t173]] (by rfl) rfl rfl (by (try simp only [List.map_toArray, List.map_cons, List.map_nil]); first | done | (simp only [hji8]; rfl) | rfl | (simp only [List.length_drop, List.length_take]; rfl)) ?_
            with_reducible refine (flow_order.calls k1 ((rd_T29 l0 (ji8)).f0) ((rd_T29 l0 (ji8)).f1) ((rd_T29 l0 (ji8)).f2) ((rd_T29 l0 (ji8)).f3) ((rd_T29 l0 (ji8)).f4) _ _ ((rd_T29 l0 (ji8)).f5) t171 t172 t173 t178 _ ?side1 ?side2 A22.out).mono ?_
            (case side1 => exact Cd_ (Kd.C_below HR174_5.out HB.out))
            (case side2 => exact HC174_5.out)
            rintro e w41 ⟨rfl, hb⟩
            refine ⟨_, rfl, ?_⟩
            replace BK165 := m_ (kl_ gb165 hb)
            replace HB := m_ (below_step bz_ hb)
            (try clear hb)
            (try clear hb2)
            (try clear hk)
            (try clear hi)
            refine hK.out _ _ ⟨bc_ BK165.out 0, bc_ BK165.out 1, bc_ BK165.out 2, bc_ BK165.out 3, bc_ BK165.out 4, bc_ BK165.out 5, (kp_ HB.out hw167_0), (kp_ HB.out hw167_1), (kp_ HB.out hw167_2), (kp_ HB.out hw167_3), (kp_ HB.out hw167_4), (kp_ HB.out hw167_5), (kp_ HB.out hw174_0), (kp_ HB.out hw174_1), (kp_ HB.out hw174_2), (kp_ HB.out hw174_3), (kp_ HB.out hw174_4), (kp_ HB.out hw174_5)⟩ (fun hHeld => ?_)
            clear hK K
            refine nz_ (some 36) ?_
            refine pz_ 25 37 ?_
            refine pz_ 26 38 ?_
            refine pz_ 27 39 ?_
            refine pz_ 28 40 ?_
            refine dz_ ?_
            try go_wp2
            go_roundg k1
            case measure => have := HK1.out; omega
            case rel => exact ⟨(wrap64 (x7_1 + 1)), (by first | rfl | (simp; done) | (simp [*]; done)), H', ⟨by have := HK1.out; omega⟩, ⟨bz_⟩⟩
         ·rw [if_neg c10] at H
          exact absurd H (by simp)
        ·rw [if_neg c9] at H
         exact absurd H (by simp)
       ·rw [if_neg c7] at H
        have c7b0 : decide (0 < x7_1) = false := decide_eq_false c7
        clear c7
        have H' := m_ H
        clear H
        have p164 : 0 ≤ (x7_1 : Int) := od_
        have q164 : x7_1 < (l0.length : Int) := od_
        obtain ⟨ad164, A164_5, c164_5, e164, hx164_0, hx164_1, hx164_2, hx164_3, hx164_4, hx164_5, hl164_5, hi164_5⟩ := at_T29 HR0.out x7_1 p164 q164
        cases e164
        replace hx164_0 := kp_ HB.out hx164_0
        replace hx164_1 := kp_ HB.out hx164_1
        replace hx164_2 := kp_ HB.out hx164_2
        replace hx164_3 := kp_ HB.out hx164_3
        replace hx164_4 := kp_ HB.out hx164_4
        replace hx164_5 := kp_ HB.out hx164_5
        have HR164_5 := m_ hi164_5
        have HC164_5 := m_ hl164_5
        clear hi164_5 hl164_5
        replace p164 := eq_true p164
        replace q164 := eq_true q164
        try go_wp2_with (first | ((with_reducible refine gate_dst (N := 4) rfl ?_); refine bx_ 4 29 #[.int .u32 0, .int .u32 0, .int .u32 0, .int .i64 0, .int .u32 0, .slice none 0 0] ?_; intro gb165 hg w42 hbox hb; have BK165 := m_ (hbox); have GW165 := m_ ((gw_ : w.heap.size ≤ gb165)); have GE165 := m_ ((gw_ : w.heap.size ≤ gb165)); replace HB := m_ (below_step bz_ hb); clear hb hbox hg; have hcz43 := cz6_ BK165.out))
        obtain ⟨w44, hw⟩ : ∃ W_, W_ = ((((((w42.setCell ⟨gb165, 0, none⟩ (.int .u32 ((rd_T29 l0 x7_1).f0))).setCell ⟨gb165, 1, none⟩ (.int .u32 ((rd_T29 l0 x7_1).f1))).setCell ⟨gb165, 2, none⟩ (.int .u32 ((rd_T29 l0 x7_1).f2))).setCell ⟨gb165, 3, none⟩ (.int .i64 ((rd_T29 l0 x7_1).f3))).setCell ⟨gb165, 4, none⟩ (.int .u32 ((rd_T29 l0 x7_1).f4))).setCell ⟨gb165, 5, none⟩ (.slice A164_5 ((rd_T29 l0 x7_1).f5).length c164_5)) := ⟨_, rfl⟩
        replace BK165 : Aside0 (w44.heap[gb165]? = some (.cells #[.int .u32 ((rd_T29 l0 x7_1).f0), .int .u32 ((rd_T29 l0 x7_1).f1), .int .u32 ((rd_T29 l0 x7_1).f2), .int .i64 ((rd_T29 l0 x7_1).f3), .int .u32 ((rd_T29 l0 x7_1).f4), .slice A164_5 ((rd_T29 l0 x7_1).f5).length c164_5] 29 (0, 0))) := ⟨by rw [hw]; exact kb_⟩
        replace HB : Aside0 (Below w.heap.size w w44) := ⟨by rw [hw]; exact bz_⟩
        rw [← hw]; clear hw
        replace BK165 := m_ (blk_drew BK165.out)
        replace HB := m_ (below_drew1 HB.out)
        refine start_ (n := 29) (S := fun w' => w'.cell? ⟨gb165, 0, none⟩ = some (.int .u32 ((rd_T29 l0 x7_1).f0)) ∧ w'.cell? ⟨gb165, 1, none⟩ = some (.int .u32 ((rd_T29 l0 x7_1).f1)) ∧ w'.cell? ⟨gb165, 2, none⟩ = some (.int .u32 ((rd_T29 l0 x7_1).f2)) ∧ w'.cell? ⟨gb165, 3, none⟩ = some (.int .i64 ((rd_T29 l0 x7_1).f3)) ∧ w'.cell? ⟨gb165, 4, none⟩ = some (.int .u32 ((rd_T29 l0 x7_1).f4)) ∧ w'.cell? ⟨gb165, 5, none⟩ = some (.slice A164_5 ((rd_T29 l0 x7_1).f5).length c164_5)) (ds := []) (bs_ 29 0) (by kernel_rfl) rfl rfl ⟨bc_ BK165.out 0, bc_ BK165.out 1, bc_ BK165.out 2, bc_ BK165.out 3, bc_ BK165.out 4, bc_ BK165.out 5⟩ (fun hHeld => ?_); refine with_tabW flow_Table.tab4 flow_Table.bits4 (fun HT_ HW_ => ?_)
        generalize w44.drew = w45 at BK165 HB hHeld ⊢
        refine tz_ 0 12 ?_
        refine oz_ 1 (some 13) (fun K hK => ?_)
        refine gz_ Try.func45 #[.agg #[.int .u32 ((rd_T29 l0 x7_1).f0), .int .u32 ((rd_T29 l0 x7_1).f1), .int .u32 ((rd_T29 l0 x7_1).f2), .int .i64 ((rd_T29 l0 x7_1).f3), .int .u32 ((rd_T29 l0 x7_1).f4), .slice A164_5 ((rd_T29 l0 x7_1).f5).length c164_5]] ?_
        with_reducible refine (flow_Right.calls k1 ((rd_T29 l0 x7_1).f0) ((rd_T29 l0 x7_1).f1) ((rd_T29 l0 x7_1).f2) ((rd_T29 l0 x7_1).f3) ((rd_T29 l0 x7_1).f4) _ _ ((rd_T29 l0 x7_1).f5) true _ ?side1 ?side2 A5.out).mono ?_
        (case side1 => exact Cd_ (Kd.C_below HR164_5.out HB.out))
        (case side2 => exact HC164_5.out)
        rintro e w46 ⟨rfl, hb⟩
        refine ⟨_, rfl, ?_⟩
        replace BK165 := m_ (kl_ gb165 hb)
        replace HB := m_ (below_step bz_ hb)
        (try clear hb)
        (try clear hb2)
        (try clear hk)
        (try clear hi)
        refine hK.out _ _ ⟨bc_ BK165.out 0, bc_ BK165.out 1, bc_ BK165.out 2, bc_ BK165.out 3, bc_ BK165.out 4, bc_ BK165.out 5⟩ (fun hHeld => ?_)
        clear hK K
        refine nz_ (some 13) ?_
        refine pz_ 2 14 ?_
        refine pz_ 3 15 ?_
        refine pz_ 4 16 ?_
        refine pz_ 5 17 ?_
        refine pz_ 6 18 ?_
        refine pz_ 7 19 ?_
        refine pz_ 8 20 ?_
        refine pz_ 9 21 ?_
        refine pz_ 10 22 ?_
        refine pz_ 11 23 ?_
        refine pz_ 12 24 ?_
        refine pz_ 13 25 ?_
        refine pz_ 14 26 ?_
        refine pz_ 15 27 ?_
        refine pz_ 16 28 ?_
        refine pz_ 17 29 ?_
        refine pz_ 18 30 ?_
        refine pz_ 19 31 ?_
        refine pz_ 20 32 ?_
        refine pz_ 21 33 ?_
        refine pz_ 22 34 ?_
        refine pz_ 23 35 ?_
        refine pz_ 24 36 ?_
        refine pz_ 25 37 ?_
        refine pz_ 26 38 ?_
        refine pz_ 27 39 ?_
        refine pz_ 28 40 ?_
        refine dz_ ?_
        try go_wp2
        go_roundg k1
        case measure => have := HK1.out; omega
        case rel => exact ⟨(wrap64 (x7_1 + 1)), (by first | rfl | (simp; done) | (simp [*]; done)), H', ⟨by have := HK1.out; omega⟩, ⟨bz_⟩⟩
      ·replace c6 := Bool.eq_false_iff.mpr c6
       subst c6
       have H1 : (some false) = some r := by rw [if_neg (show ¬ (false = true) by decide)] at H; exact H
       clear H
       have H := H1
       clear H1
       obtain rfl := Option.some.inj H
       have p164 : 0 ≤ (x7_1 : Int) := od_
       have q164 : x7_1 < (l0.length : Int) := od_
       obtain ⟨ad164, A164_5, c164_5, e164, hx164_0, hx164_1, hx164_2, hx164_3, hx164_4, hx164_5, hl164_5, hi164_5⟩ := at_T29 HR0.out x7_1 p164 q164
       cases e164
       replace hx164_0 := kp_ HB.out hx164_0
       replace hx164_1 := kp_ HB.out hx164_1
       replace hx164_2 := kp_ HB.out hx164_2
       replace hx164_3 := kp_ HB.out hx164_3
       replace hx164_4 := kp_ HB.out hx164_4
       replace hx164_5 := kp_ HB.out hx164_5
       have HR164_5 := m_ hi164_5
       have HC164_5 := m_ hl164_5
       clear hi164_5 hl164_5
       replace p164 := eq_true p164
       replace q164 := eq_true q164
       try go_wp2_with (first | ((with_reducible refine gate_dst (N := 4) rfl ?_); refine bx_ 4 29 #[.int .u32 0, .int .u32 0, .int .u32 0, .int .i64 0, .int .u32 0, .slice none 0 0] ?_; intro gb165 hg w47 hbox hb; have BK165 := m_ (hbox); have GW165 := m_ ((gw_ : w.heap.size ≤ gb165)); have GE165 := m_ ((gw_ : w.heap.size ≤ gb165)); replace HB := m_ (below_step bz_ hb); clear hb hbox hg; have hcz48 := cz6_ BK165.out))
       obtain ⟨w49, hw⟩ : ∃ W_, W_ = ((((((w47.setCell ⟨gb165, 0, none⟩ (.int .u32 ((rd_T29 l0 x7_1).f0))).setCell ⟨gb165, 1, none⟩ (.int .u32 ((rd_T29 l0 x7_1).f1))).setCell ⟨gb165, 2, none⟩ (.int .u32 ((rd_T29 l0 x7_1).f2))).setCell ⟨gb165, 3, none⟩ (.int .i64 ((rd_T29 l0 x7_1).f3))).setCell ⟨gb165, 4, none⟩ (.int .u32 ((rd_T29 l0 x7_1).f4))).setCell ⟨gb165, 5, none⟩ (.slice A164_5 ((rd_T29 l0 x7_1).f5).length c164_5)) := ⟨_, rfl⟩
       replace BK165 : Aside0 (w49.heap[gb165]? = some (.cells #[.int .u32 ((rd_T29 l0 x7_1).f0), .int .u32 ((rd_T29 l0 x7_1).f1), .int .u32 ((rd_T29 l0 x7_1).f2), .int .i64 ((rd_T29 l0 x7_1).f3), .int .u32 ((rd_T29 l0 x7_1).f4), .slice A164_5 ((rd_T29 l0 x7_1).f5).length c164_5] 29 (0, 0))) := ⟨by rw [hw]; exact kb_⟩
       replace HB : Aside0 (Below w.heap.size w w49) := ⟨by rw [hw]; exact bz_⟩
       rw [← hw]; clear hw
       replace BK165 := m_ (blk_drew BK165.out)
       replace HB := m_ (below_drew1 HB.out)
       refine start_ (n := 29) (S := fun w' => w'.cell? ⟨gb165, 0, none⟩ = some (.int .u32 ((rd_T29 l0 x7_1).f0)) ∧ w'.cell? ⟨gb165, 1, none⟩ = some (.int .u32 ((rd_T29 l0 x7_1).f1)) ∧ w'.cell? ⟨gb165, 2, none⟩ = some (.int .u32 ((rd_T29 l0 x7_1).f2)) ∧ w'.cell? ⟨gb165, 3, none⟩ = some (.int .i64 ((rd_T29 l0 x7_1).f3)) ∧ w'.cell? ⟨gb165, 4, none⟩ = some (.int .u32 ((rd_T29 l0 x7_1).f4)) ∧ w'.cell? ⟨gb165, 5, none⟩ = some (.slice A164_5 ((rd_T29 l0 x7_1).f5).length c164_5)) (ds := []) (bs_ 29 0) (by kernel_rfl) rfl rfl ⟨bc_ BK165.out 0, bc_ BK165.out 1, bc_ BK165.out 2, bc_ BK165.out 3, bc_ BK165.out 4, bc_ BK165.out 5⟩ (fun hHeld => ?_); refine with_tabW flow_Table.tab4 flow_Table.bits4 (fun HT_ HW_ => ?_)
       generalize w49.drew = w50 at BK165 HB hHeld ⊢
       refine tz_ 0 12 ?_
       refine oz_ 1 (some 13) (fun K hK => ?_)
       refine gz_ Try.func45 #[.agg #[.int .u32 ((rd_T29 l0 x7_1).f0), .int .u32 ((rd_T29 l0 x7_1).f1), .int .u32 ((rd_T29 l0 x7_1).f2), .int .i64 ((rd_T29 l0 x7_1).f3), .int .u32 ((rd_T29 l0 x7_1).f4), .slice A164_5 ((rd_T29 l0 x7_1).f5).length c164_5]] ?_
       with_reducible refine (flow_Right.calls k1 ((rd_T29 l0 x7_1).f0) ((rd_T29 l0 x7_1).f1) ((rd_T29 l0 x7_1).f2) ((rd_T29 l0 x7_1).f3) ((rd_T29 l0 x7_1).f4) _ _ ((rd_T29 l0 x7_1).f5) false _ ?side1 ?side2 A5.out).mono ?_
       (case side1 => exact Cd_ (Kd.C_below HR164_5.out HB.out))
       (case side2 => exact HC164_5.out)
       rintro e w51 ⟨rfl, hb⟩
       refine ⟨_, rfl, ?_⟩
       replace BK165 := m_ (kl_ gb165 hb)
       replace HB := m_ (below_step bz_ hb)
       (try clear hb)
       (try clear hb2)
       (try clear hk)
       (try clear hi)
       refine hK.out _ _ ⟨bc_ BK165.out 0, bc_ BK165.out 1, bc_ BK165.out 2, bc_ BK165.out 3, bc_ BK165.out 4, bc_ BK165.out 5⟩ (fun hHeld => ?_)
       clear hK K
       refine nz_ (some 13) ?_
       refine pz_ 2 14 ?_
       refine pz_ 3 15 ?_
       refine pz_ 4 16 ?_
       refine pz_ 5 17 ?_
       refine pz_ 6 18 ?_
       refine pz_ 7 19 ?_
       refine pz_ 8 20 ?_
       refine pz_ 9 21 ?_
       refine pz_ 10 22 ?_
       refine pz_ 11 23 ?_
       refine pz_ 12 24 ?_
       refine pz_ 13 25 ?_
       refine pz_ 14 26 ?_
       refine pz_ 15 27 ?_
       refine pz_ 16 28 ?_
       refine pz_ 17 29 ?_
       refine pz_ 18 30 ?_
       refine pz_ 19 31 ?_
       refine pz_ 20 32 ?_
       refine pz_ 21 33 ?_
       refine pz_ 22 34 ?_
       refine pz_ 23 35 ?_
       refine pz_ 24 36 ?_
       refine pz_ 25 37 ?_
       refine pz_ 26 38 ?_
       refine pz_ 27 39 ?_
       refine pz_ 28 40 ?_
       refine dz_ ?_
       try go_wp2
       go_ret
       exact ⟨ew_, bz_⟩
     ·rw [if_neg c4] at H
      exact absurd H (by simp)
    ·rw [if_neg c3] at H
     exact absurd H (by simp)
   ·rw [if_neg c2] at H
    have c2b0 : decide (x7_1 < (l0.length : Int)) = false := decide_eq_false c2
    clear c2
    obtain rfl := Option.some.inj H
    go_wp2
    go_ret
    exact ⟨ew_, bz_⟩
end Go.Proofs.Ytfomnmdjbdohgaa.P

/- For each Go function a Lean function, and the proof that a call comes to what it tells: made by program out of the translation (the kit's print, with texts by hand put in). No condition. -/
import Derived.Test.YteibolilodgjnaaSq
import Derived.Test.YteibolilodgjnaaPx0
import Derived.Test.YteibolilodgjnaaPx2
import Derived.Test.YteibolilodgjnaaPx4
import Derived.Test.YteibolilodgjnaaPx5
import Derived.Test.YteibolilodgjnaaPx6
namespace Go.Proofs.Yteibolilodgjnaa.P
open Go.RowKit Go.Proofs.Yteibolilodgjnaa.HRows Go.Proofs.YteibolilodgjnaaW.PrintWords Go.Proofs.YteibolilodgjnaaW.PrintLast Go.Proofs.YteibolilodgjnaaW.PrintMore
attribute [local go_sem] max2_int min2_int max_two min_two max_three min_three max_four min_four   -- for this text's walks alone
set_option linter.unusedVariables false
set_option linter.unusedSimpArgs false

attribute [local go_sem high] eqA59
/-! ### flow_Table: function 18 -/
def flow_Table.l0 : Nat → List (S27) → List (S27) → Int → Int → Option (Bool)
 | 0, _, _, _, _ => none
 | k + 1, x0, x5, x6, x7 => if x7 < x6 then (if 0 ≤ x7 then (if x7 < (x5.length : Int) then ((flow_Right.f k ((rd_T27 x5 x7).f0) ((rd_T27 x5 x7).f1) ((rd_T27 x5 x7).f2) ((rd_T27 x5 x7).f3) ((rd_T27 x5 x7).f4) ((rd_T27 x5 x7).f5)).bind fun t142 => (if t142 = true then (if x7 > 0 then (if 0 ≤ (wrap64 (x7 - 1)) then (if (wrap64 (x7 - 1)) < (x0.length : Int) then ((flow_of.f ((rd_T27 x0 (wrap64 (x7 - 1))).f0) ((rd_T27 x0 (wrap64 (x7 - 1))).f1) ((rd_T27 x0 (wrap64 (x7 - 1))).f2) ((rd_T27 x0 (wrap64 (x7 - 1))).f3) ((rd_T27 x0 (wrap64 (x7 - 1))).f4) ((rd_T27 x0 (wrap64 (x7 - 1))).f5)).bind fun bt144 => ((flow_of.f ((rd_T27 x5 x7).f0) ((rd_T27 x5 x7).f1) ((rd_T27 x5 x7).f2) ((rd_T27 x5 x7).f3) ((rd_T27 x5 x7).f4) ((rd_T27 x5 x7).f5)).bind fun bt147 => (if (bt144.1 == bt147.1 && (bt144.2.1 == bt147.2.1 && (bt144.2.2 == bt147.2.2))) = true then (some false) else ((flow_of.f ((rd_T27 x5 x7).f0) ((rd_T27 x5 x7).f1) ((rd_T27 x5 x7).f2) ((rd_T27 x5 x7).f3) ((rd_T27 x5 x7).f4) ((rd_T27 x5 x7).f5)).bind fun bt151 => ((flow_order.f k ((rd_T27 x0 (wrap64 (x7 - 1))).f0) ((rd_T27 x0 (wrap64 (x7 - 1))).f1) ((rd_T27 x0 (wrap64 (x7 - 1))).f2) ((rd_T27 x0 (wrap64 (x7 - 1))).f3) ((rd_T27 x0 (wrap64 (x7 - 1))).f4) ((rd_T27 x0 (wrap64 (x7 - 1))).f5) bt151.1 bt151.2.1 bt151.2.2).bind fun t154 => (if t154 > 0 then (some false) else (flow_Table.l0 k x0 x5 x6 (wrap64 (x7 + 1))))))))) else (none)) else (none)) else (flow_Table.l0 k x0 x5 x6 (wrap64 (x7 + 1)))) else (some false))) else (none)) else (none)) else (some true)
def flow_Table.f (k : Nat) (l0 : List (S27)) : Option (Bool) := flow_Table.l0 k l0 l0 (l0.length : Int) 0
theorem flow_Table.mono_l : ∀ k, (∀ y0 y1 y2 y3, LeO (flow_Table.l0 k y0 y1 y2 y3) (flow_Table.l0 (k + 1) y0 y1 y2 y3))
 | 0 => fun _ _ _ _ r h => by simp [flow_Table.l0] at h
 | k + 1 => by
  have ih0 := flow_Table.mono_l k
  ·intro y0 y1 y2 y3
   unfold flow_Table.l0
   repeat' first
   | (with_reducible exact ih0 _ _ _ _)
   | (with_reducible exact flow_Right.mono _ _ _ _ _ _ _)
   | (with_reducible exact flow_order.mono _ _ _ _ _ _ _ _ _ _)
   | (with_reducible exact LeO.refl _)
   | (with_reducible exact LeO.none _)
   | (with_reducible refine LeO.ite ?_ ?_)
   | (with_reducible refine LeO.bind ?_ (fun _ => ?_))
   | exact ih0 _ _ _ _
   | exact flow_Right.mono _ _ _ _ _ _ _
   | exact flow_order.mono _ _ _ _ _ _ _ _ _ _
   | exact LeO.none _
   | refine LeO.ite ?_ ?_
   | refine LeO.bind ?_ (fun _ => ?_)
theorem flow_Table.mono : ∀ a0 k, LeO (flow_Table.f k a0) (flow_Table.f (k + 1) a0) := by
 intro a0 k
 have ih0 := flow_Table.mono_l k
 unfold flow_Table.f
 repeat' first
   | (with_reducible exact ih0 _ _ _ _)
   | (with_reducible exact flow_Right.mono _ _ _ _ _ _ _)
   | (with_reducible exact flow_order.mono _ _ _ _ _ _ _ _ _ _)
   | (with_reducible exact LeO.refl _)
   | (with_reducible exact LeO.none _)
   | (with_reducible refine LeO.ite ?_ ?_)
   | (with_reducible refine LeO.bind ?_ (fun _ => ?_))
   | exact ih0 _ _ _ _
   | exact flow_Right.mono _ _ _ _ _ _ _
   | exact flow_order.mono _ _ _ _ _ _ _ _ _ _
   | exact LeO.none _
   | refine LeO.ite ?_ ?_
   | refine LeO.bind ?_ (fun _ => ?_)
def flow_Table.T4 : Bool × List (List Nat × List Nat) := (true, [([], []), ([0], [0]), ([1], [1]), ([2, 1], [2]), ([3], [3]), ([4, 3], [3, 4]), ([5, 3, 3], [3, 5]), ([6], [6]), ([6], [6]), ([8, 6], [6, 8]), ([7, 9, 6], [6, 7, 9]), ([10, 6], [6, 10]), ([11, 6, 6], [6, 11]), ([6], [6]), ([13, 12, 6], [6, 13]), ([12, 14, 6], [6, 12, 14]), ([15, 14, 6], [6, 15]), ([16], [16]), ([16], [16]), ([18, 16], [16, 18]), ([17, 19, 16], [16, 17, 19]), ([20, 16], [16, 20]), ([16], [16]), ([22, 16, 16], [16, 22]), ([21, 23, 23, 16], [16, 21, 23]), ([24, 16], [16, 24]), ([16, 25, 6], [6, 16, 25]), ([6, 26, 3], [3, 6, 26]), ([3, 27], [3, 27])])
def flow_Table.B4 : List Nat := [0, 1, 3, 7, 15, 31, 63, 127, 127, 383, 1023, 2047, 4095, 127, 16383, 32767, 65535, 131071, 131071, 393215, 1048575, 2097151, 131071, 4325375, 16777215, 33554431, 67108863, 134217727, 268435455]
theorem flow_Table.tab4 : rtab .any (opsOf Try.f18 4) = flow_Table.T4 := by kernel_rfl
theorem flow_Table.bits4 : waitsOk flow_Table.T4.2 flow_Table.B4 = true := by kernel_rfl
set_option maxHeartbeats 8000000 in
set_option maxRecDepth 100000 in
theorem flow_Table.calls (k : Nat) (A0 : Option Addr) (c0 : Nat) (l0 : List (S27)) (r : Bool) (w : World) (hr0 : Kd.C k27 w A0 l0.length l0) (hc0 : l0.length ≤ c0) (h : flow_Table.f k l0 = some r) :
  Calls Try.prog 18 #[.slice A0 l0.length c0] w fun e w' => e = .returned (.bool r) ∧ Below w.heap.size w w' := by
 have hu27 := Try.underlying27
 have HR0 := m_ hr0
 have HC0 := m_ hc0
 clear hr0 hc0
 have HB := m_ (Below.refl w.heap.size w)
 have H : (flow_Table.l0 k l0 l0 (l0.length : Int) 0) = some r := h
 clear h
 have H' := m_ H
 clear H
 go_enter Try.func18, Try.ntmps18
 go_wp2
 go_loopg [7] k (fun kq v7 w' => ∃ (x7_1 : Int), v7 = .int .i64 x7_1 ∧ Aside0 (flow_Table.l0 kq l0 l0 (l0.length : Int) x7_1 = some r) ∧ Aside0 (kq ≤ k) ∧ Aside0 (Below w.heap.size w w'))
 case atStart => exact ⟨(0), (by first | rfl | (simp; done) | (simp [*]; done)), H', ⟨Nat.le_refl _⟩, ⟨by repeat (first | (with_reducible first | exact HB.out | apply pa_ | apply pn_ | apply pd_) | exact HB.out)⟩⟩
 case round =>
  clear H'
  try clear c1
  obtain ⟨x7_1, rfl, HA, HK1, HB⟩ := hrel
  cases gk with
  | zero => exact absurd HA.out (by simp [flow_Table.l0])
  | succ k1 =>
   have H := HA.out
   clear HA
   simp only [flow_Table.l0] at H
   by_cases c2 : x7_1 < (l0.length : Int)
   ·rw [if_pos c2] at H
    have c2b0 : decide (x7_1 < (l0.length : Int)) = true := decide_eq_true c2
    clear c2
    by_cases c3 : 0 ≤ x7_1
    ·rw [if_pos c3] at H
     have c3b0 : decide (0 ≤ x7_1) = true := decide_eq_true c3
     clear c3
     by_cases c4 : x7_1 < (l0.length : Int)
     ·rw [if_pos c4] at H
      have c4b0 : decide (x7_1 < (l0.length : Int)) = true := decide_eq_true c4
      clear c4
      replace H := Option.bind_eq_some_iff.mp H
      obtain ⟨t142, A50, H⟩ := H
      replace H : (if t142 = true then (if x7_1 > 0 then (if 0 ≤ (wrap64 (x7_1 - 1)) then (if (wrap64 (x7_1 - 1)) < (l0.length : Int) then ((flow_of.f ((rd_T27 l0 (wrap64 (x7_1 - 1))).f0) ((rd_T27 l0 (wrap64 (x7_1 - 1))).f1) ((rd_T27 l0 (wrap64 (x7_1 - 1))).f2) ((rd_T27 l0 (wrap64 (x7_1 - 1))).f3) ((rd_T27 l0 (wrap64 (x7_1 - 1))).f4) ((rd_T27 l0 (wrap64 (x7_1 - 1))).f5)).bind fun bt144 => ((flow_of.f ((rd_T27 l0 x7_1).f0) ((rd_T27 l0 x7_1).f1) ((rd_T27 l0 x7_1).f2) ((rd_T27 l0 x7_1).f3) ((rd_T27 l0 x7_1).f4) ((rd_T27 l0 x7_1).f5)).bind fun bt147 => (if (bt144.1 == bt147.1 && (bt144.2.1 == bt147.2.1 && (bt144.2.2 == bt147.2.2))) = true then (some false) else ((flow_of.f ((rd_T27 l0 x7_1).f0) ((rd_T27 l0 x7_1).f1) ((rd_T27 l0 x7_1).f2) ((rd_T27 l0 x7_1).f3) ((rd_T27 l0 x7_1).f4) ((rd_T27 l0 x7_1).f5)).bind fun bt151 => ((flow_order.f k1 ((rd_T27 l0 (wrap64 (x7_1 - 1))).f0) ((rd_T27 l0 (wrap64 (x7_1 - 1))).f1) ((rd_T27 l0 (wrap64 (x7_1 - 1))).f2) ((rd_T27 l0 (wrap64 (x7_1 - 1))).f3) ((rd_T27 l0 (wrap64 (x7_1 - 1))).f4) ((rd_T27 l0 (wrap64 (x7_1 - 1))).f5) bt151.1 bt151.2.1 bt151.2.2).bind fun t154 => (if t154 > 0 then (some false) else (flow_Table.l0 k1 l0 l0 (l0.length : Int) (wrap64 (x7_1 + 1))))))))) else (none)) else (none)) else (flow_Table.l0 k1 l0 l0 (l0.length : Int) (wrap64 (x7_1 + 1)))) else (some false)) = some r := H
      have A5 := m_ A50
      clear A50
      by_cases c6 : t142 = true
      ·subst c6
       have H1 : (if x7_1 > 0 then (if 0 ≤ (wrap64 (x7_1 - 1)) then (if (wrap64 (x7_1 - 1)) < (l0.length : Int) then ((flow_of.f ((rd_T27 l0 (wrap64 (x7_1 - 1))).f0) ((rd_T27 l0 (wrap64 (x7_1 - 1))).f1) ((rd_T27 l0 (wrap64 (x7_1 - 1))).f2) ((rd_T27 l0 (wrap64 (x7_1 - 1))).f3) ((rd_T27 l0 (wrap64 (x7_1 - 1))).f4) ((rd_T27 l0 (wrap64 (x7_1 - 1))).f5)).bind fun bt144 => ((flow_of.f ((rd_T27 l0 x7_1).f0) ((rd_T27 l0 x7_1).f1) ((rd_T27 l0 x7_1).f2) ((rd_T27 l0 x7_1).f3) ((rd_T27 l0 x7_1).f4) ((rd_T27 l0 x7_1).f5)).bind fun bt147 => (if (bt144.1 == bt147.1 && (bt144.2.1 == bt147.2.1 && (bt144.2.2 == bt147.2.2))) = true then (some false) else ((flow_of.f ((rd_T27 l0 x7_1).f0) ((rd_T27 l0 x7_1).f1) ((rd_T27 l0 x7_1).f2) ((rd_T27 l0 x7_1).f3) ((rd_T27 l0 x7_1).f4) ((rd_T27 l0 x7_1).f5)).bind fun bt151 => ((flow_order.f k1 ((rd_T27 l0 (wrap64 (x7_1 - 1))).f0) ((rd_T27 l0 (wrap64 (x7_1 - 1))).f1) ((rd_T27 l0 (wrap64 (x7_1 - 1))).f2) ((rd_T27 l0 (wrap64 (x7_1 - 1))).f3) ((rd_T27 l0 (wrap64 (x7_1 - 1))).f4) ((rd_T27 l0 (wrap64 (x7_1 - 1))).f5) bt151.1 bt151.2.1 bt151.2.2).bind fun t154 => (if t154 > 0 then (some false) else (flow_Table.l0 k1 l0 l0 (l0.length : Int) (wrap64 (x7_1 + 1))))))))) else (none)) else (none)) else (flow_Table.l0 k1 l0 l0 (l0.length : Int) (wrap64 (x7_1 + 1)))) = some r := by rw [if_pos rfl] at H; exact H
       clear H
       have H := H1
       clear H1
       by_cases c7 : x7_1 > 0
       ·rw [if_pos c7] at H
        have c7b0 : decide (0 < x7_1) = true := decide_eq_true c7
        clear c7
        obtain ⟨ji8, hji8⟩ : ∃ j_ : Int, (wrap64 (x7_1 - 1)) = j_ := ⟨_, rfl⟩
        replace H : (if 0 ≤ (ji8) then (if (ji8) < (l0.length : Int) then ((flow_of.f ((rd_T27 l0 (ji8)).f0) ((rd_T27 l0 (ji8)).f1) ((rd_T27 l0 (ji8)).f2) ((rd_T27 l0 (ji8)).f3) ((rd_T27 l0 (ji8)).f4) ((rd_T27 l0 (ji8)).f5)).bind fun bt144 => ((flow_of.f ((rd_T27 l0 x7_1).f0) ((rd_T27 l0 x7_1).f1) ((rd_T27 l0 x7_1).f2) ((rd_T27 l0 x7_1).f3) ((rd_T27 l0 x7_1).f4) ((rd_T27 l0 x7_1).f5)).bind fun bt147 => (if (bt144.1 == bt147.1 && (bt144.2.1 == bt147.2.1 && (bt144.2.2 == bt147.2.2))) = true then (some false) else ((flow_of.f ((rd_T27 l0 x7_1).f0) ((rd_T27 l0 x7_1).f1) ((rd_T27 l0 x7_1).f2) ((rd_T27 l0 x7_1).f3) ((rd_T27 l0 x7_1).f4) ((rd_T27 l0 x7_1).f5)).bind fun bt151 => ((flow_order.f k1 ((rd_T27 l0 (ji8)).f0) ((rd_T27 l0 (ji8)).f1) ((rd_T27 l0 (ji8)).f2) ((rd_T27 l0 (ji8)).f3) ((rd_T27 l0 (ji8)).f4) ((rd_T27 l0 (ji8)).f5) bt151.1 bt151.2.1 bt151.2.2).bind fun t154 => (if t154 > 0 then (some false) else (flow_Table.l0 k1 l0 l0 (l0.length : Int) (wrap64 (x7_1 + 1))))))))) else (none)) else (none)) = some r := by first | (rw [hji8] at H; exact H) | (simp only [hji8] at H ⊢; exact H)
        (try rw [hji8] at A5)
        have hji8w : (IntKind.i64.wrap (x7_1 - 1)) = ji8 := (i64_w _).trans hji8
        by_cases c9 : 0 ≤ (ji8)
        ·rw [if_pos c9] at H
         have c9b0 : decide (0 ≤ (ji8)) = true := decide_eq_true c9
         clear c9
         by_cases c10 : (ji8) < (l0.length : Int)
         ·rw [if_pos c10] at H
          have c10b0 : decide ((ji8) < (l0.length : Int)) = true := decide_eq_true c10
          clear c10
          replace H := Option.bind_eq_some_iff.mp H
          obtain ⟨⟨t144, t145, t146⟩, A110, H⟩ := H
          replace H : ((flow_of.f ((rd_T27 l0 x7_1).f0) ((rd_T27 l0 x7_1).f1) ((rd_T27 l0 x7_1).f2) ((rd_T27 l0 x7_1).f3) ((rd_T27 l0 x7_1).f4) ((rd_T27 l0 x7_1).f5)).bind fun bt147 => (if (t144 == bt147.1 && (t145 == bt147.2.1 && (t146 == bt147.2.2))) = true then (some false) else ((flow_of.f ((rd_T27 l0 x7_1).f0) ((rd_T27 l0 x7_1).f1) ((rd_T27 l0 x7_1).f2) ((rd_T27 l0 x7_1).f3) ((rd_T27 l0 x7_1).f4) ((rd_T27 l0 x7_1).f5)).bind fun bt151 => ((flow_order.f k1 ((rd_T27 l0 (ji8)).f0) ((rd_T27 l0 (ji8)).f1) ((rd_T27 l0 (ji8)).f2) ((rd_T27 l0 (ji8)).f3) ((rd_T27 l0 (ji8)).f4) ((rd_T27 l0 (ji8)).f5) bt151.1 bt151.2.1 bt151.2.2).bind fun t154 => (if t154 > 0 then (some false) else (flow_Table.l0 k1 l0 l0 (l0.length : Int) (wrap64 (x7_1 + 1)))))))) = some r := H
          have A11 := m_ A110
          clear A110
          replace H := Option.bind_eq_some_iff.mp H
          obtain ⟨⟨t147, t148, t149⟩, A120, H⟩ := H
          replace H : (if (t144 == t147 && (t145 == t148 && (t146 == t149))) = true then (some false) else ((flow_of.f ((rd_T27 l0 x7_1).f0) ((rd_T27 l0 x7_1).f1) ((rd_T27 l0 x7_1).f2) ((rd_T27 l0 x7_1).f3) ((rd_T27 l0 x7_1).f4) ((rd_T27 l0 x7_1).f5)).bind fun bt151 => ((flow_order.f k1 ((rd_T27 l0 (ji8)).f0) ((rd_T27 l0 (ji8)).f1) ((rd_T27 l0 (ji8)).f2) ((rd_T27 l0 (ji8)).f3) ((rd_T27 l0 (ji8)).f4) ((rd_T27 l0 (ji8)).f5) bt151.1 bt151.2.1 bt151.2.2).bind fun t154 => (if t154 > 0 then (some false) else (flow_Table.l0 k1 l0 l0 (l0.length : Int) (wrap64 (x7_1 + 1))))))) = some r := H
          have A12 := m_ A120
          clear A120
          by_cases c13 : (t144 == t147 && (t145 == t148 && (t146 == t149))) = true
          ·rw [if_pos c13] at H
           have c13b0 : (t144 == t147 && (t145 == t148 && (t146 == t149))) = true := c13
           (try (have c13b1 : decide (t144 = t147 && (t145 == t148 && (t146 == t149))) = true := by simpa using c13))
           (try (have c13b2 : (t144 == t147 && (t145 == t148 && (t146 == t149))) = true := by simpa using c13))
           clear c13
           obtain rfl := Option.some.inj H
           have p140 : 0 ≤ (x7_1 : Int) := of_decide_eq_true (by first | (with_reducible assumption) | assumption)
           have q140 : x7_1 < (l0.length : Int) := of_decide_eq_true (by first | (with_reducible assumption) | assumption)
           obtain ⟨ad140, A140_5, c140_5, e140, hx140_0, hx140_1, hx140_2, hx140_3, hx140_4, hx140_5, hl140_5, hi140_5⟩ := at_T27 HR0.out x7_1 p140 q140
           cases e140
           replace hx140_0 := kp_ HB.out hx140_0
           replace hx140_1 := kp_ HB.out hx140_1
           replace hx140_2 := kp_ HB.out hx140_2
           replace hx140_3 := kp_ HB.out hx140_3
           replace hx140_4 := kp_ HB.out hx140_4
           replace hx140_5 := kp_ HB.out hx140_5
           have HR140_5 := m_ hi140_5
           have HC140_5 := m_ hl140_5
           clear hi140_5 hl140_5
           replace p140 := eq_true p140
           replace q140 := eq_true q140
           try go_wp2_with (first | ((with_reducible refine gate_dst (N := 4) rfl ?_); refine box_event ?hg (N := 4) ?hd (cs := #[.int .u32 0, .int .u32 0, .int .u32 0, .int .i64 0, .int .u32 0, .slice none 0 0]) (t := 27) ?hr ?_; (case hd => rfl); (case hg => rfl); (case hr => first | (go_simp; done) | (go_simp; rfl)); intro gb141 hg w14 hbox hb; have n0_ := m_ (below_step (by repeat (first | (with_reducible first | exact HB.out | apply pa_ | apply pn_ | apply pd_) | exact HB.out)) hb); have n1_ := m_ (hbox); have n2_ := m_ ((by rw [hg]; exact (below_size (by repeat (first | (with_reducible first | exact HB.out | apply pa_ | apply pn_ | apply pd_) | exact HB.out))) : w.heap.size ≤ gb141)); have n3_ := m_ ((by rw [hg]; exact (below_size (by repeat (first | (with_reducible first | exact HB.out | apply pa_ | apply pn_ | apply pd_) | exact HB.out))) : w.heap.size ≤ gb141)); clear HB; have HB := n0_; have BK141 := n1_; have GW141 := n2_; have GE141 := n3_; clear n0_ n1_ n2_ n3_; clear hb hbox hg; have hcz15_0 : w14.cell? ⟨gb141, 0, none⟩ = some (.int .u32 0) := (bc_ BK141.out 0).trans rfl; have hcz15_1 : w14.cell? ⟨gb141, 1, none⟩ = some (.int .u32 0) := (bc_ BK141.out 1).trans rfl; have hcz15_2 : w14.cell? ⟨gb141, 2, none⟩ = some (.int .u32 0) := (bc_ BK141.out 2).trans rfl; have hcz15_3 : w14.cell? ⟨gb141, 3, none⟩ = some (.int .i64 0) := (bc_ BK141.out 3).trans rfl; have hcz15_4 : w14.cell? ⟨gb141, 4, none⟩ = some (.int .u32 0) := (bc_ BK141.out 4).trans rfl; have hcz15_5 : w14.cell? ⟨gb141, 5, none⟩ = some (.slice none 0 0) := (bc_ BK141.out 5).trans rfl; have hfz15_0 := bf_ BK141.out 0; have hfz15_1 := bf_ BK141.out 1; have hfz15_2 := bf_ BK141.out 2; have hfz15_3 := bf_ BK141.out 3; have hfz15_4 := bf_ BK141.out 4; have hfz15_5 := bf_ BK141.out 5))
           have n0_ : Aside0 (((((((w14.setCell ⟨gb141, 0, none⟩ (.int .u32 ((rd_T27 l0 x7_1).f0))).setCell ⟨gb141, 1, none⟩ (.int .u32 ((rd_T27 l0 x7_1).f1))).setCell ⟨gb141, 2, none⟩ (.int .u32 ((rd_T27 l0 x7_1).f2))).setCell ⟨gb141, 3, none⟩ (.int .i64 ((rd_T27 l0 x7_1).f3))).setCell ⟨gb141, 4, none⟩ (.int .u32 ((rd_T27 l0 x7_1).f4))).setCell ⟨gb141, 5, none⟩ (.slice A140_5 ((rd_T27 l0 x7_1).f5).length c140_5)).heap[gb141]? = some (.cells #[.int .u32 ((rd_T27 l0 x7_1).f0), .int .u32 ((rd_T27 l0 x7_1).f1), .int .u32 ((rd_T27 l0 x7_1).f2), .int .i64 ((rd_T27 l0 x7_1).f3), .int .u32 ((rd_T27 l0 x7_1).f4), .slice A140_5 ((rd_T27 l0 x7_1).f5).length c140_5] 27 (0, 0))) := ⟨by (with_reducible repeat (first | refine bn_ ?_ _ | refine bd_ ?_ | refine ba_ ?_ _)); refine blk_put (cs := #[.int .u32 ((rd_T27 l0 x7_1).f0), .int .u32 ((rd_T27 l0 x7_1).f1), .int .u32 ((rd_T27 l0 x7_1).f2), .int .i64 ((rd_T27 l0 x7_1).f3), .int .u32 ((rd_T27 l0 x7_1).f4), .slice none 0 0]) ?_ 5 _ rfl; (with_reducible repeat (first | refine bn_ ?_ _ | refine bd_ ?_ | refine ba_ ?_ _)); refine blk_put (cs := #[.int .u32 ((rd_T27 l0 x7_1).f0), .int .u32 ((rd_T27 l0 x7_1).f1), .int .u32 ((rd_T27 l0 x7_1).f2), .int .i64 ((rd_T27 l0 x7_1).f3), .int .u32 0, .slice none 0 0]) ?_ 4 _ rfl; (with_reducible repeat (first | refine bn_ ?_ _ | refine bd_ ?_ | refine ba_ ?_ _)); refine blk_put (cs := #[.int .u32 ((rd_T27 l0 x7_1).f0), .int .u32 ((rd_T27 l0 x7_1).f1), .int .u32 ((rd_T27 l0 x7_1).f2), .int .i64 0, .int .u32 0, .slice none 0 0]) ?_ 3 _ rfl; (with_reducible repeat (first | refine bn_ ?_ _ | refine bd_ ?_ | refine ba_ ?_ _)); refine blk_put (cs := #[.int .u32 ((rd_T27 l0 x7_1).f0), .int .u32 ((rd_T27 l0 x7_1).f1), .int .u32 0, .int .i64 0, .int .u32 0, .slice none 0 0]) ?_ 2 _ rfl; (with_reducible repeat (first | refine bn_ ?_ _ | refine bd_ ?_ | refine ba_ ?_ _)); refine blk_put (cs := #[.int .u32 ((rd_T27 l0 x7_1).f0), .int .u32 0, .int .u32 0, .int .i64 0, .int .u32 0, .slice none 0 0]) ?_ 1 _ rfl; (with_reducible repeat (first | refine bn_ ?_ _ | refine bd_ ?_ | refine ba_ ?_ _)); refine blk_put (cs := #[.int .u32 0, .int .u32 0, .int .u32 0, .int .i64 0, .int .u32 0, .slice none 0 0]) ?_ 0 _ rfl; (with_reducible repeat (first | refine bn_ ?_ _ | refine bd_ ?_ | refine ba_ ?_ _)); exact BK141.out⟩
           have n1_ : Aside0 (Below w.heap.size w ((((((w14.setCell ⟨gb141, 0, none⟩ (.int .u32 ((rd_T27 l0 x7_1).f0))).setCell ⟨gb141, 1, none⟩ (.int .u32 ((rd_T27 l0 x7_1).f1))).setCell ⟨gb141, 2, none⟩ (.int .u32 ((rd_T27 l0 x7_1).f2))).setCell ⟨gb141, 3, none⟩ (.int .i64 ((rd_T27 l0 x7_1).f3))).setCell ⟨gb141, 4, none⟩ (.int .u32 ((rd_T27 l0 x7_1).f4))).setCell ⟨gb141, 5, none⟩ (.slice A140_5 ((rd_T27 l0 x7_1).f5).length c140_5))) := ⟨by repeat (first | (with_reducible first | exact HB.out | apply pa_ | apply pn_ | apply pd_ | refine below_set ?_ GE141.out) | exact HB.out)⟩
           (try clear BK141)
           (try clear HB)
           generalize ((((((w14.setCell ⟨gb141, 0, none⟩ (.int .u32 ((rd_T27 l0 x7_1).f0))).setCell ⟨gb141, 1, none⟩ (.int .u32 ((rd_T27 l0 x7_1).f1))).setCell ⟨gb141, 2, none⟩ (.int .u32 ((rd_T27 l0 x7_1).f2))).setCell ⟨gb141, 3, none⟩ (.int .i64 ((rd_T27 l0 x7_1).f3))).setCell ⟨gb141, 4, none⟩ (.int .u32 ((rd_T27 l0 x7_1).f4))).setCell ⟨gb141, 5, none⟩ (.slice A140_5 ((rd_T27 l0 x7_1).f5).length c140_5)) = w16 at n0_ n1_ ⊢
           have BK141 := n0_
           have HB := n1_
           clear n0_ n1_
           have n0_ := m_ (bd_ BK141.out)
           have n1_ := m_ (pd_ HB.out)
           clear BK141
           clear HB
           have BK141 := n0_
           have HB := n1_
           clear n0_ n1_
           have p143 : 0 ≤ ((ji8) : Int) := of_decide_eq_true (by first | (with_reducible assumption) | assumption)
           have q143 : (ji8) < (l0.length : Int) := of_decide_eq_true (by first | (with_reducible assumption) | assumption)
           obtain ⟨ad143, A143_5, c143_5, e143, hx143_0, hx143_1, hx143_2, hx143_3, hx143_4, hx143_5, hl143_5, hi143_5⟩ := at_T27 HR0.out (ji8) p143 q143
           have hw143_5 := hx143_5
           have hw143_4 := hx143_4
           have hw143_3 := hx143_3
           have hw143_2 := hx143_2
           have hw143_1 := hx143_1
           have hw143_0 := hx143_0
           obtain rfl : ad140 = ad143 := (by injection e143)
           replace hx143_0 := kp_ HB.out hx143_0
           replace hx143_1 := kp_ HB.out hx143_1
           replace hx143_2 := kp_ HB.out hx143_2
           replace hx143_3 := kp_ HB.out hx143_3
           replace hx143_4 := kp_ HB.out hx143_4
           replace hx143_5 := kp_ HB.out hx143_5
           have HR143_5 := m_ hi143_5
           have HC143_5 := m_ hl143_5
           clear hi143_5 hl143_5
           replace p143 := eq_true p143
           replace q143 := eq_true q143
           refine start_ (n := 29) (S := fun w' => w'.cell? ⟨gb141, 0, none⟩ = some (.int .u32 ((rd_T27 l0 x7_1).f0)) ∧ w'.cell? ⟨gb141, 1, none⟩ = some (.int .u32 ((rd_T27 l0 x7_1).f1)) ∧ w'.cell? ⟨gb141, 2, none⟩ = some (.int .u32 ((rd_T27 l0 x7_1).f2)) ∧ w'.cell? ⟨gb141, 3, none⟩ = some (.int .i64 ((rd_T27 l0 x7_1).f3)) ∧ w'.cell? ⟨gb141, 4, none⟩ = some (.int .u32 ((rd_T27 l0 x7_1).f4)) ∧ w'.cell? ⟨gb141, 5, none⟩ = some (.slice A140_5 ((rd_T27 l0 x7_1).f5).length c140_5) ∧ w'.cell? (ad140.add (((ji8)).toNat * 6)) = some (.int .u32 ((rd_T27 l0 (ji8)).f0)) ∧ w'.cell? ⟨(ad140.add (((ji8)).toNat * 6)).block, (ad140.add (((ji8)).toNat * 6)).off + 1, none⟩ = some (.int .u32 ((rd_T27 l0 (ji8)).f1)) ∧ w'.cell? ⟨(ad140.add (((ji8)).toNat * 6)).block, (ad140.add (((ji8)).toNat * 6)).off + 2, none⟩ = some (.int .u32 ((rd_T27 l0 (ji8)).f2)) ∧ w'.cell? ⟨(ad140.add (((ji8)).toNat * 6)).block, (ad140.add (((ji8)).toNat * 6)).off + 3, none⟩ = some (.int .i64 ((rd_T27 l0 (ji8)).f3)) ∧ w'.cell? ⟨(ad140.add (((ji8)).toNat * 6)).block, (ad140.add (((ji8)).toNat * 6)).off + 4, none⟩ = some (.int .u32 ((rd_T27 l0 (ji8)).f4)) ∧ w'.cell? ⟨(ad140.add (((ji8)).toNat * 6)).block, (ad140.add (((ji8)).toNat * 6)).off + 5, none⟩ = some (.slice A143_5 ((rd_T27 l0 (ji8)).f5).length c143_5)) (ds := []) (bs_ 29 0) (by kernel_rfl) rfl rfl ⟨(bc_ BK141.out 0).trans rfl, (bc_ BK141.out 1).trans rfl, (bc_ BK141.out 2).trans rfl, (bc_ BK141.out 3).trans rfl, (bc_ BK141.out 4).trans rfl, (bc_ BK141.out 5).trans rfl, (kp_ HB.out hw143_0), (kp_ HB.out hw143_1), (kp_ HB.out hw143_2), (kp_ HB.out hw143_3), (kp_ HB.out hw143_4), (kp_ HB.out hw143_5)⟩ (fun hHeld => ?_); refine with_tabW flow_Table.tab4 flow_Table.bits4 (fun HT_ HW_ => ?_)
           generalize w16.drew = w17 at BK141 HB HR143_5 hx143_0 hx143_1 hx143_2 hx143_3 hx143_4 hx143_5 hHeld ⊢
           refine take_ (i := 0) (N := some 12) (v := ?_) (a' := ?_) (bs_ 29 1) rfl rfl (take_ofW HT_.out HW_.out (by kernel_rfl)) (fun _ _ _ h => h) (Or.inl ⟨by rfl, ?_⟩) hHeld ?_ ?_
           rotate_left
           ·rintro w' ⟨s0, s1, s2, s3, s4, s5, s6, s7, s8, s9, s10, s11⟩
            (try simp only [add_plain] at s0 s1 s2 s3 s4 s5 s6 s7 s8 s9 s10 s11)
            go_simp
            with_reducible rfl
           rotate_left
           ·simp only [Act.put, a1_, a2_, a3_, i64_w, i32_w]
            rfl
           refine one_ (i := 1) (N := some 13) (bs_ 29 3) rfl rfl (one_of HT_.out (by kernel_rfl)) (by decide) (fun K hK => ?_)
           refine goes_ Try.func16 (by kernel_rfl) rfl #[.agg #[.int .u32 ((rd_T27 l0 x7_1).f0), .int .u32 ((rd_T27 l0 x7_1).f1), .int .u32 ((rd_T27 l0 x7_1).f2), .int .i64 ((rd_T27 l0 x7_1).f3), .int .u32 ((rd_T27 l0 x7_1).f4), .slice A140_5 ((rd_T27 l0 x7_1).f5).length c140_5]] (by rfl) rfl rfl (by (try simp only [List.map_toArray, List.map_cons, List.map_nil]); first | done | rfl | (simp only [List.length_drop, List.length_take]; rfl)) ?_
           with_reducible refine (flow_Right.calls k1 ((rd_T27 l0 x7_1).f0) ((rd_T27 l0 x7_1).f1) ((rd_T27 l0 x7_1).f2) ((rd_T27 l0 x7_1).f3) ((rd_T27 l0 x7_1).f4) _ _ ((rd_T27 l0 x7_1).f5) true _ ?side1 ?side2 A5.out).mono ?_
           (case side1 => repeat (first | exact (Kd.C_below HR140_5.out HB.out) | (with_reducible refine Kd.C_alloc ?_ _) | (with_reducible refine Kd.C_drewN ?_ _) | (with_reducible refine Kd.C_drew ?_)))
           (case side2 => exact HC140_5.out)
           rintro e w18 ⟨rfl, hb⟩
           refine ⟨_, rfl, ?_⟩
           have n0_ := m_ (blk_below (g := gb141) (o := .cells #[.int .u32 ((rd_T27 l0 x7_1).f0), .int .u32 ((rd_T27 l0 x7_1).f1), .int .u32 ((rd_T27 l0 x7_1).f2), .int .i64 ((rd_T27 l0 x7_1).f3), .int .u32 ((rd_T27 l0 x7_1).f4), .slice A140_5 ((rd_T27 l0 x7_1).f5).length c140_5] 27 (0, 0)) (by (with_reducible repeat (first | refine bn_ ?_ _ | refine bd_ ?_ | refine ba_ ?_ _)); exact BK141.out) hb)
           have n1_ := m_ (below_step (by repeat (first | (with_reducible first | exact HB.out | apply pa_ | apply pn_ | apply pd_ | refine below_set ?_ GE141.out) | exact HB.out)) hb)
           clear BK141
           clear HB
           have BK141 := n0_
           have HB := n1_
           clear n0_ n1_
           (try clear hb)
           (try clear hb2)
           (try clear hk)
           (try clear hi)
           refine hK.out _ _ ⟨(bc_ BK141.out 0).trans rfl, (bc_ BK141.out 1).trans rfl, (bc_ BK141.out 2).trans rfl, (bc_ BK141.out 3).trans rfl, (bc_ BK141.out 4).trans rfl, (bc_ BK141.out 5).trans rfl, (kp_ HB.out hw143_0), (kp_ HB.out hw143_1), (kp_ HB.out hw143_2), (kp_ HB.out hw143_3), (kp_ HB.out hw143_4), (kp_ HB.out hw143_5)⟩ (fun hHeld => ?_)
           clear hK K
           refine norm_ (a' := ?_) ?_ ?_
           rotate_left
           ·show Act.put _ (some 13) _ = _
            simp only [Act.put, a1_, a2_, a3_, i64_w, i32_w]
            rfl
           refine pure_ (i := 2) (N := some 14) (v := ?_) (a' := ?_) (bs_ 29 7) rfl rfl (any_of HT_.out (by kernel_rfl)) (fun _ _ _ h => h) (Or.inl ⟨by rfl, ?_⟩) ?_ ?_
           rotate_left
           ·intro w'
            go_simp
            with_reducible rfl
           rotate_left
           ·simp only [Act.put, a1_, a2_, a3_, i64_w, i32_w]
            rfl
           refine pure_ (i := 3) (N := some 15) (v := ?_) (a' := ?_) (bs_ 29 15) rfl rfl (any_of HT_.out (by kernel_rfl)) (fun _ _ _ h => h) (Or.inl ⟨by rfl, ?_⟩) ?_ ?_
           rotate_left
           ·intro w'
            go_simp
            with_reducible rfl
           rotate_left
           ·simp only [Act.put, a1_, a2_, a3_, i64_w, i32_w]
            rfl
           refine pure_ (i := 4) (N := some 16) (v := ?_) (a' := ?_) (bs_ 29 31) rfl rfl (any_of HT_.out (by kernel_rfl)) (fun _ _ _ h => h) (Or.inl ⟨by rfl, ?_⟩) ?_ ?_
           rotate_left
           ·intro w'
            go_simp
            with_reducible rfl
           rotate_left
           ·simp only [Act.put, a1_, a2_, a3_, i64_w, i32_w]
            rfl
           refine pure_ (i := 5) (N := some 17) (v := ?_) (a' := ?_) (bs_ 29 63) rfl rfl (any_of HT_.out (by kernel_rfl)) (fun _ _ _ h => h) (Or.inl ⟨by rfl, ?_⟩) ?_ ?_
           rotate_left
           ·intro w'
            go_simp
            with_reducible rfl
           rotate_left
           ·simp only [Act.put, a1_, a2_, a3_, i64_w, i32_w]
            rfl
           refine pure_ (i := 6) (N := some 18) (v := ?_) (a' := ?_) (bs_ 29 127) rfl rfl (any_of HT_.out (by kernel_rfl)) (fun _ _ _ h => h) (Or.inl ⟨by rfl, ?_⟩) ?_ ?_
           rotate_left
           ·intro w'
            go_simp
            with_reducible rfl
           rotate_left
           ·simp only [Act.put, a1_, a2_, a3_, i64_w, i32_w]
            rfl
           refine pure_ (i := 7) (N := some 19) (v := ?_) (a' := ?_) (bs_ 29 255) rfl rfl (any_of HT_.out (by kernel_rfl)) (fun _ _ _ h => h) (Or.inl ⟨by rfl, ?_⟩) ?_ ?_
           rotate_left
           ·intro w'
            go_simp
            with_reducible rfl
           rotate_left
           ·simp only [Act.put, a1_, a2_, a3_, i64_w, i32_w]
            rfl
           refine pure_ (i := 8) (N := some 20) (v := ?_) (a' := ?_) (bs_ 29 511) rfl rfl (any_of HT_.out (by kernel_rfl)) (fun _ _ _ h => h) (Or.inl ⟨by rfl, ?_⟩) ?_ ?_
           rotate_left
           ·intro w'
            go_simp
            with_reducible rfl
           rotate_left
           ·simp only [Act.put, a1_, a2_, a3_, i64_w, i32_w]
            rfl
           refine pure_ (i := 9) (N := some 21) (v := ?_) (a' := ?_) (bs_ 29 1023) rfl rfl (any_of HT_.out (by kernel_rfl)) (fun _ _ _ h => h) (Or.inl ⟨by rfl, ?_⟩) ?_ ?_
           rotate_left
           ·intro w'
            go_simp
            with_reducible rfl
           rotate_left
           ·simp only [Act.put, a1_, a2_, a3_, i64_w, i32_w]
            rfl
           refine pure_ (i := 10) (N := some 22) (v := ?_) (a' := ?_) (bs_ 29 2047) rfl rfl (any_of HT_.out (by kernel_rfl)) (fun _ _ _ h => h) (Or.inl ⟨by rfl, ?_⟩) ?_ ?_
           rotate_left
           ·intro w'
            go_simp
            with_reducible rfl
           rotate_left
           ·simp only [Act.put, a1_, a2_, a3_, i64_w, i32_w]
            rfl
           refine take_ (i := 11) (N := some 23) (v := ?_) (a' := ?_) (bs_ 29 4095) rfl rfl (take_ofW HT_.out HW_.out (by kernel_rfl)) (fun _ _ _ h => h) (Or.inl ⟨by rfl, ?_⟩) hHeld ?_ ?_
           rotate_left
           ·rintro w' ⟨s0, s1, s2, s3, s4, s5, s6, s7, s8, s9, s10, s11⟩
            (try simp only [add_plain] at s0 s1 s2 s3 s4 s5 s6 s7 s8 s9 s10 s11)
            go_simp
            with_reducible rfl
           rotate_left
           ·simp only [Act.put, a1_, a2_, a3_, i64_w, i32_w]
            rfl
           refine take_ (i := 13) (N := some 25) (v := ?_) (a' := ?_) (bs_ 29 12287) rfl rfl (take_ofW HT_.out HW_.out (by kernel_rfl)) (fun _ _ _ h => h) (Or.inl ⟨by rfl, ?_⟩) hHeld ?_ ?_
           rotate_left
           ·rintro w' ⟨s0, s1, s2, s3, s4, s5, s6, s7, s8, s9, s10, s11⟩
            (try simp only [add_plain] at s0 s1 s2 s3 s4 s5 s6 s7 s8 s9 s10 s11)
            go_simp
            with_reducible rfl
           rotate_left
           ·simp only [Act.put, a1_, a2_, a3_, i64_w, i32_w]
            rfl
           refine one_ (i := 12) (N := some 24) (bs_ 29 16383) rfl rfl (one_of HT_.out (by kernel_rfl)) (by decide) (fun K hK => ?_)
           refine goes_ Try.func24 (by kernel_rfl) rfl #[.agg #[.int .u32 ((rd_T27 l0 (ji8)).f0), .int .u32 ((rd_T27 l0 (ji8)).f1), .int .u32 ((rd_T27 l0 (ji8)).f2), .int .i64 ((rd_T27 l0 (ji8)).f3), .int .u32 ((rd_T27 l0 (ji8)).f4), .slice A143_5 ((rd_T27 l0 (ji8)).f5).length c143_5]] (by rfl) rfl rfl (by (try simp only [List.map_toArray, List.map_cons, List.map_nil]); first | done | (simp only [hji8]; rfl) | rfl | (simp only [List.length_drop, List.length_take]; rfl)) ?_
           with_reducible refine (flow_of.calls ((rd_T27 l0 (ji8)).f0) ((rd_T27 l0 (ji8)).f1) ((rd_T27 l0 (ji8)).f2) ((rd_T27 l0 (ji8)).f3) ((rd_T27 l0 (ji8)).f4) _ _ ((rd_T27 l0 (ji8)).f5) t144 t145 t146 _ ?side1 ?side2 A11.out).mono ?_
           (case side1 => repeat (first | exact (Kd.C_below HR143_5.out HB.out) | (with_reducible refine Kd.C_alloc ?_ _) | (with_reducible refine Kd.C_drewN ?_ _) | (with_reducible refine Kd.C_drew ?_)))
           (case side2 => exact HC143_5.out)
           rintro e w19 ⟨rfl, hb⟩
           refine ⟨_, rfl, ?_⟩
           have n0_ := m_ (blk_below (g := gb141) (o := .cells #[.int .u32 ((rd_T27 l0 x7_1).f0), .int .u32 ((rd_T27 l0 x7_1).f1), .int .u32 ((rd_T27 l0 x7_1).f2), .int .i64 ((rd_T27 l0 x7_1).f3), .int .u32 ((rd_T27 l0 x7_1).f4), .slice A140_5 ((rd_T27 l0 x7_1).f5).length c140_5] 27 (0, 0)) (by (with_reducible repeat (first | refine bn_ ?_ _ | refine bd_ ?_ | refine ba_ ?_ _)); exact BK141.out) hb)
           have n1_ := m_ (below_step (by repeat (first | (with_reducible first | exact HB.out | apply pa_ | apply pn_ | apply pd_ | refine below_set ?_ GE141.out) | exact HB.out)) hb)
           clear BK141
           clear HB
           have BK141 := n0_
           have HB := n1_
           clear n0_ n1_
           (try clear hb)
           (try clear hb2)
           (try clear hk)
           (try clear hi)
           refine hK.out _ _ ⟨(bc_ BK141.out 0).trans rfl, (bc_ BK141.out 1).trans rfl, (bc_ BK141.out 2).trans rfl, (bc_ BK141.out 3).trans rfl, (bc_ BK141.out 4).trans rfl, (bc_ BK141.out 5).trans rfl, (kp_ HB.out hw143_0), (kp_ HB.out hw143_1), (kp_ HB.out hw143_2), (kp_ HB.out hw143_3), (kp_ HB.out hw143_4), (kp_ HB.out hw143_5)⟩ (fun hHeld => ?_)
           clear hK K
           refine norm_ (a' := ?_) ?_ ?_
           rotate_left
           ·show Act.put _ (some 24) _ = _
            simp only [Act.put, a1_, a2_, a3_, i64_w, i32_w]
            rfl
           refine one_ (i := 14) (N := some 26) (bs_ 29 32767) rfl rfl (one_of HT_.out (by kernel_rfl)) (by decide) (fun K hK => ?_)
           refine goes_ Try.func24 (by kernel_rfl) rfl #[.agg #[.int .u32 ((rd_T27 l0 x7_1).f0), .int .u32 ((rd_T27 l0 x7_1).f1), .int .u32 ((rd_T27 l0 x7_1).f2), .int .i64 ((rd_T27 l0 x7_1).f3), .int .u32 ((rd_T27 l0 x7_1).f4), .slice A140_5 ((rd_T27 l0 x7_1).f5).length c140_5]] (by rfl) rfl rfl (by (try simp only [List.map_toArray, List.map_cons, List.map_nil]); first | done | rfl | (simp only [List.length_drop, List.length_take]; rfl)) ?_
           with_reducible refine (flow_of.calls ((rd_T27 l0 x7_1).f0) ((rd_T27 l0 x7_1).f1) ((rd_T27 l0 x7_1).f2) ((rd_T27 l0 x7_1).f3) ((rd_T27 l0 x7_1).f4) _ _ ((rd_T27 l0 x7_1).f5) t147 t148 t149 _ ?side1 ?side2 A12.out).mono ?_
           (case side1 => repeat (first | exact (Kd.C_below HR140_5.out HB.out) | (with_reducible refine Kd.C_alloc ?_ _) | (with_reducible refine Kd.C_drewN ?_ _) | (with_reducible refine Kd.C_drew ?_)))
           (case side2 => exact HC140_5.out)
           rintro e w20 ⟨rfl, hb⟩
           refine ⟨_, rfl, ?_⟩
           have n0_ := m_ (blk_below (g := gb141) (o := .cells #[.int .u32 ((rd_T27 l0 x7_1).f0), .int .u32 ((rd_T27 l0 x7_1).f1), .int .u32 ((rd_T27 l0 x7_1).f2), .int .i64 ((rd_T27 l0 x7_1).f3), .int .u32 ((rd_T27 l0 x7_1).f4), .slice A140_5 ((rd_T27 l0 x7_1).f5).length c140_5] 27 (0, 0)) (by (with_reducible repeat (first | refine bn_ ?_ _ | refine bd_ ?_ | refine ba_ ?_ _)); exact BK141.out) hb)
           have n1_ := m_ (below_step (by repeat (first | (with_reducible first | exact HB.out | apply pa_ | apply pn_ | apply pd_ | refine below_set ?_ GE141.out) | exact HB.out)) hb)
           clear BK141
           clear HB
           have BK141 := n0_
           have HB := n1_
           clear n0_ n1_
           (try clear hb)
           (try clear hb2)
           (try clear hk)
           (try clear hi)
           refine hK.out _ _ ⟨(bc_ BK141.out 0).trans rfl, (bc_ BK141.out 1).trans rfl, (bc_ BK141.out 2).trans rfl, (bc_ BK141.out 3).trans rfl, (bc_ BK141.out 4).trans rfl, (bc_ BK141.out 5).trans rfl, (kp_ HB.out hw143_0), (kp_ HB.out hw143_1), (kp_ HB.out hw143_2), (kp_ HB.out hw143_3), (kp_ HB.out hw143_4), (kp_ HB.out hw143_5)⟩ (fun hHeld => ?_)
           clear hK K
           refine norm_ (a' := ?_) ?_ ?_
           rotate_left
           ·show Act.put _ (some 26) _ = _
            simp only [Act.put, a1_, a2_, a3_, i64_w, i32_w]
            rfl
           refine pure_ (i := 15) (N := some 27) (v := ?_) (a' := ?_) (bs_ 29 65535) rfl rfl (any_of HT_.out (by kernel_rfl)) (fun _ _ _ h => h) (Or.inl ⟨by rfl, ?_⟩) ?_ ?_
           rotate_left
           ·intro w'
            go_simp
            with_reducible rfl
           rotate_left
           ·simp only [Act.put, a1_, a2_, a3_, i64_w, i32_w]
            rfl
           refine pure_ (i := 16) (N := some 28) (v := ?_) (a' := ?_) (bs_ 29 131071) rfl rfl (any_of HT_.out (by kernel_rfl)) (fun _ _ _ h => h) (Or.inl ⟨by rfl, ?_⟩) ?_ ?_
           rotate_left
           ·intro w'
            go_simp
            with_reducible rfl
           rotate_left
           ·simp only [Act.put, a1_, a2_, a3_, i64_w, i32_w]
            rfl
           refine pure_ (i := 17) (N := some 29) (v := undef) (a' := ?_) (bs_ 29 262143) rfl rfl (any_of HT_.out (by kernel_rfl)) (fun _ _ _ h => h) (Or.inr ⟨by rfl, rfl⟩) ?_ ?_
           rotate_left
           ·simp only [Act.put, a1_, a2_, a3_, i64_w, i32_w]
            rfl
           refine pure_ (i := 18) (N := some 30) (v := undef) (a' := ?_) (bs_ 29 524287) rfl rfl (any_of HT_.out (by kernel_rfl)) (fun _ _ _ h => h) (Or.inr ⟨by rfl, rfl⟩) ?_ ?_
           rotate_left
           ·simp only [Act.put, a1_, a2_, a3_, i64_w, i32_w]
            rfl
           refine pure_ (i := 19) (N := some 31) (v := undef) (a' := ?_) (bs_ 29 1048575) rfl rfl (any_of HT_.out (by kernel_rfl)) (fun _ _ _ h => h) (Or.inr ⟨by rfl, rfl⟩) ?_ ?_
           rotate_left
           ·simp only [Act.put, a1_, a2_, a3_, i64_w, i32_w]
            rfl
           refine pure_ (i := 20) (N := some 32) (v := undef) (a' := ?_) (bs_ 29 2097151) rfl rfl (any_of HT_.out (by kernel_rfl)) (fun _ _ _ h => h) (Or.inr ⟨by rfl, rfl⟩) ?_ ?_
           rotate_left
           ·simp only [Act.put, a1_, a2_, a3_, i64_w, i32_w]
            rfl
           refine pure_ (i := 21) (N := some 33) (v := undef) (a' := ?_) (bs_ 29 4194303) rfl rfl (any_of HT_.out (by kernel_rfl)) (fun _ _ _ h => h) (Or.inr ⟨by rfl, rfl⟩) ?_ ?_
           rotate_left
           ·simp only [Act.put, a1_, a2_, a3_, i64_w, i32_w]
            rfl
           refine pure_ (i := 22) (N := some 34) (v := undef) (a' := ?_) (bs_ 29 8388607) rfl rfl (any_of HT_.out (by kernel_rfl)) (fun _ _ _ h => h) (Or.inr ⟨by rfl, rfl⟩) ?_ ?_
           rotate_left
           ·simp only [Act.put, a1_, a2_, a3_, i64_w, i32_w]
            rfl
           refine pure_ (i := 23) (N := some 35) (v := undef) (a' := ?_) (bs_ 29 16777215) rfl rfl (any_of HT_.out (by kernel_rfl)) (fun _ _ _ h => h) (Or.inr ⟨by rfl, rfl⟩) ?_ ?_
           rotate_left
           ·simp only [Act.put, a1_, a2_, a3_, i64_w, i32_w]
            rfl
           refine pure_ (i := 24) (N := some 36) (v := undef) (a' := ?_) (bs_ 29 33554431) rfl rfl (any_of HT_.out (by kernel_rfl)) (fun _ _ _ h => h) (Or.inr ⟨by rfl, rfl⟩) ?_ ?_
           rotate_left
           ·simp only [Act.put, a1_, a2_, a3_, i64_w, i32_w]
            rfl
           refine pure_ (i := 25) (N := some 37) (v := undef) (a' := ?_) (bs_ 29 67108863) rfl rfl (any_of HT_.out (by kernel_rfl)) (fun _ _ _ h => h) (Or.inr ⟨by rfl, rfl⟩) ?_ ?_
           rotate_left
           ·simp only [Act.put, a1_, a2_, a3_, i64_w, i32_w]
            rfl
           refine pure_ (i := 26) (N := some 38) (v := ?_) (a' := ?_) (bs_ 29 134217727) rfl rfl (any_of HT_.out (by kernel_rfl)) (fun _ _ _ h => h) (Or.inl ⟨by rfl, ?_⟩) ?_ ?_
           rotate_left
           ·intro w'
            go_simp
            with_reducible rfl
           rotate_left
           ·simp only [Act.put, a1_, a2_, a3_, i64_w, i32_w]
            rfl
           refine pure_ (i := 27) (N := some 39) (v := ?_) (a' := ?_) (bs_ 29 268435455) rfl rfl (any_of HT_.out (by kernel_rfl)) (fun _ _ _ h => h) (Or.inl ⟨by rfl, ?_⟩) ?_ ?_
           rotate_left
           ·intro w'
            go_simp
            with_reducible rfl
           rotate_left
           ·simp only [Act.put, a1_, a2_, a3_, i64_w, i32_w]
            rfl
           refine pure_ (i := 28) (N := some 40) (v := ?_) (a' := ?_) (bs_ 29 536870911) rfl rfl (any_of HT_.out (by kernel_rfl)) (fun _ _ _ h => h) (Or.inl ⟨by rfl, ?_⟩) ?_ ?_
           rotate_left
           ·intro w'
            go_simp
            with_reducible rfl
           rotate_left
           ·simp only [Act.put, a1_, a2_, a3_, i64_w, i32_w]
            rfl
           refine done_ (done_of HT_.out (by kernel_rfl)) ?_
           try go_wp2
           go_ret
           exact ⟨by first | rfl | (simp [errW_none, errW_some] <;> rfl) | (simp only [← hji8]; first | rfl | (simp [errW_none, errW_some] <;> rfl)) | (simp [*, errW_none, errW_some] <;> rfl), by repeat (first | (with_reducible first | exact HB.out | apply pa_ | apply pn_ | apply pd_ | refine below_set ?_ GE141.out) | exact HB.out)⟩
          ·rw [if_neg c13] at H
           have c13b0 : (t144 == t147 && (t145 == t148 && (t146 == t149))) = false := by simpa using c13
           (try (have c13b1 : decide (t144 = t147 && (t145 == t148 && (t146 == t149))) = false := by simpa using c13))
           (try (have c13b2 : (t144 == t147 && (t145 == t148 && (t146 == t149))) = false := by simpa using c13))
           (try (have c13b3 : ¬ (t144 = t147 && (t145 == t148 && (t146 == t149))) := by simpa using c13))
           clear c13
           replace H := Option.bind_eq_some_iff.mp H
           obtain ⟨⟨t151, t152, t153⟩, A210, H⟩ := H
           replace H : ((flow_order.f k1 ((rd_T27 l0 (ji8)).f0) ((rd_T27 l0 (ji8)).f1) ((rd_T27 l0 (ji8)).f2) ((rd_T27 l0 (ji8)).f3) ((rd_T27 l0 (ji8)).f4) ((rd_T27 l0 (ji8)).f5) t151 t152 t153).bind fun t154 => (if t154 > 0 then (some false) else (flow_Table.l0 k1 l0 l0 (l0.length : Int) (wrap64 (x7_1 + 1))))) = some r := H
           have A21 := m_ A210
           clear A210
           have z_ := Option.some.inj (A12.out.symm.trans A21.out)
           simp only [Prod.mk.injEq] at z_
           obtain ⟨z0_, z1_, z2_⟩ := z_
           subst z0_
           subst z1_
           subst z2_
           replace H := Option.bind_eq_some_iff.mp H
           obtain ⟨t154, A220, H⟩ := H
           replace H : (if t154 > 0 then (some false) else (flow_Table.l0 k1 l0 l0 (l0.length : Int) (wrap64 (x7_1 + 1)))) = some r := H
           have A22 := m_ A220
           clear A220
           by_cases c23 : t154 > 0
           ·rw [if_pos c23] at H
            have c23b0 : decide (0 < t154) = true := decide_eq_true c23
            clear c23
            obtain rfl := Option.some.inj H
            have p140 : 0 ≤ (x7_1 : Int) := of_decide_eq_true (by first | (with_reducible assumption) | assumption)
            have q140 : x7_1 < (l0.length : Int) := of_decide_eq_true (by first | (with_reducible assumption) | assumption)
            obtain ⟨ad140, A140_5, c140_5, e140, hx140_0, hx140_1, hx140_2, hx140_3, hx140_4, hx140_5, hl140_5, hi140_5⟩ := at_T27 HR0.out x7_1 p140 q140
            cases e140
            replace hx140_0 := kp_ HB.out hx140_0
            replace hx140_1 := kp_ HB.out hx140_1
            replace hx140_2 := kp_ HB.out hx140_2
            replace hx140_3 := kp_ HB.out hx140_3
            replace hx140_4 := kp_ HB.out hx140_4
            replace hx140_5 := kp_ HB.out hx140_5
            have HR140_5 := m_ hi140_5
            have HC140_5 := m_ hl140_5
            clear hi140_5 hl140_5
            replace p140 := eq_true p140
            replace q140 := eq_true q140
            try go_wp2_with (first | ((with_reducible refine gate_dst (N := 4) rfl ?_); refine box_event ?hg (N := 4) ?hd (cs := #[.int .u32 0, .int .u32 0, .int .u32 0, .int .i64 0, .int .u32 0, .slice none 0 0]) (t := 27) ?hr ?_; (case hd => rfl); (case hg => rfl); (case hr => first | (go_simp; done) | (go_simp; rfl)); intro gb141 hg w24 hbox hb; have n0_ := m_ (below_step (by repeat (first | (with_reducible first | exact HB.out | apply pa_ | apply pn_ | apply pd_) | exact HB.out)) hb); have n1_ := m_ (hbox); have n2_ := m_ ((by rw [hg]; exact (below_size (by repeat (first | (with_reducible first | exact HB.out | apply pa_ | apply pn_ | apply pd_) | exact HB.out))) : w.heap.size ≤ gb141)); have n3_ := m_ ((by rw [hg]; exact (below_size (by repeat (first | (with_reducible first | exact HB.out | apply pa_ | apply pn_ | apply pd_) | exact HB.out))) : w.heap.size ≤ gb141)); clear HB; have HB := n0_; have BK141 := n1_; have GW141 := n2_; have GE141 := n3_; clear n0_ n1_ n2_ n3_; clear hb hbox hg; have hcz25_0 : w24.cell? ⟨gb141, 0, none⟩ = some (.int .u32 0) := (bc_ BK141.out 0).trans rfl; have hcz25_1 : w24.cell? ⟨gb141, 1, none⟩ = some (.int .u32 0) := (bc_ BK141.out 1).trans rfl; have hcz25_2 : w24.cell? ⟨gb141, 2, none⟩ = some (.int .u32 0) := (bc_ BK141.out 2).trans rfl; have hcz25_3 : w24.cell? ⟨gb141, 3, none⟩ = some (.int .i64 0) := (bc_ BK141.out 3).trans rfl; have hcz25_4 : w24.cell? ⟨gb141, 4, none⟩ = some (.int .u32 0) := (bc_ BK141.out 4).trans rfl; have hcz25_5 : w24.cell? ⟨gb141, 5, none⟩ = some (.slice none 0 0) := (bc_ BK141.out 5).trans rfl; have hfz25_0 := bf_ BK141.out 0; have hfz25_1 := bf_ BK141.out 1; have hfz25_2 := bf_ BK141.out 2; have hfz25_3 := bf_ BK141.out 3; have hfz25_4 := bf_ BK141.out 4; have hfz25_5 := bf_ BK141.out 5))
            have n0_ : Aside0 (((((((w24.setCell ⟨gb141, 0, none⟩ (.int .u32 ((rd_T27 l0 x7_1).f0))).setCell ⟨gb141, 1, none⟩ (.int .u32 ((rd_T27 l0 x7_1).f1))).setCell ⟨gb141, 2, none⟩ (.int .u32 ((rd_T27 l0 x7_1).f2))).setCell ⟨gb141, 3, none⟩ (.int .i64 ((rd_T27 l0 x7_1).f3))).setCell ⟨gb141, 4, none⟩ (.int .u32 ((rd_T27 l0 x7_1).f4))).setCell ⟨gb141, 5, none⟩ (.slice A140_5 ((rd_T27 l0 x7_1).f5).length c140_5)).heap[gb141]? = some (.cells #[.int .u32 ((rd_T27 l0 x7_1).f0), .int .u32 ((rd_T27 l0 x7_1).f1), .int .u32 ((rd_T27 l0 x7_1).f2), .int .i64 ((rd_T27 l0 x7_1).f3), .int .u32 ((rd_T27 l0 x7_1).f4), .slice A140_5 ((rd_T27 l0 x7_1).f5).length c140_5] 27 (0, 0))) := ⟨by (with_reducible repeat (first | refine bn_ ?_ _ | refine bd_ ?_ | refine ba_ ?_ _)); refine blk_put (cs := #[.int .u32 ((rd_T27 l0 x7_1).f0), .int .u32 ((rd_T27 l0 x7_1).f1), .int .u32 ((rd_T27 l0 x7_1).f2), .int .i64 ((rd_T27 l0 x7_1).f3), .int .u32 ((rd_T27 l0 x7_1).f4), .slice none 0 0]) ?_ 5 _ rfl; (with_reducible repeat (first | refine bn_ ?_ _ | refine bd_ ?_ | refine ba_ ?_ _)); refine blk_put (cs := #[.int .u32 ((rd_T27 l0 x7_1).f0), .int .u32 ((rd_T27 l0 x7_1).f1), .int .u32 ((rd_T27 l0 x7_1).f2), .int .i64 ((rd_T27 l0 x7_1).f3), .int .u32 0, .slice none 0 0]) ?_ 4 _ rfl; (with_reducible repeat (first | refine bn_ ?_ _ | refine bd_ ?_ | refine ba_ ?_ _)); refine blk_put (cs := #[.int .u32 ((rd_T27 l0 x7_1).f0), .int .u32 ((rd_T27 l0 x7_1).f1), .int .u32 ((rd_T27 l0 x7_1).f2), .int .i64 0, .int .u32 0, .slice none 0 0]) ?_ 3 _ rfl; (with_reducible repeat (first | refine bn_ ?_ _ | refine bd_ ?_ | refine ba_ ?_ _)); refine blk_put (cs := #[.int .u32 ((rd_T27 l0 x7_1).f0), .int .u32 ((rd_T27 l0 x7_1).f1), .int .u32 0, .int .i64 0, .int .u32 0, .slice none 0 0]) ?_ 2 _ rfl; (with_reducible repeat (first | refine bn_ ?_ _ | refine bd_ ?_ | refine ba_ ?_ _)); refine blk_put (cs := #[.int .u32 ((rd_T27 l0 x7_1).f0), .int .u32 0, .int .u32 0, .int .i64 0, .int .u32 0, .slice none 0 0]) ?_ 1 _ rfl; (with_reducible repeat (first | refine bn_ ?_ _ | refine bd_ ?_ | refine ba_ ?_ _)); refine blk_put (cs := #[.int .u32 0, .int .u32 0, .int .u32 0, .int .i64 0, .int .u32 0, .slice none 0 0]) ?_ 0 _ rfl; (with_reducible repeat (first | refine bn_ ?_ _ | refine bd_ ?_ | refine ba_ ?_ _)); exact BK141.out⟩
            have n1_ : Aside0 (Below w.heap.size w ((((((w24.setCell ⟨gb141, 0, none⟩ (.int .u32 ((rd_T27 l0 x7_1).f0))).setCell ⟨gb141, 1, none⟩ (.int .u32 ((rd_T27 l0 x7_1).f1))).setCell ⟨gb141, 2, none⟩ (.int .u32 ((rd_T27 l0 x7_1).f2))).setCell ⟨gb141, 3, none⟩ (.int .i64 ((rd_T27 l0 x7_1).f3))).setCell ⟨gb141, 4, none⟩ (.int .u32 ((rd_T27 l0 x7_1).f4))).setCell ⟨gb141, 5, none⟩ (.slice A140_5 ((rd_T27 l0 x7_1).f5).length c140_5))) := ⟨by repeat (first | (with_reducible first | exact HB.out | apply pa_ | apply pn_ | apply pd_ | refine below_set ?_ GE141.out) | exact HB.out)⟩
            (try clear BK141)
            (try clear HB)
            generalize ((((((w24.setCell ⟨gb141, 0, none⟩ (.int .u32 ((rd_T27 l0 x7_1).f0))).setCell ⟨gb141, 1, none⟩ (.int .u32 ((rd_T27 l0 x7_1).f1))).setCell ⟨gb141, 2, none⟩ (.int .u32 ((rd_T27 l0 x7_1).f2))).setCell ⟨gb141, 3, none⟩ (.int .i64 ((rd_T27 l0 x7_1).f3))).setCell ⟨gb141, 4, none⟩ (.int .u32 ((rd_T27 l0 x7_1).f4))).setCell ⟨gb141, 5, none⟩ (.slice A140_5 ((rd_T27 l0 x7_1).f5).length c140_5)) = w26 at n0_ n1_ ⊢
            have BK141 := n0_
            have HB := n1_
            clear n0_ n1_
            have n0_ := m_ (bd_ BK141.out)
            have n1_ := m_ (pd_ HB.out)
            clear BK141
            clear HB
            have BK141 := n0_
            have HB := n1_
            clear n0_ n1_
            have p143 : 0 ≤ ((ji8) : Int) := of_decide_eq_true (by first | (with_reducible assumption) | assumption)
            have q143 : (ji8) < (l0.length : Int) := of_decide_eq_true (by first | (with_reducible assumption) | assumption)
            obtain ⟨ad143, A143_5, c143_5, e143, hx143_0, hx143_1, hx143_2, hx143_3, hx143_4, hx143_5, hl143_5, hi143_5⟩ := at_T27 HR0.out (ji8) p143 q143
            have hw143_5 := hx143_5
            have hw143_4 := hx143_4
            have hw143_3 := hx143_3
            have hw143_2 := hx143_2
            have hw143_1 := hx143_1
            have hw143_0 := hx143_0
            obtain rfl : ad140 = ad143 := (by injection e143)
            replace hx143_0 := kp_ HB.out hx143_0
            replace hx143_1 := kp_ HB.out hx143_1
            replace hx143_2 := kp_ HB.out hx143_2
            replace hx143_3 := kp_ HB.out hx143_3
            replace hx143_4 := kp_ HB.out hx143_4
            replace hx143_5 := kp_ HB.out hx143_5
            have HR143_5 := m_ hi143_5
            have HC143_5 := m_ hl143_5
            clear hi143_5 hl143_5
            replace p143 := eq_true p143
            replace q143 := eq_true q143
            have p150 : 0 ≤ ((ji8) : Int) := of_decide_eq_true (by first | (with_reducible assumption) | assumption)
            have q150 : (ji8) < (l0.length : Int) := of_decide_eq_true (by first | (with_reducible assumption) | assumption)
            obtain ⟨ad150, A150_5, c150_5, e150, hx150_0, hx150_1, hx150_2, hx150_3, hx150_4, hx150_5, hl150_5, hi150_5⟩ := at_T27 HR0.out (ji8) p150 q150
            have hw150_5 := hx150_5
            have hw150_4 := hx150_4
            have hw150_3 := hx150_3
            have hw150_2 := hx150_2
            have hw150_1 := hx150_1
            have hw150_0 := hx150_0
            obtain rfl : ad140 = ad150 := (by injection e150)
            obtain ⟨ez1_, ez2_⟩ : A143_5 = A150_5 ∧ c143_5 = c150_5 := (by first | (have z_ := Option.some.inj (hw143_5.symm.trans hx150_5); injection z_ with z1_ z2_ z3_; exact ⟨z1_, z3_⟩) | (have z_ := Option.some.inj (hx143_5.symm.trans hx150_5); injection z_ with z1_ z2_ z3_; exact ⟨z1_, z3_⟩))
            subst ez1_
            subst ez2_
            replace hx150_0 := kp_ HB.out hx150_0
            replace hx150_1 := kp_ HB.out hx150_1
            replace hx150_2 := kp_ HB.out hx150_2
            replace hx150_3 := kp_ HB.out hx150_3
            replace hx150_4 := kp_ HB.out hx150_4
            replace hx150_5 := kp_ HB.out hx150_5
            have HR150_5 := m_ hi150_5
            have HC150_5 := m_ hl150_5
            clear hi150_5 hl150_5
            replace p150 := eq_true p150
            replace q150 := eq_true q150
            refine start_ (n := 29) (S := fun w' => w'.cell? ⟨gb141, 0, none⟩ = some (.int .u32 ((rd_T27 l0 x7_1).f0)) ∧ w'.cell? ⟨gb141, 1, none⟩ = some (.int .u32 ((rd_T27 l0 x7_1).f1)) ∧ w'.cell? ⟨gb141, 2, none⟩ = some (.int .u32 ((rd_T27 l0 x7_1).f2)) ∧ w'.cell? ⟨gb141, 3, none⟩ = some (.int .i64 ((rd_T27 l0 x7_1).f3)) ∧ w'.cell? ⟨gb141, 4, none⟩ = some (.int .u32 ((rd_T27 l0 x7_1).f4)) ∧ w'.cell? ⟨gb141, 5, none⟩ = some (.slice A140_5 ((rd_T27 l0 x7_1).f5).length c140_5) ∧ w'.cell? (ad140.add (((ji8)).toNat * 6)) = some (.int .u32 ((rd_T27 l0 (ji8)).f0)) ∧ w'.cell? ⟨(ad140.add (((ji8)).toNat * 6)).block, (ad140.add (((ji8)).toNat * 6)).off + 1, none⟩ = some (.int .u32 ((rd_T27 l0 (ji8)).f1)) ∧ w'.cell? ⟨(ad140.add (((ji8)).toNat * 6)).block, (ad140.add (((ji8)).toNat * 6)).off + 2, none⟩ = some (.int .u32 ((rd_T27 l0 (ji8)).f2)) ∧ w'.cell? ⟨(ad140.add (((ji8)).toNat * 6)).block, (ad140.add (((ji8)).toNat * 6)).off + 3, none⟩ = some (.int .i64 ((rd_T27 l0 (ji8)).f3)) ∧ w'.cell? ⟨(ad140.add (((ji8)).toNat * 6)).block, (ad140.add (((ji8)).toNat * 6)).off + 4, none⟩ = some (.int .u32 ((rd_T27 l0 (ji8)).f4)) ∧ w'.cell? ⟨(ad140.add (((ji8)).toNat * 6)).block, (ad140.add (((ji8)).toNat * 6)).off + 5, none⟩ = some (.slice A143_5 ((rd_T27 l0 (ji8)).f5).length c143_5) ∧ w'.cell? (ad140.add (((ji8)).toNat * 6)) = some (.int .u32 ((rd_T27 l0 (ji8)).f0)) ∧ w'.cell? ⟨(ad140.add (((ji8)).toNat * 6)).block, (ad140.add (((ji8)).toNat * 6)).off + 1, none⟩ = some (.int .u32 ((rd_T27 l0 (ji8)).f1)) ∧ w'.cell? ⟨(ad140.add (((ji8)).toNat * 6)).block, (ad140.add (((ji8)).toNat * 6)).off + 2, none⟩ = some (.int .u32 ((rd_T27 l0 (ji8)).f2)) ∧ w'.cell? ⟨(ad140.add (((ji8)).toNat * 6)).block, (ad140.add (((ji8)).toNat * 6)).off + 3, none⟩ = some (.int .i64 ((rd_T27 l0 (ji8)).f3)) ∧ w'.cell? ⟨(ad140.add (((ji8)).toNat * 6)).block, (ad140.add (((ji8)).toNat * 6)).off + 4, none⟩ = some (.int .u32 ((rd_T27 l0 (ji8)).f4)) ∧ w'.cell? ⟨(ad140.add (((ji8)).toNat * 6)).block, (ad140.add (((ji8)).toNat * 6)).off + 5, none⟩ = some (.slice A143_5 ((rd_T27 l0 (ji8)).f5).length c143_5)) (ds := []) (bs_ 29 0) (by kernel_rfl) rfl rfl ⟨(bc_ BK141.out 0).trans rfl, (bc_ BK141.out 1).trans rfl, (bc_ BK141.out 2).trans rfl, (bc_ BK141.out 3).trans rfl, (bc_ BK141.out 4).trans rfl, (bc_ BK141.out 5).trans rfl, (kp_ HB.out hw143_0), (kp_ HB.out hw143_1), (kp_ HB.out hw143_2), (kp_ HB.out hw143_3), (kp_ HB.out hw143_4), (kp_ HB.out hw143_5), (kp_ HB.out hw150_0), (kp_ HB.out hw150_1), (kp_ HB.out hw150_2), (kp_ HB.out hw150_3), (kp_ HB.out hw150_4), (kp_ HB.out hw150_5)⟩ (fun hHeld => ?_); refine with_tabW flow_Table.tab4 flow_Table.bits4 (fun HT_ HW_ => ?_)
            generalize w26.drew = w27 at BK141 HB HR143_5 HR150_5 hx143_0 hx143_1 hx143_2 hx143_3 hx143_4 hx143_5 hx150_0 hx150_1 hx150_2 hx150_3 hx150_4 hx150_5 hHeld ⊢
            refine take_ (i := 0) (N := some 12) (v := ?_) (a' := ?_) (bs_ 29 1) rfl rfl (take_ofW HT_.out HW_.out (by kernel_rfl)) (fun _ _ _ h => h) (Or.inl ⟨by rfl, ?_⟩) hHeld ?_ ?_
            rotate_left
            ·rintro w' ⟨s0, s1, s2, s3, s4, s5, s6, s7, s8, s9, s10, s11, s12, s13, s14, s15, s16, s17⟩
             (try simp only [add_plain] at s0 s1 s2 s3 s4 s5 s6 s7 s8 s9 s10 s11 s12 s13 s14 s15 s16 s17)
             go_simp
             with_reducible rfl
            rotate_left
            ·simp only [Act.put, a1_, a2_, a3_, i64_w, i32_w]
             rfl
            refine one_ (i := 1) (N := some 13) (bs_ 29 3) rfl rfl (one_of HT_.out (by kernel_rfl)) (by decide) (fun K hK => ?_)
            refine goes_ Try.func16 (by kernel_rfl) rfl #[.agg #[.int .u32 ((rd_T27 l0 x7_1).f0), .int .u32 ((rd_T27 l0 x7_1).f1), .int .u32 ((rd_T27 l0 x7_1).f2), .int .i64 ((rd_T27 l0 x7_1).f3), .int .u32 ((rd_T27 l0 x7_1).f4), .slice A140_5 ((rd_T27 l0 x7_1).f5).length c140_5]] (by rfl) rfl rfl (by (try simp only [List.map_toArray, List.map_cons, List.map_nil]); first | done | rfl | (simp only [List.length_drop, List.length_take]; rfl)) ?_
            with_reducible refine (flow_Right.calls k1 ((rd_T27 l0 x7_1).f0) ((rd_T27 l0 x7_1).f1) ((rd_T27 l0 x7_1).f2) ((rd_T27 l0 x7_1).f3) ((rd_T27 l0 x7_1).f4) _ _ ((rd_T27 l0 x7_1).f5) true _ ?side1 ?side2 A5.out).mono ?_
            (case side1 => repeat (first | exact (Kd.C_below HR140_5.out HB.out) | (with_reducible refine Kd.C_alloc ?_ _) | (with_reducible refine Kd.C_drewN ?_ _) | (with_reducible refine Kd.C_drew ?_)))
            (case side2 => exact HC140_5.out)
            rintro e w28 ⟨rfl, hb⟩
            refine ⟨_, rfl, ?_⟩
            have n0_ := m_ (blk_below (g := gb141) (o := .cells #[.int .u32 ((rd_T27 l0 x7_1).f0), .int .u32 ((rd_T27 l0 x7_1).f1), .int .u32 ((rd_T27 l0 x7_1).f2), .int .i64 ((rd_T27 l0 x7_1).f3), .int .u32 ((rd_T27 l0 x7_1).f4), .slice A140_5 ((rd_T27 l0 x7_1).f5).length c140_5] 27 (0, 0)) (by (with_reducible repeat (first | refine bn_ ?_ _ | refine bd_ ?_ | refine ba_ ?_ _)); exact BK141.out) hb)
            have n1_ := m_ (below_step (by repeat (first | (with_reducible first | exact HB.out | apply pa_ | apply pn_ | apply pd_ | refine below_set ?_ GE141.out) | exact HB.out)) hb)
            clear BK141
            clear HB
            have BK141 := n0_
            have HB := n1_
            clear n0_ n1_
            (try clear hb)
            (try clear hb2)
            (try clear hk)
            (try clear hi)
            refine hK.out _ _ ⟨(bc_ BK141.out 0).trans rfl, (bc_ BK141.out 1).trans rfl, (bc_ BK141.out 2).trans rfl, (bc_ BK141.out 3).trans rfl, (bc_ BK141.out 4).trans rfl, (bc_ BK141.out 5).trans rfl, (kp_ HB.out hw143_0), (kp_ HB.out hw143_1), (kp_ HB.out hw143_2), (kp_ HB.out hw143_3), (kp_ HB.out hw143_4), (kp_ HB.out hw143_5), (kp_ HB.out hw150_0), (kp_ HB.out hw150_1), (kp_ HB.out hw150_2), (kp_ HB.out hw150_3), (kp_ HB.out hw150_4), (kp_ HB.out hw150_5)⟩ (fun hHeld => ?_)
            clear hK K
            refine norm_ (a' := ?_) ?_ ?_
            rotate_left
            ·show Act.put _ (some 13) _ = _
             simp only [Act.put, a1_, a2_, a3_, i64_w, i32_w]
             rfl
            refine pure_ (i := 2) (N := some 14) (v := ?_) (a' := ?_) (bs_ 29 7) rfl rfl (any_of HT_.out (by kernel_rfl)) (fun _ _ _ h => h) (Or.inl ⟨by rfl, ?_⟩) ?_ ?_
            rotate_left
            ·intro w'
             go_simp
             with_reducible rfl
            rotate_left
            ·simp only [Act.put, a1_, a2_, a3_, i64_w, i32_w]
             rfl
            refine pure_ (i := 3) (N := some 15) (v := ?_) (a' := ?_) (bs_ 29 15) rfl rfl (any_of HT_.out (by kernel_rfl)) (fun _ _ _ h => h) (Or.inl ⟨by rfl, ?_⟩) ?_ ?_
            rotate_left
            ·intro w'
             go_simp
             with_reducible rfl
            rotate_left
            ·simp only [Act.put, a1_, a2_, a3_, i64_w, i32_w]
             rfl
            refine pure_ (i := 4) (N := some 16) (v := ?_) (a' := ?_) (bs_ 29 31) rfl rfl (any_of HT_.out (by kernel_rfl)) (fun _ _ _ h => h) (Or.inl ⟨by rfl, ?_⟩) ?_ ?_
            rotate_left
            ·intro w'
             go_simp
             with_reducible rfl
            rotate_left
            ·simp only [Act.put, a1_, a2_, a3_, i64_w, i32_w]
             rfl
            refine pure_ (i := 5) (N := some 17) (v := ?_) (a' := ?_) (bs_ 29 63) rfl rfl (any_of HT_.out (by kernel_rfl)) (fun _ _ _ h => h) (Or.inl ⟨by rfl, ?_⟩) ?_ ?_
            rotate_left
            ·intro w'
             go_simp
             with_reducible rfl
            rotate_left
            ·simp only [Act.put, a1_, a2_, a3_, i64_w, i32_w]
             rfl
            refine pure_ (i := 6) (N := some 18) (v := ?_) (a' := ?_) (bs_ 29 127) rfl rfl (any_of HT_.out (by kernel_rfl)) (fun _ _ _ h => h) (Or.inl ⟨by rfl, ?_⟩) ?_ ?_
            rotate_left
            ·intro w'
             go_simp
             with_reducible rfl
            rotate_left
            ·simp only [Act.put, a1_, a2_, a3_, i64_w, i32_w]
             rfl
            refine pure_ (i := 7) (N := some 19) (v := ?_) (a' := ?_) (bs_ 29 255) rfl rfl (any_of HT_.out (by kernel_rfl)) (fun _ _ _ h => h) (Or.inl ⟨by rfl, ?_⟩) ?_ ?_
            rotate_left
            ·intro w'
             go_simp
             with_reducible rfl
            rotate_left
            ·simp only [Act.put, a1_, a2_, a3_, i64_w, i32_w]
             rfl
            refine pure_ (i := 8) (N := some 20) (v := ?_) (a' := ?_) (bs_ 29 511) rfl rfl (any_of HT_.out (by kernel_rfl)) (fun _ _ _ h => h) (Or.inl ⟨by rfl, ?_⟩) ?_ ?_
            rotate_left
            ·intro w'
             go_simp
             with_reducible rfl
            rotate_left
            ·simp only [Act.put, a1_, a2_, a3_, i64_w, i32_w]
             rfl
            refine pure_ (i := 9) (N := some 21) (v := ?_) (a' := ?_) (bs_ 29 1023) rfl rfl (any_of HT_.out (by kernel_rfl)) (fun _ _ _ h => h) (Or.inl ⟨by rfl, ?_⟩) ?_ ?_
            rotate_left
            ·intro w'
             go_simp
             with_reducible rfl
            rotate_left
            ·simp only [Act.put, a1_, a2_, a3_, i64_w, i32_w]
             rfl
            refine pure_ (i := 10) (N := some 22) (v := ?_) (a' := ?_) (bs_ 29 2047) rfl rfl (any_of HT_.out (by kernel_rfl)) (fun _ _ _ h => h) (Or.inl ⟨by rfl, ?_⟩) ?_ ?_
            rotate_left
            ·intro w'
             go_simp
             with_reducible rfl
            rotate_left
            ·simp only [Act.put, a1_, a2_, a3_, i64_w, i32_w]
             rfl
            refine take_ (i := 11) (N := some 23) (v := ?_) (a' := ?_) (bs_ 29 4095) rfl rfl (take_ofW HT_.out HW_.out (by kernel_rfl)) (fun _ _ _ h => h) (Or.inl ⟨by rfl, ?_⟩) hHeld ?_ ?_
            rotate_left
            ·rintro w' ⟨s0, s1, s2, s3, s4, s5, s6, s7, s8, s9, s10, s11, s12, s13, s14, s15, s16, s17⟩
             (try simp only [add_plain] at s0 s1 s2 s3 s4 s5 s6 s7 s8 s9 s10 s11 s12 s13 s14 s15 s16 s17)
             go_simp
             with_reducible rfl
            rotate_left
            ·simp only [Act.put, a1_, a2_, a3_, i64_w, i32_w]
             rfl
            refine take_ (i := 13) (N := some 25) (v := ?_) (a' := ?_) (bs_ 29 12287) rfl rfl (take_ofW HT_.out HW_.out (by kernel_rfl)) (fun _ _ _ h => h) (Or.inl ⟨by rfl, ?_⟩) hHeld ?_ ?_
            rotate_left
            ·rintro w' ⟨s0, s1, s2, s3, s4, s5, s6, s7, s8, s9, s10, s11, s12, s13, s14, s15, s16, s17⟩
             (try simp only [add_plain] at s0 s1 s2 s3 s4 s5 s6 s7 s8 s9 s10 s11 s12 s13 s14 s15 s16 s17)
             go_simp
             with_reducible rfl
            rotate_left
            ·simp only [Act.put, a1_, a2_, a3_, i64_w, i32_w]
             rfl
            refine one_ (i := 12) (N := some 24) (bs_ 29 16383) rfl rfl (one_of HT_.out (by kernel_rfl)) (by decide) (fun K hK => ?_)
            refine goes_ Try.func24 (by kernel_rfl) rfl #[.agg #[.int .u32 ((rd_T27 l0 (ji8)).f0), .int .u32 ((rd_T27 l0 (ji8)).f1), .int .u32 ((rd_T27 l0 (ji8)).f2), .int .i64 ((rd_T27 l0 (ji8)).f3), .int .u32 ((rd_T27 l0 (ji8)).f4), .slice A143_5 ((rd_T27 l0 (ji8)).f5).length c143_5]] (by rfl) rfl rfl (by (try simp only [List.map_toArray, List.map_cons, List.map_nil]); first | done | (simp only [hji8]; rfl) | rfl | (simp only [List.length_drop, List.length_take]; rfl)) ?_
            with_reducible refine (flow_of.calls ((rd_T27 l0 (ji8)).f0) ((rd_T27 l0 (ji8)).f1) ((rd_T27 l0 (ji8)).f2) ((rd_T27 l0 (ji8)).f3) ((rd_T27 l0 (ji8)).f4) _ _ ((rd_T27 l0 (ji8)).f5) t144 t145 t146 _ ?side1 ?side2 A11.out).mono ?_
            (case side1 => repeat (first | exact (Kd.C_below HR143_5.out HB.out) | (with_reducible refine Kd.C_alloc ?_ _) | (with_reducible refine Kd.C_drewN ?_ _) | (with_reducible refine Kd.C_drew ?_)))
            (case side2 => exact HC143_5.out)
            rintro e w29 ⟨rfl, hb⟩
            refine ⟨_, rfl, ?_⟩
            have n0_ := m_ (blk_below (g := gb141) (o := .cells #[.int .u32 ((rd_T27 l0 x7_1).f0), .int .u32 ((rd_T27 l0 x7_1).f1), .int .u32 ((rd_T27 l0 x7_1).f2), .int .i64 ((rd_T27 l0 x7_1).f3), .int .u32 ((rd_T27 l0 x7_1).f4), .slice A140_5 ((rd_T27 l0 x7_1).f5).length c140_5] 27 (0, 0)) (by (with_reducible repeat (first | refine bn_ ?_ _ | refine bd_ ?_ | refine ba_ ?_ _)); exact BK141.out) hb)
            have n1_ := m_ (below_step (by repeat (first | (with_reducible first | exact HB.out | apply pa_ | apply pn_ | apply pd_ | refine below_set ?_ GE141.out) | exact HB.out)) hb)
            clear BK141
            clear HB
            have BK141 := n0_
            have HB := n1_
            clear n0_ n1_
            (try clear hb)
            (try clear hb2)
            (try clear hk)
            (try clear hi)
            refine hK.out _ _ ⟨(bc_ BK141.out 0).trans rfl, (bc_ BK141.out 1).trans rfl, (bc_ BK141.out 2).trans rfl, (bc_ BK141.out 3).trans rfl, (bc_ BK141.out 4).trans rfl, (bc_ BK141.out 5).trans rfl, (kp_ HB.out hw143_0), (kp_ HB.out hw143_1), (kp_ HB.out hw143_2), (kp_ HB.out hw143_3), (kp_ HB.out hw143_4), (kp_ HB.out hw143_5), (kp_ HB.out hw150_0), (kp_ HB.out hw150_1), (kp_ HB.out hw150_2), (kp_ HB.out hw150_3), (kp_ HB.out hw150_4), (kp_ HB.out hw150_5)⟩ (fun hHeld => ?_)
            clear hK K
            refine norm_ (a' := ?_) ?_ ?_
            rotate_left
            ·show Act.put _ (some 24) _ = _
             simp only [Act.put, a1_, a2_, a3_, i64_w, i32_w]
             rfl
            refine one_ (i := 14) (N := some 26) (bs_ 29 32767) rfl rfl (one_of HT_.out (by kernel_rfl)) (by decide) (fun K hK => ?_)
            refine goes_ Try.func24 (by kernel_rfl) rfl #[.agg #[.int .u32 ((rd_T27 l0 x7_1).f0), .int .u32 ((rd_T27 l0 x7_1).f1), .int .u32 ((rd_T27 l0 x7_1).f2), .int .i64 ((rd_T27 l0 x7_1).f3), .int .u32 ((rd_T27 l0 x7_1).f4), .slice A140_5 ((rd_T27 l0 x7_1).f5).length c140_5]] (by rfl) rfl rfl (by (try simp only [List.map_toArray, List.map_cons, List.map_nil]); first | done | rfl | (simp only [List.length_drop, List.length_take]; rfl)) ?_
            with_reducible refine (flow_of.calls ((rd_T27 l0 x7_1).f0) ((rd_T27 l0 x7_1).f1) ((rd_T27 l0 x7_1).f2) ((rd_T27 l0 x7_1).f3) ((rd_T27 l0 x7_1).f4) _ _ ((rd_T27 l0 x7_1).f5) t147 t148 t149 _ ?side1 ?side2 A12.out).mono ?_
            (case side1 => repeat (first | exact (Kd.C_below HR140_5.out HB.out) | (with_reducible refine Kd.C_alloc ?_ _) | (with_reducible refine Kd.C_drewN ?_ _) | (with_reducible refine Kd.C_drew ?_)))
            (case side2 => exact HC140_5.out)
            rintro e w30 ⟨rfl, hb⟩
            refine ⟨_, rfl, ?_⟩
            have n0_ := m_ (blk_below (g := gb141) (o := .cells #[.int .u32 ((rd_T27 l0 x7_1).f0), .int .u32 ((rd_T27 l0 x7_1).f1), .int .u32 ((rd_T27 l0 x7_1).f2), .int .i64 ((rd_T27 l0 x7_1).f3), .int .u32 ((rd_T27 l0 x7_1).f4), .slice A140_5 ((rd_T27 l0 x7_1).f5).length c140_5] 27 (0, 0)) (by (with_reducible repeat (first | refine bn_ ?_ _ | refine bd_ ?_ | refine ba_ ?_ _)); exact BK141.out) hb)
            have n1_ := m_ (below_step (by repeat (first | (with_reducible first | exact HB.out | apply pa_ | apply pn_ | apply pd_ | refine below_set ?_ GE141.out) | exact HB.out)) hb)
            clear BK141
            clear HB
            have BK141 := n0_
            have HB := n1_
            clear n0_ n1_
            (try clear hb)
            (try clear hb2)
            (try clear hk)
            (try clear hi)
            refine hK.out _ _ ⟨(bc_ BK141.out 0).trans rfl, (bc_ BK141.out 1).trans rfl, (bc_ BK141.out 2).trans rfl, (bc_ BK141.out 3).trans rfl, (bc_ BK141.out 4).trans rfl, (bc_ BK141.out 5).trans rfl, (kp_ HB.out hw143_0), (kp_ HB.out hw143_1), (kp_ HB.out hw143_2), (kp_ HB.out hw143_3), (kp_ HB.out hw143_4), (kp_ HB.out hw143_5), (kp_ HB.out hw150_0), (kp_ HB.out hw150_1), (kp_ HB.out hw150_2), (kp_ HB.out hw150_3), (kp_ HB.out hw150_4), (kp_ HB.out hw150_5)⟩ (fun hHeld => ?_)
            clear hK K
            refine norm_ (a' := ?_) ?_ ?_
            rotate_left
            ·show Act.put _ (some 26) _ = _
             simp only [Act.put, a1_, a2_, a3_, i64_w, i32_w]
             rfl
            refine pure_ (i := 15) (N := some 27) (v := ?_) (a' := ?_) (bs_ 29 65535) rfl rfl (any_of HT_.out (by kernel_rfl)) (fun _ _ _ h => h) (Or.inl ⟨by rfl, ?_⟩) ?_ ?_
            rotate_left
            ·intro w'
             go_simp
             with_reducible rfl
            rotate_left
            ·simp only [Act.put, a1_, a2_, a3_, i64_w, i32_w]
             rfl
            refine pure_ (i := 16) (N := some 28) (v := ?_) (a' := ?_) (bs_ 29 131071) rfl rfl (any_of HT_.out (by kernel_rfl)) (fun _ _ _ h => h) (Or.inl ⟨by rfl, ?_⟩) ?_ ?_
            rotate_left
            ·intro w'
             go_simp
             with_reducible rfl
            rotate_left
            ·simp only [Act.put, a1_, a2_, a3_, i64_w, i32_w]
             rfl
            refine pure_ (i := 17) (N := some 29) (v := ?_) (a' := ?_) (bs_ 29 262143) rfl rfl (any_of HT_.out (by kernel_rfl)) (fun _ _ _ h => h) (Or.inl ⟨by rfl, ?_⟩) ?_ ?_
            rotate_left
            ·intro w'
             go_simp
             with_reducible rfl
            rotate_left
            ·simp only [Act.put, a1_, a2_, a3_, i64_w, i32_w]
             rfl
            refine pure_ (i := 18) (N := some 30) (v := ?_) (a' := ?_) (bs_ 29 524287) rfl rfl (any_of HT_.out (by kernel_rfl)) (fun _ _ _ h => h) (Or.inl ⟨by rfl, ?_⟩) ?_ ?_
            rotate_left
            ·intro w'
             go_simp
             with_reducible rfl
            rotate_left
            ·simp only [Act.put, a1_, a2_, a3_, i64_w, i32_w]
             rfl
            refine pure_ (i := 19) (N := some 31) (v := ?_) (a' := ?_) (bs_ 29 1048575) rfl rfl (any_of HT_.out (by kernel_rfl)) (fun _ _ _ h => h) (Or.inl ⟨by rfl, ?_⟩) ?_ ?_
            rotate_left
            ·intro w'
             go_simp
             with_reducible rfl
            rotate_left
            ·simp only [Act.put, a1_, a2_, a3_, i64_w, i32_w]
             rfl
            refine pure_ (i := 20) (N := some 32) (v := ?_) (a' := ?_) (bs_ 29 2097151) rfl rfl (any_of HT_.out (by kernel_rfl)) (fun _ _ _ h => h) (Or.inl ⟨by rfl, ?_⟩) ?_ ?_
            rotate_left
            ·intro w'
             go_simp
             with_reducible rfl
            rotate_left
            ·simp only [Act.put, a1_, a2_, a3_, i64_w, i32_w]
             rfl
            refine take_ (i := 21) (N := some 33) (v := ?_) (a' := ?_) (bs_ 29 4194303) rfl rfl (take_ofW HT_.out HW_.out (by kernel_rfl)) (fun _ _ _ h => h) (Or.inl ⟨by rfl, ?_⟩) hHeld ?_ ?_
            rotate_left
            ·rintro w' ⟨s0, s1, s2, s3, s4, s5, s6, s7, s8, s9, s10, s11, s12, s13, s14, s15, s16, s17⟩
             (try simp only [add_plain] at s0 s1 s2 s3 s4 s5 s6 s7 s8 s9 s10 s11 s12 s13 s14 s15 s16 s17)
             go_simp
             with_reducible rfl
            rotate_left
            ·simp only [Act.put, a1_, a2_, a3_, i64_w, i32_w]
             rfl
            refine take_ (i := 22) (N := some 34) (v := ?_) (a' := ?_) (bs_ 29 8388607) rfl rfl (take_ofW HT_.out HW_.out (by kernel_rfl)) (fun _ _ _ h => h) (Or.inl ⟨by rfl, ?_⟩) hHeld ?_ ?_
            rotate_left
            ·rintro w' ⟨s0, s1, s2, s3, s4, s5, s6, s7, s8, s9, s10, s11, s12, s13, s14, s15, s16, s17⟩
             (try simp only [add_plain] at s0 s1 s2 s3 s4 s5 s6 s7 s8 s9 s10 s11 s12 s13 s14 s15 s16 s17)
             go_simp
             with_reducible rfl
            rotate_left
            ·simp only [Act.put, a1_, a2_, a3_, i64_w, i32_w]
             rfl
            refine one_ (i := 23) (N := some 35) (bs_ 29 16777215) rfl rfl (one_of HT_.out (by kernel_rfl)) (by decide) (fun K hK => ?_)
            refine goes_ Try.func24 (by kernel_rfl) rfl #[.agg #[.int .u32 ((rd_T27 l0 x7_1).f0), .int .u32 ((rd_T27 l0 x7_1).f1), .int .u32 ((rd_T27 l0 x7_1).f2), .int .i64 ((rd_T27 l0 x7_1).f3), .int .u32 ((rd_T27 l0 x7_1).f4), .slice A140_5 ((rd_T27 l0 x7_1).f5).length c140_5]] (by rfl) rfl rfl (by (try simp only [List.map_toArray, List.map_cons, List.map_nil]); first | done | rfl | (simp only [List.length_drop, List.length_take]; rfl)) ?_
            with_reducible refine (flow_of.calls ((rd_T27 l0 x7_1).f0) ((rd_T27 l0 x7_1).f1) ((rd_T27 l0 x7_1).f2) ((rd_T27 l0 x7_1).f3) ((rd_T27 l0 x7_1).f4) _ _ ((rd_T27 l0 x7_1).f5) t147 t148 t149 _ ?side1 ?side2 A21.out).mono ?_
            (case side1 => repeat (first | exact (Kd.C_below HR140_5.out HB.out) | (with_reducible refine Kd.C_alloc ?_ _) | (with_reducible refine Kd.C_drewN ?_ _) | (with_reducible refine Kd.C_drew ?_)))
            (case side2 => exact HC140_5.out)
            rintro e w31 ⟨rfl, hb⟩
            refine ⟨_, rfl, ?_⟩
            have n0_ := m_ (blk_below (g := gb141) (o := .cells #[.int .u32 ((rd_T27 l0 x7_1).f0), .int .u32 ((rd_T27 l0 x7_1).f1), .int .u32 ((rd_T27 l0 x7_1).f2), .int .i64 ((rd_T27 l0 x7_1).f3), .int .u32 ((rd_T27 l0 x7_1).f4), .slice A140_5 ((rd_T27 l0 x7_1).f5).length c140_5] 27 (0, 0)) (by (with_reducible repeat (first | refine bn_ ?_ _ | refine bd_ ?_ | refine ba_ ?_ _)); exact BK141.out) hb)
            have n1_ := m_ (below_step (by repeat (first | (with_reducible first | exact HB.out | apply pa_ | apply pn_ | apply pd_ | refine below_set ?_ GE141.out) | exact HB.out)) hb)
            clear BK141
            clear HB
            have BK141 := n0_
            have HB := n1_
            clear n0_ n1_
            (try clear hb)
            (try clear hb2)
            (try clear hk)
            (try clear hi)
            refine hK.out _ _ ⟨(bc_ BK141.out 0).trans rfl, (bc_ BK141.out 1).trans rfl, (bc_ BK141.out 2).trans rfl, (bc_ BK141.out 3).trans rfl, (bc_ BK141.out 4).trans rfl, (bc_ BK141.out 5).trans rfl, (kp_ HB.out hw143_0), (kp_ HB.out hw143_1), (kp_ HB.out hw143_2), (kp_ HB.out hw143_3), (kp_ HB.out hw143_4), (kp_ HB.out hw143_5), (kp_ HB.out hw150_0), (kp_ HB.out hw150_1), (kp_ HB.out hw150_2), (kp_ HB.out hw150_3), (kp_ HB.out hw150_4), (kp_ HB.out hw150_5)⟩ (fun hHeld => ?_)
            clear hK K
            refine norm_ (a' := ?_) ?_ ?_
            rotate_left
            ·show Act.put _ (some 35) _ = _
             simp only [Act.put, a1_, a2_, a3_, i64_w, i32_w]
             rfl
            refine one_ (i := 24) (N := some 36) (bs_ 29 33554431) rfl rfl (one_of HT_.out (by kernel_rfl)) (by decide) (fun K hK => ?_)
            refine goes_ Try.func31 (by kernel_rfl) rfl #[.agg #[.int .u32 ((rd_T27 l0 (ji8)).f0), .int .u32 ((rd_T27 l0 (ji8)).f1), .int .u32 ((rd_T27 l0 (ji8)).f2), .int .i64 ((rd_T27 l0 (ji8)).f3), .int .u32 ((rd_T27 l0 (ji8)).f4), .slice A143_5 ((rd_T27 l0 (ji8)).f5).length c143_5], .agg #[.int .u32 t147, .int .u32 t148, .int .u32 t149]] (by rfl) rfl rfl (by (try simp only [List.map_toArray, List.map_cons, List.map_nil]); first | done | (simp only [hji8]; rfl) | rfl | (simp only [List.length_drop, List.length_take]; rfl)) ?_
            with_reducible refine (flow_order.calls k1 ((rd_T27 l0 (ji8)).f0) ((rd_T27 l0 (ji8)).f1) ((rd_T27 l0 (ji8)).f2) ((rd_T27 l0 (ji8)).f3) ((rd_T27 l0 (ji8)).f4) _ _ ((rd_T27 l0 (ji8)).f5) t147 t148 t149 t154 _ ?side1 ?side2 A22.out).mono ?_
            (case side1 => repeat (first | exact (Kd.C_below HR150_5.out HB.out) | (with_reducible refine Kd.C_alloc ?_ _) | (with_reducible refine Kd.C_drewN ?_ _) | (with_reducible refine Kd.C_drew ?_)))
            (case side2 => exact HC150_5.out)
            rintro e w32 ⟨rfl, hb⟩
            refine ⟨_, rfl, ?_⟩
            have n0_ := m_ (blk_below (g := gb141) (o := .cells #[.int .u32 ((rd_T27 l0 x7_1).f0), .int .u32 ((rd_T27 l0 x7_1).f1), .int .u32 ((rd_T27 l0 x7_1).f2), .int .i64 ((rd_T27 l0 x7_1).f3), .int .u32 ((rd_T27 l0 x7_1).f4), .slice A140_5 ((rd_T27 l0 x7_1).f5).length c140_5] 27 (0, 0)) (by (with_reducible repeat (first | refine bn_ ?_ _ | refine bd_ ?_ | refine ba_ ?_ _)); exact BK141.out) hb)
            have n1_ := m_ (below_step (by repeat (first | (with_reducible first | exact HB.out | apply pa_ | apply pn_ | apply pd_ | refine below_set ?_ GE141.out) | exact HB.out)) hb)
            clear BK141
            clear HB
            have BK141 := n0_
            have HB := n1_
            clear n0_ n1_
            (try clear hb)
            (try clear hb2)
            (try clear hk)
            (try clear hi)
            refine hK.out _ _ ⟨(bc_ BK141.out 0).trans rfl, (bc_ BK141.out 1).trans rfl, (bc_ BK141.out 2).trans rfl, (bc_ BK141.out 3).trans rfl, (bc_ BK141.out 4).trans rfl, (bc_ BK141.out 5).trans rfl, (kp_ HB.out hw143_0), (kp_ HB.out hw143_1), (kp_ HB.out hw143_2), (kp_ HB.out hw143_3), (kp_ HB.out hw143_4), (kp_ HB.out hw143_5), (kp_ HB.out hw150_0), (kp_ HB.out hw150_1), (kp_ HB.out hw150_2), (kp_ HB.out hw150_3), (kp_ HB.out hw150_4), (kp_ HB.out hw150_5)⟩ (fun hHeld => ?_)
            clear hK K
            refine norm_ (a' := ?_) ?_ ?_
            rotate_left
            ·show Act.put _ (some 36) _ = _
             simp only [Act.put, a1_, a2_, a3_, i64_w, i32_w]
             rfl
            refine pure_ (i := 25) (N := some 37) (v := ?_) (a' := ?_) (bs_ 29 67108863) rfl rfl (any_of HT_.out (by kernel_rfl)) (fun _ _ _ h => h) (Or.inl ⟨by rfl, ?_⟩) ?_ ?_
            rotate_left
            ·intro w'
             go_simp
             with_reducible rfl
            rotate_left
            ·simp only [Act.put, a1_, a2_, a3_, i64_w, i32_w]
             rfl
            refine pure_ (i := 26) (N := some 38) (v := ?_) (a' := ?_) (bs_ 29 134217727) rfl rfl (any_of HT_.out (by kernel_rfl)) (fun _ _ _ h => h) (Or.inl ⟨by rfl, ?_⟩) ?_ ?_
            rotate_left
            ·intro w'
             go_simp
             with_reducible rfl
            rotate_left
            ·simp only [Act.put, a1_, a2_, a3_, i64_w, i32_w]
             rfl
            refine pure_ (i := 27) (N := some 39) (v := ?_) (a' := ?_) (bs_ 29 268435455) rfl rfl (any_of HT_.out (by kernel_rfl)) (fun _ _ _ h => h) (Or.inl ⟨by rfl, ?_⟩) ?_ ?_
            rotate_left
            ·intro w'
             go_simp
             with_reducible rfl
            rotate_left
            ·simp only [Act.put, a1_, a2_, a3_, i64_w, i32_w]
             rfl
            refine pure_ (i := 28) (N := some 40) (v := ?_) (a' := ?_) (bs_ 29 536870911) rfl rfl (any_of HT_.out (by kernel_rfl)) (fun _ _ _ h => h) (Or.inl ⟨by rfl, ?_⟩) ?_ ?_
            rotate_left
            ·intro w'
             go_simp
             with_reducible rfl
            rotate_left
            ·simp only [Act.put, a1_, a2_, a3_, i64_w, i32_w]
             rfl
            refine done_ (done_of HT_.out (by kernel_rfl)) ?_
            try go_wp2
            go_ret
            exact ⟨by first | rfl | (simp [errW_none, errW_some] <;> rfl) | (simp only [← hji8]; first | rfl | (simp [errW_none, errW_some] <;> rfl)) | (simp [*, errW_none, errW_some] <;> rfl), by repeat (first | (with_reducible first | exact HB.out | apply pa_ | apply pn_ | apply pd_ | refine below_set ?_ GE141.out) | exact HB.out)⟩
           ·rw [if_neg c23] at H
            have c23b0 : decide (0 < t154) = false := decide_eq_false c23
            clear c23
            have H' := m_ H
            clear H
            have p140 : 0 ≤ (x7_1 : Int) := of_decide_eq_true (by first | (with_reducible assumption) | assumption)
            have q140 : x7_1 < (l0.length : Int) := of_decide_eq_true (by first | (with_reducible assumption) | assumption)
            obtain ⟨ad140, A140_5, c140_5, e140, hx140_0, hx140_1, hx140_2, hx140_3, hx140_4, hx140_5, hl140_5, hi140_5⟩ := at_T27 HR0.out x7_1 p140 q140
            cases e140
            replace hx140_0 := kp_ HB.out hx140_0
            replace hx140_1 := kp_ HB.out hx140_1
            replace hx140_2 := kp_ HB.out hx140_2
            replace hx140_3 := kp_ HB.out hx140_3
            replace hx140_4 := kp_ HB.out hx140_4
            replace hx140_5 := kp_ HB.out hx140_5
            have HR140_5 := m_ hi140_5
            have HC140_5 := m_ hl140_5
            clear hi140_5 hl140_5
            replace p140 := eq_true p140
            replace q140 := eq_true q140
            try go_wp2_with (first | ((with_reducible refine gate_dst (N := 4) rfl ?_); refine box_event ?hg (N := 4) ?hd (cs := #[.int .u32 0, .int .u32 0, .int .u32 0, .int .i64 0, .int .u32 0, .slice none 0 0]) (t := 27) ?hr ?_; (case hd => rfl); (case hg => rfl); (case hr => first | (go_simp; done) | (go_simp; rfl)); intro gb141 hg w33 hbox hb; have n0_ := m_ (below_step (by repeat (first | (with_reducible first | exact HB.out | apply pa_ | apply pn_ | apply pd_) | exact HB.out)) hb); have n1_ := m_ (hbox); have n2_ := m_ ((by rw [hg]; exact (below_size (by repeat (first | (with_reducible first | exact HB.out | apply pa_ | apply pn_ | apply pd_) | exact HB.out))) : w.heap.size ≤ gb141)); have n3_ := m_ ((by rw [hg]; exact (below_size (by repeat (first | (with_reducible first | exact HB.out | apply pa_ | apply pn_ | apply pd_) | exact HB.out))) : w.heap.size ≤ gb141)); clear HB; have HB := n0_; have BK141 := n1_; have GW141 := n2_; have GE141 := n3_; clear n0_ n1_ n2_ n3_; clear hb hbox hg; have hcz34_0 : w33.cell? ⟨gb141, 0, none⟩ = some (.int .u32 0) := (bc_ BK141.out 0).trans rfl; have hcz34_1 : w33.cell? ⟨gb141, 1, none⟩ = some (.int .u32 0) := (bc_ BK141.out 1).trans rfl; have hcz34_2 : w33.cell? ⟨gb141, 2, none⟩ = some (.int .u32 0) := (bc_ BK141.out 2).trans rfl; have hcz34_3 : w33.cell? ⟨gb141, 3, none⟩ = some (.int .i64 0) := (bc_ BK141.out 3).trans rfl; have hcz34_4 : w33.cell? ⟨gb141, 4, none⟩ = some (.int .u32 0) := (bc_ BK141.out 4).trans rfl; have hcz34_5 : w33.cell? ⟨gb141, 5, none⟩ = some (.slice none 0 0) := (bc_ BK141.out 5).trans rfl; have hfz34_0 := bf_ BK141.out 0; have hfz34_1 := bf_ BK141.out 1; have hfz34_2 := bf_ BK141.out 2; have hfz34_3 := bf_ BK141.out 3; have hfz34_4 := bf_ BK141.out 4; have hfz34_5 := bf_ BK141.out 5))
            have n0_ : Aside0 (((((((w33.setCell ⟨gb141, 0, none⟩ (.int .u32 ((rd_T27 l0 x7_1).f0))).setCell ⟨gb141, 1, none⟩ (.int .u32 ((rd_T27 l0 x7_1).f1))).setCell ⟨gb141, 2, none⟩ (.int .u32 ((rd_T27 l0 x7_1).f2))).setCell ⟨gb141, 3, none⟩ (.int .i64 ((rd_T27 l0 x7_1).f3))).setCell ⟨gb141, 4, none⟩ (.int .u32 ((rd_T27 l0 x7_1).f4))).setCell ⟨gb141, 5, none⟩ (.slice A140_5 ((rd_T27 l0 x7_1).f5).length c140_5)).heap[gb141]? = some (.cells #[.int .u32 ((rd_T27 l0 x7_1).f0), .int .u32 ((rd_T27 l0 x7_1).f1), .int .u32 ((rd_T27 l0 x7_1).f2), .int .i64 ((rd_T27 l0 x7_1).f3), .int .u32 ((rd_T27 l0 x7_1).f4), .slice A140_5 ((rd_T27 l0 x7_1).f5).length c140_5] 27 (0, 0))) := ⟨by (with_reducible repeat (first | refine bn_ ?_ _ | refine bd_ ?_ | refine ba_ ?_ _)); refine blk_put (cs := #[.int .u32 ((rd_T27 l0 x7_1).f0), .int .u32 ((rd_T27 l0 x7_1).f1), .int .u32 ((rd_T27 l0 x7_1).f2), .int .i64 ((rd_T27 l0 x7_1).f3), .int .u32 ((rd_T27 l0 x7_1).f4), .slice none 0 0]) ?_ 5 _ rfl; (with_reducible repeat (first | refine bn_ ?_ _ | refine bd_ ?_ | refine ba_ ?_ _)); refine blk_put (cs := #[.int .u32 ((rd_T27 l0 x7_1).f0), .int .u32 ((rd_T27 l0 x7_1).f1), .int .u32 ((rd_T27 l0 x7_1).f2), .int .i64 ((rd_T27 l0 x7_1).f3), .int .u32 0, .slice none 0 0]) ?_ 4 _ rfl; (with_reducible repeat (first | refine bn_ ?_ _ | refine bd_ ?_ | refine ba_ ?_ _)); refine blk_put (cs := #[.int .u32 ((rd_T27 l0 x7_1).f0), .int .u32 ((rd_T27 l0 x7_1).f1), .int .u32 ((rd_T27 l0 x7_1).f2), .int .i64 0, .int .u32 0, .slice none 0 0]) ?_ 3 _ rfl; (with_reducible repeat (first | refine bn_ ?_ _ | refine bd_ ?_ | refine ba_ ?_ _)); refine blk_put (cs := #[.int .u32 ((rd_T27 l0 x7_1).f0), .int .u32 ((rd_T27 l0 x7_1).f1), .int .u32 0, .int .i64 0, .int .u32 0, .slice none 0 0]) ?_ 2 _ rfl; (with_reducible repeat (first | refine bn_ ?_ _ | refine bd_ ?_ | refine ba_ ?_ _)); refine blk_put (cs := #[.int .u32 ((rd_T27 l0 x7_1).f0), .int .u32 0, .int .u32 0, .int .i64 0, .int .u32 0, .slice none 0 0]) ?_ 1 _ rfl; (with_reducible repeat (first | refine bn_ ?_ _ | refine bd_ ?_ | refine ba_ ?_ _)); refine blk_put (cs := #[.int .u32 0, .int .u32 0, .int .u32 0, .int .i64 0, .int .u32 0, .slice none 0 0]) ?_ 0 _ rfl; (with_reducible repeat (first | refine bn_ ?_ _ | refine bd_ ?_ | refine ba_ ?_ _)); exact BK141.out⟩
            have n1_ : Aside0 (Below w.heap.size w ((((((w33.setCell ⟨gb141, 0, none⟩ (.int .u32 ((rd_T27 l0 x7_1).f0))).setCell ⟨gb141, 1, none⟩ (.int .u32 ((rd_T27 l0 x7_1).f1))).setCell ⟨gb141, 2, none⟩ (.int .u32 ((rd_T27 l0 x7_1).f2))).setCell ⟨gb141, 3, none⟩ (.int .i64 ((rd_T27 l0 x7_1).f3))).setCell ⟨gb141, 4, none⟩ (.int .u32 ((rd_T27 l0 x7_1).f4))).setCell ⟨gb141, 5, none⟩ (.slice A140_5 ((rd_T27 l0 x7_1).f5).length c140_5))) := ⟨by repeat (first | (with_reducible first | exact HB.out | apply pa_ | apply pn_ | apply pd_ | refine below_set ?_ GE141.out) | exact HB.out)⟩
            (try clear BK141)
            (try clear HB)
            generalize ((((((w33.setCell ⟨gb141, 0, none⟩ (.int .u32 ((rd_T27 l0 x7_1).f0))).setCell ⟨gb141, 1, none⟩ (.int .u32 ((rd_T27 l0 x7_1).f1))).setCell ⟨gb141, 2, none⟩ (.int .u32 ((rd_T27 l0 x7_1).f2))).setCell ⟨gb141, 3, none⟩ (.int .i64 ((rd_T27 l0 x7_1).f3))).setCell ⟨gb141, 4, none⟩ (.int .u32 ((rd_T27 l0 x7_1).f4))).setCell ⟨gb141, 5, none⟩ (.slice A140_5 ((rd_T27 l0 x7_1).f5).length c140_5)) = w35 at n0_ n1_ ⊢
            have BK141 := n0_
            have HB := n1_
            clear n0_ n1_
            have n0_ := m_ (bd_ BK141.out)
            have n1_ := m_ (pd_ HB.out)
            clear BK141
            clear HB
            have BK141 := n0_
            have HB := n1_
            clear n0_ n1_
            have p143 : 0 ≤ ((ji8) : Int) := of_decide_eq_true (by first | (with_reducible assumption) | assumption)
            have q143 : (ji8) < (l0.length : Int) := of_decide_eq_true (by first | (with_reducible assumption) | assumption)
            obtain ⟨ad143, A143_5, c143_5, e143, hx143_0, hx143_1, hx143_2, hx143_3, hx143_4, hx143_5, hl143_5, hi143_5⟩ := at_T27 HR0.out (ji8) p143 q143
            have hw143_5 := hx143_5
            have hw143_4 := hx143_4
            have hw143_3 := hx143_3
            have hw143_2 := hx143_2
            have hw143_1 := hx143_1
            have hw143_0 := hx143_0
            obtain rfl : ad140 = ad143 := (by injection e143)
            replace hx143_0 := kp_ HB.out hx143_0
            replace hx143_1 := kp_ HB.out hx143_1
            replace hx143_2 := kp_ HB.out hx143_2
            replace hx143_3 := kp_ HB.out hx143_3
            replace hx143_4 := kp_ HB.out hx143_4
            replace hx143_5 := kp_ HB.out hx143_5
            have HR143_5 := m_ hi143_5
            have HC143_5 := m_ hl143_5
            clear hi143_5 hl143_5
            replace p143 := eq_true p143
            replace q143 := eq_true q143
            have p150 : 0 ≤ ((ji8) : Int) := of_decide_eq_true (by first | (with_reducible assumption) | assumption)
            have q150 : (ji8) < (l0.length : Int) := of_decide_eq_true (by first | (with_reducible assumption) | assumption)
            obtain ⟨ad150, A150_5, c150_5, e150, hx150_0, hx150_1, hx150_2, hx150_3, hx150_4, hx150_5, hl150_5, hi150_5⟩ := at_T27 HR0.out (ji8) p150 q150
            have hw150_5 := hx150_5
            have hw150_4 := hx150_4
            have hw150_3 := hx150_3
            have hw150_2 := hx150_2
            have hw150_1 := hx150_1
            have hw150_0 := hx150_0
            obtain rfl : ad140 = ad150 := (by injection e150)
            obtain ⟨ez1_, ez2_⟩ : A143_5 = A150_5 ∧ c143_5 = c150_5 := (by first | (have z_ := Option.some.inj (hw143_5.symm.trans hx150_5); injection z_ with z1_ z2_ z3_; exact ⟨z1_, z3_⟩) | (have z_ := Option.some.inj (hx143_5.symm.trans hx150_5); injection z_ with z1_ z2_ z3_; exact ⟨z1_, z3_⟩))
            subst ez1_
            subst ez2_
            replace hx150_0 := kp_ HB.out hx150_0
            replace hx150_1 := kp_ HB.out hx150_1
            replace hx150_2 := kp_ HB.out hx150_2
            replace hx150_3 := kp_ HB.out hx150_3
            replace hx150_4 := kp_ HB.out hx150_4
            replace hx150_5 := kp_ HB.out hx150_5
            have HR150_5 := m_ hi150_5
            have HC150_5 := m_ hl150_5
            clear hi150_5 hl150_5
            replace p150 := eq_true p150
            replace q150 := eq_true q150
            refine start_ (n := 29) (S := fun w' => w'.cell? ⟨gb141, 0, none⟩ = some (.int .u32 ((rd_T27 l0 x7_1).f0)) ∧ w'.cell? ⟨gb141, 1, none⟩ = some (.int .u32 ((rd_T27 l0 x7_1).f1)) ∧ w'.cell? ⟨gb141, 2, none⟩ = some (.int .u32 ((rd_T27 l0 x7_1).f2)) ∧ w'.cell? ⟨gb141, 3, none⟩ = some (.int .i64 ((rd_T27 l0 x7_1).f3)) ∧ w'.cell? ⟨gb141, 4, none⟩ = some (.int .u32 ((rd_T27 l0 x7_1).f4)) ∧ w'.cell? ⟨gb141, 5, none⟩ = some (.slice A140_5 ((rd_T27 l0 x7_1).f5).length c140_5) ∧ w'.cell? (ad140.add (((ji8)).toNat * 6)) = some (.int .u32 ((rd_T27 l0 (ji8)).f0)) ∧ w'.cell? ⟨(ad140.add (((ji8)).toNat * 6)).block, (ad140.add (((ji8)).toNat * 6)).off + 1, none⟩ = some (.int .u32 ((rd_T27 l0 (ji8)).f1)) ∧ w'.cell? ⟨(ad140.add (((ji8)).toNat * 6)).block, (ad140.add (((ji8)).toNat * 6)).off + 2, none⟩ = some (.int .u32 ((rd_T27 l0 (ji8)).f2)) ∧ w'.cell? ⟨(ad140.add (((ji8)).toNat * 6)).block, (ad140.add (((ji8)).toNat * 6)).off + 3, none⟩ = some (.int .i64 ((rd_T27 l0 (ji8)).f3)) ∧ w'.cell? ⟨(ad140.add (((ji8)).toNat * 6)).block, (ad140.add (((ji8)).toNat * 6)).off + 4, none⟩ = some (.int .u32 ((rd_T27 l0 (ji8)).f4)) ∧ w'.cell? ⟨(ad140.add (((ji8)).toNat * 6)).block, (ad140.add (((ji8)).toNat * 6)).off + 5, none⟩ = some (.slice A143_5 ((rd_T27 l0 (ji8)).f5).length c143_5) ∧ w'.cell? (ad140.add (((ji8)).toNat * 6)) = some (.int .u32 ((rd_T27 l0 (ji8)).f0)) ∧ w'.cell? ⟨(ad140.add (((ji8)).toNat * 6)).block, (ad140.add (((ji8)).toNat * 6)).off + 1, none⟩ = some (.int .u32 ((rd_T27 l0 (ji8)).f1)) ∧ w'.cell? ⟨(ad140.add (((ji8)).toNat * 6)).block, (ad140.add (((ji8)).toNat * 6)).off + 2, none⟩ = some (.int .u32 ((rd_T27 l0 (ji8)).f2)) ∧ w'.cell? ⟨(ad140.add (((ji8)).toNat * 6)).block, (ad140.add (((ji8)).toNat * 6)).off + 3, none⟩ = some (.int .i64 ((rd_T27 l0 (ji8)).f3)) ∧ w'.cell? ⟨(ad140.add (((ji8)).toNat * 6)).block, (ad140.add (((ji8)).toNat * 6)).off + 4, none⟩ = some (.int .u32 ((rd_T27 l0 (ji8)).f4)) ∧ w'.cell? ⟨(ad140.add (((ji8)).toNat * 6)).block, (ad140.add (((ji8)).toNat * 6)).off + 5, none⟩ = some (.slice A143_5 ((rd_T27 l0 (ji8)).f5).length c143_5)) (ds := []) (bs_ 29 0) (by kernel_rfl) rfl rfl ⟨(bc_ BK141.out 0).trans rfl, (bc_ BK141.out 1).trans rfl, (bc_ BK141.out 2).trans rfl, (bc_ BK141.out 3).trans rfl, (bc_ BK141.out 4).trans rfl, (bc_ BK141.out 5).trans rfl, (kp_ HB.out hw143_0), (kp_ HB.out hw143_1), (kp_ HB.out hw143_2), (kp_ HB.out hw143_3), (kp_ HB.out hw143_4), (kp_ HB.out hw143_5), (kp_ HB.out hw150_0), (kp_ HB.out hw150_1), (kp_ HB.out hw150_2), (kp_ HB.out hw150_3), (kp_ HB.out hw150_4), (kp_ HB.out hw150_5)⟩ (fun hHeld => ?_); refine with_tabW flow_Table.tab4 flow_Table.bits4 (fun HT_ HW_ => ?_)
            generalize w35.drew = w36 at BK141 HB HR143_5 HR150_5 hx143_0 hx143_1 hx143_2 hx143_3 hx143_4 hx143_5 hx150_0 hx150_1 hx150_2 hx150_3 hx150_4 hx150_5 hHeld ⊢
            refine take_ (i := 0) (N := some 12) (v := ?_) (a' := ?_) (bs_ 29 1) rfl rfl (take_ofW HT_.out HW_.out (by kernel_rfl)) (fun _ _ _ h => h) (Or.inl ⟨by rfl, ?_⟩) hHeld ?_ ?_
            rotate_left
            ·rintro w' ⟨s0, s1, s2, s3, s4, s5, s6, s7, s8, s9, s10, s11, s12, s13, s14, s15, s16, s17⟩
             (try simp only [add_plain] at s0 s1 s2 s3 s4 s5 s6 s7 s8 s9 s10 s11 s12 s13 s14 s15 s16 s17)
             go_simp
             with_reducible rfl
            rotate_left
            ·simp only [Act.put, a1_, a2_, a3_, i64_w, i32_w]
             rfl
            refine one_ (i := 1) (N := some 13) (bs_ 29 3) rfl rfl (one_of HT_.out (by kernel_rfl)) (by decide) (fun K hK => ?_)
            refine goes_ Try.func16 (by kernel_rfl) rfl #[.agg #[.int .u32 ((rd_T27 l0 x7_1).f0), .int .u32 ((rd_T27 l0 x7_1).f1), .int .u32 ((rd_T27 l0 x7_1).f2), .int .i64 ((rd_T27 l0 x7_1).f3), .int .u32 ((rd_T27 l0 x7_1).f4), .slice A140_5 ((rd_T27 l0 x7_1).f5).length c140_5]] (by rfl) rfl rfl (by (try simp only [List.map_toArray, List.map_cons, List.map_nil]); first | done | rfl | (simp only [List.length_drop, List.length_take]; rfl)) ?_
            with_reducible refine (flow_Right.calls k1 ((rd_T27 l0 x7_1).f0) ((rd_T27 l0 x7_1).f1) ((rd_T27 l0 x7_1).f2) ((rd_T27 l0 x7_1).f3) ((rd_T27 l0 x7_1).f4) _ _ ((rd_T27 l0 x7_1).f5) true _ ?side1 ?side2 A5.out).mono ?_
            (case side1 => repeat (first | exact (Kd.C_below HR140_5.out HB.out) | (with_reducible refine Kd.C_alloc ?_ _) | (with_reducible refine Kd.C_drewN ?_ _) | (with_reducible refine Kd.C_drew ?_)))
            (case side2 => exact HC140_5.out)
            rintro e w37 ⟨rfl, hb⟩
            refine ⟨_, rfl, ?_⟩
            have n0_ := m_ (blk_below (g := gb141) (o := .cells #[.int .u32 ((rd_T27 l0 x7_1).f0), .int .u32 ((rd_T27 l0 x7_1).f1), .int .u32 ((rd_T27 l0 x7_1).f2), .int .i64 ((rd_T27 l0 x7_1).f3), .int .u32 ((rd_T27 l0 x7_1).f4), .slice A140_5 ((rd_T27 l0 x7_1).f5).length c140_5] 27 (0, 0)) (by (with_reducible repeat (first | refine bn_ ?_ _ | refine bd_ ?_ | refine ba_ ?_ _)); exact BK141.out) hb)
            have n1_ := m_ (below_step (by repeat (first | (with_reducible first | exact HB.out | apply pa_ | apply pn_ | apply pd_ | refine below_set ?_ GE141.out) | exact HB.out)) hb)
            clear BK141
            clear HB
            have BK141 := n0_
            have HB := n1_
            clear n0_ n1_
            (try clear hb)
            (try clear hb2)
            (try clear hk)
            (try clear hi)
            refine hK.out _ _ ⟨(bc_ BK141.out 0).trans rfl, (bc_ BK141.out 1).trans rfl, (bc_ BK141.out 2).trans rfl, (bc_ BK141.out 3).trans rfl, (bc_ BK141.out 4).trans rfl, (bc_ BK141.out 5).trans rfl, (kp_ HB.out hw143_0), (kp_ HB.out hw143_1), (kp_ HB.out hw143_2), (kp_ HB.out hw143_3), (kp_ HB.out hw143_4), (kp_ HB.out hw143_5), (kp_ HB.out hw150_0), (kp_ HB.out hw150_1), (kp_ HB.out hw150_2), (kp_ HB.out hw150_3), (kp_ HB.out hw150_4), (kp_ HB.out hw150_5)⟩ (fun hHeld => ?_)
            clear hK K
            refine norm_ (a' := ?_) ?_ ?_
            rotate_left
            ·show Act.put _ (some 13) _ = _
             simp only [Act.put, a1_, a2_, a3_, i64_w, i32_w]
             rfl
            refine pure_ (i := 2) (N := some 14) (v := ?_) (a' := ?_) (bs_ 29 7) rfl rfl (any_of HT_.out (by kernel_rfl)) (fun _ _ _ h => h) (Or.inl ⟨by rfl, ?_⟩) ?_ ?_
            rotate_left
            ·intro w'
             go_simp
             with_reducible rfl
            rotate_left
            ·simp only [Act.put, a1_, a2_, a3_, i64_w, i32_w]
             rfl
            refine pure_ (i := 3) (N := some 15) (v := ?_) (a' := ?_) (bs_ 29 15) rfl rfl (any_of HT_.out (by kernel_rfl)) (fun _ _ _ h => h) (Or.inl ⟨by rfl, ?_⟩) ?_ ?_
            rotate_left
            ·intro w'
             go_simp
             with_reducible rfl
            rotate_left
            ·simp only [Act.put, a1_, a2_, a3_, i64_w, i32_w]
             rfl
            refine pure_ (i := 4) (N := some 16) (v := ?_) (a' := ?_) (bs_ 29 31) rfl rfl (any_of HT_.out (by kernel_rfl)) (fun _ _ _ h => h) (Or.inl ⟨by rfl, ?_⟩) ?_ ?_
            rotate_left
            ·intro w'
             go_simp
             with_reducible rfl
            rotate_left
            ·simp only [Act.put, a1_, a2_, a3_, i64_w, i32_w]
             rfl
            refine pure_ (i := 5) (N := some 17) (v := ?_) (a' := ?_) (bs_ 29 63) rfl rfl (any_of HT_.out (by kernel_rfl)) (fun _ _ _ h => h) (Or.inl ⟨by rfl, ?_⟩) ?_ ?_
            rotate_left
            ·intro w'
             go_simp
             with_reducible rfl
            rotate_left
            ·simp only [Act.put, a1_, a2_, a3_, i64_w, i32_w]
             rfl
            refine pure_ (i := 6) (N := some 18) (v := ?_) (a' := ?_) (bs_ 29 127) rfl rfl (any_of HT_.out (by kernel_rfl)) (fun _ _ _ h => h) (Or.inl ⟨by rfl, ?_⟩) ?_ ?_
            rotate_left
            ·intro w'
             go_simp
             with_reducible rfl
            rotate_left
            ·simp only [Act.put, a1_, a2_, a3_, i64_w, i32_w]
             rfl
            refine pure_ (i := 7) (N := some 19) (v := ?_) (a' := ?_) (bs_ 29 255) rfl rfl (any_of HT_.out (by kernel_rfl)) (fun _ _ _ h => h) (Or.inl ⟨by rfl, ?_⟩) ?_ ?_
            rotate_left
            ·intro w'
             go_simp
             with_reducible rfl
            rotate_left
            ·simp only [Act.put, a1_, a2_, a3_, i64_w, i32_w]
             rfl
            refine pure_ (i := 8) (N := some 20) (v := ?_) (a' := ?_) (bs_ 29 511) rfl rfl (any_of HT_.out (by kernel_rfl)) (fun _ _ _ h => h) (Or.inl ⟨by rfl, ?_⟩) ?_ ?_
            rotate_left
            ·intro w'
             go_simp
             with_reducible rfl
            rotate_left
            ·simp only [Act.put, a1_, a2_, a3_, i64_w, i32_w]
             rfl
            refine pure_ (i := 9) (N := some 21) (v := ?_) (a' := ?_) (bs_ 29 1023) rfl rfl (any_of HT_.out (by kernel_rfl)) (fun _ _ _ h => h) (Or.inl ⟨by rfl, ?_⟩) ?_ ?_
            rotate_left
            ·intro w'
             go_simp
             with_reducible rfl
            rotate_left
            ·simp only [Act.put, a1_, a2_, a3_, i64_w, i32_w]
             rfl
            refine pure_ (i := 10) (N := some 22) (v := ?_) (a' := ?_) (bs_ 29 2047) rfl rfl (any_of HT_.out (by kernel_rfl)) (fun _ _ _ h => h) (Or.inl ⟨by rfl, ?_⟩) ?_ ?_
            rotate_left
            ·intro w'
             go_simp
             with_reducible rfl
            rotate_left
            ·simp only [Act.put, a1_, a2_, a3_, i64_w, i32_w]
             rfl
            refine take_ (i := 11) (N := some 23) (v := ?_) (a' := ?_) (bs_ 29 4095) rfl rfl (take_ofW HT_.out HW_.out (by kernel_rfl)) (fun _ _ _ h => h) (Or.inl ⟨by rfl, ?_⟩) hHeld ?_ ?_
            rotate_left
            ·rintro w' ⟨s0, s1, s2, s3, s4, s5, s6, s7, s8, s9, s10, s11, s12, s13, s14, s15, s16, s17⟩
             (try simp only [add_plain] at s0 s1 s2 s3 s4 s5 s6 s7 s8 s9 s10 s11 s12 s13 s14 s15 s16 s17)
             go_simp
             with_reducible rfl
            rotate_left
            ·simp only [Act.put, a1_, a2_, a3_, i64_w, i32_w]
             rfl
            refine take_ (i := 13) (N := some 25) (v := ?_) (a' := ?_) (bs_ 29 12287) rfl rfl (take_ofW HT_.out HW_.out (by kernel_rfl)) (fun _ _ _ h => h) (Or.inl ⟨by rfl, ?_⟩) hHeld ?_ ?_
            rotate_left
            ·rintro w' ⟨s0, s1, s2, s3, s4, s5, s6, s7, s8, s9, s10, s11, s12, s13, s14, s15, s16, s17⟩
             (try simp only [add_plain] at s0 s1 s2 s3 s4 s5 s6 s7 s8 s9 s10 s11 s12 s13 s14 s15 s16 s17)
             go_simp
             with_reducible rfl
            rotate_left
            ·simp only [Act.put, a1_, a2_, a3_, i64_w, i32_w]
             rfl
            refine one_ (i := 12) (N := some 24) (bs_ 29 16383) rfl rfl (one_of HT_.out (by kernel_rfl)) (by decide) (fun K hK => ?_)
            refine goes_ Try.func24 (by kernel_rfl) rfl #[.agg #[.int .u32 ((rd_T27 l0 (ji8)).f0), .int .u32 ((rd_T27 l0 (ji8)).f1), .int .u32 ((rd_T27 l0 (ji8)).f2), .int .i64 ((rd_T27 l0 (ji8)).f3), .int .u32 ((rd_T27 l0 (ji8)).f4), .slice A143_5 ((rd_T27 l0 (ji8)).f5).length c143_5]] (by rfl) rfl rfl (by (try simp only [List.map_toArray, List.map_cons, List.map_nil]); first | done | (simp only [hji8]; rfl) | rfl | (simp only [List.length_drop, List.length_take]; rfl)) ?_
            with_reducible refine (flow_of.calls ((rd_T27 l0 (ji8)).f0) ((rd_T27 l0 (ji8)).f1) ((rd_T27 l0 (ji8)).f2) ((rd_T27 l0 (ji8)).f3) ((rd_T27 l0 (ji8)).f4) _ _ ((rd_T27 l0 (ji8)).f5) t144 t145 t146 _ ?side1 ?side2 A11.out).mono ?_
            (case side1 => repeat (first | exact (Kd.C_below HR143_5.out HB.out) | (with_reducible refine Kd.C_alloc ?_ _) | (with_reducible refine Kd.C_drewN ?_ _) | (with_reducible refine Kd.C_drew ?_)))
            (case side2 => exact HC143_5.out)
            rintro e w38 ⟨rfl, hb⟩
            refine ⟨_, rfl, ?_⟩
            have n0_ := m_ (blk_below (g := gb141) (o := .cells #[.int .u32 ((rd_T27 l0 x7_1).f0), .int .u32 ((rd_T27 l0 x7_1).f1), .int .u32 ((rd_T27 l0 x7_1).f2), .int .i64 ((rd_T27 l0 x7_1).f3), .int .u32 ((rd_T27 l0 x7_1).f4), .slice A140_5 ((rd_T27 l0 x7_1).f5).length c140_5] 27 (0, 0)) (by (with_reducible repeat (first | refine bn_ ?_ _ | refine bd_ ?_ | refine ba_ ?_ _)); exact BK141.out) hb)
            have n1_ := m_ (below_step (by repeat (first | (with_reducible first | exact HB.out | apply pa_ | apply pn_ | apply pd_ | refine below_set ?_ GE141.out) | exact HB.out)) hb)
            clear BK141
            clear HB
            have BK141 := n0_
            have HB := n1_
            clear n0_ n1_
            (try clear hb)
            (try clear hb2)
            (try clear hk)
            (try clear hi)
            refine hK.out _ _ ⟨(bc_ BK141.out 0).trans rfl, (bc_ BK141.out 1).trans rfl, (bc_ BK141.out 2).trans rfl, (bc_ BK141.out 3).trans rfl, (bc_ BK141.out 4).trans rfl, (bc_ BK141.out 5).trans rfl, (kp_ HB.out hw143_0), (kp_ HB.out hw143_1), (kp_ HB.out hw143_2), (kp_ HB.out hw143_3), (kp_ HB.out hw143_4), (kp_ HB.out hw143_5), (kp_ HB.out hw150_0), (kp_ HB.out hw150_1), (kp_ HB.out hw150_2), (kp_ HB.out hw150_3), (kp_ HB.out hw150_4), (kp_ HB.out hw150_5)⟩ (fun hHeld => ?_)
            clear hK K
            refine norm_ (a' := ?_) ?_ ?_
            rotate_left
            ·show Act.put _ (some 24) _ = _
             simp only [Act.put, a1_, a2_, a3_, i64_w, i32_w]
             rfl
            refine one_ (i := 14) (N := some 26) (bs_ 29 32767) rfl rfl (one_of HT_.out (by kernel_rfl)) (by decide) (fun K hK => ?_)
            refine goes_ Try.func24 (by kernel_rfl) rfl #[.agg #[.int .u32 ((rd_T27 l0 x7_1).f0), .int .u32 ((rd_T27 l0 x7_1).f1), .int .u32 ((rd_T27 l0 x7_1).f2), .int .i64 ((rd_T27 l0 x7_1).f3), .int .u32 ((rd_T27 l0 x7_1).f4), .slice A140_5 ((rd_T27 l0 x7_1).f5).length c140_5]] (by rfl) rfl rfl (by (try simp only [List.map_toArray, List.map_cons, List.map_nil]); first | done | rfl | (simp only [List.length_drop, List.length_take]; rfl)) ?_
            with_reducible refine (flow_of.calls ((rd_T27 l0 x7_1).f0) ((rd_T27 l0 x7_1).f1) ((rd_T27 l0 x7_1).f2) ((rd_T27 l0 x7_1).f3) ((rd_T27 l0 x7_1).f4) _ _ ((rd_T27 l0 x7_1).f5) t147 t148 t149 _ ?side1 ?side2 A12.out).mono ?_
            (case side1 => repeat (first | exact (Kd.C_below HR140_5.out HB.out) | (with_reducible refine Kd.C_alloc ?_ _) | (with_reducible refine Kd.C_drewN ?_ _) | (with_reducible refine Kd.C_drew ?_)))
            (case side2 => exact HC140_5.out)
            rintro e w39 ⟨rfl, hb⟩
            refine ⟨_, rfl, ?_⟩
            have n0_ := m_ (blk_below (g := gb141) (o := .cells #[.int .u32 ((rd_T27 l0 x7_1).f0), .int .u32 ((rd_T27 l0 x7_1).f1), .int .u32 ((rd_T27 l0 x7_1).f2), .int .i64 ((rd_T27 l0 x7_1).f3), .int .u32 ((rd_T27 l0 x7_1).f4), .slice A140_5 ((rd_T27 l0 x7_1).f5).length c140_5] 27 (0, 0)) (by (with_reducible repeat (first | refine bn_ ?_ _ | refine bd_ ?_ | refine ba_ ?_ _)); exact BK141.out) hb)
            have n1_ := m_ (below_step (by repeat (first | (with_reducible first | exact HB.out | apply pa_ | apply pn_ | apply pd_ | refine below_set ?_ GE141.out) | exact HB.out)) hb)
            clear BK141
            clear HB
            have BK141 := n0_
            have HB := n1_
            clear n0_ n1_
            (try clear hb)
            (try clear hb2)
            (try clear hk)
            (try clear hi)
            refine hK.out _ _ ⟨(bc_ BK141.out 0).trans rfl, (bc_ BK141.out 1).trans rfl, (bc_ BK141.out 2).trans rfl, (bc_ BK141.out 3).trans rfl, (bc_ BK141.out 4).trans rfl, (bc_ BK141.out 5).trans rfl, (kp_ HB.out hw143_0), (kp_ HB.out hw143_1), (kp_ HB.out hw143_2), (kp_ HB.out hw143_3), (kp_ HB.out hw143_4), (kp_ HB.out hw143_5), (kp_ HB.out hw150_0), (kp_ HB.out hw150_1), (kp_ HB.out hw150_2), (kp_ HB.out hw150_3), (kp_ HB.out hw150_4), (kp_ HB.out hw150_5)⟩ (fun hHeld => ?_)
            clear hK K
            refine norm_ (a' := ?_) ?_ ?_
            rotate_left
            ·show Act.put _ (some 26) _ = _
             simp only [Act.put, a1_, a2_, a3_, i64_w, i32_w]
             rfl
            refine pure_ (i := 15) (N := some 27) (v := ?_) (a' := ?_) (bs_ 29 65535) rfl rfl (any_of HT_.out (by kernel_rfl)) (fun _ _ _ h => h) (Or.inl ⟨by rfl, ?_⟩) ?_ ?_
            rotate_left
            ·intro w'
             go_simp
             with_reducible rfl
            rotate_left
            ·simp only [Act.put, a1_, a2_, a3_, i64_w, i32_w]
             rfl
            refine pure_ (i := 16) (N := some 28) (v := ?_) (a' := ?_) (bs_ 29 131071) rfl rfl (any_of HT_.out (by kernel_rfl)) (fun _ _ _ h => h) (Or.inl ⟨by rfl, ?_⟩) ?_ ?_
            rotate_left
            ·intro w'
             go_simp
             with_reducible rfl
            rotate_left
            ·simp only [Act.put, a1_, a2_, a3_, i64_w, i32_w]
             rfl
            refine pure_ (i := 17) (N := some 29) (v := ?_) (a' := ?_) (bs_ 29 262143) rfl rfl (any_of HT_.out (by kernel_rfl)) (fun _ _ _ h => h) (Or.inl ⟨by rfl, ?_⟩) ?_ ?_
            rotate_left
            ·intro w'
             go_simp
             with_reducible rfl
            rotate_left
            ·simp only [Act.put, a1_, a2_, a3_, i64_w, i32_w]
             rfl
            refine pure_ (i := 18) (N := some 30) (v := ?_) (a' := ?_) (bs_ 29 524287) rfl rfl (any_of HT_.out (by kernel_rfl)) (fun _ _ _ h => h) (Or.inl ⟨by rfl, ?_⟩) ?_ ?_
            rotate_left
            ·intro w'
             go_simp
             with_reducible rfl
            rotate_left
            ·simp only [Act.put, a1_, a2_, a3_, i64_w, i32_w]
             rfl
            refine pure_ (i := 19) (N := some 31) (v := ?_) (a' := ?_) (bs_ 29 1048575) rfl rfl (any_of HT_.out (by kernel_rfl)) (fun _ _ _ h => h) (Or.inl ⟨by rfl, ?_⟩) ?_ ?_
            rotate_left
            ·intro w'
             go_simp
             with_reducible rfl
            rotate_left
            ·simp only [Act.put, a1_, a2_, a3_, i64_w, i32_w]
             rfl
            refine pure_ (i := 20) (N := some 32) (v := ?_) (a' := ?_) (bs_ 29 2097151) rfl rfl (any_of HT_.out (by kernel_rfl)) (fun _ _ _ h => h) (Or.inl ⟨by rfl, ?_⟩) ?_ ?_
            rotate_left
            ·intro w'
             go_simp
             with_reducible rfl
            rotate_left
            ·simp only [Act.put, a1_, a2_, a3_, i64_w, i32_w]
             rfl
            refine take_ (i := 21) (N := some 33) (v := ?_) (a' := ?_) (bs_ 29 4194303) rfl rfl (take_ofW HT_.out HW_.out (by kernel_rfl)) (fun _ _ _ h => h) (Or.inl ⟨by rfl, ?_⟩) hHeld ?_ ?_
            rotate_left
            ·rintro w' ⟨s0, s1, s2, s3, s4, s5, s6, s7, s8, s9, s10, s11, s12, s13, s14, s15, s16, s17⟩
             (try simp only [add_plain] at s0 s1 s2 s3 s4 s5 s6 s7 s8 s9 s10 s11 s12 s13 s14 s15 s16 s17)
             go_simp
             with_reducible rfl
            rotate_left
            ·simp only [Act.put, a1_, a2_, a3_, i64_w, i32_w]
             rfl
            refine take_ (i := 22) (N := some 34) (v := ?_) (a' := ?_) (bs_ 29 8388607) rfl rfl (take_ofW HT_.out HW_.out (by kernel_rfl)) (fun _ _ _ h => h) (Or.inl ⟨by rfl, ?_⟩) hHeld ?_ ?_
            rotate_left
            ·rintro w' ⟨s0, s1, s2, s3, s4, s5, s6, s7, s8, s9, s10, s11, s12, s13, s14, s15, s16, s17⟩
             (try simp only [add_plain] at s0 s1 s2 s3 s4 s5 s6 s7 s8 s9 s10 s11 s12 s13 s14 s15 s16 s17)
             go_simp
             with_reducible rfl
            rotate_left
            ·simp only [Act.put, a1_, a2_, a3_, i64_w, i32_w]
             rfl
            refine one_ (i := 23) (N := some 35) (bs_ 29 16777215) rfl rfl (one_of HT_.out (by kernel_rfl)) (by decide) (fun K hK => ?_)
            refine goes_ Try.func24 (by kernel_rfl) rfl #[.agg #[.int .u32 ((rd_T27 l0 x7_1).f0), .int .u32 ((rd_T27 l0 x7_1).f1), .int .u32 ((rd_T27 l0 x7_1).f2), .int .i64 ((rd_T27 l0 x7_1).f3), .int .u32 ((rd_T27 l0 x7_1).f4), .slice A140_5 ((rd_T27 l0 x7_1).f5).length c140_5]] (by rfl) rfl rfl (by (try simp only [List.map_toArray, List.map_cons, List.map_nil]); first | done | rfl | (simp only [List.length_drop, List.length_take]; rfl)) ?_
            with_reducible refine (flow_of.calls ((rd_T27 l0 x7_1).f0) ((rd_T27 l0 x7_1).f1) ((rd_T27 l0 x7_1).f2) ((rd_T27 l0 x7_1).f3) ((rd_T27 l0 x7_1).f4) _ _ ((rd_T27 l0 x7_1).f5) t147 t148 t149 _ ?side1 ?side2 A21.out).mono ?_
            (case side1 => repeat (first | exact (Kd.C_below HR140_5.out HB.out) | (with_reducible refine Kd.C_alloc ?_ _) | (with_reducible refine Kd.C_drewN ?_ _) | (with_reducible refine Kd.C_drew ?_)))
            (case side2 => exact HC140_5.out)
            rintro e w40 ⟨rfl, hb⟩
            refine ⟨_, rfl, ?_⟩
            have n0_ := m_ (blk_below (g := gb141) (o := .cells #[.int .u32 ((rd_T27 l0 x7_1).f0), .int .u32 ((rd_T27 l0 x7_1).f1), .int .u32 ((rd_T27 l0 x7_1).f2), .int .i64 ((rd_T27 l0 x7_1).f3), .int .u32 ((rd_T27 l0 x7_1).f4), .slice A140_5 ((rd_T27 l0 x7_1).f5).length c140_5] 27 (0, 0)) (by (with_reducible repeat (first | refine bn_ ?_ _ | refine bd_ ?_ | refine ba_ ?_ _)); exact BK141.out) hb)
            have n1_ := m_ (below_step (by repeat (first | (with_reducible first | exact HB.out | apply pa_ | apply pn_ | apply pd_ | refine below_set ?_ GE141.out) | exact HB.out)) hb)
            clear BK141
            clear HB
            have BK141 := n0_
            have HB := n1_
            clear n0_ n1_
            (try clear hb)
            (try clear hb2)
            (try clear hk)
            (try clear hi)
            refine hK.out _ _ ⟨(bc_ BK141.out 0).trans rfl, (bc_ BK141.out 1).trans rfl, (bc_ BK141.out 2).trans rfl, (bc_ BK141.out 3).trans rfl, (bc_ BK141.out 4).trans rfl, (bc_ BK141.out 5).trans rfl, (kp_ HB.out hw143_0), (kp_ HB.out hw143_1), (kp_ HB.out hw143_2), (kp_ HB.out hw143_3), (kp_ HB.out hw143_4), (kp_ HB.out hw143_5), (kp_ HB.out hw150_0), (kp_ HB.out hw150_1), (kp_ HB.out hw150_2), (kp_ HB.out hw150_3), (kp_ HB.out hw150_4), (kp_ HB.out hw150_5)⟩ (fun hHeld => ?_)
            clear hK K
            refine norm_ (a' := ?_) ?_ ?_
            rotate_left
            ·show Act.put _ (some 35) _ = _
             simp only [Act.put, a1_, a2_, a3_, i64_w, i32_w]
             rfl
            refine one_ (i := 24) (N := some 36) (bs_ 29 33554431) rfl rfl (one_of HT_.out (by kernel_rfl)) (by decide) (fun K hK => ?_)
            refine goes_ Try.func31 (by kernel_rfl) rfl #[.agg #[.int .u32 ((rd_T27 l0 (ji8)).f0), .int .u32 ((rd_T27 l0 (ji8)).f1), .int .u32 ((rd_T27 l0 (ji8)).f2), .int .i64 ((rd_T27 l0 (ji8)).f3), .int .u32 ((rd_T27 l0 (ji8)).f4), .slice A143_5 ((rd_T27 l0 (ji8)).f5).length c143_5], .agg #[.int .u32 t147, .int .u32 t148, .int .u32 t149]] (by rfl) rfl rfl (by (try simp only [List.map_toArray, List.map_cons, List.map_nil]); first | done | (simp only [hji8]; rfl) | rfl | (simp only [List.length_drop, List.length_take]; rfl)) ?_
            with_reducible refine (flow_order.calls k1 ((rd_T27 l0 (ji8)).f0) ((rd_T27 l0 (ji8)).f1) ((rd_T27 l0 (ji8)).f2) ((rd_T27 l0 (ji8)).f3) ((rd_T27 l0 (ji8)).f4) _ _ ((rd_T27 l0 (ji8)).f5) t147 t148 t149 t154 _ ?side1 ?side2 A22.out).mono ?_
            (case side1 => repeat (first | exact (Kd.C_below HR150_5.out HB.out) | (with_reducible refine Kd.C_alloc ?_ _) | (with_reducible refine Kd.C_drewN ?_ _) | (with_reducible refine Kd.C_drew ?_)))
            (case side2 => exact HC150_5.out)
            rintro e w41 ⟨rfl, hb⟩
            refine ⟨_, rfl, ?_⟩
            have n0_ := m_ (blk_below (g := gb141) (o := .cells #[.int .u32 ((rd_T27 l0 x7_1).f0), .int .u32 ((rd_T27 l0 x7_1).f1), .int .u32 ((rd_T27 l0 x7_1).f2), .int .i64 ((rd_T27 l0 x7_1).f3), .int .u32 ((rd_T27 l0 x7_1).f4), .slice A140_5 ((rd_T27 l0 x7_1).f5).length c140_5] 27 (0, 0)) (by (with_reducible repeat (first | refine bn_ ?_ _ | refine bd_ ?_ | refine ba_ ?_ _)); exact BK141.out) hb)
            have n1_ := m_ (below_step (by repeat (first | (with_reducible first | exact HB.out | apply pa_ | apply pn_ | apply pd_ | refine below_set ?_ GE141.out) | exact HB.out)) hb)
            clear BK141
            clear HB
            have BK141 := n0_
            have HB := n1_
            clear n0_ n1_
            (try clear hb)
            (try clear hb2)
            (try clear hk)
            (try clear hi)
            refine hK.out _ _ ⟨(bc_ BK141.out 0).trans rfl, (bc_ BK141.out 1).trans rfl, (bc_ BK141.out 2).trans rfl, (bc_ BK141.out 3).trans rfl, (bc_ BK141.out 4).trans rfl, (bc_ BK141.out 5).trans rfl, (kp_ HB.out hw143_0), (kp_ HB.out hw143_1), (kp_ HB.out hw143_2), (kp_ HB.out hw143_3), (kp_ HB.out hw143_4), (kp_ HB.out hw143_5), (kp_ HB.out hw150_0), (kp_ HB.out hw150_1), (kp_ HB.out hw150_2), (kp_ HB.out hw150_3), (kp_ HB.out hw150_4), (kp_ HB.out hw150_5)⟩ (fun hHeld => ?_)
            clear hK K
            refine norm_ (a' := ?_) ?_ ?_
            rotate_left
            ·show Act.put _ (some 36) _ = _
             simp only [Act.put, a1_, a2_, a3_, i64_w, i32_w]
             rfl
            refine pure_ (i := 25) (N := some 37) (v := ?_) (a' := ?_) (bs_ 29 67108863) rfl rfl (any_of HT_.out (by kernel_rfl)) (fun _ _ _ h => h) (Or.inl ⟨by rfl, ?_⟩) ?_ ?_
            rotate_left
            ·intro w'
             go_simp
             with_reducible rfl
            rotate_left
            ·simp only [Act.put, a1_, a2_, a3_, i64_w, i32_w]
             rfl
            refine pure_ (i := 26) (N := some 38) (v := ?_) (a' := ?_) (bs_ 29 134217727) rfl rfl (any_of HT_.out (by kernel_rfl)) (fun _ _ _ h => h) (Or.inl ⟨by rfl, ?_⟩) ?_ ?_
            rotate_left
            ·intro w'
             go_simp
             with_reducible rfl
            rotate_left
            ·simp only [Act.put, a1_, a2_, a3_, i64_w, i32_w]
             rfl
            refine pure_ (i := 27) (N := some 39) (v := ?_) (a' := ?_) (bs_ 29 268435455) rfl rfl (any_of HT_.out (by kernel_rfl)) (fun _ _ _ h => h) (Or.inl ⟨by rfl, ?_⟩) ?_ ?_
            rotate_left
            ·intro w'
             go_simp
             with_reducible rfl
            rotate_left
            ·simp only [Act.put, a1_, a2_, a3_, i64_w, i32_w]
             rfl
            refine pure_ (i := 28) (N := some 40) (v := ?_) (a' := ?_) (bs_ 29 536870911) rfl rfl (any_of HT_.out (by kernel_rfl)) (fun _ _ _ h => h) (Or.inl ⟨by rfl, ?_⟩) ?_ ?_
            rotate_left
            ·intro w'
             go_simp
             with_reducible rfl
            rotate_left
            ·simp only [Act.put, a1_, a2_, a3_, i64_w, i32_w]
             rfl
            refine done_ (done_of HT_.out (by kernel_rfl)) ?_
            try go_wp2
            go_roundg k1
            case measure => have := HK1.out; omega
            case rel => exact ⟨(wrap64 (x7_1 + 1)), (by first | rfl | (simp; done) | (simp [*]; done)), H', ⟨by have := HK1.out; omega⟩, ⟨by repeat (first | (with_reducible first | exact HB.out | apply pa_ | apply pn_ | apply pd_ | refine below_set ?_ GE141.out) | exact HB.out)⟩⟩
         ·rw [if_neg c10] at H
          exact absurd H (by simp)
        ·rw [if_neg c9] at H
         exact absurd H (by simp)
       ·rw [if_neg c7] at H
        have c7b0 : decide (0 < x7_1) = false := decide_eq_false c7
        clear c7
        have H' := m_ H
        clear H
        have p140 : 0 ≤ (x7_1 : Int) := of_decide_eq_true (by first | (with_reducible assumption) | assumption)
        have q140 : x7_1 < (l0.length : Int) := of_decide_eq_true (by first | (with_reducible assumption) | assumption)
        obtain ⟨ad140, A140_5, c140_5, e140, hx140_0, hx140_1, hx140_2, hx140_3, hx140_4, hx140_5, hl140_5, hi140_5⟩ := at_T27 HR0.out x7_1 p140 q140
        cases e140
        replace hx140_0 := kp_ HB.out hx140_0
        replace hx140_1 := kp_ HB.out hx140_1
        replace hx140_2 := kp_ HB.out hx140_2
        replace hx140_3 := kp_ HB.out hx140_3
        replace hx140_4 := kp_ HB.out hx140_4
        replace hx140_5 := kp_ HB.out hx140_5
        have HR140_5 := m_ hi140_5
        have HC140_5 := m_ hl140_5
        clear hi140_5 hl140_5
        replace p140 := eq_true p140
        replace q140 := eq_true q140
        try go_wp2_with (first | ((with_reducible refine gate_dst (N := 4) rfl ?_); refine box_event ?hg (N := 4) ?hd (cs := #[.int .u32 0, .int .u32 0, .int .u32 0, .int .i64 0, .int .u32 0, .slice none 0 0]) (t := 27) ?hr ?_; (case hd => rfl); (case hg => rfl); (case hr => first | (go_simp; done) | (go_simp; rfl)); intro gb141 hg w42 hbox hb; have n0_ := m_ (below_step (by repeat (first | (with_reducible first | exact HB.out | apply pa_ | apply pn_ | apply pd_) | exact HB.out)) hb); have n1_ := m_ (hbox); have n2_ := m_ ((by rw [hg]; exact (below_size (by repeat (first | (with_reducible first | exact HB.out | apply pa_ | apply pn_ | apply pd_) | exact HB.out))) : w.heap.size ≤ gb141)); have n3_ := m_ ((by rw [hg]; exact (below_size (by repeat (first | (with_reducible first | exact HB.out | apply pa_ | apply pn_ | apply pd_) | exact HB.out))) : w.heap.size ≤ gb141)); clear HB; have HB := n0_; have BK141 := n1_; have GW141 := n2_; have GE141 := n3_; clear n0_ n1_ n2_ n3_; clear hb hbox hg; have hcz43_0 : w42.cell? ⟨gb141, 0, none⟩ = some (.int .u32 0) := (bc_ BK141.out 0).trans rfl; have hcz43_1 : w42.cell? ⟨gb141, 1, none⟩ = some (.int .u32 0) := (bc_ BK141.out 1).trans rfl; have hcz43_2 : w42.cell? ⟨gb141, 2, none⟩ = some (.int .u32 0) := (bc_ BK141.out 2).trans rfl; have hcz43_3 : w42.cell? ⟨gb141, 3, none⟩ = some (.int .i64 0) := (bc_ BK141.out 3).trans rfl; have hcz43_4 : w42.cell? ⟨gb141, 4, none⟩ = some (.int .u32 0) := (bc_ BK141.out 4).trans rfl; have hcz43_5 : w42.cell? ⟨gb141, 5, none⟩ = some (.slice none 0 0) := (bc_ BK141.out 5).trans rfl; have hfz43_0 := bf_ BK141.out 0; have hfz43_1 := bf_ BK141.out 1; have hfz43_2 := bf_ BK141.out 2; have hfz43_3 := bf_ BK141.out 3; have hfz43_4 := bf_ BK141.out 4; have hfz43_5 := bf_ BK141.out 5))
        have n0_ : Aside0 (((((((w42.setCell ⟨gb141, 0, none⟩ (.int .u32 ((rd_T27 l0 x7_1).f0))).setCell ⟨gb141, 1, none⟩ (.int .u32 ((rd_T27 l0 x7_1).f1))).setCell ⟨gb141, 2, none⟩ (.int .u32 ((rd_T27 l0 x7_1).f2))).setCell ⟨gb141, 3, none⟩ (.int .i64 ((rd_T27 l0 x7_1).f3))).setCell ⟨gb141, 4, none⟩ (.int .u32 ((rd_T27 l0 x7_1).f4))).setCell ⟨gb141, 5, none⟩ (.slice A140_5 ((rd_T27 l0 x7_1).f5).length c140_5)).heap[gb141]? = some (.cells #[.int .u32 ((rd_T27 l0 x7_1).f0), .int .u32 ((rd_T27 l0 x7_1).f1), .int .u32 ((rd_T27 l0 x7_1).f2), .int .i64 ((rd_T27 l0 x7_1).f3), .int .u32 ((rd_T27 l0 x7_1).f4), .slice A140_5 ((rd_T27 l0 x7_1).f5).length c140_5] 27 (0, 0))) := ⟨by (with_reducible repeat (first | refine bn_ ?_ _ | refine bd_ ?_ | refine ba_ ?_ _)); refine blk_put (cs := #[.int .u32 ((rd_T27 l0 x7_1).f0), .int .u32 ((rd_T27 l0 x7_1).f1), .int .u32 ((rd_T27 l0 x7_1).f2), .int .i64 ((rd_T27 l0 x7_1).f3), .int .u32 ((rd_T27 l0 x7_1).f4), .slice none 0 0]) ?_ 5 _ rfl; (with_reducible repeat (first | refine bn_ ?_ _ | refine bd_ ?_ | refine ba_ ?_ _)); refine blk_put (cs := #[.int .u32 ((rd_T27 l0 x7_1).f0), .int .u32 ((rd_T27 l0 x7_1).f1), .int .u32 ((rd_T27 l0 x7_1).f2), .int .i64 ((rd_T27 l0 x7_1).f3), .int .u32 0, .slice none 0 0]) ?_ 4 _ rfl; (with_reducible repeat (first | refine bn_ ?_ _ | refine bd_ ?_ | refine ba_ ?_ _)); refine blk_put (cs := #[.int .u32 ((rd_T27 l0 x7_1).f0), .int .u32 ((rd_T27 l0 x7_1).f1), .int .u32 ((rd_T27 l0 x7_1).f2), .int .i64 0, .int .u32 0, .slice none 0 0]) ?_ 3 _ rfl; (with_reducible repeat (first | refine bn_ ?_ _ | refine bd_ ?_ | refine ba_ ?_ _)); refine blk_put (cs := #[.int .u32 ((rd_T27 l0 x7_1).f0), .int .u32 ((rd_T27 l0 x7_1).f1), .int .u32 0, .int .i64 0, .int .u32 0, .slice none 0 0]) ?_ 2 _ rfl; (with_reducible repeat (first | refine bn_ ?_ _ | refine bd_ ?_ | refine ba_ ?_ _)); refine blk_put (cs := #[.int .u32 ((rd_T27 l0 x7_1).f0), .int .u32 0, .int .u32 0, .int .i64 0, .int .u32 0, .slice none 0 0]) ?_ 1 _ rfl; (with_reducible repeat (first | refine bn_ ?_ _ | refine bd_ ?_ | refine ba_ ?_ _)); refine blk_put (cs := #[.int .u32 0, .int .u32 0, .int .u32 0, .int .i64 0, .int .u32 0, .slice none 0 0]) ?_ 0 _ rfl; (with_reducible repeat (first | refine bn_ ?_ _ | refine bd_ ?_ | refine ba_ ?_ _)); exact BK141.out⟩
        have n1_ : Aside0 (Below w.heap.size w ((((((w42.setCell ⟨gb141, 0, none⟩ (.int .u32 ((rd_T27 l0 x7_1).f0))).setCell ⟨gb141, 1, none⟩ (.int .u32 ((rd_T27 l0 x7_1).f1))).setCell ⟨gb141, 2, none⟩ (.int .u32 ((rd_T27 l0 x7_1).f2))).setCell ⟨gb141, 3, none⟩ (.int .i64 ((rd_T27 l0 x7_1).f3))).setCell ⟨gb141, 4, none⟩ (.int .u32 ((rd_T27 l0 x7_1).f4))).setCell ⟨gb141, 5, none⟩ (.slice A140_5 ((rd_T27 l0 x7_1).f5).length c140_5))) := ⟨by repeat (first | (with_reducible first | exact HB.out | apply pa_ | apply pn_ | apply pd_ | refine below_set ?_ GE141.out) | exact HB.out)⟩
        (try clear BK141)
        (try clear HB)
        generalize ((((((w42.setCell ⟨gb141, 0, none⟩ (.int .u32 ((rd_T27 l0 x7_1).f0))).setCell ⟨gb141, 1, none⟩ (.int .u32 ((rd_T27 l0 x7_1).f1))).setCell ⟨gb141, 2, none⟩ (.int .u32 ((rd_T27 l0 x7_1).f2))).setCell ⟨gb141, 3, none⟩ (.int .i64 ((rd_T27 l0 x7_1).f3))).setCell ⟨gb141, 4, none⟩ (.int .u32 ((rd_T27 l0 x7_1).f4))).setCell ⟨gb141, 5, none⟩ (.slice A140_5 ((rd_T27 l0 x7_1).f5).length c140_5)) = w44 at n0_ n1_ ⊢
        have BK141 := n0_
        have HB := n1_
        clear n0_ n1_
        have n0_ := m_ (bd_ BK141.out)
        have n1_ := m_ (pd_ HB.out)
        clear BK141
        clear HB
        have BK141 := n0_
        have HB := n1_
        clear n0_ n1_
        refine start_ (n := 29) (S := fun w' => w'.cell? ⟨gb141, 0, none⟩ = some (.int .u32 ((rd_T27 l0 x7_1).f0)) ∧ w'.cell? ⟨gb141, 1, none⟩ = some (.int .u32 ((rd_T27 l0 x7_1).f1)) ∧ w'.cell? ⟨gb141, 2, none⟩ = some (.int .u32 ((rd_T27 l0 x7_1).f2)) ∧ w'.cell? ⟨gb141, 3, none⟩ = some (.int .i64 ((rd_T27 l0 x7_1).f3)) ∧ w'.cell? ⟨gb141, 4, none⟩ = some (.int .u32 ((rd_T27 l0 x7_1).f4)) ∧ w'.cell? ⟨gb141, 5, none⟩ = some (.slice A140_5 ((rd_T27 l0 x7_1).f5).length c140_5)) (ds := []) (bs_ 29 0) (by kernel_rfl) rfl rfl ⟨(bc_ BK141.out 0).trans rfl, (bc_ BK141.out 1).trans rfl, (bc_ BK141.out 2).trans rfl, (bc_ BK141.out 3).trans rfl, (bc_ BK141.out 4).trans rfl, (bc_ BK141.out 5).trans rfl⟩ (fun hHeld => ?_); refine with_tabW flow_Table.tab4 flow_Table.bits4 (fun HT_ HW_ => ?_)
        generalize w44.drew = w45 at BK141 HB hHeld ⊢
        refine take_ (i := 0) (N := some 12) (v := ?_) (a' := ?_) (bs_ 29 1) rfl rfl (take_ofW HT_.out HW_.out (by kernel_rfl)) (fun _ _ _ h => h) (Or.inl ⟨by rfl, ?_⟩) hHeld ?_ ?_
        rotate_left
        ·rintro w' ⟨s0, s1, s2, s3, s4, s5⟩
         (try simp only [add_plain] at s0 s1 s2 s3 s4 s5)
         go_simp
         with_reducible rfl
        rotate_left
        ·simp only [Act.put, a1_, a2_, a3_, i64_w, i32_w]
         rfl
        refine one_ (i := 1) (N := some 13) (bs_ 29 3) rfl rfl (one_of HT_.out (by kernel_rfl)) (by decide) (fun K hK => ?_)
        refine goes_ Try.func16 (by kernel_rfl) rfl #[.agg #[.int .u32 ((rd_T27 l0 x7_1).f0), .int .u32 ((rd_T27 l0 x7_1).f1), .int .u32 ((rd_T27 l0 x7_1).f2), .int .i64 ((rd_T27 l0 x7_1).f3), .int .u32 ((rd_T27 l0 x7_1).f4), .slice A140_5 ((rd_T27 l0 x7_1).f5).length c140_5]] (by rfl) rfl rfl (by (try simp only [List.map_toArray, List.map_cons, List.map_nil]); first | done | rfl | (simp only [List.length_drop, List.length_take]; rfl)) ?_
        with_reducible refine (flow_Right.calls k1 ((rd_T27 l0 x7_1).f0) ((rd_T27 l0 x7_1).f1) ((rd_T27 l0 x7_1).f2) ((rd_T27 l0 x7_1).f3) ((rd_T27 l0 x7_1).f4) _ _ ((rd_T27 l0 x7_1).f5) true _ ?side1 ?side2 A5.out).mono ?_
        (case side1 => repeat (first | exact (Kd.C_below HR140_5.out HB.out) | (with_reducible refine Kd.C_alloc ?_ _) | (with_reducible refine Kd.C_drewN ?_ _) | (with_reducible refine Kd.C_drew ?_)))
        (case side2 => exact HC140_5.out)
        rintro e w46 ⟨rfl, hb⟩
        refine ⟨_, rfl, ?_⟩
        have n0_ := m_ (blk_below (g := gb141) (o := .cells #[.int .u32 ((rd_T27 l0 x7_1).f0), .int .u32 ((rd_T27 l0 x7_1).f1), .int .u32 ((rd_T27 l0 x7_1).f2), .int .i64 ((rd_T27 l0 x7_1).f3), .int .u32 ((rd_T27 l0 x7_1).f4), .slice A140_5 ((rd_T27 l0 x7_1).f5).length c140_5] 27 (0, 0)) (by (with_reducible repeat (first | refine bn_ ?_ _ | refine bd_ ?_ | refine ba_ ?_ _)); exact BK141.out) hb)
        have n1_ := m_ (below_step (by repeat (first | (with_reducible first | exact HB.out | apply pa_ | apply pn_ | apply pd_ | refine below_set ?_ GE141.out) | exact HB.out)) hb)
        clear BK141
        clear HB
        have BK141 := n0_
        have HB := n1_
        clear n0_ n1_
        (try clear hb)
        (try clear hb2)
        (try clear hk)
        (try clear hi)
        refine hK.out _ _ ⟨(bc_ BK141.out 0).trans rfl, (bc_ BK141.out 1).trans rfl, (bc_ BK141.out 2).trans rfl, (bc_ BK141.out 3).trans rfl, (bc_ BK141.out 4).trans rfl, (bc_ BK141.out 5).trans rfl⟩ (fun hHeld => ?_)
        clear hK K
        refine norm_ (a' := ?_) ?_ ?_
        rotate_left
        ·show Act.put _ (some 13) _ = _
         simp only [Act.put, a1_, a2_, a3_, i64_w, i32_w]
         rfl
        refine pure_ (i := 2) (N := some 14) (v := ?_) (a' := ?_) (bs_ 29 7) rfl rfl (any_of HT_.out (by kernel_rfl)) (fun _ _ _ h => h) (Or.inl ⟨by rfl, ?_⟩) ?_ ?_
        rotate_left
        ·intro w'
         go_simp
         with_reducible rfl
        rotate_left
        ·simp only [Act.put, a1_, a2_, a3_, i64_w, i32_w]
         rfl
        refine pure_ (i := 3) (N := some 15) (v := ?_) (a' := ?_) (bs_ 29 15) rfl rfl (any_of HT_.out (by kernel_rfl)) (fun _ _ _ h => h) (Or.inl ⟨by rfl, ?_⟩) ?_ ?_
        rotate_left
        ·intro w'
         go_simp
         with_reducible rfl
        rotate_left
        ·simp only [Act.put, a1_, a2_, a3_, i64_w, i32_w]
         rfl
        refine pure_ (i := 4) (N := some 16) (v := ?_) (a' := ?_) (bs_ 29 31) rfl rfl (any_of HT_.out (by kernel_rfl)) (fun _ _ _ h => h) (Or.inl ⟨by rfl, ?_⟩) ?_ ?_
        rotate_left
        ·intro w'
         go_simp
         with_reducible rfl
        rotate_left
        ·simp only [Act.put, a1_, a2_, a3_, i64_w, i32_w]
         rfl
        refine pure_ (i := 5) (N := some 17) (v := ?_) (a' := ?_) (bs_ 29 63) rfl rfl (any_of HT_.out (by kernel_rfl)) (fun _ _ _ h => h) (Or.inl ⟨by rfl, ?_⟩) ?_ ?_
        rotate_left
        ·intro w'
         go_simp
         with_reducible rfl
        rotate_left
        ·simp only [Act.put, a1_, a2_, a3_, i64_w, i32_w]
         rfl
        refine pure_ (i := 6) (N := some 18) (v := ?_) (a' := ?_) (bs_ 29 127) rfl rfl (any_of HT_.out (by kernel_rfl)) (fun _ _ _ h => h) (Or.inl ⟨by rfl, ?_⟩) ?_ ?_
        rotate_left
        ·intro w'
         go_simp
         with_reducible rfl
        rotate_left
        ·simp only [Act.put, a1_, a2_, a3_, i64_w, i32_w]
         rfl
        refine pure_ (i := 7) (N := some 19) (v := undef) (a' := ?_) (bs_ 29 255) rfl rfl (any_of HT_.out (by kernel_rfl)) (fun _ _ _ h => h) (Or.inr ⟨by rfl, rfl⟩) ?_ ?_
        rotate_left
        ·simp only [Act.put, a1_, a2_, a3_, i64_w, i32_w]
         rfl
        refine pure_ (i := 8) (N := some 20) (v := undef) (a' := ?_) (bs_ 29 511) rfl rfl (any_of HT_.out (by kernel_rfl)) (fun _ _ _ h => h) (Or.inr ⟨by rfl, rfl⟩) ?_ ?_
        rotate_left
        ·simp only [Act.put, a1_, a2_, a3_, i64_w, i32_w]
         rfl
        refine pure_ (i := 9) (N := some 21) (v := undef) (a' := ?_) (bs_ 29 1023) rfl rfl (any_of HT_.out (by kernel_rfl)) (fun _ _ _ h => h) (Or.inr ⟨by rfl, rfl⟩) ?_ ?_
        rotate_left
        ·simp only [Act.put, a1_, a2_, a3_, i64_w, i32_w]
         rfl
        refine pure_ (i := 10) (N := some 22) (v := undef) (a' := ?_) (bs_ 29 2047) rfl rfl (any_of HT_.out (by kernel_rfl)) (fun _ _ _ h => h) (Or.inr ⟨by rfl, rfl⟩) ?_ ?_
        rotate_left
        ·simp only [Act.put, a1_, a2_, a3_, i64_w, i32_w]
         rfl
        refine pure_ (i := 11) (N := some 23) (v := undef) (a' := ?_) (bs_ 29 4095) rfl rfl (any_of HT_.out (by kernel_rfl)) (fun _ _ _ h => h) (Or.inr ⟨by rfl, rfl⟩) ?_ ?_
        rotate_left
        ·simp only [Act.put, a1_, a2_, a3_, i64_w, i32_w]
         rfl
        refine pure_ (i := 12) (N := some 24) (v := undef) (a' := ?_) (bs_ 29 8191) rfl rfl (any_of HT_.out (by kernel_rfl)) (fun _ _ _ h => h) (Or.inr ⟨by rfl, rfl⟩) ?_ ?_
        rotate_left
        ·simp only [Act.put, a1_, a2_, a3_, i64_w, i32_w]
         rfl
        refine pure_ (i := 13) (N := some 25) (v := undef) (a' := ?_) (bs_ 29 16383) rfl rfl (any_of HT_.out (by kernel_rfl)) (fun _ _ _ h => h) (Or.inr ⟨by rfl, rfl⟩) ?_ ?_
        rotate_left
        ·simp only [Act.put, a1_, a2_, a3_, i64_w, i32_w]
         rfl
        refine pure_ (i := 14) (N := some 26) (v := undef) (a' := ?_) (bs_ 29 32767) rfl rfl (any_of HT_.out (by kernel_rfl)) (fun _ _ _ h => h) (Or.inr ⟨by rfl, rfl⟩) ?_ ?_
        rotate_left
        ·simp only [Act.put, a1_, a2_, a3_, i64_w, i32_w]
         rfl
        refine pure_ (i := 15) (N := some 27) (v := undef) (a' := ?_) (bs_ 29 65535) rfl rfl (any_of HT_.out (by kernel_rfl)) (fun _ _ _ h => h) (Or.inr ⟨by rfl, rfl⟩) ?_ ?_
        rotate_left
        ·simp only [Act.put, a1_, a2_, a3_, i64_w, i32_w]
         rfl
        refine pure_ (i := 16) (N := some 28) (v := undef) (a' := ?_) (bs_ 29 131071) rfl rfl (any_of HT_.out (by kernel_rfl)) (fun _ _ _ h => h) (Or.inr ⟨by rfl, rfl⟩) ?_ ?_
        rotate_left
        ·simp only [Act.put, a1_, a2_, a3_, i64_w, i32_w]
         rfl
        refine pure_ (i := 17) (N := some 29) (v := undef) (a' := ?_) (bs_ 29 262143) rfl rfl (any_of HT_.out (by kernel_rfl)) (fun _ _ _ h => h) (Or.inr ⟨by rfl, rfl⟩) ?_ ?_
        rotate_left
        ·simp only [Act.put, a1_, a2_, a3_, i64_w, i32_w]
         rfl
        refine pure_ (i := 18) (N := some 30) (v := undef) (a' := ?_) (bs_ 29 524287) rfl rfl (any_of HT_.out (by kernel_rfl)) (fun _ _ _ h => h) (Or.inr ⟨by rfl, rfl⟩) ?_ ?_
        rotate_left
        ·simp only [Act.put, a1_, a2_, a3_, i64_w, i32_w]
         rfl
        refine pure_ (i := 19) (N := some 31) (v := undef) (a' := ?_) (bs_ 29 1048575) rfl rfl (any_of HT_.out (by kernel_rfl)) (fun _ _ _ h => h) (Or.inr ⟨by rfl, rfl⟩) ?_ ?_
        rotate_left
        ·simp only [Act.put, a1_, a2_, a3_, i64_w, i32_w]
         rfl
        refine pure_ (i := 20) (N := some 32) (v := undef) (a' := ?_) (bs_ 29 2097151) rfl rfl (any_of HT_.out (by kernel_rfl)) (fun _ _ _ h => h) (Or.inr ⟨by rfl, rfl⟩) ?_ ?_
        rotate_left
        ·simp only [Act.put, a1_, a2_, a3_, i64_w, i32_w]
         rfl
        refine pure_ (i := 21) (N := some 33) (v := undef) (a' := ?_) (bs_ 29 4194303) rfl rfl (any_of HT_.out (by kernel_rfl)) (fun _ _ _ h => h) (Or.inr ⟨by rfl, rfl⟩) ?_ ?_
        rotate_left
        ·simp only [Act.put, a1_, a2_, a3_, i64_w, i32_w]
         rfl
        refine pure_ (i := 22) (N := some 34) (v := undef) (a' := ?_) (bs_ 29 8388607) rfl rfl (any_of HT_.out (by kernel_rfl)) (fun _ _ _ h => h) (Or.inr ⟨by rfl, rfl⟩) ?_ ?_
        rotate_left
        ·simp only [Act.put, a1_, a2_, a3_, i64_w, i32_w]
         rfl
        refine pure_ (i := 23) (N := some 35) (v := undef) (a' := ?_) (bs_ 29 16777215) rfl rfl (any_of HT_.out (by kernel_rfl)) (fun _ _ _ h => h) (Or.inr ⟨by rfl, rfl⟩) ?_ ?_
        rotate_left
        ·simp only [Act.put, a1_, a2_, a3_, i64_w, i32_w]
         rfl
        refine pure_ (i := 24) (N := some 36) (v := undef) (a' := ?_) (bs_ 29 33554431) rfl rfl (any_of HT_.out (by kernel_rfl)) (fun _ _ _ h => h) (Or.inr ⟨by rfl, rfl⟩) ?_ ?_
        rotate_left
        ·simp only [Act.put, a1_, a2_, a3_, i64_w, i32_w]
         rfl
        refine pure_ (i := 25) (N := some 37) (v := undef) (a' := ?_) (bs_ 29 67108863) rfl rfl (any_of HT_.out (by kernel_rfl)) (fun _ _ _ h => h) (Or.inr ⟨by rfl, rfl⟩) ?_ ?_
        rotate_left
        ·simp only [Act.put, a1_, a2_, a3_, i64_w, i32_w]
         rfl
        refine pure_ (i := 26) (N := some 38) (v := undef) (a' := ?_) (bs_ 29 134217727) rfl rfl (any_of HT_.out (by kernel_rfl)) (fun _ _ _ h => h) (Or.inr ⟨by rfl, rfl⟩) ?_ ?_
        rotate_left
        ·simp only [Act.put, a1_, a2_, a3_, i64_w, i32_w]
         rfl
        refine pure_ (i := 27) (N := some 39) (v := ?_) (a' := ?_) (bs_ 29 268435455) rfl rfl (any_of HT_.out (by kernel_rfl)) (fun _ _ _ h => h) (Or.inl ⟨by rfl, ?_⟩) ?_ ?_
        rotate_left
        ·intro w'
         go_simp
         with_reducible rfl
        rotate_left
        ·simp only [Act.put, a1_, a2_, a3_, i64_w, i32_w]
         rfl
        refine pure_ (i := 28) (N := some 40) (v := ?_) (a' := ?_) (bs_ 29 536870911) rfl rfl (any_of HT_.out (by kernel_rfl)) (fun _ _ _ h => h) (Or.inl ⟨by rfl, ?_⟩) ?_ ?_
        rotate_left
        ·intro w'
         go_simp
         with_reducible rfl
        rotate_left
        ·simp only [Act.put, a1_, a2_, a3_, i64_w, i32_w]
         rfl
        refine done_ (done_of HT_.out (by kernel_rfl)) ?_
        try go_wp2
        go_roundg k1
        case measure => have := HK1.out; omega
        case rel => exact ⟨(wrap64 (x7_1 + 1)), (by first | rfl | (simp; done) | (simp [*]; done)), H', ⟨by have := HK1.out; omega⟩, ⟨by repeat (first | (with_reducible first | exact HB.out | apply pa_ | apply pn_ | apply pd_ | refine below_set ?_ GE141.out) | exact HB.out)⟩⟩
      ·replace c6 := Bool.eq_false_iff.mpr c6
       subst c6
       have H1 : (some false) = some r := by rw [if_neg (show ¬ (false = true) by decide)] at H; exact H
       clear H
       have H := H1
       clear H1
       obtain rfl := Option.some.inj H
       have p140 : 0 ≤ (x7_1 : Int) := of_decide_eq_true (by first | (with_reducible assumption) | assumption)
       have q140 : x7_1 < (l0.length : Int) := of_decide_eq_true (by first | (with_reducible assumption) | assumption)
       obtain ⟨ad140, A140_5, c140_5, e140, hx140_0, hx140_1, hx140_2, hx140_3, hx140_4, hx140_5, hl140_5, hi140_5⟩ := at_T27 HR0.out x7_1 p140 q140
       cases e140
       replace hx140_0 := kp_ HB.out hx140_0
       replace hx140_1 := kp_ HB.out hx140_1
       replace hx140_2 := kp_ HB.out hx140_2
       replace hx140_3 := kp_ HB.out hx140_3
       replace hx140_4 := kp_ HB.out hx140_4
       replace hx140_5 := kp_ HB.out hx140_5
       have HR140_5 := m_ hi140_5
       have HC140_5 := m_ hl140_5
       clear hi140_5 hl140_5
       replace p140 := eq_true p140
       replace q140 := eq_true q140
       try go_wp2_with (first | ((with_reducible refine gate_dst (N := 4) rfl ?_); refine box_event ?hg (N := 4) ?hd (cs := #[.int .u32 0, .int .u32 0, .int .u32 0, .int .i64 0, .int .u32 0, .slice none 0 0]) (t := 27) ?hr ?_; (case hd => rfl); (case hg => rfl); (case hr => first | (go_simp; done) | (go_simp; rfl)); intro gb141 hg w47 hbox hb; have n0_ := m_ (below_step (by repeat (first | (with_reducible first | exact HB.out | apply pa_ | apply pn_ | apply pd_) | exact HB.out)) hb); have n1_ := m_ (hbox); have n2_ := m_ ((by rw [hg]; exact (below_size (by repeat (first | (with_reducible first | exact HB.out | apply pa_ | apply pn_ | apply pd_) | exact HB.out))) : w.heap.size ≤ gb141)); have n3_ := m_ ((by rw [hg]; exact (below_size (by repeat (first | (with_reducible first | exact HB.out | apply pa_ | apply pn_ | apply pd_) | exact HB.out))) : w.heap.size ≤ gb141)); clear HB; have HB := n0_; have BK141 := n1_; have GW141 := n2_; have GE141 := n3_; clear n0_ n1_ n2_ n3_; clear hb hbox hg; have hcz48_0 : w47.cell? ⟨gb141, 0, none⟩ = some (.int .u32 0) := (bc_ BK141.out 0).trans rfl; have hcz48_1 : w47.cell? ⟨gb141, 1, none⟩ = some (.int .u32 0) := (bc_ BK141.out 1).trans rfl; have hcz48_2 : w47.cell? ⟨gb141, 2, none⟩ = some (.int .u32 0) := (bc_ BK141.out 2).trans rfl; have hcz48_3 : w47.cell? ⟨gb141, 3, none⟩ = some (.int .i64 0) := (bc_ BK141.out 3).trans rfl; have hcz48_4 : w47.cell? ⟨gb141, 4, none⟩ = some (.int .u32 0) := (bc_ BK141.out 4).trans rfl; have hcz48_5 : w47.cell? ⟨gb141, 5, none⟩ = some (.slice none 0 0) := (bc_ BK141.out 5).trans rfl; have hfz48_0 := bf_ BK141.out 0; have hfz48_1 := bf_ BK141.out 1; have hfz48_2 := bf_ BK141.out 2; have hfz48_3 := bf_ BK141.out 3; have hfz48_4 := bf_ BK141.out 4; have hfz48_5 := bf_ BK141.out 5))
       have n0_ : Aside0 (((((((w47.setCell ⟨gb141, 0, none⟩ (.int .u32 ((rd_T27 l0 x7_1).f0))).setCell ⟨gb141, 1, none⟩ (.int .u32 ((rd_T27 l0 x7_1).f1))).setCell ⟨gb141, 2, none⟩ (.int .u32 ((rd_T27 l0 x7_1).f2))).setCell ⟨gb141, 3, none⟩ (.int .i64 ((rd_T27 l0 x7_1).f3))).setCell ⟨gb141, 4, none⟩ (.int .u32 ((rd_T27 l0 x7_1).f4))).setCell ⟨gb141, 5, none⟩ (.slice A140_5 ((rd_T27 l0 x7_1).f5).length c140_5)).heap[gb141]? = some (.cells #[.int .u32 ((rd_T27 l0 x7_1).f0), .int .u32 ((rd_T27 l0 x7_1).f1), .int .u32 ((rd_T27 l0 x7_1).f2), .int .i64 ((rd_T27 l0 x7_1).f3), .int .u32 ((rd_T27 l0 x7_1).f4), .slice A140_5 ((rd_T27 l0 x7_1).f5).length c140_5] 27 (0, 0))) := ⟨by (with_reducible repeat (first | refine bn_ ?_ _ | refine bd_ ?_ | refine ba_ ?_ _)); refine blk_put (cs := #[.int .u32 ((rd_T27 l0 x7_1).f0), .int .u32 ((rd_T27 l0 x7_1).f1), .int .u32 ((rd_T27 l0 x7_1).f2), .int .i64 ((rd_T27 l0 x7_1).f3), .int .u32 ((rd_T27 l0 x7_1).f4), .slice none 0 0]) ?_ 5 _ rfl; (with_reducible repeat (first | refine bn_ ?_ _ | refine bd_ ?_ | refine ba_ ?_ _)); refine blk_put (cs := #[.int .u32 ((rd_T27 l0 x7_1).f0), .int .u32 ((rd_T27 l0 x7_1).f1), .int .u32 ((rd_T27 l0 x7_1).f2), .int .i64 ((rd_T27 l0 x7_1).f3), .int .u32 0, .slice none 0 0]) ?_ 4 _ rfl; (with_reducible repeat (first | refine bn_ ?_ _ | refine bd_ ?_ | refine ba_ ?_ _)); refine blk_put (cs := #[.int .u32 ((rd_T27 l0 x7_1).f0), .int .u32 ((rd_T27 l0 x7_1).f1), .int .u32 ((rd_T27 l0 x7_1).f2), .int .i64 0, .int .u32 0, .slice none 0 0]) ?_ 3 _ rfl; (with_reducible repeat (first | refine bn_ ?_ _ | refine bd_ ?_ | refine ba_ ?_ _)); refine blk_put (cs := #[.int .u32 ((rd_T27 l0 x7_1).f0), .int .u32 ((rd_T27 l0 x7_1).f1), .int .u32 0, .int .i64 0, .int .u32 0, .slice none 0 0]) ?_ 2 _ rfl; (with_reducible repeat (first | refine bn_ ?_ _ | refine bd_ ?_ | refine ba_ ?_ _)); refine blk_put (cs := #[.int .u32 ((rd_T27 l0 x7_1).f0), .int .u32 0, .int .u32 0, .int .i64 0, .int .u32 0, .slice none 0 0]) ?_ 1 _ rfl; (with_reducible repeat (first | refine bn_ ?_ _ | refine bd_ ?_ | refine ba_ ?_ _)); refine blk_put (cs := #[.int .u32 0, .int .u32 0, .int .u32 0, .int .i64 0, .int .u32 0, .slice none 0 0]) ?_ 0 _ rfl; (with_reducible repeat (first | refine bn_ ?_ _ | refine bd_ ?_ | refine ba_ ?_ _)); exact BK141.out⟩
       have n1_ : Aside0 (Below w.heap.size w ((((((w47.setCell ⟨gb141, 0, none⟩ (.int .u32 ((rd_T27 l0 x7_1).f0))).setCell ⟨gb141, 1, none⟩ (.int .u32 ((rd_T27 l0 x7_1).f1))).setCell ⟨gb141, 2, none⟩ (.int .u32 ((rd_T27 l0 x7_1).f2))).setCell ⟨gb141, 3, none⟩ (.int .i64 ((rd_T27 l0 x7_1).f3))).setCell ⟨gb141, 4, none⟩ (.int .u32 ((rd_T27 l0 x7_1).f4))).setCell ⟨gb141, 5, none⟩ (.slice A140_5 ((rd_T27 l0 x7_1).f5).length c140_5))) := ⟨by repeat (first | (with_reducible first | exact HB.out | apply pa_ | apply pn_ | apply pd_ | refine below_set ?_ GE141.out) | exact HB.out)⟩
       (try clear BK141)
       (try clear HB)
       generalize ((((((w47.setCell ⟨gb141, 0, none⟩ (.int .u32 ((rd_T27 l0 x7_1).f0))).setCell ⟨gb141, 1, none⟩ (.int .u32 ((rd_T27 l0 x7_1).f1))).setCell ⟨gb141, 2, none⟩ (.int .u32 ((rd_T27 l0 x7_1).f2))).setCell ⟨gb141, 3, none⟩ (.int .i64 ((rd_T27 l0 x7_1).f3))).setCell ⟨gb141, 4, none⟩ (.int .u32 ((rd_T27 l0 x7_1).f4))).setCell ⟨gb141, 5, none⟩ (.slice A140_5 ((rd_T27 l0 x7_1).f5).length c140_5)) = w49 at n0_ n1_ ⊢
       have BK141 := n0_
       have HB := n1_
       clear n0_ n1_
       have n0_ := m_ (bd_ BK141.out)
       have n1_ := m_ (pd_ HB.out)
       clear BK141
       clear HB
       have BK141 := n0_
       have HB := n1_
       clear n0_ n1_
       refine start_ (n := 29) (S := fun w' => w'.cell? ⟨gb141, 0, none⟩ = some (.int .u32 ((rd_T27 l0 x7_1).f0)) ∧ w'.cell? ⟨gb141, 1, none⟩ = some (.int .u32 ((rd_T27 l0 x7_1).f1)) ∧ w'.cell? ⟨gb141, 2, none⟩ = some (.int .u32 ((rd_T27 l0 x7_1).f2)) ∧ w'.cell? ⟨gb141, 3, none⟩ = some (.int .i64 ((rd_T27 l0 x7_1).f3)) ∧ w'.cell? ⟨gb141, 4, none⟩ = some (.int .u32 ((rd_T27 l0 x7_1).f4)) ∧ w'.cell? ⟨gb141, 5, none⟩ = some (.slice A140_5 ((rd_T27 l0 x7_1).f5).length c140_5)) (ds := []) (bs_ 29 0) (by kernel_rfl) rfl rfl ⟨(bc_ BK141.out 0).trans rfl, (bc_ BK141.out 1).trans rfl, (bc_ BK141.out 2).trans rfl, (bc_ BK141.out 3).trans rfl, (bc_ BK141.out 4).trans rfl, (bc_ BK141.out 5).trans rfl⟩ (fun hHeld => ?_); refine with_tabW flow_Table.tab4 flow_Table.bits4 (fun HT_ HW_ => ?_)
       generalize w49.drew = w50 at BK141 HB hHeld ⊢
       refine take_ (i := 0) (N := some 12) (v := ?_) (a' := ?_) (bs_ 29 1) rfl rfl (take_ofW HT_.out HW_.out (by kernel_rfl)) (fun _ _ _ h => h) (Or.inl ⟨by rfl, ?_⟩) hHeld ?_ ?_
       rotate_left
       ·rintro w' ⟨s0, s1, s2, s3, s4, s5⟩
        (try simp only [add_plain] at s0 s1 s2 s3 s4 s5)
        go_simp
        with_reducible rfl
       rotate_left
       ·simp only [Act.put, a1_, a2_, a3_, i64_w, i32_w]
        rfl
       refine one_ (i := 1) (N := some 13) (bs_ 29 3) rfl rfl (one_of HT_.out (by kernel_rfl)) (by decide) (fun K hK => ?_)
       refine goes_ Try.func16 (by kernel_rfl) rfl #[.agg #[.int .u32 ((rd_T27 l0 x7_1).f0), .int .u32 ((rd_T27 l0 x7_1).f1), .int .u32 ((rd_T27 l0 x7_1).f2), .int .i64 ((rd_T27 l0 x7_1).f3), .int .u32 ((rd_T27 l0 x7_1).f4), .slice A140_5 ((rd_T27 l0 x7_1).f5).length c140_5]] (by rfl) rfl rfl (by (try simp only [List.map_toArray, List.map_cons, List.map_nil]); first | done | rfl | (simp only [List.length_drop, List.length_take]; rfl)) ?_
       with_reducible refine (flow_Right.calls k1 ((rd_T27 l0 x7_1).f0) ((rd_T27 l0 x7_1).f1) ((rd_T27 l0 x7_1).f2) ((rd_T27 l0 x7_1).f3) ((rd_T27 l0 x7_1).f4) _ _ ((rd_T27 l0 x7_1).f5) false _ ?side1 ?side2 A5.out).mono ?_
       (case side1 => repeat (first | exact (Kd.C_below HR140_5.out HB.out) | (with_reducible refine Kd.C_alloc ?_ _) | (with_reducible refine Kd.C_drewN ?_ _) | (with_reducible refine Kd.C_drew ?_)))
       (case side2 => exact HC140_5.out)
       rintro e w51 ⟨rfl, hb⟩
       refine ⟨_, rfl, ?_⟩
       have n0_ := m_ (blk_below (g := gb141) (o := .cells #[.int .u32 ((rd_T27 l0 x7_1).f0), .int .u32 ((rd_T27 l0 x7_1).f1), .int .u32 ((rd_T27 l0 x7_1).f2), .int .i64 ((rd_T27 l0 x7_1).f3), .int .u32 ((rd_T27 l0 x7_1).f4), .slice A140_5 ((rd_T27 l0 x7_1).f5).length c140_5] 27 (0, 0)) (by (with_reducible repeat (first | refine bn_ ?_ _ | refine bd_ ?_ | refine ba_ ?_ _)); exact BK141.out) hb)
       have n1_ := m_ (below_step (by repeat (first | (with_reducible first | exact HB.out | apply pa_ | apply pn_ | apply pd_ | refine below_set ?_ GE141.out) | exact HB.out)) hb)
       clear BK141
       clear HB
       have BK141 := n0_
       have HB := n1_
       clear n0_ n1_
       (try clear hb)
       (try clear hb2)
       (try clear hk)
       (try clear hi)
       refine hK.out _ _ ⟨(bc_ BK141.out 0).trans rfl, (bc_ BK141.out 1).trans rfl, (bc_ BK141.out 2).trans rfl, (bc_ BK141.out 3).trans rfl, (bc_ BK141.out 4).trans rfl, (bc_ BK141.out 5).trans rfl⟩ (fun hHeld => ?_)
       clear hK K
       refine norm_ (a' := ?_) ?_ ?_
       rotate_left
       ·show Act.put _ (some 13) _ = _
        simp only [Act.put, a1_, a2_, a3_, i64_w, i32_w]
        rfl
       refine pure_ (i := 2) (N := some 14) (v := ?_) (a' := ?_) (bs_ 29 7) rfl rfl (any_of HT_.out (by kernel_rfl)) (fun _ _ _ h => h) (Or.inl ⟨by rfl, ?_⟩) ?_ ?_
       rotate_left
       ·intro w'
        go_simp
        with_reducible rfl
       rotate_left
       ·simp only [Act.put, a1_, a2_, a3_, i64_w, i32_w]
        rfl
       refine pure_ (i := 3) (N := some 15) (v := ?_) (a' := ?_) (bs_ 29 15) rfl rfl (any_of HT_.out (by kernel_rfl)) (fun _ _ _ h => h) (Or.inl ⟨by rfl, ?_⟩) ?_ ?_
       rotate_left
       ·intro w'
        go_simp
        with_reducible rfl
       rotate_left
       ·simp only [Act.put, a1_, a2_, a3_, i64_w, i32_w]
        rfl
       refine pure_ (i := 4) (N := some 16) (v := undef) (a' := ?_) (bs_ 29 31) rfl rfl (any_of HT_.out (by kernel_rfl)) (fun _ _ _ h => h) (Or.inr ⟨by rfl, rfl⟩) ?_ ?_
       rotate_left
       ·simp only [Act.put, a1_, a2_, a3_, i64_w, i32_w]
        rfl
       refine pure_ (i := 5) (N := some 17) (v := undef) (a' := ?_) (bs_ 29 63) rfl rfl (any_of HT_.out (by kernel_rfl)) (fun _ _ _ h => h) (Or.inr ⟨by rfl, rfl⟩) ?_ ?_
       rotate_left
       ·simp only [Act.put, a1_, a2_, a3_, i64_w, i32_w]
        rfl
       refine pure_ (i := 6) (N := some 18) (v := undef) (a' := ?_) (bs_ 29 127) rfl rfl (any_of HT_.out (by kernel_rfl)) (fun _ _ _ h => h) (Or.inr ⟨by rfl, rfl⟩) ?_ ?_
       rotate_left
       ·simp only [Act.put, a1_, a2_, a3_, i64_w, i32_w]
        rfl
       refine pure_ (i := 7) (N := some 19) (v := undef) (a' := ?_) (bs_ 29 255) rfl rfl (any_of HT_.out (by kernel_rfl)) (fun _ _ _ h => h) (Or.inr ⟨by rfl, rfl⟩) ?_ ?_
       rotate_left
       ·simp only [Act.put, a1_, a2_, a3_, i64_w, i32_w]
        rfl
       refine pure_ (i := 8) (N := some 20) (v := undef) (a' := ?_) (bs_ 29 511) rfl rfl (any_of HT_.out (by kernel_rfl)) (fun _ _ _ h => h) (Or.inr ⟨by rfl, rfl⟩) ?_ ?_
       rotate_left
       ·simp only [Act.put, a1_, a2_, a3_, i64_w, i32_w]
        rfl
       refine pure_ (i := 9) (N := some 21) (v := undef) (a' := ?_) (bs_ 29 1023) rfl rfl (any_of HT_.out (by kernel_rfl)) (fun _ _ _ h => h) (Or.inr ⟨by rfl, rfl⟩) ?_ ?_
       rotate_left
       ·simp only [Act.put, a1_, a2_, a3_, i64_w, i32_w]
        rfl
       refine pure_ (i := 10) (N := some 22) (v := undef) (a' := ?_) (bs_ 29 2047) rfl rfl (any_of HT_.out (by kernel_rfl)) (fun _ _ _ h => h) (Or.inr ⟨by rfl, rfl⟩) ?_ ?_
       rotate_left
       ·simp only [Act.put, a1_, a2_, a3_, i64_w, i32_w]
        rfl
       refine pure_ (i := 11) (N := some 23) (v := undef) (a' := ?_) (bs_ 29 4095) rfl rfl (any_of HT_.out (by kernel_rfl)) (fun _ _ _ h => h) (Or.inr ⟨by rfl, rfl⟩) ?_ ?_
       rotate_left
       ·simp only [Act.put, a1_, a2_, a3_, i64_w, i32_w]
        rfl
       refine pure_ (i := 12) (N := some 24) (v := undef) (a' := ?_) (bs_ 29 8191) rfl rfl (any_of HT_.out (by kernel_rfl)) (fun _ _ _ h => h) (Or.inr ⟨by rfl, rfl⟩) ?_ ?_
       rotate_left
       ·simp only [Act.put, a1_, a2_, a3_, i64_w, i32_w]
        rfl
       refine pure_ (i := 13) (N := some 25) (v := undef) (a' := ?_) (bs_ 29 16383) rfl rfl (any_of HT_.out (by kernel_rfl)) (fun _ _ _ h => h) (Or.inr ⟨by rfl, rfl⟩) ?_ ?_
       rotate_left
       ·simp only [Act.put, a1_, a2_, a3_, i64_w, i32_w]
        rfl
       refine pure_ (i := 14) (N := some 26) (v := undef) (a' := ?_) (bs_ 29 32767) rfl rfl (any_of HT_.out (by kernel_rfl)) (fun _ _ _ h => h) (Or.inr ⟨by rfl, rfl⟩) ?_ ?_
       rotate_left
       ·simp only [Act.put, a1_, a2_, a3_, i64_w, i32_w]
        rfl
       refine pure_ (i := 15) (N := some 27) (v := undef) (a' := ?_) (bs_ 29 65535) rfl rfl (any_of HT_.out (by kernel_rfl)) (fun _ _ _ h => h) (Or.inr ⟨by rfl, rfl⟩) ?_ ?_
       rotate_left
       ·simp only [Act.put, a1_, a2_, a3_, i64_w, i32_w]
        rfl
       refine pure_ (i := 16) (N := some 28) (v := undef) (a' := ?_) (bs_ 29 131071) rfl rfl (any_of HT_.out (by kernel_rfl)) (fun _ _ _ h => h) (Or.inr ⟨by rfl, rfl⟩) ?_ ?_
       rotate_left
       ·simp only [Act.put, a1_, a2_, a3_, i64_w, i32_w]
        rfl
       refine pure_ (i := 17) (N := some 29) (v := undef) (a' := ?_) (bs_ 29 262143) rfl rfl (any_of HT_.out (by kernel_rfl)) (fun _ _ _ h => h) (Or.inr ⟨by rfl, rfl⟩) ?_ ?_
       rotate_left
       ·simp only [Act.put, a1_, a2_, a3_, i64_w, i32_w]
        rfl
       refine pure_ (i := 18) (N := some 30) (v := undef) (a' := ?_) (bs_ 29 524287) rfl rfl (any_of HT_.out (by kernel_rfl)) (fun _ _ _ h => h) (Or.inr ⟨by rfl, rfl⟩) ?_ ?_
       rotate_left
       ·simp only [Act.put, a1_, a2_, a3_, i64_w, i32_w]
        rfl
       refine pure_ (i := 19) (N := some 31) (v := undef) (a' := ?_) (bs_ 29 1048575) rfl rfl (any_of HT_.out (by kernel_rfl)) (fun _ _ _ h => h) (Or.inr ⟨by rfl, rfl⟩) ?_ ?_
       rotate_left
       ·simp only [Act.put, a1_, a2_, a3_, i64_w, i32_w]
        rfl
       refine pure_ (i := 20) (N := some 32) (v := undef) (a' := ?_) (bs_ 29 2097151) rfl rfl (any_of HT_.out (by kernel_rfl)) (fun _ _ _ h => h) (Or.inr ⟨by rfl, rfl⟩) ?_ ?_
       rotate_left
       ·simp only [Act.put, a1_, a2_, a3_, i64_w, i32_w]
        rfl
       refine pure_ (i := 21) (N := some 33) (v := undef) (a' := ?_) (bs_ 29 4194303) rfl rfl (any_of HT_.out (by kernel_rfl)) (fun _ _ _ h => h) (Or.inr ⟨by rfl, rfl⟩) ?_ ?_
       rotate_left
       ·simp only [Act.put, a1_, a2_, a3_, i64_w, i32_w]
        rfl
       refine pure_ (i := 22) (N := some 34) (v := undef) (a' := ?_) (bs_ 29 8388607) rfl rfl (any_of HT_.out (by kernel_rfl)) (fun _ _ _ h => h) (Or.inr ⟨by rfl, rfl⟩) ?_ ?_
       rotate_left
       ·simp only [Act.put, a1_, a2_, a3_, i64_w, i32_w]
        rfl
       refine pure_ (i := 23) (N := some 35) (v := undef) (a' := ?_) (bs_ 29 16777215) rfl rfl (any_of HT_.out (by kernel_rfl)) (fun _ _ _ h => h) (Or.inr ⟨by rfl, rfl⟩) ?_ ?_
       rotate_left
       ·simp only [Act.put, a1_, a2_, a3_, i64_w, i32_w]
        rfl
       refine pure_ (i := 24) (N := some 36) (v := undef) (a' := ?_) (bs_ 29 33554431) rfl rfl (any_of HT_.out (by kernel_rfl)) (fun _ _ _ h => h) (Or.inr ⟨by rfl, rfl⟩) ?_ ?_
       rotate_left
       ·simp only [Act.put, a1_, a2_, a3_, i64_w, i32_w]
        rfl
       refine pure_ (i := 25) (N := some 37) (v := undef) (a' := ?_) (bs_ 29 67108863) rfl rfl (any_of HT_.out (by kernel_rfl)) (fun _ _ _ h => h) (Or.inr ⟨by rfl, rfl⟩) ?_ ?_
       rotate_left
       ·simp only [Act.put, a1_, a2_, a3_, i64_w, i32_w]
        rfl
       refine pure_ (i := 26) (N := some 38) (v := undef) (a' := ?_) (bs_ 29 134217727) rfl rfl (any_of HT_.out (by kernel_rfl)) (fun _ _ _ h => h) (Or.inr ⟨by rfl, rfl⟩) ?_ ?_
       rotate_left
       ·simp only [Act.put, a1_, a2_, a3_, i64_w, i32_w]
        rfl
       refine pure_ (i := 27) (N := some 39) (v := undef) (a' := ?_) (bs_ 29 268435455) rfl rfl (any_of HT_.out (by kernel_rfl)) (fun _ _ _ h => h) (Or.inr ⟨by rfl, rfl⟩) ?_ ?_
       rotate_left
       ·simp only [Act.put, a1_, a2_, a3_, i64_w, i32_w]
        rfl
       refine pure_ (i := 28) (N := some 40) (v := ?_) (a' := ?_) (bs_ 29 536870911) rfl rfl (any_of HT_.out (by kernel_rfl)) (fun _ _ _ h => h) (Or.inl ⟨by rfl, ?_⟩) ?_ ?_
       rotate_left
       ·intro w'
        go_simp
        with_reducible rfl
       rotate_left
       ·simp only [Act.put, a1_, a2_, a3_, i64_w, i32_w]
        rfl
       refine done_ (done_of HT_.out (by kernel_rfl)) ?_
       try go_wp2
       go_ret
       exact ⟨by first | rfl | (simp [errW_none, errW_some] <;> rfl) | (simp [*, errW_none, errW_some] <;> rfl), by repeat (first | (with_reducible first | exact HB.out | apply pa_ | apply pn_ | apply pd_ | refine below_set ?_ GE141.out) | exact HB.out)⟩
     ·rw [if_neg c4] at H
      exact absurd H (by simp)
    ·rw [if_neg c3] at H
     exact absurd H (by simp)
   ·rw [if_neg c2] at H
    have c2b0 : decide (x7_1 < (l0.length : Int)) = false := decide_eq_false c2
    clear c2
    obtain rfl := Option.some.inj H
    go_wp2
    go_ret
    exact ⟨by first | rfl | (simp [errW_none, errW_some] <;> rfl) | (simp [*, errW_none, errW_some] <;> rfl), by repeat (first | (with_reducible first | exact HB.out | apply pa_ | apply pn_ | apply pd_) | exact HB.out)⟩

end Go.Proofs.Yteibolilodgjnaa.P

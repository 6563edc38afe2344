/- For each Go function a Lean function, and the proof that a call comes to what it tells: made by program out of the translation (the kit's print, with texts by hand put in). No condition. -/
import Derived.Test.YtboonfidioombaaSq
import Derived.Test.YtboonfidioombaaPx0
import Derived.Test.YtboonfidioombaaPx13
import Derived.Test.YtboonfidioombaaPx14
import Derived.Test.YtboonfidioombaaPx19
import Derived.Test.YtboonfidioombaaPx25
namespace Go.Proofs.Ytboonfidioombaa.P
open Go.RowKit Go.Proofs.Ytboonfidioombaa.HRows Go.Proofs.YtboonfidioombaaW.PrintWords Go.Proofs.YtboonfidioombaaW.PrintLast Go.Proofs.YtboonfidioombaaW.PrintMore
attribute [local go_sem] max2_int min2_int max_two min_two max_three min_three max_four min_four   -- for this text's walks alone
set_option linter.unusedVariables false
set_option linter.unusedSimpArgs false

/-! ### stolonlaw16_OfmsgApart: function 10 -/
def stolonlaw16_OfmsgApart.j0 : Nat → Bool → List Int → List Int → Bool → Int → Int → Int → Int → Int → Int → Int → List (S59) → Int → Bool → List Int → Int → Int → Int → Int → Int → Int → Int → List (S59) → Int → Bool → List Int → Option (Bool)
 | 0, _, _, _, _, _, _, _, _, _, _, _, _, _, _, _, _, _, _, _, _, _, _, _, _, _, _ => none
 | k + 1, x5, x6, x8, x45, x797000, x797001, x797002, x797003, x797004, x797005, x797006, x797007, x797008, x797009, x797010, x798000, x798001, x798002, x798003, x798004, x798005, x798006, x798007, x798008, x798009, x798010 => if x45 = true then (some x5) else (if x5 = true then ((stolonref01_Same.f k x6 x8).bind fun t807 => ((stolonref16_Same.f k x797000 x797001 x797002 x797003 x797004 x797005 x797006 x797007 x797008 x797009 x797010 x798000 x798001 x798002 x798003 x798004 x798005 x798006 x798007 x798008 x798009 x798010).bind fun t808 => (some (t807 == t808)))) else (some false))
def stolonlaw16_OfmsgApart.f (k : Nat) (a0_0 : Int) (a0_1 : Int) (a0_2 : Int) (a0_3 : Int) (a0_4 : Int) (a0_5 : Int) (a0_6 : Int) (l0_7 : List (S59)) (a0_8 : Int) (a0_9 : Bool) (l0_10 : List Int) (a1_0 : Int) (a1_1 : Int) (a1_2 : Int) (a1_3 : Int) (a1_4 : Int) (a1_5 : Int) (a1_6 : Int) (l1_7 : List (S59)) (a1_8 : Int) (a1_9 : Bool) (l1_10 : List Int) : Option (Bool) := (stolonlaw16_shown.f k).bind fun t798 => (if (wrap64 ((wrap64 ((wrap64 ((l0_10.length : Int) + (l0_7.length : Int))) + (l1_10.length : Int))) + (l1_7.length : Int))) > 3000 then (some t798) else ((ofmsg_Encode.f k a0_0 a0_1 a0_2 a0_3 a0_4 a0_5 a0_6 l0_7 a0_8 a0_9 l0_10).bind fun bt799 => ((ofmsg_Encode.f k a1_0 a1_1 a1_2 a1_3 a1_4 a1_5 a1_6 l1_7 a1_8 a1_9 l1_10).bind fun bt803 => (if bt799.2 = 0 then (stolonlaw16_OfmsgApart.j0 k t798 bt799.1 bt803.1 (bt803.2 != 0) a0_0 a0_1 a0_2 a0_3 a0_4 a0_5 a0_6 l0_7 a0_8 a0_9 l0_10 a1_0 a1_1 a1_2 a1_3 a1_4 a1_5 a1_6 l1_7 a1_8 a1_9 l1_10) else (stolonlaw16_OfmsgApart.j0 k t798 bt799.1 bt803.1 true a0_0 a0_1 a0_2 a0_3 a0_4 a0_5 a0_6 l0_7 a0_8 a0_9 l0_10 a1_0 a1_1 a1_2 a1_3 a1_4 a1_5 a1_6 l1_7 a1_8 a1_9 l1_10)))))
theorem stolonlaw16_OfmsgApart.mono_l : ∀ k, (∀ y0 y1 y2 y3 y4 y5 y6 y7 y8 y9 y10 y11 y12 y13 y14 y15 y16 y17 y18 y19 y20 y21 y22 y23 y24 y25, LeO (stolonlaw16_OfmsgApart.j0 k y0 y1 y2 y3 y4 y5 y6 y7 y8 y9 y10 y11 y12 y13 y14 y15 y16 y17 y18 y19 y20 y21 y22 y23 y24 y25) (stolonlaw16_OfmsgApart.j0 (k + 1) y0 y1 y2 y3 y4 y5 y6 y7 y8 y9 y10 y11 y12 y13 y14 y15 y16 y17 y18 y19 y20 y21 y22 y23 y24 y25))
 | 0 => fun _ _ _ _ _ _ _ _ _ _ _ _ _ _ _ _ _ _ _ _ _ _ _ _ _ _ r h => by simp [stolonlaw16_OfmsgApart.j0] at h
 | k + 1 => by
  have ih0 := stolonlaw16_OfmsgApart.mono_l k
  ·intro y0 y1 y2 y3 y4 y5 y6 y7 y8 y9 y10 y11 y12 y13 y14 y15 y16 y17 y18 y19 y20 y21 y22 y23 y24 y25
   unfold stolonlaw16_OfmsgApart.j0
   repeat' first
   | (with_reducible exact ih0 _ _ _ _ _ _ _ _ _ _ _ _ _ _ _ _ _ _ _ _ _ _ _ _ _ _)
   | (with_reducible exact ofmsg_Encode.mono _ _ _ _ _ _ _ _ _ _ _ _)
   | (with_reducible exact stolonlaw16_shown.mono _)
   | (with_reducible exact stolonref01_Same.mono _ _ _)
   | (with_reducible exact stolonref16_Same.mono _ _ _ _ _ _ _ _ _ _ _ _ _ _ _ _ _ _ _ _ _ _ _)
   | (with_reducible exact LeO.refl _)
   | (with_reducible exact LeO.none _)
   | (with_reducible refine LeO.ite ?_ ?_)
   | (with_reducible refine LeO.bind ?_ (fun _ => ?_))
   | exact ih0 _ _ _ _ _ _ _ _ _ _ _ _ _ _ _ _ _ _ _ _ _ _ _ _ _ _
   | exact ofmsg_Encode.mono _ _ _ _ _ _ _ _ _ _ _ _
   | exact stolonlaw16_shown.mono _
   | exact stolonref01_Same.mono _ _ _
   | exact stolonref16_Same.mono _ _ _ _ _ _ _ _ _ _ _ _ _ _ _ _ _ _ _ _ _ _ _
   | exact LeO.none _
   | refine LeO.ite ?_ ?_
   | refine LeO.bind ?_ (fun _ => ?_)
theorem stolonlaw16_OfmsgApart.mono : ∀ a0 a1 a2 a3 a4 a5 a6 a7 a8 a9 a10 a11 a12 a13 a14 a15 a16 a17 a18 a19 a20 a21 k, LeO (stolonlaw16_OfmsgApart.f k a0 a1 a2 a3 a4 a5 a6 a7 a8 a9 a10 a11 a12 a13 a14 a15 a16 a17 a18 a19 a20 a21) (stolonlaw16_OfmsgApart.f (k + 1) a0 a1 a2 a3 a4 a5 a6 a7 a8 a9 a10 a11 a12 a13 a14 a15 a16 a17 a18 a19 a20 a21) := by
 intro a0 a1 a2 a3 a4 a5 a6 a7 a8 a9 a10 a11 a12 a13 a14 a15 a16 a17 a18 a19 a20 a21 k
 have ih0 := stolonlaw16_OfmsgApart.mono_l k
 unfold stolonlaw16_OfmsgApart.f
 repeat' first
   | (with_reducible exact ih0 _ _ _ _ _ _ _ _ _ _ _ _ _ _ _ _ _ _ _ _ _ _ _ _ _ _)
   | (with_reducible exact ofmsg_Encode.mono _ _ _ _ _ _ _ _ _ _ _ _)
   | (with_reducible exact stolonlaw16_shown.mono _)
   | (with_reducible exact stolonref01_Same.mono _ _ _)
   | (with_reducible exact stolonref16_Same.mono _ _ _ _ _ _ _ _ _ _ _ _ _ _ _ _ _ _ _ _ _ _ _)
   | (with_reducible exact LeO.refl _)
   | (with_reducible exact LeO.none _)
   | (with_reducible refine LeO.ite ?_ ?_)
   | (with_reducible refine LeO.bind ?_ (fun _ => ?_))
   | exact ih0 _ _ _ _ _ _ _ _ _ _ _ _ _ _ _ _ _ _ _ _ _ _ _ _ _ _
   | exact ofmsg_Encode.mono _ _ _ _ _ _ _ _ _ _ _ _
   | exact stolonlaw16_shown.mono _
   | exact stolonref01_Same.mono _ _ _
   | exact stolonref16_Same.mono _ _ _ _ _ _ _ _ _ _ _ _ _ _ _ _ _ _ _ _ _ _ _
   | exact LeO.none _
   | refine LeO.ite ?_ ?_
   | refine LeO.bind ?_ (fun _ => ?_)
def stolonlaw16_OfmsgApart.T8 : Bool × List (List Nat × List Nat) := (true, [([], []), ([0], [0]), ([1], [1]), ([1], [1]), ([2, 3, 1, 1], [1, 2, 3]), ([1], [1]), ([1], [1]), ([5, 6, 4, 1], [1, 5, 6]), ([4, 7, 1], [1, 4, 7]), ([1, 8], [1, 8]), ([9, 7, 0, 1, 2, 3, 4, 5, 6, 7, 8, 9], [9])])
def stolonlaw16_OfmsgApart.B8 : List Nat := [0, 1, 3, 3, 15, 3, 3, 127, 255, 511, 1023]
theorem stolonlaw16_OfmsgApart.tab8 : rtab .any (opsOf Try.f10 8) = stolonlaw16_OfmsgApart.T8 := by kernel_rfl
theorem stolonlaw16_OfmsgApart.bits8 : waitsOk stolonlaw16_OfmsgApart.T8.2 stolonlaw16_OfmsgApart.B8 = true := by kernel_rfl
set_option maxHeartbeats 8000000 in
set_option maxRecDepth 100000 in
theorem stolonlaw16_OfmsgApart.calls (k : Nat) (a0_0 : Int) (a0_1 : Int) (a0_2 : Int) (a0_3 : Int) (a0_4 : Int) (a0_5 : Int) (a0_6 : Int) (A0_7 : Option Addr) (c0_7 : Nat) (l0_7 : List (S59)) (a0_8 : Int) (a0_9 : Bool) (A0_10 : Option Addr) (c0_10 : Nat) (l0_10 : List Int) (a1_0 : Int) (a1_1 : Int) (a1_2 : Int) (a1_3 : Int) (a1_4 : Int) (a1_5 : Int) (a1_6 : Int) (A1_7 : Option Addr) (c1_7 : Nat) (l1_7 : List (S59)) (a1_8 : Int) (a1_9 : Bool) (A1_10 : Option Addr) (c1_10 : Nat) (l1_10 : List Int) (r : Bool) (w : World) (hr0_7 : Kd.C k59 w A0_7 l0_7.length l0_7) (hc0_7 : l0_7.length ≤ c0_7) (hr0_10 : Kd.C (Kd.int .u8) w A0_10 l0_10.length l0_10) (hc0_10 : l0_10.length ≤ c0_10) (hr1_7 : Kd.C k59 w A1_7 l1_7.length l1_7) (hc1_7 : l1_7.length ≤ c1_7) (hr1_10 : Kd.C (Kd.int .u8) w A1_10 l1_10.length l1_10) (hc1_10 : l1_10.length ≤ c1_10) (hTrue : Aside0 (r = true)) (h : stolonlaw16_OfmsgApart.f k a0_0 a0_1 a0_2 a0_3 a0_4 a0_5 a0_6 l0_7 a0_8 a0_9 l0_10 a1_0 a1_1 a1_2 a1_3 a1_4 a1_5 a1_6 l1_7 a1_8 a1_9 l1_10 = some r) :
  Calls Try.prog 10 #[.agg #[.int .u8 a0_0, .int .u32 a0_1, .int .u32 a0_2, .int .u32 a0_3, .int .u32 a0_4, .int .i64 a0_5, .int .u32 a0_6, .slice A0_7 l0_7.length c0_7, .int .i64 a0_8, .bool a0_9, .slice A0_10 l0_10.length c0_10], .agg #[.int .u8 a1_0, .int .u32 a1_1, .int .u32 a1_2, .int .u32 a1_3, .int .u32 a1_4, .int .i64 a1_5, .int .u32 a1_6, .slice A1_7 l1_7.length c1_7, .int .i64 a1_8, .bool a1_9, .slice A1_10 l1_10.length c1_10]] w fun e w' => e = .returned (.bool r) ∧ Below w.heap.size w w' := by
 have hu29 := Try.underlying29
 have HR0_7 := m_ hr0_7
 have HC0_7 := m_ hc0_7
 clear hr0_7 hc0_7
 have HR0_10 := m_ hr0_10
 have HC0_10 := m_ hc0_10
 clear hr0_10 hc0_10
 have HR1_7 := m_ hr1_7
 have HC1_7 := m_ hc1_7
 clear hr1_7 hc1_7
 have HR1_10 := m_ hr1_10
 have HC1_10 := m_ hc1_10
 clear hr1_10 hc1_10
 have HB := m_ (Below.refl w.heap.size w)
 have H : ((stolonlaw16_shown.f k).bind fun t798 => (if (wrap64 ((wrap64 ((wrap64 ((l0_10.length : Int) + (l0_7.length : Int))) + (l1_10.length : Int))) + (l1_7.length : Int))) > 3000 then (some t798) else ((ofmsg_Encode.f k a0_0 a0_1 a0_2 a0_3 a0_4 a0_5 a0_6 l0_7 a0_8 a0_9 l0_10).bind fun bt799 => ((ofmsg_Encode.f k a1_0 a1_1 a1_2 a1_3 a1_4 a1_5 a1_6 l1_7 a1_8 a1_9 l1_10).bind fun bt803 => (if bt799.2 = 0 then (stolonlaw16_OfmsgApart.j0 k t798 bt799.1 bt803.1 (bt803.2 != 0) a0_0 a0_1 a0_2 a0_3 a0_4 a0_5 a0_6 l0_7 a0_8 a0_9 l0_10 a1_0 a1_1 a1_2 a1_3 a1_4 a1_5 a1_6 l1_7 a1_8 a1_9 l1_10) else (stolonlaw16_OfmsgApart.j0 k t798 bt799.1 bt803.1 true a0_0 a0_1 a0_2 a0_3 a0_4 a0_5 a0_6 l0_7 a0_8 a0_9 l0_10 a1_0 a1_1 a1_2 a1_3 a1_4 a1_5 a1_6 l1_7 a1_8 a1_9 l1_10)))))) = some r := h
 clear h
 replace H := Option.bind_eq_some_iff.mp H
 obtain ⟨t798, A30, H⟩ := H
 replace H : (if (wrap64 ((wrap64 ((wrap64 ((l0_10.length : Int) + (l0_7.length : Int))) + (l1_10.length : Int))) + (l1_7.length : Int))) > 3000 then (some t798) else ((ofmsg_Encode.f k a0_0 a0_1 a0_2 a0_3 a0_4 a0_5 a0_6 l0_7 a0_8 a0_9 l0_10).bind fun bt799 => ((ofmsg_Encode.f k a1_0 a1_1 a1_2 a1_3 a1_4 a1_5 a1_6 l1_7 a1_8 a1_9 l1_10).bind fun bt803 => (if bt799.2 = 0 then (stolonlaw16_OfmsgApart.j0 k t798 bt799.1 bt803.1 (bt803.2 != 0) a0_0 a0_1 a0_2 a0_3 a0_4 a0_5 a0_6 l0_7 a0_8 a0_9 l0_10 a1_0 a1_1 a1_2 a1_3 a1_4 a1_5 a1_6 l1_7 a1_8 a1_9 l1_10) else (stolonlaw16_OfmsgApart.j0 k t798 bt799.1 bt803.1 true a0_0 a0_1 a0_2 a0_3 a0_4 a0_5 a0_6 l0_7 a0_8 a0_9 l0_10 a1_0 a1_1 a1_2 a1_3 a1_4 a1_5 a1_6 l1_7 a1_8 a1_9 l1_10))))) = some r := H
 have A3 := m_ A30
 clear A30
 by_cases c4 : (wrap64 ((wrap64 ((wrap64 ((l0_10.length : Int) + (l0_7.length : Int))) + (l1_10.length : Int))) + (l1_7.length : Int))) > 3000
 ·rw [if_pos c4] at H
  have c4b0 : decide (3000 < (wrap64 ((wrap64 ((wrap64 ((l0_10.length : Int) + (l0_7.length : Int))) + (l1_10.length : Int))) + (l1_7.length : Int)))) = true := decide_eq_true c4
  clear c4
  obtain rfl := Option.some.inj H
  go_enter Try.func10, Try.ntmps10
  go_wp2_with (first | ((with_reducible refine gate_dst (N := 2) rfl ?_); refine bx_ 2 29 #[.int .u8 a0_0, .int .u32 a0_1, .int .u32 a0_2, .int .u32 a0_3, .int .u32 a0_4, .int .i64 a0_5, .int .u32 a0_6, .slice A0_7 l0_7.length c0_7, .int .i64 a0_8, .bool a0_9, .slice A0_10 l0_10.length c0_10] ?_; intro gb796 hg w5 hbox hb; have BK796 := m_ (hbox); have GW796 := m_ ((gw_ : w.heap.size ≤ gb796)); have GE796 := m_ ((gw_ : w.heap.size ≤ gb796)); replace HB := m_ (below_step bz_ hb); clear hb hbox hg) | ((with_reducible refine gate_dst (N := 3) rfl ?_); refine bx_ 3 29 #[.int .u8 a1_0, .int .u32 a1_1, .int .u32 a1_2, .int .u32 a1_3, .int .u32 a1_4, .int .i64 a1_5, .int .u32 a1_6, .slice A1_7 l1_7.length c1_7, .int .i64 a1_8, .bool a1_9, .slice A1_10 l1_10.length c1_10] ?_; intro gb797 hg w6 hbox hb; have BK797 := m_ (hbox); have GW797 := m_ ((gw_ : w.heap.size ≤ gb797)); have GE797 := m_ ((gw_ : w.heap.size ≤ gb797)); have NB796_797 := m_ ((gl_ : gb796 ≠ gb797)); have NB797_796 := m_ ((gr_ : gb797 ≠ gb796)); replace BK796 := m_ (kl_ gb796 hb); replace HB := m_ (below_step bz_ hb); clear hb hbox hg) | ((with_reducible refine gate_callee (f := 11) rfl ?_); refine gL_ (some 10) Try.func11 #[] ?_; (with_reducible refine (stolonlaw16_shown.calls k  t798 _ A3.out).mono ?_); rintro e w7 ⟨rfl, hb⟩; refine ⟨_, rfl, ?_⟩; replace BK796 := m_ (kl_ gb796 hb); replace BK797 := m_ (kl_ gb797 hb); replace HB := m_ (below_step bz_ hb); (try clear hb); (try clear hb2); (try clear hk); (try clear hi); have hnb8 := NB796_797.out; have hnc8 := NB797_796.out; have hcz9 := cz11_ BK796.out; have hcz10 := cz11_ BK797.out))
  go_ret
  exact ⟨by first | rfl | (simp [errW_none, errW_some] <;> rfl) | (simp [*, errW_none, errW_some] <;> rfl), by repeat (first | (with_reducible first | exact HB.out | apply below_alloc | apply pw_below_drewN | apply below_drew1 | refine below_set ?_ GE796.out | refine below_set ?_ GE797.out) | exact HB.out)⟩
 ·rw [if_neg c4] at H
  have c4b0 : decide (3000 < (wrap64 ((wrap64 ((wrap64 ((l0_10.length : Int) + (l0_7.length : Int))) + (l1_10.length : Int))) + (l1_7.length : Int)))) = false := decide_eq_false c4
  clear c4
  replace H := Option.bind_eq_some_iff.mp H
  obtain ⟨⟨t799, t802⟩, A110, H⟩ := H
  replace H : ((ofmsg_Encode.f k a1_0 a1_1 a1_2 a1_3 a1_4 a1_5 a1_6 l1_7 a1_8 a1_9 l1_10).bind fun bt803 => (if t802 = 0 then (stolonlaw16_OfmsgApart.j0 k t798 t799 bt803.1 (bt803.2 != 0) a0_0 a0_1 a0_2 a0_3 a0_4 a0_5 a0_6 l0_7 a0_8 a0_9 l0_10 a1_0 a1_1 a1_2 a1_3 a1_4 a1_5 a1_6 l1_7 a1_8 a1_9 l1_10) else (stolonlaw16_OfmsgApart.j0 k t798 t799 bt803.1 true a0_0 a0_1 a0_2 a0_3 a0_4 a0_5 a0_6 l0_7 a0_8 a0_9 l0_10 a1_0 a1_1 a1_2 a1_3 a1_4 a1_5 a1_6 l1_7 a1_8 a1_9 l1_10))) = some r := H
  have A11 := m_ A110
  clear A110
  replace H := Option.bind_eq_some_iff.mp H
  obtain ⟨⟨t803, t806⟩, A120, H⟩ := H
  replace H : (if t802 = 0 then (stolonlaw16_OfmsgApart.j0 k t798 t799 t803 (t806 != 0) a0_0 a0_1 a0_2 a0_3 a0_4 a0_5 a0_6 l0_7 a0_8 a0_9 l0_10 a1_0 a1_1 a1_2 a1_3 a1_4 a1_5 a1_6 l1_7 a1_8 a1_9 l1_10) else (stolonlaw16_OfmsgApart.j0 k t798 t799 t803 true a0_0 a0_1 a0_2 a0_3 a0_4 a0_5 a0_6 l0_7 a0_8 a0_9 l0_10 a1_0 a1_1 a1_2 a1_3 a1_4 a1_5 a1_6 l1_7 a1_8 a1_9 l1_10)) = some r := H
  have A12 := m_ A120
  clear A120
  have HC13 := m_ H
  clear H
  go_enter Try.func10, Try.ntmps10
  go_upto_region 6 with (first | ((with_reducible refine gate_dst (N := 2) rfl ?_); refine bx_ 2 29 #[.int .u8 a0_0, .int .u32 a0_1, .int .u32 a0_2, .int .u32 a0_3, .int .u32 a0_4, .int .i64 a0_5, .int .u32 a0_6, .slice A0_7 l0_7.length c0_7, .int .i64 a0_8, .bool a0_9, .slice A0_10 l0_10.length c0_10] ?_; intro gb796 hg w14 hbox hb; have BK796 := m_ (hbox); have GW796 := m_ ((gw_ : w.heap.size ≤ gb796)); have GE796 := m_ ((gw_ : w.heap.size ≤ gb796)); replace HB := m_ (below_step bz_ hb); clear hb hbox hg) | ((with_reducible refine gate_dst (N := 3) rfl ?_); refine bx_ 3 29 #[.int .u8 a1_0, .int .u32 a1_1, .int .u32 a1_2, .int .u32 a1_3, .int .u32 a1_4, .int .i64 a1_5, .int .u32 a1_6, .slice A1_7 l1_7.length c1_7, .int .i64 a1_8, .bool a1_9, .slice A1_10 l1_10.length c1_10] ?_; intro gb797 hg w15 hbox hb; have BK797 := m_ (hbox); have GW797 := m_ ((gw_ : w.heap.size ≤ gb797)); have GE797 := m_ ((gw_ : w.heap.size ≤ gb797)); have NB796_797 := m_ ((gl_ : gb796 ≠ gb797)); have NB797_796 := m_ ((gr_ : gb797 ≠ gb796)); replace BK796 := m_ (kl_ gb796 hb); replace HB := m_ (below_step bz_ hb); clear hb hbox hg) | ((with_reducible refine gate_callee (f := 11) rfl ?_); refine gL_ (some 10) Try.func11 #[] ?_; (with_reducible refine (stolonlaw16_shown.calls k  t798 _ A3.out).mono ?_); rintro e w16 ⟨rfl, hb⟩; refine ⟨_, rfl, ?_⟩; replace BK796 := m_ (kl_ gb796 hb); replace BK797 := m_ (kl_ gb797 hb); replace HB := m_ (below_step bz_ hb); (try clear hb); (try clear hb2); (try clear hk); (try clear hi); have hnb17 := NB796_797.out; have hnc17 := NB797_796.out; have hcz18 := cz11_ BK796.out; have hcz19 := cz11_ BK797.out) | ((with_reducible refine gate_callee (f := 12) rfl ?_); refine gL_ (some 32) Try.func12 #[.agg #[.int .u8 a0_0, .int .u32 a0_1, .int .u32 a0_2, .int .u32 a0_3, .int .u32 a0_4, .int .i64 a0_5, .int .u32 a0_6, .slice A0_7 l0_7.length c0_7, .int .i64 a0_8, .bool a0_9, .slice A0_10 l0_10.length c0_10]] ?_; (with_reducible refine (ofmsg_Encode.calls k a0_0 a0_1 a0_2 a0_3 a0_4 a0_5 a0_6 _ _ l0_7 a0_8 a0_9 _ _ l0_10 t799 t802 _ ?side1 ?side2 ?side3 ?side4 A11.out).mono ?_); (case side1 => exact Cd_ (Kd.C_below HR0_7.out HB.out)); (case side2 => exact HC0_7.out); (case side3 => exact Cd_ (Kd.C_below HR0_10.out HB.out)); (case side4 => exact HC0_10.out); rintro e w20 ⟨v800, rfl, ho0, hb⟩; refine ⟨_, rfl, ?_⟩; have HO801 := m_ (Kd.R_lower ho0 (below_size bz_)); replace BK796 := m_ (kl_ gb796 hb); replace BK797 := m_ (kl_ gb797 hb); replace HB := m_ (below_step bz_ hb); (try clear hb); (try clear hb2); (try clear hk); (try clear hi); (try clear ho0); have hcz21 := cz11_ BK797.out) | ((with_reducible refine gate_callee (f := 12) rfl ?_); refine gL_ (some 37) Try.func12 #[.agg #[.int .u8 a1_0, .int .u32 a1_1, .int .u32 a1_2, .int .u32 a1_3, .int .u32 a1_4, .int .i64 a1_5, .int .u32 a1_6, .slice A1_7 l1_7.length c1_7, .int .i64 a1_8, .bool a1_9, .slice A1_10 l1_10.length c1_10]] ?_; (with_reducible refine (ofmsg_Encode.calls k a1_0 a1_1 a1_2 a1_3 a1_4 a1_5 a1_6 _ _ l1_7 a1_8 a1_9 _ _ l1_10 t803 t806 _ ?side1 ?side2 ?side3 ?side4 A12.out).mono ?_); (case side1 => exact Cd_ (Kd.C_below HR1_7.out HB.out)); (case side2 => exact HC1_7.out); (case side3 => exact Cd_ (Kd.C_below HR1_10.out HB.out)); (case side4 => exact HC1_10.out); rintro e w22 ⟨v804, rfl, ho0, hb⟩; refine ⟨_, rfl, ?_⟩; have HO805 := m_ (Kd.R_lower (Kd.R_new' ho0 (Kd.R_lt (Rz_ HO801.out))) (below_size bz_)); replace HO801 := m_ (Kd.R_elder' (Rz_ HO801.out) (Kd.R_base ho0) hb); replace BK796 := m_ (kl_ gb796 hb); replace BK797 := m_ (kl_ gb797 hb); replace HB := m_ (below_step bz_ hb); (try clear hb); (try clear hb2); (try clear hk); (try clear hi); (try clear ho0)))
  (try simp only [Act.put, List.setIfInBounds_toArray, List.set_cons_zero, List.set_cons_succ])
  go_cut [45] (fun v45 wc => ∃ (kq : Nat) (x45_12 : Bool), v45 = .bool x45_12 ∧ Aside0 (stolonlaw16_OfmsgApart.j0 kq t798 t799 t803 x45_12 a0_0 a0_1 a0_2 a0_3 a0_4 a0_5 a0_6 l0_7 a0_8 a0_9 l0_10 a1_0 a1_1 a1_2 a1_3 a1_4 a1_5 a1_6 l1_7 a1_8 a1_9 l1_10 = some r) ∧ Aside0 (kq ≤ k) ∧ Aside0 (Kd.R (Kd.int .u8) 5 wc w.heap.size (fun k_ => some k_ ≠ (v804 : Value).ownBlock) v800 t799) ∧ Aside0 (Kd.R (Kd.int .u8) 5 wc w.heap.size (fun k_ => some k_ ≠ (v800 : Value).ownBlock) v804 t803) ∧ Aside0 (wc.heap[gb796]? = some (.cells #[.int .u8 a0_0, .int .u32 a0_1, .int .u32 a0_2, .int .u32 a0_3, .int .u32 a0_4, .int .i64 a0_5, .int .u32 a0_6, (.slice A0_7 l0_7.length c0_7), .int .i64 a0_8, .bool a0_9, (.slice A0_10 l0_10.length c0_10)] 29 (0, 0))) ∧ Aside0 (wc.heap[gb797]? = some (.cells #[.int .u8 a1_0, .int .u32 a1_1, .int .u32 a1_2, .int .u32 a1_3, .int .u32 a1_4, .int .i64 a1_5, .int .u32 a1_6, (.slice A1_7 l1_7.length c1_7), .int .i64 a1_8, .bool a1_9, (.slice A1_10 l1_10.length c1_10)] 29 (0, 0))) ∧ Aside0 (Below w.heap.size w wc))
  case first =>
   have H := HC13.out
   clear HC13
   by_cases c23 : t802 = 0
   ·rw [if_pos c23] at H
    have c23b0 : (t802 == 0) = true := beq_iff_eq.mpr c23
    have c23b1 : (t802 != 0) = false := bne_eq_false_iff_eq.mpr c23
    clear c23
    (first | rw [c23b0] | (simp only [i64_w, i32_w]; rw [c23b0]) | skip)
    have H' := m_ H
    clear H
    go_wp2
    go_meet
    case rel => exact ⟨_, ((t806 != 0)), (by first | rfl | (simp; done) | (simp [*]; done)), H', ⟨by first | omega | exact Nat.le_refl _⟩, ⟨Ry_ (Kd.R_mono HO801.out (fun _ hk => hk.2))⟩, ⟨Ry_ (Kd.R_mono HO805.out (fun _ hk => hk.2))⟩, ⟨kz_⟩, ⟨kz_⟩, ⟨bz_⟩⟩
   ·rw [if_neg c23] at H
    have c23b0 : (t802 == 0) = false := beq_eq_false_iff_ne.mpr c23
    have c23b1 : (t802 != 0) = true := bne_iff_ne.mpr c23
    (first | rw [c23b0] | (simp only [i64_w, i32_w]; rw [c23b0]) | skip)
    have H' := m_ H
    clear H
    go_wp2
    go_meet
    case rel => exact ⟨_, (true), (by first | rfl | (simp; done) | (simp [*]; done)), H', ⟨by first | omega | exact Nat.le_refl _⟩, ⟨Ry_ (Kd.R_mono HO801.out (fun _ hk => hk.2))⟩, ⟨Ry_ (Kd.R_mono HO805.out (fun _ hk => hk.2))⟩, ⟨kz_⟩, ⟨kz_⟩, ⟨bz_⟩⟩
  case rest =>
   clear HC13
   try clear c1
   try clear c2
   try clear p2
   try clear c4
   try clear c4b0
   try clear p6
   try clear c8
   try clear c10
   try clear c11
   try clear c12
   try clear c17
   try clear c23
   try clear c23b0
   try clear c23b1
   (try clear hcz10)
   (try clear hcz18)
   (try clear hcz19)
   (try clear hcz21)
   (try clear hcz9)
   obtain ⟨kq, x45_12, rfl, HA, HJ12, HO_6, HO_8, BK796, BK797, HB⟩ := hcut
   cases kq with
   | zero => exact absurd HA.out (by simp [stolonlaw16_OfmsgApart.j0])
   | succ kj12 =>
    have H := HA.out
    clear HA
    simp only [stolonlaw16_OfmsgApart.j0] at H
    by_cases c24 : x45_12 = true
    ·subst c24
     have H1 : (some t798) = some r := by rw [if_pos rfl] at H; exact H
     clear H
     have H := H1
     clear H1
     obtain rfl := Option.some.inj H
     go_wp2
     go_ret
     exact ⟨by first | rfl | (simp [errW_none, errW_some] <;> rfl) | (simp [*, errW_none, errW_some] <;> rfl), by repeat (first | (with_reducible first | exact HB.out | apply below_alloc | apply pw_below_drewN | apply below_drew1 | refine below_set ?_ GE796.out | refine below_set ?_ GE797.out) | exact HB.out)⟩
    ·replace c24 := Bool.eq_false_iff.mpr c24
     subst c24
     have H1 : (if t798 = true then ((stolonref01_Same.f kj12 t799 t803).bind fun t807 => ((stolonref16_Same.f kj12 a0_0 a0_1 a0_2 a0_3 a0_4 a0_5 a0_6 l0_7 a0_8 a0_9 l0_10 a1_0 a1_1 a1_2 a1_3 a1_4 a1_5 a1_6 l1_7 a1_8 a1_9 l1_10).bind fun t808 => (some (t807 == t808)))) else (some false)) = some r := by rw [if_neg (show ¬ (false = true) by decide)] at H; exact H
     clear H
     have H := H1
     clear H1
     by_cases c25 : t798 = true
     ·subst c25
      have H1 : ((stolonref01_Same.f kj12 t799 t803).bind fun t807 => ((stolonref16_Same.f kj12 a0_0 a0_1 a0_2 a0_3 a0_4 a0_5 a0_6 l0_7 a0_8 a0_9 l0_10 a1_0 a1_1 a1_2 a1_3 a1_4 a1_5 a1_6 l1_7 a1_8 a1_9 l1_10).bind fun t808 => (some (t807 == t808)))) = some r := by rw [if_pos rfl] at H; exact H
      clear H
      have H := H1
      clear H1
      replace H := Option.bind_eq_some_iff.mp H
      obtain ⟨t807, A260, H⟩ := H
      replace H : ((stolonref16_Same.f kj12 a0_0 a0_1 a0_2 a0_3 a0_4 a0_5 a0_6 l0_7 a0_8 a0_9 l0_10 a1_0 a1_1 a1_2 a1_3 a1_4 a1_5 a1_6 l1_7 a1_8 a1_9 l1_10).bind fun t808 => (some (t807 == t808))) = some r := H
      have A26 := m_ A260
      clear A260
      replace H := Option.bind_eq_some_iff.mp H
      obtain ⟨t808, A270, H⟩ := H
      replace H : (some (t807 == t808)) = some r := H
      have A27 := m_ A270
      clear A270
      obtain rfl := Option.some.inj H
      try go_wp2
      replace HO_6 := m_ (Kd.R_drew HO_6.out)
      replace HO_8 := m_ (Kd.R_drew HO_8.out)
      replace BK796 := m_ (blk_drew BK796.out)
      replace BK797 := m_ (blk_drew BK797.out)
      replace HB := m_ (below_drew1 HB.out)
      obtain ⟨Ao29, co29, eo29⟩ := Kd.R_slice HO_6.out
      (first | subst eo29 | (injection eo29 with f1_ f2_ f3_; have f4_ := f1_.symm; have f5_ := f3_.symm; clear f1_ f2_ f3_; subst f4_; subst f5_))
      obtain ⟨Ao30, co30, eo30⟩ := Kd.R_slice HO_8.out
      (first | subst eo30 | (injection eo30 with f1_ f2_ f3_; have f4_ := f1_.symm; have f5_ := f3_.symm; clear f1_ f2_ f3_; subst f4_; subst f5_))
      refine start_ (n := 11) (S := fun w' => w'.cell? ⟨gb796, 0, none⟩ = some (.int .u8 a0_0) ∧ w'.cell? ⟨gb796, 1, none⟩ = some (.int .u32 a0_1) ∧ w'.cell? ⟨gb796, 2, none⟩ = some (.int .u32 a0_2) ∧ w'.cell? ⟨gb796, 3, none⟩ = some (.int .u32 a0_3) ∧ w'.cell? ⟨gb796, 4, none⟩ = some (.int .u32 a0_4) ∧ w'.cell? ⟨gb796, 5, none⟩ = some (.int .i64 a0_5) ∧ w'.cell? ⟨gb796, 6, none⟩ = some (.int .u32 a0_6) ∧ w'.cell? ⟨gb796, 7, none⟩ = some (.slice A0_7 l0_7.length c0_7) ∧ w'.cell? ⟨gb796, 8, none⟩ = some (.int .i64 a0_8) ∧ w'.cell? ⟨gb796, 9, none⟩ = some (.bool a0_9) ∧ w'.cell? ⟨gb796, 10, none⟩ = some (.slice A0_10 l0_10.length c0_10) ∧ w'.cell? ⟨gb797, 0, none⟩ = some (.int .u8 a1_0) ∧ w'.cell? ⟨gb797, 1, none⟩ = some (.int .u32 a1_1) ∧ w'.cell? ⟨gb797, 2, none⟩ = some (.int .u32 a1_2) ∧ w'.cell? ⟨gb797, 3, none⟩ = some (.int .u32 a1_3) ∧ w'.cell? ⟨gb797, 4, none⟩ = some (.int .u32 a1_4) ∧ w'.cell? ⟨gb797, 5, none⟩ = some (.int .i64 a1_5) ∧ w'.cell? ⟨gb797, 6, none⟩ = some (.int .u32 a1_6) ∧ w'.cell? ⟨gb797, 7, none⟩ = some (.slice A1_7 l1_7.length c1_7) ∧ w'.cell? ⟨gb797, 8, none⟩ = some (.int .i64 a1_8) ∧ w'.cell? ⟨gb797, 9, none⟩ = some (.bool a1_9) ∧ w'.cell? ⟨gb797, 10, none⟩ = some (.slice A1_10 l1_10.length c1_10)) (ds := []) (bs_ 11 0) (by kernel_rfl) rfl rfl ⟨(blk_cell BK796.out 0).trans rfl, (blk_cell BK796.out 1).trans rfl, (blk_cell BK796.out 2).trans rfl, (blk_cell BK796.out 3).trans rfl, (blk_cell BK796.out 4).trans rfl, (blk_cell BK796.out 5).trans rfl, (blk_cell BK796.out 6).trans rfl, (blk_cell BK796.out 7).trans rfl, (blk_cell BK796.out 8).trans rfl, (blk_cell BK796.out 9).trans rfl, (blk_cell BK796.out 10).trans rfl, (blk_cell BK797.out 0).trans rfl, (blk_cell BK797.out 1).trans rfl, (blk_cell BK797.out 2).trans rfl, (blk_cell BK797.out 3).trans rfl, (blk_cell BK797.out 4).trans rfl, (blk_cell BK797.out 5).trans rfl, (blk_cell BK797.out 6).trans rfl, (blk_cell BK797.out 7).trans rfl, (blk_cell BK797.out 8).trans rfl, (blk_cell BK797.out 9).trans rfl, (blk_cell BK797.out 10).trans rfl⟩ (fun hHeld => ?_); refine with_tabW stolonlaw16_OfmsgApart.tab8 stolonlaw16_OfmsgApart.bits8 (fun HT_ HW_ => ?_)
      generalize wc.drew = w28 at HO_6 HO_8 BK796 BK797 HB hHeld ⊢
      refine pz_ 0 47 ?_
      refine pz_ 1 48 ?_
      refine pz_ 2 49 ?_
      refine pz_ 3 50 ?_
      refine tz_ 5 52 ?_
      refine tz_ 6 53 ?_
      refine oz_ 4 (some 51) (fun K hK => ?_)
      refine gz_ Try.func16 #[.slice Ao29 t799.length co29, .slice Ao30 t803.length co30] ?_
      with_reducible refine (stolonref01_Same.calls kj12 _ _ t799 _ _ t803 t807 _ ?side1 ?side2 ?side3 ?side4 A26.out).mono ?_
      (case side1 => exact Cd_ (Kd.R_reads' HO_6.out).2.2)
      (case side2 => exact (Kd.R_reads' HO_6.out).2.1)
      (case side3 => exact Cd_ (Kd.R_reads' HO_8.out).2.2)
      (case side4 => exact (Kd.R_reads' HO_8.out).2.1)
      rintro e w' ⟨rfl, ⟨nd, rfl⟩⟩
      refine ⟨_, rfl, ?_⟩
      refine hK.out _ _ ⟨(blk_cell BK796.out 0).trans rfl, (blk_cell BK796.out 1).trans rfl, (blk_cell BK796.out 2).trans rfl, (blk_cell BK796.out 3).trans rfl, (blk_cell BK796.out 4).trans rfl, (blk_cell BK796.out 5).trans rfl, (blk_cell BK796.out 6).trans rfl, (blk_cell BK796.out 7).trans rfl, (blk_cell BK796.out 8).trans rfl, (blk_cell BK796.out 9).trans rfl, (blk_cell BK796.out 10).trans rfl, (blk_cell BK797.out 0).trans rfl, (blk_cell BK797.out 1).trans rfl, (blk_cell BK797.out 2).trans rfl, (blk_cell BK797.out 3).trans rfl, (blk_cell BK797.out 4).trans rfl, (blk_cell BK797.out 5).trans rfl, (blk_cell BK797.out 6).trans rfl, (blk_cell BK797.out 7).trans rfl, (blk_cell BK797.out 8).trans rfl, (blk_cell BK797.out 9).trans rfl, (blk_cell BK797.out 10).trans rfl⟩ (fun hHeld => ?_)
      clear hK K
      refine nz_ (some 51) ?_
      refine oz_ 7 (some 54) (fun K hK => ?_)
      refine gz_ Try.func18 #[.agg #[.int .u8 a0_0, .int .u32 a0_1, .int .u32 a0_2, .int .u32 a0_3, .int .u32 a0_4, .int .i64 a0_5, .int .u32 a0_6, .slice A0_7 l0_7.length c0_7, .int .i64 a0_8, .bool a0_9, .slice A0_10 l0_10.length c0_10], .agg #[.int .u8 a1_0, .int .u32 a1_1, .int .u32 a1_2, .int .u32 a1_3, .int .u32 a1_4, .int .i64 a1_5, .int .u32 a1_6, .slice A1_7 l1_7.length c1_7, .int .i64 a1_8, .bool a1_9, .slice A1_10 l1_10.length c1_10]] ?_
      with_reducible refine (stolonref16_Same.calls kj12 a0_0 a0_1 a0_2 a0_3 a0_4 a0_5 a0_6 _ _ l0_7 a0_8 a0_9 _ _ l0_10 a1_0 a1_1 a1_2 a1_3 a1_4 a1_5 a1_6 _ _ l1_7 a1_8 a1_9 _ _ l1_10 t808 _ ?side1 ?side2 ?side3 ?side4 ?side5 ?side6 ?side7 ?side8 A27.out).mono ?_
      (case side1 => exact Cd_ (Kd.C_below HR0_7.out bz_))
      (case side2 => exact HC0_7.out)
      (case side3 => exact Cd_ (Kd.C_below HR0_10.out bz_))
      (case side4 => exact HC0_10.out)
      (case side5 => exact Cd_ (Kd.C_below HR1_7.out bz_))
      (case side6 => exact HC1_7.out)
      (case side7 => exact Cd_ (Kd.C_below HR1_10.out bz_))
      (case side8 => exact HC1_10.out)
      rintro e w31 ⟨rfl, hb⟩
      refine ⟨_, rfl, ?_⟩
      replace HO_6 := m_ (Kd.R_below (Rz_ HO_6.out) hb)
      replace HO_8 := m_ (Kd.R_below (Rz_ HO_8.out) hb)
      replace BK796 := m_ (kl_ gb796 hb)
      replace BK797 := m_ (kl_ gb797 hb)
      replace HB := m_ (below_step bz_ hb)
      (try clear hb)
      (try clear hb2)
      (try clear hk)
      (try clear hi)
      refine hK.out _ _ ⟨(blk_cell BK796.out 0).trans rfl, (blk_cell BK796.out 1).trans rfl, (blk_cell BK796.out 2).trans rfl, (blk_cell BK796.out 3).trans rfl, (blk_cell BK796.out 4).trans rfl, (blk_cell BK796.out 5).trans rfl, (blk_cell BK796.out 6).trans rfl, (blk_cell BK796.out 7).trans rfl, (blk_cell BK796.out 8).trans rfl, (blk_cell BK796.out 9).trans rfl, (blk_cell BK796.out 10).trans rfl, (blk_cell BK797.out 0).trans rfl, (blk_cell BK797.out 1).trans rfl, (blk_cell BK797.out 2).trans rfl, (blk_cell BK797.out 3).trans rfl, (blk_cell BK797.out 4).trans rfl, (blk_cell BK797.out 5).trans rfl, (blk_cell BK797.out 6).trans rfl, (blk_cell BK797.out 7).trans rfl, (blk_cell BK797.out 8).trans rfl, (blk_cell BK797.out 9).trans rfl, (blk_cell BK797.out 10).trans rfl⟩ (fun hHeld => ?_)
      clear hK K
      refine nz_ (some 54) ?_
      refine pz_ 8 55 ?_
      refine pz_ 9 56 ?_
      refine pz_ 10 4 ?_
      refine dz_ ?_
      try go_wp2
      go_ret
      exact ⟨by first | rfl | (simp [errW_none, errW_some] <;> rfl) | (simp [*, errW_none, errW_some] <;> rfl), by repeat (first | (with_reducible first | exact HB.out | apply below_alloc | apply pw_below_drewN | apply below_drew1 | refine below_set ?_ GE796.out | refine below_set ?_ GE797.out) | exact HB.out)⟩
     ·replace c25 := Bool.eq_false_iff.mpr c25
      subst c25
      have H1 : (some false) = some r := by rw [if_neg (show ¬ (false = true) by decide)] at H; exact H
      clear H
      have H := H1
      clear H1
      exact absurd ((Option.some.inj H).trans hTrue.out) (by simp)

end Go.Proofs.Ytboonfidioombaa.P

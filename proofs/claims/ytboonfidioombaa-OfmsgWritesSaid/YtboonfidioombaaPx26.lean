/- For each Go function a Lean function, and the proof that a call comes to what it tells: made by program out of the translation (the kit's print, with texts by hand put in). No condition. -/
import Derived.Test.YtboonfidioombaaSq
import Derived.Test.YtboonfidioombaaPx0
import Derived.Test.YtboonfidioombaaPx6
import Derived.Test.YtboonfidioombaaPx9
import Derived.Test.YtboonfidioombaaPx13
import Derived.Test.YtboonfidioombaaPx14
import Derived.Test.YtboonfidioombaaPx19
import Derived.Test.YtboonfidioombaaPx21
import Derived.Test.YtboonfidioombaaPx23
import Derived.Test.YtboonfidioombaaPx25
namespace Go.Proofs.Ytboonfidioombaa.P
open Go.RowKit Go.Proofs.Ytboonfidioombaa.HRows Go.Proofs.YtboonfidioombaaW.PrintWords Go.Proofs.YtboonfidioombaaW.PrintLast Go.Proofs.YtboonfidioombaaW.PrintMore
attribute [local go_sem] max2_int min2_int max_two min_two max_three min_three max_four min_four
set_option linter.unusedVariables false
set_option linter.unusedSimpArgs false
def stolonlaw16_OfmsgWrites.f (k : Nat) (a0_0 : Int) (a0_1 : Int) (a0_2 : Int) (a0_3 : Int) (a0_4 : Int) (a0_5 : Int) (a0_6 : Int) (l0_7 : List (S59)) (a0_8 : Int) (a0_9 : Bool) (l0_10 : List Int) (a1_0 : Int) (a1_1 : Int) (a1_2 : Int) (a1_3 : Int) (a1_4 : Int) (a1_5 : Int) (a1_6 : Int) (l1_7 : List (S59)) (a1_8 : Int) (a1_9 : Bool) (l1_10 : List Int) : Option (Bool) := (stolonlaw16_shown.f k).bind fun t480 => (if (wrap64 ((wrap64 ((wrap64 ((l0_10.length : Int) + (l1_10.length : Int))) + (l0_7.length : Int))) + (l1_7.length : Int))) > 3000 then (some t480) else ((ofmsg_Encode.f k a0_0 a0_1 a0_2 a0_3 a0_4 a0_5 a0_6 l0_7 a0_8 a0_9 l0_10).bind fun bt481 => ((stolonref16_Encode.f k a0_0 a0_1 a0_2 a0_3 a0_4 a0_5 a0_6 l0_7 a0_8 a0_9 l0_10).bind fun bt485 => (if t480 = true then ((ofmsg_Right.f k a0_0 a0_1 a0_2 a0_3 a0_4 a0_5 a0_6 l0_7 a0_8 a0_9 l0_10).bind fun t489 => ((stolonref16_Right.f k a0_0 a0_1 a0_2 a0_3 a0_4 a0_5 a0_6 l0_7 a0_8 a0_9 l0_10).bind fun t490 => (if (t489 == t490) = true then ((stolonref01_Same.f k bt481.1 bt485.1).bind fun t491 => (if t491 = true then (if bt481.2 = bt485.2 then ((ofmsg_Same.f k a0_0 a0_1 a0_2 a0_3 a0_4 a0_5 a0_6 l0_7 a0_8 a0_9 l0_10 a1_0 a1_1 a1_2 a1_3 a1_4 a1_5 a1_6 l1_7 a1_8 a1_9 l1_10).bind fun t492 => ((stolonref16_Same.f k a0_0 a0_1 a0_2 a0_3 a0_4 a0_5 a0_6 l0_7 a0_8 a0_9 l0_10 a1_0 a1_1 a1_2 a1_3 a1_4 a1_5 a1_6 l1_7 a1_8 a1_9 l1_10).bind fun t493 => (some (t492 == t493)))) else (some false)) else (some false))) else (some false)))) else (some false)))))
theorem stolonlaw16_OfmsgWrites.mono : ∀ a0 a1 a2 a3 a4 a5 a6 a7 a8 a9 a10 a11 a12 a13 a14 a15 a16 a17 a18 a19 a20 a21 k, LeO (stolonlaw16_OfmsgWrites.f k a0 a1 a2 a3 a4 a5 a6 a7 a8 a9 a10 a11 a12 a13 a14 a15 a16 a17 a18 a19 a20 a21) (stolonlaw16_OfmsgWrites.f (k + 1) a0 a1 a2 a3 a4 a5 a6 a7 a8 a9 a10 a11 a12 a13 a14 a15 a16 a17 a18 a19 a20 a21) := by
 intro a0 a1 a2 a3 a4 a5 a6 a7 a8 a9 a10 a11 a12 a13 a14 a15 a16 a17 a18 a19 a20 a21 k
 unfold stolonlaw16_OfmsgWrites.f
 repeat' first
   | (with_reducible exact ofmsg_Encode.mono _ _ _ _ _ _ _ _ _ _ _ _)
   | (with_reducible exact ofmsg_Right.mono _ _ _ _ _ _ _ _ _ _ _ _)
   | (with_reducible exact ofmsg_Same.mono _ _ _ _ _ _ _ _ _ _ _ _ _ _ _ _ _ _ _ _ _ _ _)
   | (with_reducible exact stolonlaw16_shown.mono _)
   | (with_reducible exact stolonref01_Same.mono _ _ _)
   | (with_reducible exact stolonref16_Encode.mono _ _ _ _ _ _ _ _ _ _ _ _)
   | (with_reducible exact stolonref16_Right.mono _ _ _ _ _ _ _ _ _ _ _ _)
   | (with_reducible exact stolonref16_Same.mono _ _ _ _ _ _ _ _ _ _ _ _ _ _ _ _ _ _ _ _ _ _ _)
   | (with_reducible exact LeO.refl _)
   | (with_reducible exact LeO.none _)
   | (with_reducible refine LeO.ite ?_ ?_)
   | (with_reducible refine LeO.bind ?_ (fun _ => ?_))
   | exact ofmsg_Encode.mono _ _ _ _ _ _ _ _ _ _ _ _
   | exact ofmsg_Right.mono _ _ _ _ _ _ _ _ _ _ _ _
   | exact ofmsg_Same.mono _ _ _ _ _ _ _ _ _ _ _ _ _ _ _ _ _ _ _ _ _ _ _
   | exact stolonlaw16_shown.mono _
   | exact stolonref01_Same.mono _ _ _
   | exact stolonref16_Encode.mono _ _ _ _ _ _ _ _ _ _ _ _
   | exact stolonref16_Right.mono _ _ _ _ _ _ _ _ _ _ _ _
   | exact stolonref16_Same.mono _ _ _ _ _ _ _ _ _ _ _ _ _ _ _ _ _ _ _ _ _ _ _
   | exact LeO.none _
   | refine LeO.ite ?_ ?_
   | refine LeO.bind ?_ (fun _ => ?_)
def stolonlaw16_OfmsgWrites.T6 : Bool × List (List Nat × List Nat) := (true, [([], []), ([0], [0]), ([1], [1]), ([2, 1, 1], [1, 2]), ([1], [1]), ([4, 3, 1], [1, 4]), ([3, 5, 1], [1, 3, 5]), ([1, 6], [1, 6]), ([7, 5], [7]), ([8], [8]), ([8], [8]), ([9, 10, 8, 8], [8, 9, 10]), ([8, 11], [8, 11]), ([12, 11], [12]), ([13], [13]), ([13], [13]), ([14, 15, 13], [13, 14, 15]), ([13, 16], [13, 16]), ([17, 13], [17]), ([18], [18]), ([18], [18]), ([19, 20, 18, 18], [18, 19, 20]), ([18], [18]), ([18], [18]), ([22, 23, 21, 18], [18, 22, 23]), ([21, 24, 18], [18, 21, 24]), ([18, 25], [18, 25]), ([26, 24, 0, 1, 2, 3, 4, 5, 6, 7, 8, 9, 10, 11, 12, 13, 14, 15, 16, 17, 18, 19, 20, 21, 22, 23, 24, 25, 26], [26])])
def stolonlaw16_OfmsgWrites.B6 : List Nat := [0, 1, 3, 7, 3, 31, 63, 127, 255, 511, 511, 2047, 4095, 8191, 16383, 16383, 65535, 131071, 262143, 524287, 524287, 2097151, 524287, 524287, 16777215, 33554431, 67108863, 134217727]
theorem stolonlaw16_OfmsgWrites.tab6 : rtab .any (opsOf Try.f3 6) = stolonlaw16_OfmsgWrites.T6 := by kernel_rfl
theorem stolonlaw16_OfmsgWrites.bits6 : waitsOk stolonlaw16_OfmsgWrites.T6.2 stolonlaw16_OfmsgWrites.B6 = true := by kernel_rfl
set_option maxHeartbeats 8000000 in
set_option maxRecDepth 100000 in
theorem stolonlaw16_OfmsgWrites.calls (k : Nat) (a0_0 : Int) (a0_1 : Int) (a0_2 : Int) (a0_3 : Int) (a0_4 : Int) (a0_5 : Int) (a0_6 : Int) (A0_7 : Option Addr) (c0_7 : Nat) (l0_7 : List (S59)) (a0_8 : Int) (a0_9 : Bool) (A0_10 : Option Addr) (c0_10 : Nat) (l0_10 : List Int) (a1_0 : Int) (a1_1 : Int) (a1_2 : Int) (a1_3 : Int) (a1_4 : Int) (a1_5 : Int) (a1_6 : Int) (A1_7 : Option Addr) (c1_7 : Nat) (l1_7 : List (S59)) (a1_8 : Int) (a1_9 : Bool) (A1_10 : Option Addr) (c1_10 : Nat) (l1_10 : List Int) (r : Bool) (w : World) (hr0_7 : Kd.C k59 w A0_7 l0_7.length l0_7) (hc0_7 : l0_7.length ≤ c0_7) (hr0_10 : Kd.C (Kd.int .u8) w A0_10 l0_10.length l0_10) (hc0_10 : l0_10.length ≤ c0_10) (hr1_7 : Kd.C k59 w A1_7 l1_7.length l1_7) (hc1_7 : l1_7.length ≤ c1_7) (hr1_10 : Kd.C (Kd.int .u8) w A1_10 l1_10.length l1_10) (hc1_10 : l1_10.length ≤ c1_10) (hTrue : Aside0 (r = true)) (h : stolonlaw16_OfmsgWrites.f k a0_0 a0_1 a0_2 a0_3 a0_4 a0_5 a0_6 l0_7 a0_8 a0_9 l0_10 a1_0 a1_1 a1_2 a1_3 a1_4 a1_5 a1_6 l1_7 a1_8 a1_9 l1_10 = some r) :
  Calls Try.prog 3 #[.agg #[.int .u8 a0_0, .int .u32 a0_1, .int .u32 a0_2, .int .u32 a0_3, .int .u32 a0_4, .int .i64 a0_5, .int .u32 a0_6, .slice A0_7 l0_7.length c0_7, .int .i64 a0_8, .bool a0_9, .slice A0_10 l0_10.length c0_10], .agg #[.int .u8 a1_0, .int .u32 a1_1, .int .u32 a1_2, .int .u32 a1_3, .int .u32 a1_4, .int .i64 a1_5, .int .u32 a1_6, .slice A1_7 l1_7.length c1_7, .int .i64 a1_8, .bool a1_9, .slice A1_10 l1_10.length c1_10]] w fun e w' => e = .returned (.bool r) ∧ Below w.heap.size w w' := by
 have hu29 := Try.underlying29
 have HR0_7 := m_ hr0_7
 have HC0_7 := m_ hc0_7
 clear hr0_7 hc0_7
 have HR0_10 := m_ hr0_10
 have HC0_10 := m_ hc0_10
 clear hr0_10 hc0_10
 have HR1_7 := m_ hr1_7
 have HC1_7 := m_ hc1_7
 clear hr1_7 hc1_7
 have HR1_10 := m_ hr1_10
 have HC1_10 := m_ hc1_10
 clear hr1_10 hc1_10
 have HB := m_ (Below.refl w.heap.size w)
 have H : ((stolonlaw16_shown.f k).bind fun t480 => (if (wrap64 ((wrap64 ((wrap64 ((l0_10.length : Int) + (l1_10.length : Int))) + (l0_7.length : Int))) + (l1_7.length : Int))) > 3000 then (some t480) else ((ofmsg_Encode.f k a0_0 a0_1 a0_2 a0_3 a0_4 a0_5 a0_6 l0_7 a0_8 a0_9 l0_10).bind fun bt481 => ((stolonref16_Encode.f k a0_0 a0_1 a0_2 a0_3 a0_4 a0_5 a0_6 l0_7 a0_8 a0_9 l0_10).bind fun bt485 => (if t480 = true then ((ofmsg_Right.f k a0_0 a0_1 a0_2 a0_3 a0_4 a0_5 a0_6 l0_7 a0_8 a0_9 l0_10).bind fun t489 => ((stolonref16_Right.f k a0_0 a0_1 a0_2 a0_3 a0_4 a0_5 a0_6 l0_7 a0_8 a0_9 l0_10).bind fun t490 => (if (t489 == t490) = true then ((stolonref01_Same.f k bt481.1 bt485.1).bind fun t491 => (if t491 = true then (if bt481.2 = bt485.2 then ((ofmsg_Same.f k a0_0 a0_1 a0_2 a0_3 a0_4 a0_5 a0_6 l0_7 a0_8 a0_9 l0_10 a1_0 a1_1 a1_2 a1_3 a1_4 a1_5 a1_6 l1_7 a1_8 a1_9 l1_10).bind fun t492 => ((stolonref16_Same.f k a0_0 a0_1 a0_2 a0_3 a0_4 a0_5 a0_6 l0_7 a0_8 a0_9 l0_10 a1_0 a1_1 a1_2 a1_3 a1_4 a1_5 a1_6 l1_7 a1_8 a1_9 l1_10).bind fun t493 => (some (t492 == t493)))) else (some false)) else (some false))) else (some false)))) else (some false)))))) = some r := h
 clear h
 replace H := Option.bind_eq_some_iff.mp H
 obtain ⟨t480, A30, H⟩ := H
 replace H : (if (wrap64 ((wrap64 ((wrap64 ((l0_10.length : Int) + (l1_10.length : Int))) + (l0_7.length : Int))) + (l1_7.length : Int))) > 3000 then (some t480) else ((ofmsg_Encode.f k a0_0 a0_1 a0_2 a0_3 a0_4 a0_5 a0_6 l0_7 a0_8 a0_9 l0_10).bind fun bt481 => ((stolonref16_Encode.f k a0_0 a0_1 a0_2 a0_3 a0_4 a0_5 a0_6 l0_7 a0_8 a0_9 l0_10).bind fun bt485 => (if t480 = true then ((ofmsg_Right.f k a0_0 a0_1 a0_2 a0_3 a0_4 a0_5 a0_6 l0_7 a0_8 a0_9 l0_10).bind fun t489 => ((stolonref16_Right.f k a0_0 a0_1 a0_2 a0_3 a0_4 a0_5 a0_6 l0_7 a0_8 a0_9 l0_10).bind fun t490 => (if (t489 == t490) = true then ((stolonref01_Same.f k bt481.1 bt485.1).bind fun t491 => (if t491 = true then (if bt481.2 = bt485.2 then ((ofmsg_Same.f k a0_0 a0_1 a0_2 a0_3 a0_4 a0_5 a0_6 l0_7 a0_8 a0_9 l0_10 a1_0 a1_1 a1_2 a1_3 a1_4 a1_5 a1_6 l1_7 a1_8 a1_9 l1_10).bind fun t492 => ((stolonref16_Same.f k a0_0 a0_1 a0_2 a0_3 a0_4 a0_5 a0_6 l0_7 a0_8 a0_9 l0_10 a1_0 a1_1 a1_2 a1_3 a1_4 a1_5 a1_6 l1_7 a1_8 a1_9 l1_10).bind fun t493 => (some (t492 == t493)))) else (some false)) else (some false))) else (some false)))) else (some false))))) = some r := H
 have A3 := m_ A30
 clear A30
 by_cases c4 : (wrap64 ((wrap64 ((wrap64 ((l0_10.length : Int) + (l1_10.length : Int))) + (l0_7.length : Int))) + (l1_7.length : Int))) > 3000
 ·rw [if_pos c4] at H
  have c4b0 : decide (3000 < (wrap64 ((wrap64 ((wrap64 ((l0_10.length : Int) + (l1_10.length : Int))) + (l0_7.length : Int))) + (l1_7.length : Int)))) = true := decide_eq_true c4
  clear c4
  obtain rfl := Option.some.inj H
  go_enter Try.func3, Try.ntmps3
  go_wp2_with (first | ((with_reducible refine gate_dst (N := 2) rfl ?_); refine bx_ 2 29 #[.int .u8 a0_0, .int .u32 a0_1, .int .u32 a0_2, .int .u32 a0_3, .int .u32 a0_4, .int .i64 a0_5, .int .u32 a0_6, .slice A0_7 l0_7.length c0_7, .int .i64 a0_8, .bool a0_9, .slice A0_10 l0_10.length c0_10] ?_; intro gb478 hg w5 hbox hb; have BK478 := m_ (hbox); have GW478 := m_ ((gw_ : w.heap.size ≤ gb478)); have GE478 := m_ ((gw_ : w.heap.size ≤ gb478)); replace HB := m_ (below_step bz_ hb); clear hb hbox hg) | ((with_reducible refine gate_dst (N := 3) rfl ?_); refine bx_ 3 29 #[.int .u8 a1_0, .int .u32 a1_1, .int .u32 a1_2, .int .u32 a1_3, .int .u32 a1_4, .int .i64 a1_5, .int .u32 a1_6, .slice A1_7 l1_7.length c1_7, .int .i64 a1_8, .bool a1_9, .slice A1_10 l1_10.length c1_10] ?_; intro gb479 hg w6 hbox hb; have BK479 := m_ (hbox); have GW479 := m_ ((gw_ : w.heap.size ≤ gb479)); have GE479 := m_ ((gw_ : w.heap.size ≤ gb479)); have NB478_479 := m_ ((gl_ : gb478 ≠ gb479)); have NB479_478 := m_ ((gr_ : gb479 ≠ gb478)); replace BK478 := m_ (kl_ gb478 hb); replace HB := m_ (below_step bz_ hb); clear hb hbox hg) | ((with_reducible refine gate_callee (f := 11) rfl ?_); refine gL_ (some 10) Try.func11 #[] ?_; (with_reducible refine (stolonlaw16_shown.calls k  t480 _ A3.out).mono ?_); rintro e w7 ⟨rfl, hb⟩; refine ⟨_, rfl, ?_⟩; replace BK478 := m_ (kl_ gb478 hb); replace BK479 := m_ (kl_ gb479 hb); replace HB := m_ (below_step bz_ hb); (try clear hb); (try clear hb2); (try clear hk); (try clear hi); have hnb8 := NB478_479.out; have hnc8 := NB479_478.out; have hcz9 := cz11_ BK478.out; have hcz10 := cz11_ BK479.out))
  go_ret
  exact ⟨ew_, bz_⟩
 ·rw [if_neg c4] at H
  have c4b0 : decide (3000 < (wrap64 ((wrap64 ((wrap64 ((l0_10.length : Int) + (l1_10.length : Int))) + (l0_7.length : Int))) + (l1_7.length : Int)))) = false := decide_eq_false c4
  clear c4
  replace H := Option.bind_eq_some_iff.mp H
  obtain ⟨⟨t481, t484⟩, A110, H⟩ := H
  replace H : ((stolonref16_Encode.f k a0_0 a0_1 a0_2 a0_3 a0_4 a0_5 a0_6 l0_7 a0_8 a0_9 l0_10).bind fun bt485 => (if t480 = true then ((ofmsg_Right.f k a0_0 a0_1 a0_2 a0_3 a0_4 a0_5 a0_6 l0_7 a0_8 a0_9 l0_10).bind fun t489 => ((stolonref16_Right.f k a0_0 a0_1 a0_2 a0_3 a0_4 a0_5 a0_6 l0_7 a0_8 a0_9 l0_10).bind fun t490 => (if (t489 == t490) = true then ((stolonref01_Same.f k t481 bt485.1).bind fun t491 => (if t491 = true then (if t484 = bt485.2 then ((ofmsg_Same.f k a0_0 a0_1 a0_2 a0_3 a0_4 a0_5 a0_6 l0_7 a0_8 a0_9 l0_10 a1_0 a1_1 a1_2 a1_3 a1_4 a1_5 a1_6 l1_7 a1_8 a1_9 l1_10).bind fun t492 => ((stolonref16_Same.f k a0_0 a0_1 a0_2 a0_3 a0_4 a0_5 a0_6 l0_7 a0_8 a0_9 l0_10 a1_0 a1_1 a1_2 a1_3 a1_4 a1_5 a1_6 l1_7 a1_8 a1_9 l1_10).bind fun t493 => (some (t492 == t493)))) else (some false)) else (some false))) else (some false)))) else (some false))) = some r := H
  have A11 := m_ A110
  clear A110
  replace H := Option.bind_eq_some_iff.mp H
  obtain ⟨⟨t485, t488⟩, A120, H⟩ := H
  replace H : (if t480 = true then ((ofmsg_Right.f k a0_0 a0_1 a0_2 a0_3 a0_4 a0_5 a0_6 l0_7 a0_8 a0_9 l0_10).bind fun t489 => ((stolonref16_Right.f k a0_0 a0_1 a0_2 a0_3 a0_4 a0_5 a0_6 l0_7 a0_8 a0_9 l0_10).bind fun t490 => (if (t489 == t490) = true then ((stolonref01_Same.f k t481 t485).bind fun t491 => (if t491 = true then (if t484 = t488 then ((ofmsg_Same.f k a0_0 a0_1 a0_2 a0_3 a0_4 a0_5 a0_6 l0_7 a0_8 a0_9 l0_10 a1_0 a1_1 a1_2 a1_3 a1_4 a1_5 a1_6 l1_7 a1_8 a1_9 l1_10).bind fun t492 => ((stolonref16_Same.f k a0_0 a0_1 a0_2 a0_3 a0_4 a0_5 a0_6 l0_7 a0_8 a0_9 l0_10 a1_0 a1_1 a1_2 a1_3 a1_4 a1_5 a1_6 l1_7 a1_8 a1_9 l1_10).bind fun t493 => (some (t492 == t493)))) else (some false)) else (some false))) else (some false)))) else (some false)) = some r := H
  have A12 := m_ A120
  clear A120
  by_cases c13 : t480 = true
  ·subst c13
   have H1 : ((ofmsg_Right.f k a0_0 a0_1 a0_2 a0_3 a0_4 a0_5 a0_6 l0_7 a0_8 a0_9 l0_10).bind fun t489 => ((stolonref16_Right.f k a0_0 a0_1 a0_2 a0_3 a0_4 a0_5 a0_6 l0_7 a0_8 a0_9 l0_10).bind fun t490 => (if (t489 == t490) = true then ((stolonref01_Same.f k t481 t485).bind fun t491 => (if t491 = true then (if t484 = t488 then ((ofmsg_Same.f k a0_0 a0_1 a0_2 a0_3 a0_4 a0_5 a0_6 l0_7 a0_8 a0_9 l0_10 a1_0 a1_1 a1_2 a1_3 a1_4 a1_5 a1_6 l1_7 a1_8 a1_9 l1_10).bind fun t492 => ((stolonref16_Same.f k a0_0 a0_1 a0_2 a0_3 a0_4 a0_5 a0_6 l0_7 a0_8 a0_9 l0_10 a1_0 a1_1 a1_2 a1_3 a1_4 a1_5 a1_6 l1_7 a1_8 a1_9 l1_10).bind fun t493 => (some (t492 == t493)))) else (some false)) else (some false))) else (some false)))) = some r := by rw [if_pos rfl] at H; exact H
   clear H
   have H := H1
   clear H1
   replace H := Option.bind_eq_some_iff.mp H
   obtain ⟨t489, A140, H⟩ := H
   replace H : ((stolonref16_Right.f k a0_0 a0_1 a0_2 a0_3 a0_4 a0_5 a0_6 l0_7 a0_8 a0_9 l0_10).bind fun t490 => (if (t489 == t490) = true then ((stolonref01_Same.f k t481 t485).bind fun t491 => (if t491 = true then (if t484 = t488 then ((ofmsg_Same.f k a0_0 a0_1 a0_2 a0_3 a0_4 a0_5 a0_6 l0_7 a0_8 a0_9 l0_10 a1_0 a1_1 a1_2 a1_3 a1_4 a1_5 a1_6 l1_7 a1_8 a1_9 l1_10).bind fun t492 => ((stolonref16_Same.f k a0_0 a0_1 a0_2 a0_3 a0_4 a0_5 a0_6 l0_7 a0_8 a0_9 l0_10 a1_0 a1_1 a1_2 a1_3 a1_4 a1_5 a1_6 l1_7 a1_8 a1_9 l1_10).bind fun t493 => (some (t492 == t493)))) else (some false)) else (some false))) else (some false))) = some r := H
   have A14 := m_ A140
   clear A140
   replace H := Option.bind_eq_some_iff.mp H
   obtain ⟨t490, A150, H⟩ := H
   replace H : (if (t489 == t490) = true then ((stolonref01_Same.f k t481 t485).bind fun t491 => (if t491 = true then (if t484 = t488 then ((ofmsg_Same.f k a0_0 a0_1 a0_2 a0_3 a0_4 a0_5 a0_6 l0_7 a0_8 a0_9 l0_10 a1_0 a1_1 a1_2 a1_3 a1_4 a1_5 a1_6 l1_7 a1_8 a1_9 l1_10).bind fun t492 => ((stolonref16_Same.f k a0_0 a0_1 a0_2 a0_3 a0_4 a0_5 a0_6 l0_7 a0_8 a0_9 l0_10 a1_0 a1_1 a1_2 a1_3 a1_4 a1_5 a1_6 l1_7 a1_8 a1_9 l1_10).bind fun t493 => (some (t492 == t493)))) else (some false)) else (some false))) else (some false)) = some r := H
   have A15 := m_ A150
   clear A150
   by_cases c16 : (t489 == t490) = true
   ·rw [if_pos c16] at H
    have c16b0 : (t489 == t490) = true := c16
    (try (have c16b1 : decide (t489 = t490) = true := by simpa using c16))
    (try (have c16b2 : (t489 == t490) = true := by simpa using c16))
    clear c16
    replace H := Option.bind_eq_some_iff.mp H
    obtain ⟨t491, A170, H⟩ := H
    replace H : (if t491 = true then (if t484 = t488 then ((ofmsg_Same.f k a0_0 a0_1 a0_2 a0_3 a0_4 a0_5 a0_6 l0_7 a0_8 a0_9 l0_10 a1_0 a1_1 a1_2 a1_3 a1_4 a1_5 a1_6 l1_7 a1_8 a1_9 l1_10).bind fun t492 => ((stolonref16_Same.f k a0_0 a0_1 a0_2 a0_3 a0_4 a0_5 a0_6 l0_7 a0_8 a0_9 l0_10 a1_0 a1_1 a1_2 a1_3 a1_4 a1_5 a1_6 l1_7 a1_8 a1_9 l1_10).bind fun t493 => (some (t492 == t493)))) else (some false)) else (some false)) = some r := H
    have A17 := m_ A170
    clear A170
    by_cases c18 : t491 = true
    ·subst c18
     have H1 : (if t484 = t488 then ((ofmsg_Same.f k a0_0 a0_1 a0_2 a0_3 a0_4 a0_5 a0_6 l0_7 a0_8 a0_9 l0_10 a1_0 a1_1 a1_2 a1_3 a1_4 a1_5 a1_6 l1_7 a1_8 a1_9 l1_10).bind fun t492 => ((stolonref16_Same.f k a0_0 a0_1 a0_2 a0_3 a0_4 a0_5 a0_6 l0_7 a0_8 a0_9 l0_10 a1_0 a1_1 a1_2 a1_3 a1_4 a1_5 a1_6 l1_7 a1_8 a1_9 l1_10).bind fun t493 => (some (t492 == t493)))) else (some false)) = some r := by rw [if_pos rfl] at H; exact H
     clear H
     have H := H1
     clear H1
     by_cases c19 : t484 = t488
     ·rw [if_pos c19] at H
      have c19b0 : (t484 == t488) = true := beq_iff_eq.mpr c19
      have c19b1 : (t484 != t488) = false := bne_eq_false_iff_eq.mpr c19
      clear c19
      replace H := Option.bind_eq_some_iff.mp H
      obtain ⟨t492, A200, H⟩ := H
      replace H : ((stolonref16_Same.f k a0_0 a0_1 a0_2 a0_3 a0_4 a0_5 a0_6 l0_7 a0_8 a0_9 l0_10 a1_0 a1_1 a1_2 a1_3 a1_4 a1_5 a1_6 l1_7 a1_8 a1_9 l1_10).bind fun t493 => (some (t492 == t493))) = some r := H
      have A20 := m_ A200
      clear A200
      replace H := Option.bind_eq_some_iff.mp H
      obtain ⟨t493, A210, H⟩ := H
      replace H : (some (t492 == t493)) = some r := H
      have A21 := m_ A210
      clear A210
      obtain rfl := Option.some.inj H
      go_enter Try.func3, Try.ntmps3
      try go_wp2_with (first | ((with_reducible refine gate_dst (N := 2) rfl ?_); refine bx_ 2 29 #[.int .u8 a0_0, .int .u32 a0_1, .int .u32 a0_2, .int .u32 a0_3, .int .u32 a0_4, .int .i64 a0_5, .int .u32 a0_6, .slice A0_7 l0_7.length c0_7, .int .i64 a0_8, .bool a0_9, .slice A0_10 l0_10.length c0_10] ?_; intro gb478 hg w22 hbox hb; have BK478 := m_ (hbox); have GW478 := m_ ((gw_ : w.heap.size ≤ gb478)); have GE478 := m_ ((gw_ : w.heap.size ≤ gb478)); replace HB := m_ (below_step bz_ hb); clear hb hbox hg) | ((with_reducible refine gate_dst (N := 3) rfl ?_); refine bx_ 3 29 #[.int .u8 a1_0, .int .u32 a1_1, .int .u32 a1_2, .int .u32 a1_3, .int .u32 a1_4, .int .i64 a1_5, .int .u32 a1_6, .slice A1_7 l1_7.length c1_7, .int .i64 a1_8, .bool a1_9, .slice A1_10 l1_10.length c1_10] ?_; intro gb479 hg w23 hbox hb; have BK479 := m_ (hbox); have GW479 := m_ ((gw_ : w.heap.size ≤ gb479)); have GE479 := m_ ((gw_ : w.heap.size ≤ gb479)); have NB478_479 := m_ ((gl_ : gb478 ≠ gb479)); have NB479_478 := m_ ((gr_ : gb479 ≠ gb478)); replace BK478 := m_ (kl_ gb478 hb); replace HB := m_ (below_step bz_ hb); clear hb hbox hg) | ((with_reducible refine gate_callee (f := 11) rfl ?_); refine gL_ (some 10) Try.func11 #[] ?_; (with_reducible refine (stolonlaw16_shown.calls k  true _ A3.out).mono ?_); rintro e w24 ⟨rfl, hb⟩; refine ⟨_, rfl, ?_⟩; replace BK478 := m_ (kl_ gb478 hb); replace BK479 := m_ (kl_ gb479 hb); replace HB := m_ (below_step bz_ hb); (try clear hb); (try clear hb2); (try clear hk); (try clear hi); have hnb25 := NB478_479.out; have hnc25 := NB479_478.out; have hcz26 := cz11_ BK478.out; have hcz27 := cz11_ BK479.out) | ((with_reducible refine gate_callee (f := 12) rfl ?_); refine gL_ (some 32) Try.func12 #[.agg #[.int .u8 a0_0, .int .u32 a0_1, .int .u32 a0_2, .int .u32 a0_3, .int .u32 a0_4, .int .i64 a0_5, .int .u32 a0_6, .slice A0_7 l0_7.length c0_7, .int .i64 a0_8, .bool a0_9, .slice A0_10 l0_10.length c0_10]] ?_; (with_reducible refine (ofmsg_Encode.calls k a0_0 a0_1 a0_2 a0_3 a0_4 a0_5 a0_6 _ _ l0_7 a0_8 a0_9 _ _ l0_10 t481 t484 _ ?side1 ?side2 ?side3 ?side4 A11.out).mono ?_); (case side1 => exact Cd_ (Kd.C_below HR0_7.out HB.out)); (case side2 => exact HC0_7.out); (case side3 => exact Cd_ (Kd.C_below HR0_10.out HB.out)); (case side4 => exact HC0_10.out); rintro e w28 ⟨v482, rfl, ho0, hb⟩; refine ⟨_, rfl, ?_⟩; have HO483 := m_ (Kd.R_lower ho0 (below_size bz_)); replace BK478 := m_ (kl_ gb478 hb); replace BK479 := m_ (kl_ gb479 hb); replace HB := m_ (below_step bz_ hb); (try clear hb); (try clear hb2); (try clear hk); (try clear hi); (try clear ho0); have hcz29 := cz11_ BK478.out) | ((with_reducible refine gate_callee (f := 13) rfl ?_); refine gL_ (some 37) Try.func13 #[.agg #[.int .u8 a0_0, .int .u32 a0_1, .int .u32 a0_2, .int .u32 a0_3, .int .u32 a0_4, .int .i64 a0_5, .int .u32 a0_6, .slice A0_7 l0_7.length c0_7, .int .i64 a0_8, .bool a0_9, .slice A0_10 l0_10.length c0_10]] ?_; (with_reducible refine (stolonref16_Encode.calls k a0_0 a0_1 a0_2 a0_3 a0_4 a0_5 a0_6 _ _ l0_7 a0_8 a0_9 _ _ l0_10 t485 t488 _ ?side1 ?side2 ?side3 ?side4 A12.out).mono ?_); (case side1 => exact Cd_ (Kd.C_below HR0_7.out HB.out)); (case side2 => exact HC0_7.out); (case side3 => exact Cd_ (Kd.C_below HR0_10.out HB.out)); (case side4 => exact HC0_10.out); rintro e w30 ⟨v486, rfl, ho0, hb⟩; refine ⟨_, rfl, ?_⟩; have HO487 := m_ (Kd.Q_lower (Kd.Q_new' ho0 (Kd.R_lt (Rz_ HO483.out))) (below_size bz_)); replace HO483 := m_ (Kd.R_elder' (Rz_ HO483.out) (Kd.Q_base ho0) hb); replace BK478 := m_ (kl_ gb478 hb); replace BK479 := m_ (kl_ gb479 hb); replace HB := m_ (below_step bz_ hb); (try clear hb); (try clear hb2); (try clear hk); (try clear hi); (try clear ho0)))
      replace HO483 := m_ (Kd.R_drew HO483.out)
      replace HO487 := m_ (Kd.Q_drew HO487.out)
      replace BK478 := m_ (blk_drew BK478.out)
      replace BK479 := m_ (blk_drew BK479.out)
      replace HB := m_ (below_drew1 HB.out)
      refine start_ (n := 28) (S := fun w' => w'.cell? ⟨gb478, 0, none⟩ = some (.int .u8 a0_0) ∧ w'.cell? ⟨gb478, 1, none⟩ = some (.int .u32 a0_1) ∧ w'.cell? ⟨gb478, 2, none⟩ = some (.int .u32 a0_2) ∧ w'.cell? ⟨gb478, 3, none⟩ = some (.int .u32 a0_3) ∧ w'.cell? ⟨gb478, 4, none⟩ = some (.int .u32 a0_4) ∧ w'.cell? ⟨gb478, 5, none⟩ = some (.int .i64 a0_5) ∧ w'.cell? ⟨gb478, 6, none⟩ = some (.int .u32 a0_6) ∧ w'.cell? ⟨gb478, 7, none⟩ = some (.slice A0_7 l0_7.length c0_7) ∧ w'.cell? ⟨gb478, 8, none⟩ = some (.int .i64 a0_8) ∧ w'.cell? ⟨gb478, 9, none⟩ = some (.bool a0_9) ∧ w'.cell? ⟨gb478, 10, none⟩ = some (.slice A0_10 l0_10.length c0_10) ∧ w'.cell? ⟨gb479, 0, none⟩ = some (.int .u8 a1_0) ∧ w'.cell? ⟨gb479, 1, none⟩ = some (.int .u32 a1_1) ∧ w'.cell? ⟨gb479, 2, none⟩ = some (.int .u32 a1_2) ∧ w'.cell? ⟨gb479, 3, none⟩ = some (.int .u32 a1_3) ∧ w'.cell? ⟨gb479, 4, none⟩ = some (.int .u32 a1_4) ∧ w'.cell? ⟨gb479, 5, none⟩ = some (.int .i64 a1_5) ∧ w'.cell? ⟨gb479, 6, none⟩ = some (.int .u32 a1_6) ∧ w'.cell? ⟨gb479, 7, none⟩ = some (.slice A1_7 l1_7.length c1_7) ∧ w'.cell? ⟨gb479, 8, none⟩ = some (.int .i64 a1_8) ∧ w'.cell? ⟨gb479, 9, none⟩ = some (.bool a1_9) ∧ w'.cell? ⟨gb479, 10, none⟩ = some (.slice A1_10 l1_10.length c1_10)) (ds := []) (bs_ 28 0) (by kernel_rfl) rfl rfl ⟨(blk_cell BK478.out 0).trans rfl, (blk_cell BK478.out 1).trans rfl, (blk_cell BK478.out 2).trans rfl, (blk_cell BK478.out 3).trans rfl, (blk_cell BK478.out 4).trans rfl, (blk_cell BK478.out 5).trans rfl, (blk_cell BK478.out 6).trans rfl, (blk_cell BK478.out 7).trans rfl, (blk_cell BK478.out 8).trans rfl, (blk_cell BK478.out 9).trans rfl, (blk_cell BK478.out 10).trans rfl, (blk_cell BK479.out 0).trans rfl, (blk_cell BK479.out 1).trans rfl, (blk_cell BK479.out 2).trans rfl, (blk_cell BK479.out 3).trans rfl, (blk_cell BK479.out 4).trans rfl, (blk_cell BK479.out 5).trans rfl, (blk_cell BK479.out 6).trans rfl, (blk_cell BK479.out 7).trans rfl, (blk_cell BK479.out 8).trans rfl, (blk_cell BK479.out 9).trans rfl, (blk_cell BK479.out 10).trans rfl⟩ (fun hHeld => ?_); refine with_tabW stolonlaw16_OfmsgWrites.tab6 stolonlaw16_OfmsgWrites.bits6 (fun HT_ HW_ => ?_)
      generalize w30.drew = w31 at HO483 HO487 BK478 BK479 HB hHeld ⊢
      refine pz_ 0 40 ?_
      refine pz_ 1 41 ?_
      refine tz_ 2 42 ?_
      refine tz_ 4 44 ?_
      refine oz_ 3 (some 43) (fun K hK => ?_)
      refine gz_ Try.func14 #[.agg #[.int .u8 a0_0, .int .u32 a0_1, .int .u32 a0_2, .int .u32 a0_3, .int .u32 a0_4, .int .i64 a0_5, .int .u32 a0_6, .slice A0_7 l0_7.length c0_7, .int .i64 a0_8, .bool a0_9, .slice A0_10 l0_10.length c0_10]] ?_
      with_reducible refine (ofmsg_Right.calls k a0_0 a0_1 a0_2 a0_3 a0_4 a0_5 a0_6 _ _ l0_7 a0_8 a0_9 _ _ l0_10 t489 _ ?side1 ?side2 ?side3 ?side4 A14.out).mono ?_
      (case side1 => exact Cd_ (Kd.C_below HR0_7.out HB.out))
      (case side2 => exact HC0_7.out)
      (case side3 => exact Cd_ (Kd.C_below HR0_10.out HB.out))
      (case side4 => exact HC0_10.out)
      rintro e w32 ⟨rfl, hb⟩
      refine ⟨_, rfl, ?_⟩
      replace HO483 := m_ (Kd.R_below (Rz_ HO483.out) hb)
      replace HO487 := m_ (Kd.Q_below (Qz_ HO487.out) hb)
      replace BK478 := m_ (kl_ gb478 hb)
      replace BK479 := m_ (kl_ gb479 hb)
      replace HB := m_ (below_step bz_ hb)
      (try clear hb)
      (try clear hb2)
      (try clear hk)
      (try clear hi)
      refine hK.out _ _ ⟨(blk_cell BK478.out 0).trans rfl, (blk_cell BK478.out 1).trans rfl, (blk_cell BK478.out 2).trans rfl, (blk_cell BK478.out 3).trans rfl, (blk_cell BK478.out 4).trans rfl, (blk_cell BK478.out 5).trans rfl, (blk_cell BK478.out 6).trans rfl, (blk_cell BK478.out 7).trans rfl, (blk_cell BK478.out 8).trans rfl, (blk_cell BK478.out 9).trans rfl, (blk_cell BK478.out 10).trans rfl, (blk_cell BK479.out 0).trans rfl, (blk_cell BK479.out 1).trans rfl, (blk_cell BK479.out 2).trans rfl, (blk_cell BK479.out 3).trans rfl, (blk_cell BK479.out 4).trans rfl, (blk_cell BK479.out 5).trans rfl, (blk_cell BK479.out 6).trans rfl, (blk_cell BK479.out 7).trans rfl, (blk_cell BK479.out 8).trans rfl, (blk_cell BK479.out 9).trans rfl, (blk_cell BK479.out 10).trans rfl⟩ (fun hHeld => ?_)
      clear hK K
      refine nz_ (some 43) ?_
      refine oz_ 5 (some 45) (fun K hK => ?_)
      refine gz_ Try.func15 #[.agg #[.int .u8 a0_0, .int .u32 a0_1, .int .u32 a0_2, .int .u32 a0_3, .int .u32 a0_4, .int .i64 a0_5, .int .u32 a0_6, .slice A0_7 l0_7.length c0_7, .int .i64 a0_8, .bool a0_9, .slice A0_10 l0_10.length c0_10]] ?_
      with_reducible refine (stolonref16_Right.calls k a0_0 a0_1 a0_2 a0_3 a0_4 a0_5 a0_6 _ _ l0_7 a0_8 a0_9 _ _ l0_10 t490 _ ?side1 ?side2 ?side3 ?side4 A15.out).mono ?_
      (case side1 => exact Cd_ (Kd.C_below HR0_7.out HB.out))
      (case side2 => exact HC0_7.out)
      (case side3 => exact Cd_ (Kd.C_below HR0_10.out HB.out))
      (case side4 => exact HC0_10.out)
      rintro e w33 ⟨rfl, hb⟩
      refine ⟨_, rfl, ?_⟩
      replace HO483 := m_ (Kd.R_below (Rz_ HO483.out) hb)
      replace HO487 := m_ (Kd.Q_below (Qz_ HO487.out) hb)
      replace BK478 := m_ (kl_ gb478 hb)
      replace BK479 := m_ (kl_ gb479 hb)
      replace HB := m_ (below_step bz_ hb)
      (try clear hb)
      (try clear hb2)
      (try clear hk)
      (try clear hi)
      obtain ⟨Ao34, co34, eo34⟩ := Kd.R_slice HO483.out
      (first | subst eo34 | (injection eo34 with f1_ f2_ f3_; have f4_ := f1_.symm; have f5_ := f3_.symm; clear f1_ f2_ f3_; subst f4_; subst f5_))
      obtain ⟨Ao35, co35, eo35, _⟩ := Kd.Q_slice HO487.out
      (first | subst eo35 | (injection eo35 with f1_ f2_ f3_; have f4_ := f1_.symm; have f5_ := f3_.symm; clear f1_ f2_ f3_; subst f4_; subst f5_))
      refine hK.out _ _ ⟨(blk_cell BK478.out 0).trans rfl, (blk_cell BK478.out 1).trans rfl, (blk_cell BK478.out 2).trans rfl, (blk_cell BK478.out 3).trans rfl, (blk_cell BK478.out 4).trans rfl, (blk_cell BK478.out 5).trans rfl, (blk_cell BK478.out 6).trans rfl, (blk_cell BK478.out 7).trans rfl, (blk_cell BK478.out 8).trans rfl, (blk_cell BK478.out 9).trans rfl, (blk_cell BK478.out 10).trans rfl, (blk_cell BK479.out 0).trans rfl, (blk_cell BK479.out 1).trans rfl, (blk_cell BK479.out 2).trans rfl, (blk_cell BK479.out 3).trans rfl, (blk_cell BK479.out 4).trans rfl, (blk_cell BK479.out 5).trans rfl, (blk_cell BK479.out 6).trans rfl, (blk_cell BK479.out 7).trans rfl, (blk_cell BK479.out 8).trans rfl, (blk_cell BK479.out 9).trans rfl, (blk_cell BK479.out 10).trans rfl⟩ (fun hHeld => ?_)
      clear hK K
      refine nz_ (some 45) ?_
      refine pz_ 6 46 ?_
      refine pz_ 7 47 ?_
      refine pz_ 8 48 ?_
      refine pz_ 9 49 ?_
      refine pz_ 10 50 ?_
      refine oz_ 11 (some 51) (fun K hK => ?_)
      refine gz_ Try.func16 #[.slice Ao34 t481.length co34, .slice Ao35 t485.length co35] ?_
      with_reducible refine (stolonref01_Same.calls k _ _ t481 _ _ t485 true _ ?side1 ?side2 ?side3 ?side4 A17.out).mono ?_
      (case side1 => exact Cd_ (Kd.R_reads' HO483.out).2.2)
      (case side2 => exact (Kd.R_reads' HO483.out).2.1)
      (case side3 => exact Cd_ (Kd.Q_reads' HO487.out).2.2)
      (case side4 => exact (Kd.Q_reads' HO487.out).2.1)
      rintro e w' ⟨rfl, ⟨nd, rfl⟩⟩
      refine ⟨_, rfl, ?_⟩
      refine hK.out _ _ ⟨(blk_cell BK478.out 0).trans rfl, (blk_cell BK478.out 1).trans rfl, (blk_cell BK478.out 2).trans rfl, (blk_cell BK478.out 3).trans rfl, (blk_cell BK478.out 4).trans rfl, (blk_cell BK478.out 5).trans rfl, (blk_cell BK478.out 6).trans rfl, (blk_cell BK478.out 7).trans rfl, (blk_cell BK478.out 8).trans rfl, (blk_cell BK478.out 9).trans rfl, (blk_cell BK478.out 10).trans rfl, (blk_cell BK479.out 0).trans rfl, (blk_cell BK479.out 1).trans rfl, (blk_cell BK479.out 2).trans rfl, (blk_cell BK479.out 3).trans rfl, (blk_cell BK479.out 4).trans rfl, (blk_cell BK479.out 5).trans rfl, (blk_cell BK479.out 6).trans rfl, (blk_cell BK479.out 7).trans rfl, (blk_cell BK479.out 8).trans rfl, (blk_cell BK479.out 9).trans rfl, (blk_cell BK479.out 10).trans rfl⟩ (fun hHeld => ?_)
      clear hK K
      refine nz_ (some 51) ?_
      refine pz_ 12 52 ?_
      refine pz_ 13 53 ?_
      refine pz_ 14 54 ?_
      refine pz_ 15 55 ?_
      refine pz_ 16 56 ?_
      refine pz_ 17 57 ?_
      refine pz_ 18 58 ?_
      refine tz_ 19 59 ?_
      refine tz_ 20 60 ?_
      refine tz_ 22 62 ?_
      refine tz_ 23 63 ?_
      refine oz_ 21 (some 61) (fun K hK => ?_)
      refine gz_ Try.func17 #[.agg #[.int .u8 a0_0, .int .u32 a0_1, .int .u32 a0_2, .int .u32 a0_3, .int .u32 a0_4, .int .i64 a0_5, .int .u32 a0_6, .slice A0_7 l0_7.length c0_7, .int .i64 a0_8, .bool a0_9, .slice A0_10 l0_10.length c0_10], .agg #[.int .u8 a1_0, .int .u32 a1_1, .int .u32 a1_2, .int .u32 a1_3, .int .u32 a1_4, .int .i64 a1_5, .int .u32 a1_6, .slice A1_7 l1_7.length c1_7, .int .i64 a1_8, .bool a1_9, .slice A1_10 l1_10.length c1_10]] ?_
      with_reducible refine (ofmsg_Same.calls k a0_0 a0_1 a0_2 a0_3 a0_4 a0_5 a0_6 _ _ l0_7 a0_8 a0_9 _ _ l0_10 a1_0 a1_1 a1_2 a1_3 a1_4 a1_5 a1_6 _ _ l1_7 a1_8 a1_9 _ _ l1_10 t492 _ ?side1 ?side2 ?side3 ?side4 ?side5 ?side6 ?side7 ?side8 A20.out).mono ?_
      (case side1 => exact Cd_ (Kd.C_below HR0_7.out bz_))
      (case side2 => exact HC0_7.out)
      (case side3 => exact Cd_ (Kd.C_below HR0_10.out bz_))
      (case side4 => exact HC0_10.out)
      (case side5 => exact Cd_ (Kd.C_below HR1_7.out bz_))
      (case side6 => exact HC1_7.out)
      (case side7 => exact Cd_ (Kd.C_below HR1_10.out bz_))
      (case side8 => exact HC1_10.out)
      rintro e w36 ⟨rfl, hb⟩
      refine ⟨_, rfl, ?_⟩
      replace HO483 := m_ (Kd.R_below (Rz_ HO483.out) hb)
      replace HO487 := m_ (Kd.Q_below (Qz_ HO487.out) hb)
      replace BK478 := m_ (kl_ gb478 hb)
      replace BK479 := m_ (kl_ gb479 hb)
      replace HB := m_ (below_step bz_ hb)
      (try clear hb)
      (try clear hb2)
      (try clear hk)
      (try clear hi)
      refine hK.out _ _ ⟨(blk_cell BK478.out 0).trans rfl, (blk_cell BK478.out 1).trans rfl, (blk_cell BK478.out 2).trans rfl, (blk_cell BK478.out 3).trans rfl, (blk_cell BK478.out 4).trans rfl, (blk_cell BK478.out 5).trans rfl, (blk_cell BK478.out 6).trans rfl, (blk_cell BK478.out 7).trans rfl, (blk_cell BK478.out 8).trans rfl, (blk_cell BK478.out 9).trans rfl, (blk_cell BK478.out 10).trans rfl, (blk_cell BK479.out 0).trans rfl, (blk_cell BK479.out 1).trans rfl, (blk_cell BK479.out 2).trans rfl, (blk_cell BK479.out 3).trans rfl, (blk_cell BK479.out 4).trans rfl, (blk_cell BK479.out 5).trans rfl, (blk_cell BK479.out 6).trans rfl, (blk_cell BK479.out 7).trans rfl, (blk_cell BK479.out 8).trans rfl, (blk_cell BK479.out 9).trans rfl, (blk_cell BK479.out 10).trans rfl⟩ (fun hHeld => ?_)
      clear hK K
      refine nz_ (some 61) ?_
      refine oz_ 24 (some 64) (fun K hK => ?_)
      refine gz_ Try.func18 #[.agg #[.int .u8 a0_0, .int .u32 a0_1, .int .u32 a0_2, .int .u32 a0_3, .int .u32 a0_4, .int .i64 a0_5, .int .u32 a0_6, .slice A0_7 l0_7.length c0_7, .int .i64 a0_8, .bool a0_9, .slice A0_10 l0_10.length c0_10], .agg #[.int .u8 a1_0, .int .u32 a1_1, .int .u32 a1_2, .int .u32 a1_3, .int .u32 a1_4, .int .i64 a1_5, .int .u32 a1_6, .slice A1_7 l1_7.length c1_7, .int .i64 a1_8, .bool a1_9, .slice A1_10 l1_10.length c1_10]] ?_
      with_reducible refine (stolonref16_Same.calls k a0_0 a0_1 a0_2 a0_3 a0_4 a0_5 a0_6 _ _ l0_7 a0_8 a0_9 _ _ l0_10 a1_0 a1_1 a1_2 a1_3 a1_4 a1_5 a1_6 _ _ l1_7 a1_8 a1_9 _ _ l1_10 t493 _ ?side1 ?side2 ?side3 ?side4 ?side5 ?side6 ?side7 ?side8 A21.out).mono ?_
      (case side1 => exact Cd_ (Kd.C_below HR0_7.out HB.out))
      (case side2 => exact HC0_7.out)
      (case side3 => exact Cd_ (Kd.C_below HR0_10.out HB.out))
      (case side4 => exact HC0_10.out)
      (case side5 => exact Cd_ (Kd.C_below HR1_7.out HB.out))
      (case side6 => exact HC1_7.out)
      (case side7 => exact Cd_ (Kd.C_below HR1_10.out HB.out))
      (case side8 => exact HC1_10.out)
      rintro e w37 ⟨rfl, hb⟩
      refine ⟨_, rfl, ?_⟩
      replace HO483 := m_ (Kd.R_below (Rz_ HO483.out) hb)
      replace HO487 := m_ (Kd.Q_below (Qz_ HO487.out) hb)
      replace BK478 := m_ (kl_ gb478 hb)
      replace BK479 := m_ (kl_ gb479 hb)
      replace HB := m_ (below_step bz_ hb)
      (try clear hb)
      (try clear hb2)
      (try clear hk)
      (try clear hi)
      refine hK.out _ _ ⟨(blk_cell BK478.out 0).trans rfl, (blk_cell BK478.out 1).trans rfl, (blk_cell BK478.out 2).trans rfl, (blk_cell BK478.out 3).trans rfl, (blk_cell BK478.out 4).trans rfl, (blk_cell BK478.out 5).trans rfl, (blk_cell BK478.out 6).trans rfl, (blk_cell BK478.out 7).trans rfl, (blk_cell BK478.out 8).trans rfl, (blk_cell BK478.out 9).trans rfl, (blk_cell BK478.out 10).trans rfl, (blk_cell BK479.out 0).trans rfl, (blk_cell BK479.out 1).trans rfl, (blk_cell BK479.out 2).trans rfl, (blk_cell BK479.out 3).trans rfl, (blk_cell BK479.out 4).trans rfl, (blk_cell BK479.out 5).trans rfl, (blk_cell BK479.out 6).trans rfl, (blk_cell BK479.out 7).trans rfl, (blk_cell BK479.out 8).trans rfl, (blk_cell BK479.out 9).trans rfl, (blk_cell BK479.out 10).trans rfl⟩ (fun hHeld => ?_)
      clear hK K
      refine nz_ (some 64) ?_
      refine pz_ 25 65 ?_
      refine pz_ 26 66 ?_
      refine pz_ 27 4 ?_
      refine dz_ ?_
      try go_wp2
      go_ret
      exact ⟨ew_, bz_⟩
     ·rw [if_neg c19] at H
      have c19b0 : (t484 == t488) = false := beq_eq_false_iff_ne.mpr c19
      have c19b1 : (t484 != t488) = true := bne_iff_ne.mpr c19
      exact absurd ((Option.some.inj H).trans hTrue.out) (by simp)
    ·replace c18 := Bool.eq_false_iff.mpr c18
     subst c18
     have H1 : (some false) = some r := by rw [if_neg (show ¬ (false = true) by decide)] at H; exact H
     clear H
     have H := H1
     clear H1
     exact absurd ((Option.some.inj H).trans hTrue.out) (by simp)
   ·rw [if_neg c16] at H
    have c16b0 : (t489 == t490) = false := by simpa using c16
    (try (have c16b1 : decide (t489 = t490) = false := by simpa using c16))
    (try (have c16b2 : (t489 == t490) = false := by simpa using c16))
    (try (have c16b3 : ¬ (t489 = t490) := by simpa using c16))
    clear c16
    exact absurd ((Option.some.inj H).trans hTrue.out) (by simp)
  ·replace c13 := Bool.eq_false_iff.mpr c13
   subst c13
   have H1 : (some false) = some r := by rw [if_neg (show ¬ (false = true) by decide)] at H; exact H
   clear H
   have H := H1
   clear H1
   exact absurd ((Option.some.inj H).trans hTrue.out) (by simp)
end Go.Proofs.Ytboonfidioombaa.P

/- For each Go function a Lean function, and the proof that a call comes to what it tells: made by program out of the translation (the kit's print, with texts by hand put in). No condition. -/
import Derived.Test.YtboonfidioombaaSq
import Derived.Test.YtboonfidioombaaPx0
import Derived.Test.YtboonfidioombaaPx9
import Derived.Test.YtboonfidioombaaPx15
import Derived.Test.YtboonfidioombaaPx16
namespace Go.Proofs.Ytboonfidioombaa.P
open Go.RowKit Go.Proofs.Ytboonfidioombaa.HRows Go.Proofs.YtboonfidioombaaW.PrintWords Go.Proofs.YtboonfidioombaaW.PrintLast Go.Proofs.YtboonfidioombaaW.PrintMore
attribute [local go_sem] max2_int min2_int max_two min_two max_three min_three max_four min_four
set_option linter.unusedVariables false
set_option linter.unusedSimpArgs false
def ofmsg_Decode.j0 : Nat → List Int → Bool → Option (Int × Int × Int × Int × Int × Int × Int × (List (S59)) × Int × Bool × List Int × Int)
 | 0, _, _ => none
 | k + 1, x0, x23 => if x23 = true then (some (0, 0, 0, 0, 0, 0, 0, ([] : List (S59)), 0, false, ([] : List Int), 3)) else ((ofmsg_read.f x0).bind fun bt226 => (if bt226.2.2.2.2.2.2.2.2.2.2.2 = true then (if 0 < (x0.length : Int) then (if 1 < (x0.length : Int) then (if (x0.length : Int) = (Go.bits .or .i64 (wrap64 ((wrap64 (rd x0 0)) * 256)) (wrap64 (rd x0 1))) then ((ofmsg_Right.f k bt226.1 bt226.2.1 bt226.2.2.1 bt226.2.2.2.1 bt226.2.2.2.2.1 bt226.2.2.2.2.2.1 bt226.2.2.2.2.2.2.1 bt226.2.2.2.2.2.2.2.1 bt226.2.2.2.2.2.2.2.2.1 bt226.2.2.2.2.2.2.2.2.2.1 bt226.2.2.2.2.2.2.2.2.2.2.1).bind fun t245 => (if t245 = true then ((slices_Clone_byte_byte.f bt226.2.2.2.2.2.2.2.2.2.2.1).bind fun t246 => (some (bt226.1, bt226.2.1, bt226.2.2.1, bt226.2.2.2.1, bt226.2.2.2.2.1, bt226.2.2.2.2.2.1, bt226.2.2.2.2.2.2.1, bt226.2.2.2.2.2.2.2.1, bt226.2.2.2.2.2.2.2.2.1, bt226.2.2.2.2.2.2.2.2.2.1, t246, 0))) else (some (0, 0, 0, 0, 0, 0, 0, ([] : List (S59)), 0, false, ([] : List Int), 2)))) else (some (0, 0, 0, 0, 0, 0, 0, ([] : List (S59)), 0, false, ([] : List Int), 2))) else (none)) else (none)) else (some (0, 0, 0, 0, 0, 0, 0, ([] : List (S59)), 0, false, ([] : List Int), 2))))
def ofmsg_Decode.f (k : Nat) (l0 : List Int) : Option (Int × Int × Int × Int × Int × Int × Int × (List (S59)) × Int × Bool × List Int × Int) := if (l0.length : Int) < 7 then (ofmsg_Decode.j0 k l0 true) else (if 0 < (l0.length : Int) then (if 1 < (l0.length : Int) then (ofmsg_Decode.j0 k l0 (decide ((l0.length : Int) < (Go.bits .or .i64 (wrap64 ((wrap64 (rd l0 0)) * 256)) (wrap64 (rd l0 1)))))) else (none)) else (none))
theorem ofmsg_Decode.mono_l : ∀ k, (∀ y0 y1, LeO (ofmsg_Decode.j0 k y0 y1) (ofmsg_Decode.j0 (k + 1) y0 y1))
 | 0 => fun _ _ r h => by simp [ofmsg_Decode.j0] at h
 | k + 1 => by
  have ih0 := ofmsg_Decode.mono_l k
  ·intro y0 y1
   unfold ofmsg_Decode.j0
   repeat' first
   | (with_reducible exact ih0 _ _)
   | (with_reducible exact ofmsg_Right.mono _ _ _ _ _ _ _ _ _ _ _ _)
   | (with_reducible exact LeO.refl _)
   | (with_reducible exact LeO.none _)
   | (with_reducible refine LeO.ite ?_ ?_)
   | (with_reducible refine LeO.bind ?_ (fun _ => ?_))
   | exact ih0 _ _
   | exact ofmsg_Right.mono _ _ _ _ _ _ _ _ _ _ _ _
   | exact LeO.none _
   | refine LeO.ite ?_ ?_
   | refine LeO.bind ?_ (fun _ => ?_)
theorem ofmsg_Decode.mono : ∀ a0 k, LeO (ofmsg_Decode.f k a0) (ofmsg_Decode.f (k + 1) a0) := by
 intro a0 k
 have ih0 := ofmsg_Decode.mono_l k
 unfold ofmsg_Decode.f
 repeat' first
   | (with_reducible exact ih0 _ _)
   | (with_reducible exact ofmsg_Right.mono _ _ _ _ _ _ _ _ _ _ _ _)
   | (with_reducible exact LeO.refl _)
   | (with_reducible exact LeO.none _)
   | (with_reducible refine LeO.ite ?_ ?_)
   | (with_reducible refine LeO.bind ?_ (fun _ => ?_))
   | exact ih0 _ _
   | exact ofmsg_Right.mono _ _ _ _ _ _ _ _ _ _ _ _
   | exact LeO.none _
   | refine LeO.ite ?_ ?_
   | refine LeO.bind ?_ (fun _ => ?_)
def ofmsg_Decode.T1 : Bool × List (List Nat × List Nat) := (true, [([], []), ([0], [0]), ([1], [1]), ([2], [2]), ([3], [3]), ([4, 3], [3, 4]), ([3], [3]), ([6, 3], [3, 6]), ([7, 3], [3, 7]), ([8, 3], [3, 8]), ([9, 3], [3, 9]), ([3], [3]), ([11, 3], [3, 11]), ([12, 3], [3, 12]), ([13, 3], [3, 13]), ([10, 14, 3], [3, 10, 14]), ([5, 15, 3], [3, 5, 15]), ([3, 16], [3, 16])])
def ofmsg_Decode.B1 : List Nat := [0, 1, 3, 7, 15, 31, 15, 79, 207, 463, 975, 15, 2063, 6159, 14351, 32719, 65535, 131071]
theorem ofmsg_Decode.tab1 : rtab .any (opsOf Try.f19 1) = ofmsg_Decode.T1 := by kernel_rfl
theorem ofmsg_Decode.bits1 : waitsOk ofmsg_Decode.T1.2 ofmsg_Decode.B1 = true := by kernel_rfl
def ofmsg_Decode.T4 : Bool × List (List Nat × List Nat) := (true, [([], []), ([0], [0]), ([1], [1]), ([2], [2]), ([3, 2], [2, 3]), ([2], [2]), ([5, 2], [2, 5]), ([6, 2], [2, 6]), ([7, 2], [2, 7]), ([8, 2], [2, 8]), ([2], [2]), ([10, 2], [2, 10]), ([11, 2], [2, 11]), ([12, 2], [2, 12]), ([9, 13, 2], [2, 9, 13]), ([4, 14, 2], [2, 4, 14]), ([2, 15], [2, 15]), ([16, 2], [16]), ([17], [17]), ([18, 17, 17], [17, 18]), ([19, 17], [17, 19]), ([17, 20], [17, 20])])
def ofmsg_Decode.B4 : List Nat := [0, 1, 3, 7, 15, 7, 39, 103, 231, 487, 7, 1031, 3079, 7175, 16359, 32767, 65535, 131071, 262143, 524287, 1048575, 2097151]
theorem ofmsg_Decode.tab4 : rtab .any (opsOf Try.f19 4) = ofmsg_Decode.T4 := by kernel_rfl
theorem ofmsg_Decode.bits4 : waitsOk ofmsg_Decode.T4.2 ofmsg_Decode.B4 = true := by kernel_rfl
set_option maxHeartbeats 8000000 in
set_option maxRecDepth 100000 in
theorem ofmsg_Decode.calls (k : Nat) (A0 : Option Addr) (c0 : Nat) (l0 : List Int) (r1 : Int) (r2 : Int) (r3 : Int) (r4 : Int) (r5 : Int) (r6 : Int) (r7 : Int) (r8 : List (S59)) (r9 : Int) (r10 : Bool) (r11 : List Int) (r12 : Int) (w : World) (hr0 : Kd.C (Kd.int .u8) w A0 l0.length l0) (hc0 : l0.length ≤ c0) (h : ofmsg_Decode.f k l0 = some (r1, r2, r3, r4, r5, r6, r7, r8, r9, r10, r11, r12)) :
  Calls Try.prog 19 #[.slice A0 l0.length c0] w fun e w' => ∃ v7_ v10_ : Value, e = .returned (.tuple #[.agg #[.int .u8 r1, .int .u32 r2, .int .u32 r3, .int .u32 r4, .int .u32 r5, .int .i64 r6, .int .u32 r7, v7_, .int .i64 r9, .bool r10, v10_], .int .i64 r12]) ∧ Kd.R k59 59 w' w.heap.size (fun _ => True) v7_ r8 ∧ Kd.R (Kd.int .u8) 5 w' w.heap.size (fun _ => True) v10_ r11 ∧ Below w.heap.size w w' := by
 have hu29 := Try.underlying29
 have HR0 := m_ hr0
 have HC0 := m_ hc0
 clear hr0 hc0
 have HB := m_ (Below.refl w.heap.size w)
 have H : (if (l0.length : Int) < 7 then (ofmsg_Decode.j0 k l0 true) else (if 0 < (l0.length : Int) then (if 1 < (l0.length : Int) then (ofmsg_Decode.j0 k l0 (decide ((l0.length : Int) < (Go.bits .or .i64 (wrap64 ((wrap64 (rd l0 0)) * 256)) (wrap64 (rd l0 1)))))) else (none)) else (none))) = some (r1, r2, r3, r4, r5, r6, r7, r8, r9, r10, r11, r12) := h
 clear h
 have HC2 := m_ H
 clear H
 go_enter Try.func19, Try.ntmps19
 go_upto_region 1 with (first | ((with_reducible refine gate_dst (N := 2) rfl ?_); (try (refine gate_guard (by rfl) ?_; dsimp only)); refine bx_ 2 29 #[.int .u8 0, .int .u32 0, .int .u32 0, .int .u32 0, .int .u32 0, .int .i64 0, .int .u32 0, .slice none 0 0, .int .i64 0, .bool false, .slice none 0 0] ?_; intro gb223 hg w3 hbox hb; have BK223 := m_ (hbox); have GW223 := m_ ((gw_ : w.heap.size ≤ gb223)); have GE223 := m_ ((gw_ : w.heap.size ≤ gb223)); replace HB := m_ (below_step bz_ hb); clear hb hbox hg))
 (try simp only [Act.put, List.setIfInBounds_toArray, List.set_cons_zero, List.set_cons_succ])
 go_cut [23] (fun v23 wc => ∃ (kq : Nat) (x23_1 : Bool), v23 = .bool x23_1 ∧ Aside0 (ofmsg_Decode.j0 kq l0 x23_1 = some (r1, r2, r3, r4, r5, r6, r7, r8, r9, r10, r11, r12)) ∧ Aside0 (kq ≤ k) ∧ Aside0 (wc.heap[gb223]? = some (.cells #[.int .u8 0, .int .u32 0, .int .u32 0, .int .u32 0, .int .u32 0, .int .i64 0, .int .u32 0, (.slice none 0 0), .int .i64 0, .bool false, (.slice none 0 0)] 29 (0, 0))) ∧ Aside0 (Below w.heap.size w wc))
 case first =>
  have H := HC2.out
  clear HC2
  by_cases c4 : (l0.length : Int) < 7
  ·rw [if_pos c4] at H
   have c4b0 : decide ((l0.length : Int) < 7) = true := decide_eq_true c4
   have c4b1 : decide (l0.length < 7) = true := decide_eq_true (by omega)
   clear c4
   (first | rw [c4b0] | (simp only [i64_w, i32_w]; rw [c4b0]) | skip)
   have H' := m_ H
   clear H
   try go_wp2
   replace BK223 := m_ (blk_drew BK223.out)
   replace HB := m_ (below_drew1 HB.out)
   refine start_ (n := 18) (S := fun w' => True) (ds := []) (bs_ 18 0) (by kernel_rfl) rfl rfl trivial (fun hHeld => ?_); refine with_tabW ofmsg_Decode.tab1 ofmsg_Decode.bits1 (fun HT_ HW_ => ?_)
   generalize w3.drew = w5 at BK223 HB hHeld ⊢
   refine pz_ 0 6 ?_
   refine pz_ 1 7 ?_
   refine pz_ 2 8 ?_
   refine pz_ 3 9 ?_
   refine pz_ 4 10 ?_
   refine pz_ 5 11 ?_
   refine pz_ 6 12 ?_
   refine pz_ 7 13 ?_
   refine pz_ 8 14 ?_
   refine pz_ 9 15 ?_
   refine pz_ 10 16 ?_
   refine pz_ 11 17 ?_
   refine pz_ 12 18 ?_
   refine pz_ 13 19 ?_
   refine pz_ 14 20 ?_
   refine pz_ 15 21 ?_
   refine pz_ 16 22 ?_
   refine pz_ 17 23 ?_
   refine dz_ ?_
   try go_wp2
   go_meet
   case rel => exact ⟨_, (true), (by first | rfl | (simp; done) | (simp [*]; done)), H', ⟨by first | omega | exact Nat.le_refl _⟩, ⟨kz_⟩, ⟨bz_⟩⟩
  ·rw [if_neg c4] at H
   have c4b0 : decide ((l0.length : Int) < 7) = false := decide_eq_false c4
   have c4b1 : decide (l0.length < 7) = false := decide_eq_false (by omega)
   clear c4
   (first | rw [c4b0] | (simp only [i64_w, i32_w]; rw [c4b0]) | skip)
   by_cases c6 : 0 < (l0.length : Int)
   ·rw [if_pos c6] at H
    have c6b0 : decide (0 < (l0.length : Int)) = true := decide_eq_true c6
    have c6b1 : decide (0 < l0.length) = true := decide_eq_true (by omega)
    clear c6
    by_cases c7 : 1 < (l0.length : Int)
    ·rw [if_pos c7] at H
     have c7b0 : decide (1 < (l0.length : Int)) = true := decide_eq_true c7
     have c7b1 : decide (1 < l0.length) = true := decide_eq_true (by omega)
     clear c7
     have H' := m_ H
     clear H
     try go_wp2
     replace BK223 := m_ (blk_drew BK223.out)
     replace HB := m_ (below_drew1 HB.out)
     have p224 : 0 ≤ (0 : Int) := (by omega)
     have q224 : 0 < (l0.length : Int) := od_
     obtain ⟨ad224, e224, hx224_0⟩ := Kd.at_int HR0.out 0 p224 q224
     have hw224_0 := hx224_0
     (try rw [show ((0 : Int)).toNat = 0 from rfl] at hw224_0)
     (try rw [show 0 * 1 = 0 from rfl] at hw224_0)
     (try rw [Addr.add_zero'] at hw224_0)
     cases e224
     have qi224 : (0 < l0.length) = True := eq_true (by omega)
     (try rw [show ((0 : Int)).toNat = 0 from rfl] at hx224_0)
     (try rw [Addr.add_zero'] at hx224_0)
     replace hx224_0 := kp_ HB.out hx224_0
     replace p224 := eq_true p224
     replace q224 := eq_true q224
     have p225 : 0 ≤ (1 : Int) := (by omega)
     have q225 : 1 < (l0.length : Int) := od_
     obtain ⟨ad225, e225, hx225_0⟩ := Kd.at_int HR0.out 1 p225 q225
     have hw225_0 := hx225_0
     (try rw [show ((1 : Int)).toNat = 1 from rfl] at hw225_0)
     (try rw [show 1 * 1 = 1 from rfl] at hw225_0)
     (try simp only [Nat.reduceMul, Nat.reduceEqDiff, Go.Addr.add, ↓reduceIte] at hw225_0)
     obtain rfl : ad224 = ad225 := (by injection e225)
     (try simp only [show (1 : Int).toNat = 1 from rfl, Nat.reduceMul, Nat.reduceEqDiff, Go.Addr.add, ↓reduceIte] at hx225_0)
     have qi225 : (1 < l0.length) = True := eq_true (by omega)
     (try rw [show ((1 : Int)).toNat = 1 from rfl] at hx225_0)
     replace hx225_0 := kp_ HB.out hx225_0
     replace p225 := eq_true p225
     replace q225 := eq_true q225
     refine start_ (n := 18) (S := fun w' => w'.cell? ad224 = some (.int .u8 (rd l0 0)) ∧ w'.cell? ⟨ad224.block, ad224.off + 1, none⟩ = some (.int .u8 (rd l0 1))) (ds := []) (bs_ 18 0) (by kernel_rfl) rfl rfl ⟨(kp_ HB.out hw224_0), (kp_ HB.out hw225_0)⟩ (fun hHeld => ?_); refine with_tabW ofmsg_Decode.tab1 ofmsg_Decode.bits1 (fun HT_ HW_ => ?_)
     generalize w3.drew = w8 at BK223 HB hx224_0 hx225_0 hHeld ⊢
     refine pz_ 0 6 ?_
     refine pz_ 1 7 ?_
     refine pz_ 2 8 ?_
     refine pz_ 3 9 ?_
     refine pz_ 4 10 ?_
     refine pz_ 5 11 ?_
     refine pz_ 6 12 ?_
     refine pz_ 7 13 ?_
     refine pz_ 11 17 ?_
     refine pz_ 12 18 ?_
     refine tz_ 8 14 ?_
     refine pz_ 9 15 ?_
     refine pz_ 10 16 ?_
     refine tz_ 13 19 ?_
     refine pz_ 14 20 ?_
     refine pz_ 15 21 ?_
     refine pz_ 16 22 ?_
     refine pz_ 17 23 ?_
     refine dz_ ?_
     try go_wp2
     go_meet
     case rel => exact ⟨_, (decide ((l0.length : Int) < (Go.bits .or .i64 (wrap64 ((wrap64 (rd l0 0)) * 256)) (wrap64 (rd l0 1))))), (by first | rfl | (simp; done) | (simp [*]; done)), H', ⟨by first | omega | exact Nat.le_refl _⟩, ⟨kz_⟩, ⟨bz_⟩⟩
    ·rw [if_neg c7] at H
     exact absurd H (by simp)
   ·rw [if_neg c6] at H
    exact absurd H (by simp)
 case rest =>
  clear HC2
  try clear c1
  try clear p2
  try clear q2
  try clear hx2
  try clear qi2
  try clear c4
  try clear c4b0
  try clear c4b1
  try clear c6
  try clear c6b0
  try clear c6b1
  try clear p6
  try clear c7
  try clear c7b0
  try clear c7b1
  try clear hx224_0
  try clear hx225_0
  try clear p224
  try clear p225
  try clear q224
  try clear q225
  obtain ⟨kq, x23_1, rfl, HA, HJ1, BK223, HB⟩ := hcut
  cases kq with
  | zero => exact absurd HA.out (by simp [ofmsg_Decode.j0])
  | succ kj1 =>
   have H := HA.out
   clear HA
   simp only [ofmsg_Decode.j0] at H
   by_cases c9 : x23_1 = true
   ·subst c9
    have H1 : (some (0, 0, 0, 0, 0, 0, 0, ([] : List (S59)), 0, false, ([] : List Int), 3)) = some (r1, r2, r3, r4, r5, r6, r7, r8, r9, r10, r11, r12) := by rw [if_pos rfl] at H; exact H
    clear H
    have H := H1
    clear H1
    simp only [Option.some.injEq, Prod.mk.injEq] at H
    obtain ⟨rfl, rfl, rfl, rfl, rfl, rfl, rfl, rfl, rfl, rfl, rfl, rfl⟩ := H
    have hcz10 := cz11_ BK223.out
    go_wp2
    refine bodyPost_ret (results_ct rfl _ _ gb223 29 #[.int .u8 0, .int .u32 0, .int .u32 0, .int .u32 0, .int .u32 0, .int .i64 0, .int .u32 0, .slice none 0 0, .int .i64 0, .bool false, .slice none 0 0] (0, 0) _ rfl kb_ Try.underlying29 rfl (by kernel_rfl)) rfl ?_
    exact ⟨_, _, ew_, (by first | exact Kd.R_nil _ _ _ _ _ | exact Kd.N_nil _ _ _ _ _ | exact Kd.V_nil _ _ _ _ _ | exact Kd.Q_nil _ _ _ _ _ | exact Kd.S_nil _ _ _ _ _), (by first | exact Kd.R_nil _ _ _ _ _ | exact Kd.N_nil _ _ _ _ _ | exact Kd.V_nil _ _ _ _ _ | exact Kd.Q_nil _ _ _ _ _ | exact Kd.S_nil _ _ _ _ _), bz_⟩
   ·replace c9 := Bool.eq_false_iff.mpr c9
    subst c9
    have H1 : ((ofmsg_read.f l0).bind fun bt226 => (if bt226.2.2.2.2.2.2.2.2.2.2.2 = true then (if 0 < (l0.length : Int) then (if 1 < (l0.length : Int) then (if (l0.length : Int) = (Go.bits .or .i64 (wrap64 ((wrap64 (rd l0 0)) * 256)) (wrap64 (rd l0 1))) then ((ofmsg_Right.f kj1 bt226.1 bt226.2.1 bt226.2.2.1 bt226.2.2.2.1 bt226.2.2.2.2.1 bt226.2.2.2.2.2.1 bt226.2.2.2.2.2.2.1 bt226.2.2.2.2.2.2.2.1 bt226.2.2.2.2.2.2.2.2.1 bt226.2.2.2.2.2.2.2.2.2.1 bt226.2.2.2.2.2.2.2.2.2.2.1).bind fun t245 => (if t245 = true then ((slices_Clone_byte_byte.f bt226.2.2.2.2.2.2.2.2.2.2.1).bind fun t246 => (some (bt226.1, bt226.2.1, bt226.2.2.1, bt226.2.2.2.1, bt226.2.2.2.2.1, bt226.2.2.2.2.2.1, bt226.2.2.2.2.2.2.1, bt226.2.2.2.2.2.2.2.1, bt226.2.2.2.2.2.2.2.2.1, bt226.2.2.2.2.2.2.2.2.2.1, t246, 0))) else (some (0, 0, 0, 0, 0, 0, 0, ([] : List (S59)), 0, false, ([] : List Int), 2)))) else (some (0, 0, 0, 0, 0, 0, 0, ([] : List (S59)), 0, false, ([] : List Int), 2))) else (none)) else (none)) else (some (0, 0, 0, 0, 0, 0, 0, ([] : List (S59)), 0, false, ([] : List Int), 2)))) = some (r1, r2, r3, r4, r5, r6, r7, r8, r9, r10, r11, r12) := by rw [if_neg (show ¬ (false = true) by decide)] at H; exact H
    clear H
    have H := H1
    clear H1
    replace H := Option.bind_eq_some_iff.mp H
    obtain ⟨⟨t226, t227, t228, t229, t230, t231, t232, t233, t236, t237, t238, t241⟩, A110, H⟩ := H
    replace H : (if t241 = true then (if 0 < (l0.length : Int) then (if 1 < (l0.length : Int) then (if (l0.length : Int) = (Go.bits .or .i64 (wrap64 ((wrap64 (rd l0 0)) * 256)) (wrap64 (rd l0 1))) then ((ofmsg_Right.f kj1 t226 t227 t228 t229 t230 t231 t232 t233 t236 t237 t238).bind fun t245 => (if t245 = true then ((slices_Clone_byte_byte.f t238).bind fun t246 => (some (t226, t227, t228, t229, t230, t231, t232, t233, t236, t237, t246, 0))) else (some (0, 0, 0, 0, 0, 0, 0, ([] : List (S59)), 0, false, ([] : List Int), 2)))) else (some (0, 0, 0, 0, 0, 0, 0, ([] : List (S59)), 0, false, ([] : List Int), 2))) else (none)) else (none)) else (some (0, 0, 0, 0, 0, 0, 0, ([] : List (S59)), 0, false, ([] : List Int), 2))) = some (r1, r2, r3, r4, r5, r6, r7, r8, r9, r10, r11, r12) := H
    have A11 := m_ A110
    clear A110
    by_cases c12 : t241 = true
    ·subst c12
     have H1 : (if 0 < (l0.length : Int) then (if 1 < (l0.length : Int) then (if (l0.length : Int) = (Go.bits .or .i64 (wrap64 ((wrap64 (rd l0 0)) * 256)) (wrap64 (rd l0 1))) then ((ofmsg_Right.f kj1 t226 t227 t228 t229 t230 t231 t232 t233 t236 t237 t238).bind fun t245 => (if t245 = true then ((slices_Clone_byte_byte.f t238).bind fun t246 => (some (t226, t227, t228, t229, t230, t231, t232, t233, t236, t237, t246, 0))) else (some (0, 0, 0, 0, 0, 0, 0, ([] : List (S59)), 0, false, ([] : List Int), 2)))) else (some (0, 0, 0, 0, 0, 0, 0, ([] : List (S59)), 0, false, ([] : List Int), 2))) else (none)) else (none)) = some (r1, r2, r3, r4, r5, r6, r7, r8, r9, r10, r11, r12) := by rw [if_pos rfl] at H; exact H
     clear H
     have H := H1
     clear H1
     by_cases c13 : 0 < (l0.length : Int)
     ·rw [if_pos c13] at H
      have c13b0 : decide (0 < (l0.length : Int)) = true := decide_eq_true c13
      have c13b1 : decide (0 < l0.length) = true := decide_eq_true (by omega)
      clear c13
      by_cases c14 : 1 < (l0.length : Int)
      ·rw [if_pos c14] at H
       have c14b0 : decide (1 < (l0.length : Int)) = true := decide_eq_true c14
       have c14b1 : decide (1 < l0.length) = true := decide_eq_true (by omega)
       clear c14
       by_cases c15 : (l0.length : Int) = (Go.bits .or .i64 (wrap64 ((wrap64 (rd l0 0)) * 256)) (wrap64 (rd l0 1)))
       ·rw [if_pos c15] at H
        have c15b0 : ((l0.length : Int) == (Go.bits .or .i64 (wrap64 ((wrap64 (rd l0 0)) * 256)) (wrap64 (rd l0 1)))) = true := beq_iff_eq.mpr c15
        have c15b1 : ((l0.length : Int) != (Go.bits .or .i64 (wrap64 ((wrap64 (rd l0 0)) * 256)) (wrap64 (rd l0 1)))) = false := bne_eq_false_iff_eq.mpr c15
        clear c15
        replace H := Option.bind_eq_some_iff.mp H
        obtain ⟨t245, A160, H⟩ := H
        replace H : (if t245 = true then ((slices_Clone_byte_byte.f t238).bind fun t246 => (some (t226, t227, t228, t229, t230, t231, t232, t233, t236, t237, t246, 0))) else (some (0, 0, 0, 0, 0, 0, 0, ([] : List (S59)), 0, false, ([] : List Int), 2))) = some (r1, r2, r3, r4, r5, r6, r7, r8, r9, r10, r11, r12) := H
        have A16 := m_ A160
        clear A160
        by_cases c17 : t245 = true
        ·subst c17
         have H1 : ((slices_Clone_byte_byte.f t238).bind fun t246 => (some (t226, t227, t228, t229, t230, t231, t232, t233, t236, t237, t246, 0))) = some (r1, r2, r3, r4, r5, r6, r7, r8, r9, r10, r11, r12) := by rw [if_pos rfl] at H; exact H
         clear H
         have H := H1
         clear H1
         replace H := Option.bind_eq_some_iff.mp H
         obtain ⟨t246, A180, H⟩ := H
         replace H : (some (t226, t227, t228, t229, t230, t231, t232, t233, t236, t237, t246, 0)) = some (r1, r2, r3, r4, r5, r6, r7, r8, r9, r10, r11, r12) := H
         have A18 := m_ A180
         clear A180
         simp only [Option.some.injEq, Prod.mk.injEq] at H
         obtain ⟨rfl, rfl, rfl, rfl, rfl, rfl, rfl, rfl, rfl, rfl, rfl, rfl⟩ := H
         try go_wp2_with (first | ((with_reducible refine gate_callee (f := 36) rfl ?_); refine gL_ (some 27) Try.func36 #[.slice A0 l0.length c0] ?_; (with_reducible refine (ofmsg_read.calls (fun k_ => k_ < w.heap.size) _ _ l0 t226 t227 t228 t229 t230 t231 t232 t233 t236 t237 t238 true _ ?side1 A11.out).mono ?_); (case side1 => exact Kd.V_mk HC0.out (Kd.F_below (Kd.C_F (Kd.heap_int .u8) HR0.out) bz_)); rintro e w19 ⟨v234, v239, rfl, ho0, ho1, hb⟩; refine ⟨_, rfl, ?_⟩; have HO235 := m_ (Kd.R_lower (Kd.R_mono (ok' := fun k_ => True) ho0 (fun _ hk_ => trivial)) (below_size bz_)); have HO240 := m_ (Kd.V_lower (Kd.V_mono (ok' := fun k_ => some k_ ≠ (v234 : Value).ownBlock ∧ k_ ≠ gb223) ho1 (fun k_ hk_ => ⟨hk_.2, Or.elim hk_.1 (fun hs_ => fun e_ => Nat.not_le.2 hs_ (by rw [e_]; exact GW223.out)) (fun hn_ => (Kd.freshB (g := gb223) (o := .cells #[.int .u8 0, .int .u32 0, .int .u32 0, .int .u32 0, .int .u32 0, .int .i64 0, .int .u32 0, .slice none 0 0, .int .i64 0, .bool false, .slice none 0 0] 29 (0, 0)) kz_ k_ hn_))⟩)) (below_size bz_)); replace BK223 := m_ (kl_ gb223 hb); replace HB := m_ (below_step bz_ hb); (try clear hb); (try clear hb2); (try clear hk); (try clear hi); (try clear ho0); (try clear ho1)) | ((with_reducible refine gate_dst (N := 4) rfl ?_); (try (refine gate_guard (by rfl) ?_; dsimp only)); refine bx_ 4 29 #[.int .u8 0, .int .u32 0, .int .u32 0, .int .u32 0, .int .u32 0, .int .i64 0, .int .u32 0, .slice none 0 0, .int .i64 0, .bool false, .slice none 0 0] ?_; intro gb242 hg w20 hbox hb; have BK242 := m_ (hbox); have GW242 := m_ ((gw_ : w.heap.size ≤ gb242)); have GE242 := m_ ((gw_ : w.heap.size ≤ gb242)); have NB223_242 := m_ ((gl_ : gb223 ≠ gb242)); have NB242_223 := m_ ((gr_ : gb242 ≠ gb223)); replace HO235 := m_ (Kd.R_below (Rz_ HO235.out) hb); replace HO240 := m_ (Kd.V_below (Kd.V_elderB (Vz_ HO240.out) gb242 (Nat.le_of_eq hg.symm)) hb); replace BK223 := m_ (kl_ gb223 hb); replace HB := m_ (below_step bz_ hb); clear hb hbox hg; have hnb21 := NB242_223.out; have hnc21 := NB223_242.out; have hcz22 := cz11_ BK242.out; obtain ⟨Ao23, co23, eo23⟩ := Kd.R_slice HO235.out; subst eo23; obtain ⟨Ao24, co24, eo24⟩ := Kd.V_slice HO240.out; subst eo24))
         obtain ⟨w25, hw⟩ : ∃ W_, W_ = (((((((((((w20.setCell ⟨gb242, 0, none⟩ (.int .u8 t226)).setCell ⟨gb242, 1, none⟩ (.int .u32 t227)).setCell ⟨gb242, 2, none⟩ (.int .u32 t228)).setCell ⟨gb242, 3, none⟩ (.int .u32 t229)).setCell ⟨gb242, 4, none⟩ (.int .u32 t230)).setCell ⟨gb242, 5, none⟩ (.int .i64 t231)).setCell ⟨gb242, 6, none⟩ (.int .u32 t232)).setCell ⟨gb242, 7, none⟩ (.slice Ao23 t233.length co23)).setCell ⟨gb242, 8, none⟩ (.int .i64 t236)).setCell ⟨gb242, 9, none⟩ (.bool t237)).setCell ⟨gb242, 10, none⟩ (.slice Ao24 t238.length co24)) := ⟨_, rfl⟩
         replace HO235 : Aside0 (Kd.R k59 59 w25 w.heap.size (fun _ => True) (.slice Ao23 t233.length co23) t233) := ⟨by rw [hw]; exact Kd.R_mono (Rf_ (Kd.R_types HO235.out BK242.out (by decide))) (fun _ hk => trivial)⟩
         replace HO240 : Aside0 (Kd.V (Kd.int .u8) 5 w25 w.heap.size (fun k_ => some k_ ≠ (.slice Ao23 t233.length co23 : Value).ownBlock ∧ k_ ≠ gb223 ∧ k_ ≠ gb242) (.slice Ao24 t238.length co24) t238) := ⟨by rw [hw]; exact Kd.V_mono (Vf_ (Kd.V_mono HO240.out (fun k_ hk => (⟨hk, hk.2⟩ : _ ∧ k_ ≠ gb242)))) (fun _ hk => ⟨hk.1.1.1, ⟨hk.1.1.2, hk.1.2⟩⟩)⟩
         replace BK223 : Aside0 (w25.heap[gb223]? = some (.cells #[.int .u8 0, .int .u32 0, .int .u32 0, .int .u32 0, .int .u32 0, .int .i64 0, .int .u32 0, .slice none 0 0, .int .i64 0, .bool false, .slice none 0 0] 29 (0, 0))) := ⟨by rw [hw]; exact kb_⟩
         replace BK242 : Aside0 (w25.heap[gb242]? = some (.cells #[.int .u8 t226, .int .u32 t227, .int .u32 t228, .int .u32 t229, .int .u32 t230, .int .i64 t231, .int .u32 t232, .slice Ao23 t233.length co23, .int .i64 t236, .bool t237, .slice Ao24 t238.length co24] 29 (0, 0))) := ⟨by rw [hw]; exact kb_⟩
         replace HB : Aside0 (Below w.heap.size w w25) := ⟨by rw [hw]; exact bz_⟩
         rw [← hw]; clear hw
         replace HO235 := m_ (Kd.R_drew HO235.out)
         replace HO240 := m_ (Kd.V_drew HO240.out)
         replace BK223 := m_ (blk_drew BK223.out)
         replace BK242 := m_ (blk_drew BK242.out)
         replace HB := m_ (below_drew1 HB.out)
         have p243 : 0 ≤ (0 : Int) := (by omega)
         have q243 : 0 < (l0.length : Int) := od_
         obtain ⟨ad243, e243, hx243_0⟩ := Kd.at_int HR0.out 0 p243 q243
         have hw243_0 := hx243_0
         (try rw [show ((0 : Int)).toNat = 0 from rfl] at hw243_0)
         (try rw [show 0 * 1 = 0 from rfl] at hw243_0)
         (try rw [Addr.add_zero'] at hw243_0)
         cases e243
         have qi243 : (0 < l0.length) = True := eq_true (by omega)
         (try rw [show ((0 : Int)).toNat = 0 from rfl] at hx243_0)
         (try rw [Addr.add_zero'] at hx243_0)
         replace hx243_0 := kp_ HB.out hx243_0
         replace p243 := eq_true p243
         replace q243 := eq_true q243
         have p244 : 0 ≤ (1 : Int) := (by omega)
         have q244 : 1 < (l0.length : Int) := od_
         obtain ⟨ad244, e244, hx244_0⟩ := Kd.at_int HR0.out 1 p244 q244
         have hw244_0 := hx244_0
         (try rw [show ((1 : Int)).toNat = 1 from rfl] at hw244_0)
         (try rw [show 1 * 1 = 1 from rfl] at hw244_0)
         (try simp only [Nat.reduceMul, Nat.reduceEqDiff, Go.Addr.add, ↓reduceIte] at hw244_0)
         obtain rfl : ad243 = ad244 := (by injection e244)
         (try simp only [show (1 : Int).toNat = 1 from rfl, Nat.reduceMul, Nat.reduceEqDiff, Go.Addr.add, ↓reduceIte] at hx244_0)
         have qi244 : (1 < l0.length) = True := eq_true (by omega)
         (try rw [show ((1 : Int)).toNat = 1 from rfl] at hx244_0)
         replace hx244_0 := kp_ HB.out hx244_0
         replace p244 := eq_true p244
         replace q244 := eq_true q244
         refine start_ (n := 22) (S := fun w' => w'.cell? ⟨gb242, 0, none⟩ = some (.int .u8 t226) ∧ w'.cell? ⟨gb242, 1, none⟩ = some (.int .u32 t227) ∧ w'.cell? ⟨gb242, 2, none⟩ = some (.int .u32 t228) ∧ w'.cell? ⟨gb242, 3, none⟩ = some (.int .u32 t229) ∧ w'.cell? ⟨gb242, 4, none⟩ = some (.int .u32 t230) ∧ w'.cell? ⟨gb242, 5, none⟩ = some (.int .i64 t231) ∧ w'.cell? ⟨gb242, 6, none⟩ = some (.int .u32 t232) ∧ w'.cell? ⟨gb242, 7, none⟩ = some (.slice Ao23 t233.length co23) ∧ w'.cell? ⟨gb242, 8, none⟩ = some (.int .i64 t236) ∧ w'.cell? ⟨gb242, 9, none⟩ = some (.bool t237) ∧ w'.cell? ⟨gb242, 10, none⟩ = some (.slice Ao24 t238.length co24) ∧ w'.cell? ad243 = some (.int .u8 (rd l0 0)) ∧ w'.cell? ⟨ad243.block, ad243.off + 1, none⟩ = some (.int .u8 (rd l0 1))) (ds := []) (bs_ 22 0) (by kernel_rfl) rfl rfl ⟨(blk_cell BK242.out 0).trans rfl, (blk_cell BK242.out 1).trans rfl, (blk_cell BK242.out 2).trans rfl, (blk_cell BK242.out 3).trans rfl, (blk_cell BK242.out 4).trans rfl, (blk_cell BK242.out 5).trans rfl, (blk_cell BK242.out 6).trans rfl, (blk_cell BK242.out 7).trans rfl, (blk_cell BK242.out 8).trans rfl, (blk_cell BK242.out 9).trans rfl, (blk_cell BK242.out 10).trans rfl, (kp_ HB.out hw243_0), (kp_ HB.out hw244_0)⟩ (fun hHeld => ?_); refine with_tabW ofmsg_Decode.tab4 ofmsg_Decode.bits4 (fun HT_ HW_ => ?_)
         generalize w25.drew = w26 at HO235 HO240 BK223 BK242 HB hx243_0 hx244_0 hHeld ⊢
         refine pz_ 0 30 ?_
         refine pz_ 1 31 ?_
         refine pz_ 2 32 ?_
         refine pz_ 3 33 ?_
         refine pz_ 4 34 ?_
         refine pz_ 5 35 ?_
         refine pz_ 6 36 ?_
         refine pz_ 10 40 ?_
         refine pz_ 11 41 ?_
         refine tz_ 7 37 ?_
         refine pz_ 8 38 ?_
         refine pz_ 9 39 ?_
         refine tz_ 12 42 ?_
         refine pz_ 13 43 ?_
         refine pz_ 14 44 ?_
         refine pz_ 15 45 ?_
         refine pz_ 16 46 ?_
         refine pz_ 17 47 ?_
         refine tz_ 18 48 ?_
         refine oz_ 19 (some 49) (fun K hK => ?_)
         refine gz_ Try.func14 #[.agg #[.int .u8 t226, .int .u32 t227, .int .u32 t228, .int .u32 t229, .int .u32 t230, .int .i64 t231, .int .u32 t232, .slice Ao23 t233.length co23, .int .i64 t236, .bool t237, .slice Ao24 t238.length co24]] ?_
         with_reducible refine (ofmsg_Right.calls kj1 t226 t227 t228 t229 t230 t231 t232 _ _ t233 t236 t237 _ _ t238 true _ ?side1 ?side2 ?side3 ?side4 A16.out).mono ?_
         (case side1 => exact Cd_ (Kd.R_reads' HO235.out).2.2)
         (case side2 => exact (Kd.R_reads' HO235.out).2.1)
         (case side3 => exact Cd_ (Kd.V_reads' HO240.out).2.2)
         (case side4 => exact (Kd.V_reads' HO240.out).2.1)
         rintro e w27 ⟨rfl, hb⟩
         refine ⟨_, rfl, ?_⟩
         replace HO235 := m_ (Kd.R_below (Rz_ HO235.out) hb)
         replace HO240 := m_ (Kd.V_below (Vz_ HO240.out) hb)
         replace BK223 := m_ (kl_ gb223 hb)
         replace BK242 := m_ (kl_ gb242 hb)
         replace HB := m_ (below_step bz_ hb)
         (try clear hb)
         (try clear hb2)
         (try clear hk)
         (try clear hi)
         refine hK.out _ _ ⟨(blk_cell BK242.out 0).trans rfl, (blk_cell BK242.out 1).trans rfl, (blk_cell BK242.out 2).trans rfl, (blk_cell BK242.out 3).trans rfl, (blk_cell BK242.out 4).trans rfl, (blk_cell BK242.out 5).trans rfl, (blk_cell BK242.out 6).trans rfl, (blk_cell BK242.out 7).trans rfl, (blk_cell BK242.out 8).trans rfl, (blk_cell BK242.out 9).trans rfl, (blk_cell BK242.out 10).trans rfl, (kp_ HB.out hw243_0), (kp_ HB.out hw244_0)⟩ (fun hHeld => ?_)
         clear hK K
         refine nz_ (some 49) ?_
         refine pz_ 20 50 ?_
         refine pz_ 21 51 ?_
         refine dz_ ?_
         have hcz28 := cz11_ BK242.out
         try go_wp2_with (first | ((with_reducible refine gate_callee (f := 37) rfl ?_); refine gL_ (some 55) Try.func37 #[.slice Ao24 t238.length co24] ?_; (with_reducible refine (slices_Clone_byte_byte.calls _ _ t238 t246 _ ?side1 ?side2 A18.out).mono ?_); (case side1 => exact Cd_ (Kd.V_reads' HO240.out).2.2); (case side2 => exact (Kd.V_reads' HO240.out).2.1); rintro e w29 ⟨v247, rfl, ho0, hb⟩; refine ⟨_, rfl, ?_⟩; have HO248 := m_ (Kd.R_lower ho0 (below_size bz_)); replace HO235 := m_ (Kd.R_below (Rz_ HO235.out) hb); replace HO240 := m_ (Kd.V_elder' (Vz_ HO240.out) (Kd.R_base ho0) hb); replace BK223 := m_ (kl_ gb223 hb); replace BK242 := m_ (kl_ gb242 hb); replace HB := m_ (below_step bz_ hb); (try clear hb); (try clear hb2); (try clear hk); (try clear hi); (try clear ho0); obtain ⟨Ao30, co30, eo30⟩ := Kd.R_slice HO248.out; subst eo30; have hcz31 := cz11_ BK242.out; have hcz32 := cz11_ BK223.out))
         refine bodyPost_ret (results_ct rfl _ _ gb223 29 #[.int .u8 t226, .int .u32 t227, .int .u32 t228, .int .u32 t229, .int .u32 t230, .int .i64 t231, .int .u32 t232, .slice Ao23 t233.length co23, .int .i64 t236, .bool t237, .slice Ao30 t246.length co30] (0, 0) _ rfl kb_ Try.underlying29 rfl (by kernel_rfl)) rfl ?_
         exact ⟨_, _, ew_, (by (with_reducible repeat (first | apply Kd.R_alloc | apply Kd.R_drewN | apply Kd.R_drew)); exact Kd.R_mono (Kd.R_far (p := ⟨gb223, 10, none⟩) (Kd.R_far (p := ⟨gb223, 9, none⟩) (Kd.R_far (p := ⟨gb223, 8, none⟩) (Kd.R_far (p := ⟨gb223, 7, none⟩) (Kd.R_far (p := ⟨gb223, 6, none⟩) (Kd.R_far (p := ⟨gb223, 5, none⟩) (Kd.R_far (p := ⟨gb223, 4, none⟩) (Kd.R_far (p := ⟨gb223, 3, none⟩) (Kd.R_far (p := ⟨gb223, 2, none⟩) (Kd.R_far (p := ⟨gb223, 1, none⟩) (Kd.R_far (p := ⟨gb223, 0, none⟩) (Kd.R_far (p := ⟨gb242, 10, none⟩) (Kd.R_types (Kd.R_types HO235.out BK242.out (by decide)) BK223.out (by decide)) (fun _ hk => hk.1.2) (.slice Ao30 t246.length co30)) (fun _ hk => hk.2) (.int .u8 t226)) (fun _ hk => hk.2) (.int .u32 t227)) (fun _ hk => hk.2) (.int .u32 t228)) (fun _ hk => hk.2) (.int .u32 t229)) (fun _ hk => hk.2) (.int .u32 t230)) (fun _ hk => hk.2) (.int .i64 t231)) (fun _ hk => hk.2) (.int .u32 t232)) (fun _ hk => hk.2) (.slice Ao23 t233.length co23)) (fun _ hk => hk.2) (.int .i64 t236)) (fun _ hk => hk.2) (.bool t237)) (fun _ hk => hk.2) (.slice Ao30 t246.length co30)) (fun _ hk => trivial)), (by (with_reducible repeat (first | apply Kd.R_alloc | apply Kd.R_drewN | apply Kd.R_drew)); exact Kd.R_mono (Kd.R_far (p := ⟨gb223, 10, none⟩) (Kd.R_far (p := ⟨gb223, 9, none⟩) (Kd.R_far (p := ⟨gb223, 8, none⟩) (Kd.R_far (p := ⟨gb223, 7, none⟩) (Kd.R_far (p := ⟨gb223, 6, none⟩) (Kd.R_far (p := ⟨gb223, 5, none⟩) (Kd.R_far (p := ⟨gb223, 4, none⟩) (Kd.R_far (p := ⟨gb223, 3, none⟩) (Kd.R_far (p := ⟨gb223, 2, none⟩) (Kd.R_far (p := ⟨gb223, 1, none⟩) (Kd.R_far (p := ⟨gb223, 0, none⟩) (Kd.R_far (p := ⟨gb242, 10, none⟩) (Kd.R_types (Kd.R_types HO248.out BK242.out (by decide)) BK223.out (by decide)) (fun _ hk => hk.1.2) (.slice Ao30 t246.length co30)) (fun _ hk => hk.2) (.int .u8 t226)) (fun _ hk => hk.2) (.int .u32 t227)) (fun _ hk => hk.2) (.int .u32 t228)) (fun _ hk => hk.2) (.int .u32 t229)) (fun _ hk => hk.2) (.int .u32 t230)) (fun _ hk => hk.2) (.int .i64 t231)) (fun _ hk => hk.2) (.int .u32 t232)) (fun _ hk => hk.2) (.slice Ao23 t233.length co23)) (fun _ hk => hk.2) (.int .i64 t236)) (fun _ hk => hk.2) (.bool t237)) (fun _ hk => hk.2) (.slice Ao30 t246.length co30)) (fun _ hk => trivial)), bz_⟩
        ·replace c17 := Bool.eq_false_iff.mpr c17
         subst c17
         have H1 : (some (0, 0, 0, 0, 0, 0, 0, ([] : List (S59)), 0, false, ([] : List Int), 2)) = some (r1, r2, r3, r4, r5, r6, r7, r8, r9, r10, r11, r12) := by rw [if_neg (show ¬ (false = true) by decide)] at H; exact H
         clear H
         have H := H1
         clear H1
         simp only [Option.some.injEq, Prod.mk.injEq] at H
         obtain ⟨rfl, rfl, rfl, rfl, rfl, rfl, rfl, rfl, rfl, rfl, rfl, rfl⟩ := H
         try go_wp2_with (first | ((with_reducible refine gate_callee (f := 36) rfl ?_); refine gL_ (some 27) Try.func36 #[.slice A0 l0.length c0] ?_; (with_reducible refine (ofmsg_read.calls (fun k_ => k_ < w.heap.size) _ _ l0 t226 t227 t228 t229 t230 t231 t232 t233 t236 t237 t238 true _ ?side1 A11.out).mono ?_); (case side1 => exact Kd.V_mk HC0.out (Kd.F_below (Kd.C_F (Kd.heap_int .u8) HR0.out) bz_)); rintro e w33 ⟨v234, v239, rfl, ho0, ho1, hb⟩; refine ⟨_, rfl, ?_⟩; have HO235 := m_ (Kd.R_lower (Kd.R_mono (ok' := fun k_ => True) ho0 (fun _ hk_ => trivial)) (below_size bz_)); have HO240 := m_ (Kd.V_lower (Kd.V_mono (ok' := fun k_ => some k_ ≠ (v234 : Value).ownBlock ∧ k_ ≠ gb223) ho1 (fun k_ hk_ => ⟨hk_.2, Or.elim hk_.1 (fun hs_ => fun e_ => Nat.not_le.2 hs_ (by rw [e_]; exact GW223.out)) (fun hn_ => (Kd.freshB (g := gb223) (o := .cells #[.int .u8 0, .int .u32 0, .int .u32 0, .int .u32 0, .int .u32 0, .int .i64 0, .int .u32 0, .slice none 0 0, .int .i64 0, .bool false, .slice none 0 0] 29 (0, 0)) kz_ k_ hn_))⟩)) (below_size bz_)); replace BK223 := m_ (kl_ gb223 hb); replace HB := m_ (below_step bz_ hb); (try clear hb); (try clear hb2); (try clear hk); (try clear hi); (try clear ho0); (try clear ho1)) | ((with_reducible refine gate_dst (N := 4) rfl ?_); (try (refine gate_guard (by rfl) ?_; dsimp only)); refine bx_ 4 29 #[.int .u8 0, .int .u32 0, .int .u32 0, .int .u32 0, .int .u32 0, .int .i64 0, .int .u32 0, .slice none 0 0, .int .i64 0, .bool false, .slice none 0 0] ?_; intro gb242 hg w34 hbox hb; have BK242 := m_ (hbox); have GW242 := m_ ((gw_ : w.heap.size ≤ gb242)); have GE242 := m_ ((gw_ : w.heap.size ≤ gb242)); have NB223_242 := m_ ((gl_ : gb223 ≠ gb242)); have NB242_223 := m_ ((gr_ : gb242 ≠ gb223)); replace HO235 := m_ (Kd.R_below (Rz_ HO235.out) hb); replace HO240 := m_ (Kd.V_below (Kd.V_elderB (Vz_ HO240.out) gb242 (Nat.le_of_eq hg.symm)) hb); replace BK223 := m_ (kl_ gb223 hb); replace HB := m_ (below_step bz_ hb); clear hb hbox hg; have hnb35 := NB242_223.out; have hnc35 := NB223_242.out; have hcz36 := cz11_ BK242.out; obtain ⟨Ao37, co37, eo37⟩ := Kd.R_slice HO235.out; subst eo37; obtain ⟨Ao38, co38, eo38⟩ := Kd.V_slice HO240.out; subst eo38))
         obtain ⟨w39, hw⟩ : ∃ W_, W_ = (((((((((((w34.setCell ⟨gb242, 0, none⟩ (.int .u8 t226)).setCell ⟨gb242, 1, none⟩ (.int .u32 t227)).setCell ⟨gb242, 2, none⟩ (.int .u32 t228)).setCell ⟨gb242, 3, none⟩ (.int .u32 t229)).setCell ⟨gb242, 4, none⟩ (.int .u32 t230)).setCell ⟨gb242, 5, none⟩ (.int .i64 t231)).setCell ⟨gb242, 6, none⟩ (.int .u32 t232)).setCell ⟨gb242, 7, none⟩ (.slice Ao37 t233.length co37)).setCell ⟨gb242, 8, none⟩ (.int .i64 t236)).setCell ⟨gb242, 9, none⟩ (.bool t237)).setCell ⟨gb242, 10, none⟩ (.slice Ao38 t238.length co38)) := ⟨_, rfl⟩
         replace HO235 : Aside0 (Kd.R k59 59 w39 w.heap.size (fun _ => True) (.slice Ao37 t233.length co37) t233) := ⟨by rw [hw]; exact Kd.R_mono (Rf_ (Kd.R_types HO235.out BK242.out (by decide))) (fun _ hk => trivial)⟩
         replace HO240 : Aside0 (Kd.V (Kd.int .u8) 5 w39 w.heap.size (fun k_ => some k_ ≠ (.slice Ao37 t233.length co37 : Value).ownBlock ∧ k_ ≠ gb223 ∧ k_ ≠ gb242) (.slice Ao38 t238.length co38) t238) := ⟨by rw [hw]; exact Kd.V_mono (Vf_ (Kd.V_mono HO240.out (fun k_ hk => (⟨hk, hk.2⟩ : _ ∧ k_ ≠ gb242)))) (fun _ hk => ⟨hk.1.1.1, ⟨hk.1.1.2, hk.1.2⟩⟩)⟩
         replace BK223 : Aside0 (w39.heap[gb223]? = some (.cells #[.int .u8 0, .int .u32 0, .int .u32 0, .int .u32 0, .int .u32 0, .int .i64 0, .int .u32 0, .slice none 0 0, .int .i64 0, .bool false, .slice none 0 0] 29 (0, 0))) := ⟨by rw [hw]; exact kb_⟩
         replace BK242 : Aside0 (w39.heap[gb242]? = some (.cells #[.int .u8 t226, .int .u32 t227, .int .u32 t228, .int .u32 t229, .int .u32 t230, .int .i64 t231, .int .u32 t232, .slice Ao37 t233.length co37, .int .i64 t236, .bool t237, .slice Ao38 t238.length co38] 29 (0, 0))) := ⟨by rw [hw]; exact kb_⟩
         replace HB : Aside0 (Below w.heap.size w w39) := ⟨by rw [hw]; exact bz_⟩
         rw [← hw]; clear hw
         replace HO235 := m_ (Kd.R_drew HO235.out)
         replace HO240 := m_ (Kd.V_drew HO240.out)
         replace BK223 := m_ (blk_drew BK223.out)
         replace BK242 := m_ (blk_drew BK242.out)
         replace HB := m_ (below_drew1 HB.out)
         have p243 : 0 ≤ (0 : Int) := (by omega)
         have q243 : 0 < (l0.length : Int) := od_
         obtain ⟨ad243, e243, hx243_0⟩ := Kd.at_int HR0.out 0 p243 q243
         have hw243_0 := hx243_0
         (try rw [show ((0 : Int)).toNat = 0 from rfl] at hw243_0)
         (try rw [show 0 * 1 = 0 from rfl] at hw243_0)
         (try rw [Addr.add_zero'] at hw243_0)
         cases e243
         have qi243 : (0 < l0.length) = True := eq_true (by omega)
         (try rw [show ((0 : Int)).toNat = 0 from rfl] at hx243_0)
         (try rw [Addr.add_zero'] at hx243_0)
         replace hx243_0 := kp_ HB.out hx243_0
         replace p243 := eq_true p243
         replace q243 := eq_true q243
         have p244 : 0 ≤ (1 : Int) := (by omega)
         have q244 : 1 < (l0.length : Int) := od_
         obtain ⟨ad244, e244, hx244_0⟩ := Kd.at_int HR0.out 1 p244 q244
         have hw244_0 := hx244_0
         (try rw [show ((1 : Int)).toNat = 1 from rfl] at hw244_0)
         (try rw [show 1 * 1 = 1 from rfl] at hw244_0)
         (try simp only [Nat.reduceMul, Nat.reduceEqDiff, Go.Addr.add, ↓reduceIte] at hw244_0)
         obtain rfl : ad243 = ad244 := (by injection e244)
         (try simp only [show (1 : Int).toNat = 1 from rfl, Nat.reduceMul, Nat.reduceEqDiff, Go.Addr.add, ↓reduceIte] at hx244_0)
         have qi244 : (1 < l0.length) = True := eq_true (by omega)
         (try rw [show ((1 : Int)).toNat = 1 from rfl] at hx244_0)
         replace hx244_0 := kp_ HB.out hx244_0
         replace p244 := eq_true p244
         replace q244 := eq_true q244
         refine start_ (n := 22) (S := fun w' => w'.cell? ⟨gb242, 0, none⟩ = some (.int .u8 t226) ∧ w'.cell? ⟨gb242, 1, none⟩ = some (.int .u32 t227) ∧ w'.cell? ⟨gb242, 2, none⟩ = some (.int .u32 t228) ∧ w'.cell? ⟨gb242, 3, none⟩ = some (.int .u32 t229) ∧ w'.cell? ⟨gb242, 4, none⟩ = some (.int .u32 t230) ∧ w'.cell? ⟨gb242, 5, none⟩ = some (.int .i64 t231) ∧ w'.cell? ⟨gb242, 6, none⟩ = some (.int .u32 t232) ∧ w'.cell? ⟨gb242, 7, none⟩ = some (.slice Ao37 t233.length co37) ∧ w'.cell? ⟨gb242, 8, none⟩ = some (.int .i64 t236) ∧ w'.cell? ⟨gb242, 9, none⟩ = some (.bool t237) ∧ w'.cell? ⟨gb242, 10, none⟩ = some (.slice Ao38 t238.length co38) ∧ w'.cell? ad243 = some (.int .u8 (rd l0 0)) ∧ w'.cell? ⟨ad243.block, ad243.off + 1, none⟩ = some (.int .u8 (rd l0 1))) (ds := []) (bs_ 22 0) (by kernel_rfl) rfl rfl ⟨(blk_cell BK242.out 0).trans rfl, (blk_cell BK242.out 1).trans rfl, (blk_cell BK242.out 2).trans rfl, (blk_cell BK242.out 3).trans rfl, (blk_cell BK242.out 4).trans rfl, (blk_cell BK242.out 5).trans rfl, (blk_cell BK242.out 6).trans rfl, (blk_cell BK242.out 7).trans rfl, (blk_cell BK242.out 8).trans rfl, (blk_cell BK242.out 9).trans rfl, (blk_cell BK242.out 10).trans rfl, (kp_ HB.out hw243_0), (kp_ HB.out hw244_0)⟩ (fun hHeld => ?_); refine with_tabW ofmsg_Decode.tab4 ofmsg_Decode.bits4 (fun HT_ HW_ => ?_)
         generalize w39.drew = w40 at HO235 HO240 BK223 BK242 HB hx243_0 hx244_0 hHeld ⊢
         refine pz_ 0 30 ?_
         refine pz_ 1 31 ?_
         refine pz_ 2 32 ?_
         refine pz_ 3 33 ?_
         refine pz_ 4 34 ?_
         refine pz_ 5 35 ?_
         refine pz_ 6 36 ?_
         refine pz_ 10 40 ?_
         refine pz_ 11 41 ?_
         refine tz_ 7 37 ?_
         refine pz_ 8 38 ?_
         refine pz_ 9 39 ?_
         refine tz_ 12 42 ?_
         refine pz_ 13 43 ?_
         refine pz_ 14 44 ?_
         refine pz_ 15 45 ?_
         refine pz_ 16 46 ?_
         refine pz_ 17 47 ?_
         refine tz_ 18 48 ?_
         refine oz_ 19 (some 49) (fun K hK => ?_)
         refine gz_ Try.func14 #[.agg #[.int .u8 t226, .int .u32 t227, .int .u32 t228, .int .u32 t229, .int .u32 t230, .int .i64 t231, .int .u32 t232, .slice Ao37 t233.length co37, .int .i64 t236, .bool t237, .slice Ao38 t238.length co38]] ?_
         with_reducible refine (ofmsg_Right.calls kj1 t226 t227 t228 t229 t230 t231 t232 _ _ t233 t236 t237 _ _ t238 false _ ?side1 ?side2 ?side3 ?side4 A16.out).mono ?_
         (case side1 => exact Cd_ (Kd.R_reads' HO235.out).2.2)
         (case side2 => exact (Kd.R_reads' HO235.out).2.1)
         (case side3 => exact Cd_ (Kd.V_reads' HO240.out).2.2)
         (case side4 => exact (Kd.V_reads' HO240.out).2.1)
         rintro e w41 ⟨rfl, hb⟩
         refine ⟨_, rfl, ?_⟩
         replace HO235 := m_ (Kd.R_below (Rz_ HO235.out) hb)
         replace HO240 := m_ (Kd.V_below (Vz_ HO240.out) hb)
         replace BK223 := m_ (kl_ gb223 hb)
         replace BK242 := m_ (kl_ gb242 hb)
         replace HB := m_ (below_step bz_ hb)
         (try clear hb)
         (try clear hb2)
         (try clear hk)
         (try clear hi)
         refine hK.out _ _ ⟨(blk_cell BK242.out 0).trans rfl, (blk_cell BK242.out 1).trans rfl, (blk_cell BK242.out 2).trans rfl, (blk_cell BK242.out 3).trans rfl, (blk_cell BK242.out 4).trans rfl, (blk_cell BK242.out 5).trans rfl, (blk_cell BK242.out 6).trans rfl, (blk_cell BK242.out 7).trans rfl, (blk_cell BK242.out 8).trans rfl, (blk_cell BK242.out 9).trans rfl, (blk_cell BK242.out 10).trans rfl, (kp_ HB.out hw243_0), (kp_ HB.out hw244_0)⟩ (fun hHeld => ?_)
         clear hK K
         refine nz_ (some 49) ?_
         refine pz_ 20 50 ?_
         refine pz_ 21 51 ?_
         refine dz_ ?_
         have hcz42 := cz11_ BK223.out
         try go_wp2
         refine bodyPost_ret (results_ct rfl _ _ gb223 29 #[.int .u8 0, .int .u32 0, .int .u32 0, .int .u32 0, .int .u32 0, .int .i64 0, .int .u32 0, .slice none 0 0, .int .i64 0, .bool false, .slice none 0 0] (0, 0) _ rfl kb_ Try.underlying29 rfl (by kernel_rfl)) rfl ?_
         exact ⟨_, _, ew_, (by first | exact Kd.R_nil _ _ _ _ _ | exact Kd.N_nil _ _ _ _ _ | exact Kd.V_nil _ _ _ _ _ | exact Kd.Q_nil _ _ _ _ _ | exact Kd.S_nil _ _ _ _ _), (by first | exact Kd.R_nil _ _ _ _ _ | exact Kd.N_nil _ _ _ _ _ | exact Kd.V_nil _ _ _ _ _ | exact Kd.Q_nil _ _ _ _ _ | exact Kd.S_nil _ _ _ _ _), bz_⟩
       ·rw [if_neg c15] at H
        have c15b0 : ((l0.length : Int) == (Go.bits .or .i64 (wrap64 ((wrap64 (rd l0 0)) * 256)) (wrap64 (rd l0 1)))) = false := beq_eq_false_iff_ne.mpr c15
        have c15b1 : ((l0.length : Int) != (Go.bits .or .i64 (wrap64 ((wrap64 (rd l0 0)) * 256)) (wrap64 (rd l0 1)))) = true := bne_iff_ne.mpr c15
        simp only [Option.some.injEq, Prod.mk.injEq] at H
        obtain ⟨rfl, rfl, rfl, rfl, rfl, rfl, rfl, rfl, rfl, rfl, rfl, rfl⟩ := H
        try go_wp2_with (first | ((with_reducible refine gate_callee (f := 36) rfl ?_); refine gL_ (some 27) Try.func36 #[.slice A0 l0.length c0] ?_; (with_reducible refine (ofmsg_read.calls (fun k_ => k_ < w.heap.size) _ _ l0 t226 t227 t228 t229 t230 t231 t232 t233 t236 t237 t238 true _ ?side1 A11.out).mono ?_); (case side1 => exact Kd.V_mk HC0.out (Kd.F_below (Kd.C_F (Kd.heap_int .u8) HR0.out) bz_)); rintro e w43 ⟨v234, v239, rfl, ho0, ho1, hb⟩; refine ⟨_, rfl, ?_⟩; have HO235 := m_ (Kd.R_lower (Kd.R_mono (ok' := fun k_ => True) ho0 (fun _ hk_ => trivial)) (below_size bz_)); have HO240 := m_ (Kd.V_lower (Kd.V_mono (ok' := fun k_ => some k_ ≠ (v234 : Value).ownBlock ∧ k_ ≠ gb223) ho1 (fun k_ hk_ => ⟨hk_.2, Or.elim hk_.1 (fun hs_ => fun e_ => Nat.not_le.2 hs_ (by rw [e_]; exact GW223.out)) (fun hn_ => (Kd.freshB (g := gb223) (o := .cells #[.int .u8 0, .int .u32 0, .int .u32 0, .int .u32 0, .int .u32 0, .int .i64 0, .int .u32 0, .slice none 0 0, .int .i64 0, .bool false, .slice none 0 0] 29 (0, 0)) kz_ k_ hn_))⟩)) (below_size bz_)); replace BK223 := m_ (kl_ gb223 hb); replace HB := m_ (below_step bz_ hb); (try clear hb); (try clear hb2); (try clear hk); (try clear hi); (try clear ho0); (try clear ho1)) | ((with_reducible refine gate_dst (N := 4) rfl ?_); (try (refine gate_guard (by rfl) ?_; dsimp only)); refine bx_ 4 29 #[.int .u8 0, .int .u32 0, .int .u32 0, .int .u32 0, .int .u32 0, .int .i64 0, .int .u32 0, .slice none 0 0, .int .i64 0, .bool false, .slice none 0 0] ?_; intro gb242 hg w44 hbox hb; have BK242 := m_ (hbox); have GW242 := m_ ((gw_ : w.heap.size ≤ gb242)); have GE242 := m_ ((gw_ : w.heap.size ≤ gb242)); have NB223_242 := m_ ((gl_ : gb223 ≠ gb242)); have NB242_223 := m_ ((gr_ : gb242 ≠ gb223)); replace HO235 := m_ (Kd.R_below (Rz_ HO235.out) hb); replace HO240 := m_ (Kd.V_below (Kd.V_elderB (Vz_ HO240.out) gb242 (Nat.le_of_eq hg.symm)) hb); replace BK223 := m_ (kl_ gb223 hb); replace HB := m_ (below_step bz_ hb); clear hb hbox hg; have hnb45 := NB242_223.out; have hnc45 := NB223_242.out; have hcz46 := cz11_ BK242.out; obtain ⟨Ao47, co47, eo47⟩ := Kd.R_slice HO235.out; subst eo47; obtain ⟨Ao48, co48, eo48⟩ := Kd.V_slice HO240.out; subst eo48))
        obtain ⟨w49, hw⟩ : ∃ W_, W_ = (((((((((((w44.setCell ⟨gb242, 0, none⟩ (.int .u8 t226)).setCell ⟨gb242, 1, none⟩ (.int .u32 t227)).setCell ⟨gb242, 2, none⟩ (.int .u32 t228)).setCell ⟨gb242, 3, none⟩ (.int .u32 t229)).setCell ⟨gb242, 4, none⟩ (.int .u32 t230)).setCell ⟨gb242, 5, none⟩ (.int .i64 t231)).setCell ⟨gb242, 6, none⟩ (.int .u32 t232)).setCell ⟨gb242, 7, none⟩ (.slice Ao47 t233.length co47)).setCell ⟨gb242, 8, none⟩ (.int .i64 t236)).setCell ⟨gb242, 9, none⟩ (.bool t237)).setCell ⟨gb242, 10, none⟩ (.slice Ao48 t238.length co48)) := ⟨_, rfl⟩
        replace HO235 : Aside0 (Kd.R k59 59 w49 w.heap.size (fun _ => True) (.slice Ao47 t233.length co47) t233) := ⟨by rw [hw]; exact Kd.R_mono (Rf_ (Kd.R_types HO235.out BK242.out (by decide))) (fun _ hk => trivial)⟩
        replace HO240 : Aside0 (Kd.V (Kd.int .u8) 5 w49 w.heap.size (fun k_ => some k_ ≠ (.slice Ao47 t233.length co47 : Value).ownBlock ∧ k_ ≠ gb223 ∧ k_ ≠ gb242) (.slice Ao48 t238.length co48) t238) := ⟨by rw [hw]; exact Kd.V_mono (Vf_ (Kd.V_mono HO240.out (fun k_ hk => (⟨hk, hk.2⟩ : _ ∧ k_ ≠ gb242)))) (fun _ hk => ⟨hk.1.1.1, ⟨hk.1.1.2, hk.1.2⟩⟩)⟩
        replace BK223 : Aside0 (w49.heap[gb223]? = some (.cells #[.int .u8 0, .int .u32 0, .int .u32 0, .int .u32 0, .int .u32 0, .int .i64 0, .int .u32 0, .slice none 0 0, .int .i64 0, .bool false, .slice none 0 0] 29 (0, 0))) := ⟨by rw [hw]; exact kb_⟩
        replace BK242 : Aside0 (w49.heap[gb242]? = some (.cells #[.int .u8 t226, .int .u32 t227, .int .u32 t228, .int .u32 t229, .int .u32 t230, .int .i64 t231, .int .u32 t232, .slice Ao47 t233.length co47, .int .i64 t236, .bool t237, .slice Ao48 t238.length co48] 29 (0, 0))) := ⟨by rw [hw]; exact kb_⟩
        replace HB : Aside0 (Below w.heap.size w w49) := ⟨by rw [hw]; exact bz_⟩
        rw [← hw]; clear hw
        replace HO235 := m_ (Kd.R_drew HO235.out)
        replace HO240 := m_ (Kd.V_drew HO240.out)
        replace BK223 := m_ (blk_drew BK223.out)
        replace BK242 := m_ (blk_drew BK242.out)
        replace HB := m_ (below_drew1 HB.out)
        have p243 : 0 ≤ (0 : Int) := (by omega)
        have q243 : 0 < (l0.length : Int) := od_
        obtain ⟨ad243, e243, hx243_0⟩ := Kd.at_int HR0.out 0 p243 q243
        have hw243_0 := hx243_0
        (try rw [show ((0 : Int)).toNat = 0 from rfl] at hw243_0)
        (try rw [show 0 * 1 = 0 from rfl] at hw243_0)
        (try rw [Addr.add_zero'] at hw243_0)
        cases e243
        have qi243 : (0 < l0.length) = True := eq_true (by omega)
        (try rw [show ((0 : Int)).toNat = 0 from rfl] at hx243_0)
        (try rw [Addr.add_zero'] at hx243_0)
        replace hx243_0 := kp_ HB.out hx243_0
        replace p243 := eq_true p243
        replace q243 := eq_true q243
        have p244 : 0 ≤ (1 : Int) := (by omega)
        have q244 : 1 < (l0.length : Int) := od_
        obtain ⟨ad244, e244, hx244_0⟩ := Kd.at_int HR0.out 1 p244 q244
        have hw244_0 := hx244_0
        (try rw [show ((1 : Int)).toNat = 1 from rfl] at hw244_0)
        (try rw [show 1 * 1 = 1 from rfl] at hw244_0)
        (try simp only [Nat.reduceMul, Nat.reduceEqDiff, Go.Addr.add, ↓reduceIte] at hw244_0)
        obtain rfl : ad243 = ad244 := (by injection e244)
        (try simp only [show (1 : Int).toNat = 1 from rfl, Nat.reduceMul, Nat.reduceEqDiff, Go.Addr.add, ↓reduceIte] at hx244_0)
        have qi244 : (1 < l0.length) = True := eq_true (by omega)
        (try rw [show ((1 : Int)).toNat = 1 from rfl] at hx244_0)
        replace hx244_0 := kp_ HB.out hx244_0
        replace p244 := eq_true p244
        replace q244 := eq_true q244
        refine start_ (n := 22) (S := fun w' => w'.cell? ad243 = some (.int .u8 (rd l0 0)) ∧ w'.cell? ⟨ad243.block, ad243.off + 1, none⟩ = some (.int .u8 (rd l0 1))) (ds := []) (bs_ 22 0) (by kernel_rfl) rfl rfl ⟨(kp_ HB.out hw243_0), (kp_ HB.out hw244_0)⟩ (fun hHeld => ?_); refine with_tabW ofmsg_Decode.tab4 ofmsg_Decode.bits4 (fun HT_ HW_ => ?_)
        generalize w49.drew = w50 at HO235 HO240 BK223 BK242 HB hx243_0 hx244_0 hHeld ⊢
        refine pz_ 0 30 ?_
        refine pz_ 1 31 ?_
        refine pz_ 2 32 ?_
        refine pz_ 3 33 ?_
        refine pz_ 4 34 ?_
        refine pz_ 5 35 ?_
        refine pz_ 6 36 ?_
        refine pz_ 10 40 ?_
        refine pz_ 11 41 ?_
        refine tz_ 7 37 ?_
        refine pz_ 8 38 ?_
        refine pz_ 9 39 ?_
        refine tz_ 12 42 ?_
        refine pz_ 13 43 ?_
        refine pz_ 14 44 ?_
        refine pz_ 15 45 ?_
        refine pz_ 16 46 ?_
        refine pz_ 17 47 ?_
        refine pz_ 18 48 ?_
        refine pz_ 19 49 ?_
        refine pz_ 20 50 ?_
        refine pz_ 21 51 ?_
        refine dz_ ?_
        have hcz51 := cz11_ BK223.out
        try go_wp2
        refine bodyPost_ret (results_ct rfl _ _ gb223 29 #[.int .u8 0, .int .u32 0, .int .u32 0, .int .u32 0, .int .u32 0, .int .i64 0, .int .u32 0, .slice none 0 0, .int .i64 0, .bool false, .slice none 0 0] (0, 0) _ rfl kb_ Try.underlying29 rfl (by kernel_rfl)) rfl ?_
        exact ⟨_, _, ew_, (by first | exact Kd.R_nil _ _ _ _ _ | exact Kd.N_nil _ _ _ _ _ | exact Kd.V_nil _ _ _ _ _ | exact Kd.Q_nil _ _ _ _ _ | exact Kd.S_nil _ _ _ _ _), (by first | exact Kd.R_nil _ _ _ _ _ | exact Kd.N_nil _ _ _ _ _ | exact Kd.V_nil _ _ _ _ _ | exact Kd.Q_nil _ _ _ _ _ | exact Kd.S_nil _ _ _ _ _), bz_⟩
      ·rw [if_neg c14] at H
       exact absurd H (by simp)
     ·rw [if_neg c13] at H
      exact absurd H (by simp)
    ·replace c12 := Bool.eq_false_iff.mpr c12
     subst c12
     have H1 : (some (0, 0, 0, 0, 0, 0, 0, ([] : List (S59)), 0, false, ([] : List Int), 2)) = some (r1, r2, r3, r4, r5, r6, r7, r8, r9, r10, r11, r12) := by rw [if_neg (show ¬ (false = true) by decide)] at H; exact H
     clear H
     have H := H1
     clear H1
     simp only [Option.some.injEq, Prod.mk.injEq] at H
     obtain ⟨rfl, rfl, rfl, rfl, rfl, rfl, rfl, rfl, rfl, rfl, rfl, rfl⟩ := H
     try go_wp2_with (first | ((with_reducible refine gate_callee (f := 36) rfl ?_); refine gL_ (some 27) Try.func36 #[.slice A0 l0.length c0] ?_; (with_reducible refine (ofmsg_read.calls (fun k_ => k_ < w.heap.size) _ _ l0 t226 t227 t228 t229 t230 t231 t232 t233 t236 t237 t238 false _ ?side1 A11.out).mono ?_); (case side1 => exact Kd.V_mk HC0.out (Kd.F_below (Kd.C_F (Kd.heap_int .u8) HR0.out) bz_)); rintro e w52 ⟨v234, v239, rfl, ho0, ho1, hb⟩; refine ⟨_, rfl, ?_⟩; have HO235 := m_ (Kd.R_lower (Kd.R_mono (ok' := fun k_ => True) ho0 (fun _ hk_ => trivial)) (below_size bz_)); have HO240 := m_ (Kd.V_lower (Kd.V_mono (ok' := fun k_ => some k_ ≠ (v234 : Value).ownBlock ∧ k_ ≠ gb223) ho1 (fun k_ hk_ => ⟨hk_.2, Or.elim hk_.1 (fun hs_ => fun e_ => Nat.not_le.2 hs_ (by rw [e_]; exact GW223.out)) (fun hn_ => (Kd.freshB (g := gb223) (o := .cells #[.int .u8 0, .int .u32 0, .int .u32 0, .int .u32 0, .int .u32 0, .int .i64 0, .int .u32 0, .slice none 0 0, .int .i64 0, .bool false, .slice none 0 0] 29 (0, 0)) kz_ k_ hn_))⟩)) (below_size bz_)); replace BK223 := m_ (kl_ gb223 hb); replace HB := m_ (below_step bz_ hb); (try clear hb); (try clear hb2); (try clear hk); (try clear hi); (try clear ho0); (try clear ho1)) | ((with_reducible refine gate_dst (N := 4) rfl ?_); (try (refine gate_guard (by rfl) ?_; dsimp only)); refine bx_ 4 29 #[.int .u8 0, .int .u32 0, .int .u32 0, .int .u32 0, .int .u32 0, .int .i64 0, .int .u32 0, .slice none 0 0, .int .i64 0, .bool false, .slice none 0 0] ?_; intro gb242 hg w53 hbox hb; have BK242 := m_ (hbox); have GW242 := m_ ((gw_ : w.heap.size ≤ gb242)); have GE242 := m_ ((gw_ : w.heap.size ≤ gb242)); have NB223_242 := m_ ((gl_ : gb223 ≠ gb242)); have NB242_223 := m_ ((gr_ : gb242 ≠ gb223)); replace HO235 := m_ (Kd.R_below (Rz_ HO235.out) hb); replace HO240 := m_ (Kd.V_below (Kd.V_elderB (Vz_ HO240.out) gb242 (Nat.le_of_eq hg.symm)) hb); replace BK223 := m_ (kl_ gb223 hb); replace HB := m_ (below_step bz_ hb); clear hb hbox hg; have hnb54 := NB242_223.out; have hnc54 := NB223_242.out; have hcz55 := cz11_ BK242.out; obtain ⟨Ao56, co56, eo56⟩ := Kd.R_slice HO235.out; subst eo56; obtain ⟨Ao57, co57, eo57⟩ := Kd.V_slice HO240.out; subst eo57))
     obtain ⟨w58, hw⟩ : ∃ W_, W_ = (((((((((((w53.setCell ⟨gb242, 0, none⟩ (.int .u8 t226)).setCell ⟨gb242, 1, none⟩ (.int .u32 t227)).setCell ⟨gb242, 2, none⟩ (.int .u32 t228)).setCell ⟨gb242, 3, none⟩ (.int .u32 t229)).setCell ⟨gb242, 4, none⟩ (.int .u32 t230)).setCell ⟨gb242, 5, none⟩ (.int .i64 t231)).setCell ⟨gb242, 6, none⟩ (.int .u32 t232)).setCell ⟨gb242, 7, none⟩ (.slice Ao56 t233.length co56)).setCell ⟨gb242, 8, none⟩ (.int .i64 t236)).setCell ⟨gb242, 9, none⟩ (.bool t237)).setCell ⟨gb242, 10, none⟩ (.slice Ao57 t238.length co57)) := ⟨_, rfl⟩
     replace HO235 : Aside0 (Kd.R k59 59 w58 w.heap.size (fun _ => True) (.slice Ao56 t233.length co56) t233) := ⟨by rw [hw]; exact Kd.R_mono (Rf_ (Kd.R_types HO235.out BK242.out (by decide))) (fun _ hk => trivial)⟩
     replace HO240 : Aside0 (Kd.V (Kd.int .u8) 5 w58 w.heap.size (fun k_ => some k_ ≠ (.slice Ao56 t233.length co56 : Value).ownBlock ∧ k_ ≠ gb223 ∧ k_ ≠ gb242) (.slice Ao57 t238.length co57) t238) := ⟨by rw [hw]; exact Kd.V_mono (Vf_ (Kd.V_mono HO240.out (fun k_ hk => (⟨hk, hk.2⟩ : _ ∧ k_ ≠ gb242)))) (fun _ hk => ⟨hk.1.1.1, ⟨hk.1.1.2, hk.1.2⟩⟩)⟩
     replace BK223 : Aside0 (w58.heap[gb223]? = some (.cells #[.int .u8 0, .int .u32 0, .int .u32 0, .int .u32 0, .int .u32 0, .int .i64 0, .int .u32 0, .slice none 0 0, .int .i64 0, .bool false, .slice none 0 0] 29 (0, 0))) := ⟨by rw [hw]; exact kb_⟩
     replace BK242 : Aside0 (w58.heap[gb242]? = some (.cells #[.int .u8 t226, .int .u32 t227, .int .u32 t228, .int .u32 t229, .int .u32 t230, .int .i64 t231, .int .u32 t232, .slice Ao56 t233.length co56, .int .i64 t236, .bool t237, .slice Ao57 t238.length co57] 29 (0, 0))) := ⟨by rw [hw]; exact kb_⟩
     replace HB : Aside0 (Below w.heap.size w w58) := ⟨by rw [hw]; exact bz_⟩
     rw [← hw]; clear hw
     replace HO235 := m_ (Kd.R_drew HO235.out)
     replace HO240 := m_ (Kd.V_drew HO240.out)
     replace BK223 := m_ (blk_drew BK223.out)
     replace BK242 := m_ (blk_drew BK242.out)
     replace HB := m_ (below_drew1 HB.out)
     refine start_ (n := 22) (S := fun w' => True) (ds := []) (bs_ 22 0) (by kernel_rfl) rfl rfl trivial (fun hHeld => ?_); refine with_tabW ofmsg_Decode.tab4 ofmsg_Decode.bits4 (fun HT_ HW_ => ?_)
     generalize w58.drew = w59 at HO235 HO240 BK223 BK242 HB hHeld ⊢
     refine pz_ 0 30 ?_
     refine pz_ 1 31 ?_
     refine pz_ 2 32 ?_
     refine pz_ 3 33 ?_
     refine pz_ 4 34 ?_
     refine pz_ 5 35 ?_
     refine pz_ 6 36 ?_
     refine pz_ 7 37 ?_
     refine pz_ 8 38 ?_
     refine pz_ 9 39 ?_
     refine pz_ 10 40 ?_
     refine pz_ 11 41 ?_
     refine pz_ 12 42 ?_
     refine pz_ 13 43 ?_
     refine pz_ 14 44 ?_
     refine pz_ 15 45 ?_
     refine pz_ 16 46 ?_
     refine pz_ 17 47 ?_
     refine pz_ 18 48 ?_
     refine pz_ 19 49 ?_
     refine pz_ 20 50 ?_
     refine pz_ 21 51 ?_
     refine dz_ ?_
     have hcz60 := cz11_ BK223.out
     try go_wp2
     refine bodyPost_ret (results_ct rfl _ _ gb223 29 #[.int .u8 0, .int .u32 0, .int .u32 0, .int .u32 0, .int .u32 0, .int .i64 0, .int .u32 0, .slice none 0 0, .int .i64 0, .bool false, .slice none 0 0] (0, 0) _ rfl kb_ Try.underlying29 rfl (by kernel_rfl)) rfl ?_
     exact ⟨_, _, ew_, (by first | exact Kd.R_nil _ _ _ _ _ | exact Kd.N_nil _ _ _ _ _ | exact Kd.V_nil _ _ _ _ _ | exact Kd.Q_nil _ _ _ _ _ | exact Kd.S_nil _ _ _ _ _), (by first | exact Kd.R_nil _ _ _ _ _ | exact Kd.N_nil _ _ _ _ _ | exact Kd.V_nil _ _ _ _ _ | exact Kd.Q_nil _ _ _ _ _ | exact Kd.S_nil _ _ _ _ _), bz_⟩
end Go.Proofs.Ytboonfidioombaa.P

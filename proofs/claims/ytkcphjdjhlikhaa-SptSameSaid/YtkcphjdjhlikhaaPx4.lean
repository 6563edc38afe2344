/- For each Go function a Lean function, and the proof that a call comes to what it tells: made by program out of the translation (the kit's print, with texts by hand put in). No condition. -/
import Derived.Test.YtkcphjdjhlikhaaSq
import Derived.Test.YtkcphjdjhlikhaaPx0
import Derived.Test.YtkcphjdjhlikhaaPx3
namespace Go.Proofs.Ytkcphjdjhlikhaa.P
open Go.RowKit Go.Proofs.Ytkcphjdjhlikhaa.HRows Go.Proofs.YtkcphjdjhlikhaaW.PrintWords Go.Proofs.YtkcphjdjhlikhaaW.PrintLast Go.Proofs.YtkcphjdjhlikhaaW.PrintMore
attribute [local go_sem] max2_int min2_int max_two min_two max_three min_three max_four min_four   -- for this text's walks alone
set_option linter.unusedVariables false
set_option linter.unusedSimpArgs false

/-! ### cmp_Compare_int: function 77 -/
def cmp_Compare_int.f (a0 : Int) (a1 : Int) : Option (Int) := (cmp_isNaN_int.f a0).bind fun t128 => ((cmp_isNaN_int.f a1).bind fun t129 => (if t128 = true then (if t129 = true then (some 0) else (some (-1))) else (if t129 = true then (some 1) else (if a0 < a1 then (some (-1)) else (if a0 > a1 then (some 1) else (some 0))))))
set_option maxHeartbeats 8000000 in
set_option maxRecDepth 100000 in
theorem cmp_Compare_int.calls (a0 : Int) (a1 : Int) (r : Int) (w : World) (h : cmp_Compare_int.f a0 a1 = some r) :
  Calls Try.prog 77 #[.int .i64 a0, .int .i64 a1] w fun e w' => e = .returned (.int .i64 r) ∧ Drawn0 w w' := by
 have H : ((cmp_isNaN_int.f a0).bind fun t128 => ((cmp_isNaN_int.f a1).bind fun t129 => (if t128 = true then (if t129 = true then (some 0) else (some (-1))) else (if t129 = true then (some 1) else (if a0 < a1 then (some (-1)) else (if a0 > a1 then (some 1) else (some 0))))))) = some r := h
 clear h
 replace H := Option.bind_eq_some_iff.mp H
 obtain ⟨t128, A30, H⟩ := H
 replace H : ((cmp_isNaN_int.f a1).bind fun t129 => (if t128 = true then (if t129 = true then (some 0) else (some (-1))) else (if t129 = true then (some 1) else (if a0 < a1 then (some (-1)) else (if a0 > a1 then (some 1) else (some 0)))))) = some r := H
 have A3 := m_ A30
 clear A30
 replace H := Option.bind_eq_some_iff.mp H
 obtain ⟨t129, A40, H⟩ := H
 replace H : (if t128 = true then (if t129 = true then (some 0) else (some (-1))) else (if t129 = true then (some 1) else (if a0 < a1 then (some (-1)) else (if a0 > a1 then (some 1) else (some 0))))) = some r := H
 have A4 := m_ A40
 clear A40
 by_cases c5 : t128 = true
 ·subst c5
  have H1 : (if t129 = true then (some 0) else (some (-1))) = some r := by rw [if_pos rfl] at H; exact H
  clear H
  have H := H1
  clear H1
  by_cases c6 : t129 = true
  ·subst c6
   have H1 : (some 0) = some r := by rw [if_pos rfl] at H; exact H
   clear H
   have H := H1
   clear H1
   obtain rfl := Option.some.inj H
   go_enter Try.func77, Try.ntmps77
   go_wp2_with (first | ((with_reducible refine gate_callee (f := 75) rfl ?_); refine gL_ (some 8) Try.func75 #[.int .i64 a0] ?_; (with_reducible refine (cmp_isNaN_int.calls a0 true _ A3.out).mono ?_); rintro e w' ⟨rfl, ⟨nd, rfl⟩⟩; refine ⟨_, rfl, ?_⟩) | ((with_reducible refine gate_callee (f := 75) rfl ?_); refine gL_ (some 10) Try.func75 #[.int .i64 a1] ?_; (with_reducible refine (cmp_isNaN_int.calls a1 true _ A4.out).mono ?_); rintro e w' ⟨rfl, ⟨nd, rfl⟩⟩; refine ⟨_, rfl, ?_⟩))
   go_ret
   exact ⟨(by first | rfl | (simp; done) | (simp [*]; done)), (by repeat (first | exact Drawn0.refl _ | apply Drawn0.step))⟩
  ·replace c6 := Bool.eq_false_iff.mpr c6
   subst c6
   have H1 : (some (-1)) = some r := by rw [if_neg (show ¬ (false = true) by decide)] at H; exact H
   clear H
   have H := H1
   clear H1
   obtain rfl := Option.some.inj H
   go_enter Try.func77, Try.ntmps77
   go_wp2_with (first | ((with_reducible refine gate_callee (f := 75) rfl ?_); refine gL_ (some 8) Try.func75 #[.int .i64 a0] ?_; (with_reducible refine (cmp_isNaN_int.calls a0 true _ A3.out).mono ?_); rintro e w' ⟨rfl, ⟨nd, rfl⟩⟩; refine ⟨_, rfl, ?_⟩) | ((with_reducible refine gate_callee (f := 75) rfl ?_); refine gL_ (some 10) Try.func75 #[.int .i64 a1] ?_; (with_reducible refine (cmp_isNaN_int.calls a1 false _ A4.out).mono ?_); rintro e w' ⟨rfl, ⟨nd, rfl⟩⟩; refine ⟨_, rfl, ?_⟩))
   go_ret
   exact ⟨(by first | rfl | (simp; done) | (simp [*]; done)), (by repeat (first | exact Drawn0.refl _ | apply Drawn0.step))⟩
 ·replace c5 := Bool.eq_false_iff.mpr c5
  subst c5
  have H1 : (if t129 = true then (some 1) else (if a0 < a1 then (some (-1)) else (if a0 > a1 then (some 1) else (some 0)))) = some r := by rw [if_neg (show ¬ (false = true) by decide)] at H; exact H
  clear H
  have H := H1
  clear H1
  by_cases c7 : t129 = true
  ·subst c7
   have H1 : (some 1) = some r := by rw [if_pos rfl] at H; exact H
   clear H
   have H := H1
   clear H1
   obtain rfl := Option.some.inj H
   go_enter Try.func77, Try.ntmps77
   go_wp2_with (first | ((with_reducible refine gate_callee (f := 75) rfl ?_); refine gL_ (some 8) Try.func75 #[.int .i64 a0] ?_; (with_reducible refine (cmp_isNaN_int.calls a0 false _ A3.out).mono ?_); rintro e w' ⟨rfl, ⟨nd, rfl⟩⟩; refine ⟨_, rfl, ?_⟩) | ((with_reducible refine gate_callee (f := 75) rfl ?_); refine gL_ (some 10) Try.func75 #[.int .i64 a1] ?_; (with_reducible refine (cmp_isNaN_int.calls a1 true _ A4.out).mono ?_); rintro e w' ⟨rfl, ⟨nd, rfl⟩⟩; refine ⟨_, rfl, ?_⟩))
   go_ret
   exact ⟨(by first | rfl | (simp; done) | (simp [*]; done)), (by repeat (first | exact Drawn0.refl _ | apply Drawn0.step))⟩
  ·replace c7 := Bool.eq_false_iff.mpr c7
   subst c7
   have H1 : (if a0 < a1 then (some (-1)) else (if a0 > a1 then (some 1) else (some 0))) = some r := by rw [if_neg (show ¬ (false = true) by decide)] at H; exact H
   clear H
   have H := H1
   clear H1
   by_cases c8 : a0 < a1
   ·rw [if_pos c8] at H
    have c8b0 : decide (a0 < a1) = true := decide_eq_true c8
    clear c8
    obtain rfl := Option.some.inj H
    go_enter Try.func77, Try.ntmps77
    go_wp2_with (first | ((with_reducible refine gate_callee (f := 75) rfl ?_); refine gL_ (some 8) Try.func75 #[.int .i64 a0] ?_; (with_reducible refine (cmp_isNaN_int.calls a0 false _ A3.out).mono ?_); rintro e w' ⟨rfl, ⟨nd, rfl⟩⟩; refine ⟨_, rfl, ?_⟩) | ((with_reducible refine gate_callee (f := 75) rfl ?_); refine gL_ (some 10) Try.func75 #[.int .i64 a1] ?_; (with_reducible refine (cmp_isNaN_int.calls a1 false _ A4.out).mono ?_); rintro e w' ⟨rfl, ⟨nd, rfl⟩⟩; refine ⟨_, rfl, ?_⟩))
    go_ret
    exact ⟨(by first | rfl | (simp; done) | (simp [*]; done)), (by repeat (first | exact Drawn0.refl _ | apply Drawn0.step))⟩
   ·rw [if_neg c8] at H
    have c8b0 : decide (a0 < a1) = false := decide_eq_false c8
    clear c8
    by_cases c9 : a0 > a1
    ·rw [if_pos c9] at H
     have c9b0 : decide (a1 < a0) = true := decide_eq_true c9
     clear c9
     obtain rfl := Option.some.inj H
     go_enter Try.func77, Try.ntmps77
     go_wp2_with (first | ((with_reducible refine gate_callee (f := 75) rfl ?_); refine gL_ (some 8) Try.func75 #[.int .i64 a0] ?_; (with_reducible refine (cmp_isNaN_int.calls a0 false _ A3.out).mono ?_); rintro e w' ⟨rfl, ⟨nd, rfl⟩⟩; refine ⟨_, rfl, ?_⟩) | ((with_reducible refine gate_callee (f := 75) rfl ?_); refine gL_ (some 10) Try.func75 #[.int .i64 a1] ?_; (with_reducible refine (cmp_isNaN_int.calls a1 false _ A4.out).mono ?_); rintro e w' ⟨rfl, ⟨nd, rfl⟩⟩; refine ⟨_, rfl, ?_⟩))
     go_ret
     exact ⟨(by first | rfl | (simp; done) | (simp [*]; done)), (by repeat (first | exact Drawn0.refl _ | apply Drawn0.step))⟩
    ·rw [if_neg c9] at H
     have c9b0 : decide (a1 < a0) = false := decide_eq_false c9
     clear c9
     obtain rfl := Option.some.inj H
     go_enter Try.func77, Try.ntmps77
     go_wp2_with (first | ((with_reducible refine gate_callee (f := 75) rfl ?_); refine gL_ (some 8) Try.func75 #[.int .i64 a0] ?_; (with_reducible refine (cmp_isNaN_int.calls a0 false _ A3.out).mono ?_); rintro e w' ⟨rfl, ⟨nd, rfl⟩⟩; refine ⟨_, rfl, ?_⟩) | ((with_reducible refine gate_callee (f := 75) rfl ?_); refine gL_ (some 10) Try.func75 #[.int .i64 a1] ?_; (with_reducible refine (cmp_isNaN_int.calls a1 false _ A4.out).mono ?_); rintro e w' ⟨rfl, ⟨nd, rfl⟩⟩; refine ⟨_, rfl, ?_⟩))
     go_ret
     exact ⟨(by first | rfl | (simp; done) | (simp [*]; done)), (by repeat (first | exact Drawn0.refl _ | apply Drawn0.step))⟩

/-! ### heap_Less: function 68 -/
def heap_Less.f (k : Nat) (a0_0 : Int) (a0_1 : Int) (a1_0 : Int) (a1_1 : Int) : Option (Bool) := (cmp_Compare_int.f a0_0 a1_0).bind fun t132 => ((cmp_Compare_int.f a0_1 a1_1).bind fun t133 => ((cmp_Or_int.f k (([t132, t133] : List Int))).bind fun t137 => (some (decide (t137 < 0)))))
theorem heap_Less.mono : ∀ a0 a1 a2 a3 k, LeO (heap_Less.f k a0 a1 a2 a3) (heap_Less.f (k + 1) a0 a1 a2 a3) := by
 intro a0 a1 a2 a3 k
 unfold heap_Less.f
 repeat' first
   | (with_reducible exact cmp_Or_int.mono _ _)
   | (with_reducible exact LeO.refl _)
   | (with_reducible exact LeO.none _)
   | (with_reducible refine LeO.ite ?_ ?_)
   | (with_reducible refine LeO.bind ?_ (fun _ => ?_))
   | exact cmp_Or_int.mono _ _
   | exact LeO.none _
   | refine LeO.ite ?_ ?_
   | refine LeO.bind ?_ (fun _ => ?_)
def heap_Less.T1 : Bool × List (List Nat × List Nat) := (true, [([], []), ([0], [0]), ([], []), ([2], [2]), ([1, 3], [1, 3]), ([], []), ([5], [5]), ([], []), ([7], [7]), ([6, 8, 4], [6, 8]), ([4, 9], [4, 9]), ([10, 9], [10]), ([11], [11]), ([12, 11, 0, 1, 2, 3, 4, 5, 6, 7, 8, 9, 10, 11, 12], [12])])
def heap_Less.B1 : List Nat := [0, 1, 0, 4, 15, 0, 32, 0, 128, 511, 1023, 2047, 4095, 8191]
theorem heap_Less.tab1 : rtab .any (opsOf Try.f68 1) = heap_Less.T1 := by kernel_rfl
theorem heap_Less.bits1 : waitsOk heap_Less.T1.2 heap_Less.B1 = true := by kernel_rfl
set_option maxHeartbeats 8000000 in
set_option maxRecDepth 100000 in
theorem heap_Less.calls (k : Nat) (a0_0 : Int) (a0_1 : Int) (a1_0 : Int) (a1_1 : Int) (r : Bool) (w : World) (h : heap_Less.f k a0_0 a0_1 a1_0 a1_1 = some r) :
  Calls Try.prog 68 #[.agg #[.int .i64 a0_0, .int .i64 a0_1], .agg #[.int .i64 a1_0, .int .i64 a1_1]] w fun e w' => e = .returned (.bool r) ∧ Below w.heap.size w w' := by
 have hu76 := Try.underlying76
 have HB := m_ (Below.refl w.heap.size w)
 have H : ((cmp_Compare_int.f a0_0 a1_0).bind fun t132 => ((cmp_Compare_int.f a0_1 a1_1).bind fun t133 => ((cmp_Or_int.f k (([t132, t133] : List Int))).bind fun t137 => (some (decide (t137 < 0)))))) = some r := h
 clear h
 replace H := Option.bind_eq_some_iff.mp H
 obtain ⟨t132, A30, H⟩ := H
 replace H : ((cmp_Compare_int.f a0_1 a1_1).bind fun t133 => ((cmp_Or_int.f k (([t132, t133] : List Int))).bind fun t137 => (some (decide (t137 < 0))))) = some r := H
 have A3 := m_ A30
 clear A30
 replace H := Option.bind_eq_some_iff.mp H
 obtain ⟨t133, A40, H⟩ := H
 replace H : ((cmp_Or_int.f k (([t132, t133] : List Int))).bind fun t137 => (some (decide (t137 < 0)))) = some r := H
 have A4 := m_ A40
 clear A40
 obtain ⟨y134, hy134⟩ : ∃ y_ : List Int, y_ = (([t132, t133] : List Int)) := ⟨_, rfl⟩
 replace H : ((cmp_Or_int.f k y134).bind fun t137 => (some (decide (t137 < 0)))) = some r := by first | (rw [hy134]; with_reducible exact H) | (have H2_ := (Option.bind_some _ _).symm.trans H; rw [hy134]; with_reducible exact H2_) | (have H2_ := (Option.bind_some _ _).symm.trans H; with_reducible exact H2_) | with_reducible exact H | (rw [hy134]; exact H) | exact H
 have Ny134 := m_ hy134
 clear hy134
 replace H := Option.bind_eq_some_iff.mp H
 obtain ⟨t137, A50, H⟩ := H
 replace H : (some (decide (t137 < 0))) = some r := H
 have A5 := m_ A50
 clear A50
 obtain rfl := Option.some.inj H
 go_enter Try.func68, Try.ntmps68
 try go_wp2_with (first | ((with_reducible refine gate_dst (N := 2) rfl ?_); refine bx_ 2 76 #[.int .i64 a0_0, .int .i64 a0_1] ?_; intro gb130 hg w6 hbox hb; have BK130 := m_ (hbox); have GW130 := m_ ((gw_ : w.heap.size ≤ gb130)); have GE130 := m_ ((gw_ : w.heap.size ≤ gb130)); replace HB := m_ (below_step bz_ hb); clear hb hbox hg) | ((with_reducible refine gate_dst (N := 3) rfl ?_); refine bx_ 3 76 #[.int .i64 a1_0, .int .i64 a1_1] ?_; intro gb131 hg w7 hbox hb; have BK131 := m_ (hbox); have GW131 := m_ ((gw_ : w.heap.size ≤ gb131)); have GE131 := m_ ((gw_ : w.heap.size ≤ gb131)); have NB130_131 := m_ ((gl_ : gb130 ≠ gb131)); have NB131_130 := m_ ((gr_ : gb131 ≠ gb130)); replace BK130 := m_ (kl_ gb130 hb); replace HB := m_ (below_step bz_ hb); clear hb hbox hg))
 replace BK130 := m_ (blk_drew BK130.out)
 replace BK131 := m_ (blk_drew BK131.out)
 replace HB := m_ (below_drew1 HB.out)
 refine start_ (n := 14) (S := fun w' => w'.cell? ⟨gb130, 0, none⟩ = some (.int .i64 a0_0) ∧ w'.cell? ⟨gb130, 1, none⟩ = some (.int .i64 a0_1) ∧ w'.cell? ⟨gb131, 0, none⟩ = some (.int .i64 a1_0) ∧ w'.cell? ⟨gb131, 1, none⟩ = some (.int .i64 a1_1)) (ds := []) (bs_ 14 0) (by kernel_rfl) rfl rfl ⟨(blk_cell BK130.out 0).trans rfl, (blk_cell BK130.out 1).trans rfl, (blk_cell BK131.out 0).trans rfl, (blk_cell BK131.out 1).trans rfl⟩ (fun hHeld => ?_); refine with_tabW heap_Less.tab1 heap_Less.bits1 (fun HT_ HW_ => ?_)
 generalize w7.drew = w8 at BK130 BK131 HB hHeld ⊢
 refine pz_ 0 5 ?_
 refine pz_ 2 7 ?_
 refine pz_ 5 10 ?_
 refine pz_ 7 12 ?_
 refine tz_ 1 6 ?_
 refine tz_ 3 8 ?_
 refine tz_ 6 11 ?_
 refine tz_ 8 13 ?_
 refine oz_ 4 (some 9) (fun K hK => ?_)
 refine gz_ Try.func77 #[.int .i64 a0_0, .int .i64 a1_0] ?_
 with_reducible refine (cmp_Compare_int.calls a0_0 a1_0 t132 _ A3.out).mono ?_
 rintro e w' ⟨rfl, ⟨nd, rfl⟩⟩
 refine ⟨_, rfl, ?_⟩
 refine hK.out _ _ ⟨(blk_cell BK130.out 0).trans rfl, (blk_cell BK130.out 1).trans rfl, (blk_cell BK131.out 0).trans rfl, (blk_cell BK131.out 1).trans rfl⟩ (fun hHeld => ?_)
 clear hK K
 refine nz_ (some 9) ?_
 refine oz_ 9 (some 14) (fun K hK => ?_)
 refine gz_ Try.func77 #[.int .i64 a0_1, .int .i64 a1_1] ?_
 with_reducible refine (cmp_Compare_int.calls a0_1 a1_1 t133 _ A4.out).mono ?_
 rintro e w' ⟨rfl, ⟨nd, rfl⟩⟩
 refine ⟨_, rfl, ?_⟩
 refine hK.out _ _ ⟨(blk_cell BK130.out 0).trans rfl, (blk_cell BK130.out 1).trans rfl, (blk_cell BK131.out 0).trans rfl, (blk_cell BK131.out 1).trans rfl⟩ (fun hHeld => ?_)
 clear hK K
 refine nz_ (some 14) ?_
 refine oz_ 10 (some 15) (fun K hK => ?_)
 refine Kd.R_lit_step (Kd.int .i64) _ 3 ?hg (N := 15) ?hd (xs := ([t132, t133] : List Int)) (inner := [.int .i64 t132, .int .i64 t133]) (ok := fun _ => True) (okp := fun _ => True) ?hr ?hp (fun _ hk => hk) trivial (Below.refl _ _) (Nat.le_refl _) (by simp) ?_; (case hd => rfl); (case hg => rfl); (case hr => first | (go_simp; done) | (go_simp; rfl)); (case hp => exact (Reps.one (show Kd.M (Kd.int .i64) _ _ _ t132 [.int .i64 t132] from rfl) (Reps.one (show Kd.M (Kd.int .i64) _ _ _ t133 [.int .i64 t133] from rfl) (Reps.none _ _))))
 intro v135 w9 ho10 hb hg_ hnew_
 clear hg_ hnew_
 (first | rw [← Ny134.out] at ho10 | (simp only [Int.reduceToNat] at ho10; rw [← Ny134.out] at ho10))
 have HO136 := m_ (Kd.R_lower ho10 (below_size bz_))
 replace BK130 := m_ (kl_ gb130 hb)
 replace BK131 := m_ (kl_ gb131 hb)
 replace HB := m_ (below_step bz_ hb)
 clear hb ho10
 obtain ⟨Ao11, co11, eo11⟩ := Kd.R_slice HO136.out
 (first | subst eo11 | (injection eo11 with f1_ f2_ f3_; have f4_ := f1_.symm; have f5_ := f3_.symm; clear f1_ f2_ f3_; subst f4_; subst f5_))
 refine hK.out _ _ ⟨(blk_cell BK130.out 0).trans rfl, (blk_cell BK130.out 1).trans rfl, (blk_cell BK131.out 0).trans rfl, (blk_cell BK131.out 1).trans rfl⟩ (fun hHeld => ?_)
 clear hK K
 refine nz_ (some 15) ?_
 refine oz_ 11 (some 16) (fun K hK => ?_)
 refine gz_ Try.func76 #[.slice Ao11 y134.length co11] ?_
 with_reducible refine (cmp_Or_int.calls k _ _ y134 t137 _ ?side1 ?side2 A5.out).mono ?_
 (case side1 => exact Cd_ (Kd.R_reads' HO136.out).2.2)
 (case side2 => exact (Kd.R_reads' HO136.out).2.1)
 rintro e w' ⟨rfl, ⟨nd, rfl⟩⟩
 refine ⟨_, rfl, ?_⟩
 refine hK.out _ _ ⟨(blk_cell BK130.out 0).trans rfl, (blk_cell BK130.out 1).trans rfl, (blk_cell BK131.out 0).trans rfl, (blk_cell BK131.out 1).trans rfl⟩ (fun hHeld => ?_)
 clear hK K
 refine nz_ (some 16) ?_
 refine pz_ 12 17 ?_
 refine pz_ 13 4 ?_
 refine dz_ ?_
 try go_wp2
 go_ret
 exact ⟨ew_, bz_⟩

/-! ### heap_above: function 69 -/
def heap_above.f (a0 : Int) : Option (Int) := some (wrap64 (Int.tdiv (wrap64 (a0 - 1)) 2))
set_option maxHeartbeats 8000000 in
set_option maxRecDepth 100000 in
theorem heap_above.calls (a0 : Int) (r : Int) (w : World) (h : heap_above.f a0 = some r) :
  Calls Try.prog 69 #[.int .i64 a0] w fun e w' => e = .returned (.int .i64 r) ∧ Drawn0 w w' := by
 have H : (some (wrap64 (Int.tdiv (wrap64 (a0 - 1)) 2))) = some r := h
 clear h
 obtain rfl := Option.some.inj H
 go_enter Try.func69, Try.ntmps69
 go_wp2
 go_ret
 exact ⟨(by first | rfl | (simp; done) | (simp [*]; done)), (by repeat (first | exact Drawn0.refl _ | apply Drawn0.step))⟩

end Go.Proofs.Ytkcphjdjhlikhaa.P

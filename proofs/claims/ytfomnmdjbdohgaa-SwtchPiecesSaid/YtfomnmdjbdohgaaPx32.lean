/- For each Go function a Lean function, and the proof that a call comes to what it tells: made by program out of the translation (the kit's print, with texts by hand put in). No condition. -/
import Derived.Test.YtfomnmdjbdohgaaSq
import Derived.Test.YtfomnmdjbdohgaaPx0
import Derived.Test.YtfomnmdjbdohgaaPx13
import Derived.Test.YtfomnmdjbdohgaaPx17
import Derived.Test.YtfomnmdjbdohgaaPx18
import Derived.Test.YtfomnmdjbdohgaaPx21
import Derived.Test.YtfomnmdjbdohgaaPx22
import Derived.Test.YtfomnmdjbdohgaaPx27
import Derived.Test.YtfomnmdjbdohgaaPx29
namespace Go.Proofs.Ytfomnmdjbdohgaa.P
open Go.RowKit Go.Proofs.Ytfomnmdjbdohgaa.HRows Go.Proofs.YtfomnmdjbdohgaaW.PrintWords Go.Proofs.YtfomnmdjbdohgaaW.PrintLast Go.Proofs.YtfomnmdjbdohgaaW.PrintMore
attribute [local go_sem] max2_int min2_int max_two min_two max_three min_three max_four min_four
set_option linter.unusedVariables false
set_option linter.unusedSimpArgs false
def stolonlaw17_SwtchPieces.j0 : Nat → List (S32) → Int → Bool → Bool → Int → List (S29) → Option (Bool)
 | 0, _, _, _, _, _, _ => none
 | k + 1, x1, x2, x7, x32, x380000, x380001 => if x32 = true then (some x7) else ((swtch_All.f k x380000 x380001 x1).bind fun bt384 => (if 0 ≤ (mn (mx x2 0) (x1.length : Int)) then (if (mn (mx x2 0) (x1.length : Int)) ≤ (x1.length : Int) then ((swtch_All.f k x380000 x380001 (x1.take ((mn (mx x2 0) (x1.length : Int)) : Int).toNat)).bind fun bt399 => ((swtch_All.f k bt399.1 bt399.2.1 (x1.drop ((mn (mx x2 0) (x1.length : Int)) : Int).toNat)).bind fun bt414 => (if x7 = true then ((stolonref17_Same.f k bt384.1 bt384.2.1 bt414.1 bt414.2.1).bind fun t425 => (if t425 = true then ((some (([] : List (S32)) : List (S32))).bind fun y426 => (if y426.length + bt399.2.2.1.length < 1353245080339 then ((some (y426 ++ bt399.2.2.1 : List (S32))).bind fun y429 => (if y429.length + bt414.2.2.1.length < 1353245080339 then ((stolonref16_Msgs.f k bt384.2.2.1 (y429 ++ bt414.2.2.1)).bind fun t435 => (if t435 = true then ((some (([] : List (S32)) : List (S32))).bind fun y436 => (if y436.length + bt399.2.2.2.length < 1353245080339 then ((some (y436 ++ bt399.2.2.2 : List (S32))).bind fun y439 => (if y439.length + bt414.2.2.2.length < 1353245080339 then ((stolonref16_Msgs.f k bt384.2.2.2 (y439 ++ bt414.2.2.2)).bind fun t445 => (some t445)) else (none))) else (none))) else (some false))) else (none))) else (none))) else (some false))) else (some false)))) else (none)) else (none)))
def stolonlaw17_SwtchPieces.f (k : Nat) (a0_0 : Int) (l0_1 : List (S29)) (l1 : List (S32)) (a2 : Int) : Option (Bool) := (stolonlaw17_shown.f k).bind fun t380 => ((stolonref15_Few.f k l0_1).bind fun t381 => (if t381 = true then ((stolonref17_Right.f k a0_0 l0_1).bind fun t382 => (if t382 = true then ((stolonlaw17_few.f k l1).bind fun t383 => (stolonlaw17_SwtchPieces.j0 k l1 a2 t380 (!t383) a0_0 l0_1)) else (stolonlaw17_SwtchPieces.j0 k l1 a2 t380 true a0_0 l0_1))) else (stolonlaw17_SwtchPieces.j0 k l1 a2 t380 true a0_0 l0_1)))
def stolonlaw17_SwtchPieces.T6 : Bool × List (List Nat × List Nat) := (true, [([], []), ([], []), ([], []), ([1, 2], [1, 2]), ([0, 3], [0, 3]), ([4], [4]), ([5], [5]), ([5], [5]), ([5], [5]), ([], []), ([9, 6, 4, 0, 1, 2, 3, 4, 5, 6, 9], [6, 9]), ([7, 10, 0, 1, 2, 3, 4, 5, 6, 7, 9, 10], [7]), ([8, 11, 0, 1, 2, 3, 4, 5, 6, 7, 8, 9, 10, 11], [8])])
def stolonlaw17_SwtchPieces.B6 : List Nat := [0, 0, 0, 6, 15, 31, 63, 63, 63, 0, 639, 1791, 4095]
theorem stolonlaw17_SwtchPieces.tab6 : rtab .any (opsOf Try.f6 6) = stolonlaw17_SwtchPieces.T6 := by kernel_rfl
theorem stolonlaw17_SwtchPieces.bits6 : waitsOk stolonlaw17_SwtchPieces.T6.2 stolonlaw17_SwtchPieces.B6 = true := by kernel_rfl
def stolonlaw17_SwtchPieces.T7 : Bool × List (List Nat × List Nat) := (true, [([], []), ([], []), ([], []), ([1, 2], [1, 2]), ([0, 3], [0, 3]), ([4], [4]), ([5], [5]), ([5], [5]), ([5], [5]), ([], []), ([9, 6, 4, 0, 1, 2, 3, 4, 5, 6, 9], [6, 9]), ([7, 10, 0, 1, 2, 3, 4, 5, 6, 7, 9, 10], [7]), ([8, 11, 0, 1, 2, 3, 4, 5, 6, 7, 8, 9, 10, 11], [8])])
def stolonlaw17_SwtchPieces.B7 : List Nat := [0, 0, 0, 6, 15, 31, 63, 63, 63, 0, 639, 1791, 4095]
theorem stolonlaw17_SwtchPieces.tab7 : rtab .any (opsOf Try.f6 7) = stolonlaw17_SwtchPieces.T7 := by kernel_rfl
theorem stolonlaw17_SwtchPieces.bits7 : waitsOk stolonlaw17_SwtchPieces.T7.2 stolonlaw17_SwtchPieces.B7 = true := by kernel_rfl
set_option maxHeartbeats 8000000 in
set_option maxRecDepth 100000 in
theorem stolonlaw17_SwtchPieces.calls (k : Nat) (a0_0 : Int) (A0_1 : Option Addr) (c0_1 : Nat) (l0_1 : List (S29)) (A1 : Option Addr) (c1 : Nat) (l1 : List (S32)) (a2 : Int) (r : Bool) (w : World) (hr0_1 : Kd.C k29 w A0_1 l0_1.length l0_1) (hc0_1 : l0_1.length ≤ c0_1) (hr1 : Kd.C k32 w A1 l1.length l1) (hc1 : l1.length ≤ c1) (hTrue : Aside0 (r = true)) (h : stolonlaw17_SwtchPieces.f k a0_0 l0_1 l1 a2 = some r) :
  Calls Try.prog 6 #[.agg #[.int .i64 a0_0, .slice A0_1 l0_1.length c0_1], .slice A1 l1.length c1, .int .i64 a2] w fun e w' => e = .returned (.bool r) ∧ Below w.heap.size w w' := by
 have hu24 := Try.underlying24
 have HR0_1 := m_ hr0_1
 have HC0_1 := m_ hc0_1
 clear hr0_1 hc0_1
 have HR1 := m_ hr1
 have HC1 := m_ hc1
 clear hr1 hc1
 have HB := m_ (Below.refl w.heap.size w)
 have H : ((stolonlaw17_shown.f k).bind fun t380 => ((stolonref15_Few.f k l0_1).bind fun t381 => (if t381 = true then ((stolonref17_Right.f k a0_0 l0_1).bind fun t382 => (if t382 = true then ((stolonlaw17_few.f k l1).bind fun t383 => (stolonlaw17_SwtchPieces.j0 k l1 a2 t380 (!t383) a0_0 l0_1)) else (stolonlaw17_SwtchPieces.j0 k l1 a2 t380 true a0_0 l0_1))) else (stolonlaw17_SwtchPieces.j0 k l1 a2 t380 true a0_0 l0_1)))) = some r := h
 clear h
 replace H := Option.bind_eq_some_iff.mp H
 obtain ⟨t380, A40, H⟩ := H
 replace H : ((stolonref15_Few.f k l0_1).bind fun t381 => (if t381 = true then ((stolonref17_Right.f k a0_0 l0_1).bind fun t382 => (if t382 = true then ((stolonlaw17_few.f k l1).bind fun t383 => (stolonlaw17_SwtchPieces.j0 k l1 a2 t380 (!t383) a0_0 l0_1)) else (stolonlaw17_SwtchPieces.j0 k l1 a2 t380 true a0_0 l0_1))) else (stolonlaw17_SwtchPieces.j0 k l1 a2 t380 true a0_0 l0_1))) = some r := H
 have A4 := m_ A40
 clear A40
 have HC5 := m_ H
 clear H
 go_enter Try.func6, Try.ntmps6
 go_upto_region 2 with (first | ((with_reducible refine gate_dst (N := 3) rfl ?_); (try (refine gate_guard (by rfl) ?_; dsimp only)); refine bx_ 3 24 #[.int .i64 a0_0, .slice A0_1 l0_1.length c0_1] ?_; intro gb379 hg w6 hbox hb; have BK379 := m_ (hbox); have GW379 := m_ ((gw_ : w.heap.size ≤ gb379)); have GE379 := m_ ((gw_ : w.heap.size ≤ gb379)); replace HB := m_ (below_step bz_ hb); clear hb hbox hg) | ((with_reducible refine gate_callee (f := 9) rfl ?_); refine gL_ (some 18) Try.func9 #[] ?_; (with_reducible refine (stolonlaw17_shown.calls k  t380 _ A4.out).mono ?_); rintro e w7 ⟨rfl, hb⟩; refine ⟨_, rfl, ?_⟩; replace BK379 := m_ (kl_ gb379 hb); replace HB := m_ (below_step bz_ hb); (try clear hb); (try clear hb2); (try clear hk); (try clear hi)))
 (try simp only [Act.put, List.setIfInBounds_toArray, List.set_cons_zero, List.set_cons_succ])
 go_cut [32] (fun v32 wc => ∃ (kq : Nat) (x32_4 : Bool), v32 = .bool x32_4 ∧ Aside0 (stolonlaw17_SwtchPieces.j0 kq l1 a2 t380 x32_4 a0_0 l0_1 = some r) ∧ Aside0 (kq ≤ k) ∧ Aside0 (wc.heap[gb379]? = some (.cells #[.int .i64 a0_0, (.slice A0_1 l0_1.length c0_1)] 24 (0, 0))) ∧ Aside0 (Below w.heap.size w wc))
 case first =>
  have H := HC5.out
  clear HC5
  replace H := Option.bind_eq_some_iff.mp H
  obtain ⟨t381, A80, H⟩ := H
  replace H : (if t381 = true then ((stolonref17_Right.f k a0_0 l0_1).bind fun t382 => (if t382 = true then ((stolonlaw17_few.f k l1).bind fun t383 => (stolonlaw17_SwtchPieces.j0 k l1 a2 t380 (!t383) a0_0 l0_1)) else (stolonlaw17_SwtchPieces.j0 k l1 a2 t380 true a0_0 l0_1))) else (stolonlaw17_SwtchPieces.j0 k l1 a2 t380 true a0_0 l0_1)) = some r := H
  have A8 := m_ A80
  clear A80
  by_cases c9 : t381 = true
  ·subst c9
   have H1 : ((stolonref17_Right.f k a0_0 l0_1).bind fun t382 => (if t382 = true then ((stolonlaw17_few.f k l1).bind fun t383 => (stolonlaw17_SwtchPieces.j0 k l1 a2 t380 (!t383) a0_0 l0_1)) else (stolonlaw17_SwtchPieces.j0 k l1 a2 t380 true a0_0 l0_1))) = some r := by rw [if_pos rfl] at H; exact H
   clear H
   have H := H1
   clear H1
   replace H := Option.bind_eq_some_iff.mp H
   obtain ⟨t382, A100, H⟩ := H
   replace H : (if t382 = true then ((stolonlaw17_few.f k l1).bind fun t383 => (stolonlaw17_SwtchPieces.j0 k l1 a2 t380 (!t383) a0_0 l0_1)) else (stolonlaw17_SwtchPieces.j0 k l1 a2 t380 true a0_0 l0_1)) = some r := H
   have A10 := m_ A100
   clear A100
   by_cases c11 : t382 = true
   ·subst c11
    have H1 : ((stolonlaw17_few.f k l1).bind fun t383 => (stolonlaw17_SwtchPieces.j0 k l1 a2 t380 (!t383) a0_0 l0_1)) = some r := by rw [if_pos rfl] at H; exact H
    clear H
    have H := H1
    clear H1
    replace H := Option.bind_eq_some_iff.mp H
    obtain ⟨t383, A120, H⟩ := H
    replace H : (stolonlaw17_SwtchPieces.j0 k l1 a2 t380 (!t383) a0_0 l0_1) = some r := H
    have A12 := m_ A120
    clear A120
    have H' := m_ H
    clear H
    have hcz13 := cz2_ BK379.out
    go_wp2_with (first | ((with_reducible refine gate_callee (f := 10) rfl ?_); refine gL_ (some 21) Try.func10 #[.slice A0_1 l0_1.length c0_1] ?_; (with_reducible refine (stolonref15_Few.calls k _ _ l0_1 true _ ?side1 ?side2 A8.out).mono ?_); (case side1 => exact Cd_ (Kd.C_below HR0_1.out HB.out)); (case side2 => exact HC0_1.out); rintro e w' ⟨rfl, ⟨nd, rfl⟩⟩; refine ⟨_, rfl, ?_⟩) | (go_at_call 11; (with_reducible refine (stolonref17_Right.calls k a0_0 _ _ l0_1 true _ ?side1 ?side2 A10.out).mono ?_); (case side1 => exact Cd_ (Kd.C_below HR0_1.out bz_)); (case side2 => exact HC0_1.out); rintro e w14 ⟨rfl, hb⟩; replace BK379 := m_ (kl_ gb379 hb); replace HB := m_ (below_step bz_ hb); (try clear hb); (try clear hb2); (try clear hk); (try clear hi)) | (go_at_call 12; (with_reducible refine (stolonlaw17_few.calls k _ _ l1 t383 _ ?side1 ?side2 A12.out).mono ?_); (case side1 => exact Cd_ (Kd.C_below HR1.out HB.out)); (case side2 => exact HC1.out); rintro e w' ⟨rfl, ⟨nd, rfl⟩⟩))
    go_meet
    case rel => exact ⟨_, (!t383), (by first | rfl | (simp; done) | (simp [*]; done)), H', ⟨by first | omega | exact Nat.le_refl _⟩, ⟨kz_⟩, ⟨bz_⟩⟩
   ·replace c11 := Bool.eq_false_iff.mpr c11
    subst c11
    have H1 : (stolonlaw17_SwtchPieces.j0 k l1 a2 t380 true a0_0 l0_1) = some r := by rw [if_neg (show ¬ (false = true) by decide)] at H; exact H
    clear H
    have H := H1
    clear H1
    have H' := m_ H
    clear H
    have hcz15 := cz2_ BK379.out
    go_wp2_with (first | ((with_reducible refine gate_callee (f := 10) rfl ?_); refine gL_ (some 21) Try.func10 #[.slice A0_1 l0_1.length c0_1] ?_; (with_reducible refine (stolonref15_Few.calls k _ _ l0_1 true _ ?side1 ?side2 A8.out).mono ?_); (case side1 => exact Cd_ (Kd.C_below HR0_1.out HB.out)); (case side2 => exact HC0_1.out); rintro e w' ⟨rfl, ⟨nd, rfl⟩⟩; refine ⟨_, rfl, ?_⟩) | (go_at_call 11; (with_reducible refine (stolonref17_Right.calls k a0_0 _ _ l0_1 false _ ?side1 ?side2 A10.out).mono ?_); (case side1 => exact Cd_ (Kd.C_below HR0_1.out bz_)); (case side2 => exact HC0_1.out); rintro e w16 ⟨rfl, hb⟩; replace BK379 := m_ (kl_ gb379 hb); replace HB := m_ (below_step bz_ hb); (try clear hb); (try clear hb2); (try clear hk); (try clear hi)))
    go_meet
    case rel => exact ⟨_, (true), (by first | rfl | (simp; done) | (simp [*]; done)), H', ⟨by first | omega | exact Nat.le_refl _⟩, ⟨kz_⟩, ⟨bz_⟩⟩
  ·replace c9 := Bool.eq_false_iff.mpr c9
   subst c9
   have H1 : (stolonlaw17_SwtchPieces.j0 k l1 a2 t380 true a0_0 l0_1) = some r := by rw [if_neg (show ¬ (false = true) by decide)] at H; exact H
   clear H
   have H := H1
   clear H1
   have H' := m_ H
   clear H
   have hcz17 := cz2_ BK379.out
   go_wp2_with (first | ((with_reducible refine gate_callee (f := 10) rfl ?_); refine gL_ (some 21) Try.func10 #[.slice A0_1 l0_1.length c0_1] ?_; (with_reducible refine (stolonref15_Few.calls k _ _ l0_1 false _ ?side1 ?side2 A8.out).mono ?_); (case side1 => exact Cd_ (Kd.C_below HR0_1.out HB.out)); (case side2 => exact HC0_1.out); rintro e w' ⟨rfl, ⟨nd, rfl⟩⟩; refine ⟨_, rfl, ?_⟩))
   go_meet
   case rel => exact ⟨_, (true), (by first | rfl | (simp; done) | (simp [*]; done)), H', ⟨by first | omega | exact Nat.le_refl _⟩, ⟨kz_⟩, ⟨bz_⟩⟩
 case rest =>
  clear HC5
  try clear c1
  try clear p2
  try clear c6
  try clear c9
  try clear c10
  try clear c11
  (try clear hcz13)
  (try clear hcz15)
  (try clear hcz17)
  obtain ⟨kq, x32_4, rfl, HA, HJ4, BK379, HB⟩ := hcut
  cases kq with
  | zero => exact absurd HA.out (by simp [stolonlaw17_SwtchPieces.j0])
  | succ kj4 =>
   have H := HA.out
   clear HA
   simp only [stolonlaw17_SwtchPieces.j0] at H
   by_cases c18 : x32_4 = true
   ·subst c18
    have H1 : (some t380) = some r := by rw [if_pos rfl] at H; exact H
    clear H
    have H := H1
    clear H1
    obtain rfl := Option.some.inj H
    go_wp2
    go_ret
    exact ⟨ew_, bz_⟩
   ·replace c18 := Bool.eq_false_iff.mpr c18
    subst c18
    have H1 : ((swtch_All.f kj4 a0_0 l0_1 l1).bind fun bt384 => (if 0 ≤ (mn (mx a2 0) (l1.length : Int)) then (if (mn (mx a2 0) (l1.length : Int)) ≤ (l1.length : Int) then ((swtch_All.f kj4 a0_0 l0_1 (l1.take ((mn (mx a2 0) (l1.length : Int)) : Int).toNat)).bind fun bt399 => ((swtch_All.f kj4 bt399.1 bt399.2.1 (l1.drop ((mn (mx a2 0) (l1.length : Int)) : Int).toNat)).bind fun bt414 => (if t380 = true then ((stolonref17_Same.f kj4 bt384.1 bt384.2.1 bt414.1 bt414.2.1).bind fun t425 => (if t425 = true then ((some (([] : List (S32)) : List (S32))).bind fun y426 => (if y426.length + bt399.2.2.1.length < 1353245080339 then ((some (y426 ++ bt399.2.2.1 : List (S32))).bind fun y429 => (if y429.length + bt414.2.2.1.length < 1353245080339 then ((stolonref16_Msgs.f kj4 bt384.2.2.1 (y429 ++ bt414.2.2.1)).bind fun t435 => (if t435 = true then ((some (([] : List (S32)) : List (S32))).bind fun y436 => (if y436.length + bt399.2.2.2.length < 1353245080339 then ((some (y436 ++ bt399.2.2.2 : List (S32))).bind fun y439 => (if y439.length + bt414.2.2.2.length < 1353245080339 then ((stolonref16_Msgs.f kj4 bt384.2.2.2 (y439 ++ bt414.2.2.2)).bind fun t445 => (some t445)) else (none))) else (none))) else (some false))) else (none))) else (none))) else (some false))) else (some false)))) else (none)) else (none))) = some r := by rw [if_neg (show ¬ (false = true) by decide)] at H; exact H
    clear H
    have H := H1
    clear H1
    obtain ⟨ji19, hji19⟩ : ∃ j_ : Int, (mx a2 0) = j_ := ⟨_, rfl⟩
    replace H : ((swtch_All.f kj4 a0_0 l0_1 l1).bind fun bt384 => (if 0 ≤ (mn (ji19) (l1.length : Int)) then (if (mn (ji19) (l1.length : Int)) ≤ (l1.length : Int) then ((swtch_All.f kj4 a0_0 l0_1 (l1.take ((mn (ji19) (l1.length : Int)) : Int).toNat)).bind fun bt399 => ((swtch_All.f kj4 bt399.1 bt399.2.1 (l1.drop ((mn (ji19) (l1.length : Int)) : Int).toNat)).bind fun bt414 => (if t380 = true then ((stolonref17_Same.f kj4 bt384.1 bt384.2.1 bt414.1 bt414.2.1).bind fun t425 => (if t425 = true then ((some (([] : List (S32)) : List (S32))).bind fun y426 => (if y426.length + bt399.2.2.1.length < 1353245080339 then ((some (y426 ++ bt399.2.2.1 : List (S32))).bind fun y429 => (if y429.length + bt414.2.2.1.length < 1353245080339 then ((stolonref16_Msgs.f kj4 bt384.2.2.1 (y429 ++ bt414.2.2.1)).bind fun t435 => (if t435 = true then ((some (([] : List (S32)) : List (S32))).bind fun y436 => (if y436.length + bt399.2.2.2.length < 1353245080339 then ((some (y436 ++ bt399.2.2.2 : List (S32))).bind fun y439 => (if y439.length + bt414.2.2.2.length < 1353245080339 then ((stolonref16_Msgs.f kj4 bt384.2.2.2 (y439 ++ bt414.2.2.2)).bind fun t445 => (some t445)) else (none))) else (none))) else (some false))) else (none))) else (none))) else (some false))) else (some false)))) else (none)) else (none))) = some r := by first | (rw [hji19] at H; exact H) | (simp only [hji19] at H ⊢; exact H)
    have hji19_ : (if a2 < 0 then 0 else a2) = ji19 := hji19
    obtain ⟨ji20, hji20⟩ : ∃ j_ : Int, (mn (ji19) (l1.length : Int)) = j_ := ⟨_, rfl⟩
    replace H : ((swtch_All.f kj4 a0_0 l0_1 l1).bind fun bt384 => (if 0 ≤ (ji20) then (if (ji20) ≤ (l1.length : Int) then ((swtch_All.f kj4 a0_0 l0_1 (l1.take ((ji20) : Int).toNat)).bind fun bt399 => ((swtch_All.f kj4 bt399.1 bt399.2.1 (l1.drop ((ji20) : Int).toNat)).bind fun bt414 => (if t380 = true then ((stolonref17_Same.f kj4 bt384.1 bt384.2.1 bt414.1 bt414.2.1).bind fun t425 => (if t425 = true then ((some (([] : List (S32)) : List (S32))).bind fun y426 => (if y426.length + bt399.2.2.1.length < 1353245080339 then ((some (y426 ++ bt399.2.2.1 : List (S32))).bind fun y429 => (if y429.length + bt414.2.2.1.length < 1353245080339 then ((stolonref16_Msgs.f kj4 bt384.2.2.1 (y429 ++ bt414.2.2.1)).bind fun t435 => (if t435 = true then ((some (([] : List (S32)) : List (S32))).bind fun y436 => (if y436.length + bt399.2.2.2.length < 1353245080339 then ((some (y436 ++ bt399.2.2.2 : List (S32))).bind fun y439 => (if y439.length + bt414.2.2.2.length < 1353245080339 then ((stolonref16_Msgs.f kj4 bt384.2.2.2 (y439 ++ bt414.2.2.2)).bind fun t445 => (some t445)) else (none))) else (none))) else (some false))) else (none))) else (none))) else (some false))) else (some false)))) else (none)) else (none))) = some r := by first | (rw [hji20] at H; exact H) | (simp only [hji20] at H ⊢; exact H)
    have hji20_ : (if (l1.length : Int) < (ji19) then (l1.length : Int) else (ji19)) = ji20 := hji20
    replace H := Option.bind_eq_some_iff.mp H
    obtain ⟨⟨t384, t385, t388, t391⟩, A210, H⟩ := H
    replace H : (if 0 ≤ (ji20) then (if (ji20) ≤ (l1.length : Int) then ((swtch_All.f kj4 a0_0 l0_1 (l1.take ((ji20) : Int).toNat)).bind fun bt399 => ((swtch_All.f kj4 bt399.1 bt399.2.1 (l1.drop ((ji20) : Int).toNat)).bind fun bt414 => (if t380 = true then ((stolonref17_Same.f kj4 t384 t385 bt414.1 bt414.2.1).bind fun t425 => (if t425 = true then ((some (([] : List (S32)) : List (S32))).bind fun y426 => (if y426.length + bt399.2.2.1.length < 1353245080339 then ((some (y426 ++ bt399.2.2.1 : List (S32))).bind fun y429 => (if y429.length + bt414.2.2.1.length < 1353245080339 then ((stolonref16_Msgs.f kj4 t388 (y429 ++ bt414.2.2.1)).bind fun t435 => (if t435 = true then ((some (([] : List (S32)) : List (S32))).bind fun y436 => (if y436.length + bt399.2.2.2.length < 1353245080339 then ((some (y436 ++ bt399.2.2.2 : List (S32))).bind fun y439 => (if y439.length + bt414.2.2.2.length < 1353245080339 then ((stolonref16_Msgs.f kj4 t391 (y439 ++ bt414.2.2.2)).bind fun t445 => (some t445)) else (none))) else (none))) else (some false))) else (none))) else (none))) else (some false))) else (some false)))) else (none)) else (none)) = some r := H
    have A21 := m_ A210
    clear A210
    by_cases c22 : 0 ≤ (ji20)
    ·rw [if_pos c22] at H
     have c22b0 := eq_true c22
     have c22b1 : decide (0 ≤ (ji20)) = true := decide_eq_true c22
     clear c22
     by_cases c23 : (ji20) ≤ (l1.length : Int)
     ·rw [if_pos c23] at H
      have c23b0 := eq_true c23
      have c23b1 : decide ((ji20) ≤ (l1.length : Int)) = true := decide_eq_true c23
      clear c23
      obtain ⟨y395, hy395⟩ : ∃ y_ : List (S32), y_ = (l1.take ((ji20) : Int).toNat) := ⟨_, rfl⟩
      replace H : ((swtch_All.f kj4 a0_0 l0_1 y395).bind fun bt399 => ((swtch_All.f kj4 bt399.1 bt399.2.1 (l1.drop ((ji20) : Int).toNat)).bind fun bt414 => (if t380 = true then ((stolonref17_Same.f kj4 t384 t385 bt414.1 bt414.2.1).bind fun t425 => (if t425 = true then ((some (([] : List (S32)) : List (S32))).bind fun y426 => (if y426.length + bt399.2.2.1.length < 1353245080339 then ((some (y426 ++ bt399.2.2.1 : List (S32))).bind fun y429 => (if y429.length + bt414.2.2.1.length < 1353245080339 then ((stolonref16_Msgs.f kj4 t388 (y429 ++ bt414.2.2.1)).bind fun t435 => (if t435 = true then ((some (([] : List (S32)) : List (S32))).bind fun y436 => (if y436.length + bt399.2.2.2.length < 1353245080339 then ((some (y436 ++ bt399.2.2.2 : List (S32))).bind fun y439 => (if y439.length + bt414.2.2.2.length < 1353245080339 then ((stolonref16_Msgs.f kj4 t391 (y439 ++ bt414.2.2.2)).bind fun t445 => (some t445)) else (none))) else (none))) else (some false))) else (none))) else (none))) else (some false))) else (some false)))) = some r := by first | (rw [hy395]; with_reducible exact H) | (have H2_ := (Option.bind_some _ _).symm.trans H; rw [hy395]; with_reducible exact H2_) | (have H2_ := (Option.bind_some _ _).symm.trans H; with_reducible exact H2_) | with_reducible exact H | (rw [hy395]; exact H) | exact H
      have Ny395 := m_ hy395
      clear hy395
      replace H := Option.bind_eq_some_iff.mp H
      obtain ⟨⟨t399, t400, t403, t406⟩, A240, H⟩ := H
      replace H : ((swtch_All.f kj4 t399 t400 (l1.drop ((ji20) : Int).toNat)).bind fun bt414 => (if t380 = true then ((stolonref17_Same.f kj4 t384 t385 bt414.1 bt414.2.1).bind fun t425 => (if t425 = true then ((some (([] : List (S32)) : List (S32))).bind fun y426 => (if y426.length + t403.length < 1353245080339 then ((some (y426 ++ t403 : List (S32))).bind fun y429 => (if y429.length + bt414.2.2.1.length < 1353245080339 then ((stolonref16_Msgs.f kj4 t388 (y429 ++ bt414.2.2.1)).bind fun t435 => (if t435 = true then ((some (([] : List (S32)) : List (S32))).bind fun y436 => (if y436.length + t406.length < 1353245080339 then ((some (y436 ++ t406 : List (S32))).bind fun y439 => (if y439.length + bt414.2.2.2.length < 1353245080339 then ((stolonref16_Msgs.f kj4 t391 (y439 ++ bt414.2.2.2)).bind fun t445 => (some t445)) else (none))) else (none))) else (some false))) else (none))) else (none))) else (some false))) else (some false))) = some r := H
      have A24 := m_ A240
      clear A240
      have c25b0 := eq_true (od_ : 0 ≤ (ji20))
      have c26b0 := eq_true (od_ : (ji20) ≤ (l1.length : Int))
      obtain ⟨y410, hy410⟩ : ∃ y_ : List (S32), y_ = (l1.drop ((ji20) : Int).toNat) := ⟨_, rfl⟩
      replace H : ((swtch_All.f kj4 t399 t400 y410).bind fun bt414 => (if t380 = true then ((stolonref17_Same.f kj4 t384 t385 bt414.1 bt414.2.1).bind fun t425 => (if t425 = true then ((some (([] : List (S32)) : List (S32))).bind fun y426 => (if y426.length + t403.length < 1353245080339 then ((some (y426 ++ t403 : List (S32))).bind fun y429 => (if y429.length + bt414.2.2.1.length < 1353245080339 then ((stolonref16_Msgs.f kj4 t388 (y429 ++ bt414.2.2.1)).bind fun t435 => (if t435 = true then ((some (([] : List (S32)) : List (S32))).bind fun y436 => (if y436.length + t406.length < 1353245080339 then ((some (y436 ++ t406 : List (S32))).bind fun y439 => (if y439.length + bt414.2.2.2.length < 1353245080339 then ((stolonref16_Msgs.f kj4 t391 (y439 ++ bt414.2.2.2)).bind fun t445 => (some t445)) else (none))) else (none))) else (some false))) else (none))) else (none))) else (some false))) else (some false))) = some r := by first | (rw [hy410]; with_reducible exact H) | (have H2_ := (Option.bind_some _ _).symm.trans H; rw [hy410]; with_reducible exact H2_) | (have H2_ := (Option.bind_some _ _).symm.trans H; with_reducible exact H2_) | with_reducible exact H | (rw [hy410]; exact H) | exact H
      have Ny410 := m_ hy410
      clear hy410
      replace H := Option.bind_eq_some_iff.mp H
      obtain ⟨⟨t414, t415, t418, t421⟩, A270, H⟩ := H
      replace H : (if t380 = true then ((stolonref17_Same.f kj4 t384 t385 t414 t415).bind fun t425 => (if t425 = true then ((some (([] : List (S32)) : List (S32))).bind fun y426 => (if y426.length + t403.length < 1353245080339 then ((some (y426 ++ t403 : List (S32))).bind fun y429 => (if y429.length + t418.length < 1353245080339 then ((stolonref16_Msgs.f kj4 t388 (y429 ++ t418)).bind fun t435 => (if t435 = true then ((some (([] : List (S32)) : List (S32))).bind fun y436 => (if y436.length + t406.length < 1353245080339 then ((some (y436 ++ t406 : List (S32))).bind fun y439 => (if y439.length + t421.length < 1353245080339 then ((stolonref16_Msgs.f kj4 t391 (y439 ++ t421)).bind fun t445 => (some t445)) else (none))) else (none))) else (some false))) else (none))) else (none))) else (some false))) else (some false)) = some r := H
      have A27 := m_ A270
      clear A270
      by_cases c28 : t380 = true
      ·subst c28
       have H1 : ((stolonref17_Same.f kj4 t384 t385 t414 t415).bind fun t425 => (if t425 = true then ((some (([] : List (S32)) : List (S32))).bind fun y426 => (if y426.length + t403.length < 1353245080339 then ((some (y426 ++ t403 : List (S32))).bind fun y429 => (if y429.length + t418.length < 1353245080339 then ((stolonref16_Msgs.f kj4 t388 (y429 ++ t418)).bind fun t435 => (if t435 = true then ((some (([] : List (S32)) : List (S32))).bind fun y436 => (if y436.length + t406.length < 1353245080339 then ((some (y436 ++ t406 : List (S32))).bind fun y439 => (if y439.length + t421.length < 1353245080339 then ((stolonref16_Msgs.f kj4 t391 (y439 ++ t421)).bind fun t445 => (some t445)) else (none))) else (none))) else (some false))) else (none))) else (none))) else (some false))) = some r := by rw [if_pos rfl] at H; exact H
       clear H
       have H := H1
       clear H1
       replace H := Option.bind_eq_some_iff.mp H
       obtain ⟨t425, A290, H⟩ := H
       replace H : (if t425 = true then ((some (([] : List (S32)) : List (S32))).bind fun y426 => (if y426.length + t403.length < 1353245080339 then ((some (y426 ++ t403 : List (S32))).bind fun y429 => (if y429.length + t418.length < 1353245080339 then ((stolonref16_Msgs.f kj4 t388 (y429 ++ t418)).bind fun t435 => (if t435 = true then ((some (([] : List (S32)) : List (S32))).bind fun y436 => (if y436.length + t406.length < 1353245080339 then ((some (y436 ++ t406 : List (S32))).bind fun y439 => (if y439.length + t421.length < 1353245080339 then ((stolonref16_Msgs.f kj4 t391 (y439 ++ t421)).bind fun t445 => (some t445)) else (none))) else (none))) else (some false))) else (none))) else (none))) else (some false)) = some r := H
       have A29 := m_ A290
       clear A290
       by_cases c30 : t425 = true
       ·subst c30
        have H1 : ((some (([] : List (S32)) : List (S32))).bind fun y426 => (if y426.length + t403.length < 1353245080339 then ((some (y426 ++ t403 : List (S32))).bind fun y429 => (if y429.length + t418.length < 1353245080339 then ((stolonref16_Msgs.f kj4 t388 (y429 ++ t418)).bind fun t435 => (if t435 = true then ((some (([] : List (S32)) : List (S32))).bind fun y436 => (if y436.length + t406.length < 1353245080339 then ((some (y436 ++ t406 : List (S32))).bind fun y439 => (if y439.length + t421.length < 1353245080339 then ((stolonref16_Msgs.f kj4 t391 (y439 ++ t421)).bind fun t445 => (some t445)) else (none))) else (none))) else (some false))) else (none))) else (none))) = some r := by rw [if_pos rfl] at H; exact H
        clear H
        have H := H1
        clear H1
        obtain ⟨y426, hy426⟩ : ∃ y_ : List (S32), y_ = (([] : List (S32))) := ⟨_, rfl⟩
        replace H : (if y426.length + t403.length < 1353245080339 then ((some (y426 ++ t403 : List (S32))).bind fun y429 => (if y429.length + t418.length < 1353245080339 then ((stolonref16_Msgs.f kj4 t388 (y429 ++ t418)).bind fun t435 => (if t435 = true then ((some (([] : List (S32)) : List (S32))).bind fun y436 => (if y436.length + t406.length < 1353245080339 then ((some (y436 ++ t406 : List (S32))).bind fun y439 => (if y439.length + t421.length < 1353245080339 then ((stolonref16_Msgs.f kj4 t391 (y439 ++ t421)).bind fun t445 => (some t445)) else (none))) else (none))) else (some false))) else (none))) else (none)) = some r := by first | (rw [hy426]; with_reducible exact H) | (have H2_ := (Option.bind_some _ _).symm.trans H; rw [hy426]; with_reducible exact H2_) | (have H2_ := (Option.bind_some _ _).symm.trans H; with_reducible exact H2_) | with_reducible exact H | (rw [hy426]; exact H) | exact H
        have Ny426 := m_ hy426
        clear hy426
        by_cases c31 : y426.length + t403.length < 1353245080339
        ·rw [if_pos c31] at H
         have LMc31 := m_ c31
         clear c31
         obtain ⟨y429, hy429⟩ : ∃ y_ : List (S32), y_ = (y426 ++ t403) := ⟨_, rfl⟩
         replace H : (if y429.length + t418.length < 1353245080339 then ((stolonref16_Msgs.f kj4 t388 (y429 ++ t418)).bind fun t435 => (if t435 = true then ((some (([] : List (S32)) : List (S32))).bind fun y436 => (if y436.length + t406.length < 1353245080339 then ((some (y436 ++ t406 : List (S32))).bind fun y439 => (if y439.length + t421.length < 1353245080339 then ((stolonref16_Msgs.f kj4 t391 (y439 ++ t421)).bind fun t445 => (some t445)) else (none))) else (none))) else (some false))) else (none)) = some r := by first | (rw [hy429]; with_reducible exact H) | (have H2_ := (Option.bind_some _ _).symm.trans H; rw [hy429]; with_reducible exact H2_) | (have H2_ := (Option.bind_some _ _).symm.trans H; with_reducible exact H2_) | with_reducible exact H | (rw [hy429]; exact H) | exact H
         have Ny429 := m_ hy429
         clear hy429
         by_cases c32 : y429.length + t418.length < 1353245080339
         ·rw [if_pos c32] at H
          have LMc32 := m_ c32
          clear c32
          obtain ⟨y432, hy432⟩ : ∃ y_ : List (S32), y_ = (y429 ++ t418) := ⟨_, rfl⟩
          replace H : ((stolonref16_Msgs.f kj4 t388 y432).bind fun t435 => (if t435 = true then ((some (([] : List (S32)) : List (S32))).bind fun y436 => (if y436.length + t406.length < 1353245080339 then ((some (y436 ++ t406 : List (S32))).bind fun y439 => (if y439.length + t421.length < 1353245080339 then ((stolonref16_Msgs.f kj4 t391 (y439 ++ t421)).bind fun t445 => (some t445)) else (none))) else (none))) else (some false))) = some r := by first | (rw [hy432]; with_reducible exact H) | (have H2_ := (Option.bind_some _ _).symm.trans H; rw [hy432]; with_reducible exact H2_) | (have H2_ := (Option.bind_some _ _).symm.trans H; with_reducible exact H2_) | with_reducible exact H | (rw [hy432]; exact H) | exact H
          have Ny432 := m_ hy432
          clear hy432
          replace H := Option.bind_eq_some_iff.mp H
          obtain ⟨t435, A330, H⟩ := H
          replace H : (if t435 = true then ((some (([] : List (S32)) : List (S32))).bind fun y436 => (if y436.length + t406.length < 1353245080339 then ((some (y436 ++ t406 : List (S32))).bind fun y439 => (if y439.length + t421.length < 1353245080339 then ((stolonref16_Msgs.f kj4 t391 (y439 ++ t421)).bind fun t445 => (some t445)) else (none))) else (none))) else (some false)) = some r := H
          have A33 := m_ A330
          clear A330
          by_cases c34 : t435 = true
          ·subst c34
           have H1 : ((some (([] : List (S32)) : List (S32))).bind fun y436 => (if y436.length + t406.length < 1353245080339 then ((some (y436 ++ t406 : List (S32))).bind fun y439 => (if y439.length + t421.length < 1353245080339 then ((stolonref16_Msgs.f kj4 t391 (y439 ++ t421)).bind fun t445 => (some t445)) else (none))) else (none))) = some r := by rw [if_pos rfl] at H; exact H
           clear H
           have H := H1
           clear H1
           obtain ⟨y436, hy436⟩ : ∃ y_ : List (S32), y_ = (([] : List (S32))) := ⟨_, rfl⟩
           replace H : (if y436.length + t406.length < 1353245080339 then ((some (y436 ++ t406 : List (S32))).bind fun y439 => (if y439.length + t421.length < 1353245080339 then ((stolonref16_Msgs.f kj4 t391 (y439 ++ t421)).bind fun t445 => (some t445)) else (none))) else (none)) = some r := by first | (rw [hy436]; with_reducible exact H) | (have H2_ := (Option.bind_some _ _).symm.trans H; rw [hy436]; with_reducible exact H2_) | (have H2_ := (Option.bind_some _ _).symm.trans H; with_reducible exact H2_) | with_reducible exact H | (rw [hy436]; exact H) | exact H
           have Ny436 := m_ hy436
           clear hy436
           by_cases c35 : y436.length + t406.length < 1353245080339
           ·rw [if_pos c35] at H
            have LMc35 := m_ c35
            clear c35
            obtain ⟨y439, hy439⟩ : ∃ y_ : List (S32), y_ = (y436 ++ t406) := ⟨_, rfl⟩
            replace H : (if y439.length + t421.length < 1353245080339 then ((stolonref16_Msgs.f kj4 t391 (y439 ++ t421)).bind fun t445 => (some t445)) else (none)) = some r := by first | (rw [hy439]; with_reducible exact H) | (have H2_ := (Option.bind_some _ _).symm.trans H; rw [hy439]; with_reducible exact H2_) | (have H2_ := (Option.bind_some _ _).symm.trans H; with_reducible exact H2_) | with_reducible exact H | (rw [hy439]; exact H) | exact H
            have Ny439 := m_ hy439
            clear hy439
            by_cases c36 : y439.length + t421.length < 1353245080339
            ·rw [if_pos c36] at H
             have LMc36 := m_ c36
             clear c36
             obtain ⟨y442, hy442⟩ : ∃ y_ : List (S32), y_ = (y439 ++ t421) := ⟨_, rfl⟩
             replace H : ((stolonref16_Msgs.f kj4 t391 y442).bind fun t445 => (some t445)) = some r := by first | (rw [hy442]; with_reducible exact H) | (have H2_ := (Option.bind_some _ _).symm.trans H; rw [hy442]; with_reducible exact H2_) | (have H2_ := (Option.bind_some _ _).symm.trans H; with_reducible exact H2_) | with_reducible exact H | (rw [hy442]; exact H) | exact H
             have Ny442 := m_ hy442
             clear hy442
             replace H := Option.bind_eq_some_iff.mp H
             obtain ⟨t445, A370, H⟩ := H
             replace H : (some t445) = some r := H
             have A37 := m_ A370
             clear A370
             obtain rfl := Option.some.inj H
             have hcz38 := cz2_ BK379.out
             try go_wp2_with (first | ((with_reducible refine gate_callee (f := 15) rfl ?_); refine gL_ (some 42) Try.func15 #[.agg #[.int .i64 a0_0, .slice A0_1 l0_1.length c0_1], .slice A1 l1.length c1] ?_; (with_reducible refine (swtch_All.calls kj4 a0_0 (fun k_ => k_ < w.heap.size) _ _ l0_1 (fun k_ => k_ < w.heap.size) _ _ l1 t384 t385 t388 t391 _ ?side1 ?side2 A21.out).mono ?_); (case side1 => exact Kd.V_mk HC0_1.out (Kd.F_below (Kd.C_F k29_heap HR0_1.out) bz_)); (case side2 => exact Kd.V_mk HC1.out (Kd.F_below (Kd.C_F k32_heap HR1.out) bz_)); rintro e w39 ⟨v386, v389, v392, rfl, ho0, ho1, ho2, hb⟩; refine ⟨_, rfl, ?_⟩; have HO387 := m_ (Kd.V_lower (Kd.V_mono (ok' := fun k_ => k_ ≠ gb379) ho0 (fun k_ hk_ => Or.elim hk_ (fun hs_ => Or.elim hs_ (fun hs_ => fun e_ => Nat.not_le.2 hs_ (by rw [e_]; exact GW379.out)) (fun hs_ => fun e_ => Nat.not_le.2 hs_ (by rw [e_]; exact GW379.out))) (fun hn_ => (Kd.freshB (g := gb379) (o := .cells #[.int .i64 a0_0, .slice A0_1 l0_1.length c0_1] 24 (0, 0)) kz_ k_ hn_)))) (below_size bz_)); have HO390 := m_ (Kd.V_lower (Kd.V_mono (ok' := fun k_ => k_ ≠ gb379) ho1 (fun k_ hk_ => Or.elim hk_ (fun hs_ => Or.elim hs_ (fun hs_ => fun e_ => Nat.not_le.2 hs_ (by rw [e_]; exact GW379.out)) (fun hs_ => fun e_ => Nat.not_le.2 hs_ (by rw [e_]; exact GW379.out))) (fun hn_ => (Kd.freshB (g := gb379) (o := .cells #[.int .i64 a0_0, .slice A0_1 l0_1.length c0_1] 24 (0, 0)) kz_ k_ hn_)))) (below_size bz_)); have HO393 := m_ (Kd.V_lower (Kd.V_mono (ok' := fun k_ => k_ ≠ gb379) ho2 (fun k_ hk_ => Or.elim hk_ (fun hs_ => Or.elim hs_ (fun hs_ => fun e_ => Nat.not_le.2 hs_ (by rw [e_]; exact GW379.out)) (fun hs_ => fun e_ => Nat.not_le.2 hs_ (by rw [e_]; exact GW379.out))) (fun hn_ => (Kd.freshB (g := gb379) (o := .cells #[.int .i64 a0_0, .slice A0_1 l0_1.length c0_1] 24 (0, 0)) kz_ k_ hn_)))) (below_size bz_)); replace BK379 := m_ (kl_ gb379 hb); replace HB := m_ (below_step bz_ hb); (try clear hb); (try clear hb2); (try clear hk); (try clear hi); (try clear ho0); (try clear ho1); (try clear ho2)) | ((with_reducible refine gate_dst (N := 9) rfl ?_); (try (refine gate_guard (by rfl) ?_; dsimp only)); refine bx_ 9 24 #[.int .i64 0, .slice none 0 0] ?_; intro gb394 hg w40 hbox hb; have BK394 := m_ (hbox); have GW394 := m_ ((gw_ : w.heap.size ≤ gb394)); have GE394 := m_ ((gw_ : w.heap.size ≤ gb394)); have NB379_394 := m_ ((gl_ : gb379 ≠ gb394)); have NB394_379 := m_ ((gr_ : gb394 ≠ gb379)); replace HO387 := m_ (Kd.V_below (Kd.V_elderB (Vz_ HO387.out) gb394 (Nat.le_of_eq hg.symm)) hb); replace HO390 := m_ (Kd.V_below (Kd.V_elderB (Vz_ HO390.out) gb394 (Nat.le_of_eq hg.symm)) hb); replace HO393 := m_ (Kd.V_below (Kd.V_elderB (Vz_ HO393.out) gb394 (Nat.le_of_eq hg.symm)) hb); replace BK379 := m_ (kl_ gb379 hb); replace HB := m_ (below_step bz_ hb); clear hb hbox hg; have hnb41 := NB394_379.out; have hnc41 := NB379_394.out; have hcz42 := cz2_ BK394.out; obtain ⟨Ao43, co43, eo43⟩ := Kd.V_slice HO387.out; subst eo43))
             obtain ⟨w44, hw⟩ : ∃ W_, W_ = ((w40.setCell ⟨gb394, 0, none⟩ (.int .i64 t384)).setCell ⟨gb394, 1, none⟩ (.slice Ao43 t385.length co43)) := ⟨_, rfl⟩
             replace HO387 : Aside0 (Kd.V k29 29 w44 w.heap.size (fun k_ => k_ ≠ gb379 ∧ k_ ≠ gb394) (.slice Ao43 t385.length co43) t385) := ⟨by rw [hw]; exact Kd.V_mono (Vf_ (Kd.V_mono HO387.out (fun k_ hk => (⟨hk, hk.2⟩ : _ ∧ k_ ≠ gb394)))) (fun _ hk => ⟨hk.1.1, hk.1.2⟩)⟩
             replace HO390 : Aside0 (Kd.V k32 32 w44 w.heap.size (fun k_ => k_ ≠ gb379 ∧ k_ ≠ gb394) v389 t388) := ⟨by rw [hw]; exact Kd.V_mono (Vf_ (Kd.V_mono HO390.out (fun k_ hk => (⟨hk, hk.2⟩ : _ ∧ k_ ≠ gb394)))) (fun _ hk => ⟨hk.1.1, hk.1.2⟩)⟩
             replace HO393 : Aside0 (Kd.V k32 32 w44 w.heap.size (fun k_ => k_ ≠ gb379 ∧ k_ ≠ gb394) v392 t391) := ⟨by rw [hw]; exact Kd.V_mono (Vf_ (Kd.V_mono HO393.out (fun k_ hk => (⟨hk, hk.2⟩ : _ ∧ k_ ≠ gb394)))) (fun _ hk => ⟨hk.1.1, hk.1.2⟩)⟩
             replace BK379 : Aside0 (w44.heap[gb379]? = some (.cells #[.int .i64 a0_0, .slice A0_1 l0_1.length c0_1] 24 (0, 0))) := ⟨by rw [hw]; exact kb_⟩
             replace BK394 : Aside0 (w44.heap[gb394]? = some (.cells #[.int .i64 t384, .slice Ao43 t385.length co43] 24 (0, 0))) := ⟨by rw [hw]; exact kb_⟩
             replace HB : Aside0 (Below w.heap.size w w44) := ⟨by rw [hw]; exact bz_⟩
             rw [← hw]; clear hw
             replace HO387 := m_ (Kd.V_drew HO387.out)
             replace HO390 := m_ (Kd.V_drew HO390.out)
             replace HO393 := m_ (Kd.V_drew HO393.out)
             replace BK379 := m_ (blk_drew BK379.out)
             replace BK394 := m_ (blk_drew BK394.out)
             replace HB := m_ (below_drew1 HB.out)
             have q46 : ((ji20) : Int) ≤ ((l1.length : Int) : Int) := od_
             obtain ⟨i046, hi046, _, hsz46, _⟩ := info_parts info32
             have hroom46 : l1.length ≤ c1 := HC1.out
             have hC46 : Kd.C k32 _ A1 l1.length l1 := HR1.out
             have hcut46 := cut_to (P := Try.prog) 33 32 .i64 Try.underlying33 hi046 A1 l1.length c1 (ji20) od_ q46 hroom46
             have hr46 := Kd.C_take (m := ((ji20) : Int).toNat) hC46 (by omega)
             have hy46 : y395.length = ((ji20) : Int).toNat := (by rw [Ny395.out, List.length_take]; omega)
             rw [← Ny395.out] at hr46
             rw [← hy46] at hcut46
             have HR398 := m_ hr46
             have HC398 := m_ (show y395.length ≤ c1 from by omega)
             clear hr46 hC46 hroom46 hi046 hsz46
             have KY46 := m_ hy46
             clear hy46
             replace q46 := eq_true q46
             refine start_ (n := 13) (S := fun w' => w'.cell? ⟨gb379, 0, none⟩ = some (.int .i64 a0_0) ∧ w'.cell? ⟨gb379, 1, none⟩ = some (.slice A0_1 l0_1.length c0_1)) (ds := []) (bs_ 13 0) (by kernel_rfl) rfl rfl ⟨bc_ BK379.out 0, bc_ BK379.out 1⟩ (fun hHeld => ?_); refine with_tabW stolonlaw17_SwtchPieces.tab6 stolonlaw17_SwtchPieces.bits6 (fun HT_ HW_ => ?_)
             generalize w44.drew = w45 at HO387 HO390 HO393 BK379 BK394 HB HR398 hHeld ⊢
             refine pz_ 1 48 ?_
             refine pz_ 2 49 ?_
             refine pz_ 3 50 ?_
             refine tz_ 0 47 ?_
             refine join_ (σ := Value × Value × Value × Nat) 3 (bs_ 13 1023) (fun s_ => [(51, .tuple #[.agg #[.int .i64 t399, s_.1], s_.2.1, s_.2.2.1]), (12, .pointer (some ⟨s_.2.2.2, 0, none⟩)), (46, .tuple #[.agg #[.int .i64 t399, s_.1], s_.2.1, s_.2.2.1]), (52, .agg #[.int .i64 t399, s_.1]), (53, s_.2.1), (54, s_.2.2.1)]) (fun s_ w' => (w'.cell? ⟨gb379, 0, none⟩ = some (.int .i64 a0_0) ∧ w'.cell? ⟨gb379, 1, none⟩ = some (.slice A0_1 l0_1.length c0_1)) ∧ (Kd.V k29 29 w' w.heap.size (fun k_ => k_ ≠ gb379 ∧ k_ ≠ gb394 ∧ k_ ≠ s_.2.2.2) (.slice Ao43 t385.length co43) t385) ∧ (Kd.V k32 32 w' w.heap.size (fun k_ => k_ ≠ gb379 ∧ k_ ≠ gb394 ∧ k_ ≠ s_.2.2.2) v389 t388) ∧ (Kd.V k32 32 w' w.heap.size (fun k_ => k_ ≠ gb379 ∧ k_ ≠ gb394 ∧ k_ ≠ s_.2.2.2) v392 t391) ∧ (Kd.V k29 29 w' w.heap.size (fun k_ => k_ ≠ gb379 ∧ k_ ≠ gb394 ∧ k_ ≠ s_.2.2.2) s_.1 t400) ∧ (Kd.V k32 32 w' w.heap.size (fun k_ => k_ ≠ gb379 ∧ k_ ≠ gb394 ∧ k_ ≠ s_.2.2.2) s_.2.1 t403) ∧ (Kd.V k32 32 w' w.heap.size (fun k_ => k_ ≠ gb379 ∧ k_ ≠ gb394 ∧ k_ ≠ s_.2.2.2) s_.2.2.1 t406) ∧ (w'.heap[gb379]? = some (.cells #[.int .i64 a0_0, .slice A0_1 l0_1.length c0_1] 24 (0, 0))) ∧ (w'.heap[gb394]? = some (.cells #[.int .i64 t384, .slice Ao43 t385.length co43] 24 (0, 0))) ∧ (w'.heap[s_.2.2.2]? = some (.cells #[.int .i64 0, .slice none 0 0] 24 (0, 0))) ∧ (w.heap.size ≤ s_.2.2.2) ∧ (w.heap.size ≤ s_.2.2.2) ∧ (gb379 ≠ s_.2.2.2) ∧ (s_.2.2.2 ≠ gb379) ∧ (gb394 ≠ s_.2.2.2) ∧ (s_.2.2.2 ≠ gb394) ∧ (Below w.heap.size w w')) ?_ ?_
             rotate_left
             ·intro hCont
              refine two_ (i := 4) (j := 9) (Ni := some 51) (Nj := some 12) (bs_ 13 31) (bs_ 13 527) rfl rfl rfl rfl (two_of HT_.out (by kernel_rfl)) (by decide) (by decide) (fun K hK => ?_) (fun K hK => ?_)
              ·skip
               refine gz_ Try.func15 #[.agg #[.int .i64 a0_0, .slice A0_1 l0_1.length c0_1], .slice A1 y395.length c1] ?_
               with_reducible refine (swtch_All.calls kj4 a0_0 (fun k_ => k_ < w.heap.size) _ _ l0_1 (fun k_ => k_ < w.heap.size) _ _ y395 t399 t400 t403 t406 _ ?side1 ?side2 A24.out).mono ?_
               (case side1 => exact Kd.V_mk HC0_1.out (Kd.F_below (Kd.C_F k29_heap HR0_1.out) bz_))
               (case side2 => exact Kd.V_mk HC398.out (Kd.F_below (Kd.C_F k32_heap HR398.out) bz_))
               rintro e w47 ⟨v401, v404, v407, rfl, ho0, ho1, ho2, hb⟩
               refine ⟨_, rfl, ?_⟩
               have HO402 := m_ (Kd.V_lower (Kd.V_mono (ok' := fun k_ => k_ ≠ gb379 ∧ k_ ≠ gb394) ho0 (fun k_ hk_ => ⟨Or.elim hk_ (fun hs_ => Or.elim hs_ (fun hs_ => fun e_ => Nat.not_le.2 hs_ (by rw [e_]; exact GW379.out)) (fun hs_ => fun e_ => Nat.not_le.2 hs_ (by rw [e_]; exact GW379.out))) (fun hn_ => (Kd.freshB (g := gb379) (o := .cells #[.int .i64 a0_0, .slice A0_1 l0_1.length c0_1] 24 (0, 0)) kz_ k_ hn_)), Or.elim hk_ (fun hs_ => Or.elim hs_ (fun hs_ => fun e_ => Nat.not_le.2 hs_ (by rw [e_]; exact GW394.out)) (fun hs_ => fun e_ => Nat.not_le.2 hs_ (by rw [e_]; exact GW394.out))) (fun hn_ => (Kd.freshB (g := gb394) (o := .cells #[.int .i64 t384, .slice Ao43 t385.length co43] 24 (0, 0)) kz_ k_ hn_))⟩)) (below_size bz_))
               have HO405 := m_ (Kd.V_lower (Kd.V_mono (ok' := fun k_ => k_ ≠ gb379 ∧ k_ ≠ gb394) ho1 (fun k_ hk_ => ⟨Or.elim hk_ (fun hs_ => Or.elim hs_ (fun hs_ => fun e_ => Nat.not_le.2 hs_ (by rw [e_]; exact GW379.out)) (fun hs_ => fun e_ => Nat.not_le.2 hs_ (by rw [e_]; exact GW379.out))) (fun hn_ => (Kd.freshB (g := gb379) (o := .cells #[.int .i64 a0_0, .slice A0_1 l0_1.length c0_1] 24 (0, 0)) kz_ k_ hn_)), Or.elim hk_ (fun hs_ => Or.elim hs_ (fun hs_ => fun e_ => Nat.not_le.2 hs_ (by rw [e_]; exact GW394.out)) (fun hs_ => fun e_ => Nat.not_le.2 hs_ (by rw [e_]; exact GW394.out))) (fun hn_ => (Kd.freshB (g := gb394) (o := .cells #[.int .i64 t384, .slice Ao43 t385.length co43] 24 (0, 0)) kz_ k_ hn_))⟩)) (below_size bz_))
               have HO408 := m_ (Kd.V_lower (Kd.V_mono (ok' := fun k_ => k_ ≠ gb379 ∧ k_ ≠ gb394) ho2 (fun k_ hk_ => ⟨Or.elim hk_ (fun hs_ => Or.elim hs_ (fun hs_ => fun e_ => Nat.not_le.2 hs_ (by rw [e_]; exact GW379.out)) (fun hs_ => fun e_ => Nat.not_le.2 hs_ (by rw [e_]; exact GW379.out))) (fun hn_ => (Kd.freshB (g := gb379) (o := .cells #[.int .i64 a0_0, .slice A0_1 l0_1.length c0_1] 24 (0, 0)) kz_ k_ hn_)), Or.elim hk_ (fun hs_ => Or.elim hs_ (fun hs_ => fun e_ => Nat.not_le.2 hs_ (by rw [e_]; exact GW394.out)) (fun hs_ => fun e_ => Nat.not_le.2 hs_ (by rw [e_]; exact GW394.out))) (fun hn_ => (Kd.freshB (g := gb394) (o := .cells #[.int .i64 t384, .slice Ao43 t385.length co43] 24 (0, 0)) kz_ k_ hn_))⟩)) (below_size bz_))
               replace HO387 := m_ (Kd.V_below (Vz_ HO387.out) hb)
               replace HO390 := m_ (Kd.V_below (Vz_ HO390.out) hb)
               replace HO393 := m_ (Kd.V_below (Vz_ HO393.out) hb)
               replace BK379 := m_ (kl_ gb379 hb)
               replace BK394 := m_ (kl_ gb394 hb)
               replace HB := m_ (below_step bz_ hb)
               (try clear hb)
               (try clear hb2)
               (try clear hk)
               (try clear hi)
               (try clear ho0)
               (try clear ho1)
               (try clear ho2)
               refine hK.out _ _ ⟨bc_ BK379.out 0, bc_ BK379.out 1⟩ (fun hHeld => ?_)
               clear hK K
               refine nz_ (some 51) ?_
               refine pz_ 5 46 ?_
               refine pz_ 6 52 ?_
               refine pz_ 7 53 ?_
               refine pz_ 8 54 ?_
               refine oz_ 9 (some 12) (fun K hK => ?_)
               refine box_step ?hg (N := 12) ?hd (cs := #[.int .i64 0, .slice none 0 0]) (t := 24) ?hr ?_; (case hd => rfl); (case hg => rfl); (case hr => first | (go_simp; done) | (go_simp; rfl))
               intro gb409 hg w48 hbox hb
               have BK409 := m_ (hbox)
               have GW409 := m_ ((gw_ : w.heap.size ≤ gb409))
               have GE409 := m_ ((gw_ : w.heap.size ≤ gb409))
               have NB379_409 := m_ ((gl_ : gb379 ≠ gb409))
               have NB409_379 := m_ ((gr_ : gb409 ≠ gb379))
               have NB394_409 := m_ ((gl_ : gb394 ≠ gb409))
               have NB409_394 := m_ ((gr_ : gb409 ≠ gb394))
               replace HO387 := m_ (Kd.V_below (Kd.V_elderB (Vz_ HO387.out) gb409 (Nat.le_of_eq hg.symm)) hb)
               replace HO390 := m_ (Kd.V_below (Kd.V_elderB (Vz_ HO390.out) gb409 (Nat.le_of_eq hg.symm)) hb)
               replace HO393 := m_ (Kd.V_below (Kd.V_elderB (Vz_ HO393.out) gb409 (Nat.le_of_eq hg.symm)) hb)
               replace HO402 := m_ (Kd.V_below (Kd.V_elderB (Vz_ HO402.out) gb409 (Nat.le_of_eq hg.symm)) hb)
               replace HO405 := m_ (Kd.V_below (Kd.V_elderB (Vz_ HO405.out) gb409 (Nat.le_of_eq hg.symm)) hb)
               replace HO408 := m_ (Kd.V_below (Kd.V_elderB (Vz_ HO408.out) gb409 (Nat.le_of_eq hg.symm)) hb)
               replace BK379 := m_ (kl_ gb379 hb)
               replace BK394 := m_ (kl_ gb394 hb)
               replace HB := m_ (below_step bz_ hb)
               clear hb hbox hg
               refine hK.out _ _ ⟨bc_ BK379.out 0, bc_ BK379.out 1⟩ (fun hHeld => ?_)
               clear hK K
               refine nz_ (some 12) ?_
               exact norm_ (by simp only [putAll, Act.put, List.setIfInBounds_toArray, List.set_cons_zero, List.set_cons_succ]) (hCont (v401, v404, v407, gb409) _ ⟨hHeld, (Vy_ (Kd.V_mono HO387.out (fun _ hk => ⟨hk.1.1, ⟨hk.1.2, hk.2⟩⟩))), (Vy_ (Kd.V_mono HO390.out (fun _ hk => ⟨hk.1.1, ⟨hk.1.2, hk.2⟩⟩))), (Vy_ (Kd.V_mono HO393.out (fun _ hk => ⟨hk.1.1, ⟨hk.1.2, hk.2⟩⟩))), (Vy_ (Kd.V_mono HO402.out (fun _ hk => ⟨hk.1.1, ⟨hk.1.2, hk.2⟩⟩))), (Vy_ (Kd.V_mono HO405.out (fun _ hk => ⟨hk.1.1, ⟨hk.1.2, hk.2⟩⟩))), (Vy_ (Kd.V_mono HO408.out (fun _ hk => ⟨hk.1.1, ⟨hk.1.2, hk.2⟩⟩))), kz_, kz_, kz_, GW409.out, GE409.out, NB379_409.out, NB409_379.out, NB394_409.out, NB409_394.out, bz_⟩)
              ·skip
               refine box_step ?hg (N := 12) ?hd (cs := #[.int .i64 0, .slice none 0 0]) (t := 24) ?hr ?_; (case hd => rfl); (case hg => rfl); (case hr => first | (go_simp; done) | (go_simp; rfl))
               intro gb409 hg w47 hbox hb
               have BK409 := m_ (hbox)
               have GW409 := m_ ((gw_ : w.heap.size ≤ gb409))
               have GE409 := m_ ((gw_ : w.heap.size ≤ gb409))
               have NB379_409 := m_ ((gl_ : gb379 ≠ gb409))
               have NB409_379 := m_ ((gr_ : gb409 ≠ gb379))
               have NB394_409 := m_ ((gl_ : gb394 ≠ gb409))
               have NB409_394 := m_ ((gr_ : gb409 ≠ gb394))
               replace HO387 := m_ (Kd.V_below (Kd.V_elderB (Vz_ HO387.out) gb409 (Nat.le_of_eq hg.symm)) hb)
               replace HO390 := m_ (Kd.V_below (Kd.V_elderB (Vz_ HO390.out) gb409 (Nat.le_of_eq hg.symm)) hb)
               replace HO393 := m_ (Kd.V_below (Kd.V_elderB (Vz_ HO393.out) gb409 (Nat.le_of_eq hg.symm)) hb)
               replace BK379 := m_ (kl_ gb379 hb)
               replace BK394 := m_ (kl_ gb394 hb)
               replace HB := m_ (below_step bz_ hb)
               clear hb hbox hg
               refine hK.out _ _ ⟨bc_ BK379.out 0, bc_ BK379.out 1⟩ (fun hHeld => ?_)
               clear hK K
               refine nz_ (some 12) ?_
               refine oz_ 4 (some 51) (fun K hK => ?_)
               refine gz_ Try.func15 #[.agg #[.int .i64 a0_0, .slice A0_1 l0_1.length c0_1], .slice A1 y395.length c1] ?_
               with_reducible refine (swtch_All.calls kj4 a0_0 (fun k_ => k_ < w.heap.size) _ _ l0_1 (fun k_ => k_ < w.heap.size) _ _ y395 t399 t400 t403 t406 _ ?side1 ?side2 A24.out).mono ?_
               (case side1 => exact Kd.V_mk HC0_1.out (Kd.F_below (Kd.C_F k29_heap HR0_1.out) bz_))
               (case side2 => exact Kd.V_mk HC398.out (Kd.F_below (Kd.C_F k32_heap HR398.out) bz_))
               rintro e w48 ⟨v401, v404, v407, rfl, ho0, ho1, ho2, hb⟩
               refine ⟨_, rfl, ?_⟩
               have HO402 := m_ (Kd.V_lower (Kd.V_mono (ok' := fun k_ => k_ ≠ gb379 ∧ k_ ≠ gb394 ∧ k_ ≠ gb409) ho0 (fun k_ hk_ => ⟨Or.elim hk_ (fun hs_ => Or.elim hs_ (fun hs_ => fun e_ => Nat.not_le.2 hs_ (by rw [e_]; exact GW379.out)) (fun hs_ => fun e_ => Nat.not_le.2 hs_ (by rw [e_]; exact GW379.out))) (fun hn_ => (Kd.freshB (g := gb379) (o := .cells #[.int .i64 a0_0, .slice A0_1 l0_1.length c0_1] 24 (0, 0)) kz_ k_ hn_)), Or.elim hk_ (fun hs_ => Or.elim hs_ (fun hs_ => fun e_ => Nat.not_le.2 hs_ (by rw [e_]; exact GW394.out)) (fun hs_ => fun e_ => Nat.not_le.2 hs_ (by rw [e_]; exact GW394.out))) (fun hn_ => (Kd.freshB (g := gb394) (o := .cells #[.int .i64 t384, .slice Ao43 t385.length co43] 24 (0, 0)) kz_ k_ hn_)), Or.elim hk_ (fun hs_ => Or.elim hs_ (fun hs_ => fun e_ => Nat.not_le.2 hs_ (by rw [e_]; exact GW409.out)) (fun hs_ => fun e_ => Nat.not_le.2 hs_ (by rw [e_]; exact GW409.out))) (fun hn_ => (Kd.freshB (g := gb409) (o := .cells #[.int .i64 0, .slice none 0 0] 24 (0, 0)) kz_ k_ hn_))⟩)) (below_size bz_))
               have HO405 := m_ (Kd.V_lower (Kd.V_mono (ok' := fun k_ => k_ ≠ gb379 ∧ k_ ≠ gb394 ∧ k_ ≠ gb409) ho1 (fun k_ hk_ => ⟨Or.elim hk_ (fun hs_ => Or.elim hs_ (fun hs_ => fun e_ => Nat.not_le.2 hs_ (by rw [e_]; exact GW379.out)) (fun hs_ => fun e_ => Nat.not_le.2 hs_ (by rw [e_]; exact GW379.out))) (fun hn_ => (Kd.freshB (g := gb379) (o := .cells #[.int .i64 a0_0, .slice A0_1 l0_1.length c0_1] 24 (0, 0)) kz_ k_ hn_)), Or.elim hk_ (fun hs_ => Or.elim hs_ (fun hs_ => fun e_ => Nat.not_le.2 hs_ (by rw [e_]; exact GW394.out)) (fun hs_ => fun e_ => Nat.not_le.2 hs_ (by rw [e_]; exact GW394.out))) (fun hn_ => (Kd.freshB (g := gb394) (o := .cells #[.int .i64 t384, .slice Ao43 t385.length co43] 24 (0, 0)) kz_ k_ hn_)), Or.elim hk_ (fun hs_ => Or.elim hs_ (fun hs_ => fun e_ => Nat.not_le.2 hs_ (by rw [e_]; exact GW409.out)) (fun hs_ => fun e_ => Nat.not_le.2 hs_ (by rw [e_]; exact GW409.out))) (fun hn_ => (Kd.freshB (g := gb409) (o := .cells #[.int .i64 0, .slice none 0 0] 24 (0, 0)) kz_ k_ hn_))⟩)) (below_size bz_))
               have HO408 := m_ (Kd.V_lower (Kd.V_mono (ok' := fun k_ => k_ ≠ gb379 ∧ k_ ≠ gb394 ∧ k_ ≠ gb409) ho2 (fun k_ hk_ => ⟨Or.elim hk_ (fun hs_ => Or.elim hs_ (fun hs_ => fun e_ => Nat.not_le.2 hs_ (by rw [e_]; exact GW379.out)) (fun hs_ => fun e_ => Nat.not_le.2 hs_ (by rw [e_]; exact GW379.out))) (fun hn_ => (Kd.freshB (g := gb379) (o := .cells #[.int .i64 a0_0, .slice A0_1 l0_1.length c0_1] 24 (0, 0)) kz_ k_ hn_)), Or.elim hk_ (fun hs_ => Or.elim hs_ (fun hs_ => fun e_ => Nat.not_le.2 hs_ (by rw [e_]; exact GW394.out)) (fun hs_ => fun e_ => Nat.not_le.2 hs_ (by rw [e_]; exact GW394.out))) (fun hn_ => (Kd.freshB (g := gb394) (o := .cells #[.int .i64 t384, .slice Ao43 t385.length co43] 24 (0, 0)) kz_ k_ hn_)), Or.elim hk_ (fun hs_ => Or.elim hs_ (fun hs_ => fun e_ => Nat.not_le.2 hs_ (by rw [e_]; exact GW409.out)) (fun hs_ => fun e_ => Nat.not_le.2 hs_ (by rw [e_]; exact GW409.out))) (fun hn_ => (Kd.freshB (g := gb409) (o := .cells #[.int .i64 0, .slice none 0 0] 24 (0, 0)) kz_ k_ hn_))⟩)) (below_size bz_))
               replace HO387 := m_ (Kd.V_below (Vz_ HO387.out) hb)
               replace HO390 := m_ (Kd.V_below (Vz_ HO390.out) hb)
               replace HO393 := m_ (Kd.V_below (Vz_ HO393.out) hb)
               replace BK379 := m_ (kl_ gb379 hb)
               replace BK394 := m_ (kl_ gb394 hb)
               replace BK409 := m_ (kl_ gb409 hb)
               replace HB := m_ (below_step bz_ hb)
               (try clear hb)
               (try clear hb2)
               (try clear hk)
               (try clear hi)
               (try clear ho0)
               (try clear ho1)
               (try clear ho2)
               refine hK.out _ _ ⟨bc_ BK379.out 0, bc_ BK379.out 1⟩ (fun hHeld => ?_)
               clear hK K
               refine nz_ (some 51) ?_
               refine pz_ 5 46 ?_
               refine pz_ 6 52 ?_
               refine pz_ 7 53 ?_
               refine pz_ 8 54 ?_
               exact norm_ (by simp only [putAll, Act.put, List.setIfInBounds_toArray, List.set_cons_zero, List.set_cons_succ]) (hCont (v401, v404, v407, gb409) _ ⟨hHeld, (Vy_ (Kd.V_mono HO387.out (fun _ hk => ⟨hk.1.1, ⟨hk.1.2, hk.2⟩⟩))), (Vy_ (Kd.V_mono HO390.out (fun _ hk => ⟨hk.1.1, ⟨hk.1.2, hk.2⟩⟩))), (Vy_ (Kd.V_mono HO393.out (fun _ hk => ⟨hk.1.1, ⟨hk.1.2, hk.2⟩⟩))), (Vz_ HO402.out), (Vz_ HO405.out), (Vz_ HO408.out), kz_, kz_, kz_, GW409.out, GE409.out, NB379_409.out, NB409_379.out, NB394_409.out, NB409_394.out, bz_⟩)
             rintro ⟨v401, v404, v407, gb409⟩ w49 ⟨hS_, h0_, h1_, h2_, h3_, h4_, h5_, h6_, h7_, h8_, h9_, h10_, h11_, h12_, h13_, h14_, h15_⟩
             have n0_ : Aside0 (Kd.V k29 29 w49 w.heap.size (fun k_ => k_ ≠ gb379 ∧ k_ ≠ gb394 ∧ k_ ≠ gb409) (.slice Ao43 t385.length co43) t385) := ⟨h0_⟩
             have n1_ : Aside0 (Kd.V k32 32 w49 w.heap.size (fun k_ => k_ ≠ gb379 ∧ k_ ≠ gb394 ∧ k_ ≠ gb409) v389 t388) := ⟨h1_⟩
             have n2_ : Aside0 (Kd.V k32 32 w49 w.heap.size (fun k_ => k_ ≠ gb379 ∧ k_ ≠ gb394 ∧ k_ ≠ gb409) v392 t391) := ⟨h2_⟩
             have n3_ : Aside0 (Kd.V k29 29 w49 w.heap.size (fun k_ => k_ ≠ gb379 ∧ k_ ≠ gb394 ∧ k_ ≠ gb409) v401 t400) := ⟨h3_⟩
             have n4_ : Aside0 (Kd.V k32 32 w49 w.heap.size (fun k_ => k_ ≠ gb379 ∧ k_ ≠ gb394 ∧ k_ ≠ gb409) v404 t403) := ⟨h4_⟩
             have n5_ : Aside0 (Kd.V k32 32 w49 w.heap.size (fun k_ => k_ ≠ gb379 ∧ k_ ≠ gb394 ∧ k_ ≠ gb409) v407 t406) := ⟨h5_⟩
             have n6_ : Aside0 (w49.heap[gb379]? = some (.cells #[.int .i64 a0_0, .slice A0_1 l0_1.length c0_1] 24 (0, 0))) := ⟨h6_⟩
             have n7_ : Aside0 (w49.heap[gb394]? = some (.cells #[.int .i64 t384, .slice Ao43 t385.length co43] 24 (0, 0))) := ⟨h7_⟩
             have n8_ : Aside0 (w49.heap[gb409]? = some (.cells #[.int .i64 0, .slice none 0 0] 24 (0, 0))) := ⟨h8_⟩
             have n9_ : Aside0 (w.heap.size ≤ gb409) := ⟨h9_⟩
             have n10_ : Aside0 (w.heap.size ≤ gb409) := ⟨h10_⟩
             have n11_ : Aside0 (gb379 ≠ gb409) := ⟨h11_⟩
             have n12_ : Aside0 (gb409 ≠ gb379) := ⟨h12_⟩
             have n13_ : Aside0 (gb394 ≠ gb409) := ⟨h13_⟩
             have n14_ : Aside0 (gb409 ≠ gb394) := ⟨h14_⟩
             have n15_ : Aside0 (Below w.heap.size w w49) := ⟨h15_⟩
             clear HO387 HO390 HO393 BK379 BK394 HB h0_ h1_ h2_ h3_ h4_ h5_ h6_ h7_ h8_ h9_ h10_ h11_ h12_ h13_ h14_ h15_
             have HO387 := n0_
             have HO390 := n1_
             have HO393 := n2_
             have HO402 := n3_
             have HO405 := n4_
             have HO408 := n5_
             have BK379 := n6_
             have BK394 := n7_
             have BK409 := n8_
             have GW409 := n9_
             have GE409 := n10_
             have NB379_409 := n11_
             have NB409_379 := n12_
             have NB394_409 := n13_
             have NB409_394 := n14_
             have HB := n15_
             clear n0_ n1_ n2_ n3_ n4_ n5_ n6_ n7_ n8_ n9_ n10_ n11_ n12_ n13_ n14_ n15_
             have hHeld : w49.cell? ⟨gb379, 0, none⟩ = some (.int .i64 a0_0) ∧ w49.cell? ⟨gb379, 1, none⟩ = some (.slice A0_1 l0_1.length c0_1) := hS_
             obtain ⟨Ao51, co51, eo51⟩ := Kd.V_slice HO402.out
             (first | subst eo51 | (injection eo51 with f1_ f2_ f3_; have f4_ := f1_.symm; have f5_ := f3_.symm; clear f1_ f2_ f3_; subst f4_; subst f5_))
             refine norm_ (a' := ?_) ?_ ?_
             rotate_left
             ·simp only [putAll, Act.put, List.setIfInBounds_toArray, List.set_cons_zero, List.set_cons_succ]
              rfl
             refine oz_ 10 none (fun K hK => ?_)
             have hs50 : w49.cell? ⟨gb409, 0, none⟩ = some (.int .i64 0) := (blk_cell BK409.out 0).trans rfl
             have hfs50 := blk_frozen BK409.out 0
             have hns50_0 := NB379_409.out
             have hns50_1 := NB394_409.out
             have hms50_0 := NB409_379.out
             have hms50_1 := NB409_394.out
             have hs52 : w49.cell? ⟨gb409, 1, none⟩ = some (.slice none 0 0) := (blk_cell BK409.out 1).trans rfl
             have hfs52 := blk_frozen BK409.out 1
             have hns52_0 := NB379_409.out
             have hns52_1 := NB394_409.out
             have hms52_0 := NB409_379.out
             have hms52_1 := NB409_394.out
             refine skip_ (w1 := ?_) (by rfl) rfl ?_ ?_
             rotate_left
             ·go_simp
              rfl
             refine hK.out _ _ ⟨((cell_far (p := ⟨gb409, _, none⟩) NB379_409.out _).trans (((cell_far (p := ⟨gb409, _, none⟩) NB379_409.out _).trans (hHeld.1)))), ((cell_far (p := ⟨gb409, _, none⟩) NB379_409.out _).trans (((cell_far (p := ⟨gb409, _, none⟩) NB379_409.out _).trans (hHeld.2))))⟩ (fun hHeld => ?_)
             clear hK K
             refine pz_ 11 13 ?_
             refine pz_ 12 14 ?_
             refine dz_ ?_
             try go_wp2
             obtain ⟨w53, hw⟩ : ∃ W_, W_ = ((w49.setCell ⟨gb409, 0, none⟩ (.int .i64 t399)).setCell ⟨gb409, 1, none⟩ (.slice Ao51 t400.length co51)) := ⟨_, rfl⟩
             replace HO387 : Aside0 (Kd.V k29 29 w53 w.heap.size (fun k_ => k_ ≠ gb379 ∧ k_ ≠ gb394 ∧ k_ ≠ gb409) (.slice Ao43 t385.length co43) t385) := ⟨by rw [hw]; exact Kd.V_mono (Vf_ (Kd.V_mono HO387.out (fun k_ hk => (⟨hk, hk.2.2⟩ : _ ∧ k_ ≠ gb409)))) (fun _ hk => ⟨hk.1.1, ⟨hk.1.2.1, hk.1.2.2⟩⟩)⟩
             replace HO390 : Aside0 (Kd.V k32 32 w53 w.heap.size (fun k_ => k_ ≠ gb379 ∧ k_ ≠ gb394 ∧ k_ ≠ gb409) v389 t388) := ⟨by rw [hw]; exact Kd.V_mono (Vf_ (Kd.V_mono HO390.out (fun k_ hk => (⟨hk, hk.2.2⟩ : _ ∧ k_ ≠ gb409)))) (fun _ hk => ⟨hk.1.1, ⟨hk.1.2.1, hk.1.2.2⟩⟩)⟩
             replace HO393 : Aside0 (Kd.V k32 32 w53 w.heap.size (fun k_ => k_ ≠ gb379 ∧ k_ ≠ gb394 ∧ k_ ≠ gb409) v392 t391) := ⟨by rw [hw]; exact Kd.V_mono (Vf_ (Kd.V_mono HO393.out (fun k_ hk => (⟨hk, hk.2.2⟩ : _ ∧ k_ ≠ gb409)))) (fun _ hk => ⟨hk.1.1, ⟨hk.1.2.1, hk.1.2.2⟩⟩)⟩
             replace HO402 : Aside0 (Kd.V k29 29 w53 w.heap.size (fun k_ => k_ ≠ gb379 ∧ k_ ≠ gb394 ∧ k_ ≠ gb409) (.slice Ao51 t400.length co51) t400) := ⟨by rw [hw]; exact Kd.V_mono (Vf_ (Kd.V_mono HO402.out (fun k_ hk => (⟨hk, hk.2.2⟩ : _ ∧ k_ ≠ gb409)))) (fun _ hk => ⟨hk.1.1, ⟨hk.1.2.1, hk.1.2.2⟩⟩)⟩
             replace HO405 : Aside0 (Kd.V k32 32 w53 w.heap.size (fun k_ => k_ ≠ gb379 ∧ k_ ≠ gb394 ∧ k_ ≠ gb409) v404 t403) := ⟨by rw [hw]; exact Kd.V_mono (Vf_ (Kd.V_mono HO405.out (fun k_ hk => (⟨hk, hk.2.2⟩ : _ ∧ k_ ≠ gb409)))) (fun _ hk => ⟨hk.1.1, ⟨hk.1.2.1, hk.1.2.2⟩⟩)⟩
             replace HO408 : Aside0 (Kd.V k32 32 w53 w.heap.size (fun k_ => k_ ≠ gb379 ∧ k_ ≠ gb394 ∧ k_ ≠ gb409) v407 t406) := ⟨by rw [hw]; exact Kd.V_mono (Vf_ (Kd.V_mono HO408.out (fun k_ hk => (⟨hk, hk.2.2⟩ : _ ∧ k_ ≠ gb409)))) (fun _ hk => ⟨hk.1.1, ⟨hk.1.2.1, hk.1.2.2⟩⟩)⟩
             replace BK379 : Aside0 (w53.heap[gb379]? = some (.cells #[.int .i64 a0_0, .slice A0_1 l0_1.length c0_1] 24 (0, 0))) := ⟨by rw [hw]; exact kb_⟩
             replace BK394 : Aside0 (w53.heap[gb394]? = some (.cells #[.int .i64 t384, .slice Ao43 t385.length co43] 24 (0, 0))) := ⟨by rw [hw]; exact kb_⟩
             replace BK409 : Aside0 (w53.heap[gb409]? = some (.cells #[.int .i64 t399, .slice Ao51 t400.length co51] 24 (0, 0))) := ⟨by rw [hw]; exact kb_⟩
             replace HB : Aside0 (Below w.heap.size w w53) := ⟨by rw [hw]; exact bz_⟩
             rw [← hw]; clear hw
             replace HO387 := m_ (Kd.V_drew HO387.out)
             replace HO390 := m_ (Kd.V_drew HO390.out)
             replace HO393 := m_ (Kd.V_drew HO393.out)
             replace HO402 := m_ (Kd.V_drew HO402.out)
             replace HO405 := m_ (Kd.V_drew HO405.out)
             replace HO408 := m_ (Kd.V_drew HO408.out)
             replace BK379 := m_ (blk_drew BK379.out)
             replace BK394 := m_ (blk_drew BK394.out)
             replace BK409 := m_ (blk_drew BK409.out)
             replace HB := m_ (below_drew1 HB.out)
             have q55 : ((ji20) : Int) ≤ ((l1.length : Int) : Int) := od_
             obtain ⟨i055, hi055, _, hsz55, _⟩ := info_parts info32
             have hroom55 : l1.length ≤ c1 := HC1.out
             have hC55 : Kd.C k32 _ A1 l1.length l1 := HR1.out
             have q055 : (0 : Int) ≤ ((ji20) : Int) := od_
             have hcut55 := cut_from (P := Try.prog) 33 32 .i64 Try.underlying33 hi055 11 hsz55 A1 l1.length c1 (ji20) q055 q55
             have hr55 := Kd.C_drop (m := ((ji20) : Int).toNat) (c := c1) hC55 (by omega) hroom55
             obtain ⟨A55, hA55⟩ : ∃ AZ_, AZ_ = (if c1 = ((ji20) : Int).toNat then A1 else (A1 : Option Addr).map (·.add (((ji20) : Int).toNat * 11))) := ⟨_, rfl⟩
             obtain ⟨c55, hc55⟩ : ∃ cZ_, cZ_ = c1 - ((ji20) : Int).toNat := ⟨_, rfl⟩
             have hy55 : y410.length = l1.length - ((ji20) : Int).toNat := (by rw [Ny410.out, List.length_drop] <;> omega)
             rw [show (l1).drop ((ji20) : Int).toNat = y410 from Ny410.out.symm] at hr55
             replace hr55 : Kd.C k32 _ A55 y410.length y410 := (by rw [hA55]; exact hr55)
             rw [← hy55, ← hA55, ← hc55] at hcut55
             have HR413 := m_ hr55
             have HC413 := m_ (show y410.length ≤ c55 from by rw [hy55, hc55]; exact Nat.sub_le_sub_right hroom55 _)
             clear hr55 hC55 hroom55 hi055 hsz55 hc55
             have KY55 := m_ hy55
             have KA55 := m_ hA55
             clear hy55 hA55
             replace q55 := eq_true q55
             refine start_ (n := 13) (S := fun w' => w'.cell? ⟨gb409, 0, none⟩ = some (.int .i64 t399) ∧ w'.cell? ⟨gb409, 1, none⟩ = some (.slice Ao51 t400.length co51)) (ds := []) (bs_ 13 0) (by kernel_rfl) rfl rfl ⟨bc_ BK409.out 0, bc_ BK409.out 1⟩ (fun hHeld => ?_); refine with_tabW stolonlaw17_SwtchPieces.tab7 stolonlaw17_SwtchPieces.bits7 (fun HT_ HW_ => ?_)
             generalize w53.drew = w54 at HO387 HO390 HO393 HO402 HO405 HO408 BK379 BK394 BK409 HB HR413 hHeld ⊢
             refine pz_ 1 57 ?_
             refine pz_ 2 58 ?_
             refine pz_ 3 59 ?_
             refine tz_ 0 56 ?_
             refine join_ (σ := Value × Value × Value × Nat) 3 (bs_ 13 1023) (fun s_ => [(60, .tuple #[.agg #[.int .i64 t414, s_.1], s_.2.1, s_.2.2.1]), (15, .pointer (some ⟨s_.2.2.2, 0, none⟩)), (55, .tuple #[.agg #[.int .i64 t414, s_.1], s_.2.1, s_.2.2.1]), (61, .agg #[.int .i64 t414, s_.1]), (62, s_.2.1), (63, s_.2.2.1)]) (fun s_ w' => (w'.cell? ⟨gb409, 0, none⟩ = some (.int .i64 t399) ∧ w'.cell? ⟨gb409, 1, none⟩ = some (.slice Ao51 t400.length co51)) ∧ (Kd.V k29 29 w' w.heap.size (fun k_ => k_ ≠ gb379 ∧ k_ ≠ gb394 ∧ k_ ≠ gb409 ∧ k_ ≠ s_.2.2.2) (.slice Ao43 t385.length co43) t385) ∧ (Kd.V k32 32 w' w.heap.size (fun k_ => k_ ≠ gb379 ∧ k_ ≠ gb394 ∧ k_ ≠ gb409 ∧ k_ ≠ s_.2.2.2) v389 t388) ∧ (Kd.V k32 32 w' w.heap.size (fun k_ => k_ ≠ gb379 ∧ k_ ≠ gb394 ∧ k_ ≠ gb409 ∧ k_ ≠ s_.2.2.2) v392 t391) ∧ (Kd.V k29 29 w' w.heap.size (fun k_ => k_ ≠ gb379 ∧ k_ ≠ gb394 ∧ k_ ≠ gb409 ∧ k_ ≠ s_.2.2.2) (.slice Ao51 t400.length co51) t400) ∧ (Kd.V k32 32 w' w.heap.size (fun k_ => k_ ≠ gb379 ∧ k_ ≠ gb394 ∧ k_ ≠ gb409 ∧ k_ ≠ s_.2.2.2) v404 t403) ∧ (Kd.V k32 32 w' w.heap.size (fun k_ => k_ ≠ gb379 ∧ k_ ≠ gb394 ∧ k_ ≠ gb409 ∧ k_ ≠ s_.2.2.2) v407 t406) ∧ (Kd.V k29 29 w' w.heap.size (fun k_ => k_ ≠ gb379 ∧ k_ ≠ gb394 ∧ k_ ≠ gb409 ∧ k_ ≠ s_.2.2.2) s_.1 t415) ∧ (Kd.V k32 32 w' w.heap.size (fun k_ => k_ ≠ gb379 ∧ k_ ≠ gb394 ∧ k_ ≠ gb409 ∧ k_ ≠ s_.2.2.2) s_.2.1 t418) ∧ (Kd.V k32 32 w' w.heap.size (fun k_ => k_ ≠ gb379 ∧ k_ ≠ gb394 ∧ k_ ≠ gb409 ∧ k_ ≠ s_.2.2.2) s_.2.2.1 t421) ∧ (w'.heap[gb379]? = some (.cells #[.int .i64 a0_0, .slice A0_1 l0_1.length c0_1] 24 (0, 0))) ∧ (w'.heap[gb394]? = some (.cells #[.int .i64 t384, .slice Ao43 t385.length co43] 24 (0, 0))) ∧ (w'.heap[gb409]? = some (.cells #[.int .i64 t399, .slice Ao51 t400.length co51] 24 (0, 0))) ∧ (w'.heap[s_.2.2.2]? = some (.cells #[.int .i64 0, .slice none 0 0] 24 (0, 0))) ∧ (w.heap.size ≤ s_.2.2.2) ∧ (w.heap.size ≤ s_.2.2.2) ∧ (gb379 ≠ s_.2.2.2) ∧ (s_.2.2.2 ≠ gb379) ∧ (gb394 ≠ s_.2.2.2) ∧ (s_.2.2.2 ≠ gb394) ∧ (gb409 ≠ s_.2.2.2) ∧ (s_.2.2.2 ≠ gb409) ∧ (Below w.heap.size w w')) ?_ ?_
             rotate_left
             ·intro hCont
              refine two_ (i := 4) (j := 9) (Ni := some 60) (Nj := some 15) (bs_ 13 31) (bs_ 13 527) rfl rfl rfl rfl (two_of HT_.out (by kernel_rfl)) (by decide) (by decide) (fun K hK => ?_) (fun K hK => ?_)
              ·skip
               refine gz_ Try.func15 #[.agg #[.int .i64 t399, .slice Ao51 t400.length co51], .slice A55 y410.length c55] ?_
               with_reducible refine (swtch_All.calls kj4 t399 (fun k_ => (k_ ≠ gb379 ∧ (k_ ≠ gb394 ∧ k_ ≠ gb409))) _ _ t400 (fun k_ => k_ < w.heap.size) _ _ y410 t414 t415 t418 t421 _ ?side1 ?side2 A27.out).mono ?_
               (case side1 => exact HO402.out)
               (case side2 => exact Kd.V_mk HC413.out (Kd.F_below (Kd.C_F k32_heap HR413.out) bz_))
               rintro e w56 ⟨v416, v419, v422, rfl, ho0, ho1, ho2, hb⟩
               refine ⟨_, rfl, ?_⟩
               have HO417 := m_ (Kd.V_lower (Kd.V_mono (ok' := fun k_ => k_ ≠ gb379 ∧ k_ ≠ gb394 ∧ k_ ≠ gb409) ho0 (fun k_ hk_ => ⟨Or.elim hk_ (fun hs_ => Or.elim hs_ (fun hs_ => hs_.1) (fun hs_ => fun e_ => Nat.not_le.2 hs_ (by rw [e_]; exact GW379.out))) (fun hn_ => (Kd.freshB (g := gb379) (o := .cells #[.int .i64 a0_0, .slice A0_1 l0_1.length c0_1] 24 (0, 0)) kz_ k_ hn_)), Or.elim hk_ (fun hs_ => Or.elim hs_ (fun hs_ => hs_.2.1) (fun hs_ => fun e_ => Nat.not_le.2 hs_ (by rw [e_]; exact GW394.out))) (fun hn_ => (Kd.freshB (g := gb394) (o := .cells #[.int .i64 t384, .slice Ao43 t385.length co43] 24 (0, 0)) kz_ k_ hn_)), Or.elim hk_ (fun hs_ => Or.elim hs_ (fun hs_ => hs_.2.2) (fun hs_ => fun e_ => Nat.not_le.2 hs_ (by rw [e_]; exact GW409.out))) (fun hn_ => (Kd.freshB (g := gb409) (o := .cells #[.int .i64 t399, .slice Ao51 t400.length co51] 24 (0, 0)) kz_ k_ hn_))⟩)) (below_size bz_))
               have HO420 := m_ (Kd.V_lower (Kd.V_mono (ok' := fun k_ => k_ ≠ gb379 ∧ k_ ≠ gb394 ∧ k_ ≠ gb409) ho1 (fun k_ hk_ => ⟨Or.elim hk_ (fun hs_ => Or.elim hs_ (fun hs_ => hs_.1) (fun hs_ => fun e_ => Nat.not_le.2 hs_ (by rw [e_]; exact GW379.out))) (fun hn_ => (Kd.freshB (g := gb379) (o := .cells #[.int .i64 a0_0, .slice A0_1 l0_1.length c0_1] 24 (0, 0)) kz_ k_ hn_)), Or.elim hk_ (fun hs_ => Or.elim hs_ (fun hs_ => hs_.2.1) (fun hs_ => fun e_ => Nat.not_le.2 hs_ (by rw [e_]; exact GW394.out))) (fun hn_ => (Kd.freshB (g := gb394) (o := .cells #[.int .i64 t384, .slice Ao43 t385.length co43] 24 (0, 0)) kz_ k_ hn_)), Or.elim hk_ (fun hs_ => Or.elim hs_ (fun hs_ => hs_.2.2) (fun hs_ => fun e_ => Nat.not_le.2 hs_ (by rw [e_]; exact GW409.out))) (fun hn_ => (Kd.freshB (g := gb409) (o := .cells #[.int .i64 t399, .slice Ao51 t400.length co51] 24 (0, 0)) kz_ k_ hn_))⟩)) (below_size bz_))
               have HO423 := m_ (Kd.V_lower (Kd.V_mono (ok' := fun k_ => k_ ≠ gb379 ∧ k_ ≠ gb394 ∧ k_ ≠ gb409) ho2 (fun k_ hk_ => ⟨Or.elim hk_ (fun hs_ => Or.elim hs_ (fun hs_ => hs_.1) (fun hs_ => fun e_ => Nat.not_le.2 hs_ (by rw [e_]; exact GW379.out))) (fun hn_ => (Kd.freshB (g := gb379) (o := .cells #[.int .i64 a0_0, .slice A0_1 l0_1.length c0_1] 24 (0, 0)) kz_ k_ hn_)), Or.elim hk_ (fun hs_ => Or.elim hs_ (fun hs_ => hs_.2.1) (fun hs_ => fun e_ => Nat.not_le.2 hs_ (by rw [e_]; exact GW394.out))) (fun hn_ => (Kd.freshB (g := gb394) (o := .cells #[.int .i64 t384, .slice Ao43 t385.length co43] 24 (0, 0)) kz_ k_ hn_)), Or.elim hk_ (fun hs_ => Or.elim hs_ (fun hs_ => hs_.2.2) (fun hs_ => fun e_ => Nat.not_le.2 hs_ (by rw [e_]; exact GW409.out))) (fun hn_ => (Kd.freshB (g := gb409) (o := .cells #[.int .i64 t399, .slice Ao51 t400.length co51] 24 (0, 0)) kz_ k_ hn_))⟩)) (below_size bz_))
               replace HO387 := m_ (Kd.V_below (Vz_ HO387.out) hb)
               replace HO390 := m_ (Kd.V_below (Vz_ HO390.out) hb)
               replace HO393 := m_ (Kd.V_below (Vz_ HO393.out) hb)
               replace HO402 := m_ (Kd.V_below (Vz_ HO402.out) hb)
               replace HO405 := m_ (Kd.V_below (Vz_ HO405.out) hb)
               replace HO408 := m_ (Kd.V_below (Vz_ HO408.out) hb)
               replace BK379 := m_ (kl_ gb379 hb)
               replace BK394 := m_ (kl_ gb394 hb)
               replace BK409 := m_ (kl_ gb409 hb)
               replace HB := m_ (below_step bz_ hb)
               (try clear hb)
               (try clear hb2)
               (try clear hk)
               (try clear hi)
               (try clear ho0)
               (try clear ho1)
               (try clear ho2)
               refine hK.out _ _ ⟨bc_ BK409.out 0, bc_ BK409.out 1⟩ (fun hHeld => ?_)
               clear hK K
               refine nz_ (some 60) ?_
               refine pz_ 5 55 ?_
               refine pz_ 6 61 ?_
               refine pz_ 7 62 ?_
               refine pz_ 8 63 ?_
               refine oz_ 9 (some 15) (fun K hK => ?_)
               refine box_step ?hg (N := 15) ?hd (cs := #[.int .i64 0, .slice none 0 0]) (t := 24) ?hr ?_; (case hd => rfl); (case hg => rfl); (case hr => first | (go_simp; done) | (go_simp; rfl))
               intro gb424 hg w57 hbox hb
               have BK424 := m_ (hbox)
               have GW424 := m_ ((gw_ : w.heap.size ≤ gb424))
               have GE424 := m_ ((gw_ : w.heap.size ≤ gb424))
               have NB379_424 := m_ ((gl_ : gb379 ≠ gb424))
               have NB424_379 := m_ ((gr_ : gb424 ≠ gb379))
               have NB394_424 := m_ ((gl_ : gb394 ≠ gb424))
               have NB424_394 := m_ ((gr_ : gb424 ≠ gb394))
               have NB409_424 := m_ ((gl_ : gb409 ≠ gb424))
               have NB424_409 := m_ ((gr_ : gb424 ≠ gb409))
               replace HO387 := m_ (Kd.V_below (Kd.V_elderB (Vz_ HO387.out) gb424 (Nat.le_of_eq hg.symm)) hb)
               replace HO390 := m_ (Kd.V_below (Kd.V_elderB (Vz_ HO390.out) gb424 (Nat.le_of_eq hg.symm)) hb)
               replace HO393 := m_ (Kd.V_below (Kd.V_elderB (Vz_ HO393.out) gb424 (Nat.le_of_eq hg.symm)) hb)
               replace HO402 := m_ (Kd.V_below (Kd.V_elderB (Vz_ HO402.out) gb424 (Nat.le_of_eq hg.symm)) hb)
               replace HO405 := m_ (Kd.V_below (Kd.V_elderB (Vz_ HO405.out) gb424 (Nat.le_of_eq hg.symm)) hb)
               replace HO408 := m_ (Kd.V_below (Kd.V_elderB (Vz_ HO408.out) gb424 (Nat.le_of_eq hg.symm)) hb)
               replace HO417 := m_ (Kd.V_below (Kd.V_elderB (Vz_ HO417.out) gb424 (Nat.le_of_eq hg.symm)) hb)
               replace HO420 := m_ (Kd.V_below (Kd.V_elderB (Vz_ HO420.out) gb424 (Nat.le_of_eq hg.symm)) hb)
               replace HO423 := m_ (Kd.V_below (Kd.V_elderB (Vz_ HO423.out) gb424 (Nat.le_of_eq hg.symm)) hb)
               replace BK379 := m_ (kl_ gb379 hb)
               replace BK394 := m_ (kl_ gb394 hb)
               replace BK409 := m_ (kl_ gb409 hb)
               replace HB := m_ (below_step bz_ hb)
               clear hb hbox hg
               refine hK.out _ _ ⟨bc_ BK409.out 0, bc_ BK409.out 1⟩ (fun hHeld => ?_)
               clear hK K
               refine nz_ (some 15) ?_
               exact norm_ (by simp only [putAll, Act.put, List.setIfInBounds_toArray, List.set_cons_zero, List.set_cons_succ]) (hCont (v416, v419, v422, gb424) _ ⟨hHeld, (Vy_ (Kd.V_mono HO387.out (fun _ hk => ⟨hk.1.1, ⟨hk.1.2.1, ⟨hk.1.2.2, hk.2⟩⟩⟩))), (Vy_ (Kd.V_mono HO390.out (fun _ hk => ⟨hk.1.1, ⟨hk.1.2.1, ⟨hk.1.2.2, hk.2⟩⟩⟩))), (Vy_ (Kd.V_mono HO393.out (fun _ hk => ⟨hk.1.1, ⟨hk.1.2.1, ⟨hk.1.2.2, hk.2⟩⟩⟩))), (Vy_ (Kd.V_mono HO402.out (fun _ hk => ⟨hk.1.1, ⟨hk.1.2.1, ⟨hk.1.2.2, hk.2⟩⟩⟩))), (Vy_ (Kd.V_mono HO405.out (fun _ hk => ⟨hk.1.1, ⟨hk.1.2.1, ⟨hk.1.2.2, hk.2⟩⟩⟩))), (Vy_ (Kd.V_mono HO408.out (fun _ hk => ⟨hk.1.1, ⟨hk.1.2.1, ⟨hk.1.2.2, hk.2⟩⟩⟩))), (Vy_ (Kd.V_mono HO417.out (fun _ hk => ⟨hk.1.1, ⟨hk.1.2.1, ⟨hk.1.2.2, hk.2⟩⟩⟩))), (Vy_ (Kd.V_mono HO420.out (fun _ hk => ⟨hk.1.1, ⟨hk.1.2.1, ⟨hk.1.2.2, hk.2⟩⟩⟩))), (Vy_ (Kd.V_mono HO423.out (fun _ hk => ⟨hk.1.1, ⟨hk.1.2.1, ⟨hk.1.2.2, hk.2⟩⟩⟩))), kz_, kz_, kz_, kz_, GW424.out, GE424.out, NB379_424.out, NB424_379.out, NB394_424.out, NB424_394.out, NB409_424.out, NB424_409.out, bz_⟩)
              ·skip
               refine box_step ?hg (N := 15) ?hd (cs := #[.int .i64 0, .slice none 0 0]) (t := 24) ?hr ?_; (case hd => rfl); (case hg => rfl); (case hr => first | (go_simp; done) | (go_simp; rfl))
               intro gb424 hg w56 hbox hb
               have BK424 := m_ (hbox)
               have GW424 := m_ ((gw_ : w.heap.size ≤ gb424))
               have GE424 := m_ ((gw_ : w.heap.size ≤ gb424))
               have NB379_424 := m_ ((gl_ : gb379 ≠ gb424))
               have NB424_379 := m_ ((gr_ : gb424 ≠ gb379))
               have NB394_424 := m_ ((gl_ : gb394 ≠ gb424))
               have NB424_394 := m_ ((gr_ : gb424 ≠ gb394))
               have NB409_424 := m_ ((gl_ : gb409 ≠ gb424))
               have NB424_409 := m_ ((gr_ : gb424 ≠ gb409))
               replace HO387 := m_ (Kd.V_below (Kd.V_elderB (Vz_ HO387.out) gb424 (Nat.le_of_eq hg.symm)) hb)
               replace HO390 := m_ (Kd.V_below (Kd.V_elderB (Vz_ HO390.out) gb424 (Nat.le_of_eq hg.symm)) hb)
               replace HO393 := m_ (Kd.V_below (Kd.V_elderB (Vz_ HO393.out) gb424 (Nat.le_of_eq hg.symm)) hb)
               replace HO402 := m_ (Kd.V_below (Kd.V_elderB (Vz_ HO402.out) gb424 (Nat.le_of_eq hg.symm)) hb)
               replace HO405 := m_ (Kd.V_below (Kd.V_elderB (Vz_ HO405.out) gb424 (Nat.le_of_eq hg.symm)) hb)
               replace HO408 := m_ (Kd.V_below (Kd.V_elderB (Vz_ HO408.out) gb424 (Nat.le_of_eq hg.symm)) hb)
               replace BK379 := m_ (kl_ gb379 hb)
               replace BK394 := m_ (kl_ gb394 hb)
               replace BK409 := m_ (kl_ gb409 hb)
               replace HB := m_ (below_step bz_ hb)
               clear hb hbox hg
               refine hK.out _ _ ⟨bc_ BK409.out 0, bc_ BK409.out 1⟩ (fun hHeld => ?_)
               clear hK K
               refine nz_ (some 15) ?_
               refine oz_ 4 (some 60) (fun K hK => ?_)
               refine gz_ Try.func15 #[.agg #[.int .i64 t399, .slice Ao51 t400.length co51], .slice A55 y410.length c55] ?_
               with_reducible refine (swtch_All.calls kj4 t399 (fun k_ => ((k_ ≠ gb379 ∧ (k_ ≠ gb394 ∧ k_ ≠ gb409)) ∧ k_ ≠ gb424)) _ _ t400 (fun k_ => k_ < w.heap.size) _ _ y410 t414 t415 t418 t421 _ ?side1 ?side2 A27.out).mono ?_
               (case side1 => exact HO402.out)
               (case side2 => exact Kd.V_mk HC413.out (Kd.F_below (Kd.C_F k32_heap HR413.out) bz_))
               rintro e w57 ⟨v416, v419, v422, rfl, ho0, ho1, ho2, hb⟩
               refine ⟨_, rfl, ?_⟩
               have HO417 := m_ (Kd.V_lower (Kd.V_mono (ok' := fun k_ => k_ ≠ gb379 ∧ k_ ≠ gb394 ∧ k_ ≠ gb409 ∧ k_ ≠ gb424) ho0 (fun k_ hk_ => ⟨Or.elim hk_ (fun hs_ => Or.elim hs_ (fun hs_ => hs_.1.1) (fun hs_ => fun e_ => Nat.not_le.2 hs_ (by rw [e_]; exact GW379.out))) (fun hn_ => (Kd.freshB (g := gb379) (o := .cells #[.int .i64 a0_0, .slice A0_1 l0_1.length c0_1] 24 (0, 0)) kz_ k_ hn_)), Or.elim hk_ (fun hs_ => Or.elim hs_ (fun hs_ => hs_.1.2.1) (fun hs_ => fun e_ => Nat.not_le.2 hs_ (by rw [e_]; exact GW394.out))) (fun hn_ => (Kd.freshB (g := gb394) (o := .cells #[.int .i64 t384, .slice Ao43 t385.length co43] 24 (0, 0)) kz_ k_ hn_)), Or.elim hk_ (fun hs_ => Or.elim hs_ (fun hs_ => hs_.1.2.2) (fun hs_ => fun e_ => Nat.not_le.2 hs_ (by rw [e_]; exact GW409.out))) (fun hn_ => (Kd.freshB (g := gb409) (o := .cells #[.int .i64 t399, .slice Ao51 t400.length co51] 24 (0, 0)) kz_ k_ hn_)), Or.elim hk_ (fun hs_ => Or.elim hs_ (fun hs_ => hs_.2) (fun hs_ => fun e_ => Nat.not_le.2 hs_ (by rw [e_]; exact GW424.out))) (fun hn_ => (Kd.freshB (g := gb424) (o := .cells #[.int .i64 0, .slice none 0 0] 24 (0, 0)) kz_ k_ hn_))⟩)) (below_size bz_))
               have HO420 := m_ (Kd.V_lower (Kd.V_mono (ok' := fun k_ => k_ ≠ gb379 ∧ k_ ≠ gb394 ∧ k_ ≠ gb409 ∧ k_ ≠ gb424) ho1 (fun k_ hk_ => ⟨Or.elim hk_ (fun hs_ => Or.elim hs_ (fun hs_ => hs_.1.1) (fun hs_ => fun e_ => Nat.not_le.2 hs_ (by rw [e_]; exact GW379.out))) (fun hn_ => (Kd.freshB (g := gb379) (o := .cells #[.int .i64 a0_0, .slice A0_1 l0_1.length c0_1] 24 (0, 0)) kz_ k_ hn_)), Or.elim hk_ (fun hs_ => Or.elim hs_ (fun hs_ => hs_.1.2.1) (fun hs_ => fun e_ => Nat.not_le.2 hs_ (by rw [e_]; exact GW394.out))) (fun hn_ => (Kd.freshB (g := gb394) (o := .cells #[.int .i64 t384, .slice Ao43 t385.length co43] 24 (0, 0)) kz_ k_ hn_)), Or.elim hk_ (fun hs_ => Or.elim hs_ (fun hs_ => hs_.1.2.2) (fun hs_ => fun e_ => Nat.not_le.2 hs_ (by rw [e_]; exact GW409.out))) (fun hn_ => (Kd.freshB (g := gb409) (o := .cells #[.int .i64 t399, .slice Ao51 t400.length co51] 24 (0, 0)) kz_ k_ hn_)), Or.elim hk_ (fun hs_ => Or.elim hs_ (fun hs_ => hs_.2) (fun hs_ => fun e_ => Nat.not_le.2 hs_ (by rw [e_]; exact GW424.out))) (fun hn_ => (Kd.freshB (g := gb424) (o := .cells #[.int .i64 0, .slice none 0 0] 24 (0, 0)) kz_ k_ hn_))⟩)) (below_size bz_))
               have HO423 := m_ (Kd.V_lower (Kd.V_mono (ok' := fun k_ => k_ ≠ gb379 ∧ k_ ≠ gb394 ∧ k_ ≠ gb409 ∧ k_ ≠ gb424) ho2 (fun k_ hk_ => ⟨Or.elim hk_ (fun hs_ => Or.elim hs_ (fun hs_ => hs_.1.1) (fun hs_ => fun e_ => Nat.not_le.2 hs_ (by rw [e_]; exact GW379.out))) (fun hn_ => (Kd.freshB (g := gb379) (o := .cells #[.int .i64 a0_0, .slice A0_1 l0_1.length c0_1] 24 (0, 0)) kz_ k_ hn_)), Or.elim hk_ (fun hs_ => Or.elim hs_ (fun hs_ => hs_.1.2.1) (fun hs_ => fun e_ => Nat.not_le.2 hs_ (by rw [e_]; exact GW394.out))) (fun hn_ => (Kd.freshB (g := gb394) (o := .cells #[.int .i64 t384, .slice Ao43 t385.length co43] 24 (0, 0)) kz_ k_ hn_)), Or.elim hk_ (fun hs_ => Or.elim hs_ (fun hs_ => hs_.1.2.2) (fun hs_ => fun e_ => Nat.not_le.2 hs_ (by rw [e_]; exact GW409.out))) (fun hn_ => (Kd.freshB (g := gb409) (o := .cells #[.int .i64 t399, .slice Ao51 t400.length co51] 24 (0, 0)) kz_ k_ hn_)), Or.elim hk_ (fun hs_ => Or.elim hs_ (fun hs_ => hs_.2) (fun hs_ => fun e_ => Nat.not_le.2 hs_ (by rw [e_]; exact GW424.out))) (fun hn_ => (Kd.freshB (g := gb424) (o := .cells #[.int .i64 0, .slice none 0 0] 24 (0, 0)) kz_ k_ hn_))⟩)) (below_size bz_))
               replace HO387 := m_ (Kd.V_below (Vz_ HO387.out) hb)
               replace HO390 := m_ (Kd.V_below (Vz_ HO390.out) hb)
               replace HO393 := m_ (Kd.V_below (Vz_ HO393.out) hb)
               replace HO402 := m_ (Kd.V_below (Vz_ HO402.out) hb)
               replace HO405 := m_ (Kd.V_below (Vz_ HO405.out) hb)
               replace HO408 := m_ (Kd.V_below (Vz_ HO408.out) hb)
               replace BK379 := m_ (kl_ gb379 hb)
               replace BK394 := m_ (kl_ gb394 hb)
               replace BK409 := m_ (kl_ gb409 hb)
               replace BK424 := m_ (kl_ gb424 hb)
               replace HB := m_ (below_step bz_ hb)
               (try clear hb)
               (try clear hb2)
               (try clear hk)
               (try clear hi)
               (try clear ho0)
               (try clear ho1)
               (try clear ho2)
               refine hK.out _ _ ⟨bc_ BK409.out 0, bc_ BK409.out 1⟩ (fun hHeld => ?_)
               clear hK K
               refine nz_ (some 60) ?_
               refine pz_ 5 55 ?_
               refine pz_ 6 61 ?_
               refine pz_ 7 62 ?_
               refine pz_ 8 63 ?_
               exact norm_ (by simp only [putAll, Act.put, List.setIfInBounds_toArray, List.set_cons_zero, List.set_cons_succ]) (hCont (v416, v419, v422, gb424) _ ⟨hHeld, (Vy_ (Kd.V_mono HO387.out (fun _ hk => ⟨hk.1.1, ⟨hk.1.2.1, ⟨hk.1.2.2, hk.2⟩⟩⟩))), (Vy_ (Kd.V_mono HO390.out (fun _ hk => ⟨hk.1.1, ⟨hk.1.2.1, ⟨hk.1.2.2, hk.2⟩⟩⟩))), (Vy_ (Kd.V_mono HO393.out (fun _ hk => ⟨hk.1.1, ⟨hk.1.2.1, ⟨hk.1.2.2, hk.2⟩⟩⟩))), (Vy_ (Kd.V_mono HO402.out (fun _ hk => ⟨hk.1.1, ⟨hk.1.2.1, ⟨hk.1.2.2, hk.2⟩⟩⟩))), (Vy_ (Kd.V_mono HO405.out (fun _ hk => ⟨hk.1.1, ⟨hk.1.2.1, ⟨hk.1.2.2, hk.2⟩⟩⟩))), (Vy_ (Kd.V_mono HO408.out (fun _ hk => ⟨hk.1.1, ⟨hk.1.2.1, ⟨hk.1.2.2, hk.2⟩⟩⟩))), (Vz_ HO417.out), (Vz_ HO420.out), (Vz_ HO423.out), kz_, kz_, kz_, kz_, GW424.out, GE424.out, NB379_424.out, NB424_379.out, NB394_424.out, NB424_394.out, NB409_424.out, NB424_409.out, bz_⟩)
             rintro ⟨v416, v419, v422, gb424⟩ w58 ⟨hS_, h0_, h1_, h2_, h3_, h4_, h5_, h6_, h7_, h8_, h9_, h10_, h11_, h12_, h13_, h14_, h15_, h16_, h17_, h18_, h19_, h20_, h21_⟩
             have n0_ : Aside0 (Kd.V k29 29 w58 w.heap.size (fun k_ => k_ ≠ gb379 ∧ k_ ≠ gb394 ∧ k_ ≠ gb409 ∧ k_ ≠ gb424) (.slice Ao43 t385.length co43) t385) := ⟨h0_⟩
             have n1_ : Aside0 (Kd.V k32 32 w58 w.heap.size (fun k_ => k_ ≠ gb379 ∧ k_ ≠ gb394 ∧ k_ ≠ gb409 ∧ k_ ≠ gb424) v389 t388) := ⟨h1_⟩
             have n2_ : Aside0 (Kd.V k32 32 w58 w.heap.size (fun k_ => k_ ≠ gb379 ∧ k_ ≠ gb394 ∧ k_ ≠ gb409 ∧ k_ ≠ gb424) v392 t391) := ⟨h2_⟩
             have n3_ : Aside0 (Kd.V k29 29 w58 w.heap.size (fun k_ => k_ ≠ gb379 ∧ k_ ≠ gb394 ∧ k_ ≠ gb409 ∧ k_ ≠ gb424) (.slice Ao51 t400.length co51) t400) := ⟨h3_⟩
             have n4_ : Aside0 (Kd.V k32 32 w58 w.heap.size (fun k_ => k_ ≠ gb379 ∧ k_ ≠ gb394 ∧ k_ ≠ gb409 ∧ k_ ≠ gb424) v404 t403) := ⟨h4_⟩
             have n5_ : Aside0 (Kd.V k32 32 w58 w.heap.size (fun k_ => k_ ≠ gb379 ∧ k_ ≠ gb394 ∧ k_ ≠ gb409 ∧ k_ ≠ gb424) v407 t406) := ⟨h5_⟩
             have n6_ : Aside0 (Kd.V k29 29 w58 w.heap.size (fun k_ => k_ ≠ gb379 ∧ k_ ≠ gb394 ∧ k_ ≠ gb409 ∧ k_ ≠ gb424) v416 t415) := ⟨h6_⟩
             have n7_ : Aside0 (Kd.V k32 32 w58 w.heap.size (fun k_ => k_ ≠ gb379 ∧ k_ ≠ gb394 ∧ k_ ≠ gb409 ∧ k_ ≠ gb424) v419 t418) := ⟨h7_⟩
             have n8_ : Aside0 (Kd.V k32 32 w58 w.heap.size (fun k_ => k_ ≠ gb379 ∧ k_ ≠ gb394 ∧ k_ ≠ gb409 ∧ k_ ≠ gb424) v422 t421) := ⟨h8_⟩
             have n9_ : Aside0 (w58.heap[gb379]? = some (.cells #[.int .i64 a0_0, .slice A0_1 l0_1.length c0_1] 24 (0, 0))) := ⟨h9_⟩
             have n10_ : Aside0 (w58.heap[gb394]? = some (.cells #[.int .i64 t384, .slice Ao43 t385.length co43] 24 (0, 0))) := ⟨h10_⟩
             have n11_ : Aside0 (w58.heap[gb409]? = some (.cells #[.int .i64 t399, .slice Ao51 t400.length co51] 24 (0, 0))) := ⟨h11_⟩
             have n12_ : Aside0 (w58.heap[gb424]? = some (.cells #[.int .i64 0, .slice none 0 0] 24 (0, 0))) := ⟨h12_⟩
             have n13_ : Aside0 (w.heap.size ≤ gb424) := ⟨h13_⟩
             have n14_ : Aside0 (w.heap.size ≤ gb424) := ⟨h14_⟩
             have n15_ : Aside0 (gb379 ≠ gb424) := ⟨h15_⟩
             have n16_ : Aside0 (gb424 ≠ gb379) := ⟨h16_⟩
             have n17_ : Aside0 (gb394 ≠ gb424) := ⟨h17_⟩
             have n18_ : Aside0 (gb424 ≠ gb394) := ⟨h18_⟩
             have n19_ : Aside0 (gb409 ≠ gb424) := ⟨h19_⟩
             have n20_ : Aside0 (gb424 ≠ gb409) := ⟨h20_⟩
             have n21_ : Aside0 (Below w.heap.size w w58) := ⟨h21_⟩
             clear HO387 HO390 HO393 HO402 HO405 HO408 BK379 BK394 BK409 HB h0_ h1_ h2_ h3_ h4_ h5_ h6_ h7_ h8_ h9_ h10_ h11_ h12_ h13_ h14_ h15_ h16_ h17_ h18_ h19_ h20_ h21_
             have HO387 := n0_
             have HO390 := n1_
             have HO393 := n2_
             have HO402 := n3_
             have HO405 := n4_
             have HO408 := n5_
             have HO417 := n6_
             have HO420 := n7_
             have HO423 := n8_
             have BK379 := n9_
             have BK394 := n10_
             have BK409 := n11_
             have BK424 := n12_
             have GW424 := n13_
             have GE424 := n14_
             have NB379_424 := n15_
             have NB424_379 := n16_
             have NB394_424 := n17_
             have NB424_394 := n18_
             have NB409_424 := n19_
             have NB424_409 := n20_
             have HB := n21_
             clear n0_ n1_ n2_ n3_ n4_ n5_ n6_ n7_ n8_ n9_ n10_ n11_ n12_ n13_ n14_ n15_ n16_ n17_ n18_ n19_ n20_ n21_
             have hHeld : w58.cell? ⟨gb409, 0, none⟩ = some (.int .i64 t399) ∧ w58.cell? ⟨gb409, 1, none⟩ = some (.slice Ao51 t400.length co51) := hS_
             obtain ⟨Ao60, co60, eo60⟩ := Kd.V_slice HO417.out
             (first | subst eo60 | (injection eo60 with f1_ f2_ f3_; have f4_ := f1_.symm; have f5_ := f3_.symm; clear f1_ f2_ f3_; subst f4_; subst f5_))
             refine norm_ (a' := ?_) ?_ ?_
             rotate_left
             ·simp only [putAll, Act.put, List.setIfInBounds_toArray, List.set_cons_zero, List.set_cons_succ]
              rfl
             refine oz_ 10 none (fun K hK => ?_)
             have hs59 : w58.cell? ⟨gb424, 0, none⟩ = some (.int .i64 0) := (blk_cell BK424.out 0).trans rfl
             have hfs59 := blk_frozen BK424.out 0
             have hns59_0 := NB379_424.out
             have hns59_1 := NB394_424.out
             have hns59_2 := NB409_424.out
             have hms59_0 := NB424_379.out
             have hms59_1 := NB424_394.out
             have hms59_2 := NB424_409.out
             have hs61 : w58.cell? ⟨gb424, 1, none⟩ = some (.slice none 0 0) := (blk_cell BK424.out 1).trans rfl
             have hfs61 := blk_frozen BK424.out 1
             have hns61_0 := NB379_424.out
             have hns61_1 := NB394_424.out
             have hns61_2 := NB409_424.out
             have hms61_0 := NB424_379.out
             have hms61_1 := NB424_394.out
             have hms61_2 := NB424_409.out
             refine skip_ (w1 := ?_) (by rfl) rfl ?_ ?_
             rotate_left
             ·go_simp
              rfl
             refine hK.out _ _ ⟨((cell_far (p := ⟨gb424, _, none⟩) NB409_424.out _).trans (((cell_far (p := ⟨gb424, _, none⟩) NB409_424.out _).trans (hHeld.1)))), ((cell_far (p := ⟨gb424, _, none⟩) NB409_424.out _).trans (((cell_far (p := ⟨gb424, _, none⟩) NB409_424.out _).trans (hHeld.2))))⟩ (fun hHeld => ?_)
             clear hK K
             refine pz_ 11 16 ?_
             refine pz_ 12 17 ?_
             refine dz_ ?_
             have hnb62 := NB394_409.out
             have hnc62 := NB409_394.out
             have hnb63 := NB394_424.out
             have hnc63 := NB424_394.out
             have hcz64 := cz2_ BK394.out
             have hnb65 := NB424_379.out
             have hnc65 := NB379_424.out
             have hnb66 := NB424_409.out
             have hnc66 := NB409_424.out
             have hcz67 := cz2_ BK424.out
             try go_wp2_with (first | (go_at_call 17; (with_reducible refine (stolonref17_Same.calls kj4 t384 _ _ t385 t414 _ _ t415 true _ ?side1 ?side2 ?side3 ?side4 A29.out).mono ?_); (case side1 => refine (Kd.V_reads' (e := 29) (base := w.heap.size) (ok := fun k_ => (k_ ≠ gb379 ∧ (k_ ≠ gb394 ∧ (k_ ≠ gb409 ∧ k_ ≠ gb424)))) (n := t385.length) (c := co43) ?_).2.2; exact ((Kd.V_mono (Vf_ (Kd.V_mono HO387.out (fun k_ hk => (⟨hk, hk.2.2.2⟩ : _ ∧ k_ ≠ gb424)))) (fun _ h_ => h_.1)))); (case side2 => exact (Kd.V_reads' HO387.out).2.1); (case side3 => refine (Kd.V_reads' (e := 29) (base := w.heap.size) (ok := fun k_ => (k_ ≠ gb379 ∧ (k_ ≠ gb394 ∧ (k_ ≠ gb409 ∧ k_ ≠ gb424)))) (n := t415.length) (c := co60) ?_).2.2; exact ((Kd.V_mono (Vf_ (Kd.V_mono HO417.out (fun k_ hk => (⟨hk, hk.2.2.2⟩ : _ ∧ k_ ≠ gb424)))) (fun _ h_ => h_.1)))); (case side4 => exact (Kd.V_reads' HO417.out).2.1); rintro e w68 ⟨rfl, hb⟩; replace HO387 := m_ (Kd.V_below ((Kd.V_mono (Vf_ (Kd.V_mono HO387.out (fun k_ hk => (⟨hk, hk.2.2.2⟩ : _ ∧ k_ ≠ gb424)))) (fun _ h_ => h_.1))) hb); replace HO390 := m_ (Kd.V_below ((Kd.V_mono (Vf_ (Kd.V_mono HO390.out (fun k_ hk => (⟨hk, hk.2.2.2⟩ : _ ∧ k_ ≠ gb424)))) (fun _ h_ => h_.1))) hb); replace HO393 := m_ (Kd.V_below ((Kd.V_mono (Vf_ (Kd.V_mono HO393.out (fun k_ hk => (⟨hk, hk.2.2.2⟩ : _ ∧ k_ ≠ gb424)))) (fun _ h_ => h_.1))) hb); replace HO402 := m_ (Kd.V_below ((Kd.V_mono (Vf_ (Kd.V_mono HO402.out (fun k_ hk => (⟨hk, hk.2.2.2⟩ : _ ∧ k_ ≠ gb424)))) (fun _ h_ => h_.1))) hb); replace HO405 := m_ (Kd.V_below ((Kd.V_mono (Vf_ (Kd.V_mono HO405.out (fun k_ hk => (⟨hk, hk.2.2.2⟩ : _ ∧ k_ ≠ gb424)))) (fun _ h_ => h_.1))) hb); replace HO408 := m_ (Kd.V_below ((Kd.V_mono (Vf_ (Kd.V_mono HO408.out (fun k_ hk => (⟨hk, hk.2.2.2⟩ : _ ∧ k_ ≠ gb424)))) (fun _ h_ => h_.1))) hb); replace HO417 := m_ (Kd.V_below ((Kd.V_mono (Vf_ (Kd.V_mono HO417.out (fun k_ hk => (⟨hk, hk.2.2.2⟩ : _ ∧ k_ ≠ gb424)))) (fun _ h_ => h_.1))) hb); replace HO420 := m_ (Kd.V_below ((Kd.V_mono (Vf_ (Kd.V_mono HO420.out (fun k_ hk => (⟨hk, hk.2.2.2⟩ : _ ∧ k_ ≠ gb424)))) (fun _ h_ => h_.1))) hb); replace HO423 := m_ (Kd.V_below ((Kd.V_mono (Vf_ (Kd.V_mono HO423.out (fun k_ hk => (⟨hk, hk.2.2.2⟩ : _ ∧ k_ ≠ gb424)))) (fun _ h_ => h_.1))) hb); replace BK379 := m_ (blk_below (g := gb379) (o := .cells #[.int .i64 a0_0, .slice A0_1 l0_1.length c0_1] 24 (0, 0)) kb_ hb); replace BK394 := m_ (blk_below (g := gb394) (o := .cells #[.int .i64 t384, .slice Ao43 t385.length co43] 24 (0, 0)) kb_ hb); replace BK409 := m_ (blk_below (g := gb409) (o := .cells #[.int .i64 t399, .slice Ao51 t400.length co51] 24 (0, 0)) kb_ hb); replace BK424 := m_ (blk_below (g := gb424) (o := .cells #[.int .i64 t414, .slice Ao60 t415.length co60] 24 (0, 0)) kb_ hb); replace HB := m_ (below_step bz_ hb); (try clear hb); (try clear hb2); (try clear hk); (try clear hi)) | ((with_reducible refine gate_dst (N := 72) rfl ?_); (try (refine gate_guard (by rfl) ?_; dsimp only)); refine Kd.N_lit k32 _ 32 ?hg (N' := 72) ?hd (xs := ([] : List (S32))) (inner := []) (ok := (fun k_ => k_ ≠ gb379 ∧ k_ ≠ gb394 ∧ k_ ≠ gb409 ∧ k_ ≠ gb424)) (okp := (fun k_ => k_ ≠ gb379 ∧ k_ ≠ gb394 ∧ k_ ≠ gb409 ∧ k_ ≠ gb424)) ?hr ?hp (fun _ hk => hk) ((show ∀ k_, w68.heap.size ≤ k_ → (fun k_ => k_ ≠ gb379 ∧ k_ ≠ gb394 ∧ k_ ≠ gb409 ∧ k_ ≠ gb424) k_ from fun k_ hk => ⟨Kd.freshB (g := gb379) (o := .cells #[.int .i64 a0_0, .slice A0_1 l0_1.length c0_1] 24 (0, 0)) kz_ k_ hk, Kd.freshB (g := gb394) (o := .cells #[.int .i64 t384, .slice Ao43 t385.length co43] 24 (0, 0)) kz_ k_ hk, Kd.freshB (g := gb409) (o := .cells #[.int .i64 t399, .slice Ao51 t400.length co51] 24 (0, 0)) kz_ k_ hk, Kd.freshB (g := gb424) (o := .cells #[.int .i64 t414, .slice Ao60 t415.length co60] 24 (0, 0)) kz_ k_ hk⟩) _ (Nat.le_refl _)) (Below.refl _ _) (Nat.le_refl _) (by simp) ?_; (case hd => rfl); (case hg => rfl); (case hr => first | (go_simp; done) | (go_simp; rfl)); (case hp => exact (Reps.none _ _)); intro v427 w69 ho70 hb hg_ hnew_; clear hg_ hnew_; (first | rw [← Ny426.out] at ho70 | (simp only [Int.reduceToNat] at ho70; rw [← Ny426.out] at ho70)); have HO428 := m_ (Kd.N_lower ho70 (below_size bz_)); replace HO387 := m_ (Kd.V_elder' (Vz_ HO387.out) (Kd.N_base ho70) hb); replace HO390 := m_ (Kd.V_elder' (Vz_ HO390.out) (Kd.N_base ho70) hb); replace HO393 := m_ (Kd.V_elder' (Vz_ HO393.out) (Kd.N_base ho70) hb); replace HO402 := m_ (Kd.V_elder' (Vz_ HO402.out) (Kd.N_base ho70) hb); replace HO405 := m_ (Kd.V_elder' (Vz_ HO405.out) (Kd.N_base ho70) hb); replace HO408 := m_ (Kd.V_elder' (Vz_ HO408.out) (Kd.N_base ho70) hb); replace HO417 := m_ (Kd.V_elder' (Vz_ HO417.out) (Kd.N_base ho70) hb); replace HO420 := m_ (Kd.V_elder' (Vz_ HO420.out) (Kd.N_base ho70) hb); replace HO423 := m_ (Kd.V_elder' (Vz_ HO423.out) (Kd.N_base ho70) hb); replace BK379 := m_ (kl_ gb379 hb); replace BK394 := m_ (kl_ gb394 hb); replace BK409 := m_ (kl_ gb409 hb); replace BK424 := m_ (kl_ gb424 hb); replace HB := m_ (below_step bz_ hb); clear hb ho70; obtain ⟨Ao72, co72, eo72⟩ := Kd.V_slice HO405.out; subst eo72) | ((with_reducible refine gate_builtin (b := .append) (xs := #[.tmp 72, .tmp 73]) rfl ?_); (try (refine gate_guard (by rfl) ?_; dsimp only)); at_builtin; refine Kd.N_append_rows k32 (w0 := w) w.heap.size rfl (.tmp 72) (.tmp 73) 33 32 (.agg #[(.int .u8 0), (.int .u32 0), (.int .u32 0), (.int .u32 0), (.int .u32 0), (.int .i64 0), (.int .u32 0), (.slice none 0 0), (.int .i64 0), (.bool false), (.slice none 0 0)]) 104 rfl Try.underlying33 info32 rfl (by decide) (by omega) v427 y426 t403 _ _ _ (fun k_ => k_ ≠ gb379 ∧ k_ ≠ gb394 ∧ k_ ≠ gb409 ∧ k_ ≠ gb424) (fun k_ => ((fun k_ => k_ ≠ gb379 ∧ k_ ≠ gb394 ∧ k_ ≠ gb409 ∧ k_ ≠ gb424)) k_ ∧ some k_ ≠ (v427 : Value).ownBlock) rfl rfl ?aO ?aR (fun _ hk => hk) ?aF ?aB ?aS ?aL ?_; (case aR => exact (by skip; exact Kd.V_F (Kd.V_mono (ok' := (fun k_ => ((fun k_ => k_ ≠ gb379 ∧ k_ ≠ gb394 ∧ k_ ≠ gb409 ∧ k_ ≠ gb424)) k_ ∧ some k_ ≠ (v427 : Value).ownBlock)) (HO405.out) (fun k_ hk => ⟨⟨hk.1.1, ⟨hk.1.2.1, ⟨hk.1.2.2.1, hk.1.2.2.2⟩⟩⟩, hk.2⟩)))); (case aB => exact bz_); (case aF => exact (fun k_ hk => ⟨Kd.freshB (g := gb379) (o := .cells #[.int .i64 a0_0, .slice A0_1 l0_1.length c0_1] 24 (0, 0)) kz_ k_ hk, Kd.freshB (g := gb394) (o := .cells #[.int .i64 t384, .slice Ao43 t385.length co43] 24 (0, 0)) kz_ k_ hk, Kd.freshB (g := gb409) (o := .cells #[.int .i64 t399, .slice Ao51 t400.length co51] 24 (0, 0)) kz_ k_ hk, Kd.freshB (g := gb424) (o := .cells #[.int .i64 t414, .slice Ao60 t415.length co60] 24 (0, 0)) kz_ k_ hk⟩)); (case aO => exact (Nz_ HO428.out)); (case aS => exact (below_size bz_)); (case aL => have := LMc31.out; omega); intro v430 w71 ho hb hg hat; rw [← Ny429.out] at ho; have HO431 := m_ (ho); replace BK379 := m_ (blk_grown (g := gb379) (o := .cells #[.int .i64 a0_0, .slice A0_1 l0_1.length c0_1] 24 (0, 0)) kz_ hg (Kd.N_ne HO428.out BK379.out (by decide))); replace HO387 := m_ (Kd.V_afterv (ok := (fun k_ => k_ ≠ gb379 ∧ k_ ≠ gb394 ∧ k_ ≠ gb409 ∧ k_ ≠ gb424)) (Vz_ HO387.out) hg hat); replace HO390 := m_ (Kd.V_afterv (ok := (fun k_ => k_ ≠ gb379 ∧ k_ ≠ gb394 ∧ k_ ≠ gb409 ∧ k_ ≠ gb424)) (Vz_ HO390.out) hg hat); replace HO393 := m_ (Kd.V_afterv (ok := (fun k_ => k_ ≠ gb379 ∧ k_ ≠ gb394 ∧ k_ ≠ gb409 ∧ k_ ≠ gb424)) (Vz_ HO393.out) hg hat); replace BK394 := m_ (blk_grown (g := gb394) (o := .cells #[.int .i64 t384, .slice Ao43 t385.length co43] 24 (0, 0)) kz_ hg (Kd.N_ne HO428.out BK394.out (by decide))); replace HO402 := m_ (Kd.V_afterv (ok := (fun k_ => k_ ≠ gb379 ∧ k_ ≠ gb394 ∧ k_ ≠ gb409 ∧ k_ ≠ gb424)) (Vz_ HO402.out) hg hat); replace HO405 := m_ (Kd.V_afterv (ok := (fun k_ => k_ ≠ gb379 ∧ k_ ≠ gb394 ∧ k_ ≠ gb409 ∧ k_ ≠ gb424)) (Vz_ HO405.out) hg hat); replace HO408 := m_ (Kd.V_afterv (ok := (fun k_ => k_ ≠ gb379 ∧ k_ ≠ gb394 ∧ k_ ≠ gb409 ∧ k_ ≠ gb424)) (Vz_ HO408.out) hg hat); replace BK409 := m_ (blk_grown (g := gb409) (o := .cells #[.int .i64 t399, .slice Ao51 t400.length co51] 24 (0, 0)) kz_ hg (Kd.N_ne HO428.out BK409.out (by decide))); replace HO417 := m_ (Kd.V_afterv (ok := (fun k_ => k_ ≠ gb379 ∧ k_ ≠ gb394 ∧ k_ ≠ gb409 ∧ k_ ≠ gb424)) (Vz_ HO417.out) hg hat); replace HO420 := m_ (Kd.V_afterv (ok := (fun k_ => k_ ≠ gb379 ∧ k_ ≠ gb394 ∧ k_ ≠ gb409 ∧ k_ ≠ gb424)) (Vz_ HO420.out) hg hat); replace HO423 := m_ (Kd.V_afterv (ok := (fun k_ => k_ ≠ gb379 ∧ k_ ≠ gb394 ∧ k_ ≠ gb409 ∧ k_ ≠ gb424)) (Vz_ HO423.out) hg hat); replace BK424 := m_ (blk_grown (g := gb424) (o := .cells #[.int .i64 t414, .slice Ao60 t415.length co60] 24 (0, 0)) kz_ hg (Kd.N_ne HO428.out BK424.out (by decide))); replace HB := m_ (hb); clear HO428 ho hb hg hat; obtain ⟨Ao74, co74, eo74⟩ := Kd.V_slice HO420.out; subst eo74) | ((with_reducible refine gate_builtin (b := .append) (xs := #[.tmp 74, .tmp 75]) rfl ?_); (try (refine gate_guard (by rfl) ?_; dsimp only)); at_builtin; refine Kd.N_append_rows k32 (w0 := w) w.heap.size rfl (.tmp 74) (.tmp 75) 33 32 (.agg #[(.int .u8 0), (.int .u32 0), (.int .u32 0), (.int .u32 0), (.int .u32 0), (.int .i64 0), (.int .u32 0), (.slice none 0 0), (.int .i64 0), (.bool false), (.slice none 0 0)]) 104 rfl Try.underlying33 info32 rfl (by decide) (by omega) v430 y429 t418 _ _ _ (fun k_ => k_ ≠ gb379 ∧ k_ ≠ gb394 ∧ k_ ≠ gb409 ∧ k_ ≠ gb424) (fun k_ => ((fun k_ => k_ ≠ gb379 ∧ k_ ≠ gb394 ∧ k_ ≠ gb409 ∧ k_ ≠ gb424)) k_ ∧ some k_ ≠ (v430 : Value).ownBlock) rfl rfl ?aO ?aR (fun _ hk => hk) ?aF ?aB ?aS ?aL ?_; (case aR => exact (by skip; exact Kd.V_F (Kd.V_mono (ok' := (fun k_ => ((fun k_ => k_ ≠ gb379 ∧ k_ ≠ gb394 ∧ k_ ≠ gb409 ∧ k_ ≠ gb424)) k_ ∧ some k_ ≠ (v430 : Value).ownBlock)) (HO420.out) (fun k_ hk => ⟨⟨hk.1.1, ⟨hk.1.2.1, ⟨hk.1.2.2.1, hk.1.2.2.2⟩⟩⟩, hk.2⟩)))); (case aB => exact bz_); (case aF => exact (fun k_ hk => ⟨Kd.freshB (g := gb379) (o := .cells #[.int .i64 a0_0, .slice A0_1 l0_1.length c0_1] 24 (0, 0)) kz_ k_ hk, Kd.freshB (g := gb394) (o := .cells #[.int .i64 t384, .slice Ao43 t385.length co43] 24 (0, 0)) kz_ k_ hk, Kd.freshB (g := gb409) (o := .cells #[.int .i64 t399, .slice Ao51 t400.length co51] 24 (0, 0)) kz_ k_ hk, Kd.freshB (g := gb424) (o := .cells #[.int .i64 t414, .slice Ao60 t415.length co60] 24 (0, 0)) kz_ k_ hk⟩)); (case aO => exact (Nz_ HO431.out)); (case aS => exact (below_size bz_)); (case aL => have := LMc32.out; omega); intro v433 w73 ho hb hg hat; rw [← Ny432.out] at ho; have HO434 := m_ (ho); replace BK379 := m_ (blk_grown (g := gb379) (o := .cells #[.int .i64 a0_0, .slice A0_1 l0_1.length c0_1] 24 (0, 0)) kz_ hg (Kd.N_ne HO431.out BK379.out (by decide))); replace HO387 := m_ (Kd.V_afterv (ok := (fun k_ => k_ ≠ gb379 ∧ k_ ≠ gb394 ∧ k_ ≠ gb409 ∧ k_ ≠ gb424)) (Vz_ HO387.out) hg hat); replace HO390 := m_ (Kd.V_afterv (ok := (fun k_ => k_ ≠ gb379 ∧ k_ ≠ gb394 ∧ k_ ≠ gb409 ∧ k_ ≠ gb424)) (Vz_ HO390.out) hg hat); replace HO393 := m_ (Kd.V_afterv (ok := (fun k_ => k_ ≠ gb379 ∧ k_ ≠ gb394 ∧ k_ ≠ gb409 ∧ k_ ≠ gb424)) (Vz_ HO393.out) hg hat); replace BK394 := m_ (blk_grown (g := gb394) (o := .cells #[.int .i64 t384, .slice Ao43 t385.length co43] 24 (0, 0)) kz_ hg (Kd.N_ne HO431.out BK394.out (by decide))); replace HO402 := m_ (Kd.V_afterv (ok := (fun k_ => k_ ≠ gb379 ∧ k_ ≠ gb394 ∧ k_ ≠ gb409 ∧ k_ ≠ gb424)) (Vz_ HO402.out) hg hat); replace HO405 := m_ (Kd.V_afterv (ok := (fun k_ => k_ ≠ gb379 ∧ k_ ≠ gb394 ∧ k_ ≠ gb409 ∧ k_ ≠ gb424)) (Vz_ HO405.out) hg hat); replace HO408 := m_ (Kd.V_afterv (ok := (fun k_ => k_ ≠ gb379 ∧ k_ ≠ gb394 ∧ k_ ≠ gb409 ∧ k_ ≠ gb424)) (Vz_ HO408.out) hg hat); replace BK409 := m_ (blk_grown (g := gb409) (o := .cells #[.int .i64 t399, .slice Ao51 t400.length co51] 24 (0, 0)) kz_ hg (Kd.N_ne HO431.out BK409.out (by decide))); replace HO417 := m_ (Kd.V_afterv (ok := (fun k_ => k_ ≠ gb379 ∧ k_ ≠ gb394 ∧ k_ ≠ gb409 ∧ k_ ≠ gb424)) (Vz_ HO417.out) hg hat); replace HO420 := m_ (Kd.V_afterv (ok := (fun k_ => k_ ≠ gb379 ∧ k_ ≠ gb394 ∧ k_ ≠ gb409 ∧ k_ ≠ gb424)) (Vz_ HO420.out) hg hat); replace HO423 := m_ (Kd.V_afterv (ok := (fun k_ => k_ ≠ gb379 ∧ k_ ≠ gb394 ∧ k_ ≠ gb409 ∧ k_ ≠ gb424)) (Vz_ HO423.out) hg hat); replace BK424 := m_ (blk_grown (g := gb424) (o := .cells #[.int .i64 t414, .slice Ao60 t415.length co60] 24 (0, 0)) kz_ hg (Kd.N_ne HO431.out BK424.out (by decide))); replace HB := m_ (hb); clear HO431 ho hb hg hat; obtain ⟨Ao75, co75, eo75⟩ := Kd.V_slice HO390.out; subst eo75; obtain ⟨Ao76, co76, eo76⟩ := Kd.N_slice HO434.out; subst eo76) | (go_at_call 18; (with_reducible refine (stolonref16_Msgs.calls kj4 _ _ t388 _ _ y432 true _ ?side1 ?side2 ?side3 ?side4 A33.out).mono ?_); (case side1 => exact Cd_ (Kd.V_reads' HO390.out).2.2); (case side2 => exact (Kd.V_reads' HO390.out).2.1); (case side3 => exact Cd_ (Kd.N_reads' HO434.out).2.2); (case side4 => exact (Kd.N_reads' HO434.out).2.1); rintro e w77 ⟨rfl, hb⟩; replace HO387 := m_ (Kd.V_below (Vz_ HO387.out) hb); replace HO390 := m_ (Kd.V_below (Vz_ HO390.out) hb); replace HO393 := m_ (Kd.V_below (Vz_ HO393.out) hb); replace HO402 := m_ (Kd.V_below (Vz_ HO402.out) hb); replace HO405 := m_ (Kd.V_below (Vz_ HO405.out) hb); replace HO408 := m_ (Kd.V_below (Vz_ HO408.out) hb); replace HO417 := m_ (Kd.V_below (Vz_ HO417.out) hb); replace HO420 := m_ (Kd.V_below (Vz_ HO420.out) hb); replace HO423 := m_ (Kd.V_below (Vz_ HO423.out) hb); replace HO434 := m_ (Kd.N_below (Nz_ HO434.out) hb); replace BK379 := m_ (kl_ gb379 hb); replace BK394 := m_ (kl_ gb394 hb); replace BK409 := m_ (kl_ gb409 hb); replace BK424 := m_ (kl_ gb424 hb); replace HB := m_ (below_step bz_ hb); (try clear hb); (try clear hb2); (try clear hk); (try clear hi)) | ((with_reducible refine gate_dst (N := 81) rfl ?_); (try (refine gate_guard (by rfl) ?_; dsimp only)); refine Kd.N_lit k32 _ 32 ?hg (N' := 81) ?hd (xs := ([] : List (S32))) (inner := []) (ok := (fun k_ => some k_ ≠ (.slice Ao76 y432.length co76 : Value).ownBlock ∧ k_ ≠ gb379 ∧ k_ ≠ gb394 ∧ k_ ≠ gb409 ∧ k_ ≠ gb424)) (okp := (fun k_ => some k_ ≠ (.slice Ao76 y432.length co76 : Value).ownBlock ∧ k_ ≠ gb379 ∧ k_ ≠ gb394 ∧ k_ ≠ gb409 ∧ k_ ≠ gb424)) ?hr ?hp (fun _ hk => hk) ((show ∀ k_, w77.heap.size ≤ k_ → (fun k_ => some k_ ≠ (.slice Ao76 y432.length co76 : Value).ownBlock ∧ k_ ≠ gb379 ∧ k_ ≠ gb394 ∧ k_ ≠ gb409 ∧ k_ ≠ gb424) k_ from fun k_ hk => ⟨Kd.fresh' (Kd.N_lt (Nz_ HO434.out)) k_ hk, Kd.freshB (g := gb379) (o := .cells #[.int .i64 a0_0, .slice A0_1 l0_1.length c0_1] 24 (0, 0)) kz_ k_ hk, Kd.freshB (g := gb394) (o := .cells #[.int .i64 t384, .slice Ao43 t385.length co43] 24 (0, 0)) kz_ k_ hk, Kd.freshB (g := gb409) (o := .cells #[.int .i64 t399, .slice Ao51 t400.length co51] 24 (0, 0)) kz_ k_ hk, Kd.freshB (g := gb424) (o := .cells #[.int .i64 t414, .slice Ao60 t415.length co60] 24 (0, 0)) kz_ k_ hk⟩) _ (Nat.le_refl _)) (Below.refl _ _) (Nat.le_refl _) (by simp) ?_; (case hd => rfl); (case hg => rfl); (case hr => first | (go_simp; done) | (go_simp; rfl)); (case hp => exact (Reps.none _ _)); intro v437 w78 ho79 hb hg_ hnew_; clear hg_ hnew_; (first | rw [← Ny436.out] at ho79 | (simp only [Int.reduceToNat] at ho79; rw [← Ny436.out] at ho79)); have HO438 := m_ (Kd.N_lower ho79 (below_size bz_)); replace HO387 := m_ (Kd.V_elder' (Vz_ HO387.out) (Kd.N_base ho79) hb); replace HO390 := m_ (Kd.V_elder' (Vz_ HO390.out) (Kd.N_base ho79) hb); replace HO393 := m_ (Kd.V_elder' (Vz_ HO393.out) (Kd.N_base ho79) hb); replace HO402 := m_ (Kd.V_elder' (Vz_ HO402.out) (Kd.N_base ho79) hb); replace HO405 := m_ (Kd.V_elder' (Vz_ HO405.out) (Kd.N_base ho79) hb); replace HO408 := m_ (Kd.V_elder' (Vz_ HO408.out) (Kd.N_base ho79) hb); replace HO417 := m_ (Kd.V_elder' (Vz_ HO417.out) (Kd.N_base ho79) hb); replace HO420 := m_ (Kd.V_elder' (Vz_ HO420.out) (Kd.N_base ho79) hb); replace HO423 := m_ (Kd.V_elder' (Vz_ HO423.out) (Kd.N_base ho79) hb); replace HO434 := m_ (Kd.N_elder' (Nz_ HO434.out) (Kd.N_base ho79) hb); replace BK379 := m_ (kl_ gb379 hb); replace BK394 := m_ (kl_ gb394 hb); replace BK409 := m_ (kl_ gb409 hb); replace BK424 := m_ (kl_ gb424 hb); replace HB := m_ (below_step bz_ hb); clear hb ho79; obtain ⟨Ao81, co81, eo81⟩ := Kd.V_slice HO408.out; subst eo81) | ((with_reducible refine gate_builtin (b := .append) (xs := #[.tmp 81, .tmp 82]) rfl ?_); (try (refine gate_guard (by rfl) ?_; dsimp only)); at_builtin; refine Kd.N_append_rows k32 (w0 := w) w.heap.size rfl (.tmp 81) (.tmp 82) 33 32 (.agg #[(.int .u8 0), (.int .u32 0), (.int .u32 0), (.int .u32 0), (.int .u32 0), (.int .i64 0), (.int .u32 0), (.slice none 0 0), (.int .i64 0), (.bool false), (.slice none 0 0)]) 104 rfl Try.underlying33 info32 rfl (by decide) (by omega) v437 y436 t406 _ _ _ (fun k_ => some k_ ≠ (.slice Ao76 y432.length co76 : Value).ownBlock ∧ k_ ≠ gb379 ∧ k_ ≠ gb394 ∧ k_ ≠ gb409 ∧ k_ ≠ gb424) (fun k_ => ((fun k_ => some k_ ≠ (.slice Ao76 y432.length co76 : Value).ownBlock ∧ k_ ≠ gb379 ∧ k_ ≠ gb394 ∧ k_ ≠ gb409 ∧ k_ ≠ gb424)) k_ ∧ some k_ ≠ (v437 : Value).ownBlock) rfl rfl ?aO ?aR (fun _ hk => hk) ?aF ?aB ?aS ?aL ?_; (case aR => exact (by skip; exact Kd.V_F (Kd.V_mono (ok' := (fun k_ => ((fun k_ => some k_ ≠ (.slice Ao76 y432.length co76 : Value).ownBlock ∧ k_ ≠ gb379 ∧ k_ ≠ gb394 ∧ k_ ≠ gb409 ∧ k_ ≠ gb424)) k_ ∧ some k_ ≠ (v437 : Value).ownBlock)) (HO408.out) (fun k_ hk => ⟨⟨hk.1.2, ⟨hk.1.1.1, ⟨hk.1.1.2.1, ⟨hk.1.1.2.2.1, hk.1.1.2.2.2⟩⟩⟩⟩, hk.2⟩)))); (case aB => exact bz_); (case aF => exact (fun k_ hk => ⟨Kd.fresh' (Kd.N_lt (Nz_ HO434.out)) k_ hk, Kd.freshB (g := gb379) (o := .cells #[.int .i64 a0_0, .slice A0_1 l0_1.length c0_1] 24 (0, 0)) kz_ k_ hk, Kd.freshB (g := gb394) (o := .cells #[.int .i64 t384, .slice Ao43 t385.length co43] 24 (0, 0)) kz_ k_ hk, Kd.freshB (g := gb409) (o := .cells #[.int .i64 t399, .slice Ao51 t400.length co51] 24 (0, 0)) kz_ k_ hk, Kd.freshB (g := gb424) (o := .cells #[.int .i64 t414, .slice Ao60 t415.length co60] 24 (0, 0)) kz_ k_ hk⟩)); (case aO => exact (Nz_ HO438.out)); (case aS => exact (below_size bz_)); (case aL => have := LMc35.out; omega); intro v440 w80 ho hb hg hat; rw [← Ny439.out] at ho; have HO441 := m_ (ho); replace BK379 := m_ (blk_grown (g := gb379) (o := .cells #[.int .i64 a0_0, .slice A0_1 l0_1.length c0_1] 24 (0, 0)) kz_ hg (Kd.N_ne HO438.out BK379.out (by decide))); replace HO387 := m_ (Kd.V_afterv (ok := (fun k_ => some k_ ≠ (.slice Ao76 y432.length co76 : Value).ownBlock ∧ k_ ≠ gb379 ∧ k_ ≠ gb394 ∧ k_ ≠ gb409 ∧ k_ ≠ gb424)) (Vy_ (Kd.V_mono HO387.out (fun _ hk => ⟨⟨hk.1.2, ⟨hk.1.1.1, ⟨hk.1.1.2.1, ⟨hk.1.1.2.2.1, hk.1.1.2.2.2⟩⟩⟩⟩, hk.2⟩))) hg hat); replace HO390 := m_ (Kd.V_afterv (ok := (fun k_ => some k_ ≠ (.slice Ao76 y432.length co76 : Value).ownBlock ∧ k_ ≠ gb379 ∧ k_ ≠ gb394 ∧ k_ ≠ gb409 ∧ k_ ≠ gb424)) (Vy_ (Kd.V_mono HO390.out (fun _ hk => ⟨⟨hk.1.2, ⟨hk.1.1.1, ⟨hk.1.1.2.1, ⟨hk.1.1.2.2.1, hk.1.1.2.2.2⟩⟩⟩⟩, hk.2⟩))) hg hat); replace HO393 := m_ (Kd.V_afterv (ok := (fun k_ => some k_ ≠ (.slice Ao76 y432.length co76 : Value).ownBlock ∧ k_ ≠ gb379 ∧ k_ ≠ gb394 ∧ k_ ≠ gb409 ∧ k_ ≠ gb424)) (Vy_ (Kd.V_mono HO393.out (fun _ hk => ⟨⟨hk.1.2, ⟨hk.1.1.1, ⟨hk.1.1.2.1, ⟨hk.1.1.2.2.1, hk.1.1.2.2.2⟩⟩⟩⟩, hk.2⟩))) hg hat); replace BK394 := m_ (blk_grown (g := gb394) (o := .cells #[.int .i64 t384, .slice Ao43 t385.length co43] 24 (0, 0)) kz_ hg (Kd.N_ne HO438.out BK394.out (by decide))); replace HO402 := m_ (Kd.V_afterv (ok := (fun k_ => some k_ ≠ (.slice Ao76 y432.length co76 : Value).ownBlock ∧ k_ ≠ gb379 ∧ k_ ≠ gb394 ∧ k_ ≠ gb409 ∧ k_ ≠ gb424)) (Vy_ (Kd.V_mono HO402.out (fun _ hk => ⟨⟨hk.1.2, ⟨hk.1.1.1, ⟨hk.1.1.2.1, ⟨hk.1.1.2.2.1, hk.1.1.2.2.2⟩⟩⟩⟩, hk.2⟩))) hg hat); replace HO405 := m_ (Kd.V_afterv (ok := (fun k_ => some k_ ≠ (.slice Ao76 y432.length co76 : Value).ownBlock ∧ k_ ≠ gb379 ∧ k_ ≠ gb394 ∧ k_ ≠ gb409 ∧ k_ ≠ gb424)) (Vy_ (Kd.V_mono HO405.out (fun _ hk => ⟨⟨hk.1.2, ⟨hk.1.1.1, ⟨hk.1.1.2.1, ⟨hk.1.1.2.2.1, hk.1.1.2.2.2⟩⟩⟩⟩, hk.2⟩))) hg hat); replace HO408 := m_ (Kd.V_afterv (ok := (fun k_ => some k_ ≠ (.slice Ao76 y432.length co76 : Value).ownBlock ∧ k_ ≠ gb379 ∧ k_ ≠ gb394 ∧ k_ ≠ gb409 ∧ k_ ≠ gb424)) (Vy_ (Kd.V_mono HO408.out (fun _ hk => ⟨⟨hk.1.2, ⟨hk.1.1.1, ⟨hk.1.1.2.1, ⟨hk.1.1.2.2.1, hk.1.1.2.2.2⟩⟩⟩⟩, hk.2⟩))) hg hat); replace BK409 := m_ (blk_grown (g := gb409) (o := .cells #[.int .i64 t399, .slice Ao51 t400.length co51] 24 (0, 0)) kz_ hg (Kd.N_ne HO438.out BK409.out (by decide))); replace HO417 := m_ (Kd.V_afterv (ok := (fun k_ => some k_ ≠ (.slice Ao76 y432.length co76 : Value).ownBlock ∧ k_ ≠ gb379 ∧ k_ ≠ gb394 ∧ k_ ≠ gb409 ∧ k_ ≠ gb424)) (Vy_ (Kd.V_mono HO417.out (fun _ hk => ⟨⟨hk.1.2, ⟨hk.1.1.1, ⟨hk.1.1.2.1, ⟨hk.1.1.2.2.1, hk.1.1.2.2.2⟩⟩⟩⟩, hk.2⟩))) hg hat); replace HO420 := m_ (Kd.V_afterv (ok := (fun k_ => some k_ ≠ (.slice Ao76 y432.length co76 : Value).ownBlock ∧ k_ ≠ gb379 ∧ k_ ≠ gb394 ∧ k_ ≠ gb409 ∧ k_ ≠ gb424)) (Vy_ (Kd.V_mono HO420.out (fun _ hk => ⟨⟨hk.1.2, ⟨hk.1.1.1, ⟨hk.1.1.2.1, ⟨hk.1.1.2.2.1, hk.1.1.2.2.2⟩⟩⟩⟩, hk.2⟩))) hg hat); replace HO423 := m_ (Kd.V_afterv (ok := (fun k_ => some k_ ≠ (.slice Ao76 y432.length co76 : Value).ownBlock ∧ k_ ≠ gb379 ∧ k_ ≠ gb394 ∧ k_ ≠ gb409 ∧ k_ ≠ gb424)) (Vy_ (Kd.V_mono HO423.out (fun _ hk => ⟨⟨hk.1.2, ⟨hk.1.1.1, ⟨hk.1.1.2.1, ⟨hk.1.1.2.2.1, hk.1.1.2.2.2⟩⟩⟩⟩, hk.2⟩))) hg hat); replace BK424 := m_ (blk_grown (g := gb424) (o := .cells #[.int .i64 t414, .slice Ao60 t415.length co60] 24 (0, 0)) kz_ hg (Kd.N_ne HO438.out BK424.out (by decide))); replace HO434 := m_ (Kd.N_afterv (ok := (fun k_ => k_ ≠ gb379 ∧ k_ ≠ gb394 ∧ k_ ≠ gb409 ∧ k_ ≠ gb424)) (Nz_ HO434.out) hg hat); replace HB := m_ (hb); clear HO438 ho hb hg hat; obtain ⟨Ao83, co83, eo83⟩ := Kd.V_slice HO423.out; subst eo83) | ((with_reducible refine gate_builtin (b := .append) (xs := #[.tmp 83, .tmp 84]) rfl ?_); (try (refine gate_guard (by rfl) ?_; dsimp only)); at_builtin; refine Kd.N_append_rows k32 (w0 := w) w.heap.size rfl (.tmp 83) (.tmp 84) 33 32 (.agg #[(.int .u8 0), (.int .u32 0), (.int .u32 0), (.int .u32 0), (.int .u32 0), (.int .i64 0), (.int .u32 0), (.slice none 0 0), (.int .i64 0), (.bool false), (.slice none 0 0)]) 104 rfl Try.underlying33 info32 rfl (by decide) (by omega) v440 y439 t421 _ _ _ (fun k_ => some k_ ≠ (.slice Ao76 y432.length co76 : Value).ownBlock ∧ k_ ≠ gb379 ∧ k_ ≠ gb394 ∧ k_ ≠ gb409 ∧ k_ ≠ gb424) (fun k_ => ((fun k_ => some k_ ≠ (.slice Ao76 y432.length co76 : Value).ownBlock ∧ k_ ≠ gb379 ∧ k_ ≠ gb394 ∧ k_ ≠ gb409 ∧ k_ ≠ gb424)) k_ ∧ some k_ ≠ (v440 : Value).ownBlock) rfl rfl ?aO ?aR (fun _ hk => hk) ?aF ?aB ?aS ?aL ?_; (case aR => exact (by skip; exact Kd.V_F (Kd.V_mono (ok' := (fun k_ => ((fun k_ => some k_ ≠ (.slice Ao76 y432.length co76 : Value).ownBlock ∧ k_ ≠ gb379 ∧ k_ ≠ gb394 ∧ k_ ≠ gb409 ∧ k_ ≠ gb424)) k_ ∧ some k_ ≠ (v440 : Value).ownBlock)) (HO423.out) (fun k_ hk => ⟨⟨hk.1.1, ⟨hk.1.2.1, ⟨hk.1.2.2.1, ⟨hk.1.2.2.2.1, hk.1.2.2.2.2⟩⟩⟩⟩, hk.2⟩)))); (case aB => exact bz_); (case aF => exact (fun k_ hk => ⟨Kd.fresh' (Kd.N_lt (Nz_ HO434.out)) k_ hk, Kd.freshB (g := gb379) (o := .cells #[.int .i64 a0_0, .slice A0_1 l0_1.length c0_1] 24 (0, 0)) kz_ k_ hk, Kd.freshB (g := gb394) (o := .cells #[.int .i64 t384, .slice Ao43 t385.length co43] 24 (0, 0)) kz_ k_ hk, Kd.freshB (g := gb409) (o := .cells #[.int .i64 t399, .slice Ao51 t400.length co51] 24 (0, 0)) kz_ k_ hk, Kd.freshB (g := gb424) (o := .cells #[.int .i64 t414, .slice Ao60 t415.length co60] 24 (0, 0)) kz_ k_ hk⟩)); (case aO => exact (Nz_ HO441.out)); (case aS => exact (below_size bz_)); (case aL => have := LMc36.out; omega); intro v443 w82 ho hb hg hat; rw [← Ny442.out] at ho; have HO444 := m_ (ho); replace BK379 := m_ (blk_grown (g := gb379) (o := .cells #[.int .i64 a0_0, .slice A0_1 l0_1.length c0_1] 24 (0, 0)) kz_ hg (Kd.N_ne HO441.out BK379.out (by decide))); replace HO387 := m_ (Kd.V_afterv (ok := (fun k_ => some k_ ≠ (.slice Ao76 y432.length co76 : Value).ownBlock ∧ k_ ≠ gb379 ∧ k_ ≠ gb394 ∧ k_ ≠ gb409 ∧ k_ ≠ gb424)) (Vz_ HO387.out) hg hat); replace HO390 := m_ (Kd.V_afterv (ok := (fun k_ => some k_ ≠ (.slice Ao76 y432.length co76 : Value).ownBlock ∧ k_ ≠ gb379 ∧ k_ ≠ gb394 ∧ k_ ≠ gb409 ∧ k_ ≠ gb424)) (Vz_ HO390.out) hg hat); replace HO393 := m_ (Kd.V_afterv (ok := (fun k_ => some k_ ≠ (.slice Ao76 y432.length co76 : Value).ownBlock ∧ k_ ≠ gb379 ∧ k_ ≠ gb394 ∧ k_ ≠ gb409 ∧ k_ ≠ gb424)) (Vz_ HO393.out) hg hat); replace BK394 := m_ (blk_grown (g := gb394) (o := .cells #[.int .i64 t384, .slice Ao43 t385.length co43] 24 (0, 0)) kz_ hg (Kd.N_ne HO441.out BK394.out (by decide))); replace HO402 := m_ (Kd.V_afterv (ok := (fun k_ => some k_ ≠ (.slice Ao76 y432.length co76 : Value).ownBlock ∧ k_ ≠ gb379 ∧ k_ ≠ gb394 ∧ k_ ≠ gb409 ∧ k_ ≠ gb424)) (Vz_ HO402.out) hg hat); replace HO405 := m_ (Kd.V_afterv (ok := (fun k_ => some k_ ≠ (.slice Ao76 y432.length co76 : Value).ownBlock ∧ k_ ≠ gb379 ∧ k_ ≠ gb394 ∧ k_ ≠ gb409 ∧ k_ ≠ gb424)) (Vz_ HO405.out) hg hat); replace HO408 := m_ (Kd.V_afterv (ok := (fun k_ => some k_ ≠ (.slice Ao76 y432.length co76 : Value).ownBlock ∧ k_ ≠ gb379 ∧ k_ ≠ gb394 ∧ k_ ≠ gb409 ∧ k_ ≠ gb424)) (Vz_ HO408.out) hg hat); replace BK409 := m_ (blk_grown (g := gb409) (o := .cells #[.int .i64 t399, .slice Ao51 t400.length co51] 24 (0, 0)) kz_ hg (Kd.N_ne HO441.out BK409.out (by decide))); replace HO417 := m_ (Kd.V_afterv (ok := (fun k_ => some k_ ≠ (.slice Ao76 y432.length co76 : Value).ownBlock ∧ k_ ≠ gb379 ∧ k_ ≠ gb394 ∧ k_ ≠ gb409 ∧ k_ ≠ gb424)) (Vz_ HO417.out) hg hat); replace HO420 := m_ (Kd.V_afterv (ok := (fun k_ => some k_ ≠ (.slice Ao76 y432.length co76 : Value).ownBlock ∧ k_ ≠ gb379 ∧ k_ ≠ gb394 ∧ k_ ≠ gb409 ∧ k_ ≠ gb424)) (Vz_ HO420.out) hg hat); replace HO423 := m_ (Kd.V_afterv (ok := (fun k_ => some k_ ≠ (.slice Ao76 y432.length co76 : Value).ownBlock ∧ k_ ≠ gb379 ∧ k_ ≠ gb394 ∧ k_ ≠ gb409 ∧ k_ ≠ gb424)) (Vz_ HO423.out) hg hat); replace BK424 := m_ (blk_grown (g := gb424) (o := .cells #[.int .i64 t414, .slice Ao60 t415.length co60] 24 (0, 0)) kz_ hg (Kd.N_ne HO441.out BK424.out (by decide))); replace HO434 := m_ (Kd.N_afterv (ok := (fun k_ => k_ ≠ gb379 ∧ k_ ≠ gb394 ∧ k_ ≠ gb409 ∧ k_ ≠ gb424)) (Nz_ HO434.out) hg hat); replace HB := m_ (hb); clear HO441 ho hb hg hat; obtain ⟨Ao84, co84, eo84⟩ := Kd.V_slice HO393.out; subst eo84; obtain ⟨Ao85, co85, eo85⟩ := Kd.N_slice HO444.out; subst eo85) | (go_at_call 18; (with_reducible refine (stolonref16_Msgs.calls kj4 _ _ t391 _ _ y442 t445 _ ?side1 ?side2 ?side3 ?side4 A37.out).mono ?_); (case side1 => exact Cd_ (Kd.V_reads' HO393.out).2.2); (case side2 => exact (Kd.V_reads' HO393.out).2.1); (case side3 => exact Cd_ (Kd.N_reads' HO444.out).2.2); (case side4 => exact (Kd.N_reads' HO444.out).2.1); rintro e w86 ⟨rfl, hb⟩; replace HO387 := m_ (Kd.V_below (Vz_ HO387.out) hb); replace HO390 := m_ (Kd.V_below (Vz_ HO390.out) hb); replace HO393 := m_ (Kd.V_below (Vz_ HO393.out) hb); replace HO402 := m_ (Kd.V_below (Vz_ HO402.out) hb); replace HO405 := m_ (Kd.V_below (Vz_ HO405.out) hb); replace HO408 := m_ (Kd.V_below (Vz_ HO408.out) hb); replace HO417 := m_ (Kd.V_below (Vz_ HO417.out) hb); replace HO420 := m_ (Kd.V_below (Vz_ HO420.out) hb); replace HO423 := m_ (Kd.V_below (Vz_ HO423.out) hb); replace HO434 := m_ (Kd.N_below (Nz_ HO434.out) hb); replace HO444 := m_ (Kd.N_below (Nz_ HO444.out) hb); replace BK379 := m_ (kl_ gb379 hb); replace BK394 := m_ (kl_ gb394 hb); replace BK409 := m_ (kl_ gb409 hb); replace BK424 := m_ (kl_ gb424 hb); replace HB := m_ (below_step bz_ hb); (try clear hb); (try clear hb2); (try clear hk); (try clear hi)))
             go_ret
             exact ⟨(by first | rfl | (simp [errW_none, errW_some] <;> rfl) | (simp only [← hji19, ← hji20]; first | rfl | (simp [errW_none, errW_some] <;> rfl)) | (simp [*, errW_none, errW_some] <;> rfl)), bz_⟩
            ·rw [if_neg c36] at H
             exact absurd H (by simp)
           ·rw [if_neg c35] at H
            exact absurd H (by simp)
          ·replace c34 := Bool.eq_false_iff.mpr c34
           subst c34
           have H1 : (some false) = some r := by rw [if_neg (show ¬ (false = true) by decide)] at H; exact H
           clear H
           have H := H1
           clear H1
           exact absurd ((Option.some.inj H).trans hTrue.out) (by simp)
         ·rw [if_neg c32] at H
          exact absurd H (by simp)
        ·rw [if_neg c31] at H
         exact absurd H (by simp)
       ·replace c30 := Bool.eq_false_iff.mpr c30
        subst c30
        have H1 : (some false) = some r := by rw [if_neg (show ¬ (false = true) by decide)] at H; exact H
        clear H
        have H := H1
        clear H1
        exact absurd ((Option.some.inj H).trans hTrue.out) (by simp)
      ·replace c28 := Bool.eq_false_iff.mpr c28
       subst c28
       have H1 : (some false) = some r := by rw [if_neg (show ¬ (false = true) by decide)] at H; exact H
       clear H
       have H := H1
       clear H1
       exact absurd ((Option.some.inj H).trans hTrue.out) (by simp)
     ·rw [if_neg c23] at H
      exact absurd H (by simp)
    ·rw [if_neg c22] at H
     exact absurd H (by simp)
end Go.Proofs.Ytfomnmdjbdohgaa.P

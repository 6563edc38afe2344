/- For each Go function a Lean function, and the proof that a call comes to what it tells: made by program out of the translation (the kit's print, with texts by hand put in). No condition. -/
import Derived.Test.YtfomnmdjbdohgaaSq
import Derived.Test.YtfomnmdjbdohgaaPx0
import Derived.Test.YtfomnmdjbdohgaaPx13
import Derived.Test.YtfomnmdjbdohgaaPx17
import Derived.Test.YtfomnmdjbdohgaaPx18
import Derived.Test.YtfomnmdjbdohgaaPx21
import Derived.Test.YtfomnmdjbdohgaaPx22
import Derived.Test.YtfomnmdjbdohgaaPx23
import Derived.Test.YtfomnmdjbdohgaaPx26
namespace Go.Proofs.Ytfomnmdjbdohgaa.P
open Go.RowKit Go.Proofs.Ytfomnmdjbdohgaa.HRows Go.Proofs.YtfomnmdjbdohgaaW.PrintWords Go.Proofs.YtfomnmdjbdohgaaW.PrintLast Go.Proofs.YtfomnmdjbdohgaaW.PrintMore
attribute [local go_sem] max2_int min2_int max_two min_two max_three min_three max_four min_four
set_option linter.unusedVariables false
set_option linter.unusedSimpArgs false
mutual
def stolonlaw17_SwtchStays.j0 : Nat → List (S32) → Bool → Bool → Int → List (S29) → Option (Bool)
 | 0, _, _, _, _, _ => none
 | k + 1, x1, x5, x34, x325000, x325001 => if x34 = true then (some x5) else ((swtch_All.f k x325000 x325001 x1).bind fun bt329 => ((stolonref17_Right.f k bt329.1 bt329.2.1).bind fun t340 => (if t340 = true then (stolonlaw17_SwtchStays.l0 k x1 x5 bt329.2.2.1 0 false 0 x325000 x325001 bt329.1 bt329.2.1) else (some false))))
def stolonlaw17_SwtchStays.l0 : Nat → List (S32) → Bool → List (S32) → Int → Bool → Int → Int → List (S29) → Int → List (S29) → Option (Bool)
 | 0, _, _, _, _, _, _, _, _, _, _ => none
 | k + 1, x1, x5, x7, x9, x10, x11, x325000, x325001, x340000, x340001 => if x11 < (x1.length : Int) then (if 0 ≤ x11 then ((stolonref16_Right.f k ((rd_T32 x1 x11).f0) ((rd_T32 x1 x11).f1) ((rd_T32 x1 x11).f2.f0) ((rd_T32 x1 x11).f2.f1) ((rd_T32 x1 x11).f2.f2) ((rd_T32 x1 x11).f2.f3) ((rd_T32 x1 x11).f2.f4) ((rd_T32 x1 x11).f2.f5) ((rd_T32 x1 x11).f3) ((rd_T32 x1 x11).f4) ((rd_T32 x1 x11).f5)).bind fun t342 => (if x10 = true then (stolonlaw17_SwtchStays.j2 k x1 x5 x7 x9 true x11 t342 x325000 x325001 x340000 x340001) else (if t342 = true then (stolonlaw17_SwtchStays.j2 k x1 x5 x7 x9 (((rd_T32 x1 x11).f0) == 6) x11 t342 x325000 x325001 x340000 x340001) else (stolonlaw17_SwtchStays.j2 k x1 x5 x7 x9 false x11 t342 x325000 x325001 x340000 x340001)))) else (none)) else (stolonlaw17_SwtchStays.l2 k x1 x5 x10 0 x325000 x325001 x340000 x340001)
def stolonlaw17_SwtchStays.j2 : Nat → List (S32) → Bool → List (S32) → Int → Bool → Int → Bool → Int → List (S29) → Int → List (S29) → Option (Bool)
 | 0, _, _, _, _, _, _, _, _, _, _, _ => none
 | k + 1, x1, x5, x7, x9, x10, x11, x12, x325000, x325001, x340000, x340001 => if x12 = true then (if 0 ≤ x11 then (if x11 < (x1.length : Int) then (stolonlaw17_SwtchStays.j3 k x1 x5 x7 x9 x10 x11 (((rd_T32 x1 x11).f0) != 3) x325000 x325001 x340000 x340001) else (none)) else (none)) else (stolonlaw17_SwtchStays.j3 k x1 x5 x7 x9 x10 x11 true x325000 x325001 x340000 x340001)
def stolonlaw17_SwtchStays.j3 : Nat → List (S32) → Bool → List (S32) → Int → Bool → Int → Bool → Int → List (S29) → Int → List (S29) → Option (Bool)
 | 0, _, _, _, _, _, _, _, _, _, _, _ => none
 | k + 1, x1, x5, x7, x9, x10, x11, x78, x325000, x325001, x340000, x340001 => if x78 = true then (stolonlaw17_SwtchStays.l0 k x1 x5 x7 x9 x10 (wrap64 (x11 + 1)) x325000 x325001 x340000 x340001) else (stolonlaw17_SwtchStays.l1 k x1 x5 x7 x9 x10 x11 x325000 x325001 x340000 x340001)
def stolonlaw17_SwtchStays.l1 : Nat → List (S32) → Bool → List (S32) → Int → Bool → Int → Int → List (S29) → Int → List (S29) → Option (Bool)
 | 0, _, _, _, _, _, _, _, _, _, _ => none
 | k + 1, x1, x5, x7, x9, x10, x11, x325000, x325001, x340000, x340001 => if x9 < (x7.length : Int) then (if 0 ≤ x9 then (if ((rd_T32 x7 x9).f0) = 4 then (if x9 ≥ (x7.length : Int) then (some false) else (if 0 ≤ x11 then (if x11 < (x1.length : Int) then (if ((rd_T32 x7 x9).f1) = ((rd_T32 x1 x11).f1) then (stolonlaw17_SwtchStays.l0 k x1 x5 x7 (wrap64 (x9 + 1)) x10 (wrap64 (x11 + 1)) x325000 x325001 x340000 x340001) else (some false)) else (none)) else (none))) else (stolonlaw17_SwtchStays.l1 k x1 x5 x7 (wrap64 (x9 + 1)) x10 x11 x325000 x325001 x340000 x340001)) else (none)) else (if x9 ≥ (x7.length : Int) then (some false) else (if 0 ≤ x9 then (none) else (none)))
def stolonlaw17_SwtchStays.l2 : Nat → List (S32) → Bool → Bool → Int → Int → List (S29) → Int → List (S29) → Option (Bool)
 | 0, _, _, _, _, _, _, _, _ => none
 | k + 1, x1, x5, x10, x13, x325000, x325001, x340000, x340001 => if x13 < (x325001.length : Int) then (stolonlaw17_SwtchStays.j6 k x1 x5 x10 x13 (!x10) x325000 x325001 x340000 x340001) else (stolonlaw17_SwtchStays.j6 k x1 x5 x10 x13 false x325000 x325001 x340000 x340001)
def stolonlaw17_SwtchStays.j6 : Nat → List (S32) → Bool → Bool → Int → Bool → Int → List (S29) → Int → List (S29) → Option (Bool)
 | 0, _, _, _, _, _, _, _, _, _ => none
 | k + 1, x1, x5, x10, x13, x120, x325000, x325001, x340000, x340001 => if x120 = true then (if 0 ≤ x13 then (if x13 < (x325001.length : Int) then (stolonlaw17_SwtchStays.l3 k x1 x5 x10 x13 false 0 x325000 x325001 x340000 x340001 ((rd_T29 x325001 x13).f0) ((rd_T29 x325001 x13).f1) ((rd_T29 x325001 x13).f2) ((rd_T29 x325001 x13).f3) ((rd_T29 x325001 x13).f4) ((rd_T29 x325001 x13).f5)) else (none)) else (none)) else (some x5)
def stolonlaw17_SwtchStays.l3 : Nat → List (S32) → Bool → Bool → Int → Bool → Int → Int → List (S29) → Int → List (S29) → Int → Int → Int → Int → Int → List (S74) → Option (Bool)
 | 0, _, _, _, _, _, _, _, _, _, _, _, _, _, _, _, _ => none
 | k + 1, x1, x5, x10, x13, x15, x16, x325000, x325001, x340000, x340001, x350000, x350001, x350002, x350003, x350004, x350005 => if x16 < (x1.length : Int) then (if 0 ≤ x16 then (if x15 = true then (stolonlaw17_SwtchStays.l3 k x1 x5 x10 x13 true (wrap64 (x16 + 1)) x325000 x325001 x340000 x340001 x350000 x350001 x350002 x350003 x350004 x350005) else (if ((rd_T32 x1 x16).f2.f0) = x350000 then (if ((rd_T32 x1 x16).f2.f1) = x350001 then (stolonlaw17_SwtchStays.l3 k x1 x5 x10 x13 (((rd_T32 x1 x16).f2.f2) == x350002) (wrap64 (x16 + 1)) x325000 x325001 x340000 x340001 x350000 x350001 x350002 x350003 x350004 x350005) else (stolonlaw17_SwtchStays.l3 k x1 x5 x10 x13 false (wrap64 (x16 + 1)) x325000 x325001 x340000 x340001 x350000 x350001 x350002 x350003 x350004 x350005)) else (stolonlaw17_SwtchStays.l3 k x1 x5 x10 x13 false (wrap64 (x16 + 1)) x325000 x325001 x340000 x340001 x350000 x350001 x350002 x350003 x350004 x350005))) else (none)) else (stolonlaw17_SwtchStays.l4 k x1 x5 x10 x13 x15 false 0 x325000 x325001 x340000 x340001 x350000 x350001 x350002 x350003 x350004 x350005)
def stolonlaw17_SwtchStays.l4 : Nat → List (S32) → Bool → Bool → Int → Bool → Bool → Int → Int → List (S29) → Int → List (S29) → Int → Int → Int → Int → Int → List (S74) → Option (Bool)
 | 0, _, _, _, _, _, _, _, _, _, _, _, _, _, _, _, _, _ => none
 | k + 1, x1, x5, x10, x13, x15, x18, x19, x325000, x325001, x340000, x340001, x350000, x350001, x350002, x350003, x350004, x350005 => if x19 < (x340001.length : Int) then (if x18 = true then (stolonlaw17_SwtchStays.l4 k x1 x5 x10 x13 x15 true (wrap64 (x19 + 1)) x325000 x325001 x340000 x340001 x350000 x350001 x350002 x350003 x350004 x350005) else (if 0 ≤ x19 then ((stolonref15_Same.f k ((rd_T29 x340001 x19).f0) ((rd_T29 x340001 x19).f1) ((rd_T29 x340001 x19).f2) ((rd_T29 x340001 x19).f3) ((rd_T29 x340001 x19).f4) ((rd_T29 x340001 x19).f5) x350000 x350001 x350002 x350003 x350004 x350005).bind fun t353 => (stolonlaw17_SwtchStays.l4 k x1 x5 x10 x13 x15 t353 (wrap64 (x19 + 1)) x325000 x325001 x340000 x340001 x350000 x350001 x350002 x350003 x350004 x350005)) else (none))) else (if x15 = true then (stolonlaw17_SwtchStays.l2 k x1 x5 x10 (wrap64 (x13 + 1)) x325000 x325001 x340000 x340001) else (if x18 = true then (stolonlaw17_SwtchStays.l2 k x1 x5 x10 (wrap64 (x13 + 1)) x325000 x325001 x340000 x340001) else (some false)))
end
def stolonlaw17_SwtchStays.f (k : Nat) (a0_0 : Int) (l0_1 : List (S29)) (l1 : List (S32)) : Option (Bool) := (stolonlaw17_shown.f k).bind fun t325 => ((stolonref15_Few.f k l0_1).bind fun t326 => (if t326 = true then ((stolonref17_Right.f k a0_0 l0_1).bind fun t327 => (if t327 = true then ((stolonlaw17_few.f k l1).bind fun t328 => (stolonlaw17_SwtchStays.j0 k l1 t325 (!t328) a0_0 l0_1)) else (stolonlaw17_SwtchStays.j0 k l1 t325 true a0_0 l0_1))) else (stolonlaw17_SwtchStays.j0 k l1 t325 true a0_0 l0_1)))
def stolonlaw17_SwtchStays.T17 : Bool × List (List Nat × List Nat) := (true, [([], []), ([], []), ([1], [1]), ([0, 2], [0, 2]), ([3], [3]), ([4], [4]), ([4], [4]), ([5, 6, 4], [4, 5, 6]), ([7, 4], [4, 7]), ([8, 4], [4, 8]), ([4], [4]), ([4], [4]), ([10, 11, 4], [4, 10, 11]), ([12, 4], [4, 12]), ([13, 4], [4, 13]), ([9, 14, 4], [4, 9, 14]), ([4, 15], [4, 15])])
def stolonlaw17_SwtchStays.B17 : List Nat := [0, 0, 2, 7, 15, 31, 31, 127, 255, 511, 31, 31, 3103, 7199, 15391, 32767, 65535]
theorem stolonlaw17_SwtchStays.tab17 : rtab .any (opsOf Try.f4 17) = stolonlaw17_SwtchStays.T17 := by kernel_rfl
theorem stolonlaw17_SwtchStays.bits17 : waitsOk stolonlaw17_SwtchStays.T17.2 stolonlaw17_SwtchStays.B17 = true := by kernel_rfl
def stolonlaw17_SwtchStays.T34 : Bool × List (List Nat × List Nat) := (true, [([], []), ([0], [0]), ([1], [1]), ([2, 1], [1, 2]), ([1], [1]), ([3, 4, 1], [1, 3, 4]), ([5, 1], [1, 5]), ([1], [1]), ([6, 7, 1, 1], [1, 6, 7]), ([1, 8], [1, 8]), ([9, 8, 0, 1, 2, 3, 4, 5, 6, 7, 8, 9], [0, 9])])
def stolonlaw17_SwtchStays.B34 : List Nat := [0, 1, 3, 7, 3, 31, 63, 3, 255, 511, 1023]
theorem stolonlaw17_SwtchStays.tab34 : rtab .any (opsOf Try.f4 34) = stolonlaw17_SwtchStays.T34 := by kernel_rfl
theorem stolonlaw17_SwtchStays.bits34 : waitsOk stolonlaw17_SwtchStays.T34.2 stolonlaw17_SwtchStays.B34 = true := by kernel_rfl
set_option maxHeartbeats 8000000 in
set_option maxRecDepth 100000 in
theorem stolonlaw17_SwtchStays.calls (k : Nat) (a0_0 : Int) (A0_1 : Option Addr) (c0_1 : Nat) (l0_1 : List (S29)) (A1 : Option Addr) (c1 : Nat) (l1 : List (S32)) (r : Bool) (w : World) (hr0_1 : Kd.C k29 w A0_1 l0_1.length l0_1) (hc0_1 : l0_1.length ≤ c0_1) (hr1 : Kd.C k32 w A1 l1.length l1) (hc1 : l1.length ≤ c1) (hTrue : Aside0 (r = true)) (h : stolonlaw17_SwtchStays.f k a0_0 l0_1 l1 = some r) :
  Calls Try.prog 4 #[.agg #[.int .i64 a0_0, .slice A0_1 l0_1.length c0_1], .slice A1 l1.length c1] w fun e w' => e = .returned (.bool r) ∧ Below w.heap.size w w' := by
 have hu24 := Try.underlying24
 have hu32 := Try.underlying32
 have hu29 := Try.underlying29
 have HR0_1 := m_ hr0_1
 have HC0_1 := m_ hc0_1
 clear hr0_1 hc0_1
 have HR1 := m_ hr1
 have HC1 := m_ hc1
 clear hr1 hc1
 have HB := m_ (Below.refl w.heap.size w)
 have H : ((stolonlaw17_shown.f k).bind fun t325 => ((stolonref15_Few.f k l0_1).bind fun t326 => (if t326 = true then ((stolonref17_Right.f k a0_0 l0_1).bind fun t327 => (if t327 = true then ((stolonlaw17_few.f k l1).bind fun t328 => (stolonlaw17_SwtchStays.j0 k l1 t325 (!t328) a0_0 l0_1)) else (stolonlaw17_SwtchStays.j0 k l1 t325 true a0_0 l0_1))) else (stolonlaw17_SwtchStays.j0 k l1 t325 true a0_0 l0_1)))) = some r := h
 clear h
 replace H := Option.bind_eq_some_iff.mp H
 obtain ⟨t325, A30, H⟩ := H
 replace H : ((stolonref15_Few.f k l0_1).bind fun t326 => (if t326 = true then ((stolonref17_Right.f k a0_0 l0_1).bind fun t327 => (if t327 = true then ((stolonlaw17_few.f k l1).bind fun t328 => (stolonlaw17_SwtchStays.j0 k l1 t325 (!t328) a0_0 l0_1)) else (stolonlaw17_SwtchStays.j0 k l1 t325 true a0_0 l0_1))) else (stolonlaw17_SwtchStays.j0 k l1 t325 true a0_0 l0_1))) = some r := H
 have A3 := m_ A30
 clear A30
 have HC4 := m_ H
 clear H
 go_enter Try.func4, Try.ntmps4
 go_upto_region 2 with (first | ((with_reducible refine gate_dst (N := 2) rfl ?_); refine bx_ 2 24 #[.int .i64 a0_0, .slice A0_1 l0_1.length c0_1] ?_; intro gb324 hg w5 hbox hb; have BK324 := m_ (hbox); have GW324 := m_ ((gw_ : w.heap.size ≤ gb324)); have GE324 := m_ ((gw_ : w.heap.size ≤ gb324)); replace HB := m_ (below_step bz_ hb); clear hb hbox hg) | ((with_reducible refine gate_callee (f := 9) rfl ?_); refine gL_ (some 20) Try.func9 #[] ?_; (with_reducible refine (stolonlaw17_shown.calls k  t325 _ A3.out).mono ?_); rintro e w6 ⟨rfl, hb⟩; refine ⟨_, rfl, ?_⟩; replace BK324 := m_ (kl_ gb324 hb); replace HB := m_ (below_step bz_ hb); (try clear hb); (try clear hb2); (try clear hk); (try clear hi)))
 (try simp only [Act.put, List.setIfInBounds_toArray, List.set_cons_zero, List.set_cons_succ])
 go_cut [34] (fun v34 wc => ∃ (kq : Nat) (x34_3 : Bool), v34 = .bool x34_3 ∧ Aside0 (stolonlaw17_SwtchStays.j0 kq l1 t325 x34_3 a0_0 l0_1 = some r) ∧ Aside0 (kq ≤ k) ∧ Aside0 (wc.heap[gb324]? = some (.cells #[.int .i64 a0_0, (.slice A0_1 l0_1.length c0_1)] 24 (0, 0))) ∧ Aside0 (Below w.heap.size w wc))
 case first =>
  have H := HC4.out
  clear HC4
  replace H := Option.bind_eq_some_iff.mp H
  obtain ⟨t326, A70, H⟩ := H
  replace H : (if t326 = true then ((stolonref17_Right.f k a0_0 l0_1).bind fun t327 => (if t327 = true then ((stolonlaw17_few.f k l1).bind fun t328 => (stolonlaw17_SwtchStays.j0 k l1 t325 (!t328) a0_0 l0_1)) else (stolonlaw17_SwtchStays.j0 k l1 t325 true a0_0 l0_1))) else (stolonlaw17_SwtchStays.j0 k l1 t325 true a0_0 l0_1)) = some r := H
  have A7 := m_ A70
  clear A70
  by_cases c8 : t326 = true
  ·subst c8
   have H1 : ((stolonref17_Right.f k a0_0 l0_1).bind fun t327 => (if t327 = true then ((stolonlaw17_few.f k l1).bind fun t328 => (stolonlaw17_SwtchStays.j0 k l1 t325 (!t328) a0_0 l0_1)) else (stolonlaw17_SwtchStays.j0 k l1 t325 true a0_0 l0_1))) = some r := by rw [if_pos rfl] at H; exact H
   clear H
   have H := H1
   clear H1
   replace H := Option.bind_eq_some_iff.mp H
   obtain ⟨t327, A90, H⟩ := H
   replace H : (if t327 = true then ((stolonlaw17_few.f k l1).bind fun t328 => (stolonlaw17_SwtchStays.j0 k l1 t325 (!t328) a0_0 l0_1)) else (stolonlaw17_SwtchStays.j0 k l1 t325 true a0_0 l0_1)) = some r := H
   have A9 := m_ A90
   clear A90
   by_cases c10 : t327 = true
   ·subst c10
    have H1 : ((stolonlaw17_few.f k l1).bind fun t328 => (stolonlaw17_SwtchStays.j0 k l1 t325 (!t328) a0_0 l0_1)) = some r := by rw [if_pos rfl] at H; exact H
    clear H
    have H := H1
    clear H1
    replace H := Option.bind_eq_some_iff.mp H
    obtain ⟨t328, A110, H⟩ := H
    replace H : (stolonlaw17_SwtchStays.j0 k l1 t325 (!t328) a0_0 l0_1) = some r := H
    have A11 := m_ A110
    clear A110
    have H' := m_ H
    clear H
    have hcz12 := cz2_ BK324.out
    go_wp2_with (first | ((with_reducible refine gate_callee (f := 10) rfl ?_); refine gL_ (some 23) Try.func10 #[.slice A0_1 l0_1.length c0_1] ?_; (with_reducible refine (stolonref15_Few.calls k _ _ l0_1 true _ ?side1 ?side2 A7.out).mono ?_); (case side1 => exact Cd_ (Kd.C_below HR0_1.out HB.out)); (case side2 => exact HC0_1.out); rintro e w' ⟨rfl, ⟨nd, rfl⟩⟩; refine ⟨_, rfl, ?_⟩) | (go_at_call 11; (with_reducible refine (stolonref17_Right.calls k a0_0 _ _ l0_1 true _ ?side1 ?side2 A9.out).mono ?_); (case side1 => exact Cd_ (Kd.C_below HR0_1.out bz_)); (case side2 => exact HC0_1.out); rintro e w13 ⟨rfl, hb⟩; replace BK324 := m_ (kl_ gb324 hb); replace HB := m_ (below_step bz_ hb); (try clear hb); (try clear hb2); (try clear hk); (try clear hi)) | (go_at_call 12; (with_reducible refine (stolonlaw17_few.calls k _ _ l1 t328 _ ?side1 ?side2 A11.out).mono ?_); (case side1 => exact Cd_ (Kd.C_below HR1.out HB.out)); (case side2 => exact HC1.out); rintro e w' ⟨rfl, ⟨nd, rfl⟩⟩))
    go_meet
    case rel => exact ⟨_, (!t328), (by first | rfl | (simp; done) | (simp [*]; done)), H', ⟨by first | omega | exact Nat.le_refl _⟩, ⟨kz_⟩, ⟨bz_⟩⟩
   ·replace c10 := Bool.eq_false_iff.mpr c10
    subst c10
    have H1 : (stolonlaw17_SwtchStays.j0 k l1 t325 true a0_0 l0_1) = some r := by rw [if_neg (show ¬ (false = true) by decide)] at H; exact H
    clear H
    have H := H1
    clear H1
    have H' := m_ H
    clear H
    have hcz14 := cz2_ BK324.out
    go_wp2_with (first | ((with_reducible refine gate_callee (f := 10) rfl ?_); refine gL_ (some 23) Try.func10 #[.slice A0_1 l0_1.length c0_1] ?_; (with_reducible refine (stolonref15_Few.calls k _ _ l0_1 true _ ?side1 ?side2 A7.out).mono ?_); (case side1 => exact Cd_ (Kd.C_below HR0_1.out HB.out)); (case side2 => exact HC0_1.out); rintro e w' ⟨rfl, ⟨nd, rfl⟩⟩; refine ⟨_, rfl, ?_⟩) | (go_at_call 11; (with_reducible refine (stolonref17_Right.calls k a0_0 _ _ l0_1 false _ ?side1 ?side2 A9.out).mono ?_); (case side1 => exact Cd_ (Kd.C_below HR0_1.out bz_)); (case side2 => exact HC0_1.out); rintro e w15 ⟨rfl, hb⟩; replace BK324 := m_ (kl_ gb324 hb); replace HB := m_ (below_step bz_ hb); (try clear hb); (try clear hb2); (try clear hk); (try clear hi)))
    go_meet
    case rel => exact ⟨_, (true), (by first | rfl | (simp; done) | (simp [*]; done)), H', ⟨by first | omega | exact Nat.le_refl _⟩, ⟨kz_⟩, ⟨bz_⟩⟩
  ·replace c8 := Bool.eq_false_iff.mpr c8
   subst c8
   have H1 : (stolonlaw17_SwtchStays.j0 k l1 t325 true a0_0 l0_1) = some r := by rw [if_neg (show ¬ (false = true) by decide)] at H; exact H
   clear H
   have H := H1
   clear H1
   have H' := m_ H
   clear H
   have hcz16 := cz2_ BK324.out
   go_wp2_with (first | ((with_reducible refine gate_callee (f := 10) rfl ?_); refine gL_ (some 23) Try.func10 #[.slice A0_1 l0_1.length c0_1] ?_; (with_reducible refine (stolonref15_Few.calls k _ _ l0_1 false _ ?side1 ?side2 A7.out).mono ?_); (case side1 => exact Cd_ (Kd.C_below HR0_1.out HB.out)); (case side2 => exact HC0_1.out); rintro e w' ⟨rfl, ⟨nd, rfl⟩⟩; refine ⟨_, rfl, ?_⟩))
   go_meet
   case rel => exact ⟨_, (true), (by first | rfl | (simp; done) | (simp [*]; done)), H', ⟨by first | omega | exact Nat.le_refl _⟩, ⟨kz_⟩, ⟨bz_⟩⟩
 case rest =>
  clear HC4
  try clear c1
  try clear p2
  try clear c4
  try clear c8
  try clear c9
  try clear c10
  (try clear hcz12)
  (try clear hcz14)
  (try clear hcz16)
  obtain ⟨kq, x34_3, rfl, HA, HJ3, BK324, HB⟩ := hcut
  cases kq with
  | zero => exact absurd HA.out (by simp [stolonlaw17_SwtchStays.j0])
  | succ kj3 =>
   have H := HA.out
   clear HA
   simp only [stolonlaw17_SwtchStays.j0] at H
   by_cases c17 : x34_3 = true
   ·subst c17
    have H1 : (some t325) = some r := by rw [if_pos rfl] at H; exact H
    clear H
    have H := H1
    clear H1
    obtain rfl := Option.some.inj H
    go_wp2
    go_ret
    exact ⟨ew_, bz_⟩
   ·replace c17 := Bool.eq_false_iff.mpr c17
    subst c17
    have H1 : ((swtch_All.f kj3 a0_0 l0_1 l1).bind fun bt329 => ((stolonref17_Right.f kj3 bt329.1 bt329.2.1).bind fun t340 => (if t340 = true then (stolonlaw17_SwtchStays.l0 kj3 l1 t325 bt329.2.2.1 0 false 0 a0_0 l0_1 bt329.1 bt329.2.1) else (some false)))) = some r := by rw [if_neg (show ¬ (false = true) by decide)] at H; exact H
    clear H
    have H := H1
    clear H1
    replace H := Option.bind_eq_some_iff.mp H
    obtain ⟨⟨t329, t330, t333, t336⟩, A180, H⟩ := H
    replace H : ((stolonref17_Right.f kj3 t329 t330).bind fun t340 => (if t340 = true then (stolonlaw17_SwtchStays.l0 kj3 l1 t325 t333 0 false 0 a0_0 l0_1 t329 t330) else (some false))) = some r := H
    have A18 := m_ A180
    clear A180
    replace H := Option.bind_eq_some_iff.mp H
    obtain ⟨t340, A190, H⟩ := H
    replace H : (if t340 = true then (stolonlaw17_SwtchStays.l0 kj3 l1 t325 t333 0 false 0 a0_0 l0_1 t329 t330) else (some false)) = some r := H
    have A19 := m_ A190
    clear A190
    by_cases c20 : t340 = true
    ·subst c20
     have H1 : (stolonlaw17_SwtchStays.l0 kj3 l1 t325 t333 0 false 0 a0_0 l0_1 t329 t330) = some r := by rw [if_pos rfl] at H; exact H
     clear H
     have H := H1
     clear H1
     have H' := m_ H
     clear H
     have hcz21 := cz2_ BK324.out
     go_wp2_with (first | ((with_reducible refine gate_callee (f := 15) rfl ?_); refine gL_ (some 39) Try.func15 #[.agg #[.int .i64 a0_0, .slice A0_1 l0_1.length c0_1], .slice A1 l1.length c1] ?_; (with_reducible refine (swtch_All.calls kj3 a0_0 (fun k_ => k_ < w.heap.size) _ _ l0_1 (fun k_ => k_ < w.heap.size) _ _ l1 t329 t330 t333 t336 _ ?side1 ?side2 A18.out).mono ?_); (case side1 => exact Kd.V_mk HC0_1.out (Kd.F_below (Kd.C_F k29_heap HR0_1.out) bz_)); (case side2 => exact Kd.V_mk HC1.out (Kd.F_below (Kd.C_F k32_heap HR1.out) bz_)); rintro e w22 ⟨v331, v334, v337, rfl, ho0, ho1, ho2, hb⟩; refine ⟨_, rfl, ?_⟩; have HO332 := m_ (Kd.V_lower (Kd.V_mono (ok' := fun k_ => k_ ≠ gb324) ho0 (fun k_ hk_ => Or.elim hk_ (fun hs_ => Or.elim hs_ (fun hs_ => fun e_ => Nat.not_le.2 hs_ (by rw [e_]; exact GW324.out)) (fun hs_ => fun e_ => Nat.not_le.2 hs_ (by rw [e_]; exact GW324.out))) (fun hn_ => (Kd.freshB (g := gb324) (o := .cells #[.int .i64 a0_0, .slice A0_1 l0_1.length c0_1] 24 (0, 0)) kz_ k_ hn_)))) (below_size bz_)); have HO335 := m_ (Kd.V_lower (Kd.V_mono (ok' := fun k_ => k_ ≠ gb324) ho1 (fun k_ hk_ => Or.elim hk_ (fun hs_ => Or.elim hs_ (fun hs_ => fun e_ => Nat.not_le.2 hs_ (by rw [e_]; exact GW324.out)) (fun hs_ => fun e_ => Nat.not_le.2 hs_ (by rw [e_]; exact GW324.out))) (fun hn_ => (Kd.freshB (g := gb324) (o := .cells #[.int .i64 a0_0, .slice A0_1 l0_1.length c0_1] 24 (0, 0)) kz_ k_ hn_)))) (below_size bz_)); have HO338 := m_ (Kd.V_lower (Kd.V_mono (ok' := fun k_ => k_ ≠ gb324) ho2 (fun k_ hk_ => Or.elim hk_ (fun hs_ => Or.elim hs_ (fun hs_ => fun e_ => Nat.not_le.2 hs_ (by rw [e_]; exact GW324.out)) (fun hs_ => fun e_ => Nat.not_le.2 hs_ (by rw [e_]; exact GW324.out))) (fun hn_ => (Kd.freshB (g := gb324) (o := .cells #[.int .i64 a0_0, .slice A0_1 l0_1.length c0_1] 24 (0, 0)) kz_ k_ hn_)))) (below_size bz_)); replace BK324 := m_ (kl_ gb324 hb); replace HB := m_ (below_step bz_ hb); (try clear hb); (try clear hb2); (try clear hk); (try clear hi); (try clear ho0); (try clear ho1); (try clear ho2)) | ((with_reducible refine gate_dst (N := 6) rfl ?_); refine bx_ 6 24 #[.int .i64 0, .slice none 0 0] ?_; intro gb339 hg w23 hbox hb; have BK339 := m_ (hbox); have GW339 := m_ ((gw_ : w.heap.size ≤ gb339)); have GE339 := m_ ((gw_ : w.heap.size ≤ gb339)); have NB324_339 := m_ ((gl_ : gb324 ≠ gb339)); have NB339_324 := m_ ((gr_ : gb339 ≠ gb324)); replace HO332 := m_ (Kd.V_below (Kd.V_elderB (Vz_ HO332.out) gb339 (Nat.le_of_eq hg.symm)) hb); replace HO335 := m_ (Kd.V_below (Kd.V_elderB (Vz_ HO335.out) gb339 (Nat.le_of_eq hg.symm)) hb); replace HO338 := m_ (Kd.V_below (Kd.V_elderB (Vz_ HO338.out) gb339 (Nat.le_of_eq hg.symm)) hb); replace BK324 := m_ (kl_ gb324 hb); replace HB := m_ (below_step bz_ hb); clear hb hbox hg; have hnb24 := NB339_324.out; have hnc24 := NB324_339.out; have hcz25 := cz2_ BK339.out; obtain ⟨Ao26, co26, eo26⟩ := Kd.V_slice HO332.out; subst eo26) | ((with_reducible refine gate_callee (f := 11) rfl ?_); refine gL_ (some 44) Try.func11 #[.agg #[.int .i64 t329, .slice Ao26 t330.length co26]] ?_; (with_reducible refine (stolonref17_Right.calls kj3 t329 _ _ t330 true _ ?side1 ?side2 A19.out).mono ?_); (case side1 => refine (Kd.V_reads' (e := 29) (base := w.heap.size) (ok := fun k_ => (k_ ≠ gb324 ∧ k_ ≠ gb339)) (n := t330.length) (c := co26) ?_).2.2; exact ((Kd.V_mono (Vf_ (Kd.V_mono HO332.out (fun k_ hk => (⟨hk, hk.2⟩ : _ ∧ k_ ≠ gb339)))) (fun _ h_ => h_.1)))); (case side2 => exact (Kd.V_reads' HO332.out).2.1); rintro e w27 ⟨rfl, hb⟩; refine ⟨_, rfl, ?_⟩; replace HO332 := m_ (Kd.V_below ((Kd.V_mono (Vf_ (Kd.V_mono HO332.out (fun k_ hk => (⟨hk, hk.2⟩ : _ ∧ k_ ≠ gb339)))) (fun _ h_ => h_.1))) hb); replace HO335 := m_ (Kd.V_below ((Kd.V_mono (Vf_ (Kd.V_mono HO335.out (fun k_ hk => (⟨hk, hk.2⟩ : _ ∧ k_ ≠ gb339)))) (fun _ h_ => h_.1))) hb); replace HO338 := m_ (Kd.V_below ((Kd.V_mono (Vf_ (Kd.V_mono HO338.out (fun k_ hk => (⟨hk, hk.2⟩ : _ ∧ k_ ≠ gb339)))) (fun _ h_ => h_.1))) hb); replace BK324 := m_ (blk_below (g := gb324) (o := .cells #[.int .i64 a0_0, .slice A0_1 l0_1.length c0_1] 24 (0, 0)) kb_ hb); replace BK339 := m_ (blk_below (g := gb339) (o := .cells #[.int .i64 t329, .slice Ao26 t330.length co26] 24 (0, 0)) kb_ hb); replace HB := m_ (below_step bz_ hb); (try clear hb); (try clear hb2); (try clear hk); (try clear hi)))
     go_loopg [9, 10, 11] kj3 (fun kq v9 v10 v11 w' => ∃ (x9_2 : Int) (x10_2 : Bool) (x11_2 : Int), v9 = .int .i64 x9_2 ∧ v10 = .bool x10_2 ∧ v11 = .int .i64 x11_2 ∧ Aside0 (stolonlaw17_SwtchStays.l0 kq l1 t325 t333 x9_2 x10_2 x11_2 a0_0 l0_1 t329 t330 = some r) ∧ Aside0 (kq ≤ kj3) ∧ Aside0 (Kd.V k32 32 w' w.heap.size (fun k_ => k_ ≠ gb324 ∧ k_ ≠ gb339) v334 t333) ∧ Aside0 (Kd.V k29 29 w' w.heap.size (fun k_ => k_ ≠ gb324 ∧ k_ ≠ gb339) (.slice Ao26 t330.length co26) t330) ∧ Aside0 (w'.heap[gb324]? = some (.cells #[.int .i64 a0_0, (.slice A0_1 l0_1.length c0_1)] 24 (0, 0))) ∧ Aside0 (w'.heap[gb339]? = some (.cells #[.int .i64 t329, (.slice Ao26 t330.length co26)] 24 (0, 0))) ∧ Aside0 (Below w.heap.size w w'))
     case atStart => exact ⟨(0), (false), (0), (by first | rfl | (simp; done) | (simp [*]; done)), (by first | rfl | (simp; done) | (simp [*]; done)), (by first | rfl | (simp; done) | (simp [*]; done)), H', ⟨Nat.le_refl _⟩, ⟨Vz_ HO335.out⟩, ⟨Vz_ HO332.out⟩, ⟨kz_⟩, ⟨kz_⟩, ⟨bz_⟩⟩
     case round =>
      clear H'
      try clear c1
      try clear c2
      try clear p2
      try clear c4
      try clear c8
      try clear c9
      try clear c10
      try clear c11
      try clear c15
      try clear c17
      try clear c20
      try clear c24
      (try clear hcz12)
      (try clear hcz14)
      (try clear hcz16)
      (try clear hcz21)
      (try clear hcz25)
      try clear p2
      obtain ⟨x9_2, x10_2, x11_2, rfl, rfl, rfl, HA, HK2, HO_7, HO_340001, BK324, BK339, HB⟩ := hrel
      cases gk with
      | zero => exact absurd HA.out (by simp [stolonlaw17_SwtchStays.l0])
      | succ k2 =>
       have H := HA.out
       clear HA
       simp only [stolonlaw17_SwtchStays.l0] at H
       by_cases c28 : x11_2 < (l1.length : Int)
       ·rw [if_pos c28] at H
        have c28b0 : decide (x11_2 < (l1.length : Int)) = true := decide_eq_true c28
        clear c28
        by_cases c29 : 0 ≤ x11_2
        ·rw [if_pos c29] at H
         have c29b0 : decide (0 ≤ x11_2) = true := decide_eq_true c29
         clear c29
         replace H := Option.bind_eq_some_iff.mp H
         obtain ⟨t342, A300, H⟩ := H
         replace H : (if x10_2 = true then (stolonlaw17_SwtchStays.j2 k2 l1 t325 t333 x9_2 true x11_2 t342 a0_0 l0_1 t329 t330) else (if t342 = true then (stolonlaw17_SwtchStays.j2 k2 l1 t325 t333 x9_2 (((rd_T32 l1 x11_2).f0) == 6) x11_2 t342 a0_0 l0_1 t329 t330) else (stolonlaw17_SwtchStays.j2 k2 l1 t325 t333 x9_2 false x11_2 t342 a0_0 l0_1 t329 t330))) = some r := H
         have A30 := m_ A300
         clear A300
         have HC31 := m_ H
         clear H
         have p341 : 0 ≤ (x11_2 : Int) := od_
         have q341 : x11_2 < (l1.length : Int) := od_
         obtain ⟨ad341, A341_7, c341_7, A341_10, c341_10, e341, hx341_0, hx341_1, hx341_2, hx341_3, hx341_4, hx341_5, hx341_6, hx341_7, hx341_8, hx341_9, hx341_10, hl341_7, hi341_7, hl341_10, hi341_10⟩ := at_T32 HR1.out x11_2 p341 q341
         cases e341
         replace hx341_0 := kp_ HB.out hx341_0
         replace hx341_1 := kp_ HB.out hx341_1
         replace hx341_2 := kp_ HB.out hx341_2
         replace hx341_3 := kp_ HB.out hx341_3
         replace hx341_4 := kp_ HB.out hx341_4
         replace hx341_5 := kp_ HB.out hx341_5
         replace hx341_6 := kp_ HB.out hx341_6
         replace hx341_7 := kp_ HB.out hx341_7
         replace hx341_8 := kp_ HB.out hx341_8
         replace hx341_9 := kp_ HB.out hx341_9
         replace hx341_10 := kp_ HB.out hx341_10
         have HR341_7 := m_ hi341_7
         have HC341_7 := m_ hl341_7
         clear hi341_7 hl341_7
         have HR341_10 := m_ hi341_10
         have HC341_10 := m_ hl341_10
         clear hi341_10 hl341_10
         replace p341 := eq_true p341
         replace q341 := eq_true q341
         go_upto_region 13 with (first | ((with_reducible refine gate_callee (f := 19) rfl ?_); refine gL_ (some 56) Try.func19 #[.agg #[.int .u8 ((rd_T32 l1 x11_2).f0), .int .u32 ((rd_T32 l1 x11_2).f1), .int .u32 ((rd_T32 l1 x11_2).f2.f0), .int .u32 ((rd_T32 l1 x11_2).f2.f1), .int .u32 ((rd_T32 l1 x11_2).f2.f2), .int .i64 ((rd_T32 l1 x11_2).f2.f3), .int .u32 ((rd_T32 l1 x11_2).f2.f4), .slice A341_7 ((rd_T32 l1 x11_2).f2.f5).length c341_7, .int .i64 ((rd_T32 l1 x11_2).f3), .bool ((rd_T32 l1 x11_2).f4), .slice A341_10 ((rd_T32 l1 x11_2).f5).length c341_10]] ?_; (with_reducible refine (stolonref16_Right.calls k2 ((rd_T32 l1 x11_2).f0) ((rd_T32 l1 x11_2).f1) ((rd_T32 l1 x11_2).f2.f0) ((rd_T32 l1 x11_2).f2.f1) ((rd_T32 l1 x11_2).f2.f2) ((rd_T32 l1 x11_2).f2.f3) ((rd_T32 l1 x11_2).f2.f4) _ _ ((rd_T32 l1 x11_2).f2.f5) ((rd_T32 l1 x11_2).f3) ((rd_T32 l1 x11_2).f4) _ _ ((rd_T32 l1 x11_2).f5) t342 _ ?side1 ?side2 ?side3 ?side4 A30.out).mono ?_); (case side1 => exact Cd_ (Kd.C_below HR341_7.out HB.out)); (case side2 => exact HC341_7.out); (case side3 => exact Cd_ (Kd.C_below HR341_10.out HB.out)); (case side4 => exact HC341_10.out); rintro e w32 ⟨rfl, hb⟩; refine ⟨_, rfl, ?_⟩; replace HO_7 := m_ (Kd.V_below (Vz_ HO_7.out) hb); replace HO_340001 := m_ (Kd.V_below (Vz_ HO_340001.out) hb); replace BK324 := m_ (kl_ gb324 hb); replace BK339 := m_ (kl_ gb339 hb); replace HB := m_ (below_step bz_ hb); (try clear hb); (try clear hb2); (try clear hk); (try clear hi)))
         (try simp only [Act.put, List.setIfInBounds_toArray, List.set_cons_zero, List.set_cons_succ])
         go_cut [10] (fun v10 wc => ∃ (kq : Nat) (x10_30 : Bool), v10 = .bool x10_30 ∧ Aside0 (stolonlaw17_SwtchStays.j2 kq l1 t325 t333 x9_2 x10_30 x11_2 t342 a0_0 l0_1 t329 t330 = some r) ∧ Aside0 (kq ≤ k2) ∧ Aside0 (Kd.V k32 32 wc w.heap.size (fun k_ => k_ ≠ gb324 ∧ k_ ≠ gb339) v334 t333) ∧ Aside0 (Kd.V k29 29 wc w.heap.size (fun k_ => k_ ≠ gb324 ∧ k_ ≠ gb339) (.slice Ao26 t330.length co26) t330) ∧ Aside0 (wc.heap[gb324]? = some (.cells #[.int .i64 a0_0, (.slice A0_1 l0_1.length c0_1)] 24 (0, 0))) ∧ Aside0 (wc.heap[gb339]? = some (.cells #[.int .i64 t329, (.slice Ao26 t330.length co26)] 24 (0, 0))) ∧ Aside0 (Below w.heap.size w wc))
         case first =>
          have H := HC31.out
          clear HC31
          by_cases c33 : x10_2 = true
          ·subst c33
           have H1 : (stolonlaw17_SwtchStays.j2 k2 l1 t325 t333 x9_2 true x11_2 t342 a0_0 l0_1 t329 t330) = some r := by rw [if_pos rfl] at H; exact H
           clear H
           have H := H1
           clear H1
           have H' := m_ H
           clear H
           go_wp2
           go_meet
           case rel => exact ⟨_, (true), (by first | rfl | (simp; done) | (simp [*]; done)), H', ⟨by have := HJ3.out; have := HK2.out; first | omega | exact Nat.le_refl _⟩, ⟨Vz_ HO_7.out⟩, ⟨Vz_ HO_340001.out⟩, ⟨kz_⟩, ⟨kz_⟩, ⟨bz_⟩⟩
          ·replace c33 := Bool.eq_false_iff.mpr c33
           subst c33
           have H1 : (if t342 = true then (stolonlaw17_SwtchStays.j2 k2 l1 t325 t333 x9_2 (((rd_T32 l1 x11_2).f0) == 6) x11_2 t342 a0_0 l0_1 t329 t330) else (stolonlaw17_SwtchStays.j2 k2 l1 t325 t333 x9_2 false x11_2 t342 a0_0 l0_1 t329 t330)) = some r := by rw [if_neg (show ¬ (false = true) by decide)] at H; exact H
           clear H
           have H := H1
           clear H1
           by_cases c34 : t342 = true
           ·subst c34
            have H1 : (stolonlaw17_SwtchStays.j2 k2 l1 t325 t333 x9_2 (((rd_T32 l1 x11_2).f0) == 6) x11_2 true a0_0 l0_1 t329 t330) = some r := by rw [if_pos rfl] at H; exact H
            clear H
            have H := H1
            clear H1
            have H' := m_ H
            clear H
            have p343 : 0 ≤ (x11_2 : Int) := od_
            have q343 : x11_2 < (l1.length : Int) := od_
            obtain ⟨ad343, A343_7, c343_7, A343_10, c343_10, e343, hx343_0, hx343_1, hx343_2, hx343_3, hx343_4, hx343_5, hx343_6, hx343_7, hx343_8, hx343_9, hx343_10, hl343_7, hi343_7, hl343_10, hi343_10⟩ := at_T32 HR1.out x11_2 p343 q343
            obtain rfl : ad341 = ad343 := (by injection e343)
            replace hx343_0 := kp_ HB.out hx343_0
            replace hx343_1 := kp_ HB.out hx343_1
            replace hx343_2 := kp_ HB.out hx343_2
            replace hx343_3 := kp_ HB.out hx343_3
            replace hx343_4 := kp_ HB.out hx343_4
            replace hx343_5 := kp_ HB.out hx343_5
            replace hx343_6 := kp_ HB.out hx343_6
            replace hx343_7 := kp_ HB.out hx343_7
            replace hx343_8 := kp_ HB.out hx343_8
            replace hx343_9 := kp_ HB.out hx343_9
            replace hx343_10 := kp_ HB.out hx343_10
            have HR343_7 := m_ hi343_7
            have HC343_7 := m_ hl343_7
            clear hi343_7 hl343_7
            have HR343_10 := m_ hi343_10
            have HC343_10 := m_ hl343_10
            clear hi343_10 hl343_10
            replace p343 := eq_true p343
            replace q343 := eq_true q343
            go_wp2
            go_meet
            case rel => exact ⟨_, ((((rd_T32 l1 x11_2).f0) == 6)), (by first | rfl | (simp; done) | (simp [*]; done)), H', ⟨by have := HJ3.out; have := HK2.out; first | omega | exact Nat.le_refl _⟩, ⟨Vz_ HO_7.out⟩, ⟨Vz_ HO_340001.out⟩, ⟨kz_⟩, ⟨kz_⟩, ⟨bz_⟩⟩
           ·replace c34 := Bool.eq_false_iff.mpr c34
            subst c34
            have H1 : (stolonlaw17_SwtchStays.j2 k2 l1 t325 t333 x9_2 false x11_2 false a0_0 l0_1 t329 t330) = some r := by rw [if_neg (show ¬ (false = true) by decide)] at H; exact H
            clear H
            have H := H1
            clear H1
            have H' := m_ H
            clear H
            go_wp2
            go_meet
            case rel => exact ⟨_, (false), (by first | rfl | (simp; done) | (simp [*]; done)), H', ⟨by have := HJ3.out; have := HK2.out; first | omega | exact Nat.le_refl _⟩, ⟨Vz_ HO_7.out⟩, ⟨Vz_ HO_340001.out⟩, ⟨kz_⟩, ⟨kz_⟩, ⟨bz_⟩⟩
         case rest =>
          clear HC31
          try clear c1
          try clear c2
          try clear p2
          try clear c3
          try clear p3
          try clear q3
          try clear hx3
          try clear c4
          try clear c8
          try clear c9
          try clear c10
          try clear c11
          try clear c15
          try clear c17
          try clear c19
          try clear c20
          try clear c24
          try clear c28
          try clear c28b0
          try clear c29
          try clear c29b0
          try clear c33
          try clear c34
          try clear p34
          try clear q34
          try clear hx34
          (try clear hcz12)
          (try clear hcz14)
          (try clear hcz16)
          (try clear hcz21)
          (try clear hcz25)
          try clear hx341_0
          try clear hx341_1
          try clear hx341_10
          try clear hx341_2
          try clear hx341_3
          try clear hx341_4
          try clear hx341_5
          try clear hx341_6
          try clear hx341_7
          try clear hx341_8
          try clear hx341_9
          try clear hx343_0
          try clear hx343_1
          try clear hx343_10
          try clear hx343_2
          try clear hx343_3
          try clear hx343_4
          try clear hx343_5
          try clear hx343_6
          try clear hx343_7
          try clear hx343_8
          try clear hx343_9
          try clear p2
          try clear p341
          try clear p343
          try clear q341
          try clear q343
          obtain ⟨kq, x10_30, rfl, HA, HJ30, HO_7, HO_340001, BK324, BK339, HB⟩ := hcut
          cases kq with
          | zero => exact absurd HA.out (by simp [stolonlaw17_SwtchStays.j2])
          | succ kj30 =>
           have H := HA.out
           clear HA
           simp only [stolonlaw17_SwtchStays.j2] at H
           have HC35 := m_ H
           clear H
           go_upto_region 14 with (fail)
           go_cut [78] (fun v78 wc => ∃ (kq : Nat) (x78_34 : Bool), v78 = .bool x78_34 ∧ Aside0 (stolonlaw17_SwtchStays.j3 kq l1 t325 t333 x9_2 x10_30 x11_2 x78_34 a0_0 l0_1 t329 t330 = some r) ∧ Aside0 (kq ≤ kj30) ∧ Aside0 (Kd.V k32 32 wc w.heap.size (fun k_ => k_ ≠ gb324 ∧ k_ ≠ gb339) v334 t333) ∧ Aside0 (Kd.V k29 29 wc w.heap.size (fun k_ => k_ ≠ gb324 ∧ k_ ≠ gb339) (.slice Ao26 t330.length co26) t330) ∧ Aside0 (wc.heap[gb324]? = some (.cells #[.int .i64 a0_0, (.slice A0_1 l0_1.length c0_1)] 24 (0, 0))) ∧ Aside0 (wc.heap[gb339]? = some (.cells #[.int .i64 t329, (.slice Ao26 t330.length co26)] 24 (0, 0))) ∧ Aside0 (Below w.heap.size w wc))
           case first =>
            have H := HC35.out
            clear HC35
            by_cases c36 : t342 = true
            ·subst c36
             have H1 : (if 0 ≤ x11_2 then (if x11_2 < (l1.length : Int) then (stolonlaw17_SwtchStays.j3 kj30 l1 t325 t333 x9_2 x10_30 x11_2 (((rd_T32 l1 x11_2).f0) != 3) a0_0 l0_1 t329 t330) else (none)) else (none)) = some r := by rw [if_pos rfl] at H; exact H
             clear H
             have H := H1
             clear H1
             by_cases c37 : 0 ≤ x11_2
             ·rw [if_pos c37] at H
              have c37b0 : decide (0 ≤ x11_2) = true := decide_eq_true c37
              clear c37
              (first | rw [c37b0] | (simp only [i64_w, i32_w]; rw [c37b0]) | skip)
              by_cases c38 : x11_2 < (l1.length : Int)
              ·rw [if_pos c38] at H
               have c38b0 : decide (x11_2 < (l1.length : Int)) = true := decide_eq_true c38
               clear c38
               have H' := m_ H
               clear H
               have p344 : 0 ≤ (x11_2 : Int) := od_
               have q344 : x11_2 < (l1.length : Int) := od_
               obtain ⟨ad344, A344_7, c344_7, A344_10, c344_10, e344, hx344_0, hx344_1, hx344_2, hx344_3, hx344_4, hx344_5, hx344_6, hx344_7, hx344_8, hx344_9, hx344_10, hl344_7, hi344_7, hl344_10, hi344_10⟩ := at_T32 HR1.out x11_2 p344 q344
               obtain rfl : ad341 = ad344 := (by injection e344)
               replace hx344_0 := kp_ HB.out hx344_0
               replace hx344_1 := kp_ HB.out hx344_1
               replace hx344_2 := kp_ HB.out hx344_2
               replace hx344_3 := kp_ HB.out hx344_3
               replace hx344_4 := kp_ HB.out hx344_4
               replace hx344_5 := kp_ HB.out hx344_5
               replace hx344_6 := kp_ HB.out hx344_6
               replace hx344_7 := kp_ HB.out hx344_7
               replace hx344_8 := kp_ HB.out hx344_8
               replace hx344_9 := kp_ HB.out hx344_9
               replace hx344_10 := kp_ HB.out hx344_10
               have HR344_7 := m_ hi344_7
               have HC344_7 := m_ hl344_7
               clear hi344_7 hl344_7
               have HR344_10 := m_ hi344_10
               have HC344_10 := m_ hl344_10
               clear hi344_10 hl344_10
               replace p344 := eq_true p344
               replace q344 := eq_true q344
               go_wp2
               go_meet
               case rel => exact ⟨_, ((((rd_T32 l1 x11_2).f0) != 3)), (by first | rfl | (simp; done) | (simp [*]; done)), H', ⟨by have := HJ3.out; have := HK2.out; have := HJ30.out; first | omega | exact Nat.le_refl _⟩, ⟨Vz_ HO_7.out⟩, ⟨Vz_ HO_340001.out⟩, ⟨kz_⟩, ⟨kz_⟩, ⟨bz_⟩⟩
              ·rw [if_neg c38] at H
               exact absurd H (by simp)
             ·rw [if_neg c37] at H
              exact absurd H (by simp)
            ·replace c36 := Bool.eq_false_iff.mpr c36
             subst c36
             have H1 : (stolonlaw17_SwtchStays.j3 kj30 l1 t325 t333 x9_2 x10_30 x11_2 true a0_0 l0_1 t329 t330) = some r := by rw [if_neg (show ¬ (false = true) by decide)] at H; exact H
             clear H
             have H := H1
             clear H1
             have H' := m_ H
             clear H
             go_wp2
             go_meet
             case rel => exact ⟨_, (true), (by first | rfl | (simp; done) | (simp [*]; done)), H', ⟨by have := HJ3.out; have := HK2.out; have := HJ30.out; first | omega | exact Nat.le_refl _⟩, ⟨Vz_ HO_7.out⟩, ⟨Vz_ HO_340001.out⟩, ⟨kz_⟩, ⟨kz_⟩, ⟨bz_⟩⟩
           case rest =>
            clear HC35
            try clear c1
            try clear c2
            try clear p2
            try clear c3
            try clear p3
            try clear q3
            try clear hx3
            try clear c4
            try clear c8
            try clear c9
            try clear c10
            try clear c11
            try clear c15
            try clear c17
            try clear c19
            try clear c20
            try clear c24
            try clear c28
            try clear c28b0
            try clear c29
            try clear c29b0
            try clear c33
            try clear c34
            try clear p34
            try clear q34
            try clear hx34
            try clear c36
            try clear c37
            try clear c37b0
            try clear c38
            try clear c38b0
            (try clear hcz12)
            (try clear hcz14)
            (try clear hcz16)
            (try clear hcz21)
            (try clear hcz25)
            try clear hx341_0
            try clear hx341_1
            try clear hx341_10
            try clear hx341_2
            try clear hx341_3
            try clear hx341_4
            try clear hx341_5
            try clear hx341_6
            try clear hx341_7
            try clear hx341_8
            try clear hx341_9
            try clear hx343_0
            try clear hx343_1
            try clear hx343_10
            try clear hx343_2
            try clear hx343_3
            try clear hx343_4
            try clear hx343_5
            try clear hx343_6
            try clear hx343_7
            try clear hx343_8
            try clear hx343_9
            try clear hx344_0
            try clear hx344_1
            try clear hx344_10
            try clear hx344_2
            try clear hx344_3
            try clear hx344_4
            try clear hx344_5
            try clear hx344_6
            try clear hx344_7
            try clear hx344_8
            try clear hx344_9
            try clear p2
            try clear p3
            try clear p34
            try clear p341
            try clear p343
            try clear p344
            try clear q3
            try clear q34
            try clear q341
            try clear q343
            try clear q344
            obtain ⟨kq, x78_34, rfl, HA, HJ34, HO_7, HO_340001, BK324, BK339, HB⟩ := hcut
            cases kq with
            | zero => exact absurd HA.out (by simp [stolonlaw17_SwtchStays.j3])
            | succ kj34 =>
             have H := HA.out
             clear HA
             simp only [stolonlaw17_SwtchStays.j3] at H
             by_cases c39 : x78_34 = true
             ·subst c39
              have H1 : (stolonlaw17_SwtchStays.l0 kj34 l1 t325 t333 x9_2 x10_30 (wrap64 (x11_2 + 1)) a0_0 l0_1 t329 t330) = some r := by rw [if_pos rfl] at H; exact H
              clear H
              have H := H1
              clear H1
              have H' := m_ H
              clear H
              go_wp2
              go_roundg kj34
              case measure => have := HJ3.out; have := HK2.out; have := HJ30.out; have := HJ34.out; omega
              case rel => exact ⟨(x9_2), (x10_30), (wrap64 (x11_2 + 1)), (by first | rfl | (simp; done) | (simp [*]; done)), (by first | rfl | (simp; done) | (simp [*]; done)), (by first | rfl | (simp; done) | (simp [*]; done)), H', ⟨by have := HJ3.out; have := HK2.out; have := HJ30.out; have := HJ34.out; omega⟩, ⟨Vz_ HO_7.out⟩, ⟨Vz_ HO_340001.out⟩, ⟨kz_⟩, ⟨kz_⟩, ⟨bz_⟩⟩
             ·replace c39 := Bool.eq_false_iff.mpr c39
              subst c39
              have H1 : (stolonlaw17_SwtchStays.l1 kj34 l1 t325 t333 x9_2 x10_30 x11_2 a0_0 l0_1 t329 t330) = some r := by rw [if_neg (show ¬ (false = true) by decide)] at H; exact H
              clear H
              have H := H1
              clear H1
              have H' := m_ H
              clear H
              go_wp2
              go_loopg [9] kj34 (fun kq v9 w' => ∃ (x9_5 : Int), v9 = .int .i64 x9_5 ∧ Aside0 (stolonlaw17_SwtchStays.l1 kq l1 t325 t333 x9_5 x10_30 x11_2 a0_0 l0_1 t329 t330 = some r) ∧ Aside0 (kq ≤ kj34) ∧ Aside0 (Kd.V k32 32 w' w.heap.size (fun k_ => k_ ≠ gb324 ∧ k_ ≠ gb339) v334 t333) ∧ Aside0 (Kd.V k29 29 w' w.heap.size (fun k_ => k_ ≠ gb324 ∧ k_ ≠ gb339) (.slice Ao26 t330.length co26) t330) ∧ Aside0 (w'.heap[gb324]? = some (.cells #[.int .i64 a0_0, (.slice A0_1 l0_1.length c0_1)] 24 (0, 0))) ∧ Aside0 (w'.heap[gb339]? = some (.cells #[.int .i64 t329, (.slice Ao26 t330.length co26)] 24 (0, 0))) ∧ Aside0 (Below w.heap.size w w'))
              case atStart => exact ⟨(x9_2), (by first | rfl | (simp; done) | (simp [*]; done)), H', ⟨Nat.le_refl _⟩, ⟨Vz_ HO_7.out⟩, ⟨Vz_ HO_340001.out⟩, ⟨kz_⟩, ⟨kz_⟩, ⟨bz_⟩⟩
              case round =>
               clear H'
               try clear c1
               try clear c2
               try clear p2
               try clear c3
               try clear p3
               try clear q3
               try clear hx3
               try clear c4
               try clear p6
               try clear c8
               try clear c9
               try clear c10
               try clear c11
               try clear c15
               try clear c17
               try clear c19
               try clear c20
               try clear c24
               try clear c28
               try clear c28b0
               try clear c29
               try clear c29b0
               try clear c33
               try clear c34
               try clear p34
               try clear q34
               try clear hx34
               try clear c36
               try clear c37
               try clear c37b0
               try clear c38
               try clear c38b0
               try clear c39
               (try clear hcz12)
               (try clear hcz14)
               (try clear hcz16)
               (try clear hcz21)
               (try clear hcz25)
               try clear hx341_0
               try clear hx341_1
               try clear hx341_10
               try clear hx341_2
               try clear hx341_3
               try clear hx341_4
               try clear hx341_5
               try clear hx341_6
               try clear hx341_7
               try clear hx341_8
               try clear hx341_9
               try clear hx343_0
               try clear hx343_1
               try clear hx343_10
               try clear hx343_2
               try clear hx343_3
               try clear hx343_4
               try clear hx343_5
               try clear hx343_6
               try clear hx343_7
               try clear hx343_8
               try clear hx343_9
               try clear hx344_0
               try clear hx344_1
               try clear hx344_10
               try clear hx344_2
               try clear hx344_3
               try clear hx344_4
               try clear hx344_5
               try clear hx344_6
               try clear hx344_7
               try clear hx344_8
               try clear hx344_9
               try clear p2
               try clear p3
               try clear p34
               try clear p341
               try clear p343
               try clear p344
               try clear q3
               try clear q34
               try clear q341
               try clear q343
               try clear q344
               obtain ⟨x9_5, rfl, HA, HK5, HO_7, HO_340001, BK324, BK339, HB⟩ := hrel
               cases gk with
               | zero => exact absurd HA.out (by simp [stolonlaw17_SwtchStays.l1])
               | succ k5 =>
                have H := HA.out
                clear HA
                simp only [stolonlaw17_SwtchStays.l1] at H
                by_cases c40 : x9_5 < (t333.length : Int)
                ·rw [if_pos c40] at H
                 have c40b0 : decide (x9_5 < (t333.length : Int)) = true := decide_eq_true c40
                 clear c40
                 by_cases c41 : 0 ≤ x9_5
                 ·rw [if_pos c41] at H
                  have c41b0 : decide (0 ≤ x9_5) = true := decide_eq_true c41
                  clear c41
                  by_cases c42 : ((rd_T32 t333 x9_5).f0) = 4
                  ·rw [if_pos c42] at H
                   have c42b0 : (((rd_T32 t333 x9_5).f0) == 4) = true := beq_iff_eq.mpr c42
                   have c42b1 : (((rd_T32 t333 x9_5).f0) != 4) = false := bne_eq_false_iff_eq.mpr c42
                   clear c42
                   by_cases c43 : x9_5 ≥ (t333.length : Int)
                   ·rw [if_pos c43] at H
                    have c43b0 : decide ((t333.length : Int) ≤ x9_5) = true := decide_eq_true c43
                    clear c43
                    exact absurd ((Option.some.inj H).trans hTrue.out) (by simp)
                   ·rw [if_neg c43] at H
                    have c43b0 : decide ((t333.length : Int) ≤ x9_5) = false := decide_eq_false c43
                    clear c43
                    by_cases c44 : 0 ≤ x11_2
                    ·rw [if_pos c44] at H
                     have c44b0 : decide (0 ≤ x11_2) = true := decide_eq_true c44
                     clear c44
                     by_cases c45 : x11_2 < (l1.length : Int)
                     ·rw [if_pos c45] at H
                      have c45b0 : decide (x11_2 < (l1.length : Int)) = true := decide_eq_true c45
                      clear c45
                      by_cases c46 : ((rd_T32 t333 x9_5).f1) = ((rd_T32 l1 x11_2).f1)
                      ·rw [if_pos c46] at H
                       have c46b0 : (((rd_T32 t333 x9_5).f1) == ((rd_T32 l1 x11_2).f1)) = true := beq_iff_eq.mpr c46
                       have c46b1 : (((rd_T32 t333 x9_5).f1) != ((rd_T32 l1 x11_2).f1)) = false := bne_eq_false_iff_eq.mpr c46
                       clear c46
                       have H' := m_ H
                       clear H
                       obtain ⟨Ao47, co47, eo47⟩ := Kd.V_slice HO_7.out
                       subst eo47
                       have p345 : 0 ≤ (x9_5 : Int) := od_
                       have q345 : x9_5 < (t333.length : Int) := od_
                       obtain ⟨ad345, A345_7, c345_7, A345_10, c345_10, e345, hx345_0, hx345_1, hx345_2, hx345_3, hx345_4, hx345_5, hx345_6, hx345_7, hx345_8, hx345_9, hx345_10, hl345_7, hi345_7, hl345_10, hi345_10⟩ := at_T32 (Kd.V_reads' HO_7.out).2.2 x9_5 p345 q345
                       cases e345
                       obtain ⟨ce345, hce345, hMe345, hcc345⟩ := Kd.V_get HO_7.out z32 x9_5 p345 (by first | exact q345 | exact od_ | (have e_ := (Kd.V_reads' HO_7.out).1; omega))
                       obtain ⟨ua345_7, uc345_7, ua345_10, uc345_10, rfl, ul345_7, ge345_7, ul345_10, ge345_10⟩ := k32_openF hMe345
                       have hv345_7 := hcc345 7 _ rfl
                       rw [add_field _ _ 7 (by omega)] at hv345_7
                       replace hv345_7 := Option.some.inj (hv345_7.symm.trans hx345_7)
                       injection hv345_7 with hva_ hvn_ hvc_
                       rw [hva_] at ge345_7
                       rw [hvc_] at ul345_7
                       have HL345_7 := m_ (show Kd.V k74 74 _ w.heap.size _ _ ((rd_T32 t333 x9_5).f2.f5) from Kd.V_mk ul345_7 ge345_7)
                       clear hva_ hvn_ hvc_ ge345_7 ul345_7
                       have hv345_10 := hcc345 10 _ rfl
                       rw [add_field _ _ 10 (by omega)] at hv345_10
                       replace hv345_10 := Option.some.inj (hv345_10.symm.trans hx345_10)
                       injection hv345_10 with hva_ hvn_ hvc_
                       rw [hva_] at ge345_10
                       rw [hvc_] at ul345_10
                       have HL345_10 := m_ (show Kd.V (Kd.int .u8) 5 _ w.heap.size _ _ ((rd_T32 t333 x9_5).f5) from Kd.V_mk ul345_10 ge345_10)
                       clear hva_ hvn_ hvc_ ge345_10 ul345_10 hcc345 hce345
                       have HR345_7 := m_ hi345_7
                       have HC345_7 := m_ hl345_7
                       clear hi345_7 hl345_7
                       have HR345_10 := m_ hi345_10
                       have HC345_10 := m_ hl345_10
                       clear hi345_10 hl345_10
                       replace p345 := eq_true p345
                       replace q345 := eq_true q345
                       try go_wp2
                       replace HO_7 := m_ (Kd.V_drew HO_7.out)
                       replace HO_340001 := m_ (Kd.V_drew HO_340001.out)
                       replace HL345_7 := m_ (Kd.V_drew HL345_7.out)
                       replace HL345_10 := m_ (Kd.V_drew HL345_10.out)
                       replace BK324 := m_ (blk_drew BK324.out)
                       replace BK339 := m_ (blk_drew BK339.out)
                       replace HR345_7 := m_ (Kd.C_drew HR345_7.out)
                       replace HR345_10 := m_ (Kd.C_drew HR345_10.out)
                       replace HB := m_ (below_drew1 HB.out)
                       have p346 : 0 ≤ (x9_5 : Int) := od_
                       have q346 : x9_5 < (t333.length : Int) := od_
                       obtain ⟨ad346, A346_7, c346_7, A346_10, c346_10, e346, hx346_0, hx346_1, hx346_2, hx346_3, hx346_4, hx346_5, hx346_6, hx346_7, hx346_8, hx346_9, hx346_10, hl346_7, hi346_7, hl346_10, hi346_10⟩ := at_T32 (Kd.V_reads' HO_7.out).2.2 x9_5 p346 q346
                       obtain rfl : ad345 = ad346 := (by injection e346)
                       obtain ⟨ce346, hce346, hMe346, hcc346⟩ := Kd.V_get HO_7.out z32 x9_5 p346 (by first | exact q346 | exact od_ | (have e_ := (Kd.V_reads' HO_7.out).1; omega))
                       obtain ⟨ua346_7, uc346_7, ua346_10, uc346_10, rfl, ul346_7, ge346_7, ul346_10, ge346_10⟩ := k32_openF hMe346
                       have hv346_7 := hcc346 7 _ rfl
                       rw [add_field _ _ 7 (by omega)] at hv346_7
                       replace hv346_7 := Option.some.inj (hv346_7.symm.trans hx346_7)
                       injection hv346_7 with hva_ hvn_ hvc_
                       rw [hva_] at ge346_7
                       rw [hvc_] at ul346_7
                       have HL346_7 := m_ (show Kd.V k74 74 _ w.heap.size _ _ ((rd_T32 t333 x9_5).f2.f5) from Kd.V_mk ul346_7 ge346_7)
                       clear hva_ hvn_ hvc_ ge346_7 ul346_7
                       have hv346_10 := hcc346 10 _ rfl
                       rw [add_field _ _ 10 (by omega)] at hv346_10
                       replace hv346_10 := Option.some.inj (hv346_10.symm.trans hx346_10)
                       injection hv346_10 with hva_ hvn_ hvc_
                       rw [hva_] at ge346_10
                       rw [hvc_] at ul346_10
                       have HL346_10 := m_ (show Kd.V (Kd.int .u8) 5 _ w.heap.size _ _ ((rd_T32 t333 x9_5).f5) from Kd.V_mk ul346_10 ge346_10)
                       clear hva_ hvn_ hvc_ ge346_10 ul346_10 hcc346 hce346
                       have HR346_7 := m_ hi346_7
                       have HC346_7 := m_ hl346_7
                       clear hi346_7 hl346_7
                       have HR346_10 := m_ hi346_10
                       have HC346_10 := m_ hl346_10
                       clear hi346_10 hl346_10
                       replace p346 := eq_true p346
                       replace q346 := eq_true q346
                       have p347 : 0 ≤ (x11_2 : Int) := od_
                       have q347 : x11_2 < (l1.length : Int) := od_
                       obtain ⟨ad347, A347_7, c347_7, A347_10, c347_10, e347, hx347_0, hx347_1, hx347_2, hx347_3, hx347_4, hx347_5, hx347_6, hx347_7, hx347_8, hx347_9, hx347_10, hl347_7, hi347_7, hl347_10, hi347_10⟩ := at_T32 HR1.out x11_2 p347 q347
                       have hw347_10 := hx347_10
                       have hw347_9 := hx347_9
                       have hw347_8 := hx347_8
                       have hw347_7 := hx347_7
                       have hw347_6 := hx347_6
                       have hw347_5 := hx347_5
                       have hw347_4 := hx347_4
                       have hw347_3 := hx347_3
                       have hw347_2 := hx347_2
                       have hw347_1 := hx347_1
                       have hw347_0 := hx347_0
                       obtain rfl : ad341 = ad347 := (by injection e347)
                       replace hx347_0 := kp_ HB.out hx347_0
                       replace hx347_1 := kp_ HB.out hx347_1
                       replace hx347_2 := kp_ HB.out hx347_2
                       replace hx347_3 := kp_ HB.out hx347_3
                       replace hx347_4 := kp_ HB.out hx347_4
                       replace hx347_5 := kp_ HB.out hx347_5
                       replace hx347_6 := kp_ HB.out hx347_6
                       replace hx347_7 := kp_ HB.out hx347_7
                       replace hx347_8 := kp_ HB.out hx347_8
                       replace hx347_9 := kp_ HB.out hx347_9
                       replace hx347_10 := kp_ HB.out hx347_10
                       have HR347_7 := m_ hi347_7
                       have HC347_7 := m_ hl347_7
                       clear hi347_7 hl347_7
                       have HR347_10 := m_ hi347_10
                       have HC347_10 := m_ hl347_10
                       clear hi347_10 hl347_10
                       replace p347 := eq_true p347
                       replace q347 := eq_true q347
                       refine start_ (n := 17) (S := fun w' => w'.cell? (ad345.add ((x9_5).toNat * 11)) = some (.int .u8 ((rd_T32 t333 x9_5).f0)) ∧ w'.cell? ⟨(ad345.add ((x9_5).toNat * 11)).block, (ad345.add ((x9_5).toNat * 11)).off + 1, none⟩ = some (.int .u32 ((rd_T32 t333 x9_5).f1)) ∧ w'.cell? ⟨(ad345.add ((x9_5).toNat * 11)).block, (ad345.add ((x9_5).toNat * 11)).off + 2, none⟩ = some (.int .u32 ((rd_T32 t333 x9_5).f2.f0)) ∧ w'.cell? ⟨(ad345.add ((x9_5).toNat * 11)).block, (ad345.add ((x9_5).toNat * 11)).off + 3, none⟩ = some (.int .u32 ((rd_T32 t333 x9_5).f2.f1)) ∧ w'.cell? ⟨(ad345.add ((x9_5).toNat * 11)).block, (ad345.add ((x9_5).toNat * 11)).off + 4, none⟩ = some (.int .u32 ((rd_T32 t333 x9_5).f2.f2)) ∧ w'.cell? ⟨(ad345.add ((x9_5).toNat * 11)).block, (ad345.add ((x9_5).toNat * 11)).off + 5, none⟩ = some (.int .i64 ((rd_T32 t333 x9_5).f2.f3)) ∧ w'.cell? ⟨(ad345.add ((x9_5).toNat * 11)).block, (ad345.add ((x9_5).toNat * 11)).off + 6, none⟩ = some (.int .u32 ((rd_T32 t333 x9_5).f2.f4)) ∧ w'.cell? ⟨(ad345.add ((x9_5).toNat * 11)).block, (ad345.add ((x9_5).toNat * 11)).off + 7, none⟩ = some (.slice A346_7 ((rd_T32 t333 x9_5).f2.f5).length c346_7) ∧ w'.cell? ⟨(ad345.add ((x9_5).toNat * 11)).block, (ad345.add ((x9_5).toNat * 11)).off + 8, none⟩ = some (.int .i64 ((rd_T32 t333 x9_5).f3)) ∧ w'.cell? ⟨(ad345.add ((x9_5).toNat * 11)).block, (ad345.add ((x9_5).toNat * 11)).off + 9, none⟩ = some (.bool ((rd_T32 t333 x9_5).f4)) ∧ w'.cell? ⟨(ad345.add ((x9_5).toNat * 11)).block, (ad345.add ((x9_5).toNat * 11)).off + 10, none⟩ = some (.slice A346_10 ((rd_T32 t333 x9_5).f5).length c346_10) ∧ w'.cell? (ad341.add ((x11_2).toNat * 11)) = some (.int .u8 ((rd_T32 l1 x11_2).f0)) ∧ w'.cell? ⟨(ad341.add ((x11_2).toNat * 11)).block, (ad341.add ((x11_2).toNat * 11)).off + 1, none⟩ = some (.int .u32 ((rd_T32 l1 x11_2).f1)) ∧ w'.cell? ⟨(ad341.add ((x11_2).toNat * 11)).block, (ad341.add ((x11_2).toNat * 11)).off + 2, none⟩ = some (.int .u32 ((rd_T32 l1 x11_2).f2.f0)) ∧ w'.cell? ⟨(ad341.add ((x11_2).toNat * 11)).block, (ad341.add ((x11_2).toNat * 11)).off + 3, none⟩ = some (.int .u32 ((rd_T32 l1 x11_2).f2.f1)) ∧ w'.cell? ⟨(ad341.add ((x11_2).toNat * 11)).block, (ad341.add ((x11_2).toNat * 11)).off + 4, none⟩ = some (.int .u32 ((rd_T32 l1 x11_2).f2.f2)) ∧ w'.cell? ⟨(ad341.add ((x11_2).toNat * 11)).block, (ad341.add ((x11_2).toNat * 11)).off + 5, none⟩ = some (.int .i64 ((rd_T32 l1 x11_2).f2.f3)) ∧ w'.cell? ⟨(ad341.add ((x11_2).toNat * 11)).block, (ad341.add ((x11_2).toNat * 11)).off + 6, none⟩ = some (.int .u32 ((rd_T32 l1 x11_2).f2.f4)) ∧ w'.cell? ⟨(ad341.add ((x11_2).toNat * 11)).block, (ad341.add ((x11_2).toNat * 11)).off + 7, none⟩ = some (.slice A347_7 ((rd_T32 l1 x11_2).f2.f5).length c347_7) ∧ w'.cell? ⟨(ad341.add ((x11_2).toNat * 11)).block, (ad341.add ((x11_2).toNat * 11)).off + 8, none⟩ = some (.int .i64 ((rd_T32 l1 x11_2).f3)) ∧ w'.cell? ⟨(ad341.add ((x11_2).toNat * 11)).block, (ad341.add ((x11_2).toNat * 11)).off + 9, none⟩ = some (.bool ((rd_T32 l1 x11_2).f4)) ∧ w'.cell? ⟨(ad341.add ((x11_2).toNat * 11)).block, (ad341.add ((x11_2).toNat * 11)).off + 10, none⟩ = some (.slice A347_10 ((rd_T32 l1 x11_2).f5).length c347_10)) (ds := []) (bs_ 17 0) (by kernel_rfl) rfl rfl ⟨hx346_0, hx346_1, hx346_2, hx346_3, hx346_4, hx346_5, hx346_6, hx346_7, hx346_8, hx346_9, hx346_10, (kp_ HB.out hw347_0), (kp_ HB.out hw347_1), (kp_ HB.out hw347_2), (kp_ HB.out hw347_3), (kp_ HB.out hw347_4), (kp_ HB.out hw347_5), (kp_ HB.out hw347_6), (kp_ HB.out hw347_7), (kp_ HB.out hw347_8), (kp_ HB.out hw347_9), (kp_ HB.out hw347_10)⟩ (fun hHeld => ?_); refine with_tabW stolonlaw17_SwtchStays.tab17 stolonlaw17_SwtchStays.bits17 (fun HT_ HW_ => ?_)
                       generalize wr.drew = w48 at HO_7 HO_340001 HL345_7 HL345_10 BK324 BK339 HR345_7 HR345_10 HB HL346_10 HL346_7 HR346_10 HR346_7 HR347_10 HR347_7 hx346_0 hx346_1 hx346_10 hx346_2 hx346_3 hx346_4 hx346_5 hx346_6 hx346_7 hx346_8 hx346_9 hx347_0 hx347_1 hx347_10 hx347_2 hx347_3 hx347_4 hx347_5 hx347_6 hx347_7 hx347_8 hx347_9 hHeld ⊢
                       refine pz_ 0 93 ?_
                       refine pz_ 1 94 ?_
                       refine pz_ 2 95 ?_
                       refine pz_ 3 96 ?_
                       refine pz_ 4 97 ?_
                       refine pz_ 5 98 ?_
                       refine pz_ 6 99 ?_
                       refine pz_ 7 100 ?_
                       refine pz_ 8 101 ?_
                       refine pz_ 10 103 ?_
                       refine pz_ 11 104 ?_
                       refine pz_ 12 105 ?_
                       refine pz_ 13 106 ?_
                       refine tz_ 9 102 ?_
                       refine tz_ 14 107 ?_
                       refine pz_ 15 108 ?_
                       refine pz_ 16 109 ?_
                       refine dz_ ?_
                       try go_wp2
                       go_roundg k5
                       case measure => have := HJ3.out; have := HK2.out; have := HJ30.out; have := HJ34.out; have := HK5.out; omega
                       case rel => exact ⟨(wrap64 (x9_5 + 1)), (x10_30), (wrap64 (x11_2 + 1)), (by first | rfl | (simp; done) | (simp [*]; done)), (by first | rfl | (simp; done) | (simp [*]; done)), (by first | rfl | (simp; done) | (simp [*]; done)), H', ⟨by have := HJ3.out; have := HK2.out; have := HJ30.out; have := HJ34.out; have := HK5.out; omega⟩, ⟨Vz_ HO_7.out⟩, ⟨Vz_ HO_340001.out⟩, ⟨kz_⟩, ⟨kz_⟩, ⟨bz_⟩⟩
                      ·rw [if_neg c46] at H
                       have c46b0 : (((rd_T32 t333 x9_5).f1) == ((rd_T32 l1 x11_2).f1)) = false := beq_eq_false_iff_ne.mpr c46
                       have c46b1 : (((rd_T32 t333 x9_5).f1) != ((rd_T32 l1 x11_2).f1)) = true := bne_iff_ne.mpr c46
                       exact absurd ((Option.some.inj H).trans hTrue.out) (by simp)
                     ·rw [if_neg c45] at H
                      exact absurd H (by simp)
                    ·rw [if_neg c44] at H
                     exact absurd H (by simp)
                  ·rw [if_neg c42] at H
                   have c42b0 : (((rd_T32 t333 x9_5).f0) == 4) = false := beq_eq_false_iff_ne.mpr c42
                   have c42b1 : (((rd_T32 t333 x9_5).f0) != 4) = true := bne_iff_ne.mpr c42
                   have H' := m_ H
                   clear H
                   obtain ⟨Ao49, co49, eo49⟩ := Kd.V_slice HO_7.out
                   subst eo49
                   have p345 : 0 ≤ (x9_5 : Int) := od_
                   have q345 : x9_5 < (t333.length : Int) := od_
                   obtain ⟨ad345, A345_7, c345_7, A345_10, c345_10, e345, hx345_0, hx345_1, hx345_2, hx345_3, hx345_4, hx345_5, hx345_6, hx345_7, hx345_8, hx345_9, hx345_10, hl345_7, hi345_7, hl345_10, hi345_10⟩ := at_T32 (Kd.V_reads' HO_7.out).2.2 x9_5 p345 q345
                   cases e345
                   obtain ⟨ce345, hce345, hMe345, hcc345⟩ := Kd.V_get HO_7.out z32 x9_5 p345 (by first | exact q345 | exact od_ | (have e_ := (Kd.V_reads' HO_7.out).1; omega))
                   obtain ⟨ua345_7, uc345_7, ua345_10, uc345_10, rfl, ul345_7, ge345_7, ul345_10, ge345_10⟩ := k32_openF hMe345
                   have hv345_7 := hcc345 7 _ rfl
                   rw [add_field _ _ 7 (by omega)] at hv345_7
                   replace hv345_7 := Option.some.inj (hv345_7.symm.trans hx345_7)
                   injection hv345_7 with hva_ hvn_ hvc_
                   rw [hva_] at ge345_7
                   rw [hvc_] at ul345_7
                   have HL345_7 := m_ (show Kd.V k74 74 _ w.heap.size _ _ ((rd_T32 t333 x9_5).f2.f5) from Kd.V_mk ul345_7 ge345_7)
                   clear hva_ hvn_ hvc_ ge345_7 ul345_7
                   have hv345_10 := hcc345 10 _ rfl
                   rw [add_field _ _ 10 (by omega)] at hv345_10
                   replace hv345_10 := Option.some.inj (hv345_10.symm.trans hx345_10)
                   injection hv345_10 with hva_ hvn_ hvc_
                   rw [hva_] at ge345_10
                   rw [hvc_] at ul345_10
                   have HL345_10 := m_ (show Kd.V (Kd.int .u8) 5 _ w.heap.size _ _ ((rd_T32 t333 x9_5).f5) from Kd.V_mk ul345_10 ge345_10)
                   clear hva_ hvn_ hvc_ ge345_10 ul345_10 hcc345 hce345
                   have HR345_7 := m_ hi345_7
                   have HC345_7 := m_ hl345_7
                   clear hi345_7 hl345_7
                   have HR345_10 := m_ hi345_10
                   have HC345_10 := m_ hl345_10
                   clear hi345_10 hl345_10
                   replace p345 := eq_true p345
                   replace q345 := eq_true q345
                   go_wp2
                   go_roundg k5
                   case measure => have := HJ3.out; have := HK2.out; have := HJ30.out; have := HJ34.out; have := HK5.out; omega
                   case rel => exact ⟨(wrap64 (x9_5 + 1)), (by first | rfl | (simp; done) | (simp [*]; done)), H', ⟨by have := HJ3.out; have := HK2.out; have := HJ30.out; have := HJ34.out; have := HK5.out; omega⟩, ⟨Vz_ HO_7.out⟩, ⟨Vz_ HO_340001.out⟩, ⟨kz_⟩, ⟨kz_⟩, ⟨bz_⟩⟩
                 ·rw [if_neg c41] at H
                  exact absurd H (by simp)
                ·rw [if_neg c40] at H
                 have c40b0 : decide (x9_5 < (t333.length : Int)) = false := decide_eq_false c40
                 clear c40
                 by_cases c50 : x9_5 ≥ (t333.length : Int)
                 ·rw [if_pos c50] at H
                  have c50b0 : decide ((t333.length : Int) ≤ x9_5) = true := decide_eq_true c50
                  clear c50
                  exact absurd ((Option.some.inj H).trans hTrue.out) (by simp)
                 ·rw [if_neg c50] at H
                  have c50b0 : decide ((t333.length : Int) ≤ x9_5) = false := decide_eq_false c50
                  clear c50
                  by_cases c51 : 0 ≤ x9_5
                  ·rw [if_pos c51] at H
                   exact absurd H (by simp)
                  ·rw [if_neg c51] at H
                   exact absurd H (by simp)
        ·rw [if_neg c29] at H
         exact absurd H (by simp)
       ·rw [if_neg c28] at H
        have c28b0 : decide (x11_2 < (l1.length : Int)) = false := decide_eq_false c28
        clear c28
        have H' := m_ H
        clear H
        go_wp2
        go_loopg [13] k2 (fun kq v13 w' => ∃ (x13_3 : Int), v13 = .int .i64 x13_3 ∧ Aside0 (stolonlaw17_SwtchStays.l2 kq l1 t325 x10_2 x13_3 a0_0 l0_1 t329 t330 = some r) ∧ Aside0 (kq ≤ k2) ∧ Aside0 (Kd.V k29 29 w' w.heap.size (fun k_ => k_ ≠ gb324 ∧ k_ ≠ gb339) (.slice Ao26 t330.length co26) t330) ∧ Aside0 (w'.heap[gb324]? = some (.cells #[.int .i64 a0_0, (.slice A0_1 l0_1.length c0_1)] 24 (0, 0))) ∧ Aside0 (w'.heap[gb339]? = some (.cells #[.int .i64 t329, (.slice Ao26 t330.length co26)] 24 (0, 0))) ∧ Aside0 (Below w.heap.size w w'))
        case atStart => exact ⟨(0), (by first | rfl | (simp; done) | (simp [*]; done)), H', ⟨Nat.le_refl _⟩, ⟨Vz_ HO_340001.out⟩, ⟨kz_⟩, ⟨kz_⟩, ⟨bz_⟩⟩
        case round =>
         clear H'
         try clear c1
         try clear c2
         try clear p2
         try clear c3
         try clear p3
         try clear q3
         try clear hx3
         try clear c4
         try clear c5
         try clear p6
         try clear c8
         try clear c9
         try clear c10
         try clear c11
         try clear c15
         try clear c17
         try clear c19
         try clear c20
         try clear c24
         try clear c28
         try clear c28b0
         try clear c29
         try clear c29b0
         try clear c33
         try clear c34
         try clear p34
         try clear q34
         try clear hx34
         try clear c36
         try clear c37
         try clear c37b0
         try clear c38
         try clear c38b0
         try clear c39
         try clear c40
         try clear c40b0
         try clear c41
         try clear c41b0
         try clear c42
         try clear c42b0
         try clear c42b1
         try clear c43
         try clear c43b0
         try clear c44
         try clear c44b0
         try clear c45
         try clear c45b0
         try clear c46
         try clear c46b0
         try clear c46b1
         try clear c50
         try clear c50b0
         try clear c51
         (try clear hcz12)
         (try clear hcz14)
         (try clear hcz16)
         (try clear hcz21)
         (try clear hcz25)
         try clear hx341_0
         try clear hx341_1
         try clear hx341_10
         try clear hx341_2
         try clear hx341_3
         try clear hx341_4
         try clear hx341_5
         try clear hx341_6
         try clear hx341_7
         try clear hx341_8
         try clear hx341_9
         try clear hx343_0
         try clear hx343_1
         try clear hx343_10
         try clear hx343_2
         try clear hx343_3
         try clear hx343_4
         try clear hx343_5
         try clear hx343_6
         try clear hx343_7
         try clear hx343_8
         try clear hx343_9
         try clear hx344_0
         try clear hx344_1
         try clear hx344_10
         try clear hx344_2
         try clear hx344_3
         try clear hx344_4
         try clear hx344_5
         try clear hx344_6
         try clear hx344_7
         try clear hx344_8
         try clear hx344_9
         try clear hx345_0
         try clear hx345_1
         try clear hx345_10
         try clear hx345_2
         try clear hx345_3
         try clear hx345_4
         try clear hx345_5
         try clear hx345_6
         try clear hx345_7
         try clear hx345_8
         try clear hx345_9
         try clear hx346_0
         try clear hx346_1
         try clear hx346_10
         try clear hx346_2
         try clear hx346_3
         try clear hx346_4
         try clear hx346_5
         try clear hx346_6
         try clear hx346_7
         try clear hx346_8
         try clear hx346_9
         try clear hx347_0
         try clear hx347_1
         try clear hx347_10
         try clear hx347_2
         try clear hx347_3
         try clear hx347_4
         try clear hx347_5
         try clear hx347_6
         try clear hx347_7
         try clear hx347_8
         try clear hx347_9
         try clear p2
         try clear p3
         try clear p34
         try clear p341
         try clear p343
         try clear p344
         try clear p345
         try clear p346
         try clear p347
         try clear p6
         try clear q3
         try clear q34
         try clear q341
         try clear q343
         try clear q344
         try clear q345
         try clear q346
         try clear q347
         obtain ⟨x13_3, rfl, HA, HK3, HO_340001, BK324, BK339, HB⟩ := hrel
         cases gk with
         | zero => exact absurd HA.out (by simp [stolonlaw17_SwtchStays.l2])
         | succ k3 =>
          have H := HA.out
          clear HA
          simp only [stolonlaw17_SwtchStays.l2] at H
          have HC52 := m_ H
          clear H
          go_upto_region 21 with (fail)
          go_cut [120] (fun v120 wc => ∃ (kq : Nat) (x120_51 : Bool), v120 = .bool x120_51 ∧ Aside0 (stolonlaw17_SwtchStays.j6 kq l1 t325 x10_2 x13_3 x120_51 a0_0 l0_1 t329 t330 = some r) ∧ Aside0 (kq ≤ k3) ∧ Aside0 (Kd.V k29 29 wc w.heap.size (fun k_ => k_ ≠ gb324 ∧ k_ ≠ gb339) (.slice Ao26 t330.length co26) t330) ∧ Aside0 (wc.heap[gb324]? = some (.cells #[.int .i64 a0_0, (.slice A0_1 l0_1.length c0_1)] 24 (0, 0))) ∧ Aside0 (wc.heap[gb339]? = some (.cells #[.int .i64 t329, (.slice Ao26 t330.length co26)] 24 (0, 0))) ∧ Aside0 (Below w.heap.size w wc))
          case first =>
           have H := HC52.out
           clear HC52
           by_cases c53 : x13_3 < (l0_1.length : Int)
           ·rw [if_pos c53] at H
            have c53b0 : decide (x13_3 < (l0_1.length : Int)) = true := decide_eq_true c53
            clear c53
            (first | rw [c53b0] | (simp only [i64_w, i32_w]; rw [c53b0]) | skip)
            have H' := m_ H
            clear H
            have hnb54 := NB324_339.out
            have hnc54 := NB339_324.out
            have hcz55 := cz2_ BK324.out
            go_wp2
            go_meet
            case rel => exact ⟨_, (!x10_2), (by first | rfl | (simp; done) | (simp [*]; done)), H', ⟨by have := HJ3.out; have := HK2.out; have := HK3.out; first | omega | exact Nat.le_refl _⟩, ⟨Vz_ HO_340001.out⟩, ⟨kz_⟩, ⟨kz_⟩, ⟨bz_⟩⟩
           ·rw [if_neg c53] at H
            have c53b0 : decide (x13_3 < (l0_1.length : Int)) = false := decide_eq_false c53
            clear c53
            (first | rw [c53b0] | (simp only [i64_w, i32_w]; rw [c53b0]) | skip)
            have H' := m_ H
            clear H
            have hnb56 := NB324_339.out
            have hnc56 := NB339_324.out
            have hcz57 := cz2_ BK324.out
            go_wp2
            go_meet
            case rel => exact ⟨_, (false), (by first | rfl | (simp; done) | (simp [*]; done)), H', ⟨by have := HJ3.out; have := HK2.out; have := HK3.out; first | omega | exact Nat.le_refl _⟩, ⟨Vz_ HO_340001.out⟩, ⟨kz_⟩, ⟨kz_⟩, ⟨bz_⟩⟩
          case rest =>
           clear HC52
           try clear c1
           try clear c2
           try clear p2
           try clear c3
           try clear p3
           try clear q3
           try clear hx3
           try clear c4
           try clear c5
           try clear p6
           try clear c8
           try clear c9
           try clear c10
           try clear c11
           try clear c15
           try clear c17
           try clear c19
           try clear c20
           try clear c24
           try clear c28
           try clear c28b0
           try clear c29
           try clear c29b0
           try clear c33
           try clear c34
           try clear p34
           try clear q34
           try clear hx34
           try clear c36
           try clear c37
           try clear c37b0
           try clear c38
           try clear c38b0
           try clear c39
           try clear c40
           try clear c40b0
           try clear c41
           try clear c41b0
           try clear c42
           try clear c42b0
           try clear c42b1
           try clear c43
           try clear c43b0
           try clear c44
           try clear c44b0
           try clear c45
           try clear c45b0
           try clear c46
           try clear c46b0
           try clear c46b1
           try clear c50
           try clear c50b0
           try clear c51
           try clear c53
           try clear c53b0
           try clear c54
           try clear c56
           (try clear hcz12)
           (try clear hcz14)
           (try clear hcz16)
           (try clear hcz21)
           (try clear hcz25)
           (try clear hcz55)
           (try clear hcz57)
           try clear hx341_0
           try clear hx341_1
           try clear hx341_10
           try clear hx341_2
           try clear hx341_3
           try clear hx341_4
           try clear hx341_5
           try clear hx341_6
           try clear hx341_7
           try clear hx341_8
           try clear hx341_9
           try clear hx343_0
           try clear hx343_1
           try clear hx343_10
           try clear hx343_2
           try clear hx343_3
           try clear hx343_4
           try clear hx343_5
           try clear hx343_6
           try clear hx343_7
           try clear hx343_8
           try clear hx343_9
           try clear hx344_0
           try clear hx344_1
           try clear hx344_10
           try clear hx344_2
           try clear hx344_3
           try clear hx344_4
           try clear hx344_5
           try clear hx344_6
           try clear hx344_7
           try clear hx344_8
           try clear hx344_9
           try clear hx345_0
           try clear hx345_1
           try clear hx345_10
           try clear hx345_2
           try clear hx345_3
           try clear hx345_4
           try clear hx345_5
           try clear hx345_6
           try clear hx345_7
           try clear hx345_8
           try clear hx345_9
           try clear hx346_0
           try clear hx346_1
           try clear hx346_10
           try clear hx346_2
           try clear hx346_3
           try clear hx346_4
           try clear hx346_5
           try clear hx346_6
           try clear hx346_7
           try clear hx346_8
           try clear hx346_9
           try clear hx347_0
           try clear hx347_1
           try clear hx347_10
           try clear hx347_2
           try clear hx347_3
           try clear hx347_4
           try clear hx347_5
           try clear hx347_6
           try clear hx347_7
           try clear hx347_8
           try clear hx347_9
           try clear p2
           try clear p3
           try clear p34
           try clear p341
           try clear p343
           try clear p344
           try clear p345
           try clear p346
           try clear p347
           try clear p6
           try clear q3
           try clear q34
           try clear q341
           try clear q343
           try clear q344
           try clear q345
           try clear q346
           try clear q347
           obtain ⟨kq, x120_51, rfl, HA, HJ51, HO_340001, BK324, BK339, HB⟩ := hcut
           cases kq with
           | zero => exact absurd HA.out (by simp [stolonlaw17_SwtchStays.j6])
           | succ kj51 =>
            have H := HA.out
            clear HA
            simp only [stolonlaw17_SwtchStays.j6] at H
            by_cases c58 : x120_51 = true
            ·subst c58
             have H1 : (if 0 ≤ x13_3 then (if x13_3 < (l0_1.length : Int) then (stolonlaw17_SwtchStays.l3 kj51 l1 t325 x10_2 x13_3 false 0 a0_0 l0_1 t329 t330 ((rd_T29 l0_1 x13_3).f0) ((rd_T29 l0_1 x13_3).f1) ((rd_T29 l0_1 x13_3).f2) ((rd_T29 l0_1 x13_3).f3) ((rd_T29 l0_1 x13_3).f4) ((rd_T29 l0_1 x13_3).f5)) else (none)) else (none)) = some r := by rw [if_pos rfl] at H; exact H
             clear H
             have H := H1
             clear H1
             by_cases c59 : 0 ≤ x13_3
             ·rw [if_pos c59] at H
              have c59b0 : decide (0 ≤ x13_3) = true := decide_eq_true c59
              clear c59
              by_cases c60 : x13_3 < (l0_1.length : Int)
              ·rw [if_pos c60] at H
               have c60b0 : decide (x13_3 < (l0_1.length : Int)) = true := decide_eq_true c60
               clear c60
               have H' := m_ H
               clear H
               have hnb61 := NB324_339.out
               have hnc61 := NB339_324.out
               have hcz62 := cz2_ BK324.out
               have p348 : 0 ≤ (x13_3 : Int) := od_
               have q348 : x13_3 < (l0_1.length : Int) := od_
               obtain ⟨ad348, A348_5, c348_5, e348, hx348_0, hx348_1, hx348_2, hx348_3, hx348_4, hx348_5, hl348_5, hi348_5⟩ := at_T29 HR0_1.out x13_3 p348 q348
               cases e348
               replace hx348_0 := kp_ HB.out hx348_0
               replace hx348_1 := kp_ HB.out hx348_1
               replace hx348_2 := kp_ HB.out hx348_2
               replace hx348_3 := kp_ HB.out hx348_3
               replace hx348_4 := kp_ HB.out hx348_4
               replace hx348_5 := kp_ HB.out hx348_5
               have HR348_5 := m_ hi348_5
               have HC348_5 := m_ hl348_5
               clear hi348_5 hl348_5
               replace p348 := eq_true p348
               replace q348 := eq_true q348
               go_wp2_with (first | ((with_reducible refine gate_dst (N := 14) rfl ?_); refine bx_ 14 29 #[.int .u32 0, .int .u32 0, .int .u32 0, .int .i64 0, .int .u32 0, .slice none 0 0] ?_; intro gb349 hg w63 hbox hb; have BK349 := m_ (hbox); have GW349 := m_ ((gw_ : w.heap.size ≤ gb349)); have GE349 := m_ ((gw_ : w.heap.size ≤ gb349)); have NB324_349 := m_ ((gl_ : gb324 ≠ gb349)); have NB349_324 := m_ ((gr_ : gb349 ≠ gb324)); have NB339_349 := m_ ((gl_ : gb339 ≠ gb349)); have NB349_339 := m_ ((gr_ : gb349 ≠ gb339)); replace HO_340001 := m_ (Kd.V_below (Kd.V_elderB (Vz_ HO_340001.out) gb349 (Nat.le_of_eq hg.symm)) hb); replace BK324 := m_ (kl_ gb324 hb); replace BK339 := m_ (kl_ gb339 hb); replace HB := m_ (below_step bz_ hb); clear hb hbox hg; have hnb64 := NB349_324.out; have hnc64 := NB324_349.out; have hnb65 := NB349_339.out; have hnc65 := NB339_349.out; have hcz66 := cz6_ BK349.out))
               go_loopg [15, 16] kj51 (fun kq v15 v16 w' => ∃ (x15_5 : Bool) (x16_5 : Int), v15 = .bool x15_5 ∧ v16 = .int .i64 x16_5 ∧ Aside0 (stolonlaw17_SwtchStays.l3 kq l1 t325 x10_2 x13_3 x15_5 x16_5 a0_0 l0_1 t329 t330 ((rd_T29 l0_1 x13_3).f0) ((rd_T29 l0_1 x13_3).f1) ((rd_T29 l0_1 x13_3).f2) ((rd_T29 l0_1 x13_3).f3) ((rd_T29 l0_1 x13_3).f4) ((rd_T29 l0_1 x13_3).f5) = some r) ∧ Aside0 (kq ≤ kj51) ∧ Aside0 (Kd.V k29 29 w' w.heap.size (fun k_ => k_ ≠ gb324 ∧ k_ ≠ gb339 ∧ k_ ≠ gb349) (.slice Ao26 t330.length co26) t330) ∧ Aside0 (w'.heap[gb324]? = some (.cells #[.int .i64 a0_0, (.slice (some ad348) l0_1.length c0_1)] 24 (0, 0))) ∧ Aside0 (w'.heap[gb339]? = some (.cells #[.int .i64 t329, (.slice Ao26 t330.length co26)] 24 (0, 0))) ∧ Aside0 (w'.heap[gb349]? = some (.cells #[.int .u32 ((rd_T29 l0_1 x13_3).f0), .int .u32 ((rd_T29 l0_1 x13_3).f1), .int .u32 ((rd_T29 l0_1 x13_3).f2), .int .i64 ((rd_T29 l0_1 x13_3).f3), .int .u32 ((rd_T29 l0_1 x13_3).f4), (.slice A348_5 ((rd_T29 l0_1 x13_3).f5).length c348_5)] 29 (0, 0))) ∧ Aside0 (Below w.heap.size w w'))
               case atStart => exact ⟨(false), (0), (by first | rfl | (simp; done) | (simp [*]; done)), (by first | rfl | (simp; done) | (simp [*]; done)), H', ⟨Nat.le_refl _⟩, ⟨Kd.V_mono (Vf_ (Kd.V_mono HO_340001.out (fun k_ hk => (⟨hk, hk.2⟩ : _ ∧ k_ ≠ gb349)))) (fun _ hk => ⟨hk.1.1.1, ⟨hk.1.1.2, hk.1.2⟩⟩)⟩, ⟨kb_⟩, ⟨kb_⟩, ⟨kb_⟩, ⟨bz_⟩⟩
               case round =>
                clear H'
                try clear c1
                try clear c2
                try clear p2
                try clear c3
                try clear p3
                try clear q3
                try clear hx3
                try clear c4
                try clear c5
                try clear c6
                try clear p6
                try clear c8
                try clear c9
                try clear c10
                try clear c11
                try clear c15
                try clear c17
                try clear c19
                try clear c20
                try clear c24
                try clear c28
                try clear c28b0
                try clear c29
                try clear c29b0
                try clear c33
                try clear c34
                try clear p34
                try clear q34
                try clear hx34
                try clear c36
                try clear c37
                try clear c37b0
                try clear c38
                try clear c38b0
                try clear c39
                try clear c40
                try clear c40b0
                try clear c41
                try clear c41b0
                try clear c42
                try clear c42b0
                try clear c42b1
                try clear c43
                try clear c43b0
                try clear c44
                try clear c44b0
                try clear c45
                try clear c45b0
                try clear c46
                try clear c46b0
                try clear c46b1
                try clear c50
                try clear c50b0
                try clear c51
                try clear c53
                try clear c53b0
                try clear c54
                try clear c56
                try clear c58
                try clear c59
                try clear c59b0
                try clear c60
                try clear c60b0
                try clear c61
                try clear c64
                try clear p64
                try clear c65
                (try clear hcz12)
                (try clear hcz14)
                (try clear hcz16)
                (try clear hcz21)
                (try clear hcz25)
                (try clear hcz55)
                (try clear hcz57)
                (try clear hcz62)
                (try clear hcz66)
                try clear hx341_0
                try clear hx341_1
                try clear hx341_10
                try clear hx341_2
                try clear hx341_3
                try clear hx341_4
                try clear hx341_5
                try clear hx341_6
                try clear hx341_7
                try clear hx341_8
                try clear hx341_9
                try clear hx343_0
                try clear hx343_1
                try clear hx343_10
                try clear hx343_2
                try clear hx343_3
                try clear hx343_4
                try clear hx343_5
                try clear hx343_6
                try clear hx343_7
                try clear hx343_8
                try clear hx343_9
                try clear hx344_0
                try clear hx344_1
                try clear hx344_10
                try clear hx344_2
                try clear hx344_3
                try clear hx344_4
                try clear hx344_5
                try clear hx344_6
                try clear hx344_7
                try clear hx344_8
                try clear hx344_9
                try clear hx345_0
                try clear hx345_1
                try clear hx345_10
                try clear hx345_2
                try clear hx345_3
                try clear hx345_4
                try clear hx345_5
                try clear hx345_6
                try clear hx345_7
                try clear hx345_8
                try clear hx345_9
                try clear hx346_0
                try clear hx346_1
                try clear hx346_10
                try clear hx346_2
                try clear hx346_3
                try clear hx346_4
                try clear hx346_5
                try clear hx346_6
                try clear hx346_7
                try clear hx346_8
                try clear hx346_9
                try clear hx347_0
                try clear hx347_1
                try clear hx347_10
                try clear hx347_2
                try clear hx347_3
                try clear hx347_4
                try clear hx347_5
                try clear hx347_6
                try clear hx347_7
                try clear hx347_8
                try clear hx347_9
                try clear hx348_0
                try clear hx348_1
                try clear hx348_2
                try clear hx348_3
                try clear hx348_4
                try clear hx348_5
                try clear p2
                try clear p3
                try clear p34
                try clear p341
                try clear p343
                try clear p344
                try clear p345
                try clear p346
                try clear p347
                try clear p348
                try clear p6
                try clear q3
                try clear q34
                try clear q341
                try clear q343
                try clear q344
                try clear q345
                try clear q346
                try clear q347
                try clear q348
                obtain ⟨x15_5, x16_5, rfl, rfl, HA, HK5, HO_340001, BK324, BK339, BK349, HB⟩ := hrel
                cases gk with
                | zero => exact absurd HA.out (by simp [stolonlaw17_SwtchStays.l3])
                | succ k5 =>
                 have H := HA.out
                 clear HA
                 simp only [stolonlaw17_SwtchStays.l3] at H
                 by_cases c67 : x16_5 < (l1.length : Int)
                 ·rw [if_pos c67] at H
                  have c67b0 : decide (x16_5 < (l1.length : Int)) = true := decide_eq_true c67
                  clear c67
                  by_cases c68 : 0 ≤ x16_5
                  ·rw [if_pos c68] at H
                   have c68b0 : decide (0 ≤ x16_5) = true := decide_eq_true c68
                   clear c68
                   by_cases c69 : x15_5 = true
                   ·subst c69
                    have H1 : (stolonlaw17_SwtchStays.l3 k5 l1 t325 x10_2 x13_3 true (wrap64 (x16_5 + 1)) a0_0 l0_1 t329 t330 ((rd_T29 l0_1 x13_3).f0) ((rd_T29 l0_1 x13_3).f1) ((rd_T29 l0_1 x13_3).f2) ((rd_T29 l0_1 x13_3).f3) ((rd_T29 l0_1 x13_3).f4) ((rd_T29 l0_1 x13_3).f5)) = some r := by rw [if_pos rfl] at H; exact H
                    clear H
                    have H := H1
                    clear H1
                    have H' := m_ H
                    clear H
                    have p350 : 0 ≤ (x16_5 : Int) := od_
                    have q350 : x16_5 < (l1.length : Int) := od_
                    obtain ⟨ad350, A350_7, c350_7, A350_10, c350_10, e350, hx350_0, hx350_1, hx350_2, hx350_3, hx350_4, hx350_5, hx350_6, hx350_7, hx350_8, hx350_9, hx350_10, hl350_7, hi350_7, hl350_10, hi350_10⟩ := at_T32 HR1.out x16_5 p350 q350
                    cases e350
                    replace hx350_0 := kp_ HB.out hx350_0
                    replace hx350_1 := kp_ HB.out hx350_1
                    replace hx350_2 := kp_ HB.out hx350_2
                    replace hx350_3 := kp_ HB.out hx350_3
                    replace hx350_4 := kp_ HB.out hx350_4
                    replace hx350_5 := kp_ HB.out hx350_5
                    replace hx350_6 := kp_ HB.out hx350_6
                    replace hx350_7 := kp_ HB.out hx350_7
                    replace hx350_8 := kp_ HB.out hx350_8
                    replace hx350_9 := kp_ HB.out hx350_9
                    replace hx350_10 := kp_ HB.out hx350_10
                    have HR350_7 := m_ hi350_7
                    have HC350_7 := m_ hl350_7
                    clear hi350_7 hl350_7
                    have HR350_10 := m_ hi350_10
                    have HC350_10 := m_ hl350_10
                    clear hi350_10 hl350_10
                    replace p350 := eq_true p350
                    replace q350 := eq_true q350
                    go_wp2_with (first | ((with_reducible refine gate_dst (N := 17) rfl ?_); refine bx_ 17 29 #[.int .u32 0, .int .u32 0, .int .u32 0, .int .i64 0, .int .u32 0, .slice none 0 0] ?_; intro gb351 hg w70 hbox hb; have BK351 := m_ (hbox); have GW351 := m_ ((gw_ : w.heap.size ≤ gb351)); have GE351 := m_ ((gw_ : w.heap.size ≤ gb351)); have NB324_351 := m_ ((gl_ : gb324 ≠ gb351)); have NB351_324 := m_ ((gr_ : gb351 ≠ gb324)); have NB339_351 := m_ ((gl_ : gb339 ≠ gb351)); have NB351_339 := m_ ((gr_ : gb351 ≠ gb339)); have NB349_351 := m_ ((gl_ : gb349 ≠ gb351)); have NB351_349 := m_ ((gr_ : gb351 ≠ gb349)); replace HO_340001 := m_ (Kd.V_below (Kd.V_elderB (Vz_ HO_340001.out) gb351 (Nat.le_of_eq hg.symm)) hb); replace BK324 := m_ (kl_ gb324 hb); replace BK339 := m_ (kl_ gb339 hb); replace BK349 := m_ (kl_ gb349 hb); replace HB := m_ (below_step bz_ hb); clear hb hbox hg; have hnb71 := NB351_324.out; have hnc71 := NB324_351.out; have hnb72 := NB351_339.out; have hnc72 := NB339_351.out; have hnb73 := NB351_349.out; have hnc73 := NB349_351.out; have hcz74 := cz6_ BK351.out))
                    go_roundg k5
                    case measure => have := HJ3.out; have := HK2.out; have := HK3.out; have := HJ51.out; have := HK5.out; omega
                    case rel => exact ⟨(true), (wrap64 (x16_5 + 1)), (by first | rfl | (simp; done) | (simp [*]; done)), (by first | rfl | (simp; done) | (simp [*]; done)), H', ⟨by have := HJ3.out; have := HK2.out; have := HK3.out; have := HJ51.out; have := HK5.out; omega⟩, ⟨Kd.V_mono (Vf_ (Kd.V_mono HO_340001.out (fun k_ hk => (⟨hk, hk.2⟩ : _ ∧ k_ ≠ gb351)))) (fun _ hk => ⟨hk.1.1.1, ⟨hk.1.1.2.1, hk.1.1.2.2⟩⟩)⟩, ⟨kb_⟩, ⟨kb_⟩, ⟨kb_⟩, ⟨bz_⟩⟩
                   ·replace c69 := Bool.eq_false_iff.mpr c69
                    subst c69
                    have H1 : (if ((rd_T32 l1 x16_5).f2.f0) = ((rd_T29 l0_1 x13_3).f0) then (if ((rd_T32 l1 x16_5).f2.f1) = ((rd_T29 l0_1 x13_3).f1) then (stolonlaw17_SwtchStays.l3 k5 l1 t325 x10_2 x13_3 (((rd_T32 l1 x16_5).f2.f2) == ((rd_T29 l0_1 x13_3).f2)) (wrap64 (x16_5 + 1)) a0_0 l0_1 t329 t330 ((rd_T29 l0_1 x13_3).f0) ((rd_T29 l0_1 x13_3).f1) ((rd_T29 l0_1 x13_3).f2) ((rd_T29 l0_1 x13_3).f3) ((rd_T29 l0_1 x13_3).f4) ((rd_T29 l0_1 x13_3).f5)) else (stolonlaw17_SwtchStays.l3 k5 l1 t325 x10_2 x13_3 false (wrap64 (x16_5 + 1)) a0_0 l0_1 t329 t330 ((rd_T29 l0_1 x13_3).f0) ((rd_T29 l0_1 x13_3).f1) ((rd_T29 l0_1 x13_3).f2) ((rd_T29 l0_1 x13_3).f3) ((rd_T29 l0_1 x13_3).f4) ((rd_T29 l0_1 x13_3).f5))) else (stolonlaw17_SwtchStays.l3 k5 l1 t325 x10_2 x13_3 false (wrap64 (x16_5 + 1)) a0_0 l0_1 t329 t330 ((rd_T29 l0_1 x13_3).f0) ((rd_T29 l0_1 x13_3).f1) ((rd_T29 l0_1 x13_3).f2) ((rd_T29 l0_1 x13_3).f3) ((rd_T29 l0_1 x13_3).f4) ((rd_T29 l0_1 x13_3).f5))) = some r := by rw [if_neg (show ¬ (false = true) by decide)] at H; exact H
                    clear H
                    have H := H1
                    clear H1
                    by_cases c75 : ((rd_T32 l1 x16_5).f2.f0) = ((rd_T29 l0_1 x13_3).f0)
                    ·rw [if_pos c75] at H
                     have c75b0 : (((rd_T32 l1 x16_5).f2.f0) == ((rd_T29 l0_1 x13_3).f0)) = true := beq_iff_eq.mpr c75
                     have c75b1 : (((rd_T32 l1 x16_5).f2.f0) != ((rd_T29 l0_1 x13_3).f0)) = false := bne_eq_false_iff_eq.mpr c75
                     clear c75
                     by_cases c76 : ((rd_T32 l1 x16_5).f2.f1) = ((rd_T29 l0_1 x13_3).f1)
                     ·rw [if_pos c76] at H
                      have c76b0 : (((rd_T32 l1 x16_5).f2.f1) == ((rd_T29 l0_1 x13_3).f1)) = true := beq_iff_eq.mpr c76
                      have c76b1 : (((rd_T32 l1 x16_5).f2.f1) != ((rd_T29 l0_1 x13_3).f1)) = false := bne_eq_false_iff_eq.mpr c76
                      clear c76
                      have H' := m_ H
                      clear H
                      have p350 : 0 ≤ (x16_5 : Int) := od_
                      have q350 : x16_5 < (l1.length : Int) := od_
                      obtain ⟨ad350, A350_7, c350_7, A350_10, c350_10, e350, hx350_0, hx350_1, hx350_2, hx350_3, hx350_4, hx350_5, hx350_6, hx350_7, hx350_8, hx350_9, hx350_10, hl350_7, hi350_7, hl350_10, hi350_10⟩ := at_T32 HR1.out x16_5 p350 q350
                      cases e350
                      replace hx350_0 := kp_ HB.out hx350_0
                      replace hx350_1 := kp_ HB.out hx350_1
                      replace hx350_2 := kp_ HB.out hx350_2
                      replace hx350_3 := kp_ HB.out hx350_3
                      replace hx350_4 := kp_ HB.out hx350_4
                      replace hx350_5 := kp_ HB.out hx350_5
                      replace hx350_6 := kp_ HB.out hx350_6
                      replace hx350_7 := kp_ HB.out hx350_7
                      replace hx350_8 := kp_ HB.out hx350_8
                      replace hx350_9 := kp_ HB.out hx350_9
                      replace hx350_10 := kp_ HB.out hx350_10
                      have HR350_7 := m_ hi350_7
                      have HC350_7 := m_ hl350_7
                      clear hi350_7 hl350_7
                      have HR350_10 := m_ hi350_10
                      have HC350_10 := m_ hl350_10
                      clear hi350_10 hl350_10
                      replace p350 := eq_true p350
                      replace q350 := eq_true q350
                      go_wp2_with (first | ((with_reducible refine gate_dst (N := 17) rfl ?_); refine bx_ 17 29 #[.int .u32 0, .int .u32 0, .int .u32 0, .int .i64 0, .int .u32 0, .slice none 0 0] ?_; intro gb351 hg w77 hbox hb; have BK351 := m_ (hbox); have GW351 := m_ ((gw_ : w.heap.size ≤ gb351)); have GE351 := m_ ((gw_ : w.heap.size ≤ gb351)); have NB324_351 := m_ ((gl_ : gb324 ≠ gb351)); have NB351_324 := m_ ((gr_ : gb351 ≠ gb324)); have NB339_351 := m_ ((gl_ : gb339 ≠ gb351)); have NB351_339 := m_ ((gr_ : gb351 ≠ gb339)); have NB349_351 := m_ ((gl_ : gb349 ≠ gb351)); have NB351_349 := m_ ((gr_ : gb351 ≠ gb349)); replace HO_340001 := m_ (Kd.V_below (Kd.V_elderB (Vz_ HO_340001.out) gb351 (Nat.le_of_eq hg.symm)) hb); replace BK324 := m_ (kl_ gb324 hb); replace BK339 := m_ (kl_ gb339 hb); replace BK349 := m_ (kl_ gb349 hb); replace HB := m_ (below_step bz_ hb); clear hb hbox hg; have hnb78 := NB351_324.out; have hnc78 := NB324_351.out; have hnb79 := NB351_339.out; have hnc79 := NB339_351.out; have hnb80 := NB351_349.out; have hnc80 := NB349_351.out; have hcz81 := cz6_ BK351.out; have hnb82 := NB349_324.out; have hnc82 := NB324_349.out; have hnb83 := NB349_339.out; have hnc83 := NB339_349.out; have hcz84 := cz6_ BK349.out))
                      go_roundg k5
                      case measure => have := HJ3.out; have := HK2.out; have := HK3.out; have := HJ51.out; have := HK5.out; omega
                      case rel => exact ⟨((((rd_T32 l1 x16_5).f2.f2) == ((rd_T29 l0_1 x13_3).f2))), (wrap64 (x16_5 + 1)), (by first | rfl | (simp; done) | (simp [*]; done)), (by first | rfl | (simp; done) | (simp [*]; done)), H', ⟨by have := HJ3.out; have := HK2.out; have := HK3.out; have := HJ51.out; have := HK5.out; omega⟩, ⟨Kd.V_mono (Vf_ (Kd.V_mono HO_340001.out (fun k_ hk => (⟨hk, hk.2⟩ : _ ∧ k_ ≠ gb351)))) (fun _ hk => ⟨hk.1.1.1, ⟨hk.1.1.2.1, hk.1.1.2.2⟩⟩)⟩, ⟨kb_⟩, ⟨kb_⟩, ⟨kb_⟩, ⟨bz_⟩⟩
                     ·rw [if_neg c76] at H
                      have c76b0 : (((rd_T32 l1 x16_5).f2.f1) == ((rd_T29 l0_1 x13_3).f1)) = false := beq_eq_false_iff_ne.mpr c76
                      have c76b1 : (((rd_T32 l1 x16_5).f2.f1) != ((rd_T29 l0_1 x13_3).f1)) = true := bne_iff_ne.mpr c76
                      have H' := m_ H
                      clear H
                      have p350 : 0 ≤ (x16_5 : Int) := od_
                      have q350 : x16_5 < (l1.length : Int) := od_
                      obtain ⟨ad350, A350_7, c350_7, A350_10, c350_10, e350, hx350_0, hx350_1, hx350_2, hx350_3, hx350_4, hx350_5, hx350_6, hx350_7, hx350_8, hx350_9, hx350_10, hl350_7, hi350_7, hl350_10, hi350_10⟩ := at_T32 HR1.out x16_5 p350 q350
                      cases e350
                      replace hx350_0 := kp_ HB.out hx350_0
                      replace hx350_1 := kp_ HB.out hx350_1
                      replace hx350_2 := kp_ HB.out hx350_2
                      replace hx350_3 := kp_ HB.out hx350_3
                      replace hx350_4 := kp_ HB.out hx350_4
                      replace hx350_5 := kp_ HB.out hx350_5
                      replace hx350_6 := kp_ HB.out hx350_6
                      replace hx350_7 := kp_ HB.out hx350_7
                      replace hx350_8 := kp_ HB.out hx350_8
                      replace hx350_9 := kp_ HB.out hx350_9
                      replace hx350_10 := kp_ HB.out hx350_10
                      have HR350_7 := m_ hi350_7
                      have HC350_7 := m_ hl350_7
                      clear hi350_7 hl350_7
                      have HR350_10 := m_ hi350_10
                      have HC350_10 := m_ hl350_10
                      clear hi350_10 hl350_10
                      replace p350 := eq_true p350
                      replace q350 := eq_true q350
                      go_wp2_with (first | ((with_reducible refine gate_dst (N := 17) rfl ?_); refine bx_ 17 29 #[.int .u32 0, .int .u32 0, .int .u32 0, .int .i64 0, .int .u32 0, .slice none 0 0] ?_; intro gb351 hg w85 hbox hb; have BK351 := m_ (hbox); have GW351 := m_ ((gw_ : w.heap.size ≤ gb351)); have GE351 := m_ ((gw_ : w.heap.size ≤ gb351)); have NB324_351 := m_ ((gl_ : gb324 ≠ gb351)); have NB351_324 := m_ ((gr_ : gb351 ≠ gb324)); have NB339_351 := m_ ((gl_ : gb339 ≠ gb351)); have NB351_339 := m_ ((gr_ : gb351 ≠ gb339)); have NB349_351 := m_ ((gl_ : gb349 ≠ gb351)); have NB351_349 := m_ ((gr_ : gb351 ≠ gb349)); replace HO_340001 := m_ (Kd.V_below (Kd.V_elderB (Vz_ HO_340001.out) gb351 (Nat.le_of_eq hg.symm)) hb); replace BK324 := m_ (kl_ gb324 hb); replace BK339 := m_ (kl_ gb339 hb); replace BK349 := m_ (kl_ gb349 hb); replace HB := m_ (below_step bz_ hb); clear hb hbox hg; have hnb86 := NB351_324.out; have hnc86 := NB324_351.out; have hnb87 := NB351_339.out; have hnc87 := NB339_351.out; have hnb88 := NB351_349.out; have hnc88 := NB349_351.out; have hcz89 := cz6_ BK351.out; have hnb90 := NB349_324.out; have hnc90 := NB324_349.out; have hnb91 := NB349_339.out; have hnc91 := NB339_349.out; have hcz92 := cz6_ BK349.out))
                      go_roundg k5
                      case measure => have := HJ3.out; have := HK2.out; have := HK3.out; have := HJ51.out; have := HK5.out; omega
                      case rel => exact ⟨(false), (wrap64 (x16_5 + 1)), (by first | rfl | (simp; done) | (simp [*]; done)), (by first | rfl | (simp; done) | (simp [*]; done)), H', ⟨by have := HJ3.out; have := HK2.out; have := HK3.out; have := HJ51.out; have := HK5.out; omega⟩, ⟨Kd.V_mono (Vf_ (Kd.V_mono HO_340001.out (fun k_ hk => (⟨hk, hk.2⟩ : _ ∧ k_ ≠ gb351)))) (fun _ hk => ⟨hk.1.1.1, ⟨hk.1.1.2.1, hk.1.1.2.2⟩⟩)⟩, ⟨kb_⟩, ⟨kb_⟩, ⟨kb_⟩, ⟨bz_⟩⟩
                    ·rw [if_neg c75] at H
                     have c75b0 : (((rd_T32 l1 x16_5).f2.f0) == ((rd_T29 l0_1 x13_3).f0)) = false := beq_eq_false_iff_ne.mpr c75
                     have c75b1 : (((rd_T32 l1 x16_5).f2.f0) != ((rd_T29 l0_1 x13_3).f0)) = true := bne_iff_ne.mpr c75
                     have H' := m_ H
                     clear H
                     have p350 : 0 ≤ (x16_5 : Int) := od_
                     have q350 : x16_5 < (l1.length : Int) := od_
                     obtain ⟨ad350, A350_7, c350_7, A350_10, c350_10, e350, hx350_0, hx350_1, hx350_2, hx350_3, hx350_4, hx350_5, hx350_6, hx350_7, hx350_8, hx350_9, hx350_10, hl350_7, hi350_7, hl350_10, hi350_10⟩ := at_T32 HR1.out x16_5 p350 q350
                     cases e350
                     replace hx350_0 := kp_ HB.out hx350_0
                     replace hx350_1 := kp_ HB.out hx350_1
                     replace hx350_2 := kp_ HB.out hx350_2
                     replace hx350_3 := kp_ HB.out hx350_3
                     replace hx350_4 := kp_ HB.out hx350_4
                     replace hx350_5 := kp_ HB.out hx350_5
                     replace hx350_6 := kp_ HB.out hx350_6
                     replace hx350_7 := kp_ HB.out hx350_7
                     replace hx350_8 := kp_ HB.out hx350_8
                     replace hx350_9 := kp_ HB.out hx350_9
                     replace hx350_10 := kp_ HB.out hx350_10
                     have HR350_7 := m_ hi350_7
                     have HC350_7 := m_ hl350_7
                     clear hi350_7 hl350_7
                     have HR350_10 := m_ hi350_10
                     have HC350_10 := m_ hl350_10
                     clear hi350_10 hl350_10
                     replace p350 := eq_true p350
                     replace q350 := eq_true q350
                     go_wp2_with (first | ((with_reducible refine gate_dst (N := 17) rfl ?_); refine bx_ 17 29 #[.int .u32 0, .int .u32 0, .int .u32 0, .int .i64 0, .int .u32 0, .slice none 0 0] ?_; intro gb351 hg w93 hbox hb; have BK351 := m_ (hbox); have GW351 := m_ ((gw_ : w.heap.size ≤ gb351)); have GE351 := m_ ((gw_ : w.heap.size ≤ gb351)); have NB324_351 := m_ ((gl_ : gb324 ≠ gb351)); have NB351_324 := m_ ((gr_ : gb351 ≠ gb324)); have NB339_351 := m_ ((gl_ : gb339 ≠ gb351)); have NB351_339 := m_ ((gr_ : gb351 ≠ gb339)); have NB349_351 := m_ ((gl_ : gb349 ≠ gb351)); have NB351_349 := m_ ((gr_ : gb351 ≠ gb349)); replace HO_340001 := m_ (Kd.V_below (Kd.V_elderB (Vz_ HO_340001.out) gb351 (Nat.le_of_eq hg.symm)) hb); replace BK324 := m_ (kl_ gb324 hb); replace BK339 := m_ (kl_ gb339 hb); replace BK349 := m_ (kl_ gb349 hb); replace HB := m_ (below_step bz_ hb); clear hb hbox hg; have hnb94 := NB351_324.out; have hnc94 := NB324_351.out; have hnb95 := NB351_339.out; have hnc95 := NB339_351.out; have hnb96 := NB351_349.out; have hnc96 := NB349_351.out; have hcz97 := cz6_ BK351.out; have hnb98 := NB349_324.out; have hnc98 := NB324_349.out; have hnb99 := NB349_339.out; have hnc99 := NB339_349.out; have hcz100 := cz6_ BK349.out))
                     go_roundg k5
                     case measure => have := HJ3.out; have := HK2.out; have := HK3.out; have := HJ51.out; have := HK5.out; omega
                     case rel => exact ⟨(false), (wrap64 (x16_5 + 1)), (by first | rfl | (simp; done) | (simp [*]; done)), (by first | rfl | (simp; done) | (simp [*]; done)), H', ⟨by have := HJ3.out; have := HK2.out; have := HK3.out; have := HJ51.out; have := HK5.out; omega⟩, ⟨Kd.V_mono (Vf_ (Kd.V_mono HO_340001.out (fun k_ hk => (⟨hk, hk.2⟩ : _ ∧ k_ ≠ gb351)))) (fun _ hk => ⟨hk.1.1.1, ⟨hk.1.1.2.1, hk.1.1.2.2⟩⟩)⟩, ⟨kb_⟩, ⟨kb_⟩, ⟨kb_⟩, ⟨bz_⟩⟩
                  ·rw [if_neg c68] at H
                   exact absurd H (by simp)
                 ·rw [if_neg c67] at H
                  have c67b0 : decide (x16_5 < (l1.length : Int)) = false := decide_eq_false c67
                  clear c67
                  have H' := m_ H
                  clear H
                  go_wp2
                  go_loopg [18, 19] k5 (fun kq v18 v19 w' => ∃ (x18_6 : Bool) (x19_6 : Int), v18 = .bool x18_6 ∧ v19 = .int .i64 x19_6 ∧ Aside0 (stolonlaw17_SwtchStays.l4 kq l1 t325 x10_2 x13_3 x15_5 x18_6 x19_6 a0_0 l0_1 t329 t330 ((rd_T29 l0_1 x13_3).f0) ((rd_T29 l0_1 x13_3).f1) ((rd_T29 l0_1 x13_3).f2) ((rd_T29 l0_1 x13_3).f3) ((rd_T29 l0_1 x13_3).f4) ((rd_T29 l0_1 x13_3).f5) = some r) ∧ Aside0 (kq ≤ k5) ∧ Aside0 (Kd.V k29 29 w' w.heap.size (fun k_ => k_ ≠ gb324 ∧ k_ ≠ gb339 ∧ k_ ≠ gb349) (.slice Ao26 t330.length co26) t330) ∧ Aside0 (w'.heap[gb324]? = some (.cells #[.int .i64 a0_0, (.slice (some ad348) l0_1.length c0_1)] 24 (0, 0))) ∧ Aside0 (w'.heap[gb339]? = some (.cells #[.int .i64 t329, (.slice Ao26 t330.length co26)] 24 (0, 0))) ∧ Aside0 (w'.heap[gb349]? = some (.cells #[.int .u32 ((rd_T29 l0_1 x13_3).f0), .int .u32 ((rd_T29 l0_1 x13_3).f1), .int .u32 ((rd_T29 l0_1 x13_3).f2), .int .i64 ((rd_T29 l0_1 x13_3).f3), .int .u32 ((rd_T29 l0_1 x13_3).f4), (.slice A348_5 ((rd_T29 l0_1 x13_3).f5).length c348_5)] 29 (0, 0))) ∧ Aside0 (Below w.heap.size w w'))
                  case atStart => exact ⟨(false), (0), (by first | rfl | (simp; done) | (simp [*]; done)), (by first | rfl | (simp; done) | (simp [*]; done)), H', ⟨Nat.le_refl _⟩, ⟨Vz_ HO_340001.out⟩, ⟨kz_⟩, ⟨kz_⟩, ⟨kz_⟩, ⟨bz_⟩⟩
                  case round =>
                   clear H'
                   try clear c1
                   try clear c2
                   try clear p2
                   try clear c3
                   try clear p3
                   try clear q3
                   try clear hx3
                   try clear c4
                   try clear c5
                   try clear c6
                   try clear p6
                   try clear c7
                   try clear c8
                   try clear c9
                   try clear c10
                   try clear c11
                   try clear c15
                   try clear c17
                   try clear c19
                   try clear c20
                   try clear c24
                   try clear c28
                   try clear c28b0
                   try clear c29
                   try clear c29b0
                   try clear c33
                   try clear c34
                   try clear p34
                   try clear q34
                   try clear hx34
                   try clear c35
                   try clear p35
                   try clear q35
                   try clear hx35
                   try clear c36
                   try clear c37
                   try clear c37b0
                   try clear c38
                   try clear c38b0
                   try clear c39
                   try clear c40
                   try clear c40b0
                   try clear c41
                   try clear c41b0
                   try clear c42
                   try clear c42b0
                   try clear c42b1
                   try clear c43
                   try clear c43b0
                   try clear c44
                   try clear c44b0
                   try clear c45
                   try clear c45b0
                   try clear c46
                   try clear c46b0
                   try clear c46b1
                   try clear c50
                   try clear c50b0
                   try clear c51
                   try clear c53
                   try clear c53b0
                   try clear c54
                   try clear c56
                   try clear c58
                   try clear c59
                   try clear c59b0
                   try clear c60
                   try clear c60b0
                   try clear c61
                   try clear c64
                   try clear p64
                   try clear c65
                   try clear c67
                   try clear c67b0
                   try clear c68
                   try clear c68b0
                   try clear c69
                   try clear c71
                   try clear c72
                   try clear c73
                   try clear c75
                   try clear c75b0
                   try clear c75b1
                   try clear c76
                   try clear c76b0
                   try clear c76b1
                   try clear c78
                   try clear c79
                   try clear c80
                   try clear c82
                   try clear c83
                   try clear c86
                   try clear c87
                   try clear c88
                   try clear c90
                   try clear c91
                   try clear c94
                   try clear c95
                   try clear c96
                   try clear c98
                   try clear c99
                   (try clear hcz100)
                   (try clear hcz12)
                   (try clear hcz14)
                   (try clear hcz16)
                   (try clear hcz21)
                   (try clear hcz25)
                   (try clear hcz55)
                   (try clear hcz57)
                   (try clear hcz62)
                   (try clear hcz66)
                   (try clear hcz74)
                   (try clear hcz81)
                   (try clear hcz84)
                   (try clear hcz89)
                   (try clear hcz92)
                   (try clear hcz97)
                   try clear hx341_0
                   try clear hx341_1
                   try clear hx341_10
                   try clear hx341_2
                   try clear hx341_3
                   try clear hx341_4
                   try clear hx341_5
                   try clear hx341_6
                   try clear hx341_7
                   try clear hx341_8
                   try clear hx341_9
                   try clear hx343_0
                   try clear hx343_1
                   try clear hx343_10
                   try clear hx343_2
                   try clear hx343_3
                   try clear hx343_4
                   try clear hx343_5
                   try clear hx343_6
                   try clear hx343_7
                   try clear hx343_8
                   try clear hx343_9
                   try clear hx344_0
                   try clear hx344_1
                   try clear hx344_10
                   try clear hx344_2
                   try clear hx344_3
                   try clear hx344_4
                   try clear hx344_5
                   try clear hx344_6
                   try clear hx344_7
                   try clear hx344_8
                   try clear hx344_9
                   try clear hx345_0
                   try clear hx345_1
                   try clear hx345_10
                   try clear hx345_2
                   try clear hx345_3
                   try clear hx345_4
                   try clear hx345_5
                   try clear hx345_6
                   try clear hx345_7
                   try clear hx345_8
                   try clear hx345_9
                   try clear hx346_0
                   try clear hx346_1
                   try clear hx346_10
                   try clear hx346_2
                   try clear hx346_3
                   try clear hx346_4
                   try clear hx346_5
                   try clear hx346_6
                   try clear hx346_7
                   try clear hx346_8
                   try clear hx346_9
                   try clear hx347_0
                   try clear hx347_1
                   try clear hx347_10
                   try clear hx347_2
                   try clear hx347_3
                   try clear hx347_4
                   try clear hx347_5
                   try clear hx347_6
                   try clear hx347_7
                   try clear hx347_8
                   try clear hx347_9
                   try clear hx348_0
                   try clear hx348_1
                   try clear hx348_2
                   try clear hx348_3
                   try clear hx348_4
                   try clear hx348_5
                   try clear hx350_0
                   try clear hx350_1
                   try clear hx350_10
                   try clear hx350_2
                   try clear hx350_3
                   try clear hx350_4
                   try clear hx350_5
                   try clear hx350_6
                   try clear hx350_7
                   try clear hx350_8
                   try clear hx350_9
                   try clear p2
                   try clear p3
                   try clear p34
                   try clear p341
                   try clear p343
                   try clear p344
                   try clear p345
                   try clear p346
                   try clear p347
                   try clear p348
                   try clear p350
                   try clear p6
                   try clear p64
                   try clear q3
                   try clear q34
                   try clear q341
                   try clear q343
                   try clear q344
                   try clear q345
                   try clear q346
                   try clear q347
                   try clear q348
                   try clear q350
                   obtain ⟨x18_6, x19_6, rfl, rfl, HA, HK6, HO_340001, BK324, BK339, BK349, HB⟩ := hrel
                   cases gk with
                   | zero => exact absurd HA.out (by simp [stolonlaw17_SwtchStays.l4])
                   | succ k6 =>
                    have H := HA.out
                    clear HA
                    simp only [stolonlaw17_SwtchStays.l4] at H
                    by_cases c101 : x19_6 < (t330.length : Int)
                    ·rw [if_pos c101] at H
                     have c101b0 : decide (x19_6 < (t330.length : Int)) = true := decide_eq_true c101
                     clear c101
                     by_cases c102 : x18_6 = true
                     ·subst c102
                      have H1 : (stolonlaw17_SwtchStays.l4 k6 l1 t325 x10_2 x13_3 x15_5 true (wrap64 (x19_6 + 1)) a0_0 l0_1 t329 t330 ((rd_T29 l0_1 x13_3).f0) ((rd_T29 l0_1 x13_3).f1) ((rd_T29 l0_1 x13_3).f2) ((rd_T29 l0_1 x13_3).f3) ((rd_T29 l0_1 x13_3).f4) ((rd_T29 l0_1 x13_3).f5)) = some r := by rw [if_pos rfl] at H; exact H
                      clear H
                      have H := H1
                      clear H1
                      have H' := m_ H
                      clear H
                      have hnb103 := NB339_324.out
                      have hnc103 := NB324_339.out
                      have hnb104 := NB339_349.out
                      have hnc104 := NB349_339.out
                      have hcz105 := cz2_ BK339.out
                      try go_wp2
                      replace HO_340001 := m_ (Kd.V_drew HO_340001.out)
                      replace BK324 := m_ (blk_drew BK324.out)
                      replace BK339 := m_ (blk_drew BK339.out)
                      replace BK349 := m_ (blk_drew BK349.out)
                      replace HB := m_ (below_drew1 HB.out)
                      refine start_ (n := 11) (S := fun w' => True) (ds := []) (bs_ 11 0) (by kernel_rfl) rfl rfl trivial (fun hHeld => ?_); refine with_tabW stolonlaw17_SwtchStays.tab34 stolonlaw17_SwtchStays.bits34 (fun HT_ HW_ => ?_)
                      generalize wr.drew = w106 at HO_340001 BK324 BK339 BK349 HB hHeld ⊢
                      refine pz_ 0 168 ?_
                      refine pz_ 1 169 ?_
                      refine pz_ 2 170 ?_
                      refine pz_ 3 171 ?_
                      refine pz_ 4 172 ?_
                      refine pz_ 5 173 ?_
                      refine pz_ 6 174 ?_
                      refine pz_ 7 175 ?_
                      refine pz_ 8 176 ?_
                      refine pz_ 9 177 ?_
                      refine pz_ 10 18 ?_
                      refine dz_ ?_
                      try go_wp2
                      go_roundg k6
                      case measure => have := HJ3.out; have := HK2.out; have := HK3.out; have := HJ51.out; have := HK5.out; have := HK6.out; omega
                      case rel => exact ⟨(true), (wrap64 (x19_6 + 1)), (by first | rfl | (simp; done) | (simp [*]; done)), (by first | rfl | (simp; done) | (simp [*]; done)), H', ⟨by have := HJ3.out; have := HK2.out; have := HK3.out; have := HJ51.out; have := HK5.out; have := HK6.out; omega⟩, ⟨Vz_ HO_340001.out⟩, ⟨kz_⟩, ⟨kz_⟩, ⟨kz_⟩, ⟨bz_⟩⟩
                     ·replace c102 := Bool.eq_false_iff.mpr c102
                      subst c102
                      have H1 : (if 0 ≤ x19_6 then ((stolonref15_Same.f k6 ((rd_T29 t330 x19_6).f0) ((rd_T29 t330 x19_6).f1) ((rd_T29 t330 x19_6).f2) ((rd_T29 t330 x19_6).f3) ((rd_T29 t330 x19_6).f4) ((rd_T29 t330 x19_6).f5) ((rd_T29 l0_1 x13_3).f0) ((rd_T29 l0_1 x13_3).f1) ((rd_T29 l0_1 x13_3).f2) ((rd_T29 l0_1 x13_3).f3) ((rd_T29 l0_1 x13_3).f4) ((rd_T29 l0_1 x13_3).f5)).bind fun t353 => (stolonlaw17_SwtchStays.l4 k6 l1 t325 x10_2 x13_3 x15_5 t353 (wrap64 (x19_6 + 1)) a0_0 l0_1 t329 t330 ((rd_T29 l0_1 x13_3).f0) ((rd_T29 l0_1 x13_3).f1) ((rd_T29 l0_1 x13_3).f2) ((rd_T29 l0_1 x13_3).f3) ((rd_T29 l0_1 x13_3).f4) ((rd_T29 l0_1 x13_3).f5))) else (none)) = some r := by rw [if_neg (show ¬ (false = true) by decide)] at H; exact H
                      clear H
                      have H := H1
                      clear H1
                      by_cases c107 : 0 ≤ x19_6
                      ·rw [if_pos c107] at H
                       have c107b0 : decide (0 ≤ x19_6) = true := decide_eq_true c107
                       clear c107
                       replace H := Option.bind_eq_some_iff.mp H
                       obtain ⟨t353, A1080, H⟩ := H
                       replace H : (stolonlaw17_SwtchStays.l4 k6 l1 t325 x10_2 x13_3 x15_5 t353 (wrap64 (x19_6 + 1)) a0_0 l0_1 t329 t330 ((rd_T29 l0_1 x13_3).f0) ((rd_T29 l0_1 x13_3).f1) ((rd_T29 l0_1 x13_3).f2) ((rd_T29 l0_1 x13_3).f3) ((rd_T29 l0_1 x13_3).f4) ((rd_T29 l0_1 x13_3).f5)) = some r := H
                       have A108 := m_ A1080
                       clear A1080
                       have H' := m_ H
                       clear H
                       have hnb109 := NB339_324.out
                       have hnc109 := NB324_339.out
                       have hnb110 := NB339_349.out
                       have hnc110 := NB349_339.out
                       have hcz111 := cz2_ BK339.out
                       try go_wp2
                       replace HO_340001 := m_ (Kd.V_drew HO_340001.out)
                       replace BK324 := m_ (blk_drew BK324.out)
                       replace BK339 := m_ (blk_drew BK339.out)
                       replace BK349 := m_ (blk_drew BK349.out)
                       replace HB := m_ (below_drew1 HB.out)
                       have p352 : 0 ≤ (x19_6 : Int) := od_
                       have q352 : x19_6 < (t330.length : Int) := od_
                       obtain ⟨ad352, A352_5, c352_5, e352, hx352_0, hx352_1, hx352_2, hx352_3, hx352_4, hx352_5, hl352_5, hi352_5⟩ := at_T29 (Kd.V_reads' HO_340001.out).2.2 x19_6 p352 q352
                       cases e352
                       obtain ⟨ce352, hce352, hMe352, hcc352⟩ := Kd.V_get HO_340001.out z29 x19_6 p352 (by first | exact q352 | exact od_ | (have e_ := (Kd.V_reads' HO_340001.out).1; omega))
                       obtain ⟨ua352_5, uc352_5, rfl, ul352_5, ge352_5⟩ := k29_openF hMe352
                       have hv352_5 := hcc352 5 _ rfl
                       rw [add_field _ _ 5 (by omega)] at hv352_5
                       replace hv352_5 := Option.some.inj (hv352_5.symm.trans hx352_5)
                       injection hv352_5 with hva_ hvn_ hvc_
                       rw [hva_] at ge352_5
                       rw [hvc_] at ul352_5
                       have HL352_5 := m_ (show Kd.V k74 74 _ w.heap.size _ _ ((rd_T29 t330 x19_6).f5) from Kd.V_mk ul352_5 ge352_5)
                       clear hva_ hvn_ hvc_ ge352_5 ul352_5 hcc352 hce352
                       have HR352_5 := m_ hi352_5
                       have HC352_5 := m_ hl352_5
                       clear hi352_5 hl352_5
                       replace p352 := eq_true p352
                       replace q352 := eq_true q352
                       refine start_ (n := 11) (S := fun w' => w'.cell? ⟨gb339, 0, none⟩ = some (.int .i64 t329) ∧ w'.cell? ⟨gb339, 1, none⟩ = some (.slice (some ad352) t330.length co26) ∧ w'.cell? ⟨gb349, 0, none⟩ = some (.int .u32 ((rd_T29 l0_1 x13_3).f0)) ∧ w'.cell? ⟨gb349, 1, none⟩ = some (.int .u32 ((rd_T29 l0_1 x13_3).f1)) ∧ w'.cell? ⟨gb349, 2, none⟩ = some (.int .u32 ((rd_T29 l0_1 x13_3).f2)) ∧ w'.cell? ⟨gb349, 3, none⟩ = some (.int .i64 ((rd_T29 l0_1 x13_3).f3)) ∧ w'.cell? ⟨gb349, 4, none⟩ = some (.int .u32 ((rd_T29 l0_1 x13_3).f4)) ∧ w'.cell? ⟨gb349, 5, none⟩ = some (.slice A348_5 ((rd_T29 l0_1 x13_3).f5).length c348_5) ∧ w'.cell? (ad352.add ((x19_6).toNat * 6)) = some (.int .u32 ((rd_T29 t330 x19_6).f0)) ∧ w'.cell? ⟨(ad352.add ((x19_6).toNat * 6)).block, (ad352.add ((x19_6).toNat * 6)).off + 1, none⟩ = some (.int .u32 ((rd_T29 t330 x19_6).f1)) ∧ w'.cell? ⟨(ad352.add ((x19_6).toNat * 6)).block, (ad352.add ((x19_6).toNat * 6)).off + 2, none⟩ = some (.int .u32 ((rd_T29 t330 x19_6).f2)) ∧ w'.cell? ⟨(ad352.add ((x19_6).toNat * 6)).block, (ad352.add ((x19_6).toNat * 6)).off + 3, none⟩ = some (.int .i64 ((rd_T29 t330 x19_6).f3)) ∧ w'.cell? ⟨(ad352.add ((x19_6).toNat * 6)).block, (ad352.add ((x19_6).toNat * 6)).off + 4, none⟩ = some (.int .u32 ((rd_T29 t330 x19_6).f4)) ∧ w'.cell? ⟨(ad352.add ((x19_6).toNat * 6)).block, (ad352.add ((x19_6).toNat * 6)).off + 5, none⟩ = some (.slice A352_5 ((rd_T29 t330 x19_6).f5).length c352_5)) (ds := []) (bs_ 11 0) (by kernel_rfl) rfl rfl ⟨bc_ BK339.out 0, bc_ BK339.out 1, bc_ BK349.out 0, bc_ BK349.out 1, bc_ BK349.out 2, bc_ BK349.out 3, bc_ BK349.out 4, bc_ BK349.out 5, hx352_0, hx352_1, hx352_2, hx352_3, hx352_4, hx352_5⟩ (fun hHeld => ?_); refine with_tabW stolonlaw17_SwtchStays.tab34 stolonlaw17_SwtchStays.bits34 (fun HT_ HW_ => ?_)
                       generalize wr.drew = w112 at HO_340001 BK324 BK339 BK349 HB HL352_5 HR352_5 hx352_0 hx352_1 hx352_2 hx352_3 hx352_4 hx352_5 hHeld ⊢
                       refine pz_ 0 168 ?_
                       refine pz_ 1 169 ?_
                       refine pz_ 2 170 ?_
                       refine pz_ 4 172 ?_
                       refine tz_ 3 171 ?_
                       refine pz_ 5 173 ?_
                       refine tz_ 6 174 ?_
                       refine tz_ 7 175 ?_
                       refine oz_ 8 (some 176) (fun K hK => ?_)
                       refine gz_ Try.func20 #[.agg #[.int .u32 ((rd_T29 t330 x19_6).f0), .int .u32 ((rd_T29 t330 x19_6).f1), .int .u32 ((rd_T29 t330 x19_6).f2), .int .i64 ((rd_T29 t330 x19_6).f3), .int .u32 ((rd_T29 t330 x19_6).f4), .slice A352_5 ((rd_T29 t330 x19_6).f5).length c352_5], .agg #[.int .u32 ((rd_T29 l0_1 x13_3).f0), .int .u32 ((rd_T29 l0_1 x13_3).f1), .int .u32 ((rd_T29 l0_1 x13_3).f2), .int .i64 ((rd_T29 l0_1 x13_3).f3), .int .u32 ((rd_T29 l0_1 x13_3).f4), .slice A348_5 ((rd_T29 l0_1 x13_3).f5).length c348_5]] ?_
                       with_reducible refine (stolonref15_Same.calls k6 ((rd_T29 t330 x19_6).f0) ((rd_T29 t330 x19_6).f1) ((rd_T29 t330 x19_6).f2) ((rd_T29 t330 x19_6).f3) ((rd_T29 t330 x19_6).f4) _ _ ((rd_T29 t330 x19_6).f5) ((rd_T29 l0_1 x13_3).f0) ((rd_T29 l0_1 x13_3).f1) ((rd_T29 l0_1 x13_3).f2) ((rd_T29 l0_1 x13_3).f3) ((rd_T29 l0_1 x13_3).f4) _ _ ((rd_T29 l0_1 x13_3).f5) t353 _ ?side1 ?side2 ?side3 ?side4 A108.out).mono ?_
                       (case side1 => exact Cd_ (by repeat (first | (with_reducible exact HR352_5.out) | (with_reducible refine Kd.C_alloc ?_ _) | (with_reducible refine Kd.C_drewN ?_ _) | (with_reducible refine Kd.C_drew ?_) | exact HR352_5.out)))
                       (case side2 => exact HC352_5.out)
                       (case side3 => exact Cd_ (Kd.C_below HR348_5.out HB.out))
                       (case side4 => exact HC348_5.out)
                       rintro e w113 ⟨rfl, hb⟩
                       have HS8_ := (hb.cell (World.block_lt_of_cell? _ _ (hHeld.2.2.2.2.2.2.2.2.1))).trans (hHeld.2.2.2.2.2.2.2.2.1)
                       have HS9_ := (hb.cell (World.block_lt_of_cell? _ _ (hHeld.2.2.2.2.2.2.2.2.2.1))).trans (hHeld.2.2.2.2.2.2.2.2.2.1)
                       have HS10_ := (hb.cell (World.block_lt_of_cell? _ _ (hHeld.2.2.2.2.2.2.2.2.2.2.1))).trans (hHeld.2.2.2.2.2.2.2.2.2.2.1)
                       have HS11_ := (hb.cell (World.block_lt_of_cell? _ _ (hHeld.2.2.2.2.2.2.2.2.2.2.2.1))).trans (hHeld.2.2.2.2.2.2.2.2.2.2.2.1)
                       have HS12_ := (hb.cell (World.block_lt_of_cell? _ _ (hHeld.2.2.2.2.2.2.2.2.2.2.2.2.1))).trans (hHeld.2.2.2.2.2.2.2.2.2.2.2.2.1)
                       have HS13_ := (hb.cell (World.block_lt_of_cell? _ _ (hHeld.2.2.2.2.2.2.2.2.2.2.2.2.2))).trans (hHeld.2.2.2.2.2.2.2.2.2.2.2.2.2)
                       refine ⟨_, rfl, ?_⟩
                       replace HO_340001 := m_ (Kd.V_below (Vz_ HO_340001.out) hb)
                       replace HL352_5 := m_ (Kd.V_below (Vz_ HL352_5.out) hb)
                       replace BK324 := m_ (kl_ gb324 hb)
                       replace BK339 := m_ (kl_ gb339 hb)
                       replace BK349 := m_ (kl_ gb349 hb)
                       replace HR352_5 := m_ (Kd.C_below (by repeat (first | (with_reducible exact HR352_5.out) | (with_reducible refine Kd.C_alloc ?_ _) | (with_reducible refine Kd.C_drewN ?_ _) | (with_reducible refine Kd.C_drew ?_) | exact HR352_5.out)) hb)
                       replace HB := m_ (below_step bz_ hb)
                       (try clear hb)
                       (try clear hb2)
                       (try clear hk)
                       (try clear hi)
                       refine hK.out _ _ ⟨bc_ BK339.out 0, bc_ BK339.out 1, bc_ BK349.out 0, bc_ BK349.out 1, bc_ BK349.out 2, bc_ BK349.out 3, bc_ BK349.out 4, bc_ BK349.out 5, HS8_, HS9_, HS10_, HS11_, HS12_, HS13_⟩ (fun hHeld => ?_)
                       clear hK K
                       refine nz_ (some 176) ?_
                       refine pz_ 9 177 ?_
                       refine pz_ 10 18 ?_
                       refine dz_ ?_
                       try go_wp2
                       go_roundg k6
                       case measure => have := HJ3.out; have := HK2.out; have := HK3.out; have := HJ51.out; have := HK5.out; have := HK6.out; omega
                       case rel => exact ⟨(t353), (wrap64 (x19_6 + 1)), (by first | rfl | (simp; done) | (simp [*]; done)), (by first | rfl | (simp; done) | (simp [*]; done)), H', ⟨by have := HJ3.out; have := HK2.out; have := HK3.out; have := HJ51.out; have := HK5.out; have := HK6.out; omega⟩, ⟨Vz_ HO_340001.out⟩, ⟨kz_⟩, ⟨kz_⟩, ⟨kz_⟩, ⟨bz_⟩⟩
                      ·rw [if_neg c107] at H
                       exact absurd H (by simp)
                    ·rw [if_neg c101] at H
                     have c101b0 : decide (x19_6 < (t330.length : Int)) = false := decide_eq_false c101
                     clear c101
                     by_cases c114 : x15_5 = true
                     ·subst c114
                      have H1 : (stolonlaw17_SwtchStays.l2 k6 l1 t325 x10_2 (wrap64 (x13_3 + 1)) a0_0 l0_1 t329 t330) = some r := by rw [if_pos rfl] at H; exact H
                      clear H
                      have H := H1
                      clear H1
                      have H' := m_ H
                      clear H
                      have hnb115 := NB339_324.out
                      have hnc115 := NB324_339.out
                      have hnb116 := NB339_349.out
                      have hnc116 := NB349_339.out
                      have hcz117 := cz2_ BK339.out
                      go_wp2
                      go_roundg k6
                      case measure => have := HJ3.out; have := HK2.out; have := HK3.out; have := HJ51.out; have := HK5.out; have := HK6.out; omega
                      case rel => exact ⟨(wrap64 (x13_3 + 1)), (by first | rfl | (simp; done) | (simp [*]; done)), H', ⟨by have := HJ3.out; have := HK2.out; have := HK3.out; have := HJ51.out; have := HK5.out; have := HK6.out; omega⟩, ⟨Vy_ (Kd.V_mono HO_340001.out (fun _ hk => ⟨hk.1, hk.2.1⟩))⟩, ⟨kz_⟩, ⟨kz_⟩, ⟨bz_⟩⟩
                     ·replace c114 := Bool.eq_false_iff.mpr c114
                      subst c114
                      have H1 : (if x18_6 = true then (stolonlaw17_SwtchStays.l2 k6 l1 t325 x10_2 (wrap64 (x13_3 + 1)) a0_0 l0_1 t329 t330) else (some false)) = some r := by rw [if_neg (show ¬ (false = true) by decide)] at H; exact H
                      clear H
                      have H := H1
                      clear H1
                      by_cases c118 : x18_6 = true
                      ·subst c118
                       have H1 : (stolonlaw17_SwtchStays.l2 k6 l1 t325 x10_2 (wrap64 (x13_3 + 1)) a0_0 l0_1 t329 t330) = some r := by rw [if_pos rfl] at H; exact H
                       clear H
                       have H := H1
                       clear H1
                       have H' := m_ H
                       clear H
                       have hnb119 := NB339_324.out
                       have hnc119 := NB324_339.out
                       have hnb120 := NB339_349.out
                       have hnc120 := NB349_339.out
                       have hcz121 := cz2_ BK339.out
                       go_wp2
                       go_roundg k6
                       case measure => have := HJ3.out; have := HK2.out; have := HK3.out; have := HJ51.out; have := HK5.out; have := HK6.out; omega
                       case rel => exact ⟨(wrap64 (x13_3 + 1)), (by first | rfl | (simp; done) | (simp [*]; done)), H', ⟨by have := HJ3.out; have := HK2.out; have := HK3.out; have := HJ51.out; have := HK5.out; have := HK6.out; omega⟩, ⟨Vy_ (Kd.V_mono HO_340001.out (fun _ hk => ⟨hk.1, hk.2.1⟩))⟩, ⟨kz_⟩, ⟨kz_⟩, ⟨bz_⟩⟩
                      ·replace c118 := Bool.eq_false_iff.mpr c118
                       subst c118
                       have H1 : (some false) = some r := by rw [if_neg (show ¬ (false = true) by decide)] at H; exact H
                       clear H
                       have H := H1
                       clear H1
                       exact absurd ((Option.some.inj H).trans hTrue.out) (by simp)
              ·rw [if_neg c60] at H
               exact absurd H (by simp)
             ·rw [if_neg c59] at H
              exact absurd H (by simp)
            ·replace c58 := Bool.eq_false_iff.mpr c58
             subst c58
             have H1 : (some t325) = some r := by rw [if_neg (show ¬ (false = true) by decide)] at H; exact H
             clear H
             have H := H1
             clear H1
             obtain rfl := Option.some.inj H
             go_wp2
             go_ret
             exact ⟨ew_, bz_⟩
    ·replace c20 := Bool.eq_false_iff.mpr c20
     subst c20
     have H1 : (some false) = some r := by rw [if_neg (show ¬ (false = true) by decide)] at H; exact H
     clear H
     have H := H1
     clear H1
     exact absurd ((Option.some.inj H).trans hTrue.out) (by simp)
end Go.Proofs.Ytfomnmdjbdohgaa.P

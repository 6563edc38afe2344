/- For each Go function a Lean function, and the proof that a call comes to what it tells: made by program out of the translation (the kit's print, with texts by hand put in). No condition. -/
import Derived.Test.YtfomnmdjbdohgaaSq
import Derived.Test.YtfomnmdjbdohgaaPx0
import Derived.Test.YtfomnmdjbdohgaaPx14
import Derived.Test.YtfomnmdjbdohgaaPx17
import Derived.Test.YtfomnmdjbdohgaaPx18
import Derived.Test.YtfomnmdjbdohgaaPx21
import Derived.Test.YtfomnmdjbdohgaaPx26
import Derived.Test.YtfomnmdjbdohgaaPx27
namespace Go.Proofs.Ytfomnmdjbdohgaa.P
open Go.RowKit Go.Proofs.Ytfomnmdjbdohgaa.HRows Go.Proofs.YtfomnmdjbdohgaaW.PrintWords Go.Proofs.YtfomnmdjbdohgaaW.PrintLast Go.Proofs.YtfomnmdjbdohgaaW.PrintMore
attribute [local go_sem] max2_int min2_int max_two min_two max_three min_three max_four min_four
set_option linter.unusedVariables false
set_option linter.unusedSimpArgs false
mutual
def stolonlaw17_SwtchRoom.j0 : Nat → Int → Bool → Bool → Int → List (S29) → Int → Int → Int → Int → Int → List (S74) → Option (Bool)
 | 0, _, _, _, _, _, _, _, _, _, _, _ => none
 | k + 1, x2, x7, x30, x355000, x355001, x356000, x356001, x356002, x356003, x356004, x356005 => if x30 = true then (some x7) else ((swtch_Hear.f k x355000 x355001 1 x2 x356000 x356001 x356002 x356003 x356004 x356005 0 false ([] : List Int)).bind fun bt360 => (stolonlaw17_SwtchRoom.l0 k x2 x7 bt360.2.2.1 false false 0 x355000 x355001 x356000 x356001 x356002 x356003 x356004 x356005 bt360.1 bt360.2.1))
def stolonlaw17_SwtchRoom.l0 : Nat → Int → Bool → List (S32) → Bool → Bool → Int → Int → List (S29) → Int → Int → Int → Int → Int → List (S74) → Int → List (S29) → Option (Bool)
 | 0, _, _, _, _, _, _, _, _, _, _, _, _, _, _, _, _ => none
 | k + 1, x2, x7, x9, x11, x12, x13, x355000, x355001, x356000, x356001, x356002, x356003, x356004, x356005, x371000, x371001 => if x13 < (x355001.length : Int) then (if x11 = true then (stolonlaw17_SwtchRoom.l0 k x2 x7 x9 true x12 (wrap64 (x13 + 1)) x355000 x355001 x356000 x356001 x356002 x356003 x356004 x356005 x371000 x371001) else (if 0 ≤ x13 then (if ((rd_T29 x355001 x13).f0) = x356000 then (if ((rd_T29 x355001 x13).f1) = x356001 then (stolonlaw17_SwtchRoom.l0 k x2 x7 x9 (((rd_T29 x355001 x13).f2) == x356002) x12 (wrap64 (x13 + 1)) x355000 x355001 x356000 x356001 x356002 x356003 x356004 x356005 x371000 x371001) else (stolonlaw17_SwtchRoom.l0 k x2 x7 x9 false x12 (wrap64 (x13 + 1)) x355000 x355001 x356000 x356001 x356002 x356003 x356004 x356005 x371000 x371001)) else (stolonlaw17_SwtchRoom.l0 k x2 x7 x9 false x12 (wrap64 (x13 + 1)) x355000 x355001 x356000 x356001 x356002 x356003 x356004 x356005 x371000 x371001)) else (none))) else (stolonlaw17_SwtchRoom.l1 k x2 x7 x9 x11 x12 0 x355000 x355001 x356000 x356001 x356002 x356003 x356004 x356005 x371000 x371001)
def stolonlaw17_SwtchRoom.l1 : Nat → Int → Bool → List (S32) → Bool → Bool → Int → Int → List (S29) → Int → Int → Int → Int → Int → List (S74) → Int → List (S29) → Option (Bool)
 | 0, _, _, _, _, _, _, _, _, _, _, _, _, _, _, _, _ => none
 | k + 1, x2, x7, x9, x11, x12, x14, x355000, x355001, x356000, x356001, x356002, x356003, x356004, x356005, x371000, x371001 => if x14 < (x371001.length : Int) then (if x12 = true then (stolonlaw17_SwtchRoom.l1 k x2 x7 x9 x11 true (wrap64 (x14 + 1)) x355000 x355001 x356000 x356001 x356002 x356003 x356004 x356005 x371000 x371001) else (if 0 ≤ x14 then ((stolonref15_Same.f k ((rd_T29 x371001 x14).f0) ((rd_T29 x371001 x14).f1) ((rd_T29 x371001 x14).f2) ((rd_T29 x371001 x14).f3) ((rd_T29 x371001 x14).f4) ((rd_T29 x371001 x14).f5) x356000 x356001 x356002 x356003 x356004 x356005).bind fun t375 => (stolonlaw17_SwtchRoom.l1 k x2 x7 x9 x11 t375 (wrap64 (x14 + 1)) x355000 x355001 x356000 x356001 x356002 x356003 x356004 x356005 x371000 x371001)) else (none))) else (if x11 = true then (if x7 = true then (if (x9.length : Int) = 0 then (some x12) else (some false)) else (some false)) else (if (x355001.length : Int) ≥ x355000 then (if x7 = true then (if (x9.length : Int) = 1 then (if 0 < (x9.length : Int) then (if ((rd_T32 x9 0).f0) = 5 then (if ((rd_T32 x9 0).f1) = x2 then ((stolonref17_Same.f k x371000 x371001 x355000 x355001).bind fun t378 => (some t378)) else (some false)) else (some false)) else (none)) else (some false)) else (some false)) else (if x7 = true then (if (x9.length : Int) = 0 then (some x12) else (some false)) else (some false))))
end
def stolonlaw17_SwtchRoom.f (k : Nat) (a0_0 : Int) (l0_1 : List (S29)) (a1_0 : Int) (a1_1 : Int) (a1_2 : Int) (a1_3 : Int) (a1_4 : Int) (l1_5 : List (S74)) (a2 : Int) : Option (Bool) := (stolonlaw17_shown.f k).bind fun t356 => ((stolonref15_Few.f k l0_1).bind fun t357 => (if t357 = true then ((stolonref17_Right.f k a0_0 l0_1).bind fun t358 => (if t358 = true then ((stolonref15_Right.f k a1_0 a1_1 a1_2 a1_3 a1_4 l1_5).bind fun t359 => (stolonlaw17_SwtchRoom.j0 k a2 t356 (!t359) a0_0 l0_1 a1_0 a1_1 a1_2 a1_3 a1_4 l1_5)) else (stolonlaw17_SwtchRoom.j0 k a2 t356 true a0_0 l0_1 a1_0 a1_1 a1_2 a1_3 a1_4 l1_5))) else (stolonlaw17_SwtchRoom.j0 k a2 t356 true a0_0 l0_1 a1_0 a1_1 a1_2 a1_3 a1_4 l1_5)))
def stolonlaw17_SwtchRoom.T10 : Bool × List (List Nat × List Nat) := (true, [([], []), ([0], [0]), ([1], [1]), ([2, 1], [1, 2]), ([1], [1]), ([3, 4, 1], [1, 3, 4]), ([5, 1], [1, 5]), ([6, 1], [1, 6]), ([1], [1]), ([8, 1], [1, 8]), ([7, 9, 1], [1, 7, 9]), ([10, 1, 1], [1, 10]), ([11], [11]), ([12, 11], [11, 12]), ([11], [11]), ([13, 14, 11], [11, 13, 14]), ([15, 11], [11, 15]), ([16, 11], [11, 16]), ([11], [11]), ([18, 11], [11, 18]), ([17, 19, 11], [11, 17, 19]), ([11, 20, 1], [1, 11, 20]), ([21, 11, 1], [1, 21]), ([22], [22]), ([23, 22], [22, 23]), ([22], [22]), ([24, 25, 22], [22, 24, 25]), ([26, 22], [22, 26]), ([27, 22], [22, 27]), ([22], [22]), ([29, 22], [22, 29]), ([28, 30, 22], [22, 28, 30]), ([22, 31, 1], [1, 22, 31]), ([1, 32], [1, 32]), ([33, 22, 0, 1, 2, 3, 4, 5, 6, 7, 8, 9, 10, 11, 12, 13, 14, 15, 16, 17, 18, 19, 20, 21, 22, 23, 24, 25, 26, 27, 28, 29, 30, 31, 32, 33], [0, 33])])
def stolonlaw17_SwtchRoom.B10 : List Nat := [0, 1, 3, 7, 3, 31, 63, 127, 3, 259, 1023, 2047, 4095, 8191, 4095, 32767, 65535, 131071, 4095, 266239, 1048575, 2097151, 4194303, 8388607, 16777215, 8388607, 67108863, 134217727, 268435455, 8388607, 545259519, 2147483647, 4294967295, 8589934591, 17179869183]
theorem stolonlaw17_SwtchRoom.tab10 : rtab .any (opsOf Try.f5 10) = stolonlaw17_SwtchRoom.T10 := by kernel_rfl
theorem stolonlaw17_SwtchRoom.bits10 : waitsOk stolonlaw17_SwtchRoom.T10.2 stolonlaw17_SwtchRoom.B10 = true := by kernel_rfl
def stolonlaw17_SwtchRoom.T14 : Bool × List (List Nat × List Nat) := (true, [([], []), ([0], [0]), ([1], [1]), ([2, 1], [1, 2]), ([1], [1]), ([3, 4, 1], [1, 3, 4]), ([5, 1], [1, 5]), ([1], [1]), ([6, 7, 1, 1], [1, 6, 7]), ([1, 8], [1, 8]), ([9, 8, 0, 1, 2, 3, 4, 5, 6, 7, 8, 9], [0, 9])])
def stolonlaw17_SwtchRoom.B14 : List Nat := [0, 1, 3, 7, 3, 31, 63, 3, 255, 511, 1023]
theorem stolonlaw17_SwtchRoom.tab14 : rtab .any (opsOf Try.f5 14) = stolonlaw17_SwtchRoom.T14 := by kernel_rfl
theorem stolonlaw17_SwtchRoom.bits14 : waitsOk stolonlaw17_SwtchRoom.T14.2 stolonlaw17_SwtchRoom.B14 = true := by kernel_rfl
set_option maxHeartbeats 8000000 in
set_option maxRecDepth 100000 in
theorem stolonlaw17_SwtchRoom.calls (k : Nat) (a0_0 : Int) (A0_1 : Option Addr) (c0_1 : Nat) (l0_1 : List (S29)) (a1_0 : Int) (a1_1 : Int) (a1_2 : Int) (a1_3 : Int) (a1_4 : Int) (A1_5 : Option Addr) (c1_5 : Nat) (l1_5 : List (S74)) (a2 : Int) (r : Bool) (w : World) (hr0_1 : Kd.C k29 w A0_1 l0_1.length l0_1) (hc0_1 : l0_1.length ≤ c0_1) (hr1_5 : Kd.C k74 w A1_5 l1_5.length l1_5) (hc1_5 : l1_5.length ≤ c1_5) (hTrue : Aside0 (r = true)) (h : stolonlaw17_SwtchRoom.f k a0_0 l0_1 a1_0 a1_1 a1_2 a1_3 a1_4 l1_5 a2 = some r) :
  Calls Try.prog 5 #[.agg #[.int .i64 a0_0, .slice A0_1 l0_1.length c0_1], .agg #[.int .u32 a1_0, .int .u32 a1_1, .int .u32 a1_2, .int .i64 a1_3, .int .u32 a1_4, .slice A1_5 l1_5.length c1_5], .int .u32 a2] w fun e w' => e = .returned (.bool r) ∧ Below w.heap.size w w' := by
 have hu24 := Try.underlying24
 have hu29 := Try.underlying29
 have hu32 := Try.underlying32
 have HR0_1 := m_ hr0_1
 have HC0_1 := m_ hc0_1
 clear hr0_1 hc0_1
 have HR1_5 := m_ hr1_5
 have HC1_5 := m_ hc1_5
 clear hr1_5 hc1_5
 have HB := m_ (Below.refl w.heap.size w)
 have H : ((stolonlaw17_shown.f k).bind fun t356 => ((stolonref15_Few.f k l0_1).bind fun t357 => (if t357 = true then ((stolonref17_Right.f k a0_0 l0_1).bind fun t358 => (if t358 = true then ((stolonref15_Right.f k a1_0 a1_1 a1_2 a1_3 a1_4 l1_5).bind fun t359 => (stolonlaw17_SwtchRoom.j0 k a2 t356 (!t359) a0_0 l0_1 a1_0 a1_1 a1_2 a1_3 a1_4 l1_5)) else (stolonlaw17_SwtchRoom.j0 k a2 t356 true a0_0 l0_1 a1_0 a1_1 a1_2 a1_3 a1_4 l1_5))) else (stolonlaw17_SwtchRoom.j0 k a2 t356 true a0_0 l0_1 a1_0 a1_1 a1_2 a1_3 a1_4 l1_5)))) = some r := h
 clear h
 replace H := Option.bind_eq_some_iff.mp H
 obtain ⟨t356, A40, H⟩ := H
 replace H : ((stolonref15_Few.f k l0_1).bind fun t357 => (if t357 = true then ((stolonref17_Right.f k a0_0 l0_1).bind fun t358 => (if t358 = true then ((stolonref15_Right.f k a1_0 a1_1 a1_2 a1_3 a1_4 l1_5).bind fun t359 => (stolonlaw17_SwtchRoom.j0 k a2 t356 (!t359) a0_0 l0_1 a1_0 a1_1 a1_2 a1_3 a1_4 l1_5)) else (stolonlaw17_SwtchRoom.j0 k a2 t356 true a0_0 l0_1 a1_0 a1_1 a1_2 a1_3 a1_4 l1_5))) else (stolonlaw17_SwtchRoom.j0 k a2 t356 true a0_0 l0_1 a1_0 a1_1 a1_2 a1_3 a1_4 l1_5))) = some r := H
 have A4 := m_ A40
 clear A40
 have HC5 := m_ H
 clear H
 go_enter Try.func5, Try.ntmps5
 go_upto_region 2 with (first | ((with_reducible refine gate_dst (N := 3) rfl ?_); (try (refine gate_guard (by rfl) ?_; dsimp only)); refine bx_ 3 24 #[.int .i64 a0_0, .slice A0_1 l0_1.length c0_1] ?_; intro gb354 hg w6 hbox hb; have BK354 := m_ (hbox); have GW354 := m_ ((gw_ : w.heap.size ≤ gb354)); have GE354 := m_ ((gw_ : w.heap.size ≤ gb354)); replace HB := m_ (below_step bz_ hb); clear hb hbox hg) | ((with_reducible refine gate_dst (N := 4) rfl ?_); (try (refine gate_guard (by rfl) ?_; dsimp only)); refine bx_ 4 29 #[.int .u32 a1_0, .int .u32 a1_1, .int .u32 a1_2, .int .i64 a1_3, .int .u32 a1_4, .slice A1_5 l1_5.length c1_5] ?_; intro gb355 hg w7 hbox hb; have BK355 := m_ (hbox); have GW355 := m_ ((gw_ : w.heap.size ≤ gb355)); have GE355 := m_ ((gw_ : w.heap.size ≤ gb355)); have NB354_355 := m_ ((gl_ : gb354 ≠ gb355)); have NB355_354 := m_ ((gr_ : gb355 ≠ gb354)); replace BK354 := m_ (kl_ gb354 hb); replace HB := m_ (below_step bz_ hb); clear hb hbox hg) | ((with_reducible refine gate_callee (f := 9) rfl ?_); refine gL_ (some 16) Try.func9 #[] ?_; (with_reducible refine (stolonlaw17_shown.calls k  t356 _ A4.out).mono ?_); rintro e w8 ⟨rfl, hb⟩; refine ⟨_, rfl, ?_⟩; replace BK354 := m_ (kl_ gb354 hb); replace BK355 := m_ (kl_ gb355 hb); replace HB := m_ (below_step bz_ hb); (try clear hb); (try clear hb2); (try clear hk); (try clear hi)))
 (try simp only [Act.put, List.setIfInBounds_toArray, List.set_cons_zero, List.set_cons_succ])
 go_cut [30] (fun v30 wc => ∃ (kq : Nat) (x30_4 : Bool), v30 = .bool x30_4 ∧ Aside0 (stolonlaw17_SwtchRoom.j0 kq a2 t356 x30_4 a0_0 l0_1 a1_0 a1_1 a1_2 a1_3 a1_4 l1_5 = some r) ∧ Aside0 (kq ≤ k) ∧ Aside0 (wc.heap[gb354]? = some (.cells #[.int .i64 a0_0, (.slice A0_1 l0_1.length c0_1)] 24 (0, 0))) ∧ Aside0 (wc.heap[gb355]? = some (.cells #[.int .u32 a1_0, .int .u32 a1_1, .int .u32 a1_2, .int .i64 a1_3, .int .u32 a1_4, (.slice A1_5 l1_5.length c1_5)] 29 (0, 0))) ∧ Aside0 (Below w.heap.size w wc))
 case first =>
  have H := HC5.out
  clear HC5
  replace H := Option.bind_eq_some_iff.mp H
  obtain ⟨t357, A90, H⟩ := H
  replace H : (if t357 = true then ((stolonref17_Right.f k a0_0 l0_1).bind fun t358 => (if t358 = true then ((stolonref15_Right.f k a1_0 a1_1 a1_2 a1_3 a1_4 l1_5).bind fun t359 => (stolonlaw17_SwtchRoom.j0 k a2 t356 (!t359) a0_0 l0_1 a1_0 a1_1 a1_2 a1_3 a1_4 l1_5)) else (stolonlaw17_SwtchRoom.j0 k a2 t356 true a0_0 l0_1 a1_0 a1_1 a1_2 a1_3 a1_4 l1_5))) else (stolonlaw17_SwtchRoom.j0 k a2 t356 true a0_0 l0_1 a1_0 a1_1 a1_2 a1_3 a1_4 l1_5)) = some r := H
  have A9 := m_ A90
  clear A90
  by_cases c10 : t357 = true
  ·subst c10
   have H1 : ((stolonref17_Right.f k a0_0 l0_1).bind fun t358 => (if t358 = true then ((stolonref15_Right.f k a1_0 a1_1 a1_2 a1_3 a1_4 l1_5).bind fun t359 => (stolonlaw17_SwtchRoom.j0 k a2 t356 (!t359) a0_0 l0_1 a1_0 a1_1 a1_2 a1_3 a1_4 l1_5)) else (stolonlaw17_SwtchRoom.j0 k a2 t356 true a0_0 l0_1 a1_0 a1_1 a1_2 a1_3 a1_4 l1_5))) = some r := by rw [if_pos rfl] at H; exact H
   clear H
   have H := H1
   clear H1
   replace H := Option.bind_eq_some_iff.mp H
   obtain ⟨t358, A110, H⟩ := H
   replace H : (if t358 = true then ((stolonref15_Right.f k a1_0 a1_1 a1_2 a1_3 a1_4 l1_5).bind fun t359 => (stolonlaw17_SwtchRoom.j0 k a2 t356 (!t359) a0_0 l0_1 a1_0 a1_1 a1_2 a1_3 a1_4 l1_5)) else (stolonlaw17_SwtchRoom.j0 k a2 t356 true a0_0 l0_1 a1_0 a1_1 a1_2 a1_3 a1_4 l1_5)) = some r := H
   have A11 := m_ A110
   clear A110
   by_cases c12 : t358 = true
   ·subst c12
    have H1 : ((stolonref15_Right.f k a1_0 a1_1 a1_2 a1_3 a1_4 l1_5).bind fun t359 => (stolonlaw17_SwtchRoom.j0 k a2 t356 (!t359) a0_0 l0_1 a1_0 a1_1 a1_2 a1_3 a1_4 l1_5)) = some r := by rw [if_pos rfl] at H; exact H
    clear H
    have H := H1
    clear H1
    replace H := Option.bind_eq_some_iff.mp H
    obtain ⟨t359, A130, H⟩ := H
    replace H : (stolonlaw17_SwtchRoom.j0 k a2 t356 (!t359) a0_0 l0_1 a1_0 a1_1 a1_2 a1_3 a1_4 l1_5) = some r := H
    have A13 := m_ A130
    clear A130
    have H' := m_ H
    clear H
    have hnb14 := NB354_355.out
    have hnc14 := NB355_354.out
    have hcz15 := cz2_ BK354.out
    go_wp2_with (first | ((with_reducible refine gate_callee (f := 10) rfl ?_); refine gL_ (some 19) Try.func10 #[.slice A0_1 l0_1.length c0_1] ?_; (with_reducible refine (stolonref15_Few.calls k _ _ l0_1 true _ ?side1 ?side2 A9.out).mono ?_); (case side1 => exact Cd_ (Kd.C_below HR0_1.out HB.out)); (case side2 => exact HC0_1.out); rintro e w' ⟨rfl, ⟨nd, rfl⟩⟩; refine ⟨_, rfl, ?_⟩) | (go_at_call 11; (with_reducible refine (stolonref17_Right.calls k a0_0 _ _ l0_1 true _ ?side1 ?side2 A11.out).mono ?_); (case side1 => exact Cd_ (Kd.C_below HR0_1.out bz_)); (case side2 => exact HC0_1.out); rintro e w16 ⟨rfl, hb⟩; replace BK354 := m_ (kl_ gb354 hb); replace BK355 := m_ (kl_ gb355 hb); replace HB := m_ (below_step bz_ hb); (try clear hb); (try clear hb2); (try clear hk); (try clear hi); have hcz17 := cz6_ BK355.out) | (go_at_call 21; (with_reducible refine (stolonref15_Right.calls k a1_0 a1_1 a1_2 a1_3 a1_4 _ _ l1_5 t359 _ ?side1 ?side2 A13.out).mono ?_); (case side1 => exact Cd_ (Kd.C_below HR1_5.out HB.out)); (case side2 => exact HC1_5.out); rintro e w18 ⟨rfl, hb⟩; replace BK354 := m_ (kl_ gb354 hb); replace BK355 := m_ (kl_ gb355 hb); replace HB := m_ (below_step bz_ hb); (try clear hb); (try clear hb2); (try clear hk); (try clear hi)))
    go_meet
    case rel => exact ⟨_, (!t359), (by first | rfl | (simp; done) | (simp [*]; done)), H', ⟨by first | omega | exact Nat.le_refl _⟩, ⟨kz_⟩, ⟨kz_⟩, ⟨bz_⟩⟩
   ·replace c12 := Bool.eq_false_iff.mpr c12
    subst c12
    have H1 : (stolonlaw17_SwtchRoom.j0 k a2 t356 true a0_0 l0_1 a1_0 a1_1 a1_2 a1_3 a1_4 l1_5) = some r := by rw [if_neg (show ¬ (false = true) by decide)] at H; exact H
    clear H
    have H := H1
    clear H1
    have H' := m_ H
    clear H
    have hnb19 := NB354_355.out
    have hnc19 := NB355_354.out
    have hcz20 := cz2_ BK354.out
    go_wp2_with (first | ((with_reducible refine gate_callee (f := 10) rfl ?_); refine gL_ (some 19) Try.func10 #[.slice A0_1 l0_1.length c0_1] ?_; (with_reducible refine (stolonref15_Few.calls k _ _ l0_1 true _ ?side1 ?side2 A9.out).mono ?_); (case side1 => exact Cd_ (Kd.C_below HR0_1.out HB.out)); (case side2 => exact HC0_1.out); rintro e w' ⟨rfl, ⟨nd, rfl⟩⟩; refine ⟨_, rfl, ?_⟩) | (go_at_call 11; (with_reducible refine (stolonref17_Right.calls k a0_0 _ _ l0_1 false _ ?side1 ?side2 A11.out).mono ?_); (case side1 => exact Cd_ (Kd.C_below HR0_1.out bz_)); (case side2 => exact HC0_1.out); rintro e w21 ⟨rfl, hb⟩; replace BK354 := m_ (kl_ gb354 hb); replace BK355 := m_ (kl_ gb355 hb); replace HB := m_ (below_step bz_ hb); (try clear hb); (try clear hb2); (try clear hk); (try clear hi)))
    go_meet
    case rel => exact ⟨_, (true), (by first | rfl | (simp; done) | (simp [*]; done)), H', ⟨by first | omega | exact Nat.le_refl _⟩, ⟨kz_⟩, ⟨kz_⟩, ⟨bz_⟩⟩
  ·replace c10 := Bool.eq_false_iff.mpr c10
   subst c10
   have H1 : (stolonlaw17_SwtchRoom.j0 k a2 t356 true a0_0 l0_1 a1_0 a1_1 a1_2 a1_3 a1_4 l1_5) = some r := by rw [if_neg (show ¬ (false = true) by decide)] at H; exact H
   clear H
   have H := H1
   clear H1
   have H' := m_ H
   clear H
   have hnb22 := NB354_355.out
   have hnc22 := NB355_354.out
   have hcz23 := cz2_ BK354.out
   go_wp2_with (first | ((with_reducible refine gate_callee (f := 10) rfl ?_); refine gL_ (some 19) Try.func10 #[.slice A0_1 l0_1.length c0_1] ?_; (with_reducible refine (stolonref15_Few.calls k _ _ l0_1 false _ ?side1 ?side2 A9.out).mono ?_); (case side1 => exact Cd_ (Kd.C_below HR0_1.out HB.out)); (case side2 => exact HC0_1.out); rintro e w' ⟨rfl, ⟨nd, rfl⟩⟩; refine ⟨_, rfl, ?_⟩))
   go_meet
   case rel => exact ⟨_, (true), (by first | rfl | (simp; done) | (simp [*]; done)), H', ⟨by first | omega | exact Nat.le_refl _⟩, ⟨kz_⟩, ⟨kz_⟩, ⟨bz_⟩⟩
 case rest =>
  clear HC5
  try clear c1
  try clear c2
  try clear p2
  try clear c5
  try clear c9
  try clear c10
  try clear c12
  try clear c14
  try clear c19
  try clear c22
  (try clear hcz15)
  (try clear hcz17)
  (try clear hcz20)
  (try clear hcz23)
  obtain ⟨kq, x30_4, rfl, HA, HJ4, BK354, BK355, HB⟩ := hcut
  cases kq with
  | zero => exact absurd HA.out (by simp [stolonlaw17_SwtchRoom.j0])
  | succ kj4 =>
   have H := HA.out
   clear HA
   simp only [stolonlaw17_SwtchRoom.j0] at H
   by_cases c24 : x30_4 = true
   ·subst c24
    have H1 : (some t356) = some r := by rw [if_pos rfl] at H; exact H
    clear H
    have H := H1
    clear H1
    obtain rfl := Option.some.inj H
    go_wp2
    go_ret
    exact ⟨ew_, bz_⟩
   ·replace c24 := Bool.eq_false_iff.mpr c24
    subst c24
    have H1 : ((swtch_Hear.f kj4 a0_0 l0_1 1 a2 a1_0 a1_1 a1_2 a1_3 a1_4 l1_5 0 false ([] : List Int)).bind fun bt360 => (stolonlaw17_SwtchRoom.l0 kj4 a2 t356 bt360.2.2.1 false false 0 a0_0 l0_1 a1_0 a1_1 a1_2 a1_3 a1_4 l1_5 bt360.1 bt360.2.1)) = some r := by rw [if_neg (show ¬ (false = true) by decide)] at H; exact H
    clear H
    have H := H1
    clear H1
    replace H := Option.bind_eq_some_iff.mp H
    obtain ⟨⟨t360, t361, t364, t367⟩, A250, H⟩ := H
    replace H : (stolonlaw17_SwtchRoom.l0 kj4 a2 t356 t364 false false 0 a0_0 l0_1 a1_0 a1_1 a1_2 a1_3 a1_4 l1_5 t360 t361) = some r := H
    have A25 := m_ A250
    clear A250
    have H' := m_ H
    clear H
    have hnb26 := NB354_355.out
    have hnc26 := NB355_354.out
    have hcz27 := cz2_ BK354.out
    have hcz28 := cz6_ BK355.out
    go_wp2_with (first | ((with_reducible refine gate_callee (f := 13) rfl ?_); refine gL_ (some 37) Try.func13 #[.agg #[.int .i64 a0_0, .slice A0_1 l0_1.length c0_1], .agg #[.int .u8 1, .int .u32 a2, .int .u32 a1_0, .int .u32 a1_1, .int .u32 a1_2, .int .i64 a1_3, .int .u32 a1_4, .slice A1_5 l1_5.length c1_5, .int .i64 0, .bool false, .slice none 0 0]] ?_; (refine (swtch_Hear.calls kj4 a0_0 (fun k_ => k_ < w.heap.size) _ _ l0_1 1 a2 a1_0 a1_1 a1_2 a1_3 a1_4 (fun k_ => k_ < w.heap.size) _ _ l1_5 0 false (fun k_ => False) _ _ ([] : List Int) t360 t361 t364 t367 _ ?side1 ?side2 ?side3 A25.out).mono ?_); (case side1 => exact Kd.V_mk HC0_1.out (Kd.F_below (Kd.C_F k29_heap HR0_1.out) bz_)); (case side2 => exact Kd.V_mk HC1_5.out (Kd.F_below (Kd.C_F k74_heap HR1_5.out) bz_)); (case side3 => exact Kd.V_nil _ _ _ _ _); rintro e w29 ⟨v362, v365, v368, rfl, ho0, ho1, ho2, hb⟩; refine ⟨_, rfl, ?_⟩; have HO363 := m_ (Kd.V_lower (Kd.V_mono (ok' := fun k_ => k_ ≠ gb354 ∧ k_ ≠ gb355) ho0 (fun k_ hk_ => ⟨Or.elim hk_ (fun hs_ => Or.elim hs_ (fun hs_ => fun e_ => Nat.not_le.2 hs_ (by rw [e_]; exact GW354.out)) (fun hs_ => Or.elim hs_ (fun hs_ => fun e_ => Nat.not_le.2 hs_ (by rw [e_]; exact GW354.out)) (fun hs_ => (hs_).elim))) (fun hn_ => (Kd.freshB (g := gb354) (o := .cells #[.int .i64 a0_0, .slice A0_1 l0_1.length c0_1] 24 (0, 0)) kz_ k_ hn_)), Or.elim hk_ (fun hs_ => Or.elim hs_ (fun hs_ => fun e_ => Nat.not_le.2 hs_ (by rw [e_]; exact GW355.out)) (fun hs_ => Or.elim hs_ (fun hs_ => fun e_ => Nat.not_le.2 hs_ (by rw [e_]; exact GW355.out)) (fun hs_ => (hs_).elim))) (fun hn_ => (Kd.freshB (g := gb355) (o := .cells #[.int .u32 a1_0, .int .u32 a1_1, .int .u32 a1_2, .int .i64 a1_3, .int .u32 a1_4, .slice A1_5 l1_5.length c1_5] 29 (0, 0)) kz_ k_ hn_))⟩)) (below_size bz_)); have HO366 := m_ (Kd.V_lower (Kd.V_mono (ok' := fun k_ => k_ ≠ gb354 ∧ k_ ≠ gb355) ho1 (fun k_ hk_ => ⟨Or.elim hk_ (fun hs_ => Or.elim hs_ (fun hs_ => fun e_ => Nat.not_le.2 hs_ (by rw [e_]; exact GW354.out)) (fun hs_ => Or.elim hs_ (fun hs_ => fun e_ => Nat.not_le.2 hs_ (by rw [e_]; exact GW354.out)) (fun hs_ => (hs_).elim))) (fun hn_ => (Kd.freshB (g := gb354) (o := .cells #[.int .i64 a0_0, .slice A0_1 l0_1.length c0_1] 24 (0, 0)) kz_ k_ hn_)), Or.elim hk_ (fun hs_ => Or.elim hs_ (fun hs_ => fun e_ => Nat.not_le.2 hs_ (by rw [e_]; exact GW355.out)) (fun hs_ => Or.elim hs_ (fun hs_ => fun e_ => Nat.not_le.2 hs_ (by rw [e_]; exact GW355.out)) (fun hs_ => (hs_).elim))) (fun hn_ => (Kd.freshB (g := gb355) (o := .cells #[.int .u32 a1_0, .int .u32 a1_1, .int .u32 a1_2, .int .i64 a1_3, .int .u32 a1_4, .slice A1_5 l1_5.length c1_5] 29 (0, 0)) kz_ k_ hn_))⟩)) (below_size bz_)); have HO369 := m_ (Kd.V_lower (Kd.V_mono (ok' := fun k_ => k_ ≠ gb354 ∧ k_ ≠ gb355) ho2 (fun k_ hk_ => ⟨Or.elim hk_ (fun hs_ => Or.elim hs_ (fun hs_ => fun e_ => Nat.not_le.2 hs_ (by rw [e_]; exact GW354.out)) (fun hs_ => Or.elim hs_ (fun hs_ => fun e_ => Nat.not_le.2 hs_ (by rw [e_]; exact GW354.out)) (fun hs_ => (hs_).elim))) (fun hn_ => (Kd.freshB (g := gb354) (o := .cells #[.int .i64 a0_0, .slice A0_1 l0_1.length c0_1] 24 (0, 0)) kz_ k_ hn_)), Or.elim hk_ (fun hs_ => Or.elim hs_ (fun hs_ => fun e_ => Nat.not_le.2 hs_ (by rw [e_]; exact GW355.out)) (fun hs_ => Or.elim hs_ (fun hs_ => fun e_ => Nat.not_le.2 hs_ (by rw [e_]; exact GW355.out)) (fun hs_ => (hs_).elim))) (fun hn_ => (Kd.freshB (g := gb355) (o := .cells #[.int .u32 a1_0, .int .u32 a1_1, .int .u32 a1_2, .int .i64 a1_3, .int .u32 a1_4, .slice A1_5 l1_5.length c1_5] 29 (0, 0)) kz_ k_ hn_))⟩)) (below_size bz_)); replace BK354 := m_ (kl_ gb354 hb); replace BK355 := m_ (kl_ gb355 hb); replace HB := m_ (below_step bz_ hb); (try clear hb); (try clear hb2); (try clear hk); (try clear hi); (try clear ho0); (try clear ho1); (try clear ho2)) | ((with_reducible refine gate_dst (N := 8) rfl ?_); (try (refine gate_guard (by rfl) ?_; dsimp only)); refine bx_ 8 24 #[.int .i64 0, .slice none 0 0] ?_; intro gb370 hg w30 hbox hb; have BK370 := m_ (hbox); have GW370 := m_ ((gw_ : w.heap.size ≤ gb370)); have GE370 := m_ ((gw_ : w.heap.size ≤ gb370)); have NB354_370 := m_ ((gl_ : gb354 ≠ gb370)); have NB370_354 := m_ ((gr_ : gb370 ≠ gb354)); have NB355_370 := m_ ((gl_ : gb355 ≠ gb370)); have NB370_355 := m_ ((gr_ : gb370 ≠ gb355)); replace HO363 := m_ (Kd.V_below (Kd.V_elderB (Vz_ HO363.out) gb370 (Nat.le_of_eq hg.symm)) hb); replace HO366 := m_ (Kd.V_below (Kd.V_elderB (Vz_ HO366.out) gb370 (Nat.le_of_eq hg.symm)) hb); replace HO369 := m_ (Kd.V_below (Kd.V_elderB (Vz_ HO369.out) gb370 (Nat.le_of_eq hg.symm)) hb); replace BK354 := m_ (kl_ gb354 hb); replace BK355 := m_ (kl_ gb355 hb); replace HB := m_ (below_step bz_ hb); clear hb hbox hg; have hnb31 := NB370_354.out; have hnc31 := NB354_370.out; have hnb32 := NB370_355.out; have hnc32 := NB355_370.out; have hcz33 := cz2_ BK370.out; obtain ⟨Ao34, co34, eo34⟩ := Kd.V_slice HO363.out; subst eo34))
    go_loopg [11, 13] kj4 (fun kq v11 v13 w' => ∃ (x11_2 : Bool) (x13_2 : Int), v11 = .bool x11_2 ∧ v13 = .int .i64 x13_2 ∧ Aside0 (stolonlaw17_SwtchRoom.l0 kq a2 t356 t364 x11_2 false x13_2 a0_0 l0_1 a1_0 a1_1 a1_2 a1_3 a1_4 l1_5 t360 t361 = some r) ∧ Aside0 (kq ≤ kj4) ∧ Aside0 (Kd.V k32 32 w' w.heap.size (fun k_ => k_ ≠ gb354 ∧ k_ ≠ gb355 ∧ k_ ≠ gb370) v365 t364) ∧ Aside0 (Kd.V k29 29 w' w.heap.size (fun k_ => k_ ≠ gb354 ∧ k_ ≠ gb355 ∧ k_ ≠ gb370) (.slice Ao34 t361.length co34) t361) ∧ Aside0 (w'.heap[gb354]? = some (.cells #[.int .i64 a0_0, (.slice A0_1 l0_1.length c0_1)] 24 (0, 0))) ∧ Aside0 (w'.heap[gb355]? = some (.cells #[.int .u32 a1_0, .int .u32 a1_1, .int .u32 a1_2, .int .i64 a1_3, .int .u32 a1_4, (.slice A1_5 l1_5.length c1_5)] 29 (0, 0))) ∧ Aside0 (w'.heap[gb370]? = some (.cells #[.int .i64 t360, (.slice Ao34 t361.length co34)] 24 (0, 0))) ∧ Aside0 (Below w.heap.size w w'))
    case atStart => exact ⟨(false), (0), (by first | rfl | (simp; done) | (simp [*]; done)), (by first | rfl | (simp; done) | (simp [*]; done)), H', ⟨Nat.le_refl _⟩, ⟨Kd.V_mono (Vf_ (Kd.V_mono HO366.out (fun k_ hk => (⟨hk, hk.2⟩ : _ ∧ k_ ≠ gb370)))) (fun _ hk => ⟨hk.1.1.1, ⟨hk.1.1.2, hk.1.2⟩⟩)⟩, ⟨Kd.V_mono (Vf_ (Kd.V_mono HO363.out (fun k_ hk => (⟨hk, hk.2⟩ : _ ∧ k_ ≠ gb370)))) (fun _ hk => ⟨hk.1.1.1, ⟨hk.1.1.2, hk.1.2⟩⟩)⟩, ⟨kb_⟩, ⟨kb_⟩, ⟨kb_⟩, ⟨bz_⟩⟩
    case round =>
     clear H'
     try clear c1
     try clear c2
     try clear p2
     try clear c3
     try clear c5
     try clear c9
     try clear c10
     try clear c12
     try clear c13
     try clear c14
     try clear c19
     try clear c22
     try clear c24
     try clear c26
     try clear c31
     try clear c32
     (try clear hcz15)
     (try clear hcz17)
     (try clear hcz20)
     (try clear hcz23)
     (try clear hcz27)
     (try clear hcz28)
     (try clear hcz33)
     try clear p2
     obtain ⟨x11_2, x13_2, rfl, rfl, HA, HK2, HO_9, HO_371001, BK354, BK355, BK370, HB⟩ := hrel
     cases gk with
     | zero => exact absurd HA.out (by simp [stolonlaw17_SwtchRoom.l0])
     | succ k2 =>
      have H := HA.out
      clear HA
      simp only [stolonlaw17_SwtchRoom.l0] at H
      by_cases c35 : x13_2 < (l0_1.length : Int)
      ·rw [if_pos c35] at H
       have c35b0 : decide (x13_2 < (l0_1.length : Int)) = true := decide_eq_true c35
       clear c35
       by_cases c36 : x11_2 = true
       ·subst c36
        have H1 : (stolonlaw17_SwtchRoom.l0 k2 a2 t356 t364 true false (wrap64 (x13_2 + 1)) a0_0 l0_1 a1_0 a1_1 a1_2 a1_3 a1_4 l1_5 t360 t361) = some r := by rw [if_pos rfl] at H; exact H
        clear H
        have H := H1
        clear H1
        have H' := m_ H
        clear H
        have hnb37 := NB354_355.out
        have hnc37 := NB355_354.out
        have hnb38 := NB354_370.out
        have hnc38 := NB370_354.out
        have hcz39 := cz2_ BK354.out
        try go_wp2
        replace HO_9 := m_ (Kd.V_drew HO_9.out)
        replace HO_371001 := m_ (Kd.V_drew HO_371001.out)
        replace BK354 := m_ (blk_drew BK354.out)
        replace BK355 := m_ (blk_drew BK355.out)
        replace BK370 := m_ (blk_drew BK370.out)
        replace HB := m_ (below_drew1 HB.out)
        refine start_ (n := 35) (S := fun w' => True) (ds := []) (bs_ 35 0) (by kernel_rfl) rfl rfl trivial (fun hHeld => ?_); refine with_tabW stolonlaw17_SwtchRoom.tab10 stolonlaw17_SwtchRoom.bits10 (fun HT_ HW_ => ?_)
        generalize wr.drew = w40 at HO_9 HO_371001 BK354 BK355 BK370 HB hHeld ⊢
        refine pz_ 0 48 ?_
        refine pz_ 1 49 ?_
        refine pz_ 2 50 ?_
        refine pz_ 3 51 ?_
        refine pz_ 4 52 ?_
        refine pz_ 5 53 ?_
        refine pz_ 6 54 ?_
        refine pz_ 7 55 ?_
        refine pz_ 8 56 ?_
        refine pz_ 9 57 ?_
        refine pz_ 10 58 ?_
        refine pz_ 11 59 ?_
        refine pz_ 12 60 ?_
        refine pz_ 13 61 ?_
        refine pz_ 14 62 ?_
        refine pz_ 15 63 ?_
        refine pz_ 16 64 ?_
        refine pz_ 17 65 ?_
        refine pz_ 18 66 ?_
        refine pz_ 19 67 ?_
        refine pz_ 20 68 ?_
        refine pz_ 21 69 ?_
        refine pz_ 22 70 ?_
        refine pz_ 23 71 ?_
        refine pz_ 24 72 ?_
        refine pz_ 25 73 ?_
        refine pz_ 26 74 ?_
        refine pz_ 27 75 ?_
        refine pz_ 28 76 ?_
        refine pz_ 29 77 ?_
        refine pz_ 30 78 ?_
        refine pz_ 31 79 ?_
        refine pz_ 32 80 ?_
        refine pz_ 33 81 ?_
        refine pz_ 34 11 ?_
        refine dz_ ?_
        try go_wp2
        go_roundg k2
        case measure => have := HJ4.out; have := HK2.out; omega
        case rel => exact ⟨(true), (wrap64 (x13_2 + 1)), (by first | rfl | (simp; done) | (simp [*]; done)), (by first | rfl | (simp; done) | (simp [*]; done)), H', ⟨by have := HJ4.out; have := HK2.out; omega⟩, ⟨Vz_ HO_9.out⟩, ⟨Vz_ HO_371001.out⟩, ⟨kz_⟩, ⟨kz_⟩, ⟨kz_⟩, ⟨bz_⟩⟩
       ·replace c36 := Bool.eq_false_iff.mpr c36
        subst c36
        have H1 : (if 0 ≤ x13_2 then (if ((rd_T29 l0_1 x13_2).f0) = a1_0 then (if ((rd_T29 l0_1 x13_2).f1) = a1_1 then (stolonlaw17_SwtchRoom.l0 k2 a2 t356 t364 (((rd_T29 l0_1 x13_2).f2) == a1_2) false (wrap64 (x13_2 + 1)) a0_0 l0_1 a1_0 a1_1 a1_2 a1_3 a1_4 l1_5 t360 t361) else (stolonlaw17_SwtchRoom.l0 k2 a2 t356 t364 false false (wrap64 (x13_2 + 1)) a0_0 l0_1 a1_0 a1_1 a1_2 a1_3 a1_4 l1_5 t360 t361)) else (stolonlaw17_SwtchRoom.l0 k2 a2 t356 t364 false false (wrap64 (x13_2 + 1)) a0_0 l0_1 a1_0 a1_1 a1_2 a1_3 a1_4 l1_5 t360 t361)) else (none)) = some r := by rw [if_neg (show ¬ (false = true) by decide)] at H; exact H
        clear H
        have H := H1
        clear H1
        by_cases c41 : 0 ≤ x13_2
        ·rw [if_pos c41] at H
         have c41b0 : decide (0 ≤ x13_2) = true := decide_eq_true c41
         clear c41
         by_cases c42 : ((rd_T29 l0_1 x13_2).f0) = a1_0
         ·rw [if_pos c42] at H
          have c42b0 : (((rd_T29 l0_1 x13_2).f0) == a1_0) = true := beq_iff_eq.mpr c42
          have c42b1 : (((rd_T29 l0_1 x13_2).f0) != a1_0) = false := bne_eq_false_iff_eq.mpr c42
          clear c42
          by_cases c43 : ((rd_T29 l0_1 x13_2).f1) = a1_1
          ·rw [if_pos c43] at H
           have c43b0 : (((rd_T29 l0_1 x13_2).f1) == a1_1) = true := beq_iff_eq.mpr c43
           have c43b1 : (((rd_T29 l0_1 x13_2).f1) != a1_1) = false := bne_eq_false_iff_eq.mpr c43
           clear c43
           have H' := m_ H
           clear H
           have hnb44 := NB354_355.out
           have hnc44 := NB355_354.out
           have hnb45 := NB354_370.out
           have hnc45 := NB370_354.out
           have hcz46 := cz2_ BK354.out
           try go_wp2
           replace HO_9 := m_ (Kd.V_drew HO_9.out)
           replace HO_371001 := m_ (Kd.V_drew HO_371001.out)
           replace BK354 := m_ (blk_drew BK354.out)
           replace BK355 := m_ (blk_drew BK355.out)
           replace BK370 := m_ (blk_drew BK370.out)
           replace HB := m_ (below_drew1 HB.out)
           have p371 : 0 ≤ (x13_2 : Int) := od_
           have q371 : x13_2 < (l0_1.length : Int) := od_
           obtain ⟨ad371, A371_5, c371_5, e371, hx371_0, hx371_1, hx371_2, hx371_3, hx371_4, hx371_5, hl371_5, hi371_5⟩ := at_T29 HR0_1.out x13_2 p371 q371
           have hw371_5 := hx371_5
           have hw371_4 := hx371_4
           have hw371_3 := hx371_3
           have hw371_2 := hx371_2
           have hw371_1 := hx371_1
           have hw371_0 := hx371_0
           cases e371
           replace hx371_0 := kp_ HB.out hx371_0
           replace hx371_1 := kp_ HB.out hx371_1
           replace hx371_2 := kp_ HB.out hx371_2
           replace hx371_3 := kp_ HB.out hx371_3
           replace hx371_4 := kp_ HB.out hx371_4
           replace hx371_5 := kp_ HB.out hx371_5
           have HR371_5 := m_ hi371_5
           have HC371_5 := m_ hl371_5
           clear hi371_5 hl371_5
           replace p371 := eq_true p371
           replace q371 := eq_true q371
           have p372 : 0 ≤ (x13_2 : Int) := od_
           have q372 : x13_2 < (l0_1.length : Int) := od_
           obtain ⟨ad372, A372_5, c372_5, e372, hx372_0, hx372_1, hx372_2, hx372_3, hx372_4, hx372_5, hl372_5, hi372_5⟩ := at_T29 HR0_1.out x13_2 p372 q372
           have hw372_5 := hx372_5
           have hw372_4 := hx372_4
           have hw372_3 := hx372_3
           have hw372_2 := hx372_2
           have hw372_1 := hx372_1
           have hw372_0 := hx372_0
           obtain rfl : ad371 = ad372 := (by injection e372)
           replace hx372_0 := kp_ HB.out hx372_0
           replace hx372_1 := kp_ HB.out hx372_1
           replace hx372_2 := kp_ HB.out hx372_2
           replace hx372_3 := kp_ HB.out hx372_3
           replace hx372_4 := kp_ HB.out hx372_4
           replace hx372_5 := kp_ HB.out hx372_5
           have HR372_5 := m_ hi372_5
           have HC372_5 := m_ hl372_5
           clear hi372_5 hl372_5
           replace p372 := eq_true p372
           replace q372 := eq_true q372
           have ea_ := Option.some.inj (hx371_5.symm.trans hx372_5)
           injection ea_ with ea_ en_ ec_
           subst ea_
           subst ec_
           clear en_
           have p373 : 0 ≤ (x13_2 : Int) := od_
           have q373 : x13_2 < (l0_1.length : Int) := od_
           obtain ⟨ad373, A373_5, c373_5, e373, hx373_0, hx373_1, hx373_2, hx373_3, hx373_4, hx373_5, hl373_5, hi373_5⟩ := at_T29 HR0_1.out x13_2 p373 q373
           have hw373_5 := hx373_5
           have hw373_4 := hx373_4
           have hw373_3 := hx373_3
           have hw373_2 := hx373_2
           have hw373_1 := hx373_1
           have hw373_0 := hx373_0
           obtain rfl : ad371 = ad373 := (by injection e373)
           replace hx373_0 := kp_ HB.out hx373_0
           replace hx373_1 := kp_ HB.out hx373_1
           replace hx373_2 := kp_ HB.out hx373_2
           replace hx373_3 := kp_ HB.out hx373_3
           replace hx373_4 := kp_ HB.out hx373_4
           replace hx373_5 := kp_ HB.out hx373_5
           have HR373_5 := m_ hi373_5
           have HC373_5 := m_ hl373_5
           clear hi373_5 hl373_5
           replace p373 := eq_true p373
           replace q373 := eq_true q373
           have ea_ := Option.some.inj (hx371_5.symm.trans hx373_5)
           injection ea_ with ea_ en_ ec_
           subst ea_
           subst ec_
           clear en_
           refine start_ (n := 35) (S := fun w' => w'.cell? ⟨gb354, 0, none⟩ = some (.int .i64 a0_0) ∧ w'.cell? ⟨gb354, 1, none⟩ = some (.slice (some ad371) l0_1.length c0_1) ∧ w'.cell? ⟨gb355, 0, none⟩ = some (.int .u32 a1_0) ∧ w'.cell? ⟨gb355, 1, none⟩ = some (.int .u32 a1_1) ∧ w'.cell? ⟨gb355, 2, none⟩ = some (.int .u32 a1_2) ∧ w'.cell? ⟨gb355, 3, none⟩ = some (.int .i64 a1_3) ∧ w'.cell? ⟨gb355, 4, none⟩ = some (.int .u32 a1_4) ∧ w'.cell? ⟨gb355, 5, none⟩ = some (.slice A1_5 l1_5.length c1_5) ∧ w'.cell? (ad371.add ((x13_2).toNat * 6)) = some (.int .u32 ((rd_T29 l0_1 x13_2).f0)) ∧ w'.cell? ⟨(ad371.add ((x13_2).toNat * 6)).block, (ad371.add ((x13_2).toNat * 6)).off + 1, none⟩ = some (.int .u32 ((rd_T29 l0_1 x13_2).f1)) ∧ w'.cell? ⟨(ad371.add ((x13_2).toNat * 6)).block, (ad371.add ((x13_2).toNat * 6)).off + 2, none⟩ = some (.int .u32 ((rd_T29 l0_1 x13_2).f2)) ∧ w'.cell? ⟨(ad371.add ((x13_2).toNat * 6)).block, (ad371.add ((x13_2).toNat * 6)).off + 3, none⟩ = some (.int .i64 ((rd_T29 l0_1 x13_2).f3)) ∧ w'.cell? ⟨(ad371.add ((x13_2).toNat * 6)).block, (ad371.add ((x13_2).toNat * 6)).off + 4, none⟩ = some (.int .u32 ((rd_T29 l0_1 x13_2).f4)) ∧ w'.cell? ⟨(ad371.add ((x13_2).toNat * 6)).block, (ad371.add ((x13_2).toNat * 6)).off + 5, none⟩ = some (.slice A371_5 ((rd_T29 l0_1 x13_2).f5).length c371_5) ∧ w'.cell? (ad371.add ((x13_2).toNat * 6)) = some (.int .u32 ((rd_T29 l0_1 x13_2).f0)) ∧ w'.cell? ⟨(ad371.add ((x13_2).toNat * 6)).block, (ad371.add ((x13_2).toNat * 6)).off + 1, none⟩ = some (.int .u32 ((rd_T29 l0_1 x13_2).f1)) ∧ w'.cell? ⟨(ad371.add ((x13_2).toNat * 6)).block, (ad371.add ((x13_2).toNat * 6)).off + 2, none⟩ = some (.int .u32 ((rd_T29 l0_1 x13_2).f2)) ∧ w'.cell? ⟨(ad371.add ((x13_2).toNat * 6)).block, (ad371.add ((x13_2).toNat * 6)).off + 3, none⟩ = some (.int .i64 ((rd_T29 l0_1 x13_2).f3)) ∧ w'.cell? ⟨(ad371.add ((x13_2).toNat * 6)).block, (ad371.add ((x13_2).toNat * 6)).off + 4, none⟩ = some (.int .u32 ((rd_T29 l0_1 x13_2).f4)) ∧ w'.cell? ⟨(ad371.add ((x13_2).toNat * 6)).block, (ad371.add ((x13_2).toNat * 6)).off + 5, none⟩ = some (.slice A371_5 ((rd_T29 l0_1 x13_2).f5).length c371_5) ∧ w'.cell? (ad371.add ((x13_2).toNat * 6)) = some (.int .u32 ((rd_T29 l0_1 x13_2).f0)) ∧ w'.cell? ⟨(ad371.add ((x13_2).toNat * 6)).block, (ad371.add ((x13_2).toNat * 6)).off + 1, none⟩ = some (.int .u32 ((rd_T29 l0_1 x13_2).f1)) ∧ w'.cell? ⟨(ad371.add ((x13_2).toNat * 6)).block, (ad371.add ((x13_2).toNat * 6)).off + 2, none⟩ = some (.int .u32 ((rd_T29 l0_1 x13_2).f2)) ∧ w'.cell? ⟨(ad371.add ((x13_2).toNat * 6)).block, (ad371.add ((x13_2).toNat * 6)).off + 3, none⟩ = some (.int .i64 ((rd_T29 l0_1 x13_2).f3)) ∧ w'.cell? ⟨(ad371.add ((x13_2).toNat * 6)).block, (ad371.add ((x13_2).toNat * 6)).off + 4, none⟩ = some (.int .u32 ((rd_T29 l0_1 x13_2).f4)) ∧ w'.cell? ⟨(ad371.add ((x13_2).toNat * 6)).block, (ad371.add ((x13_2).toNat * 6)).off + 5, none⟩ = some (.slice A371_5 ((rd_T29 l0_1 x13_2).f5).length c371_5)) (ds := []) (bs_ 35 0) (by kernel_rfl) rfl rfl ⟨bc_ BK354.out 0, bc_ BK354.out 1, bc_ BK355.out 0, bc_ BK355.out 1, bc_ BK355.out 2, bc_ BK355.out 3, bc_ BK355.out 4, bc_ BK355.out 5, (kp_ HB.out hw371_0), (kp_ HB.out hw371_1), (kp_ HB.out hw371_2), (kp_ HB.out hw371_3), (kp_ HB.out hw371_4), (kp_ HB.out hw371_5), (kp_ HB.out hw372_0), (kp_ HB.out hw372_1), (kp_ HB.out hw372_2), (kp_ HB.out hw372_3), (kp_ HB.out hw372_4), (kp_ HB.out hw372_5), (kp_ HB.out hw373_0), (kp_ HB.out hw373_1), (kp_ HB.out hw373_2), (kp_ HB.out hw373_3), (kp_ HB.out hw373_4), (kp_ HB.out hw373_5)⟩ (fun hHeld => ?_); refine with_tabW stolonlaw17_SwtchRoom.tab10 stolonlaw17_SwtchRoom.bits10 (fun HT_ HW_ => ?_)
           generalize wr.drew = w47 at HO_9 HO_371001 BK354 BK355 BK370 HB HR371_5 HR372_5 HR373_5 hx371_0 hx371_1 hx371_2 hx371_3 hx371_4 hx371_5 hx372_0 hx372_1 hx372_2 hx372_3 hx372_4 hx372_5 hx373_0 hx373_1 hx373_2 hx373_3 hx373_4 hx373_5 hHeld ⊢
           refine pz_ 0 48 ?_
           refine pz_ 1 49 ?_
           refine pz_ 2 50 ?_
           refine pz_ 4 52 ?_
           refine pz_ 8 56 ?_
           refine tz_ 3 51 ?_
           refine pz_ 5 53 ?_
           refine pz_ 6 54 ?_
           refine tz_ 7 55 ?_
           refine tz_ 9 57 ?_
           refine pz_ 10 58 ?_
           refine pz_ 11 59 ?_
           refine pz_ 12 60 ?_
           refine pz_ 14 62 ?_
           refine pz_ 18 66 ?_
           refine tz_ 13 61 ?_
           refine pz_ 15 63 ?_
           refine pz_ 16 64 ?_
           refine tz_ 17 65 ?_
           refine tz_ 19 67 ?_
           refine pz_ 20 68 ?_
           refine pz_ 21 69 ?_
           refine pz_ 22 70 ?_
           refine pz_ 23 71 ?_
           refine pz_ 25 73 ?_
           refine pz_ 29 77 ?_
           refine tz_ 24 72 ?_
           refine pz_ 26 74 ?_
           refine pz_ 27 75 ?_
           refine tz_ 28 76 ?_
           refine tz_ 30 78 ?_
           refine pz_ 31 79 ?_
           refine pz_ 32 80 ?_
           refine pz_ 33 81 ?_
           refine pz_ 34 11 ?_
           refine dz_ ?_
           try go_wp2
           go_roundg k2
           case measure => have := HJ4.out; have := HK2.out; omega
           case rel => exact ⟨((((rd_T29 l0_1 x13_2).f2) == a1_2)), (wrap64 (x13_2 + 1)), (by first | rfl | (simp; done) | (simp [*]; done)), (by first | rfl | (simp; done) | (simp [*]; done)), H', ⟨by have := HJ4.out; have := HK2.out; omega⟩, ⟨Vz_ HO_9.out⟩, ⟨Vz_ HO_371001.out⟩, ⟨kz_⟩, ⟨kz_⟩, ⟨kz_⟩, ⟨bz_⟩⟩
          ·rw [if_neg c43] at H
           have c43b0 : (((rd_T29 l0_1 x13_2).f1) == a1_1) = false := beq_eq_false_iff_ne.mpr c43
           have c43b1 : (((rd_T29 l0_1 x13_2).f1) != a1_1) = true := bne_iff_ne.mpr c43
           have H' := m_ H
           clear H
           have hnb48 := NB354_355.out
           have hnc48 := NB355_354.out
           have hnb49 := NB354_370.out
           have hnc49 := NB370_354.out
           have hcz50 := cz2_ BK354.out
           try go_wp2
           replace HO_9 := m_ (Kd.V_drew HO_9.out)
           replace HO_371001 := m_ (Kd.V_drew HO_371001.out)
           replace BK354 := m_ (blk_drew BK354.out)
           replace BK355 := m_ (blk_drew BK355.out)
           replace BK370 := m_ (blk_drew BK370.out)
           replace HB := m_ (below_drew1 HB.out)
           have p371 : 0 ≤ (x13_2 : Int) := od_
           have q371 : x13_2 < (l0_1.length : Int) := od_
           obtain ⟨ad371, A371_5, c371_5, e371, hx371_0, hx371_1, hx371_2, hx371_3, hx371_4, hx371_5, hl371_5, hi371_5⟩ := at_T29 HR0_1.out x13_2 p371 q371
           have hw371_5 := hx371_5
           have hw371_4 := hx371_4
           have hw371_3 := hx371_3
           have hw371_2 := hx371_2
           have hw371_1 := hx371_1
           have hw371_0 := hx371_0
           cases e371
           replace hx371_0 := kp_ HB.out hx371_0
           replace hx371_1 := kp_ HB.out hx371_1
           replace hx371_2 := kp_ HB.out hx371_2
           replace hx371_3 := kp_ HB.out hx371_3
           replace hx371_4 := kp_ HB.out hx371_4
           replace hx371_5 := kp_ HB.out hx371_5
           have HR371_5 := m_ hi371_5
           have HC371_5 := m_ hl371_5
           clear hi371_5 hl371_5
           replace p371 := eq_true p371
           replace q371 := eq_true q371
           have p372 : 0 ≤ (x13_2 : Int) := od_
           have q372 : x13_2 < (l0_1.length : Int) := od_
           obtain ⟨ad372, A372_5, c372_5, e372, hx372_0, hx372_1, hx372_2, hx372_3, hx372_4, hx372_5, hl372_5, hi372_5⟩ := at_T29 HR0_1.out x13_2 p372 q372
           have hw372_5 := hx372_5
           have hw372_4 := hx372_4
           have hw372_3 := hx372_3
           have hw372_2 := hx372_2
           have hw372_1 := hx372_1
           have hw372_0 := hx372_0
           obtain rfl : ad371 = ad372 := (by injection e372)
           replace hx372_0 := kp_ HB.out hx372_0
           replace hx372_1 := kp_ HB.out hx372_1
           replace hx372_2 := kp_ HB.out hx372_2
           replace hx372_3 := kp_ HB.out hx372_3
           replace hx372_4 := kp_ HB.out hx372_4
           replace hx372_5 := kp_ HB.out hx372_5
           have HR372_5 := m_ hi372_5
           have HC372_5 := m_ hl372_5
           clear hi372_5 hl372_5
           replace p372 := eq_true p372
           replace q372 := eq_true q372
           have ea_ := Option.some.inj (hx371_5.symm.trans hx372_5)
           injection ea_ with ea_ en_ ec_
           subst ea_
           subst ec_
           clear en_
           refine start_ (n := 35) (S := fun w' => w'.cell? ⟨gb354, 0, none⟩ = some (.int .i64 a0_0) ∧ w'.cell? ⟨gb354, 1, none⟩ = some (.slice (some ad371) l0_1.length c0_1) ∧ w'.cell? ⟨gb355, 0, none⟩ = some (.int .u32 a1_0) ∧ w'.cell? ⟨gb355, 1, none⟩ = some (.int .u32 a1_1) ∧ w'.cell? ⟨gb355, 2, none⟩ = some (.int .u32 a1_2) ∧ w'.cell? ⟨gb355, 3, none⟩ = some (.int .i64 a1_3) ∧ w'.cell? ⟨gb355, 4, none⟩ = some (.int .u32 a1_4) ∧ w'.cell? ⟨gb355, 5, none⟩ = some (.slice A1_5 l1_5.length c1_5) ∧ w'.cell? (ad371.add ((x13_2).toNat * 6)) = some (.int .u32 ((rd_T29 l0_1 x13_2).f0)) ∧ w'.cell? ⟨(ad371.add ((x13_2).toNat * 6)).block, (ad371.add ((x13_2).toNat * 6)).off + 1, none⟩ = some (.int .u32 ((rd_T29 l0_1 x13_2).f1)) ∧ w'.cell? ⟨(ad371.add ((x13_2).toNat * 6)).block, (ad371.add ((x13_2).toNat * 6)).off + 2, none⟩ = some (.int .u32 ((rd_T29 l0_1 x13_2).f2)) ∧ w'.cell? ⟨(ad371.add ((x13_2).toNat * 6)).block, (ad371.add ((x13_2).toNat * 6)).off + 3, none⟩ = some (.int .i64 ((rd_T29 l0_1 x13_2).f3)) ∧ w'.cell? ⟨(ad371.add ((x13_2).toNat * 6)).block, (ad371.add ((x13_2).toNat * 6)).off + 4, none⟩ = some (.int .u32 ((rd_T29 l0_1 x13_2).f4)) ∧ w'.cell? ⟨(ad371.add ((x13_2).toNat * 6)).block, (ad371.add ((x13_2).toNat * 6)).off + 5, none⟩ = some (.slice A371_5 ((rd_T29 l0_1 x13_2).f5).length c371_5) ∧ w'.cell? (ad371.add ((x13_2).toNat * 6)) = some (.int .u32 ((rd_T29 l0_1 x13_2).f0)) ∧ w'.cell? ⟨(ad371.add ((x13_2).toNat * 6)).block, (ad371.add ((x13_2).toNat * 6)).off + 1, none⟩ = some (.int .u32 ((rd_T29 l0_1 x13_2).f1)) ∧ w'.cell? ⟨(ad371.add ((x13_2).toNat * 6)).block, (ad371.add ((x13_2).toNat * 6)).off + 2, none⟩ = some (.int .u32 ((rd_T29 l0_1 x13_2).f2)) ∧ w'.cell? ⟨(ad371.add ((x13_2).toNat * 6)).block, (ad371.add ((x13_2).toNat * 6)).off + 3, none⟩ = some (.int .i64 ((rd_T29 l0_1 x13_2).f3)) ∧ w'.cell? ⟨(ad371.add ((x13_2).toNat * 6)).block, (ad371.add ((x13_2).toNat * 6)).off + 4, none⟩ = some (.int .u32 ((rd_T29 l0_1 x13_2).f4)) ∧ w'.cell? ⟨(ad371.add ((x13_2).toNat * 6)).block, (ad371.add ((x13_2).toNat * 6)).off + 5, none⟩ = some (.slice A371_5 ((rd_T29 l0_1 x13_2).f5).length c371_5)) (ds := []) (bs_ 35 0) (by kernel_rfl) rfl rfl ⟨bc_ BK354.out 0, bc_ BK354.out 1, bc_ BK355.out 0, bc_ BK355.out 1, bc_ BK355.out 2, bc_ BK355.out 3, bc_ BK355.out 4, bc_ BK355.out 5, (kp_ HB.out hw371_0), (kp_ HB.out hw371_1), (kp_ HB.out hw371_2), (kp_ HB.out hw371_3), (kp_ HB.out hw371_4), (kp_ HB.out hw371_5), (kp_ HB.out hw372_0), (kp_ HB.out hw372_1), (kp_ HB.out hw372_2), (kp_ HB.out hw372_3), (kp_ HB.out hw372_4), (kp_ HB.out hw372_5)⟩ (fun hHeld => ?_); refine with_tabW stolonlaw17_SwtchRoom.tab10 stolonlaw17_SwtchRoom.bits10 (fun HT_ HW_ => ?_)
           generalize wr.drew = w51 at HO_9 HO_371001 BK354 BK355 BK370 HB HR371_5 HR372_5 hx371_0 hx371_1 hx371_2 hx371_3 hx371_4 hx371_5 hx372_0 hx372_1 hx372_2 hx372_3 hx372_4 hx372_5 hHeld ⊢
           refine pz_ 0 48 ?_
           refine pz_ 1 49 ?_
           refine pz_ 2 50 ?_
           refine pz_ 4 52 ?_
           refine pz_ 8 56 ?_
           refine tz_ 3 51 ?_
           refine pz_ 5 53 ?_
           refine pz_ 6 54 ?_
           refine tz_ 7 55 ?_
           refine tz_ 9 57 ?_
           refine pz_ 10 58 ?_
           refine pz_ 11 59 ?_
           refine pz_ 12 60 ?_
           refine pz_ 14 62 ?_
           refine pz_ 18 66 ?_
           refine tz_ 13 61 ?_
           refine pz_ 15 63 ?_
           refine pz_ 16 64 ?_
           refine tz_ 17 65 ?_
           refine tz_ 19 67 ?_
           refine pz_ 20 68 ?_
           refine pz_ 21 69 ?_
           refine pz_ 22 70 ?_
           refine pz_ 23 71 ?_
           refine pz_ 24 72 ?_
           refine pz_ 25 73 ?_
           refine pz_ 26 74 ?_
           refine pz_ 27 75 ?_
           refine pz_ 28 76 ?_
           refine pz_ 29 77 ?_
           refine pz_ 30 78 ?_
           refine pz_ 31 79 ?_
           refine pz_ 32 80 ?_
           refine pz_ 33 81 ?_
           refine pz_ 34 11 ?_
           refine dz_ ?_
           try go_wp2
           go_roundg k2
           case measure => have := HJ4.out; have := HK2.out; omega
           case rel => exact ⟨(false), (wrap64 (x13_2 + 1)), (by first | rfl | (simp; done) | (simp [*]; done)), (by first | rfl | (simp; done) | (simp [*]; done)), H', ⟨by have := HJ4.out; have := HK2.out; omega⟩, ⟨Vz_ HO_9.out⟩, ⟨Vz_ HO_371001.out⟩, ⟨kz_⟩, ⟨kz_⟩, ⟨kz_⟩, ⟨bz_⟩⟩
         ·rw [if_neg c42] at H
          have c42b0 : (((rd_T29 l0_1 x13_2).f0) == a1_0) = false := beq_eq_false_iff_ne.mpr c42
          have c42b1 : (((rd_T29 l0_1 x13_2).f0) != a1_0) = true := bne_iff_ne.mpr c42
          have H' := m_ H
          clear H
          have hnb52 := NB354_355.out
          have hnc52 := NB355_354.out
          have hnb53 := NB354_370.out
          have hnc53 := NB370_354.out
          have hcz54 := cz2_ BK354.out
          try go_wp2
          replace HO_9 := m_ (Kd.V_drew HO_9.out)
          replace HO_371001 := m_ (Kd.V_drew HO_371001.out)
          replace BK354 := m_ (blk_drew BK354.out)
          replace BK355 := m_ (blk_drew BK355.out)
          replace BK370 := m_ (blk_drew BK370.out)
          replace HB := m_ (below_drew1 HB.out)
          have p371 : 0 ≤ (x13_2 : Int) := od_
          have q371 : x13_2 < (l0_1.length : Int) := od_
          obtain ⟨ad371, A371_5, c371_5, e371, hx371_0, hx371_1, hx371_2, hx371_3, hx371_4, hx371_5, hl371_5, hi371_5⟩ := at_T29 HR0_1.out x13_2 p371 q371
          have hw371_5 := hx371_5
          have hw371_4 := hx371_4
          have hw371_3 := hx371_3
          have hw371_2 := hx371_2
          have hw371_1 := hx371_1
          have hw371_0 := hx371_0
          cases e371
          replace hx371_0 := kp_ HB.out hx371_0
          replace hx371_1 := kp_ HB.out hx371_1
          replace hx371_2 := kp_ HB.out hx371_2
          replace hx371_3 := kp_ HB.out hx371_3
          replace hx371_4 := kp_ HB.out hx371_4
          replace hx371_5 := kp_ HB.out hx371_5
          have HR371_5 := m_ hi371_5
          have HC371_5 := m_ hl371_5
          clear hi371_5 hl371_5
          replace p371 := eq_true p371
          replace q371 := eq_true q371
          refine start_ (n := 35) (S := fun w' => w'.cell? ⟨gb354, 0, none⟩ = some (.int .i64 a0_0) ∧ w'.cell? ⟨gb354, 1, none⟩ = some (.slice (some ad371) l0_1.length c0_1) ∧ w'.cell? ⟨gb355, 0, none⟩ = some (.int .u32 a1_0) ∧ w'.cell? ⟨gb355, 1, none⟩ = some (.int .u32 a1_1) ∧ w'.cell? ⟨gb355, 2, none⟩ = some (.int .u32 a1_2) ∧ w'.cell? ⟨gb355, 3, none⟩ = some (.int .i64 a1_3) ∧ w'.cell? ⟨gb355, 4, none⟩ = some (.int .u32 a1_4) ∧ w'.cell? ⟨gb355, 5, none⟩ = some (.slice A1_5 l1_5.length c1_5) ∧ w'.cell? (ad371.add ((x13_2).toNat * 6)) = some (.int .u32 ((rd_T29 l0_1 x13_2).f0)) ∧ w'.cell? ⟨(ad371.add ((x13_2).toNat * 6)).block, (ad371.add ((x13_2).toNat * 6)).off + 1, none⟩ = some (.int .u32 ((rd_T29 l0_1 x13_2).f1)) ∧ w'.cell? ⟨(ad371.add ((x13_2).toNat * 6)).block, (ad371.add ((x13_2).toNat * 6)).off + 2, none⟩ = some (.int .u32 ((rd_T29 l0_1 x13_2).f2)) ∧ w'.cell? ⟨(ad371.add ((x13_2).toNat * 6)).block, (ad371.add ((x13_2).toNat * 6)).off + 3, none⟩ = some (.int .i64 ((rd_T29 l0_1 x13_2).f3)) ∧ w'.cell? ⟨(ad371.add ((x13_2).toNat * 6)).block, (ad371.add ((x13_2).toNat * 6)).off + 4, none⟩ = some (.int .u32 ((rd_T29 l0_1 x13_2).f4)) ∧ w'.cell? ⟨(ad371.add ((x13_2).toNat * 6)).block, (ad371.add ((x13_2).toNat * 6)).off + 5, none⟩ = some (.slice A371_5 ((rd_T29 l0_1 x13_2).f5).length c371_5)) (ds := []) (bs_ 35 0) (by kernel_rfl) rfl rfl ⟨bc_ BK354.out 0, bc_ BK354.out 1, bc_ BK355.out 0, bc_ BK355.out 1, bc_ BK355.out 2, bc_ BK355.out 3, bc_ BK355.out 4, bc_ BK355.out 5, (kp_ HB.out hw371_0), (kp_ HB.out hw371_1), (kp_ HB.out hw371_2), (kp_ HB.out hw371_3), (kp_ HB.out hw371_4), (kp_ HB.out hw371_5)⟩ (fun hHeld => ?_); refine with_tabW stolonlaw17_SwtchRoom.tab10 stolonlaw17_SwtchRoom.bits10 (fun HT_ HW_ => ?_)
          generalize wr.drew = w55 at HO_9 HO_371001 BK354 BK355 BK370 HB HR371_5 hx371_0 hx371_1 hx371_2 hx371_3 hx371_4 hx371_5 hHeld ⊢
          refine pz_ 0 48 ?_
          refine pz_ 1 49 ?_
          refine pz_ 2 50 ?_
          refine pz_ 4 52 ?_
          refine pz_ 8 56 ?_
          refine tz_ 3 51 ?_
          refine pz_ 5 53 ?_
          refine pz_ 6 54 ?_
          refine tz_ 7 55 ?_
          refine tz_ 9 57 ?_
          refine pz_ 10 58 ?_
          refine pz_ 11 59 ?_
          refine pz_ 12 60 ?_
          refine pz_ 13 61 ?_
          refine pz_ 14 62 ?_
          refine pz_ 15 63 ?_
          refine pz_ 16 64 ?_
          refine pz_ 17 65 ?_
          refine pz_ 18 66 ?_
          refine pz_ 19 67 ?_
          refine pz_ 20 68 ?_
          refine pz_ 21 69 ?_
          refine pz_ 22 70 ?_
          refine pz_ 23 71 ?_
          refine pz_ 24 72 ?_
          refine pz_ 25 73 ?_
          refine pz_ 26 74 ?_
          refine pz_ 27 75 ?_
          refine pz_ 28 76 ?_
          refine pz_ 29 77 ?_
          refine pz_ 30 78 ?_
          refine pz_ 31 79 ?_
          refine pz_ 32 80 ?_
          refine pz_ 33 81 ?_
          refine pz_ 34 11 ?_
          refine dz_ ?_
          try go_wp2
          go_roundg k2
          case measure => have := HJ4.out; have := HK2.out; omega
          case rel => exact ⟨(false), (wrap64 (x13_2 + 1)), (by first | rfl | (simp; done) | (simp [*]; done)), (by first | rfl | (simp; done) | (simp [*]; done)), H', ⟨by have := HJ4.out; have := HK2.out; omega⟩, ⟨Vz_ HO_9.out⟩, ⟨Vz_ HO_371001.out⟩, ⟨kz_⟩, ⟨kz_⟩, ⟨kz_⟩, ⟨bz_⟩⟩
        ·rw [if_neg c41] at H
         exact absurd H (by simp)
      ·rw [if_neg c35] at H
       have c35b0 : decide (x13_2 < (l0_1.length : Int)) = false := decide_eq_false c35
       clear c35
       have H' := m_ H
       clear H
       have hnb56 := NB354_355.out
       have hnc56 := NB355_354.out
       have hnb57 := NB354_370.out
       have hnc57 := NB370_354.out
       have hcz58 := cz2_ BK354.out
       go_wp2
       go_loopg [12, 14] k2 (fun kq v12 v14 w' => ∃ (x12_3 : Bool) (x14_3 : Int), v12 = .bool x12_3 ∧ v14 = .int .i64 x14_3 ∧ Aside0 (stolonlaw17_SwtchRoom.l1 kq a2 t356 t364 x11_2 x12_3 x14_3 a0_0 l0_1 a1_0 a1_1 a1_2 a1_3 a1_4 l1_5 t360 t361 = some r) ∧ Aside0 (kq ≤ k2) ∧ Aside0 (Kd.V k32 32 w' w.heap.size (fun k_ => k_ ≠ gb354 ∧ k_ ≠ gb355 ∧ k_ ≠ gb370) v365 t364) ∧ Aside0 (Kd.V k29 29 w' w.heap.size (fun k_ => k_ ≠ gb354 ∧ k_ ≠ gb355 ∧ k_ ≠ gb370) (.slice Ao34 t361.length co34) t361) ∧ Aside0 (w'.heap[gb354]? = some (.cells #[.int .i64 a0_0, (.slice A0_1 l0_1.length c0_1)] 24 (0, 0))) ∧ Aside0 (w'.heap[gb355]? = some (.cells #[.int .u32 a1_0, .int .u32 a1_1, .int .u32 a1_2, .int .i64 a1_3, .int .u32 a1_4, (.slice A1_5 l1_5.length c1_5)] 29 (0, 0))) ∧ Aside0 (w'.heap[gb370]? = some (.cells #[.int .i64 t360, (.slice Ao34 t361.length co34)] 24 (0, 0))) ∧ Aside0 (Below w.heap.size w w'))
       case atStart => exact ⟨(false), (0), (by first | rfl | (simp; done) | (simp [*]; done)), (by first | rfl | (simp; done) | (simp [*]; done)), H', ⟨Nat.le_refl _⟩, ⟨Vz_ HO_9.out⟩, ⟨Vz_ HO_371001.out⟩, ⟨kz_⟩, ⟨kz_⟩, ⟨kz_⟩, ⟨bz_⟩⟩
       case round =>
        clear H'
        try clear c1
        try clear p2
        try clear c3
        try clear p3
        try clear q3
        try clear hx3
        try clear c4
        try clear c5
        try clear p6
        try clear c35
        try clear c35b0
        try clear c37
        try clear p37
        try clear q37
        try clear hx37
        try clear c41
        try clear c42
        try clear c42b0
        try clear c42b1
        try clear c52
        try clear c53
        try clear c56
        try clear c57
        (try clear hcz54)
        (try clear hcz58)
        try clear hx371_0
        try clear hx371_1
        try clear hx371_2
        try clear hx371_3
        try clear hx371_4
        try clear hx371_5
        try clear hx372_0
        try clear hx372_1
        try clear hx372_2
        try clear hx372_3
        try clear hx372_4
        try clear hx372_5
        try clear p371
        try clear p372
        try clear q371
        try clear q372
        obtain ⟨x12_3, x14_3, rfl, rfl, HA, HK3, HO_9, HO_371001, BK354, BK355, BK370, HB⟩ := hrel
        cases gk with
        | zero => exact absurd HA.out (by simp [stolonlaw17_SwtchRoom.l1])
        | succ k3 =>
         have H := HA.out
         clear HA
         simp only [stolonlaw17_SwtchRoom.l1] at H
         by_cases c59 : x14_3 < (t361.length : Int)
         ·rw [if_pos c59] at H
          have c59b0 : decide (x14_3 < (t361.length : Int)) = true := decide_eq_true c59
          clear c59
          by_cases c60 : x12_3 = true
          ·subst c60
           have H1 : (stolonlaw17_SwtchRoom.l1 k3 a2 t356 t364 x11_2 true (wrap64 (x14_3 + 1)) a0_0 l0_1 a1_0 a1_1 a1_2 a1_3 a1_4 l1_5 t360 t361) = some r := by rw [if_pos rfl] at H; exact H
           clear H
           have H := H1
           clear H1
           have H' := m_ H
           clear H
           have hnb61 := NB370_354.out
           have hnc61 := NB354_370.out
           have hnb62 := NB370_355.out
           have hnc62 := NB355_370.out
           have hcz63 := cz2_ BK370.out
           try go_wp2
           replace HO_9 := m_ (Kd.V_drew HO_9.out)
           replace HO_371001 := m_ (Kd.V_drew HO_371001.out)
           replace BK354 := m_ (blk_drew BK354.out)
           replace BK355 := m_ (blk_drew BK355.out)
           replace BK370 := m_ (blk_drew BK370.out)
           replace HB := m_ (below_drew1 HB.out)
           refine start_ (n := 11) (S := fun w' => True) (ds := []) (bs_ 11 0) (by kernel_rfl) rfl rfl trivial (fun hHeld => ?_); refine with_tabW stolonlaw17_SwtchRoom.tab14 stolonlaw17_SwtchRoom.bits14 (fun HT_ HW_ => ?_)
           generalize wr.drew = w64 at HO_9 HO_371001 BK354 BK355 BK370 HB hHeld ⊢
           refine pz_ 0 89 ?_
           refine pz_ 1 90 ?_
           refine pz_ 2 91 ?_
           refine pz_ 3 92 ?_
           refine pz_ 4 93 ?_
           refine pz_ 5 94 ?_
           refine pz_ 6 95 ?_
           refine pz_ 7 96 ?_
           refine pz_ 8 97 ?_
           refine pz_ 9 98 ?_
           refine pz_ 10 12 ?_
           refine dz_ ?_
           try go_wp2
           go_roundg k3
           case measure => have := HJ4.out; have := HK2.out; have := HK3.out; omega
           case rel => exact ⟨(true), (wrap64 (x14_3 + 1)), (by first | rfl | (simp; done) | (simp [*]; done)), (by first | rfl | (simp; done) | (simp [*]; done)), H', ⟨by have := HJ4.out; have := HK2.out; have := HK3.out; omega⟩, ⟨Vz_ HO_9.out⟩, ⟨Vz_ HO_371001.out⟩, ⟨kz_⟩, ⟨kz_⟩, ⟨kz_⟩, ⟨bz_⟩⟩
          ·replace c60 := Bool.eq_false_iff.mpr c60
           subst c60
           have H1 : (if 0 ≤ x14_3 then ((stolonref15_Same.f k3 ((rd_T29 t361 x14_3).f0) ((rd_T29 t361 x14_3).f1) ((rd_T29 t361 x14_3).f2) ((rd_T29 t361 x14_3).f3) ((rd_T29 t361 x14_3).f4) ((rd_T29 t361 x14_3).f5) a1_0 a1_1 a1_2 a1_3 a1_4 l1_5).bind fun t375 => (stolonlaw17_SwtchRoom.l1 k3 a2 t356 t364 x11_2 t375 (wrap64 (x14_3 + 1)) a0_0 l0_1 a1_0 a1_1 a1_2 a1_3 a1_4 l1_5 t360 t361)) else (none)) = some r := by rw [if_neg (show ¬ (false = true) by decide)] at H; exact H
           clear H
           have H := H1
           clear H1
           by_cases c65 : 0 ≤ x14_3
           ·rw [if_pos c65] at H
            have c65b0 : decide (0 ≤ x14_3) = true := decide_eq_true c65
            clear c65
            replace H := Option.bind_eq_some_iff.mp H
            obtain ⟨t375, A660, H⟩ := H
            replace H : (stolonlaw17_SwtchRoom.l1 k3 a2 t356 t364 x11_2 t375 (wrap64 (x14_3 + 1)) a0_0 l0_1 a1_0 a1_1 a1_2 a1_3 a1_4 l1_5 t360 t361) = some r := H
            have A66 := m_ A660
            clear A660
            have H' := m_ H
            clear H
            have hnb67 := NB370_354.out
            have hnc67 := NB354_370.out
            have hnb68 := NB370_355.out
            have hnc68 := NB355_370.out
            have hcz69 := cz2_ BK370.out
            try go_wp2
            replace HO_9 := m_ (Kd.V_drew HO_9.out)
            replace HO_371001 := m_ (Kd.V_drew HO_371001.out)
            replace BK354 := m_ (blk_drew BK354.out)
            replace BK355 := m_ (blk_drew BK355.out)
            replace BK370 := m_ (blk_drew BK370.out)
            replace HB := m_ (below_drew1 HB.out)
            have p374 : 0 ≤ (x14_3 : Int) := od_
            have q374 : x14_3 < (t361.length : Int) := od_
            obtain ⟨ad374, A374_5, c374_5, e374, hx374_0, hx374_1, hx374_2, hx374_3, hx374_4, hx374_5, hl374_5, hi374_5⟩ := at_T29 (Kd.V_reads' HO_371001.out).2.2 x14_3 p374 q374
            cases e374
            obtain ⟨ce374, hce374, hMe374, hcc374⟩ := Kd.V_get HO_371001.out z29 x14_3 p374 (by first | exact q374 | exact od_ | (have e_ := (Kd.V_reads' HO_371001.out).1; omega))
            obtain ⟨ua374_5, uc374_5, rfl, ul374_5, ge374_5⟩ := k29_openF hMe374
            have hv374_5 := hcc374 5 _ rfl
            rw [add_field _ _ 5 (by omega)] at hv374_5
            replace hv374_5 := Option.some.inj (hv374_5.symm.trans hx374_5)
            injection hv374_5 with hva_ hvn_ hvc_
            rw [hva_] at ge374_5
            rw [hvc_] at ul374_5
            have HL374_5 := m_ (show Kd.V k74 74 _ w.heap.size _ _ ((rd_T29 t361 x14_3).f5) from Kd.V_mk ul374_5 ge374_5)
            clear hva_ hvn_ hvc_ ge374_5 ul374_5 hcc374 hce374
            have HR374_5 := m_ hi374_5
            have HC374_5 := m_ hl374_5
            clear hi374_5 hl374_5
            replace p374 := eq_true p374
            replace q374 := eq_true q374
            refine start_ (n := 11) (S := fun w' => w'.cell? ⟨gb370, 0, none⟩ = some (.int .i64 t360) ∧ w'.cell? ⟨gb370, 1, none⟩ = some (.slice (some ad374) t361.length co34) ∧ w'.cell? ⟨gb355, 0, none⟩ = some (.int .u32 a1_0) ∧ w'.cell? ⟨gb355, 1, none⟩ = some (.int .u32 a1_1) ∧ w'.cell? ⟨gb355, 2, none⟩ = some (.int .u32 a1_2) ∧ w'.cell? ⟨gb355, 3, none⟩ = some (.int .i64 a1_3) ∧ w'.cell? ⟨gb355, 4, none⟩ = some (.int .u32 a1_4) ∧ w'.cell? ⟨gb355, 5, none⟩ = some (.slice A1_5 l1_5.length c1_5) ∧ w'.cell? (ad374.add ((x14_3).toNat * 6)) = some (.int .u32 ((rd_T29 t361 x14_3).f0)) ∧ w'.cell? ⟨(ad374.add ((x14_3).toNat * 6)).block, (ad374.add ((x14_3).toNat * 6)).off + 1, none⟩ = some (.int .u32 ((rd_T29 t361 x14_3).f1)) ∧ w'.cell? ⟨(ad374.add ((x14_3).toNat * 6)).block, (ad374.add ((x14_3).toNat * 6)).off + 2, none⟩ = some (.int .u32 ((rd_T29 t361 x14_3).f2)) ∧ w'.cell? ⟨(ad374.add ((x14_3).toNat * 6)).block, (ad374.add ((x14_3).toNat * 6)).off + 3, none⟩ = some (.int .i64 ((rd_T29 t361 x14_3).f3)) ∧ w'.cell? ⟨(ad374.add ((x14_3).toNat * 6)).block, (ad374.add ((x14_3).toNat * 6)).off + 4, none⟩ = some (.int .u32 ((rd_T29 t361 x14_3).f4)) ∧ w'.cell? ⟨(ad374.add ((x14_3).toNat * 6)).block, (ad374.add ((x14_3).toNat * 6)).off + 5, none⟩ = some (.slice A374_5 ((rd_T29 t361 x14_3).f5).length c374_5)) (ds := []) (bs_ 11 0) (by kernel_rfl) rfl rfl ⟨bc_ BK370.out 0, bc_ BK370.out 1, bc_ BK355.out 0, bc_ BK355.out 1, bc_ BK355.out 2, bc_ BK355.out 3, bc_ BK355.out 4, bc_ BK355.out 5, hx374_0, hx374_1, hx374_2, hx374_3, hx374_4, hx374_5⟩ (fun hHeld => ?_); refine with_tabW stolonlaw17_SwtchRoom.tab14 stolonlaw17_SwtchRoom.bits14 (fun HT_ HW_ => ?_)
            generalize wr.drew = w70 at HO_9 HO_371001 BK354 BK355 BK370 HB HL374_5 HR374_5 hx374_0 hx374_1 hx374_2 hx374_3 hx374_4 hx374_5 hHeld ⊢
            refine pz_ 0 89 ?_
            refine pz_ 1 90 ?_
            refine pz_ 2 91 ?_
            refine pz_ 4 93 ?_
            refine tz_ 3 92 ?_
            refine pz_ 5 94 ?_
            refine tz_ 6 95 ?_
            refine tz_ 7 96 ?_
            refine oz_ 8 (some 97) (fun K hK => ?_)
            refine gz_ Try.func20 #[.agg #[.int .u32 ((rd_T29 t361 x14_3).f0), .int .u32 ((rd_T29 t361 x14_3).f1), .int .u32 ((rd_T29 t361 x14_3).f2), .int .i64 ((rd_T29 t361 x14_3).f3), .int .u32 ((rd_T29 t361 x14_3).f4), .slice A374_5 ((rd_T29 t361 x14_3).f5).length c374_5], .agg #[.int .u32 a1_0, .int .u32 a1_1, .int .u32 a1_2, .int .i64 a1_3, .int .u32 a1_4, .slice A1_5 l1_5.length c1_5]] ?_
            with_reducible refine (stolonref15_Same.calls k3 ((rd_T29 t361 x14_3).f0) ((rd_T29 t361 x14_3).f1) ((rd_T29 t361 x14_3).f2) ((rd_T29 t361 x14_3).f3) ((rd_T29 t361 x14_3).f4) _ _ ((rd_T29 t361 x14_3).f5) a1_0 a1_1 a1_2 a1_3 a1_4 _ _ l1_5 t375 _ ?side1 ?side2 ?side3 ?side4 A66.out).mono ?_
            (case side1 => exact Cd_ (by repeat (first | (with_reducible exact HR374_5.out) | (with_reducible refine Kd.C_alloc ?_ _) | (with_reducible refine Kd.C_drewN ?_ _) | (with_reducible refine Kd.C_drew ?_) | exact HR374_5.out)))
            (case side2 => exact HC374_5.out)
            (case side3 => exact Cd_ (Kd.C_below HR1_5.out HB.out))
            (case side4 => exact HC1_5.out)
            rintro e w71 ⟨rfl, hb⟩
            have HS8_ := (hb.cell (World.block_lt_of_cell? _ _ (hHeld.2.2.2.2.2.2.2.2.1))).trans (hHeld.2.2.2.2.2.2.2.2.1)
            have HS9_ := (hb.cell (World.block_lt_of_cell? _ _ (hHeld.2.2.2.2.2.2.2.2.2.1))).trans (hHeld.2.2.2.2.2.2.2.2.2.1)
            have HS10_ := (hb.cell (World.block_lt_of_cell? _ _ (hHeld.2.2.2.2.2.2.2.2.2.2.1))).trans (hHeld.2.2.2.2.2.2.2.2.2.2.1)
            have HS11_ := (hb.cell (World.block_lt_of_cell? _ _ (hHeld.2.2.2.2.2.2.2.2.2.2.2.1))).trans (hHeld.2.2.2.2.2.2.2.2.2.2.2.1)
            have HS12_ := (hb.cell (World.block_lt_of_cell? _ _ (hHeld.2.2.2.2.2.2.2.2.2.2.2.2.1))).trans (hHeld.2.2.2.2.2.2.2.2.2.2.2.2.1)
            have HS13_ := (hb.cell (World.block_lt_of_cell? _ _ (hHeld.2.2.2.2.2.2.2.2.2.2.2.2.2))).trans (hHeld.2.2.2.2.2.2.2.2.2.2.2.2.2)
            refine ⟨_, rfl, ?_⟩
            replace HO_9 := m_ (Kd.V_below (Vz_ HO_9.out) hb)
            replace HO_371001 := m_ (Kd.V_below (Vz_ HO_371001.out) hb)
            replace HL374_5 := m_ (Kd.V_below (Vz_ HL374_5.out) hb)
            replace BK354 := m_ (kl_ gb354 hb)
            replace BK355 := m_ (kl_ gb355 hb)
            replace BK370 := m_ (kl_ gb370 hb)
            replace HR374_5 := m_ (Kd.C_below (by repeat (first | (with_reducible exact HR374_5.out) | (with_reducible refine Kd.C_alloc ?_ _) | (with_reducible refine Kd.C_drewN ?_ _) | (with_reducible refine Kd.C_drew ?_) | exact HR374_5.out)) hb)
            replace HB := m_ (below_step bz_ hb)
            (try clear hb)
            (try clear hb2)
            (try clear hk)
            (try clear hi)
            refine hK.out _ _ ⟨bc_ BK370.out 0, bc_ BK370.out 1, bc_ BK355.out 0, bc_ BK355.out 1, bc_ BK355.out 2, bc_ BK355.out 3, bc_ BK355.out 4, bc_ BK355.out 5, HS8_, HS9_, HS10_, HS11_, HS12_, HS13_⟩ (fun hHeld => ?_)
            clear hK K
            refine nz_ (some 97) ?_
            refine pz_ 9 98 ?_
            refine pz_ 10 12 ?_
            refine dz_ ?_
            try go_wp2
            go_roundg k3
            case measure => have := HJ4.out; have := HK2.out; have := HK3.out; omega
            case rel => exact ⟨(t375), (wrap64 (x14_3 + 1)), (by first | rfl | (simp; done) | (simp [*]; done)), (by first | rfl | (simp; done) | (simp [*]; done)), H', ⟨by have := HJ4.out; have := HK2.out; have := HK3.out; omega⟩, ⟨Vz_ HO_9.out⟩, ⟨Vz_ HO_371001.out⟩, ⟨kz_⟩, ⟨kz_⟩, ⟨kz_⟩, ⟨bz_⟩⟩
           ·rw [if_neg c65] at H
            exact absurd H (by simp)
         ·rw [if_neg c59] at H
          have c59b0 : decide (x14_3 < (t361.length : Int)) = false := decide_eq_false c59
          clear c59
          by_cases c72 : x11_2 = true
          ·subst c72
           have H1 : (if t356 = true then (if (t364.length : Int) = 0 then (some x12_3) else (some false)) else (some false)) = some r := by rw [if_pos rfl] at H; exact H
           clear H
           have H := H1
           clear H1
           by_cases c73 : t356 = true
           ·subst c73
            have H1 : (if (t364.length : Int) = 0 then (some x12_3) else (some false)) = some r := by rw [if_pos rfl] at H; exact H
            clear H
            have H := H1
            clear H1
            by_cases c74 : (t364.length : Int) = 0
            ·rw [if_pos c74] at H
             have c74b0 : ((t364.length : Int) == 0) = true := beq_iff_eq.mpr c74
             have c74b1 : ((t364.length : Int) != 0) = false := bne_eq_false_iff_eq.mpr c74
             clear c74
             obtain rfl := Option.some.inj H
             have hnb75 := NB370_354.out
             have hnc75 := NB354_370.out
             have hnb76 := NB370_355.out
             have hnc76 := NB355_370.out
             have hcz77 := cz2_ BK370.out
             obtain ⟨Ao78, co78, eo78⟩ := Kd.V_slice HO_9.out
             subst eo78
             go_wp2
             go_ret
             exact ⟨ew_, bz_⟩
            ·rw [if_neg c74] at H
             have c74b0 : ((t364.length : Int) == 0) = false := beq_eq_false_iff_ne.mpr c74
             have c74b1 : ((t364.length : Int) != 0) = true := bne_iff_ne.mpr c74
             have c74b2 : ¬ (t364 = []) := fun h_ => c74 (by rw [h_]; rfl)
             exact absurd ((Option.some.inj H).trans hTrue.out) (by simp)
           ·replace c73 := Bool.eq_false_iff.mpr c73
            subst c73
            have H1 : (some false) = some r := by rw [if_neg (show ¬ (false = true) by decide)] at H; exact H
            clear H
            have H := H1
            clear H1
            exact absurd ((Option.some.inj H).trans hTrue.out) (by simp)
          ·replace c72 := Bool.eq_false_iff.mpr c72
           subst c72
           have H1 : (if (l0_1.length : Int) ≥ a0_0 then (if t356 = true then (if (t364.length : Int) = 1 then (if 0 < (t364.length : Int) then (if ((rd_T32 t364 0).f0) = 5 then (if ((rd_T32 t364 0).f1) = a2 then ((stolonref17_Same.f k3 t360 t361 a0_0 l0_1).bind fun t378 => (some t378)) else (some false)) else (some false)) else (none)) else (some false)) else (some false)) else (if t356 = true then (if (t364.length : Int) = 0 then (some x12_3) else (some false)) else (some false))) = some r := by rw [if_neg (show ¬ (false = true) by decide)] at H; exact H
           clear H
           have H := H1
           clear H1
           by_cases c79 : (l0_1.length : Int) ≥ a0_0
           ·rw [if_pos c79] at H
            have c79b0 : decide (a0_0 ≤ (l0_1.length : Int)) = true := decide_eq_true c79
            clear c79
            by_cases c80 : t356 = true
            ·subst c80
             have H1 : (if (t364.length : Int) = 1 then (if 0 < (t364.length : Int) then (if ((rd_T32 t364 0).f0) = 5 then (if ((rd_T32 t364 0).f1) = a2 then ((stolonref17_Same.f k3 t360 t361 a0_0 l0_1).bind fun t378 => (some t378)) else (some false)) else (some false)) else (none)) else (some false)) = some r := by rw [if_pos rfl] at H; exact H
             clear H
             have H := H1
             clear H1
             by_cases c81 : (t364.length : Int) = 1
             ·rw [if_pos c81] at H
              have c81b0 : ((t364.length : Int) == 1) = true := beq_iff_eq.mpr c81
              have c81b1 : ((t364.length : Int) != 1) = false := bne_eq_false_iff_eq.mpr c81
              clear c81
              by_cases c82 : 0 < (t364.length : Int)
              ·rw [if_pos c82] at H
               have c82b0 : decide (0 < (t364.length : Int)) = true := decide_eq_true c82
               have c82b1 : decide (0 < t364.length) = true := decide_eq_true (by omega)
               clear c82
               by_cases c83 : ((rd_T32 t364 0).f0) = 5
               ·rw [if_pos c83] at H
                have c83b0 : (((rd_T32 t364 0).f0) == 5) = true := beq_iff_eq.mpr c83
                have c83b1 : (((rd_T32 t364 0).f0) != 5) = false := bne_eq_false_iff_eq.mpr c83
                clear c83
                by_cases c84 : ((rd_T32 t364 0).f1) = a2
                ·rw [if_pos c84] at H
                 have c84b0 : (((rd_T32 t364 0).f1) == a2) = true := beq_iff_eq.mpr c84
                 have c84b1 : (((rd_T32 t364 0).f1) != a2) = false := bne_eq_false_iff_eq.mpr c84
                 clear c84
                 replace H := Option.bind_eq_some_iff.mp H
                 obtain ⟨t378, A850, H⟩ := H
                 replace H : (some t378) = some r := H
                 have A85 := m_ A850
                 clear A850
                 obtain rfl := Option.some.inj H
                 have hnb86 := NB370_354.out
                 have hnc86 := NB354_370.out
                 have hnb87 := NB370_355.out
                 have hnc87 := NB355_370.out
                 have hcz88 := cz2_ BK370.out
                 have hnb89 := NB354_355.out
                 have hnc89 := NB355_354.out
                 have hcz90 := cz2_ BK354.out
                 obtain ⟨Ao91, co91, eo91⟩ := Kd.V_slice HO_9.out
                 subst eo91
                 have p376 : 0 ≤ (0 : Int) := (by omega)
                 have q376 : 0 < (t364.length : Int) := od_
                 obtain ⟨ad376, A376_7, c376_7, A376_10, c376_10, e376, hx376_0, hx376_1, hx376_2, hx376_3, hx376_4, hx376_5, hx376_6, hx376_7, hx376_8, hx376_9, hx376_10, hl376_7, hi376_7, hl376_10, hi376_10⟩ := at_T32 (Kd.V_reads' HO_9.out).2.2 0 p376 q376
                 cases e376
                 obtain ⟨ce376, hce376, hMe376, hcc376⟩ := Kd.V_get HO_9.out z32 0 p376 (by first | exact q376 | exact od_ | (have e_ := (Kd.V_reads' HO_9.out).1; omega))
                 obtain ⟨ua376_7, uc376_7, ua376_10, uc376_10, rfl, ul376_7, ge376_7, ul376_10, ge376_10⟩ := k32_openF hMe376
                 have hv376_7 := hcc376 7 _ rfl
                 rw [add_field _ _ 7 (by omega)] at hv376_7
                 replace hv376_7 := Option.some.inj (hv376_7.symm.trans hx376_7)
                 injection hv376_7 with hva_ hvn_ hvc_
                 rw [hva_] at ge376_7
                 rw [hvc_] at ul376_7
                 have HL376_7 := m_ (show Kd.V k74 74 _ w.heap.size _ _ ((rd_T32 t364 0).f2.f5) from Kd.V_mk ul376_7 ge376_7)
                 clear hva_ hvn_ hvc_ ge376_7 ul376_7
                 have hv376_10 := hcc376 10 _ rfl
                 rw [add_field _ _ 10 (by omega)] at hv376_10
                 replace hv376_10 := Option.some.inj (hv376_10.symm.trans hx376_10)
                 injection hv376_10 with hva_ hvn_ hvc_
                 rw [hva_] at ge376_10
                 rw [hvc_] at ul376_10
                 have HL376_10 := m_ (show Kd.V (Kd.int .u8) 5 _ w.heap.size _ _ ((rd_T32 t364 0).f5) from Kd.V_mk ul376_10 ge376_10)
                 clear hva_ hvn_ hvc_ ge376_10 ul376_10 hcc376 hce376
                 have qi376 : (0 < t364.length) = True := eq_true (by omega)
                 (try rw [show ((0 : Int)).toNat = 0 from rfl] at hx376_0)
                 (try rw [show 0 * 11 = 0 from rfl] at hx376_0)
                 (try rw [Addr.add_zero'] at hx376_0)
                 (try rw [show ((0 : Int)).toNat = 0 from rfl] at hx376_1)
                 (try rw [show 0 * 11 = 0 from rfl] at hx376_1)
                 (try rw [Addr.add_zero'] at hx376_1)
                 (try rw [show ((0 : Int)).toNat = 0 from rfl] at hx376_2)
                 (try rw [show 0 * 11 = 0 from rfl] at hx376_2)
                 (try rw [Addr.add_zero'] at hx376_2)
                 (try rw [show ((0 : Int)).toNat = 0 from rfl] at hx376_3)
                 (try rw [show 0 * 11 = 0 from rfl] at hx376_3)
                 (try rw [Addr.add_zero'] at hx376_3)
                 (try rw [show ((0 : Int)).toNat = 0 from rfl] at hx376_4)
                 (try rw [show 0 * 11 = 0 from rfl] at hx376_4)
                 (try rw [Addr.add_zero'] at hx376_4)
                 (try rw [show ((0 : Int)).toNat = 0 from rfl] at hx376_5)
                 (try rw [show 0 * 11 = 0 from rfl] at hx376_5)
                 (try rw [Addr.add_zero'] at hx376_5)
                 (try rw [show ((0 : Int)).toNat = 0 from rfl] at hx376_6)
                 (try rw [show 0 * 11 = 0 from rfl] at hx376_6)
                 (try rw [Addr.add_zero'] at hx376_6)
                 (try rw [show ((0 : Int)).toNat = 0 from rfl] at hx376_7)
                 (try rw [show 0 * 11 = 0 from rfl] at hx376_7)
                 (try rw [Addr.add_zero'] at hx376_7)
                 (try rw [show ((0 : Int)).toNat = 0 from rfl] at hx376_8)
                 (try rw [show 0 * 11 = 0 from rfl] at hx376_8)
                 (try rw [Addr.add_zero'] at hx376_8)
                 (try rw [show ((0 : Int)).toNat = 0 from rfl] at hx376_9)
                 (try rw [show 0 * 11 = 0 from rfl] at hx376_9)
                 (try rw [Addr.add_zero'] at hx376_9)
                 (try rw [show ((0 : Int)).toNat = 0 from rfl] at hx376_10)
                 (try rw [show 0 * 11 = 0 from rfl] at hx376_10)
                 (try rw [Addr.add_zero'] at hx376_10)
                 have HR376_7 := m_ hi376_7
                 have HC376_7 := m_ hl376_7
                 clear hi376_7 hl376_7
                 have HR376_10 := m_ hi376_10
                 have HC376_10 := m_ hl376_10
                 clear hi376_10 hl376_10
                 replace p376 := eq_true p376
                 replace q376 := eq_true q376
                 have p377 : 0 ≤ (0 : Int) := (by omega)
                 have q377 : 0 < (t364.length : Int) := od_
                 obtain ⟨ad377, A377_7, c377_7, A377_10, c377_10, e377, hx377_0, hx377_1, hx377_2, hx377_3, hx377_4, hx377_5, hx377_6, hx377_7, hx377_8, hx377_9, hx377_10, hl377_7, hi377_7, hl377_10, hi377_10⟩ := at_T32 (Kd.V_reads' HO_9.out).2.2 0 p377 q377
                 obtain rfl : ad376 = ad377 := (by injection e377)
                 obtain ⟨ce377, hce377, hMe377, hcc377⟩ := Kd.V_get HO_9.out z32 0 p377 (by first | exact q377 | exact od_ | (have e_ := (Kd.V_reads' HO_9.out).1; omega))
                 obtain ⟨ua377_7, uc377_7, ua377_10, uc377_10, rfl, ul377_7, ge377_7, ul377_10, ge377_10⟩ := k32_openF hMe377
                 have hv377_7 := hcc377 7 _ rfl
                 rw [add_field _ _ 7 (by omega)] at hv377_7
                 replace hv377_7 := Option.some.inj (hv377_7.symm.trans hx377_7)
                 injection hv377_7 with hva_ hvn_ hvc_
                 rw [hva_] at ge377_7
                 rw [hvc_] at ul377_7
                 have HL377_7 := m_ (show Kd.V k74 74 _ w.heap.size _ _ ((rd_T32 t364 0).f2.f5) from Kd.V_mk ul377_7 ge377_7)
                 clear hva_ hvn_ hvc_ ge377_7 ul377_7
                 have hv377_10 := hcc377 10 _ rfl
                 rw [add_field _ _ 10 (by omega)] at hv377_10
                 replace hv377_10 := Option.some.inj (hv377_10.symm.trans hx377_10)
                 injection hv377_10 with hva_ hvn_ hvc_
                 rw [hva_] at ge377_10
                 rw [hvc_] at ul377_10
                 have HL377_10 := m_ (show Kd.V (Kd.int .u8) 5 _ w.heap.size _ _ ((rd_T32 t364 0).f5) from Kd.V_mk ul377_10 ge377_10)
                 clear hva_ hvn_ hvc_ ge377_10 ul377_10 hcc377 hce377
                 have qi377 : (0 < t364.length) = True := eq_true (by omega)
                 (try rw [show ((0 : Int)).toNat = 0 from rfl] at hx377_0)
                 (try rw [show 0 * 11 = 0 from rfl] at hx377_0)
                 (try rw [Addr.add_zero'] at hx377_0)
                 (try rw [show ((0 : Int)).toNat = 0 from rfl] at hx377_1)
                 (try rw [show 0 * 11 = 0 from rfl] at hx377_1)
                 (try rw [Addr.add_zero'] at hx377_1)
                 (try rw [show ((0 : Int)).toNat = 0 from rfl] at hx377_2)
                 (try rw [show 0 * 11 = 0 from rfl] at hx377_2)
                 (try rw [Addr.add_zero'] at hx377_2)
                 (try rw [show ((0 : Int)).toNat = 0 from rfl] at hx377_3)
                 (try rw [show 0 * 11 = 0 from rfl] at hx377_3)
                 (try rw [Addr.add_zero'] at hx377_3)
                 (try rw [show ((0 : Int)).toNat = 0 from rfl] at hx377_4)
                 (try rw [show 0 * 11 = 0 from rfl] at hx377_4)
                 (try rw [Addr.add_zero'] at hx377_4)
                 (try rw [show ((0 : Int)).toNat = 0 from rfl] at hx377_5)
                 (try rw [show 0 * 11 = 0 from rfl] at hx377_5)
                 (try rw [Addr.add_zero'] at hx377_5)
                 (try rw [show ((0 : Int)).toNat = 0 from rfl] at hx377_6)
                 (try rw [show 0 * 11 = 0 from rfl] at hx377_6)
                 (try rw [Addr.add_zero'] at hx377_6)
                 (try rw [show ((0 : Int)).toNat = 0 from rfl] at hx377_7)
                 (try rw [show 0 * 11 = 0 from rfl] at hx377_7)
                 (try rw [Addr.add_zero'] at hx377_7)
                 (try rw [show ((0 : Int)).toNat = 0 from rfl] at hx377_8)
                 (try rw [show 0 * 11 = 0 from rfl] at hx377_8)
                 (try rw [Addr.add_zero'] at hx377_8)
                 (try rw [show ((0 : Int)).toNat = 0 from rfl] at hx377_9)
                 (try rw [show 0 * 11 = 0 from rfl] at hx377_9)
                 (try rw [Addr.add_zero'] at hx377_9)
                 (try rw [show ((0 : Int)).toNat = 0 from rfl] at hx377_10)
                 (try rw [show 0 * 11 = 0 from rfl] at hx377_10)
                 (try rw [Addr.add_zero'] at hx377_10)
                 have HR377_7 := m_ hi377_7
                 have HC377_7 := m_ hl377_7
                 clear hi377_7 hl377_7
                 have HR377_10 := m_ hi377_10
                 have HC377_10 := m_ hl377_10
                 clear hi377_10 hl377_10
                 replace p377 := eq_true p377
                 replace q377 := eq_true q377
                 have ea_ := Option.some.inj (hx376_7.symm.trans hx377_7)
                 injection ea_ with ea_ en_ ec_
                 subst ea_
                 subst ec_
                 clear en_
                 have ea_ := Option.some.inj (hx376_10.symm.trans hx377_10)
                 injection ea_ with ea_ en_ ec_
                 subst ea_
                 subst ec_
                 clear en_
                 go_wp2_with (first | (go_at_call 17; (with_reducible refine (stolonref17_Same.calls k3 t360 _ _ t361 a0_0 _ _ l0_1 t378 _ ?side1 ?side2 ?side3 ?side4 A85.out).mono ?_); (case side1 => exact Cd_ (Kd.V_reads' HO_371001.out).2.2); (case side2 => exact (Kd.V_reads' HO_371001.out).2.1); (case side3 => exact Cd_ (Kd.C_below HR0_1.out HB.out)); (case side4 => exact HC0_1.out); rintro e w92 ⟨rfl, hb⟩; replace HO_9 := m_ (Kd.V_below (Vz_ HO_9.out) hb); replace HO_371001 := m_ (Kd.V_below (Vz_ HO_371001.out) hb); replace HL376_7 := m_ (Kd.V_below (Vz_ HL376_7.out) hb); replace HL376_10 := m_ (Kd.V_below (Vz_ HL376_10.out) hb); replace HL377_7 := m_ (Kd.V_below (Vz_ HL377_7.out) hb); replace HL377_10 := m_ (Kd.V_below (Vz_ HL377_10.out) hb); replace BK354 := m_ (kl_ gb354 hb); replace BK355 := m_ (kl_ gb355 hb); replace BK370 := m_ (kl_ gb370 hb); replace HR376_7 := m_ (Kd.C_below (by repeat (first | (with_reducible exact HR376_7.out) | (with_reducible refine Kd.C_alloc ?_ _) | (with_reducible refine Kd.C_drewN ?_ _) | (with_reducible refine Kd.C_drew ?_) | exact HR376_7.out)) hb); replace HR376_10 := m_ (Kd.C_below (by repeat (first | (with_reducible exact HR376_10.out) | (with_reducible refine Kd.C_alloc ?_ _) | (with_reducible refine Kd.C_drewN ?_ _) | (with_reducible refine Kd.C_drew ?_) | exact HR376_10.out)) hb); replace HR377_7 := m_ (Kd.C_below (by repeat (first | (with_reducible exact HR377_7.out) | (with_reducible refine Kd.C_alloc ?_ _) | (with_reducible refine Kd.C_drewN ?_ _) | (with_reducible refine Kd.C_drew ?_) | exact HR377_7.out)) hb); replace HR377_10 := m_ (Kd.C_below (by repeat (first | (with_reducible exact HR377_10.out) | (with_reducible refine Kd.C_alloc ?_ _) | (with_reducible refine Kd.C_drewN ?_ _) | (with_reducible refine Kd.C_drew ?_) | exact HR377_10.out)) hb); replace HB := m_ (below_step bz_ hb); (try clear hb); (try clear hb2); (try clear hk); (try clear hi)))
                 go_ret
                 exact ⟨ew_, bz_⟩
                ·rw [if_neg c84] at H
                 have c84b0 : (((rd_T32 t364 0).f1) == a2) = false := beq_eq_false_iff_ne.mpr c84
                 have c84b1 : (((rd_T32 t364 0).f1) != a2) = true := bne_iff_ne.mpr c84
                 exact absurd ((Option.some.inj H).trans hTrue.out) (by simp)
               ·rw [if_neg c83] at H
                have c83b0 : (((rd_T32 t364 0).f0) == 5) = false := beq_eq_false_iff_ne.mpr c83
                have c83b1 : (((rd_T32 t364 0).f0) != 5) = true := bne_iff_ne.mpr c83
                exact absurd ((Option.some.inj H).trans hTrue.out) (by simp)
              ·rw [if_neg c82] at H
               exact absurd H (by simp)
             ·rw [if_neg c81] at H
              have c81b0 : ((t364.length : Int) == 1) = false := beq_eq_false_iff_ne.mpr c81
              have c81b1 : ((t364.length : Int) != 1) = true := bne_iff_ne.mpr c81
              exact absurd ((Option.some.inj H).trans hTrue.out) (by simp)
            ·replace c80 := Bool.eq_false_iff.mpr c80
             subst c80
             have H1 : (some false) = some r := by rw [if_neg (show ¬ (false = true) by decide)] at H; exact H
             clear H
             have H := H1
             clear H1
             exact absurd ((Option.some.inj H).trans hTrue.out) (by simp)
           ·rw [if_neg c79] at H
            have c79b0 : decide (a0_0 ≤ (l0_1.length : Int)) = false := decide_eq_false c79
            clear c79
            by_cases c93 : t356 = true
            ·subst c93
             have H1 : (if (t364.length : Int) = 0 then (some x12_3) else (some false)) = some r := by rw [if_pos rfl] at H; exact H
             clear H
             have H := H1
             clear H1
             by_cases c94 : (t364.length : Int) = 0
             ·rw [if_pos c94] at H
              have c94b0 : ((t364.length : Int) == 0) = true := beq_iff_eq.mpr c94
              have c94b1 : ((t364.length : Int) != 0) = false := bne_eq_false_iff_eq.mpr c94
              clear c94
              obtain rfl := Option.some.inj H
              have hnb95 := NB370_354.out
              have hnc95 := NB354_370.out
              have hnb96 := NB370_355.out
              have hnc96 := NB355_370.out
              have hcz97 := cz2_ BK370.out
              have hnb98 := NB354_355.out
              have hnc98 := NB355_354.out
              have hcz99 := cz2_ BK354.out
              obtain ⟨Ao100, co100, eo100⟩ := Kd.V_slice HO_9.out
              subst eo100
              go_wp2
              go_ret
              exact ⟨ew_, bz_⟩
             ·rw [if_neg c94] at H
              have c94b0 : ((t364.length : Int) == 0) = false := beq_eq_false_iff_ne.mpr c94
              have c94b1 : ((t364.length : Int) != 0) = true := bne_iff_ne.mpr c94
              have c94b2 : ¬ (t364 = []) := fun h_ => c94 (by rw [h_]; rfl)
              exact absurd ((Option.some.inj H).trans hTrue.out) (by simp)
            ·replace c93 := Bool.eq_false_iff.mpr c93
             subst c93
             have H1 : (some false) = some r := by rw [if_neg (show ¬ (false = true) by decide)] at H; exact H
             clear H
             have H := H1
             clear H1
             exact absurd ((Option.some.inj H).trans hTrue.out) (by simp)
end Go.Proofs.Ytfomnmdjbdohgaa.P

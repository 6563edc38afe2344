/- For each Go function a Lean function, and the proof that a call comes to what it tells: made by program out of the translation (the kit's print, with texts by hand put in). No condition. -/
import Derived.Test.YteibolilodgjnaaSq
import Derived.Test.YteibolilodgjnaaPx0
import Derived.Test.YteibolilodgjnaaPx23
namespace Go.Proofs.Yteibolilodgjnaa.P
open Go.RowKit Go.Proofs.Yteibolilodgjnaa.HRows Go.Proofs.YteibolilodgjnaaW.PrintWords Go.Proofs.YteibolilodgjnaaW.PrintLast Go.Proofs.YteibolilodgjnaaW.PrintMore
attribute [local go_sem] max2_int min2_int max_two min_two max_three min_three max_four min_four   -- for this text's walks alone
set_option linter.unusedVariables false
set_option linter.unusedSimpArgs false

/-! ### stolonref15_Del: function 21 -/
def stolonref15_Del.f (k : Nat) (l0 : List (S27)) (a1 : Int) (a2 : Int) (a3 : Int) : Option ((List (S27)) × Bool) := (stolonref15_at.f k l0 a1 a2 a3).bind fun t293 => (if t293 < 0 then (some (l0, false)) else ((some (([] : List (S27)) : List (S27))).bind fun y294 => (if 0 ≤ t293 then (if t293 ≤ (l0.length : Int) then ((some (l0.take (t293 : Int).toNat : List (S27))).bind fun y297 => (if y294.length + y297.length < 2513169434916 then ((some (y294 ++ y297 : List (S27))).bind fun y302 => (if 0 ≤ (wrap64 (t293 + 1)) then (if (wrap64 (t293 + 1)) ≤ (l0.length : Int) then ((some (l0.drop ((wrap64 (t293 + 1)) : Int).toNat : List (S27))).bind fun y305 => (if y302.length + y305.length < 2513169434916 then (some ((y302 ++ y305), true)) else (none))) else (none)) else (none))) else (none))) else (none)) else (none))))
theorem stolonref15_Del.mono : ∀ a0 a1 a2 a3 k, LeO (stolonref15_Del.f k a0 a1 a2 a3) (stolonref15_Del.f (k + 1) a0 a1 a2 a3) := by
 intro a0 a1 a2 a3 k
 unfold stolonref15_Del.f
 repeat' first
   | (with_reducible exact stolonref15_at.mono _ _ _ _ _)
   | (with_reducible exact LeO.refl _)
   | (with_reducible exact LeO.none _)
   | (with_reducible refine LeO.ite ?_ ?_)
   | (with_reducible refine LeO.bind ?_ (fun _ => ?_))
   | exact stolonref15_at.mono _ _ _ _ _
   | exact LeO.none _
   | refine LeO.ite ?_ ?_
   | refine LeO.bind ?_ (fun _ => ?_)
def stolonref15_Del.T4 : Bool × List (List Nat × List Nat) := (true, [([], []), ([], []), ([], []), ([1, 2], [1, 2]), ([0, 3], [0, 3]), ([], []), ([], []), ([6], [6]), ([5, 7], [5, 7]), ([4, 8, 4], [4, 8]), ([9, 9, 0, 1, 2, 3, 4, 5, 6, 7, 8, 9], [9]), ([10, 0, 1, 2, 3, 4, 5, 6, 7, 8, 9, 10], [])])
def stolonref15_Del.B4 : List Nat := [0, 0, 0, 6, 15, 0, 0, 64, 224, 511, 1023, 2047]
theorem stolonref15_Del.tab4 : rtab .any (opsOf Try.f21 4) = stolonref15_Del.T4 := by kernel_rfl
theorem stolonref15_Del.bits4 : waitsOk stolonref15_Del.T4.2 stolonref15_Del.B4 = true := by kernel_rfl
set_option maxHeartbeats 8000000 in
set_option maxRecDepth 100000 in
theorem stolonref15_Del.calls (k : Nat) (P0_ : Nat → Prop) (A0 : Option Addr) (c0 : Nat) (l0 : List (S27)) (a1 : Int) (a2 : Int) (a3 : Int) (r1 : List (S27)) (r2 : Bool) (w : World) (hs0 : Kd.V k27 27 w w.heap.size (fun k_ => P0_ k_) (.slice A0 l0.length c0) l0) (h : stolonref15_Del.f k l0 a1 a2 a3 = some (r1, r2)) :
  Calls Try.prog 21 #[.slice A0 l0.length c0, .int .u32 a1, .int .u32 a2, .int .u32 a3] w fun e w' => ∃ v0_ : Value, e = .returned (.tuple #[v0_, .bool r2]) ∧ Kd.V k27 27 w' w.heap.size (fun k_ => (P0_ k_ ∨ w.heap.size ≤ k_)) v0_ r1 ∧ Below w.heap.size w w' := by
 have HO0 := m_ (show Kd.V k27 27 w w.heap.size (fun k_ => (P0_ k_ ∨ w.heap.size ≤ k_)) (.slice A0 l0.length c0) l0 from Kd.V_mono hs0 (fun k_ hk => .inl hk))
 have HB := m_ (Below.refl w.heap.size w)
 have H : ((stolonref15_at.f k l0 a1 a2 a3).bind fun t293 => (if t293 < 0 then (some (l0, false)) else ((some (([] : List (S27)) : List (S27))).bind fun y294 => (if 0 ≤ t293 then (if t293 ≤ (l0.length : Int) then ((some (l0.take (t293 : Int).toNat : List (S27))).bind fun y297 => (if y294.length + y297.length < 2513169434916 then ((some (y294 ++ y297 : List (S27))).bind fun y302 => (if 0 ≤ (wrap64 (t293 + 1)) then (if (wrap64 (t293 + 1)) ≤ (l0.length : Int) then ((some (l0.drop ((wrap64 (t293 + 1)) : Int).toNat : List (S27))).bind fun y305 => (if y302.length + y305.length < 2513169434916 then (some ((y302 ++ y305), true)) else (none))) else (none)) else (none))) else (none))) else (none)) else (none))))) = some (r1, r2) := h
 clear h
 replace H := Option.bind_eq_some_iff.mp H
 obtain ⟨t293, A50, H⟩ := H
 replace H : (if t293 < 0 then (some (l0, false)) else ((some (([] : List (S27)) : List (S27))).bind fun y294 => (if 0 ≤ t293 then (if t293 ≤ (l0.length : Int) then ((some (l0.take (t293 : Int).toNat : List (S27))).bind fun y297 => (if y294.length + y297.length < 2513169434916 then ((some (y294 ++ y297 : List (S27))).bind fun y302 => (if 0 ≤ (wrap64 (t293 + 1)) then (if (wrap64 (t293 + 1)) ≤ (l0.length : Int) then ((some (l0.drop ((wrap64 (t293 + 1)) : Int).toNat : List (S27))).bind fun y305 => (if y302.length + y305.length < 2513169434916 then (some ((y302 ++ y305), true)) else (none))) else (none)) else (none))) else (none))) else (none)) else (none)))) = some (r1, r2) := H
 have A5 := m_ A50
 clear A50
 by_cases c6 : t293 < 0
 ·rw [if_pos c6] at H
  have c6b0 : decide (t293 < 0) = true := decide_eq_true c6
  clear c6
  simp only [Option.some.injEq, Prod.mk.injEq] at H
  obtain ⟨rfl, rfl⟩ := H
  go_enter Try.func21, Try.ntmps21
  go_wp2_with (first | ((with_reducible refine gate_callee (f := 33) rfl ?_); refine goesL_ (some 15) rfl rfl Try.func33 (by kernel_rfl) rfl #[.slice A0 l0.length c0, .int .u32 a1, .int .u32 a2, .int .u32 a3] rfl (by (try simp only [List.map_toArray, List.map_cons, List.map_nil]); first | done | rfl | (simp only [List.length_drop, List.length_take]; rfl)) ?_; (with_reducible refine (stolonref15_at.calls k _ _ l0 a1 a2 a3 t293 _ ?side1 ?side2 A5.out).mono ?_); (case side1 => repeat (first | exact (Kd.V_reads' HO0.out).2.2 | (with_reducible refine Kd.C_alloc ?_ _) | (with_reducible refine Kd.C_drewN ?_ _) | (with_reducible refine Kd.C_drew ?_))); (case side2 => exact (Kd.V_reads' HO0.out).2.1); rintro e w' ⟨rfl, ⟨nd, rfl⟩⟩; refine ⟨_, rfl, ?_⟩))
  go_ret2
  exact ⟨_, by first | rfl | (simp [errW_none, errW_some] <;> rfl) | (simp [*, errW_none, errW_some] <;> rfl), by (with_reducible repeat (first | apply Kd.V_alloc | apply Kd.V_drewN | apply Kd.V_drew)); exact HO0.out, by repeat (first | (with_reducible first | exact HB.out | apply pa_ | apply pn_ | apply pd_) | exact HB.out)⟩
 ·rw [if_neg c6] at H
  have c6b0 : decide (t293 < 0) = false := decide_eq_false c6
  clear c6
  obtain ⟨y294, hy294⟩ : ∃ y_ : List (S27), y_ = (([] : List (S27))) := ⟨_, rfl⟩
  replace H : (if 0 ≤ t293 then (if t293 ≤ (l0.length : Int) then ((some (l0.take (t293 : Int).toNat : List (S27))).bind fun y297 => (if y294.length + y297.length < 2513169434916 then ((some (y294 ++ y297 : List (S27))).bind fun y302 => (if 0 ≤ (wrap64 (t293 + 1)) then (if (wrap64 (t293 + 1)) ≤ (l0.length : Int) then ((some (l0.drop ((wrap64 (t293 + 1)) : Int).toNat : List (S27))).bind fun y305 => (if y302.length + y305.length < 2513169434916 then (some ((y302 ++ y305), true)) else (none))) else (none)) else (none))) else (none))) else (none)) else (none)) = some (r1, r2) := by first | (rw [hy294]; with_reducible exact H) | (have H2_ := (Option.bind_some _ _).symm.trans H; rw [hy294]; with_reducible exact H2_) | (have H2_ := (Option.bind_some _ _).symm.trans H; with_reducible exact H2_) | with_reducible exact H | (rw [hy294]; exact H) | exact H
  have Ny294 := m_ hy294
  clear hy294
  by_cases c7 : 0 ≤ t293
  ·rw [if_pos c7] at H
   have c7b0 := eq_true c7
   have c7b1 : decide (0 ≤ t293) = true := decide_eq_true c7
   clear c7
   by_cases c8 : t293 ≤ (l0.length : Int)
   ·rw [if_pos c8] at H
    have c8b0 := eq_true c8
    have c8b1 : decide (t293 ≤ (l0.length : Int)) = true := decide_eq_true c8
    clear c8
    obtain ⟨y297, hy297⟩ : ∃ y_ : List (S27), y_ = (l0.take (t293 : Int).toNat) := ⟨_, rfl⟩
    replace H : (if y294.length + y297.length < 2513169434916 then ((some (y294 ++ y297 : List (S27))).bind fun y302 => (if 0 ≤ (wrap64 (t293 + 1)) then (if (wrap64 (t293 + 1)) ≤ (l0.length : Int) then ((some (l0.drop ((wrap64 (t293 + 1)) : Int).toNat : List (S27))).bind fun y305 => (if y302.length + y305.length < 2513169434916 then (some ((y302 ++ y305), true)) else (none))) else (none)) else (none))) else (none)) = some (r1, r2) := by first | (rw [hy297]; with_reducible exact H) | (have H2_ := (Option.bind_some _ _).symm.trans H; rw [hy297]; with_reducible exact H2_) | (have H2_ := (Option.bind_some _ _).symm.trans H; with_reducible exact H2_) | with_reducible exact H | (rw [hy297]; exact H) | exact H
    have Ny297 := m_ hy297
    clear hy297
    by_cases c9 : y294.length + y297.length < 2513169434916
    ·rw [if_pos c9] at H
     have LMc9 := m_ c9
     clear c9
     obtain ⟨y302, hy302⟩ : ∃ y_ : List (S27), y_ = (y294 ++ y297) := ⟨_, rfl⟩
     replace H : (if 0 ≤ (wrap64 (t293 + 1)) then (if (wrap64 (t293 + 1)) ≤ (l0.length : Int) then ((some (l0.drop ((wrap64 (t293 + 1)) : Int).toNat : List (S27))).bind fun y305 => (if y302.length + y305.length < 2513169434916 then (some ((y302 ++ y305), true)) else (none))) else (none)) else (none)) = some (r1, r2) := by first | (rw [hy302]; with_reducible exact H) | (have H2_ := (Option.bind_some _ _).symm.trans H; rw [hy302]; with_reducible exact H2_) | (have H2_ := (Option.bind_some _ _).symm.trans H; with_reducible exact H2_) | with_reducible exact H | (rw [hy302]; exact H) | exact H
     have Ny302 := m_ hy302
     clear hy302
     obtain ⟨ji10, hji10⟩ : ∃ j_ : Int, (wrap64 (t293 + 1)) = j_ := ⟨_, rfl⟩
     replace H : (if 0 ≤ (ji10) then (if (ji10) ≤ (l0.length : Int) then ((some (l0.drop ((ji10) : Int).toNat : List (S27))).bind fun y305 => (if y302.length + y305.length < 2513169434916 then (some ((y302 ++ y305), true)) else (none))) else (none)) else (none)) = some (r1, r2) := by first | (rw [hji10] at H; exact H) | (simp only [hji10] at H ⊢; exact H)
     (try rw [hji10] at A5)
     have hji10w : (IntKind.i64.wrap (t293 + 1)) = ji10 := (i64_w _).trans hji10
     by_cases c11 : 0 ≤ (ji10)
     ·rw [if_pos c11] at H
      have c11b0 := eq_true c11
      have c11b1 : decide (0 ≤ (ji10)) = true := decide_eq_true c11
      clear c11
      by_cases c12 : (ji10) ≤ (l0.length : Int)
      ·rw [if_pos c12] at H
       have c12b0 := eq_true c12
       have c12b1 : decide ((ji10) ≤ (l0.length : Int)) = true := decide_eq_true c12
       clear c12
       obtain ⟨y305, hy305⟩ : ∃ y_ : List (S27), y_ = (l0.drop ((ji10) : Int).toNat) := ⟨_, rfl⟩
       replace H : (if y302.length + y305.length < 2513169434916 then (some ((y302 ++ y305), true)) else (none)) = some (r1, r2) := by first | (rw [hy305]; with_reducible exact H) | (have H2_ := (Option.bind_some _ _).symm.trans H; rw [hy305]; with_reducible exact H2_) | (have H2_ := (Option.bind_some _ _).symm.trans H; with_reducible exact H2_) | with_reducible exact H | (rw [hy305]; exact H) | exact H
       have Ny305 := m_ hy305
       clear hy305
       by_cases c13 : y302.length + y305.length < 2513169434916
       ·rw [if_pos c13] at H
        have LMc13 := m_ c13
        clear c13
        obtain ⟨y310, hy310⟩ : ∃ y_ : List (S27), y_ = (y302 ++ y305) := ⟨_, rfl⟩
        replace H : (some (y310, true)) = some (r1, r2) := by first | (rw [hy310]; with_reducible exact H) | (have H2_ := (Option.bind_some _ _).symm.trans H; rw [hy310]; with_reducible exact H2_) | (have H2_ := (Option.bind_some _ _).symm.trans H; with_reducible exact H2_) | with_reducible exact H | (rw [hy310]; exact H) | exact H
        have Ny310 := m_ hy310
        clear hy310
        simp only [Option.some.injEq, Prod.mk.injEq] at H
        obtain ⟨rfl, rfl⟩ := H
        go_enter Try.func21, Try.ntmps21
        try go_wp2_with (first | ((with_reducible refine gate_callee (f := 33) rfl ?_); refine goesL_ (some 15) rfl rfl Try.func33 (by kernel_rfl) rfl #[.slice A0 l0.length c0, .int .u32 a1, .int .u32 a2, .int .u32 a3] rfl (by (try simp only [List.map_toArray, List.map_cons, List.map_nil]); first | done | rfl | (simp only [List.length_drop, List.length_take]; rfl)) ?_; (with_reducible refine (stolonref15_at.calls k _ _ l0 a1 a2 a3 t293 _ ?side1 ?side2 A5.out).mono ?_); (case side1 => repeat (first | exact (Kd.V_reads' HO0.out).2.2 | (with_reducible refine Kd.C_alloc ?_ _) | (with_reducible refine Kd.C_drewN ?_ _) | (with_reducible refine Kd.C_drew ?_))); (case side2 => exact (Kd.V_reads' HO0.out).2.1); rintro e w' ⟨rfl, ⟨nd, rfl⟩⟩; refine ⟨_, rfl, ?_⟩))
        have n0_ := m_ (Kd.V_drew (Kd.V_drewN HO0.out nd))
        have n1_ := m_ (pd_ (pn_ HB.out nd))
        clear HO0
        clear HB
        have HO0 := n0_
        have HB := n1_
        clear n0_ n1_
        have q15 : (t293 : Int) ≤ ((l0.length : Int) : Int) := of_decide_eq_true (by first | (with_reducible assumption) | assumption)
        obtain ⟨i015, hi015, _, hsz15, _⟩ := info_parts info27
        have hroom15 : l0.length ≤ c0 := (Kd.V_reads' HO0.out).2.1
        have hC15 : Kd.F k27 _ _ A0 l0.length l0 := (Kd.V_at (base := w.heap.size) HO0.out).2.2
        have hcut15 := cut_to (P := Try.prog) 22 27 .i64 Try.underlying22 hi015 A0 l0.length c0 t293 (of_decide_eq_true (by first | (with_reducible assumption) | assumption)) q15 hroom15
        have hr15 := Kd.F_take (m := (t293 : Int).toNat) hC15 (by omega)
        have hy15 : y297.length = (t293 : Int).toNat := (by rw [Ny297.out, List.length_take]; omega)
        rw [← Ny297.out] at hr15
        rw [← hy15] at hcut15
        have HO301 := m_ (show Kd.V k27 27 _ w.heap.size _ (.slice A0 y297.length c0) y297 from Kd.V_mk (by omega) hr15)
        have HC301 := m_ (show y297.length ≤ c0 from by omega)
        clear hr15 hC15 hroom15 hi015 hsz15
        have KY15 := m_ hy15
        clear hy15
        replace q15 := eq_true q15
        have q16 : ((ji10) : Int) ≤ ((l0.length : Int) : Int) := of_decide_eq_true (by first | (with_reducible assumption) | assumption)
        obtain ⟨i016, hi016, _, hsz16, _⟩ := info_parts info27
        have hroom16 : l0.length ≤ c0 := (Kd.V_reads' HO0.out).2.1
        have hC16 : Kd.F k27 _ _ A0 l0.length l0 := (Kd.V_at (base := w.heap.size) HO0.out).2.2
        have q016 : (0 : Int) ≤ ((ji10) : Int) := of_decide_eq_true (by first | (with_reducible assumption) | assumption)
        have hcut16 := cut_from (P := Try.prog) 22 27 .i64 Try.underlying22 hi016 6 hsz16 A0 l0.length c0 (ji10) q016 q16
        have hr16 := Kd.F_cut (m := ((ji10) : Int).toNat) (c := c0) hC16 (by omega) hroom16
        obtain ⟨A16, hA16⟩ : ∃ A1, A1 = (if c0 = ((ji10) : Int).toNat then A0 else (A0 : Option Addr).map (·.add (((ji10) : Int).toNat * 6))) := ⟨_, rfl⟩
        obtain ⟨c16, hc16⟩ : ∃ c1, c1 = c0 - ((ji10) : Int).toNat := ⟨_, rfl⟩
        have hy16 : y305.length = l0.length - ((ji10) : Int).toNat := (by rw [Ny305.out, List.length_drop] <;> omega)
        rw [show (l0).drop ((ji10) : Int).toNat = y305 from Ny305.out.symm] at hr16
        replace hr16 : Kd.F k27 _ _ A16 y305.length y305 := (by rw [hA16]; exact hr16)
        rw [← hy16, ← hA16, ← hc16] at hcut16
        have HO309 := m_ (show Kd.V k27 27 _ w.heap.size _ (.slice A16 y305.length c16) y305 from Kd.V_mk (by rw [hy16, hc16]; exact Nat.sub_le_sub_right hroom16 _) hr16)
        have HC309 := m_ (show y305.length ≤ c16 from by rw [hy16, hc16]; exact Nat.sub_le_sub_right hroom16 _)
        clear hr16 hC16 hroom16 hi016 hsz16 hc16
        have KY16 := m_ hy16
        have KA16 := m_ hA16
        clear hy16 hA16
        replace q16 := eq_true q16
        refine start_ (n := 12) (S := fun w' => True) (ds := []) (bs_ 12 0) (by kernel_rfl) rfl rfl trivial (fun hHeld => ?_); refine with_tabW stolonref15_Del.tab4 stolonref15_Del.bits4 (fun HT_ HW_ => ?_)
        generalize (w.drewN nd).drew = w14 at HO0 HB HO301 HO309 hHeld ⊢
        refine pure_ (i := 1) (N := some 20) (v := ?_) (a' := ?_) (bs_ 12 2) rfl rfl (any_of HT_.out (by kernel_rfl)) (fun _ _ _ h => h) (Or.inl ⟨by rfl, ?_⟩) ?_ ?_
        rotate_left
        ·intro w'
         go_simp
         with_reducible rfl
        rotate_left
        ·simp only [Act.put, a1_, a2_, a3_, i64_w, i32_w]
         rfl
        refine pure_ (i := 2) (N := some 21) (v := ?_) (a' := ?_) (bs_ 12 6) rfl rfl (any_of HT_.out (by kernel_rfl)) (fun _ _ _ h => h) (Or.inl ⟨by rfl, ?_⟩) ?_ ?_
        rotate_left
        ·intro w'
         go_simp
         with_reducible rfl
        rotate_left
        ·simp only [Act.put, a1_, a2_, a3_, i64_w, i32_w]
         rfl
        refine pure_ (i := 3) (N := some 22) (v := ?_) (a' := ?_) (bs_ 12 14) rfl rfl (any_of HT_.out (by kernel_rfl)) (fun _ _ _ h => h) (Or.inl ⟨by rfl, ?_⟩) ?_ ?_
        rotate_left
        ·intro w'
         go_simp
         with_reducible rfl
        rotate_left
        ·simp only [Act.put, a1_, a2_, a3_, i64_w, i32_w]
         rfl
        refine pure_ (i := 5) (N := some 24) (v := ?_) (a' := ?_) (bs_ 12 46) rfl rfl (any_of HT_.out (by kernel_rfl)) (fun _ _ _ h => h) (Or.inl ⟨by rfl, ?_⟩) ?_ ?_
        rotate_left
        ·intro w'
         go_simp
         with_reducible rfl
        rotate_left
        ·simp only [Act.put, a1_, a2_, a3_, i64_w, i32_w]
         rfl
        refine pure_ (i := 6) (N := some 25) (v := ?_) (a' := ?_) (bs_ 12 110) rfl rfl (any_of HT_.out (by kernel_rfl)) (fun _ _ _ h => h) (Or.inl ⟨by rfl, ?_⟩) ?_ ?_
        rotate_left
        ·intro w'
         go_simp
         with_reducible rfl
        rotate_left
        ·simp only [Act.put, a1_, a2_, a3_, i64_w, i32_w]
         rfl
        refine pure_ (i := 7) (N := some 26) (v := ?_) (a' := ?_) (bs_ 12 238) rfl rfl (any_of HT_.out (by kernel_rfl)) (fun _ _ _ h => h) (Or.inl ⟨by rfl, ?_⟩) ?_ ?_
        rotate_left
        ·intro w'
         go_simp
         with_reducible rfl
        rotate_left
        ·simp only [Act.put, a1_, a2_, a3_, i64_w, i32_w]
         rfl
        refine pure_ (i := 8) (N := some 27) (v := ?_) (a' := ?_) (bs_ 12 494) rfl rfl (any_of HT_.out (by kernel_rfl)) (fun _ _ _ h => h) (Or.inl ⟨by rfl, ?_⟩) ?_ ?_
        rotate_left
        ·intro w'
         go_simp
         with_reducible rfl
        rotate_left
        ·simp only [Act.put, a1_, a2_, a3_, i64_w, i32_w]
         rfl
        refine one_ (i := 0) (N := some 19) (bs_ 12 495) rfl rfl (one_of HT_.out (by kernel_rfl)) (by decide) (fun K hK => ?_)
        refine Kd.N_lit_step k27 _ 27 ?hg (N' := 19) ?hd (xs := ([] : List (S27))) (inner := []) (ok := (fun k_ => (P0_ k_ ∨ w.heap.size ≤ k_))) (okp := (fun k_ => (P0_ k_ ∨ w.heap.size ≤ k_))) ?hr ?hp (fun _ hk => hk) ((show ∀ k_, w14.heap.size ≤ k_ → (fun k_ => (P0_ k_ ∨ w.heap.size ≤ k_)) k_ from fun k_ hk => (.inr (Nat.le_trans (below_size (by repeat (first | (with_reducible first | exact HB.out | apply pa_ | apply pn_ | apply pd_) | exact HB.out))) hk))) _ (Nat.le_refl _)) (Below.refl _ _) (Nat.le_refl _) (by simp) ?_; (case hd => rfl); (case hg => rfl); (case hr => first | (go_simp; done) | (go_simp; rfl)); (case hp => exact (Reps.none _ _))
        intro v295 w17 ho18 hb hg_ hnew_
        clear hg_ hnew_
        (first | rw [← Ny294.out] at ho18 | (simp only [Int.reduceToNat] at ho18; rw [← Ny294.out] at ho18))
        have n0_ := m_ (Kd.V_elder' (by (with_reducible repeat (first | apply Kd.V_alloc | apply Kd.V_drewN | apply Kd.V_drew)); exact HO0.out) (Kd.N_base ho18) hb)
        have n1_ := m_ (Kd.V_elder' (by (with_reducible repeat (first | apply Kd.V_alloc | apply Kd.V_drewN | apply Kd.V_drew)); exact HO301.out) (Kd.N_base ho18) hb)
        have n2_ := m_ (Kd.V_elder' (by (with_reducible repeat (first | apply Kd.V_alloc | apply Kd.V_drewN | apply Kd.V_drew)); exact HO309.out) (Kd.N_base ho18) hb)
        have n3_ := m_ (Kd.N_lower ho18 (below_size (by repeat (first | (with_reducible first | exact HB.out | apply pa_ | apply pn_ | apply pd_) | exact HB.out))))
        have n4_ := m_ (below_step (by repeat (first | (with_reducible first | exact HB.out | apply pa_ | apply pn_ | apply pd_) | exact HB.out)) hb)
        clear HO0
        clear HO301
        clear HO309
        clear HB
        have HO0 := n0_
        have HO301 := n1_
        have HO309 := n2_
        have HO296 := n3_
        have HB := n4_
        clear n0_ n1_ n2_ n3_ n4_
        clear hb ho18
        refine hK.out _ _ trivial (fun hHeld => ?_)
        clear hK K
        refine norm_ (a' := ?_) ?_ ?_
        rotate_left
        ·show Act.put _ (some 19) _ = _
         simp only [Act.put, a1_, a2_, a3_, i64_w, i32_w]
         rfl
        refine one_ (i := 4) (N := some 23) (bs_ 12 511) rfl rfl (one_of HT_.out (by kernel_rfl)) (by decide) (fun K hK => ?_)
        refine Kd.N_append_rows_step k27 (w0 := w) w.heap.size (by rfl) (.tmp 19) (.tmp 22) 22 27 (.agg #[(.int .u32 0), (.int .u32 0), (.int .u32 0), (.int .i64 0), (.int .u32 0), (.slice none 0 0)]) 56 rfl Try.underlying22 info27 rfl (by decide) (by omega) v295 y294 y297 _ _ _ (fun k_ => (P0_ k_ ∨ w.heap.size ≤ k_)) (fun k_ => ((fun k_ => (P0_ k_ ∨ w.heap.size ≤ k_))) k_ ∧ some k_ ≠ (v295 : Value).ownBlock) rfl rfl ?aO ?aR (fun _ hk => hk) ?aF ?aB ?aS ?aL ?_
        (case aR => exact (by skip; exact Kd.V_F (Kd.V_mono (ok' := (fun k_ => ((fun k_ => (P0_ k_ ∨ w.heap.size ≤ k_))) k_ ∧ some k_ ≠ (v295 : Value).ownBlock)) (HO301.out) (fun k_ hk => ⟨hk.1, hk.2⟩))))
        (case aB => exact (by repeat (first | (with_reducible first | exact HB.out | apply pa_ | apply pn_ | apply pd_) | exact HB.out)))
        (case aF => exact (fun k_ hk => (.inr (Nat.le_trans (below_size (by repeat (first | (with_reducible first | exact HB.out | apply pa_ | apply pn_ | apply pd_) | exact HB.out))) hk))))
        (case aO => exact (by (with_reducible repeat (first | apply Kd.N_alloc | apply Kd.N_drewN | apply Kd.N_drew)); exact HO296.out))
        (case aS => exact (below_size (by repeat (first | (with_reducible first | exact HB.out | apply pa_ | apply pn_ | apply pd_) | exact HB.out))))
        (case aL => have := LMc9.out; omega)
        intro v303 w19 ho hb hg hat
        rw [← Ny302.out] at ho
        have n0_ := m_ (Kd.V_afterv (ok := (fun k_ => (P0_ k_ ∨ w.heap.size ≤ k_))) (by (with_reducible repeat (first | apply Kd.V_alloc | apply Kd.V_drewN | apply Kd.V_drew)); exact HO0.out) hg hat)
        have n1_ := m_ (Kd.V_afterv (ok := (fun k_ => (P0_ k_ ∨ w.heap.size ≤ k_))) (by (with_reducible repeat (first | apply Kd.V_alloc | apply Kd.V_drewN | apply Kd.V_drew)); exact HO301.out) hg hat)
        have n2_ := m_ (Kd.V_afterv (ok := (fun k_ => (P0_ k_ ∨ w.heap.size ≤ k_))) (by (with_reducible repeat (first | apply Kd.V_alloc | apply Kd.V_drewN | apply Kd.V_drew)); exact HO309.out) hg hat)
        have n3_ := m_ (hb)
        have n4_ := m_ (ho)
        clear HO0
        clear HO301
        clear HO309
        clear HB
        clear HO296
        have HO0 := n0_
        have HO301 := n1_
        have HO309 := n2_
        have HB := n3_
        have HO304 := n4_
        clear n0_ n1_ n2_ n3_ n4_
        clear ho hb hg hat
        refine hK.out _ _ trivial (fun hHeld => ?_)
        clear hK K
        refine norm_ (a' := ?_) ?_ ?_
        rotate_left
        ·show Act.put _ (some 23) _ = _
         simp only [Act.put, a1_, a2_, a3_, i64_w, i32_w]
         rfl
        refine one_ (i := 9) (N := some 28) (bs_ 12 1023) rfl rfl (one_of HT_.out (by kernel_rfl)) (by decide) (fun K hK => ?_)
        refine Kd.N_append_rows_step k27 (w0 := w) w.heap.size (by rfl) (.tmp 23) (.tmp 27) 22 27 (.agg #[(.int .u32 0), (.int .u32 0), (.int .u32 0), (.int .i64 0), (.int .u32 0), (.slice none 0 0)]) 56 rfl Try.underlying22 info27 rfl (by decide) (by omega) v303 y302 y305 _ _ _ (fun k_ => (P0_ k_ ∨ w.heap.size ≤ k_)) (fun k_ => ((fun k_ => (P0_ k_ ∨ w.heap.size ≤ k_))) k_ ∧ some k_ ≠ (v303 : Value).ownBlock) rfl rfl ?aO ?aR (fun _ hk => hk) ?aF ?aB ?aS ?aL ?_
        (case aR => exact (by skip; exact Kd.V_F (Kd.V_mono (ok' := (fun k_ => ((fun k_ => (P0_ k_ ∨ w.heap.size ≤ k_))) k_ ∧ some k_ ≠ (v303 : Value).ownBlock)) (HO309.out) (fun k_ hk => ⟨hk.1, hk.2⟩))))
        (case aB => exact (by repeat (first | (with_reducible first | exact HB.out | apply pa_ | apply pn_ | apply pd_) | exact HB.out)))
        (case aF => exact (fun k_ hk => (.inr (Nat.le_trans (below_size (by repeat (first | (with_reducible first | exact HB.out | apply pa_ | apply pn_ | apply pd_) | exact HB.out))) hk))))
        (case aO => exact (by (with_reducible repeat (first | apply Kd.N_alloc | apply Kd.N_drewN | apply Kd.N_drew)); exact HO304.out))
        (case aS => exact (below_size (by repeat (first | (with_reducible first | exact HB.out | apply pa_ | apply pn_ | apply pd_) | exact HB.out))))
        (case aL => have := LMc13.out; omega)
        intro v311 w20 ho hb hg hat
        rw [← Ny310.out] at ho
        have n0_ := m_ (Kd.V_afterv (ok := (fun k_ => (P0_ k_ ∨ w.heap.size ≤ k_))) (by (with_reducible repeat (first | apply Kd.V_alloc | apply Kd.V_drewN | apply Kd.V_drew)); exact HO0.out) hg hat)
        have n1_ := m_ (Kd.V_afterv (ok := (fun k_ => (P0_ k_ ∨ w.heap.size ≤ k_))) (by (with_reducible repeat (first | apply Kd.V_alloc | apply Kd.V_drewN | apply Kd.V_drew)); exact HO301.out) hg hat)
        have n2_ := m_ (Kd.V_afterv (ok := (fun k_ => (P0_ k_ ∨ w.heap.size ≤ k_))) (by (with_reducible repeat (first | apply Kd.V_alloc | apply Kd.V_drewN | apply Kd.V_drew)); exact HO309.out) hg hat)
        have n3_ := m_ (hb)
        have n4_ := m_ (ho)
        clear HO0
        clear HO301
        clear HO309
        clear HB
        clear HO304
        have HO0 := n0_
        have HO301 := n1_
        have HO309 := n2_
        have HB := n3_
        have HO312 := n4_
        clear n0_ n1_ n2_ n3_ n4_
        clear ho hb hg hat
        refine hK.out _ _ trivial (fun hHeld => ?_)
        clear hK K
        refine norm_ (a' := ?_) ?_ ?_
        rotate_left
        ·show Act.put _ (some 28) _ = _
         simp only [Act.put, a1_, a2_, a3_, i64_w, i32_w]
         rfl
        refine pure_ (i := 10) (N := some 8) (v := ?_) (a' := ?_) (bs_ 12 2047) rfl rfl (any_of HT_.out (by kernel_rfl)) (fun _ _ _ h => h) (Or.inl ⟨by rfl, ?_⟩) ?_ ?_
        rotate_left
        ·intro w'
         go_simp
         with_reducible rfl
        rotate_left
        ·simp only [Act.put, a1_, a2_, a3_, i64_w, i32_w]
         rfl
        refine pure_ (i := 11) (N := some 9) (v := ?_) (a' := ?_) (bs_ 12 4095) rfl rfl (any_of HT_.out (by kernel_rfl)) (fun _ _ _ h => h) (Or.inl ⟨by rfl, ?_⟩) ?_ ?_
        rotate_left
        ·intro w'
         go_simp
         with_reducible rfl
        rotate_left
        ·simp only [Act.put, a1_, a2_, a3_, i64_w, i32_w]
         rfl
        refine done_ (done_of HT_.out (by kernel_rfl)) ?_
        try go_wp2
        go_ret2
        exact ⟨_, by first | rfl | (simp [errW_none, errW_some] <;> rfl) | (simp only [← hji10]; first | rfl | (simp [errW_none, errW_some] <;> rfl)) | (simp [*, errW_none, errW_some] <;> rfl), Kd.N_V (by (with_reducible repeat (first | apply Kd.N_alloc | apply Kd.N_drewN | apply Kd.N_drew)); exact HO312.out), by repeat (first | (with_reducible first | exact HB.out | apply pa_ | apply pn_ | apply pd_) | exact HB.out)⟩
       ·rw [if_neg c13] at H
        exact absurd H (by simp)
      ·rw [if_neg c12] at H
       exact absurd H (by simp)
     ·rw [if_neg c11] at H
      exact absurd H (by simp)
    ·rw [if_neg c9] at H
     exact absurd H (by simp)
   ·rw [if_neg c8] at H
    exact absurd H (by simp)
  ·rw [if_neg c7] at H
   exact absurd H (by simp)

end Go.Proofs.Yteibolilodgjnaa.P

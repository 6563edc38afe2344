/- For each Go function a Lean function, and the proof that a call comes to what it tells: made by program out of the translation (the kit's print, with texts by hand put in). No condition. -/
import Derived.Test.YtlihbdinghoeeacPx0
import Derived.Test.YtlihbdinghoeeacPx2
import Derived.Test.YtlihbdinghoeeacPx5
import Derived.Test.YtlihbdinghoeeacPx6
namespace Go.Proofs.Ytlihbdinghoeeac.P
open Go.RowKit Go.Proofs.Ytlihbdinghoeeac.HRows Go.Proofs.YtlihbdinghoeeacW.PrintWords Go.Proofs.YtlihbdinghoeeacW.PrintLast Go.Proofs.YtlihbdinghoeeacW.PrintMore
attribute [local go_sem] max2_int min2_int max_two min_two max_three min_three max_four min_four   -- for this text's walks alone
set_option linter.unusedVariables false
set_option linter.unusedSimpArgs false

/-! ### stolonlaw03_CodeRises: function 4 -/
def stolonlaw03_CodeRises.f (k : Nat) (a0 : Int) (a1 : Int) : Option (Bool) := (stolonlaw03_shown.f k).bind fun t131 => ((code_Value.f a0).bind fun t132 => ((code_Code.f k t132).bind fun bt133 => (if t131 = true then ((code_Value.f a0).bind fun t135 => ((code_Value.f a1).bind fun t136 => (if ((decide (a0 < a1)) == (decide (t135 < t136))) = true then (if bt133.2 = 0 then (if bt133.1 = a0 then ((code_Value.f a0).bind fun t137 => ((code_Near.f k t137).bind fun t138 => (some (t138 == a0)))) else (some false)) else (some false)) else (some false)))) else (some false))))
theorem stolonlaw03_CodeRises.mono : ∀ a0 a1 k, LeO (stolonlaw03_CodeRises.f k a0 a1) (stolonlaw03_CodeRises.f (k + 1) a0 a1) := by
  intro a0 a1 k
  unfold stolonlaw03_CodeRises.f
  repeat' first
      | (with_reducible exact code_Code.mono _ _)
      | (with_reducible exact code_Near.mono _ _)
      | (with_reducible exact stolonlaw03_shown.mono _)
      | (with_reducible exact LeO.refl _)
      | (with_reducible exact LeO.none _)
      | (with_reducible refine LeO.ite ?_ ?_)
      | (with_reducible refine LeO.bind ?_ (fun _ => ?_))
      | exact code_Code.mono _ _
      | exact code_Near.mono _ _
      | exact stolonlaw03_shown.mono _
      | exact LeO.none _
      | refine LeO.ite ?_ ?_
      | refine LeO.bind ?_ (fun _ => ?_)
set_option maxHeartbeats 8000000 in
set_option maxRecDepth 100000 in
theorem stolonlaw03_CodeRises.calls (k : Nat) (a0 : Int) (a1 : Int) (r : Bool) (w : World) (hTrue : Aside0 (r = true)) (h : stolonlaw03_CodeRises.f k a0 a1 = some r) :
    Calls Try.prog 4 #[.int .u8 a0, .int .u8 a1] w fun e w' => e = .returned (.bool r) ∧ Below w.heap.size w w' := by
  have HB := Aside0.mk (Below.refl w.heap.size w)
  have H : ((stolonlaw03_shown.f k).bind fun t131 => ((code_Value.f a0).bind fun t132 => ((code_Code.f k t132).bind fun bt133 => (if t131 = true then ((code_Value.f a0).bind fun t135 => ((code_Value.f a1).bind fun t136 => (if ((decide (a0 < a1)) == (decide (t135 < t136))) = true then (if bt133.2 = 0 then (if bt133.1 = a0 then ((code_Value.f a0).bind fun t137 => ((code_Near.f k t137).bind fun t138 => (some (t138 == a0)))) else (some false)) else (some false)) else (some false)))) else (some false))))) = some r := h
  clear h
  replace H := Option.bind_eq_some_iff.mp H
  obtain ⟨t131, A30, H⟩ := H
  replace H : ((code_Value.f a0).bind fun t132 => ((code_Code.f k t132).bind fun bt133 => (if t131 = true then ((code_Value.f a0).bind fun t135 => ((code_Value.f a1).bind fun t136 => (if ((decide (a0 < a1)) == (decide (t135 < t136))) = true then (if bt133.2 = 0 then (if bt133.1 = a0 then ((code_Value.f a0).bind fun t137 => ((code_Near.f k t137).bind fun t138 => (some (t138 == a0)))) else (some false)) else (some false)) else (some false)))) else (some false)))) = some r := H
  have A3 := Aside0.mk A30
  clear A30
  replace H := Option.bind_eq_some_iff.mp H
  obtain ⟨t132, A40, H⟩ := H
  replace H : ((code_Code.f k t132).bind fun bt133 => (if t131 = true then ((code_Value.f a0).bind fun t135 => ((code_Value.f a1).bind fun t136 => (if ((decide (a0 < a1)) == (decide (t135 < t136))) = true then (if bt133.2 = 0 then (if bt133.1 = a0 then ((code_Value.f a0).bind fun t137 => ((code_Near.f k t137).bind fun t138 => (some (t138 == a0)))) else (some false)) else (some false)) else (some false)))) else (some false))) = some r := H
  have A4 := Aside0.mk A40
  clear A40
  replace H := Option.bind_eq_some_iff.mp H
  obtain ⟨⟨t133, t134⟩, A50, H⟩ := H
  replace H : (if t131 = true then ((code_Value.f a0).bind fun t135 => ((code_Value.f a1).bind fun t136 => (if ((decide (a0 < a1)) == (decide (t135 < t136))) = true then (if t134 = 0 then (if t133 = a0 then ((code_Value.f a0).bind fun t137 => ((code_Near.f k t137).bind fun t138 => (some (t138 == a0)))) else (some false)) else (some false)) else (some false)))) else (some false)) = some r := H
  have A5 := Aside0.mk A50
  clear A50
  by_cases c6 : t131 = true
  · subst c6
    have H1 : ((code_Value.f a0).bind fun t135 => ((code_Value.f a1).bind fun t136 => (if ((decide (a0 < a1)) == (decide (t135 < t136))) = true then (if t134 = 0 then (if t133 = a0 then ((code_Value.f a0).bind fun t137 => ((code_Near.f k t137).bind fun t138 => (some (t138 == a0)))) else (some false)) else (some false)) else (some false)))) = some r := by rw [if_pos rfl] at H; exact H
    clear H
    have H := H1
    clear H1
    replace H := Option.bind_eq_some_iff.mp H
    obtain ⟨t135, A70, H⟩ := H
    replace H : ((code_Value.f a1).bind fun t136 => (if ((decide (a0 < a1)) == (decide (t135 < t136))) = true then (if t134 = 0 then (if t133 = a0 then ((code_Value.f a0).bind fun t137 => ((code_Near.f k t137).bind fun t138 => (some (t138 == a0)))) else (some false)) else (some false)) else (some false))) = some r := H
    have A7 := Aside0.mk A70
    clear A70
    have z_ := Option.some.inj (A4.out.symm.trans A7.out)
    subst z_
    replace H := Option.bind_eq_some_iff.mp H
    obtain ⟨t136, A80, H⟩ := H
    replace H : (if ((decide (a0 < a1)) == (decide (t132 < t136))) = true then (if t134 = 0 then (if t133 = a0 then ((code_Value.f a0).bind fun t137 => ((code_Near.f k t137).bind fun t138 => (some (t138 == a0)))) else (some false)) else (some false)) else (some false)) = some r := H
    have A8 := Aside0.mk A80
    clear A80
    by_cases c9 : ((decide (a0 < a1)) == (decide (t132 < t136))) = true
    · rw [if_pos c9] at H
      have c9b0 : ((decide (a0 < a1)) == (decide (t132 < t136))) = true := c9
      (try (have c9b1 : decide ((decide (a0 < a1)) = (decide (t132 < t136))) = true := by simpa using c9))
      (try (have c9b2 : ((decide (a0 < a1)) == (decide (t132 < t136))) = true := by simpa using c9))
      clear c9
      by_cases c10 : t134 = 0
      · rw [if_pos c10] at H
        have c10b0 : (t134 == 0) = true := beq_iff_eq.mpr c10
        have c10b1 : (t134 != 0) = false := bne_eq_false_iff_eq.mpr c10
        clear c10
        by_cases c11 : t133 = a0
        · rw [if_pos c11] at H
          have c11b0 : (t133 == a0) = true := beq_iff_eq.mpr c11
          have c11b1 : (t133 != a0) = false := bne_eq_false_iff_eq.mpr c11
          clear c11
          replace H := Option.bind_eq_some_iff.mp H
          obtain ⟨t137, A120, H⟩ := H
          replace H : ((code_Near.f k t137).bind fun t138 => (some (t138 == a0))) = some r := H
          have A12 := Aside0.mk A120
          clear A120
          have z_ := Option.some.inj (A4.out.symm.trans A12.out)
          subst z_
          replace H := Option.bind_eq_some_iff.mp H
          obtain ⟨t138, A130, H⟩ := H
          replace H : (some (t138 == a0)) = some r := H
          have A13 := Aside0.mk A130
          clear A130
          obtain rfl := Option.some.inj H
          go_enter Try.func4, Try.ntmps4
          go_wp2_with (first | ((with_reducible refine gate_callee (f := 9) rfl ?_); refine goesL_ (some 8) rfl rfl Try.func9 (by kernel_rfl) rfl #[] rfl (by (try simp only [List.map_toArray, List.map_cons, List.map_nil]); first | done | rfl | (simp only [List.length_drop, List.length_take]; rfl)) ?_; (with_reducible refine (stolonlaw03_shown.calls k  true _ A3.out).mono ?_); rintro e w14 ⟨rfl, hb⟩; refine ⟨_, rfl, ?_⟩; have n0_ := Aside0.mk (below_step (by repeat (first | (with_reducible first | exact HB.out | apply below_alloc | apply pw_below_drewN | apply below_drew1) | exact HB.out)) hb); clear HB; have HB := n0_; clear n0_; (try clear hb); (try clear hb2); (try clear hk); (try clear hi)) | ((with_reducible refine gate_callee (f := 12) rfl ?_); refine goesL_ (some 11) rfl rfl Try.func12 (by kernel_rfl) rfl #[.int .u8 a0] rfl (by (try simp only [List.map_toArray, List.map_cons, List.map_nil]); first | done | rfl | (simp only [List.length_drop, List.length_take]; rfl)) ?_; (with_reducible refine (code_Value.calls a0 t132 _ A4.out).mono ?_); rintro e w15 ⟨rfl, hb⟩; refine ⟨_, rfl, ?_⟩; have n0_ := Aside0.mk (below_step (by repeat (first | (with_reducible first | exact HB.out | apply below_alloc | apply pw_below_drewN | apply below_drew1) | exact HB.out)) hb); clear HB; have HB := n0_; clear n0_; (try clear hb); (try clear hb2); (try clear hk); (try clear hi)) | ((with_reducible refine gate_callee (f := 10) rfl ?_); refine goesL_ (some 12) rfl rfl Try.func10 (by kernel_rfl) rfl #[.int .i64 t132] rfl (by (try simp only [List.map_toArray, List.map_cons, List.map_nil]); first | done | rfl | (simp only [List.length_drop, List.length_take]; rfl)) ?_; (with_reducible refine (code_Code.calls k t132 t133 t134 _ A5.out).mono ?_); rintro e w16 ⟨rfl, hb⟩; refine ⟨_, rfl, ?_⟩; have n0_ := Aside0.mk (below_step (by repeat (first | (with_reducible first | exact HB.out | apply below_alloc | apply pw_below_drewN | apply below_drew1) | exact HB.out)) hb); clear HB; have HB := n0_; clear n0_; (try clear hb); (try clear hb2); (try clear hk); (try clear hi)) | (go_at_call 12; (with_reducible refine (code_Value.calls a0 t132 _ A7.out).mono ?_); rintro e w17 ⟨rfl, hb⟩; have n0_ := Aside0.mk (below_step (by repeat (first | (with_reducible first | exact HB.out | apply below_alloc | apply pw_below_drewN | apply below_drew1) | exact HB.out)) hb); clear HB; have HB := n0_; clear n0_; (try clear hb); (try clear hb2); (try clear hk); (try clear hi)) | (go_at_call 12; (with_reducible refine (code_Value.calls a1 t136 _ A8.out).mono ?_); rintro e w18 ⟨rfl, hb⟩; have n0_ := Aside0.mk (below_step (by repeat (first | (with_reducible first | exact HB.out | apply below_alloc | apply pw_below_drewN | apply below_drew1) | exact HB.out)) hb); clear HB; have HB := n0_; clear n0_; (try clear hb); (try clear hb2); (try clear hk); (try clear hi)) | (go_at_call 12; (with_reducible refine (code_Value.calls a0 t132 _ A12.out).mono ?_); rintro e w19 ⟨rfl, hb⟩; have n0_ := Aside0.mk (below_step (by repeat (first | (with_reducible first | exact HB.out | apply below_alloc | apply pw_below_drewN | apply below_drew1) | exact HB.out)) hb); clear HB; have HB := n0_; clear n0_; (try clear hb); (try clear hb2); (try clear hk); (try clear hi)) | (go_at_call 15; (with_reducible refine (code_Near.calls k t132 t138 _ A13.out).mono ?_); rintro e w20 ⟨rfl, hb⟩; have n0_ := Aside0.mk (below_step (by repeat (first | (with_reducible first | exact HB.out | apply below_alloc | apply pw_below_drewN | apply below_drew1) | exact HB.out)) hb); clear HB; have HB := n0_; clear n0_; (try clear hb); (try clear hb2); (try clear hk); (try clear hi)))
          go_ret
          exact ⟨by first | rfl | (simp [errW_none, errW_some] <;> rfl) | (simp [*, errW_none, errW_some] <;> rfl), by repeat (first | (with_reducible first | exact HB.out | apply below_alloc | apply pw_below_drewN | apply below_drew1) | exact HB.out)⟩
        · rw [if_neg c11] at H
          have c11b0 : (t133 == a0) = false := beq_eq_false_iff_ne.mpr c11
          have c11b1 : (t133 != a0) = true := bne_iff_ne.mpr c11
          exact absurd ((Option.some.inj H).trans hTrue.out) (by simp)
      · rw [if_neg c10] at H
        have c10b0 : (t134 == 0) = false := beq_eq_false_iff_ne.mpr c10
        have c10b1 : (t134 != 0) = true := bne_iff_ne.mpr c10
        exact absurd ((Option.some.inj H).trans hTrue.out) (by simp)
    · rw [if_neg c9] at H
      have c9b0 : ((decide (a0 < a1)) == (decide (t132 < t136))) = false := by simpa using c9
      (try (have c9b1 : decide ((decide (a0 < a1)) = (decide (t132 < t136))) = false := by simpa using c9))
      (try (have c9b2 : ((decide (a0 < a1)) == (decide (t132 < t136))) = false := by simpa using c9))
      (try (have c9b3 : ¬ ((decide (a0 < a1)) = (decide (t132 < t136))) := by simpa using c9))
      clear c9
      exact absurd ((Option.some.inj H).trans hTrue.out) (by simp)
  · replace c6 := Bool.eq_false_iff.mpr c6
    subst c6
    have H1 : (some false) = some r := by rw [if_neg (show ¬ (false = true) by decide)] at H; exact H
    clear H
    have H := H1
    clear H1
    exact absurd ((Option.some.inj H).trans hTrue.out) (by simp)

/-! ### stolonlaw03_CodeNears: function 5 -/
def stolonlaw03_CodeNears.f (k : Nat) (a0 : Int) : Option (Bool) := (stolonlaw03_shown.f k).bind fun t139 => (if (wrap64 (a0)) > 31744 then (if t139 = true then ((code_Near.f k (wrap64 (a0))).bind fun t140 => (some (t140 == 255))) else (some false)) else ((code_Near.f k (wrap64 (a0))).bind fun t141 => ((code_Value.f t141).bind fun t142 => (if t139 = true then (if t142 ≤ (wrap64 (a0)) then (if t141 = 255 then (some (decide ((wrap64 ((wrap64 ((wrap64 (a0)) - t142)) * 16)) < (wrap64 ((wrap64 (a0)) + 16))))) else ((code_Value.f ((t141 + 1) % 256)).bind fun t143 => (if t143 > (wrap64 (a0)) then (some (decide ((wrap64 ((wrap64 ((wrap64 (a0)) - t142)) * 16)) < (wrap64 ((wrap64 (a0)) + 16))))) else (some false)))) else (some false)) else (some false)))))
theorem stolonlaw03_CodeNears.mono : ∀ a0 k, LeO (stolonlaw03_CodeNears.f k a0) (stolonlaw03_CodeNears.f (k + 1) a0) := by
  intro a0 k
  unfold stolonlaw03_CodeNears.f
  repeat' first
      | (with_reducible exact code_Near.mono _ _)
      | (with_reducible exact stolonlaw03_shown.mono _)
      | (with_reducible exact LeO.refl _)
      | (with_reducible exact LeO.none _)
      | (with_reducible refine LeO.ite ?_ ?_)
      | (with_reducible refine LeO.bind ?_ (fun _ => ?_))
      | exact code_Near.mono _ _
      | exact stolonlaw03_shown.mono _
      | exact LeO.none _
      | refine LeO.ite ?_ ?_
      | refine LeO.bind ?_ (fun _ => ?_)
set_option maxHeartbeats 8000000 in
set_option maxRecDepth 100000 in
theorem stolonlaw03_CodeNears.calls (k : Nat) (a0 : Int) (r : Bool) (w : World) (hTrue : Aside0 (r = true)) (h : stolonlaw03_CodeNears.f k a0 = some r) :
    Calls Try.prog 5 #[.int .u16 a0] w fun e w' => e = .returned (.bool r) ∧ Below w.heap.size w w' := by
  have HB := Aside0.mk (Below.refl w.heap.size w)
  have H : ((stolonlaw03_shown.f k).bind fun t139 => (if (wrap64 (a0)) > 31744 then (if t139 = true then ((code_Near.f k (wrap64 (a0))).bind fun t140 => (some (t140 == 255))) else (some false)) else ((code_Near.f k (wrap64 (a0))).bind fun t141 => ((code_Value.f t141).bind fun t142 => (if t139 = true then (if t142 ≤ (wrap64 (a0)) then (if t141 = 255 then (some (decide ((wrap64 ((wrap64 ((wrap64 (a0)) - t142)) * 16)) < (wrap64 ((wrap64 (a0)) + 16))))) else ((code_Value.f ((t141 + 1) % 256)).bind fun t143 => (if t143 > (wrap64 (a0)) then (some (decide ((wrap64 ((wrap64 ((wrap64 (a0)) - t142)) * 16)) < (wrap64 ((wrap64 (a0)) + 16))))) else (some false)))) else (some false)) else (some false)))))) = some r := h
  clear h
  replace H := Option.bind_eq_some_iff.mp H
  obtain ⟨t139, A20, H⟩ := H
  replace H : (if (wrap64 (a0)) > 31744 then (if t139 = true then ((code_Near.f k (wrap64 (a0))).bind fun t140 => (some (t140 == 255))) else (some false)) else ((code_Near.f k (wrap64 (a0))).bind fun t141 => ((code_Value.f t141).bind fun t142 => (if t139 = true then (if t142 ≤ (wrap64 (a0)) then (if t141 = 255 then (some (decide ((wrap64 ((wrap64 ((wrap64 (a0)) - t142)) * 16)) < (wrap64 ((wrap64 (a0)) + 16))))) else ((code_Value.f ((t141 + 1) % 256)).bind fun t143 => (if t143 > (wrap64 (a0)) then (some (decide ((wrap64 ((wrap64 ((wrap64 (a0)) - t142)) * 16)) < (wrap64 ((wrap64 (a0)) + 16))))) else (some false)))) else (some false)) else (some false))))) = some r := H
  have A2 := Aside0.mk A20
  clear A20
  by_cases c3 : (wrap64 (a0)) > 31744
  · rw [if_pos c3] at H
    have c3b0 : decide (31744 < (wrap64 (a0))) = true := decide_eq_true c3
    clear c3
    by_cases c4 : t139 = true
    · subst c4
      have H1 : ((code_Near.f k (wrap64 (a0))).bind fun t140 => (some (t140 == 255))) = some r := by rw [if_pos rfl] at H; exact H
      clear H
      have H := H1
      clear H1
      replace H := Option.bind_eq_some_iff.mp H
      obtain ⟨t140, A50, H⟩ := H
      replace H : (some (t140 == 255)) = some r := H
      have A5 := Aside0.mk A50
      clear A50
      obtain rfl := Option.some.inj H
      go_enter Try.func5, Try.ntmps5
      go_wp2_with (first | ((with_reducible refine gate_callee (f := 9) rfl ?_); refine goesL_ (some 7) rfl rfl Try.func9 (by kernel_rfl) rfl #[] rfl (by (try simp only [List.map_toArray, List.map_cons, List.map_nil]); first | done | rfl | (simp only [List.length_drop, List.length_take]; rfl)) ?_; (with_reducible refine (stolonlaw03_shown.calls k  true _ A2.out).mono ?_); rintro e w6 ⟨rfl, hb⟩; refine ⟨_, rfl, ?_⟩; have n0_ := Aside0.mk (below_step (by repeat (first | (with_reducible first | exact HB.out | apply below_alloc | apply pw_below_drewN | apply below_drew1) | exact HB.out)) hb); clear HB; have HB := n0_; clear n0_; (try clear hb); (try clear hb2); (try clear hk); (try clear hi)) | (go_at_call 15; (with_reducible refine (code_Near.calls k (wrap64 (a0)) t140 _ A5.out).mono ?_); rintro e w7 ⟨rfl, hb⟩; have n0_ := Aside0.mk (below_step (by repeat (first | (with_reducible first | exact HB.out | apply below_alloc | apply pw_below_drewN | apply below_drew1) | exact HB.out)) hb); clear HB; have HB := n0_; clear n0_; (try clear hb); (try clear hb2); (try clear hk); (try clear hi)))
      go_ret
      exact ⟨by first | rfl | (simp [errW_none, errW_some] <;> rfl) | (simp [*, errW_none, errW_some] <;> rfl), by repeat (first | (with_reducible first | exact HB.out | apply below_alloc | apply pw_below_drewN | apply below_drew1) | exact HB.out)⟩
    · replace c4 := Bool.eq_false_iff.mpr c4
      subst c4
      have H1 : (some false) = some r := by rw [if_neg (show ¬ (false = true) by decide)] at H; exact H
      clear H
      have H := H1
      clear H1
      exact absurd ((Option.some.inj H).trans hTrue.out) (by simp)
  · rw [if_neg c3] at H
    have c3b0 : decide (31744 < (wrap64 (a0))) = false := decide_eq_false c3
    clear c3
    replace H := Option.bind_eq_some_iff.mp H
    obtain ⟨t141, A80, H⟩ := H
    replace H : ((code_Value.f t141).bind fun t142 => (if t139 = true then (if t142 ≤ (wrap64 (a0)) then (if t141 = 255 then (some (decide ((wrap64 ((wrap64 ((wrap64 (a0)) - t142)) * 16)) < (wrap64 ((wrap64 (a0)) + 16))))) else ((code_Value.f ((t141 + 1) % 256)).bind fun t143 => (if t143 > (wrap64 (a0)) then (some (decide ((wrap64 ((wrap64 ((wrap64 (a0)) - t142)) * 16)) < (wrap64 ((wrap64 (a0)) + 16))))) else (some false)))) else (some false)) else (some false))) = some r := H
    have A8 := Aside0.mk A80
    clear A80
    replace H := Option.bind_eq_some_iff.mp H
    obtain ⟨t142, A90, H⟩ := H
    replace H : (if t139 = true then (if t142 ≤ (wrap64 (a0)) then (if t141 = 255 then (some (decide ((wrap64 ((wrap64 ((wrap64 (a0)) - t142)) * 16)) < (wrap64 ((wrap64 (a0)) + 16))))) else ((code_Value.f ((t141 + 1) % 256)).bind fun t143 => (if t143 > (wrap64 (a0)) then (some (decide ((wrap64 ((wrap64 ((wrap64 (a0)) - t142)) * 16)) < (wrap64 ((wrap64 (a0)) + 16))))) else (some false)))) else (some false)) else (some false)) = some r := H
    have A9 := Aside0.mk A90
    clear A90
    by_cases c10 : t139 = true
    · subst c10
      have H1 : (if t142 ≤ (wrap64 (a0)) then (if t141 = 255 then (some (decide ((wrap64 ((wrap64 ((wrap64 (a0)) - t142)) * 16)) < (wrap64 ((wrap64 (a0)) + 16))))) else ((code_Value.f ((t141 + 1) % 256)).bind fun t143 => (if t143 > (wrap64 (a0)) then (some (decide ((wrap64 ((wrap64 ((wrap64 (a0)) - t142)) * 16)) < (wrap64 ((wrap64 (a0)) + 16))))) else (some false)))) else (some false)) = some r := by rw [if_pos rfl] at H; exact H
      clear H
      have H := H1
      clear H1
      by_cases c11 : t142 ≤ (wrap64 (a0))
      · rw [if_pos c11] at H
        have c11b0 : decide (t142 ≤ (wrap64 (a0))) = true := decide_eq_true c11
        clear c11
        by_cases c12 : t141 = 255
        · rw [if_pos c12] at H
          have c12b0 : (t141 == 255) = true := beq_iff_eq.mpr c12
          have c12b1 : (t141 != 255) = false := bne_eq_false_iff_eq.mpr c12
          clear c12
          obtain rfl := Option.some.inj H
          go_enter Try.func5, Try.ntmps5
          go_wp2_with (first | ((with_reducible refine gate_callee (f := 9) rfl ?_); refine goesL_ (some 7) rfl rfl Try.func9 (by kernel_rfl) rfl #[] rfl (by (try simp only [List.map_toArray, List.map_cons, List.map_nil]); first | done | rfl | (simp only [List.length_drop, List.length_take]; rfl)) ?_; (with_reducible refine (stolonlaw03_shown.calls k  true _ A2.out).mono ?_); rintro e w13 ⟨rfl, hb⟩; refine ⟨_, rfl, ?_⟩; have n0_ := Aside0.mk (below_step (by repeat (first | (with_reducible first | exact HB.out | apply below_alloc | apply pw_below_drewN | apply below_drew1) | exact HB.out)) hb); clear HB; have HB := n0_; clear n0_; (try clear hb); (try clear hb2); (try clear hk); (try clear hi)) | ((with_reducible refine gate_callee (f := 15) rfl ?_); refine goesL_ (some 19) rfl rfl Try.func15 (by kernel_rfl) rfl #[.int .i64 (wrap64 (a0))] rfl (by (try simp only [List.map_toArray, List.map_cons, List.map_nil]); first | done | rfl | (simp only [List.length_drop, List.length_take]; rfl)) ?_; (with_reducible refine (code_Near.calls k (wrap64 (a0)) t141 _ A8.out).mono ?_); rintro e w14 ⟨rfl, hb⟩; refine ⟨_, rfl, ?_⟩; have n0_ := Aside0.mk (below_step (by repeat (first | (with_reducible first | exact HB.out | apply below_alloc | apply pw_below_drewN | apply below_drew1) | exact HB.out)) hb); clear HB; have HB := n0_; clear n0_; (try clear hb); (try clear hb2); (try clear hk); (try clear hi)) | ((with_reducible refine gate_callee (f := 12) rfl ?_); refine goesL_ (some 21) rfl rfl Try.func12 (by kernel_rfl) rfl #[.int .u8 t141] rfl (by (try simp only [List.map_toArray, List.map_cons, List.map_nil]); first | done | rfl | (simp only [List.length_drop, List.length_take]; rfl)) ?_; (with_reducible refine (code_Value.calls t141 t142 _ A9.out).mono ?_); rintro e w15 ⟨rfl, hb⟩; refine ⟨_, rfl, ?_⟩; have n0_ := Aside0.mk (below_step (by repeat (first | (with_reducible first | exact HB.out | apply below_alloc | apply pw_below_drewN | apply below_drew1) | exact HB.out)) hb); clear HB; have HB := n0_; clear n0_; (try clear hb); (try clear hb2); (try clear hk); (try clear hi)))
          go_ret
          exact ⟨by first | rfl | (simp [errW_none, errW_some] <;> rfl) | (simp [*, errW_none, errW_some] <;> rfl), by repeat (first | (with_reducible first | exact HB.out | apply below_alloc | apply pw_below_drewN | apply below_drew1) | exact HB.out)⟩
        · rw [if_neg c12] at H
          have c12b0 : (t141 == 255) = false := beq_eq_false_iff_ne.mpr c12
          have c12b1 : (t141 != 255) = true := bne_iff_ne.mpr c12
          replace H := Option.bind_eq_some_iff.mp H
          obtain ⟨t143, A160, H⟩ := H
          replace H : (if t143 > (wrap64 (a0)) then (some (decide ((wrap64 ((wrap64 ((wrap64 (a0)) - t142)) * 16)) < (wrap64 ((wrap64 (a0)) + 16))))) else (some false)) = some r := H
          have A16 := Aside0.mk A160
          clear A160
          by_cases c17 : t143 > (wrap64 (a0))
          · rw [if_pos c17] at H
            have c17b0 : decide ((wrap64 (a0)) < t143) = true := decide_eq_true c17
            clear c17
            obtain rfl := Option.some.inj H
            go_enter Try.func5, Try.ntmps5
            go_wp2_with (first | ((with_reducible refine gate_callee (f := 9) rfl ?_); refine goesL_ (some 7) rfl rfl Try.func9 (by kernel_rfl) rfl #[] rfl (by (try simp only [List.map_toArray, List.map_cons, List.map_nil]); first | done | rfl | (simp only [List.length_drop, List.length_take]; rfl)) ?_; (with_reducible refine (stolonlaw03_shown.calls k  true _ A2.out).mono ?_); rintro e w18 ⟨rfl, hb⟩; refine ⟨_, rfl, ?_⟩; have n0_ := Aside0.mk (below_step (by repeat (first | (with_reducible first | exact HB.out | apply below_alloc | apply pw_below_drewN | apply below_drew1) | exact HB.out)) hb); clear HB; have HB := n0_; clear n0_; (try clear hb); (try clear hb2); (try clear hk); (try clear hi)) | ((with_reducible refine gate_callee (f := 15) rfl ?_); refine goesL_ (some 19) rfl rfl Try.func15 (by kernel_rfl) rfl #[.int .i64 (wrap64 (a0))] rfl (by (try simp only [List.map_toArray, List.map_cons, List.map_nil]); first | done | rfl | (simp only [List.length_drop, List.length_take]; rfl)) ?_; (with_reducible refine (code_Near.calls k (wrap64 (a0)) t141 _ A8.out).mono ?_); rintro e w19 ⟨rfl, hb⟩; refine ⟨_, rfl, ?_⟩; have n0_ := Aside0.mk (below_step (by repeat (first | (with_reducible first | exact HB.out | apply below_alloc | apply pw_below_drewN | apply below_drew1) | exact HB.out)) hb); clear HB; have HB := n0_; clear n0_; (try clear hb); (try clear hb2); (try clear hk); (try clear hi)) | ((with_reducible refine gate_callee (f := 12) rfl ?_); refine goesL_ (some 21) rfl rfl Try.func12 (by kernel_rfl) rfl #[.int .u8 t141] rfl (by (try simp only [List.map_toArray, List.map_cons, List.map_nil]); first | done | rfl | (simp only [List.length_drop, List.length_take]; rfl)) ?_; (with_reducible refine (code_Value.calls t141 t142 _ A9.out).mono ?_); rintro e w20 ⟨rfl, hb⟩; refine ⟨_, rfl, ?_⟩; have n0_ := Aside0.mk (below_step (by repeat (first | (with_reducible first | exact HB.out | apply below_alloc | apply pw_below_drewN | apply below_drew1) | exact HB.out)) hb); clear HB; have HB := n0_; clear n0_; (try clear hb); (try clear hb2); (try clear hk); (try clear hi)) | (go_at_call 12; (with_reducible refine (code_Value.calls ((t141 + 1) % 256) t143 _ A16.out).mono ?_); rintro e w21 ⟨rfl, hb⟩; have n0_ := Aside0.mk (below_step (by repeat (first | (with_reducible first | exact HB.out | apply below_alloc | apply pw_below_drewN | apply below_drew1) | exact HB.out)) hb); clear HB; have HB := n0_; clear n0_; (try clear hb); (try clear hb2); (try clear hk); (try clear hi)))
            go_ret
            exact ⟨by first | rfl | (simp [errW_none, errW_some] <;> rfl) | (simp [*, errW_none, errW_some] <;> rfl), by repeat (first | (with_reducible first | exact HB.out | apply below_alloc | apply pw_below_drewN | apply below_drew1) | exact HB.out)⟩
          · rw [if_neg c17] at H
            have c17b0 : decide ((wrap64 (a0)) < t143) = false := decide_eq_false c17
            clear c17
            exact absurd ((Option.some.inj H).trans hTrue.out) (by simp)
      · rw [if_neg c11] at H
        have c11b0 : decide (t142 ≤ (wrap64 (a0))) = false := decide_eq_false c11
        clear c11
        exact absurd ((Option.some.inj H).trans hTrue.out) (by simp)
    · replace c10 := Bool.eq_false_iff.mpr c10
      subst c10
      have H1 : (some false) = some r := by rw [if_neg (show ¬ (false = true) by decide)] at H; exact H
      clear H
      have H := H1
      clear H1
      exact absurd ((Option.some.inj H).trans hTrue.out) (by simp)

end Go.Proofs.Ytlihbdinghoeeac.P

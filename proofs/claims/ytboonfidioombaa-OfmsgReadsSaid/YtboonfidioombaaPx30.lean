/- For each Go function a Lean function, and the proof that a call comes to what it tells: made by program out of the translation (the kit's print, with texts by hand put in). No condition. -/
import Derived.Test.YtboonfidioombaaSq
import Derived.Test.YtboonfidioombaaPx0
import Derived.Test.YtboonfidioombaaPx27
import Derived.Test.YtboonfidioombaaPx29
namespace Go.Proofs.Ytboonfidioombaa.P
open Go.RowKit Go.Proofs.Ytboonfidioombaa.HRows Go.Proofs.YtboonfidioombaaW.PrintWords Go.Proofs.YtboonfidioombaaW.PrintLast Go.Proofs.YtboonfidioombaaW.PrintMore
attribute [local go_sem] max2_int min2_int max_two min_two max_three min_three max_four min_four
set_option linter.unusedVariables false
set_option linter.unusedSimpArgs false
mutual
def stolonref16_Split.l0 : Nat → List Int → List (S29) → Option ((List (S29)) × List Int × Int)
 | 0, _, _ => none
 | k + 1, x0, x5 => if (x0.length : Int) ≥ 2 then ((stolonref16_value.f k x0 0 2).bind fun t519 => (stolonref16_Split.j1 k x0 x5 (decide ((x0.length : Int) ≥ (wrap64 (t519)))))) else (stolonref16_Split.j1 k x0 x5 false)
def stolonref16_Split.j1 : Nat → List Int → List (S29) → Bool → Option ((List (S29)) × List Int × Int)
 | 0, _, _, _ => none
 | k + 1, x0, x5, x19 => if x19 = true then ((stolonref16_value.f k x0 0 2).bind fun t520 => (if 0 ≤ (wrap64 (t520)) then (if (wrap64 (t520)) ≤ (x0.length : Int) then ((stolonref16_Decode.f k (x0.take ((wrap64 (t520)) : Int).toNat)).bind fun bt526 => (if bt526.2.2.2.2.2.2.2.2.2.2.2 = 0 then (if x5.length < 1353245080339 then (stolonref16_Split.l0 k (x0.drop ((wrap64 (t520)) : Int).toNat) (x5 ++ [(⟨bt526.1, bt526.2.1, (⟨bt526.2.2.1, bt526.2.2.2.1, bt526.2.2.2.2.1, bt526.2.2.2.2.2.1, bt526.2.2.2.2.2.2.1, bt526.2.2.2.2.2.2.2.1⟩ : S26), bt526.2.2.2.2.2.2.2.2.1, bt526.2.2.2.2.2.2.2.2.2.1, bt526.2.2.2.2.2.2.2.2.2.2.1⟩ : S29)])) else (none)) else (some (x5, x0, 2)))) else (none)) else (none))) else (some (x5, x0, 0))
end
def stolonref16_Split.f (k : Nat) (l0 : List Int) : Option ((List (S29)) × List Int × Int) := stolonref16_Split.l0 k l0 ([] : List (S29))
set_option maxHeartbeats 8000000 in
set_option maxRecDepth 100000 in
theorem stolonref16_Split.calls (k : Nat) (P0_ : Nat → Prop) (A0 : Option Addr) (c0 : Nat) (l0 : List Int) (r1 : List (S29)) (r2 : List Int) (r3 : Int) (w : World) (hs0 : Kd.V (Kd.int .u8) 5 w w.heap.size (fun k_ => P0_ k_) (.slice A0 l0.length c0) l0) (h : stolonref16_Split.f k l0 = some (r1, r2, r3)) :
  Calls Try.prog 22 #[.slice A0 l0.length c0] w fun e w' => ∃ v0_ v1_ : Value, e = .returned (.tuple #[v0_, v1_, .int .i64 r3]) ∧ Kd.N k29 29 w' w.heap.size (fun k_ => (P0_ k_ ∨ w.heap.size ≤ k_)) v0_ r1 ∧ Kd.V (Kd.int .u8) 5 w' w.heap.size (fun k_ => (P0_ k_ ∨ w.heap.size ≤ k_) ∧ some k_ ≠ (v0_ : Value).ownBlock) v1_ r2 ∧ Below w.heap.size w w' := by
 have hu29 := Try.underlying29
 have HO0 := m_ (show Kd.V (Kd.int .u8) 5 w w.heap.size (fun k_ => (P0_ k_ ∨ w.heap.size ≤ k_)) (.slice A0 l0.length c0) l0 from Kd.V_mono hs0 (fun k_ hk => .inl hk))
 have HB := m_ (Below.refl w.heap.size w)
 have H : (stolonref16_Split.l0 k l0 ([] : List (S29))) = some (r1, r2, r3) := h
 clear h
 have H' := m_ H
 clear H
 go_enter Try.func22, Try.ntmps22
 go_wp2
 go_loopg [0, 5] k (fun kq v0 v5 w' => ∃ (x0_1 : List Int) (x5_1 : List (S29)), Aside0 (stolonref16_Split.l0 kq x0_1 x5_1 = some (r1, r2, r3)) ∧ Aside0 (kq ≤ k) ∧ Aside0 (Kd.V (Kd.int .u8) 5 w' w.heap.size (fun k_ => (P0_ k_ ∨ w.heap.size ≤ k_) ∧ some k_ ≠ (v5 : Value).ownBlock) v0 x0_1) ∧ Aside0 (Kd.N k29 29 w' w.heap.size (fun k_ => (P0_ k_ ∨ w.heap.size ≤ k_)) v5 x5_1) ∧ Aside0 (Below w.heap.size w w'))
 case atStart => exact ⟨(l0), (([] : List (S29))), H', ⟨Nat.le_refl _⟩, ⟨Vy_ (Kd.V_mono HO0.out (fun _ hk => ⟨hk, (by simp [Value.ownBlock])⟩))⟩, ⟨by first | exact Kd.S_nil _ _ _ _ _ | exact Kd.N_nil _ _ _ _ _ | exact Kd.V_nil _ _ _ _ _ | exact Kd.Q_nil _ _ _ _ _ | exact Kd.R_nil _ _ _ _ _⟩, ⟨bz_⟩⟩
 case round =>
  clear H'
  obtain ⟨x0_1, x5_1, HA, HK1, HO_0, HO_5, HB⟩ := hrel
  cases gk with
  | zero => exact absurd HA.out (by simp [stolonref16_Split.l0])
  | succ k1 =>
   have H := HA.out
   clear HA
   simp only [stolonref16_Split.l0] at H
   have HC2 := m_ H
   clear H
   go_upto_region 2 with (fail)
   go_cut [19] (fun v19 wc => ∃ (kq : Nat) (x19_1 : Bool), v19 = .bool x19_1 ∧ Aside0 (stolonref16_Split.j1 kq x0_1 x5_1 x19_1 = some (r1, r2, r3)) ∧ Aside0 (kq ≤ k1) ∧ Aside0 (Kd.V (Kd.int .u8) 5 wc w.heap.size (fun k_ => (P0_ k_ ∨ w.heap.size ≤ k_) ∧ some k_ ≠ (u5 : Value).ownBlock) u0 x0_1) ∧ Aside0 (Kd.N k29 29 wc w.heap.size (fun k_ => (P0_ k_ ∨ w.heap.size ≤ k_)) u5 x5_1) ∧ Aside0 (Below w.heap.size w wc))
   case first =>
    have H := HC2.out
    clear HC2
    by_cases c3 : (x0_1.length : Int) ≥ 2
    ·rw [if_pos c3] at H
     have c3b0 : decide (2 ≤ (x0_1.length : Int)) = true := decide_eq_true c3
     have c3b1 : decide (2 ≤ x0_1.length) = true := decide_eq_true (by omega)
     clear c3
     (first | rw [c3b0] | (simp only [i64_w, i32_w]; rw [c3b0]) | skip)
     replace H := Option.bind_eq_some_iff.mp H
     obtain ⟨t519, A40, H⟩ := H
     replace H : (stolonref16_Split.j1 k1 x0_1 x5_1 (decide ((x0_1.length : Int) ≥ (wrap64 (t519))))) = some (r1, r2, r3) := H
     have A4 := m_ A40
     clear A40
     have H' := m_ H
     clear H
     obtain ⟨Ao5, co5, eo5⟩ := Kd.V_slice HO_0.out
     subst eo5
     go_wp2_with (first | (go_at_call 38; (with_reducible refine (stolonref16_value.calls k1 _ _ x0_1 0 2 t519 _ ?side1 ?side2 A4.out).mono ?_); (case side1 => exact Cd_ (Kd.V_reads' HO_0.out).2.2); (case side2 => exact (Kd.V_reads' HO_0.out).2.1); rintro e w' ⟨rfl, ⟨nd, rfl⟩⟩))
     go_meet
     case rel => exact ⟨_, (decide ((x0_1.length : Int) ≥ (wrap64 (t519)))), (by first | rfl | (simp; done) | (simp [*]; done)), H', ⟨by have := HK1.out; first | omega | exact Nat.le_refl _⟩, ⟨Vz_ HO_0.out⟩, ⟨Nz_ HO_5.out⟩, ⟨bz_⟩⟩
    ·rw [if_neg c3] at H
     have c3b0 : decide (2 ≤ (x0_1.length : Int)) = false := decide_eq_false c3
     have c3b1 : decide (2 ≤ x0_1.length) = false := decide_eq_false (by omega)
     clear c3
     (first | rw [c3b0] | (simp only [i64_w, i32_w]; rw [c3b0]) | skip)
     have H' := m_ H
     clear H
     obtain ⟨Ao6, co6, eo6⟩ := Kd.V_slice HO_0.out
     subst eo6
     go_wp2
     go_meet
     case rel => exact ⟨_, (false), (by first | rfl | (simp; done) | (simp [*]; done)), H', ⟨by have := HK1.out; first | omega | exact Nat.le_refl _⟩, ⟨Vz_ HO_0.out⟩, ⟨Nz_ HO_5.out⟩, ⟨bz_⟩⟩
   case rest =>
    clear HC2
    try clear c2
    try clear p2
    try clear c3
    try clear c3b0
    try clear c3b1
    try clear p6
    obtain ⟨kq, x19_1, rfl, HA, HJ1, HO_0, HO_5, HB⟩ := hcut
    cases kq with
    | zero => exact absurd HA.out (by simp [stolonref16_Split.j1])
    | succ kj1 =>
     have H := HA.out
     clear HA
     simp only [stolonref16_Split.j1] at H
     by_cases c7 : x19_1 = true
     ·subst c7
      have H1 : ((stolonref16_value.f kj1 x0_1 0 2).bind fun t520 => (if 0 ≤ (wrap64 (t520)) then (if (wrap64 (t520)) ≤ (x0_1.length : Int) then ((stolonref16_Decode.f kj1 (x0_1.take ((wrap64 (t520)) : Int).toNat)).bind fun bt526 => (if bt526.2.2.2.2.2.2.2.2.2.2.2 = 0 then (if x5_1.length < 1353245080339 then (stolonref16_Split.l0 kj1 (x0_1.drop ((wrap64 (t520)) : Int).toNat) (x5_1 ++ [(⟨bt526.1, bt526.2.1, (⟨bt526.2.2.1, bt526.2.2.2.1, bt526.2.2.2.2.1, bt526.2.2.2.2.2.1, bt526.2.2.2.2.2.2.1, bt526.2.2.2.2.2.2.2.1⟩ : S26), bt526.2.2.2.2.2.2.2.2.1, bt526.2.2.2.2.2.2.2.2.2.1, bt526.2.2.2.2.2.2.2.2.2.2.1⟩ : S29)])) else (none)) else (some (x5_1, x0_1, 2)))) else (none)) else (none))) = some (r1, r2, r3) := by rw [if_pos rfl] at H; exact H
      clear H
      have H := H1
      clear H1
      replace H := Option.bind_eq_some_iff.mp H
      obtain ⟨t520, A80, H⟩ := H
      replace H : (if 0 ≤ (wrap64 (t520)) then (if (wrap64 (t520)) ≤ (x0_1.length : Int) then ((stolonref16_Decode.f kj1 (x0_1.take ((wrap64 (t520)) : Int).toNat)).bind fun bt526 => (if bt526.2.2.2.2.2.2.2.2.2.2.2 = 0 then (if x5_1.length < 1353245080339 then (stolonref16_Split.l0 kj1 (x0_1.drop ((wrap64 (t520)) : Int).toNat) (x5_1 ++ [(⟨bt526.1, bt526.2.1, (⟨bt526.2.2.1, bt526.2.2.2.1, bt526.2.2.2.2.1, bt526.2.2.2.2.2.1, bt526.2.2.2.2.2.2.1, bt526.2.2.2.2.2.2.2.1⟩ : S26), bt526.2.2.2.2.2.2.2.2.1, bt526.2.2.2.2.2.2.2.2.2.1, bt526.2.2.2.2.2.2.2.2.2.2.1⟩ : S29)])) else (none)) else (some (x5_1, x0_1, 2)))) else (none)) else (none)) = some (r1, r2, r3) := H
      have A8 := m_ A80
      clear A80
      obtain ⟨ji9, hji9⟩ : ∃ j_ : Int, (wrap64 (t520)) = j_ := ⟨_, rfl⟩
      replace H : (if 0 ≤ (ji9) then (if (ji9) ≤ (x0_1.length : Int) then ((stolonref16_Decode.f kj1 (x0_1.take ((ji9) : Int).toNat)).bind fun bt526 => (if bt526.2.2.2.2.2.2.2.2.2.2.2 = 0 then (if x5_1.length < 1353245080339 then (stolonref16_Split.l0 kj1 (x0_1.drop ((ji9) : Int).toNat) (x5_1 ++ [(⟨bt526.1, bt526.2.1, (⟨bt526.2.2.1, bt526.2.2.2.1, bt526.2.2.2.2.1, bt526.2.2.2.2.2.1, bt526.2.2.2.2.2.2.1, bt526.2.2.2.2.2.2.2.1⟩ : S26), bt526.2.2.2.2.2.2.2.2.1, bt526.2.2.2.2.2.2.2.2.2.1, bt526.2.2.2.2.2.2.2.2.2.2.1⟩ : S29)])) else (none)) else (some (x5_1, x0_1, 2)))) else (none)) else (none)) = some (r1, r2, r3) := by first | (rw [hji9] at H; exact H) | (simp only [hji9] at H ⊢; exact H)
      (try rw [hji9] at A8)
      have hji9w : (IntKind.i64.wrap (t520)) = ji9 := (i64_w _).trans hji9
      by_cases c10 : 0 ≤ (ji9)
      ·rw [if_pos c10] at H
       have c10b0 := eq_true c10
       have c10b1 : decide (0 ≤ (ji9)) = true := decide_eq_true c10
       clear c10
       by_cases c11 : (ji9) ≤ (x0_1.length : Int)
       ·rw [if_pos c11] at H
        have c11b0 := eq_true c11
        have c11b1 : decide ((ji9) ≤ (x0_1.length : Int)) = true := decide_eq_true c11
        clear c11
        obtain ⟨y521, hy521⟩ : ∃ y_ : List Int, y_ = (x0_1.take ((ji9) : Int).toNat) := ⟨_, rfl⟩
        replace H : ((stolonref16_Decode.f kj1 y521).bind fun bt526 => (if bt526.2.2.2.2.2.2.2.2.2.2.2 = 0 then (if x5_1.length < 1353245080339 then (stolonref16_Split.l0 kj1 (x0_1.drop ((ji9) : Int).toNat) (x5_1 ++ [(⟨bt526.1, bt526.2.1, (⟨bt526.2.2.1, bt526.2.2.2.1, bt526.2.2.2.2.1, bt526.2.2.2.2.2.1, bt526.2.2.2.2.2.2.1, bt526.2.2.2.2.2.2.2.1⟩ : S26), bt526.2.2.2.2.2.2.2.2.1, bt526.2.2.2.2.2.2.2.2.2.1, bt526.2.2.2.2.2.2.2.2.2.2.1⟩ : S29)])) else (none)) else (some (x5_1, x0_1, 2)))) = some (r1, r2, r3) := by first | (rw [hy521]; with_reducible exact H) | (have H2_ := (Option.bind_some _ _).symm.trans H; rw [hy521]; with_reducible exact H2_) | (have H2_ := (Option.bind_some _ _).symm.trans H; with_reducible exact H2_) | with_reducible exact H | (rw [hy521]; exact H) | exact H
        have Ny521 := m_ hy521
        clear hy521
        replace H := Option.bind_eq_some_iff.mp H
        obtain ⟨⟨t526, t527, t528, t529, t530, t531, t532, t533, t536, t537, t538, t541⟩, A120, H⟩ := H
        replace H : (if t541 = 0 then (if x5_1.length < 1353245080339 then (stolonref16_Split.l0 kj1 (x0_1.drop ((ji9) : Int).toNat) (x5_1 ++ [(⟨t526, t527, (⟨t528, t529, t530, t531, t532, t533⟩ : S26), t536, t537, t538⟩ : S29)])) else (none)) else (some (x5_1, x0_1, 2))) = some (r1, r2, r3) := H
        have A12 := m_ A120
        clear A120
        by_cases c13 : t541 = 0
        ·rw [if_pos c13] at H
         have c13b0 : (t541 == 0) = true := beq_iff_eq.mpr c13
         have c13b1 : (t541 != 0) = false := bne_eq_false_iff_eq.mpr c13
         clear c13
         by_cases c14 : x5_1.length < 1353245080339
         ·rw [if_pos c14] at H
          have LMc14 := m_ c14
          clear c14
          obtain ⟨y543, hy543⟩ : ∃ y_ : List (S29), y_ = (x5_1 ++ [(⟨t526, t527, (⟨t528, t529, t530, t531, t532, t533⟩ : S26), t536, t537, t538⟩ : S29)]) := ⟨_, rfl⟩
          replace H : (stolonref16_Split.l0 kj1 (x0_1.drop ((ji9) : Int).toNat) y543) = some (r1, r2, r3) := by first | (rw [hy543]; with_reducible exact H) | (have H2_ := (Option.bind_some _ _).symm.trans H; rw [hy543]; with_reducible exact H2_) | (have H2_ := (Option.bind_some _ _).symm.trans H; with_reducible exact H2_) | with_reducible exact H | (rw [hy543]; exact H) | exact H
          have Ny543 := m_ hy543
          clear hy543
          have c15b0 := eq_true (od_ : 0 ≤ (ji9))
          have c16b0 := eq_true (od_ : (ji9) ≤ (x0_1.length : Int))
          obtain ⟨y546, hy546⟩ : ∃ y_ : List Int, y_ = (x0_1.drop ((ji9) : Int).toNat) := ⟨_, rfl⟩
          replace H : (stolonref16_Split.l0 kj1 y546 y543) = some (r1, r2, r3) := by first | (rw [hy546]; with_reducible exact H) | (have H2_ := (Option.bind_some _ _).symm.trans H; rw [hy546]; with_reducible exact H2_) | (have H2_ := (Option.bind_some _ _).symm.trans H; with_reducible exact H2_) | with_reducible exact H | (rw [hy546]; exact H) | exact H
          have Ny546 := m_ hy546
          clear hy546
          have H' := m_ H
          clear H
          obtain ⟨Ao17, co17, eo17⟩ := Kd.V_slice HO_0.out
          subst eo17
          go_wp2_with (first | ((with_reducible refine gate_callee (f := 38) rfl ?_); refine gL_ (some 21) Try.func38 #[.slice Ao17 x0_1.length co17, .int .i64 0, .int .i64 2] ?_; (with_reducible refine (stolonref16_value.calls kj1 _ _ x0_1 0 2 t520 _ ?side1 ?side2 A8.out).mono ?_); (case side1 => exact Cd_ (Kd.V_reads' HO_0.out).2.2); (case side2 => exact (Kd.V_reads' HO_0.out).2.1); rintro e w' ⟨rfl, ⟨nd, rfl⟩⟩; refine ⟨_, rfl, ?_⟩; (try (rw [drewN_self wc]; generalize hq_ : World.drewN wc _ = wc; have n0_ : Aside0 (Kd.V (Kd.int .u8) 5 wc w.heap.size (fun k_ => (P0_ k_ ∨ w.heap.size ≤ k_) ∧ some k_ ≠ (u5 : Value).ownBlock) (.slice Ao17 x0_1.length co17) x0_1) := ⟨by rw [← hq_]; exact (Vz_ HO_0.out)⟩; have n1_ : Aside0 (Kd.N k29 29 wc w.heap.size (fun k_ => (P0_ k_ ∨ w.heap.size ≤ k_)) u5 x5_1) := ⟨by rw [← hq_]; exact (Nz_ HO_5.out)⟩; have n2_ : Aside0 (Below w.heap.size w wc) := ⟨by rw [← hq_]; exact bz_⟩; clear HO_0 HO_5 HB hq_; have HO_0 := n0_; have HO_5 := n1_; have HB := n2_; clear n0_ n1_ n2_)); have q18 : ((ji9) : Int) ≤ ((x0_1.length : Int) : Int) := od_; obtain ⟨i018, hi018, _, hsz18, _⟩ := info_parts info5; have hroom18 : x0_1.length ≤ co17 := (Kd.V_reads' HO_0.out).2.1; have hC18 : Kd.F (Kd.int .u8) _ _ Ao17 x0_1.length x0_1 := (Kd.V_at (base := w.heap.size) HO_0.out).2.2; have hcut18 := cut_to (P := Try.prog) 27 5 .i64 Try.underlying27 hi018 Ao17 x0_1.length co17 (ji9) od_ q18 hroom18; have hr18 := Kd.F_take (m := ((ji9) : Int).toNat) hC18 (by omega); have hy18 : y521.length = ((ji9) : Int).toNat := (by rw [Ny521.out, List.length_take]; omega); rw [← Ny521.out] at hr18; rw [← hy18] at hcut18; have HO525 := m_ (show Kd.V (Kd.int .u8) 5 _ w.heap.size _ (.slice Ao17 y521.length co17) y521 from Kd.V_mk (by omega) hr18); have HC525 := m_ (show y521.length ≤ co17 from by omega); clear hr18 hC18 hroom18 hi018 hsz18; have KY18 := m_ hy18; clear hy18; replace q18 := eq_true q18) | ((with_reducible refine gate_callee (f := 20) rfl ?_); refine gL_ (some 27) Try.func20 #[.slice Ao17 y521.length co17] ?_; (with_reducible refine (stolonref16_Decode.calls kj1 (fun k_ => ((P0_ k_ ∨ w.heap.size ≤ k_) ∧ some k_ ≠ (u5 : Value).ownBlock)) _ _ y521 t526 t527 t528 t529 t530 t531 t532 t533 t536 t537 t538 t541 _ ?side1 A12.out).mono ?_); (case side1 => exact HO525.out); rintro e w19 ⟨v534, v539, rfl, ho0, ho1, hb⟩; refine ⟨_, rfl, ?_⟩; have HO535 := m_ (Kd.R_lower (Kd.R_newM (M := fun k_ => (w.heap.size ≤ k_)) (Kd.R_mono (ok' := fun k_ => True) ho0 (fun _ hk_ => trivial)) (below_size bz_) (fun k_ h_ => h_)) (below_size bz_)); have HO540 := m_ (Kd.V_lower (Kd.V_mono (ok' := fun k_ => (P0_ k_ ∨ w.heap.size ≤ k_) ∧ some k_ ≠ (v534 : Value).ownBlock ∧ some k_ ≠ (u5 : Value).ownBlock) ho1 (fun k_ hk_ => ⟨Or.elim hk_.1 (fun hs_ => hs_.1) (fun hn_ => (.inr (Nat.le_trans (below_size bz_) hn_))), hk_.2, Or.elim hk_.1 (fun hs_ => hs_.2) (fun hn_ => (Kd.fresh' (Kd.N_lt (Nz_ HO_5.out)) k_ hn_))⟩)) (below_size bz_)); replace HO_0 := m_ (Kd.V_elder' (Vz_ HO_0.out) (Kd.R_base ho0) hb); replace HO_5 := m_ (Kd.N_elder' (Nz_ HO_5.out) (Kd.R_base ho0) hb); replace HO525 := m_ (Kd.V_elder' (Vz_ HO525.out) (Kd.R_base ho0) hb); replace HB := m_ (below_step bz_ hb); (try clear hb); (try clear hb2); (try clear hk); (try clear hi); (try clear ho0); (try clear ho1)) | ((with_reducible refine gate_dst (N := 7) rfl ?_); (try (refine gate_guard (by rfl) ?_; dsimp only)); refine bx_ 7 29 #[.int .u8 0, .int .u32 0, .int .u32 0, .int .u32 0, .int .u32 0, .int .i64 0, .int .u32 0, .slice none 0 0, .int .i64 0, .bool false, .slice none 0 0] ?_; intro gb542 hg w20 hbox hb; have BK542 := m_ (hbox); have GW542 := m_ ((gw_ : w.heap.size ≤ gb542)); have GE542 := m_ ((gw_ : w.heap.size ≤ gb542)); replace HO_0 := m_ (Kd.V_below (Kd.V_elderB (Vz_ HO_0.out) gb542 (Nat.le_of_eq hg.symm)) hb); replace HO_5 := m_ (Kd.N_below (Kd.N_elderB (Nz_ HO_5.out) gb542 (Nat.le_of_eq hg.symm)) hb); replace HO525 := m_ (Kd.V_below (Kd.V_elderB (Vz_ HO525.out) gb542 (Nat.le_of_eq hg.symm)) hb); replace HO535 := m_ (Kd.R_below (Rz_ HO535.out) hb); replace HO540 := m_ (Kd.V_below (Kd.V_elderB (Vz_ HO540.out) gb542 (Nat.le_of_eq hg.symm)) hb); replace HB := m_ (below_step bz_ hb); clear hb hbox hg; have hcz21 := cz11_ BK542.out; obtain ⟨Ao22, co22, eo22⟩ := Kd.R_slice HO535.out; subst eo22; obtain ⟨Ao23, co23, eo23⟩ := Kd.V_slice HO540.out; subst eo23) | ((with_reducible refine gate_store (t := 29) (p := 7) rfl ?_); refine st_ 29 7 (((((((((((w20.setCell ⟨gb542, 0, none⟩ (.int .u8 t526)).setCell ⟨gb542, 1, none⟩ (.int .u32 t527)).setCell ⟨gb542, 2, none⟩ (.int .u32 t528)).setCell ⟨gb542, 3, none⟩ (.int .u32 t529)).setCell ⟨gb542, 4, none⟩ (.int .u32 t530)).setCell ⟨gb542, 5, none⟩ (.int .i64 t531)).setCell ⟨gb542, 6, none⟩ (.int .u32 t532)).setCell ⟨gb542, 7, none⟩ (.slice Ao22 t533.length co22)).setCell ⟨gb542, 8, none⟩ (.int .i64 t536)).setCell ⟨gb542, 9, none⟩ (.bool t537)).setCell ⟨gb542, 10, none⟩ (.slice Ao23 t538.length co23)) ?_; intro w24 hw; have n0_ : Aside0 (Kd.V (Kd.int .u8) 5 w24 w.heap.size (fun k_ => (P0_ k_ ∨ w.heap.size ≤ k_) ∧ some k_ ≠ (u5 : Value).ownBlock ∧ some k_ ≠ (.slice Ao22 t533.length co22 : Value).ownBlock ∧ k_ ≠ gb542) (.slice Ao17 x0_1.length co17) x0_1) := ⟨(by rw [hw]; exact (Kd.V_mono (Vf_ (Kd.V_mono HO_0.out (fun k_ hk => (⟨hk, hk.2⟩ : _ ∧ k_ ≠ gb542)))) (fun _ hk => ⟨hk.1.1.1.1, ⟨hk.1.1.1.2, ⟨hk.1.1.2, hk.1.2⟩⟩⟩)))⟩; have n1_ : Aside0 (Kd.N k29 29 w24 w.heap.size (fun k_ => (P0_ k_ ∨ w.heap.size ≤ k_) ∧ some k_ ≠ (.slice Ao22 t533.length co22 : Value).ownBlock ∧ k_ ≠ gb542) u5 x5_1) := ⟨(by rw [hw]; exact (Kd.N_mono (Nf_ (Kd.N_mono HO_5.out (fun k_ hk => (⟨hk, hk.2⟩ : _ ∧ k_ ≠ gb542)))) (fun _ hk => ⟨hk.1.1.1, ⟨hk.1.1.2, hk.1.2⟩⟩)))⟩; have n2_ : Aside0 (Kd.V (Kd.int .u8) 5 w24 w.heap.size (fun k_ => (P0_ k_ ∨ w.heap.size ≤ k_) ∧ some k_ ≠ (u5 : Value).ownBlock ∧ some k_ ≠ (.slice Ao22 t533.length co22 : Value).ownBlock ∧ k_ ≠ gb542) (.slice Ao17 y521.length co17) y521) := ⟨(by rw [hw]; exact (Kd.V_mono (Vf_ (Kd.V_mono HO525.out (fun k_ hk => (⟨hk, hk.2⟩ : _ ∧ k_ ≠ gb542)))) (fun _ hk => ⟨hk.1.1.1.1, ⟨hk.1.1.1.2, ⟨hk.1.1.2, hk.1.2⟩⟩⟩)))⟩; have n3_ : Aside0 (Kd.R k59 59 w24 w.heap.size (fun k_ => (w.heap.size ≤ k_)) (.slice Ao22 t533.length co22) t533) := ⟨(by rw [hw]; exact (Kd.R_mono (Rf_ (Kd.R_types HO535.out BK542.out (by decide))) (fun _ hk => hk.1.1)))⟩; have n4_ : Aside0 (Kd.V (Kd.int .u8) 5 w24 w.heap.size (fun k_ => (P0_ k_ ∨ w.heap.size ≤ k_) ∧ some k_ ≠ (u5 : Value).ownBlock ∧ some k_ ≠ (.slice Ao22 t533.length co22 : Value).ownBlock ∧ k_ ≠ gb542) (.slice Ao23 t538.length co23) t538) := ⟨(by rw [hw]; exact (Kd.V_mono (Vf_ (Kd.V_mono HO540.out (fun k_ hk => (⟨hk, hk.2⟩ : _ ∧ k_ ≠ gb542)))) (fun _ hk => ⟨hk.1.1.1, ⟨hk.1.1.2.2, ⟨hk.1.1.2.1, hk.1.2⟩⟩⟩)))⟩; have n5_ : Aside0 (w24.heap[gb542]? = some (.cells #[.int .u8 t526, .int .u32 t527, .int .u32 t528, .int .u32 t529, .int .u32 t530, .int .i64 t531, .int .u32 t532, .slice Ao22 t533.length co22, .int .i64 t536, .bool t537, .slice Ao23 t538.length co23] 29 (0, 0))) := ⟨(by rw [hw]; exact kb_)⟩; have n6_ : Aside0 (Below w.heap.size w w24) := ⟨(by rw [hw]; exact bz_)⟩; clear hw HO_0 HO_5 HO525 HO535 HO540 BK542 HB; have HO_0 := n0_; have HO_5 := n1_; have HO525 := n2_; have HO535 := n3_; have HO540 := n4_; have BK542 := n5_; have HB := n6_; clear n0_ n1_ n2_ n3_ n4_ n5_ n6_; have hcz25 := cz11_ BK542.out) | ((with_reducible refine gate_builtin (b := .append) (xs := #[.tmp 34, .tmp 36]) rfl ?_); (try (refine gate_guard (by rfl) ?_; dsimp only)); at_builtin; refine Kd.N_append k29 (w0 := w) w.heap.size rfl (.tmp 34) (.tmp 36) 43 29 (.agg #[(.int .u8 0), (.int .u32 0), (.int .u32 0), (.int .u32 0), (.int .u32 0), (.int .i64 0), (.int .u32 0), (.slice none 0 0), (.int .i64 0), (.bool false), (.slice none 0 0)]) 104 rfl Try.underlying43 info29 rfl (by decide) (by omega) u5 x5_1 (⟨t526, t527, (⟨t528, t529, t530, t531, t532, t533⟩ : S26), t536, t537, t538⟩ : S29) [.int .u8 t526, .int .u32 t527, .int .u32 t528, .int .u32 t529, .int .u32 t530, .int .i64 t531, .int .u32 t532, .slice Ao22 t533.length co22, .int .i64 t536, .bool t537, .slice Ao23 t538.length co23] (fun k_ => (P0_ k_ ∨ w.heap.size ≤ k_) ∧ k_ ≠ gb542) (fun k_ => ((fun k_ => (P0_ k_ ∨ w.heap.size ≤ k_) ∧ k_ ≠ gb542)) k_ ∧ some k_ ≠ (u5 : Value).ownBlock) rfl rfl ?aP (fun _ hk => hk) ?aF ?aO ?aB ?aS ?aL ?_; (case aP => exact (k29_mkF _ _ (⟨t526, t527, (⟨t528, t529, t530, t531, t532, t533⟩ : S26), t536, t537, t538⟩ : S29) (Kd.R_reads' (Kd.R_mono (ok' := (fun k_ => ((fun k_ => (P0_ k_ ∨ w.heap.size ≤ k_) ∧ k_ ≠ gb542)) k_ ∧ some k_ ≠ (u5 : Value).ownBlock)) (Kd.R_types (Kd.R_apart' (HO535.out) (Kd.N_typed HO_5.out) (by decide)) BK542.out (by decide)) (fun k_ hk => ⟨⟨(.inr (hk.1.1)), hk.2⟩, hk.1.2⟩))).2.1 (Kd.R_F (Kd.R_mono (ok' := (fun k_ => ((fun k_ => (P0_ k_ ∨ w.heap.size ≤ k_) ∧ k_ ≠ gb542)) k_ ∧ some k_ ≠ (u5 : Value).ownBlock)) (Kd.R_types (Kd.R_apart' (HO535.out) (Kd.N_typed HO_5.out) (by decide)) BK542.out (by decide)) (fun k_ hk => ⟨⟨(.inr (hk.1.1)), hk.2⟩, hk.1.2⟩))) (Kd.V_reads' (Kd.V_mono (ok' := (fun k_ => ((fun k_ => (P0_ k_ ∨ w.heap.size ≤ k_) ∧ k_ ≠ gb542)) k_ ∧ some k_ ≠ (u5 : Value).ownBlock)) (HO540.out) (fun k_ hk => ⟨⟨hk.1, hk.2.2.2⟩, hk.2.1⟩))).2.1 (Kd.V_F (Kd.V_mono (ok' := (fun k_ => ((fun k_ => (P0_ k_ ∨ w.heap.size ≤ k_) ∧ k_ ≠ gb542)) k_ ∧ some k_ ≠ (u5 : Value).ownBlock)) (HO540.out) (fun k_ hk => ⟨⟨hk.1, hk.2.2.2⟩, hk.2.1⟩))))); (case aB => exact bz_); (case aF => exact (fun k_ hk => ⟨(.inr (Nat.le_trans (below_size bz_) hk)), Kd.freshB (g := gb542) (o := .cells #[.int .u8 t526, .int .u32 t527, .int .u32 t528, .int .u32 t529, .int .u32 t530, .int .i64 t531, .int .u32 t532, .slice Ao22 t533.length co22, .int .i64 t536, .bool t537, .slice Ao23 t538.length co23] 29 (0, 0)) kz_ k_ hk⟩)); (case aO => exact (Ny_ (Kd.N_mono HO_5.out (fun _ hk => ⟨hk.1, hk.2.2⟩)))); (case aS => exact (below_size bz_)); (case aL => have := LMc14.out; omega); intro v544 w26 ho hb hg hat; rw [← Ny543.out] at ho; have HO545 := m_ (ho); replace HO_0 := m_ (Kd.V_afterv (ok := (fun k_ => (P0_ k_ ∨ w.heap.size ≤ k_) ∧ some k_ ≠ (.slice Ao22 t533.length co22 : Value).ownBlock ∧ k_ ≠ gb542)) (Vy_ (Kd.V_mono HO_0.out (fun _ hk => ⟨⟨hk.1, ⟨hk.2.2.1, hk.2.2.2⟩⟩, hk.2.1⟩))) hg hat); replace HO525 := m_ (Kd.V_afterv (ok := (fun k_ => (P0_ k_ ∨ w.heap.size ≤ k_) ∧ some k_ ≠ (.slice Ao22 t533.length co22 : Value).ownBlock ∧ k_ ≠ gb542)) (Vy_ (Kd.V_mono HO525.out (fun _ hk => ⟨⟨hk.1, ⟨hk.2.2.1, hk.2.2.2⟩⟩, hk.2.1⟩))) hg hat); replace HO540 := m_ (Kd.V_afterv (ok := (fun k_ => (P0_ k_ ∨ w.heap.size ≤ k_) ∧ some k_ ≠ (.slice Ao22 t533.length co22 : Value).ownBlock ∧ k_ ≠ gb542)) (Vy_ (Kd.V_mono HO540.out (fun _ hk => ⟨⟨hk.1, ⟨hk.2.2.1, hk.2.2.2⟩⟩, hk.2.1⟩))) hg hat); replace BK542 := m_ (blk_grown (g := gb542) (o := .cells #[.int .u8 t526, .int .u32 t527, .int .u32 t528, .int .u32 t529, .int .u32 t530, .int .i64 t531, .int .u32 t532, .slice Ao22 t533.length co22, .int .i64 t536, .bool t537, .slice Ao23 t538.length co23] 29 (0, 0)) kz_ hg (Kd.N_away HO_5.out (fun _ hk => hk.2.2))); replace HB := m_ (hb); clear HO_5 HO535 ho hb hg hat; have q27 : ((ji9) : Int) ≤ ((x0_1.length : Int) : Int) := od_; obtain ⟨i027, hi027, _, hsz27, _⟩ := info_parts info5; have hroom27 : x0_1.length ≤ co17 := (Kd.V_reads' HO_0.out).2.1; have hC27 : Kd.F (Kd.int .u8) _ _ Ao17 x0_1.length x0_1 := (Kd.V_at (base := w.heap.size) HO_0.out).2.2; have q027 : (0 : Int) ≤ ((ji9) : Int) := od_; have hcut27 := cut_from (P := Try.prog) 27 5 .i64 Try.underlying27 hi027 1 hsz27 Ao17 x0_1.length co17 (ji9) q027 q27; have hr27 := Kd.F_cut (m := ((ji9) : Int).toNat) (c := co17) hC27 (by omega) hroom27; obtain ⟨A27, hA27⟩ : ∃ A1, A1 = (if co17 = ((ji9) : Int).toNat then Ao17 else (Ao17 : Option Addr).map (·.add (((ji9) : Int).toNat * 1))) := ⟨_, rfl⟩; obtain ⟨c27, hc27⟩ : ∃ c1, c1 = co17 - ((ji9) : Int).toNat := ⟨_, rfl⟩; have hy27 : y546.length = x0_1.length - ((ji9) : Int).toNat := (by rw [Ny546.out, List.length_drop] <;> omega); rw [show (x0_1).drop ((ji9) : Int).toNat = y546 from Ny546.out.symm] at hr27; replace hr27 : Kd.F (Kd.int .u8) _ _ A27 y546.length y546 := (by rw [hA27]; exact hr27); rw [← hy27, ← hA27, ← hc27] at hcut27; have HO550 := m_ (show Kd.V (Kd.int .u8) 5 _ w.heap.size _ (.slice A27 y546.length c27) y546 from Kd.V_mk (by rw [hy27, hc27]; exact Nat.sub_le_sub_right hroom27 _) hr27); have HC550 := m_ (show y546.length ≤ c27 from by rw [hy27, hc27]; exact Nat.sub_le_sub_right hroom27 _); clear hr27 hC27 hroom27 hi027 hsz27 hc27; have KY27 := m_ hy27; have KA27 := m_ hA27; clear hy27 hA27; replace q27 := eq_true q27))
          go_roundg kj1
          case measure => have := HK1.out; have := HJ1.out; omega
          case rel => exact ⟨(y546), (y543), H', ⟨by have := HK1.out; have := HJ1.out; omega⟩, ⟨Vy_ (Kd.V_mono HO550.out (fun _ hk => ⟨hk.1.1, hk.2⟩))⟩, ⟨Ny_ (Kd.N_mono HO545.out (fun _ hk => hk.1))⟩, ⟨bz_⟩⟩
         ·rw [if_neg c14] at H
          exact absurd H (by simp)
        ·rw [if_neg c13] at H
         have c13b0 : (t541 == 0) = false := beq_eq_false_iff_ne.mpr c13
         have c13b1 : (t541 != 0) = true := bne_iff_ne.mpr c13
         simp only [Option.some.injEq, Prod.mk.injEq] at H
         obtain ⟨rfl, rfl, rfl⟩ := H
         obtain ⟨Ao28, co28, eo28⟩ := Kd.V_slice HO_0.out
         subst eo28
         go_wp2_with (first | ((with_reducible refine gate_callee (f := 38) rfl ?_); refine gL_ (some 21) Try.func38 #[.slice Ao28 x0_1.length co28, .int .i64 0, .int .i64 2] ?_; (with_reducible refine (stolonref16_value.calls kj1 _ _ x0_1 0 2 t520 _ ?side1 ?side2 A8.out).mono ?_); (case side1 => exact Cd_ (Kd.V_reads' HO_0.out).2.2); (case side2 => exact (Kd.V_reads' HO_0.out).2.1); rintro e w' ⟨rfl, ⟨nd, rfl⟩⟩; refine ⟨_, rfl, ?_⟩; (try (rw [drewN_self wc]; generalize hq_ : World.drewN wc _ = wc; have n0_ : Aside0 (Kd.V (Kd.int .u8) 5 wc w.heap.size (fun k_ => (P0_ k_ ∨ w.heap.size ≤ k_) ∧ some k_ ≠ (u5 : Value).ownBlock) (.slice Ao28 x0_1.length co28) x0_1) := ⟨by rw [← hq_]; exact (Vz_ HO_0.out)⟩; have n1_ : Aside0 (Kd.N k29 29 wc w.heap.size (fun k_ => (P0_ k_ ∨ w.heap.size ≤ k_)) u5 x5_1) := ⟨by rw [← hq_]; exact (Nz_ HO_5.out)⟩; have n2_ : Aside0 (Below w.heap.size w wc) := ⟨by rw [← hq_]; exact bz_⟩; clear HO_0 HO_5 HB hq_; have HO_0 := n0_; have HO_5 := n1_; have HB := n2_; clear n0_ n1_ n2_)); have q29 : ((ji9) : Int) ≤ ((x0_1.length : Int) : Int) := od_; obtain ⟨i029, hi029, _, hsz29, _⟩ := info_parts info5; have hroom29 : x0_1.length ≤ co28 := (Kd.V_reads' HO_0.out).2.1; have hC29 : Kd.F (Kd.int .u8) _ _ Ao28 x0_1.length x0_1 := (Kd.V_at (base := w.heap.size) HO_0.out).2.2; have hcut29 := cut_to (P := Try.prog) 27 5 .i64 Try.underlying27 hi029 Ao28 x0_1.length co28 (ji9) od_ q29 hroom29; have hr29 := Kd.F_take (m := ((ji9) : Int).toNat) hC29 (by omega); have hy29 : y521.length = ((ji9) : Int).toNat := (by rw [Ny521.out, List.length_take]; omega); rw [← Ny521.out] at hr29; rw [← hy29] at hcut29; have HO525 := m_ (show Kd.V (Kd.int .u8) 5 _ w.heap.size _ (.slice Ao28 y521.length co28) y521 from Kd.V_mk (by omega) hr29); have HC525 := m_ (show y521.length ≤ co28 from by omega); clear hr29 hC29 hroom29 hi029 hsz29; have KY29 := m_ hy29; clear hy29; replace q29 := eq_true q29) | ((with_reducible refine gate_callee (f := 20) rfl ?_); refine gL_ (some 27) Try.func20 #[.slice Ao28 y521.length co28] ?_; (with_reducible refine (stolonref16_Decode.calls kj1 (fun k_ => ((P0_ k_ ∨ w.heap.size ≤ k_) ∧ some k_ ≠ (u5 : Value).ownBlock)) _ _ y521 t526 t527 t528 t529 t530 t531 t532 t533 t536 t537 t538 t541 _ ?side1 A12.out).mono ?_); (case side1 => exact HO525.out); rintro e w30 ⟨v534, v539, rfl, ho0, ho1, hb⟩; refine ⟨_, rfl, ?_⟩; have HO535 := m_ (Kd.R_lower (Kd.R_newM (M := fun k_ => (w.heap.size ≤ k_)) (Kd.R_mono (ok' := fun k_ => True) ho0 (fun _ hk_ => trivial)) (below_size bz_) (fun k_ h_ => h_)) (below_size bz_)); have HO540 := m_ (Kd.V_lower (Kd.V_mono (ok' := fun k_ => (P0_ k_ ∨ w.heap.size ≤ k_) ∧ some k_ ≠ (v534 : Value).ownBlock ∧ some k_ ≠ (u5 : Value).ownBlock) ho1 (fun k_ hk_ => ⟨Or.elim hk_.1 (fun hs_ => hs_.1) (fun hn_ => (.inr (Nat.le_trans (below_size bz_) hn_))), hk_.2, Or.elim hk_.1 (fun hs_ => hs_.2) (fun hn_ => (Kd.fresh' (Kd.N_lt (Nz_ HO_5.out)) k_ hn_))⟩)) (below_size bz_)); replace HO_0 := m_ (Kd.V_elder' (Vz_ HO_0.out) (Kd.R_base ho0) hb); replace HO_5 := m_ (Kd.N_elder' (Nz_ HO_5.out) (Kd.R_base ho0) hb); replace HO525 := m_ (Kd.V_elder' (Vz_ HO525.out) (Kd.R_base ho0) hb); replace HB := m_ (below_step bz_ hb); (try clear hb); (try clear hb2); (try clear hk); (try clear hi); (try clear ho0); (try clear ho1)) | ((with_reducible refine gate_dst (N := 7) rfl ?_); (try (refine gate_guard (by rfl) ?_; dsimp only)); refine bx_ 7 29 #[.int .u8 0, .int .u32 0, .int .u32 0, .int .u32 0, .int .u32 0, .int .i64 0, .int .u32 0, .slice none 0 0, .int .i64 0, .bool false, .slice none 0 0] ?_; intro gb542 hg w31 hbox hb; have BK542 := m_ (hbox); have GW542 := m_ ((gw_ : w.heap.size ≤ gb542)); have GE542 := m_ ((gw_ : w.heap.size ≤ gb542)); replace HO_0 := m_ (Kd.V_below (Kd.V_elderB (Vz_ HO_0.out) gb542 (Nat.le_of_eq hg.symm)) hb); replace HO_5 := m_ (Kd.N_below (Kd.N_elderB (Nz_ HO_5.out) gb542 (Nat.le_of_eq hg.symm)) hb); replace HO525 := m_ (Kd.V_below (Kd.V_elderB (Vz_ HO525.out) gb542 (Nat.le_of_eq hg.symm)) hb); replace HO535 := m_ (Kd.R_below (Rz_ HO535.out) hb); replace HO540 := m_ (Kd.V_below (Kd.V_elderB (Vz_ HO540.out) gb542 (Nat.le_of_eq hg.symm)) hb); replace HB := m_ (below_step bz_ hb); clear hb hbox hg; have hcz32 := cz11_ BK542.out; obtain ⟨Ao33, co33, eo33⟩ := Kd.R_slice HO535.out; subst eo33; obtain ⟨Ao34, co34, eo34⟩ := Kd.V_slice HO540.out; subst eo34))
         go_ret3
         exact ⟨_, _, (by first | rfl | (simp [errW_none, errW_some] <;> rfl) | (simp only [← hji9]; first | rfl | (simp [errW_none, errW_some] <;> rfl)) | (simp [*, errW_none, errW_some] <;> rfl)), (Kd.N_mono (Nf_ (Kd.N_mono HO_5.out (fun k_ hk => (⟨hk, hk.2⟩ : _ ∧ k_ ≠ gb542)))) (fun _ hk => hk.1.1.1)), (Kd.V_mono (Vf_ (Kd.V_mono HO_0.out (fun k_ hk => (⟨hk, hk.2⟩ : _ ∧ k_ ≠ gb542)))) (fun _ hk => ⟨hk.1.1.1.1, hk.1.1.1.2⟩)), bz_⟩
       ·rw [if_neg c11] at H
        exact absurd H (by simp)
      ·rw [if_neg c10] at H
       exact absurd H (by simp)
     ·replace c7 := Bool.eq_false_iff.mpr c7
      subst c7
      have H1 : (some (x5_1, x0_1, 0)) = some (r1, r2, r3) := by rw [if_neg (show ¬ (false = true) by decide)] at H; exact H
      clear H
      have H := H1
      clear H1
      simp only [Option.some.injEq, Prod.mk.injEq] at H
      obtain ⟨rfl, rfl, rfl⟩ := H
      go_wp2
      go_ret3
      exact ⟨_, _, ew_, (Nz_ HO_5.out), (Vz_ HO_0.out), bz_⟩
end Go.Proofs.Ytboonfidioombaa.P

/- For each Go function a Lean function, and the proof that a call comes to what it tells: made by program out of the translation (the kit's print, with texts by hand put in). No condition. -/
import Derived.Test.YtkcphjdjhlikhaaSq
import Derived.Test.YtkcphjdjhlikhaaPx0
import Derived.Test.YtkcphjdjhlikhaaPx11
import Derived.Test.YtkcphjdjhlikhaaPx16
namespace Go.Proofs.Ytkcphjdjhlikhaa.P
open Go.RowKit Go.Proofs.Ytkcphjdjhlikhaa.HRows Go.Proofs.YtkcphjdjhlikhaaW.PrintWords Go.Proofs.YtkcphjdjhlikhaaW.PrintLast Go.Proofs.YtkcphjdjhlikhaaW.PrintMore
attribute [local go_sem] max2_int min2_int max_two min_two max_three min_three max_four min_four   -- for this text's walks alone
set_option linter.unusedVariables false
set_option linter.unusedSimpArgs false

/-! ### stolonlaw13_SptSame: function 6 -/
def stolonlaw13_SptSame.f (k : Nat) (l0_0 : List Int) (l0_1 : List Int) (l1_0 : List Int) (l1_1 : List Int) : Option (Bool) := (stolonlaw13_shown.f k).bind fun t346 => (if (wrap64 ((wrap64 ((wrap64 ((l0_0.length : Int) + (l0_1.length : Int))) + (l1_0.length : Int))) + (l1_1.length : Int))) > 200 then (some t346) else (if t346 = true then ((spt_Same.f k l0_0 l0_1 l1_0 l1_1).bind fun t347 => ((stolonref13_Same.f k l0_0 l0_1 l1_0 l1_1).bind fun t348 => (if (t347 == t348) = true then ((spt_Same.f k l0_0 l0_1 l0_0 l0_1).bind fun t349 => (some t349)) else (some false)))) else (some false)))
theorem stolonlaw13_SptSame.mono : ∀ a0 a1 a2 a3 k, LeO (stolonlaw13_SptSame.f k a0 a1 a2 a3) (stolonlaw13_SptSame.f (k + 1) a0 a1 a2 a3) := by
 intro a0 a1 a2 a3 k
 unfold stolonlaw13_SptSame.f
 repeat' first
   | (with_reducible exact spt_Same.mono _ _ _ _ _)
   | (with_reducible exact stolonlaw13_shown.mono _)
   | (with_reducible exact stolonref13_Same.mono _ _ _ _ _)
   | (with_reducible exact LeO.refl _)
   | (with_reducible exact LeO.none _)
   | (with_reducible refine LeO.ite ?_ ?_)
   | (with_reducible refine LeO.bind ?_ (fun _ => ?_))
   | exact spt_Same.mono _ _ _ _ _
   | exact stolonlaw13_shown.mono _
   | exact stolonref13_Same.mono _ _ _ _ _
   | exact LeO.none _
   | refine LeO.ite ?_ ?_
   | refine LeO.bind ?_ (fun _ => ?_)
def stolonlaw13_SptSame.T4 : Bool × List (List Nat × List Nat) := (true, [([], []), ([0], [0]), ([1], [1]), ([1], [1]), ([2, 3, 1, 1], [1, 2, 3]), ([1], [1]), ([1], [1]), ([5, 6, 4, 1], [1, 5, 6]), ([4, 7, 1], [1, 4, 7]), ([1, 8], [1, 8]), ([9, 7], [9]), ([10], [10]), ([10], [10]), ([11, 12, 10, 10], [10, 11, 12]), ([10, 13], [10, 13]), ([14, 13, 0, 1, 2, 3, 4, 5, 6, 7, 8, 9, 10, 11, 12, 13, 14], [14])])
def stolonlaw13_SptSame.B4 : List Nat := [0, 1, 3, 3, 15, 3, 3, 127, 255, 511, 1023, 2047, 2047, 8191, 16383, 32767]
theorem stolonlaw13_SptSame.tab4 : rtab .any (opsOf Try.f6 4) = stolonlaw13_SptSame.T4 := by kernel_rfl
theorem stolonlaw13_SptSame.bits4 : waitsOk stolonlaw13_SptSame.T4.2 stolonlaw13_SptSame.B4 = true := by kernel_rfl
set_option maxHeartbeats 8000000 in
set_option maxRecDepth 100000 in
theorem stolonlaw13_SptSame.calls (k : Nat) (A0_0 : Option Addr) (c0_0 : Nat) (l0_0 : List Int) (A0_1 : Option Addr) (c0_1 : Nat) (l0_1 : List Int) (A1_0 : Option Addr) (c1_0 : Nat) (l1_0 : List Int) (A1_1 : Option Addr) (c1_1 : Nat) (l1_1 : List Int) (r : Bool) (w : World) (hr0_0 : Kd.C (Kd.int .i64) w A0_0 l0_0.length l0_0) (hc0_0 : l0_0.length ≤ c0_0) (hr0_1 : Kd.C (Kd.int .i64) w A0_1 l0_1.length l0_1) (hc0_1 : l0_1.length ≤ c0_1) (hr1_0 : Kd.C (Kd.int .i64) w A1_0 l1_0.length l1_0) (hc1_0 : l1_0.length ≤ c1_0) (hr1_1 : Kd.C (Kd.int .i64) w A1_1 l1_1.length l1_1) (hc1_1 : l1_1.length ≤ c1_1) (hTrue : Aside0 (r = true)) (h : stolonlaw13_SptSame.f k l0_0 l0_1 l1_0 l1_1 = some r) :
  Calls Try.prog 6 #[.agg #[.slice A0_0 l0_0.length c0_0, .slice A0_1 l0_1.length c0_1], .agg #[.slice A1_0 l1_0.length c1_0, .slice A1_1 l1_1.length c1_1]] w fun e w' => e = .returned (.bool r) ∧ Below w.heap.size w w' := by
 have hu29 := Try.underlying29
 have HR0_0 := m_ hr0_0
 have HC0_0 := m_ hc0_0
 clear hr0_0 hc0_0
 have HR0_1 := m_ hr0_1
 have HC0_1 := m_ hc0_1
 clear hr0_1 hc0_1
 have HR1_0 := m_ hr1_0
 have HC1_0 := m_ hc1_0
 clear hr1_0 hc1_0
 have HR1_1 := m_ hr1_1
 have HC1_1 := m_ hc1_1
 clear hr1_1 hc1_1
 have HB := m_ (Below.refl w.heap.size w)
 have H : ((stolonlaw13_shown.f k).bind fun t346 => (if (wrap64 ((wrap64 ((wrap64 ((l0_0.length : Int) + (l0_1.length : Int))) + (l1_0.length : Int))) + (l1_1.length : Int))) > 200 then (some t346) else (if t346 = true then ((spt_Same.f k l0_0 l0_1 l1_0 l1_1).bind fun t347 => ((stolonref13_Same.f k l0_0 l0_1 l1_0 l1_1).bind fun t348 => (if (t347 == t348) = true then ((spt_Same.f k l0_0 l0_1 l0_0 l0_1).bind fun t349 => (some t349)) else (some false)))) else (some false)))) = some r := h
 clear h
 replace H := Option.bind_eq_some_iff.mp H
 obtain ⟨t346, A30, H⟩ := H
 replace H : (if (wrap64 ((wrap64 ((wrap64 ((l0_0.length : Int) + (l0_1.length : Int))) + (l1_0.length : Int))) + (l1_1.length : Int))) > 200 then (some t346) else (if t346 = true then ((spt_Same.f k l0_0 l0_1 l1_0 l1_1).bind fun t347 => ((stolonref13_Same.f k l0_0 l0_1 l1_0 l1_1).bind fun t348 => (if (t347 == t348) = true then ((spt_Same.f k l0_0 l0_1 l0_0 l0_1).bind fun t349 => (some t349)) else (some false)))) else (some false))) = some r := H
 have A3 := m_ A30
 clear A30
 by_cases c4 : (wrap64 ((wrap64 ((wrap64 ((l0_0.length : Int) + (l0_1.length : Int))) + (l1_0.length : Int))) + (l1_1.length : Int))) > 200
 ·rw [if_pos c4] at H
  have c4b0 : decide (200 < (wrap64 ((wrap64 ((wrap64 ((l0_0.length : Int) + (l0_1.length : Int))) + (l1_0.length : Int))) + (l1_1.length : Int)))) = true := decide_eq_true c4
  clear c4
  obtain rfl := Option.some.inj H
  go_enter Try.func6, Try.ntmps6
  go_wp2_with (first | ((with_reducible refine gate_dst (N := 2) rfl ?_); refine bx_ 2 29 #[.slice A0_0 l0_0.length c0_0, .slice A0_1 l0_1.length c0_1] ?_; intro gb344 hg w5 hbox hb; have BK344 := m_ (hbox); have GW344 := m_ ((gw_ : w.heap.size ≤ gb344)); have GE344 := m_ ((gw_ : w.heap.size ≤ gb344)); replace HB := m_ (below_step bz_ hb); clear hb hbox hg) | ((with_reducible refine gate_dst (N := 3) rfl ?_); refine bx_ 3 29 #[.slice A1_0 l1_0.length c1_0, .slice A1_1 l1_1.length c1_1] ?_; intro gb345 hg w6 hbox hb; have BK345 := m_ (hbox); have GW345 := m_ ((gw_ : w.heap.size ≤ gb345)); have GE345 := m_ ((gw_ : w.heap.size ≤ gb345)); have NB344_345 := m_ ((gl_ : gb344 ≠ gb345)); have NB345_344 := m_ ((gr_ : gb345 ≠ gb344)); replace BK344 := m_ (kl_ gb344 hb); replace HB := m_ (below_step bz_ hb); clear hb hbox hg) | ((with_reducible refine gate_callee (f := 10) rfl ?_); refine gL_ (some 6) Try.func10 #[] ?_; (with_reducible refine (stolonlaw13_shown.calls k  t346 _ A3.out).mono ?_); rintro e w7 ⟨rfl, hb⟩; refine ⟨_, rfl, ?_⟩; replace BK344 := m_ (kl_ gb344 hb); replace BK345 := m_ (kl_ gb345 hb); replace HB := m_ (below_step bz_ hb); (try clear hb); (try clear hb2); (try clear hk); (try clear hi); have hnb8 := NB344_345.out; have hnc8 := NB345_344.out; have hcz9 := cz2_ BK344.out; have hcz10 := cz2_ BK345.out))
  go_ret
  exact ⟨ew_, bz_⟩
 ·rw [if_neg c4] at H
  have c4b0 : decide (200 < (wrap64 ((wrap64 ((wrap64 ((l0_0.length : Int) + (l0_1.length : Int))) + (l1_0.length : Int))) + (l1_1.length : Int)))) = false := decide_eq_false c4
  clear c4
  by_cases c11 : t346 = true
  ·subst c11
   have H1 : ((spt_Same.f k l0_0 l0_1 l1_0 l1_1).bind fun t347 => ((stolonref13_Same.f k l0_0 l0_1 l1_0 l1_1).bind fun t348 => (if (t347 == t348) = true then ((spt_Same.f k l0_0 l0_1 l0_0 l0_1).bind fun t349 => (some t349)) else (some false)))) = some r := by rw [if_pos rfl] at H; exact H
   clear H
   have H := H1
   clear H1
   replace H := Option.bind_eq_some_iff.mp H
   obtain ⟨t347, A120, H⟩ := H
   replace H : ((stolonref13_Same.f k l0_0 l0_1 l1_0 l1_1).bind fun t348 => (if (t347 == t348) = true then ((spt_Same.f k l0_0 l0_1 l0_0 l0_1).bind fun t349 => (some t349)) else (some false))) = some r := H
   have A12 := m_ A120
   clear A120
   replace H := Option.bind_eq_some_iff.mp H
   obtain ⟨t348, A130, H⟩ := H
   replace H : (if (t347 == t348) = true then ((spt_Same.f k l0_0 l0_1 l0_0 l0_1).bind fun t349 => (some t349)) else (some false)) = some r := H
   have A13 := m_ A130
   clear A130
   by_cases c14 : (t347 == t348) = true
   ·rw [if_pos c14] at H
    have c14b0 : (t347 == t348) = true := c14
    (try (have c14b1 : decide (t347 = t348) = true := by simpa using c14))
    (try (have c14b2 : (t347 == t348) = true := by simpa using c14))
    clear c14
    replace H := Option.bind_eq_some_iff.mp H
    obtain ⟨t349, A150, H⟩ := H
    replace H : (some t349) = some r := H
    have A15 := m_ A150
    clear A150
    obtain rfl := Option.some.inj H
    go_enter Try.func6, Try.ntmps6
    try go_wp2_with (first | ((with_reducible refine gate_dst (N := 2) rfl ?_); refine bx_ 2 29 #[.slice A0_0 l0_0.length c0_0, .slice A0_1 l0_1.length c0_1] ?_; intro gb344 hg w16 hbox hb; have BK344 := m_ (hbox); have GW344 := m_ ((gw_ : w.heap.size ≤ gb344)); have GE344 := m_ ((gw_ : w.heap.size ≤ gb344)); replace HB := m_ (below_step bz_ hb); clear hb hbox hg) | ((with_reducible refine gate_dst (N := 3) rfl ?_); refine bx_ 3 29 #[.slice A1_0 l1_0.length c1_0, .slice A1_1 l1_1.length c1_1] ?_; intro gb345 hg w17 hbox hb; have BK345 := m_ (hbox); have GW345 := m_ ((gw_ : w.heap.size ≤ gb345)); have GE345 := m_ ((gw_ : w.heap.size ≤ gb345)); have NB344_345 := m_ ((gl_ : gb344 ≠ gb345)); have NB345_344 := m_ ((gr_ : gb345 ≠ gb344)); replace BK344 := m_ (kl_ gb344 hb); replace HB := m_ (below_step bz_ hb); clear hb hbox hg) | ((with_reducible refine gate_callee (f := 10) rfl ?_); refine gL_ (some 6) Try.func10 #[] ?_; (with_reducible refine (stolonlaw13_shown.calls k  true _ A3.out).mono ?_); rintro e w18 ⟨rfl, hb⟩; refine ⟨_, rfl, ?_⟩; replace BK344 := m_ (kl_ gb344 hb); replace BK345 := m_ (kl_ gb345 hb); replace HB := m_ (below_step bz_ hb); (try clear hb); (try clear hb2); (try clear hk); (try clear hi); have hnb19 := NB344_345.out; have hnc19 := NB345_344.out; have hcz20 := cz2_ BK344.out; have hcz21 := cz2_ BK345.out))
    replace BK344 := m_ (blk_drew BK344.out)
    replace BK345 := m_ (blk_drew BK345.out)
    replace HB := m_ (below_drew1 HB.out)
    refine start_ (n := 16) (S := fun w' => w'.cell? ⟨gb344, 0, none⟩ = some (.slice A0_0 l0_0.length c0_0) ∧ w'.cell? ⟨gb344, 1, none⟩ = some (.slice A0_1 l0_1.length c0_1) ∧ w'.cell? ⟨gb345, 0, none⟩ = some (.slice A1_0 l1_0.length c1_0) ∧ w'.cell? ⟨gb345, 1, none⟩ = some (.slice A1_1 l1_1.length c1_1)) (ds := []) (bs_ 16 0) (by kernel_rfl) rfl rfl ⟨(blk_cell BK344.out 0).trans rfl, (blk_cell BK344.out 1).trans rfl, (blk_cell BK345.out 0).trans rfl, (blk_cell BK345.out 1).trans rfl⟩ (fun hHeld => ?_); refine with_tabW stolonlaw13_SptSame.tab4 stolonlaw13_SptSame.bits4 (fun HT_ HW_ => ?_)
    generalize w18.drew = w22 at BK344 BK345 HB hHeld ⊢
    refine pz_ 0 24 ?_
    refine pz_ 1 25 ?_
    refine tz_ 2 26 ?_
    refine tz_ 3 27 ?_
    refine tz_ 5 29 ?_
    refine tz_ 6 30 ?_
    refine oz_ 4 (some 28) (fun K hK => ?_)
    refine gz_ Try.func14 #[.agg #[.slice A0_0 l0_0.length c0_0, .slice A0_1 l0_1.length c0_1], .agg #[.slice A1_0 l1_0.length c1_0, .slice A1_1 l1_1.length c1_1]] ?_
    with_reducible refine (spt_Same.calls k _ _ l0_0 _ _ l0_1 _ _ l1_0 _ _ l1_1 t347 _ ?side1 ?side2 ?side3 ?side4 ?side5 ?side6 ?side7 ?side8 A12.out).mono ?_
    (case side1 => exact Cd_ (Kd.C_below HR0_0.out HB.out))
    (case side2 => exact HC0_0.out)
    (case side3 => exact Cd_ (Kd.C_below HR0_1.out HB.out))
    (case side4 => exact HC0_1.out)
    (case side5 => exact Cd_ (Kd.C_below HR1_0.out HB.out))
    (case side6 => exact HC1_0.out)
    (case side7 => exact Cd_ (Kd.C_below HR1_1.out HB.out))
    (case side8 => exact HC1_1.out)
    rintro e w23 ⟨rfl, hb⟩
    refine ⟨_, rfl, ?_⟩
    replace BK344 := m_ (kl_ gb344 hb)
    replace BK345 := m_ (kl_ gb345 hb)
    replace HB := m_ (below_step bz_ hb)
    (try clear hb)
    (try clear hb2)
    (try clear hk)
    (try clear hi)
    refine hK.out _ _ ⟨(blk_cell BK344.out 0).trans rfl, (blk_cell BK344.out 1).trans rfl, (blk_cell BK345.out 0).trans rfl, (blk_cell BK345.out 1).trans rfl⟩ (fun hHeld => ?_)
    clear hK K
    refine nz_ (some 28) ?_
    refine oz_ 7 (some 31) (fun K hK => ?_)
    refine gz_ Try.func15 #[.agg #[.slice A0_0 l0_0.length c0_0, .slice A0_1 l0_1.length c0_1], .agg #[.slice A1_0 l1_0.length c1_0, .slice A1_1 l1_1.length c1_1]] ?_
    with_reducible refine (stolonref13_Same.calls k _ _ l0_0 _ _ l0_1 _ _ l1_0 _ _ l1_1 t348 _ ?side1 ?side2 ?side3 ?side4 ?side5 ?side6 ?side7 ?side8 A13.out).mono ?_
    (case side1 => exact Cd_ (Kd.C_below HR0_0.out HB.out))
    (case side2 => exact HC0_0.out)
    (case side3 => exact Cd_ (Kd.C_below HR0_1.out HB.out))
    (case side4 => exact HC0_1.out)
    (case side5 => exact Cd_ (Kd.C_below HR1_0.out HB.out))
    (case side6 => exact HC1_0.out)
    (case side7 => exact Cd_ (Kd.C_below HR1_1.out HB.out))
    (case side8 => exact HC1_1.out)
    rintro e w24 ⟨rfl, hb⟩
    refine ⟨_, rfl, ?_⟩
    replace BK344 := m_ (kl_ gb344 hb)
    replace BK345 := m_ (kl_ gb345 hb)
    replace HB := m_ (below_step bz_ hb)
    (try clear hb)
    (try clear hb2)
    (try clear hk)
    (try clear hi)
    refine hK.out _ _ ⟨(blk_cell BK344.out 0).trans rfl, (blk_cell BK344.out 1).trans rfl, (blk_cell BK345.out 0).trans rfl, (blk_cell BK345.out 1).trans rfl⟩ (fun hHeld => ?_)
    clear hK K
    refine nz_ (some 31) ?_
    refine pz_ 8 32 ?_
    refine pz_ 9 33 ?_
    refine pz_ 10 34 ?_
    refine tz_ 11 35 ?_
    refine tz_ 12 36 ?_
    refine oz_ 13 (some 37) (fun K hK => ?_)
    refine gz_ Try.func14 #[.agg #[.slice A0_0 l0_0.length c0_0, .slice A0_1 l0_1.length c0_1], .agg #[.slice A0_0 l0_0.length c0_0, .slice A0_1 l0_1.length c0_1]] ?_
    with_reducible refine (spt_Same.calls k _ _ l0_0 _ _ l0_1 _ _ l0_0 _ _ l0_1 t349 _ ?side1 ?side2 ?side3 ?side4 ?side5 ?side6 ?side7 ?side8 A15.out).mono ?_
    (case side1 => exact Cd_ (Kd.C_below HR0_0.out HB.out))
    (case side2 => exact HC0_0.out)
    (case side3 => exact Cd_ (Kd.C_below HR0_1.out HB.out))
    (case side4 => exact HC0_1.out)
    (case side5 => exact Cd_ (Kd.C_below HR0_0.out HB.out))
    (case side6 => exact HC0_0.out)
    (case side7 => exact Cd_ (Kd.C_below HR0_1.out HB.out))
    (case side8 => exact HC0_1.out)
    rintro e w25 ⟨rfl, hb⟩
    refine ⟨_, rfl, ?_⟩
    replace BK344 := m_ (kl_ gb344 hb)
    replace BK345 := m_ (kl_ gb345 hb)
    replace HB := m_ (below_step bz_ hb)
    (try clear hb)
    (try clear hb2)
    (try clear hk)
    (try clear hi)
    refine hK.out _ _ ⟨(blk_cell BK344.out 0).trans rfl, (blk_cell BK344.out 1).trans rfl, (blk_cell BK345.out 0).trans rfl, (blk_cell BK345.out 1).trans rfl⟩ (fun hHeld => ?_)
    clear hK K
    refine nz_ (some 37) ?_
    refine pz_ 14 38 ?_
    refine pz_ 15 4 ?_
    refine dz_ ?_
    try go_wp2
    go_ret
    exact ⟨ew_, bz_⟩
   ·rw [if_neg c14] at H
    have c14b0 : (t347 == t348) = false := by simpa using c14
    (try (have c14b1 : decide (t347 = t348) = false := by simpa using c14))
    (try (have c14b2 : (t347 == t348) = false := by simpa using c14))
    (try (have c14b3 : ¬ (t347 = t348) := by simpa using c14))
    clear c14
    exact absurd ((Option.some.inj H).trans hTrue.out) (by simp)
  ·replace c11 := Bool.eq_false_iff.mpr c11
   subst c11
   have H1 : (some false) = some r := by rw [if_neg (show ¬ (false = true) by decide)] at H; exact H
   clear H
   have H := H1
   clear H1
   exact absurd ((Option.some.inj H).trans hTrue.out) (by simp)

end Go.Proofs.Ytkcphjdjhlikhaa.P

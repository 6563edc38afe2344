/- For each Go function a Lean function, and the proof that a call comes to what it tells: made by program out of the translation (the kit's print, with texts by hand put in). No condition. -/
import Derived.Test.YtfomnmdjbdohgaaSq
import Derived.Test.YtfomnmdjbdohgaaPx0
import Derived.Test.YtfomnmdjbdohgaaPx2
import Derived.Test.YtfomnmdjbdohgaaPx5
import Derived.Test.YtfomnmdjbdohgaaPx8
namespace Go.Proofs.Ytfomnmdjbdohgaa.P
open Go.RowKit Go.Proofs.Ytfomnmdjbdohgaa.HRows Go.Proofs.YtfomnmdjbdohgaaW.PrintWords Go.Proofs.YtfomnmdjbdohgaaW.PrintLast Go.Proofs.YtfomnmdjbdohgaaW.PrintMore
attribute [local go_sem] max2_int min2_int max_two min_two max_three min_three max_four min_four
set_option linter.unusedVariables false
set_option linter.unusedSimpArgs false
attribute [local go_sem high] eqA85
def flow_Same.f (k : Nat) (a0_0 : Int) (a0_1 : Int) (a0_2 : Int) (a0_3 : Int) (a0_4 : Int) (l0_5 : List (S74)) (a1_0 : Int) (a1_1 : Int) (a1_2 : Int) (a1_3 : Int) (a1_4 : Int) (l1_5 : List (S74)) : Option (Bool) := (flow_of.f a0_0 a0_1 a0_2 a0_3 a0_4 l0_5).bind fun bt137 => ((flow_of.f a1_0 a1_1 a1_2 a1_3 a1_4 l1_5).bind fun bt140 => (if (bt137.1 == bt140.1 && (bt137.2.1 == bt140.2.1 && (bt137.2.2 == bt140.2.2))) = true then (if a0_3 = a1_3 then (if a0_4 = a1_4 then ((api_Out.f k l0_5 l1_5).bind fun t143 => (some t143)) else (some false)) else (some false)) else (some false)))
theorem flow_Same.mono : ∀ a0 a1 a2 a3 a4 a5 a6 a7 a8 a9 a10 a11 k, LeO (flow_Same.f k a0 a1 a2 a3 a4 a5 a6 a7 a8 a9 a10 a11) (flow_Same.f (k + 1) a0 a1 a2 a3 a4 a5 a6 a7 a8 a9 a10 a11) := by
 intro a0 a1 a2 a3 a4 a5 a6 a7 a8 a9 a10 a11 k
 unfold flow_Same.f
 repeat' first
   | (with_reducible exact api_Out.mono _ _ _)
   | (with_reducible exact LeO.refl _)
   | (with_reducible exact LeO.none _)
   | (with_reducible refine LeO.ite ?_ ?_)
   | (with_reducible refine LeO.bind ?_ (fun _ => ?_))
   | exact api_Out.mono _ _ _
   | exact LeO.none _
   | refine LeO.ite ?_ ?_
   | refine LeO.bind ?_ (fun _ => ?_)
def flow_Same.T1 : Bool × List (List Nat × List Nat) := (true, [([], []), ([0], [0]), ([], []), ([2, 1], [2]), ([1, 3], [1, 3]), ([4, 3], [4]), ([5], [5]), ([6, 5], [5, 6]), ([5], [5]), ([8, 5], [5, 8]), ([7, 9, 5], [5, 7, 9]), ([5, 10], [5, 10]), ([11, 5], [11]), ([12], [12]), ([13, 12], [12, 13]), ([12], [12]), ([15, 12], [12, 15]), ([14, 16, 12], [12, 14, 16]), ([12, 17], [12, 17]), ([18, 12], [18]), ([19], [19]), ([20, 19], [19, 20]), ([19], [19]), ([22, 19], [19, 22]), ([21, 23, 19, 19], [19, 21, 23]), ([19, 24], [19, 24]), ([25, 24, 0, 1, 2, 3, 4, 5, 6, 7, 8, 9, 10, 11, 12, 13, 14, 15, 16, 17, 18, 19, 20, 21, 22, 23, 24, 25], [25])])
def flow_Same.B1 : List Nat := [0, 1, 0, 7, 15, 31, 63, 127, 63, 319, 1023, 2047, 4095, 8191, 16383, 8191, 40959, 131071, 262143, 524287, 1048575, 2097151, 1048575, 5242879, 16777215, 33554431, 67108863]
theorem flow_Same.tab1 : rtab .any (opsOf Try.f63 1) = flow_Same.T1 := by kernel_rfl
theorem flow_Same.bits1 : waitsOk flow_Same.T1.2 flow_Same.B1 = true := by kernel_rfl
set_option maxHeartbeats 8000000 in
set_option maxRecDepth 100000 in
theorem flow_Same.calls (k : Nat) (a0_0 : Int) (a0_1 : Int) (a0_2 : Int) (a0_3 : Int) (a0_4 : Int) (A0_5 : Option Addr) (c0_5 : Nat) (l0_5 : List (S74)) (a1_0 : Int) (a1_1 : Int) (a1_2 : Int) (a1_3 : Int) (a1_4 : Int) (A1_5 : Option Addr) (c1_5 : Nat) (l1_5 : List (S74)) (r : Bool) (w : World) (hr0_5 : Kd.C k74 w A0_5 l0_5.length l0_5) (hc0_5 : l0_5.length ≤ c0_5) (hr1_5 : Kd.C k74 w A1_5 l1_5.length l1_5) (hc1_5 : l1_5.length ≤ c1_5) (h : flow_Same.f k a0_0 a0_1 a0_2 a0_3 a0_4 l0_5 a1_0 a1_1 a1_2 a1_3 a1_4 l1_5 = some r) :
  Calls Try.prog 63 #[.agg #[.int .u32 a0_0, .int .u32 a0_1, .int .u32 a0_2, .int .i64 a0_3, .int .u32 a0_4, .slice A0_5 l0_5.length c0_5], .agg #[.int .u32 a1_0, .int .u32 a1_1, .int .u32 a1_2, .int .i64 a1_3, .int .u32 a1_4, .slice A1_5 l1_5.length c1_5]] w fun e w' => e = .returned (.bool r) ∧ Below w.heap.size w w' := by
 have hu29 := Try.underlying29
 have HR0_5 := m_ hr0_5
 have HC0_5 := m_ hc0_5
 clear hr0_5 hc0_5
 have HR1_5 := m_ hr1_5
 have HC1_5 := m_ hc1_5
 clear hr1_5 hc1_5
 have HB := m_ (Below.refl w.heap.size w)
 have H : ((flow_of.f a0_0 a0_1 a0_2 a0_3 a0_4 l0_5).bind fun bt137 => ((flow_of.f a1_0 a1_1 a1_2 a1_3 a1_4 l1_5).bind fun bt140 => (if (bt137.1 == bt140.1 && (bt137.2.1 == bt140.2.1 && (bt137.2.2 == bt140.2.2))) = true then (if a0_3 = a1_3 then (if a0_4 = a1_4 then ((api_Out.f k l0_5 l1_5).bind fun t143 => (some t143)) else (some false)) else (some false)) else (some false)))) = some r := h
 clear h
 replace H := Option.bind_eq_some_iff.mp H
 obtain ⟨⟨t137, t138, t139⟩, A30, H⟩ := H
 replace H : ((flow_of.f a1_0 a1_1 a1_2 a1_3 a1_4 l1_5).bind fun bt140 => (if (t137 == bt140.1 && (t138 == bt140.2.1 && (t139 == bt140.2.2))) = true then (if a0_3 = a1_3 then (if a0_4 = a1_4 then ((api_Out.f k l0_5 l1_5).bind fun t143 => (some t143)) else (some false)) else (some false)) else (some false))) = some r := H
 have A3 := m_ A30
 clear A30
 replace H := Option.bind_eq_some_iff.mp H
 obtain ⟨⟨t140, t141, t142⟩, A40, H⟩ := H
 replace H : (if (t137 == t140 && (t138 == t141 && (t139 == t142))) = true then (if a0_3 = a1_3 then (if a0_4 = a1_4 then ((api_Out.f k l0_5 l1_5).bind fun t143 => (some t143)) else (some false)) else (some false)) else (some false)) = some r := H
 have A4 := m_ A40
 clear A40
 by_cases c5 : (t137 == t140 && (t138 == t141 && (t139 == t142))) = true
 ·rw [if_pos c5] at H
  have c5b0 : (t137 == t140 && (t138 == t141 && (t139 == t142))) = true := c5
  (try (have c5b1 : decide (t137 = t140 && (t138 == t141 && (t139 == t142))) = true := by simpa using c5))
  (try (have c5b2 : (t137 == t140 && (t138 == t141 && (t139 == t142))) = true := by simpa using c5))
  clear c5
  by_cases c6 : a0_3 = a1_3
  ·rw [if_pos c6] at H
   have c6b0 : (a0_3 == a1_3) = true := beq_iff_eq.mpr c6
   have c6b1 : (a0_3 != a1_3) = false := bne_eq_false_iff_eq.mpr c6
   clear c6
   by_cases c7 : a0_4 = a1_4
   ·rw [if_pos c7] at H
    have c7b0 : (a0_4 == a1_4) = true := beq_iff_eq.mpr c7
    have c7b1 : (a0_4 != a1_4) = false := bne_eq_false_iff_eq.mpr c7
    clear c7
    replace H := Option.bind_eq_some_iff.mp H
    obtain ⟨t143, A80, H⟩ := H
    replace H : (some t143) = some r := H
    have A8 := m_ A80
    clear A80
    obtain rfl := Option.some.inj H
    go_enter Try.func63, Try.ntmps63
    try go_wp2_with (first | ((with_reducible refine gate_dst (N := 2) rfl ?_); refine bx_ 2 29 #[.int .u32 a0_0, .int .u32 a0_1, .int .u32 a0_2, .int .i64 a0_3, .int .u32 a0_4, .slice A0_5 l0_5.length c0_5] ?_; intro gb135 hg w9 hbox hb; have BK135 := m_ (hbox); have GW135 := m_ ((gw_ : w.heap.size ≤ gb135)); have GE135 := m_ ((gw_ : w.heap.size ≤ gb135)); replace HB := m_ (below_step bz_ hb); clear hb hbox hg) | ((with_reducible refine gate_dst (N := 3) rfl ?_); refine bx_ 3 29 #[.int .u32 a1_0, .int .u32 a1_1, .int .u32 a1_2, .int .i64 a1_3, .int .u32 a1_4, .slice A1_5 l1_5.length c1_5] ?_; intro gb136 hg w10 hbox hb; have BK136 := m_ (hbox); have GW136 := m_ ((gw_ : w.heap.size ≤ gb136)); have GE136 := m_ ((gw_ : w.heap.size ≤ gb136)); have NB135_136 := m_ ((gl_ : gb135 ≠ gb136)); have NB136_135 := m_ ((gr_ : gb136 ≠ gb135)); replace BK135 := m_ (kl_ gb135 hb); replace HB := m_ (below_step bz_ hb); clear hb hbox hg))
    replace BK135 := m_ (blk_drew BK135.out)
    replace BK136 := m_ (blk_drew BK136.out)
    replace HB := m_ (below_drew1 HB.out)
    refine start_ (n := 27) (S := fun w' => w'.cell? ⟨gb135, 0, none⟩ = some (.int .u32 a0_0) ∧ w'.cell? ⟨gb135, 1, none⟩ = some (.int .u32 a0_1) ∧ w'.cell? ⟨gb135, 2, none⟩ = some (.int .u32 a0_2) ∧ w'.cell? ⟨gb135, 3, none⟩ = some (.int .i64 a0_3) ∧ w'.cell? ⟨gb135, 4, none⟩ = some (.int .u32 a0_4) ∧ w'.cell? ⟨gb135, 5, none⟩ = some (.slice A0_5 l0_5.length c0_5) ∧ w'.cell? ⟨gb136, 0, none⟩ = some (.int .u32 a1_0) ∧ w'.cell? ⟨gb136, 1, none⟩ = some (.int .u32 a1_1) ∧ w'.cell? ⟨gb136, 2, none⟩ = some (.int .u32 a1_2) ∧ w'.cell? ⟨gb136, 3, none⟩ = some (.int .i64 a1_3) ∧ w'.cell? ⟨gb136, 4, none⟩ = some (.int .u32 a1_4) ∧ w'.cell? ⟨gb136, 5, none⟩ = some (.slice A1_5 l1_5.length c1_5)) (ds := []) (bs_ 27 0) (by kernel_rfl) rfl rfl ⟨bc_ BK135.out 0, bc_ BK135.out 1, bc_ BK135.out 2, bc_ BK135.out 3, bc_ BK135.out 4, bc_ BK135.out 5, bc_ BK136.out 0, bc_ BK136.out 1, bc_ BK136.out 2, bc_ BK136.out 3, bc_ BK136.out 4, bc_ BK136.out 5⟩ (fun hHeld => ?_); refine with_tabW flow_Same.tab1 flow_Same.bits1 (fun HT_ HW_ => ?_)
    generalize w10.drew = w11 at BK135 BK136 HB hHeld ⊢
    refine tz_ 0 5 ?_
    refine tz_ 2 7 ?_
    refine oz_ 1 (some 6) (fun K hK => ?_)
    refine gz_ Try.func46 #[.agg #[.int .u32 a0_0, .int .u32 a0_1, .int .u32 a0_2, .int .i64 a0_3, .int .u32 a0_4, .slice A0_5 l0_5.length c0_5]] ?_
    with_reducible refine (flow_of.calls a0_0 a0_1 a0_2 a0_3 a0_4 _ _ l0_5 t137 t138 t139 _ ?side1 ?side2 A3.out).mono ?_
    (case side1 => exact Cd_ (Kd.C_below HR0_5.out HB.out))
    (case side2 => exact HC0_5.out)
    rintro e w12 ⟨rfl, hb⟩
    refine ⟨_, rfl, ?_⟩
    replace BK135 := m_ (kl_ gb135 hb)
    replace BK136 := m_ (kl_ gb136 hb)
    replace HB := m_ (below_step bz_ hb)
    (try clear hb)
    (try clear hb2)
    (try clear hk)
    (try clear hi)
    refine hK.out _ _ ⟨bc_ BK135.out 0, bc_ BK135.out 1, bc_ BK135.out 2, bc_ BK135.out 3, bc_ BK135.out 4, bc_ BK135.out 5, bc_ BK136.out 0, bc_ BK136.out 1, bc_ BK136.out 2, bc_ BK136.out 3, bc_ BK136.out 4, bc_ BK136.out 5⟩ (fun hHeld => ?_)
    clear hK K
    refine nz_ (some 6) ?_
    refine oz_ 3 (some 8) (fun K hK => ?_)
    refine gz_ Try.func46 #[.agg #[.int .u32 a1_0, .int .u32 a1_1, .int .u32 a1_2, .int .i64 a1_3, .int .u32 a1_4, .slice A1_5 l1_5.length c1_5]] ?_
    with_reducible refine (flow_of.calls a1_0 a1_1 a1_2 a1_3 a1_4 _ _ l1_5 t140 t141 t142 _ ?side1 ?side2 A4.out).mono ?_
    (case side1 => exact Cd_ (Kd.C_below HR1_5.out HB.out))
    (case side2 => exact HC1_5.out)
    rintro e w13 ⟨rfl, hb⟩
    refine ⟨_, rfl, ?_⟩
    replace BK135 := m_ (kl_ gb135 hb)
    replace BK136 := m_ (kl_ gb136 hb)
    replace HB := m_ (below_step bz_ hb)
    (try clear hb)
    (try clear hb2)
    (try clear hk)
    (try clear hi)
    refine hK.out _ _ ⟨bc_ BK135.out 0, bc_ BK135.out 1, bc_ BK135.out 2, bc_ BK135.out 3, bc_ BK135.out 4, bc_ BK135.out 5, bc_ BK136.out 0, bc_ BK136.out 1, bc_ BK136.out 2, bc_ BK136.out 3, bc_ BK136.out 4, bc_ BK136.out 5⟩ (fun hHeld => ?_)
    clear hK K
    refine nz_ (some 8) ?_
    refine pz_ 4 9 ?_
    refine pz_ 5 10 ?_
    refine pz_ 6 11 ?_
    refine pz_ 8 13 ?_
    refine tz_ 7 12 ?_
    refine tz_ 9 14 ?_
    refine pz_ 10 15 ?_
    refine pz_ 11 16 ?_
    refine pz_ 12 17 ?_
    refine pz_ 13 18 ?_
    refine pz_ 15 20 ?_
    refine tz_ 14 19 ?_
    refine tz_ 16 21 ?_
    refine pz_ 17 22 ?_
    refine pz_ 18 23 ?_
    refine pz_ 19 24 ?_
    refine pz_ 20 25 ?_
    refine pz_ 22 27 ?_
    refine tz_ 21 26 ?_
    refine tz_ 23 28 ?_
    refine oz_ 24 (some 29) (fun K hK => ?_)
    refine gz_ Try.func70 #[.slice A0_5 l0_5.length c0_5, .slice A1_5 l1_5.length c1_5] ?_
    with_reducible refine (api_Out.calls k _ _ l0_5 _ _ l1_5 t143 _ ?side1 ?side2 ?side3 ?side4 A8.out).mono ?_
    (case side1 => exact Cd_ (Kd.C_below HR0_5.out HB.out))
    (case side2 => exact HC0_5.out)
    (case side3 => exact Cd_ (Kd.C_below HR1_5.out HB.out))
    (case side4 => exact HC1_5.out)
    rintro e w' ⟨rfl, ⟨nd, rfl⟩⟩
    refine ⟨_, rfl, ?_⟩
    refine hK.out _ _ ⟨bc_ BK135.out 0, bc_ BK135.out 1, bc_ BK135.out 2, bc_ BK135.out 3, bc_ BK135.out 4, bc_ BK135.out 5, bc_ BK136.out 0, bc_ BK136.out 1, bc_ BK136.out 2, bc_ BK136.out 3, bc_ BK136.out 4, bc_ BK136.out 5⟩ (fun hHeld => ?_)
    clear hK K
    refine nz_ (some 29) ?_
    refine pz_ 25 30 ?_
    refine pz_ 26 4 ?_
    refine dz_ ?_
    try go_wp2
    go_ret
    exact ⟨ew_, bz_⟩
   ·rw [if_neg c7] at H
    have c7b0 : (a0_4 == a1_4) = false := beq_eq_false_iff_ne.mpr c7
    have c7b1 : (a0_4 != a1_4) = true := bne_iff_ne.mpr c7
    obtain rfl := Option.some.inj H
    go_enter Try.func63, Try.ntmps63
    try go_wp2_with (first | ((with_reducible refine gate_dst (N := 2) rfl ?_); refine bx_ 2 29 #[.int .u32 a0_0, .int .u32 a0_1, .int .u32 a0_2, .int .i64 a0_3, .int .u32 a0_4, .slice A0_5 l0_5.length c0_5] ?_; intro gb135 hg w14 hbox hb; have BK135 := m_ (hbox); have GW135 := m_ ((gw_ : w.heap.size ≤ gb135)); have GE135 := m_ ((gw_ : w.heap.size ≤ gb135)); replace HB := m_ (below_step bz_ hb); clear hb hbox hg) | ((with_reducible refine gate_dst (N := 3) rfl ?_); refine bx_ 3 29 #[.int .u32 a1_0, .int .u32 a1_1, .int .u32 a1_2, .int .i64 a1_3, .int .u32 a1_4, .slice A1_5 l1_5.length c1_5] ?_; intro gb136 hg w15 hbox hb; have BK136 := m_ (hbox); have GW136 := m_ ((gw_ : w.heap.size ≤ gb136)); have GE136 := m_ ((gw_ : w.heap.size ≤ gb136)); have NB135_136 := m_ ((gl_ : gb135 ≠ gb136)); have NB136_135 := m_ ((gr_ : gb136 ≠ gb135)); replace BK135 := m_ (kl_ gb135 hb); replace HB := m_ (below_step bz_ hb); clear hb hbox hg))
    replace BK135 := m_ (blk_drew BK135.out)
    replace BK136 := m_ (blk_drew BK136.out)
    replace HB := m_ (below_drew1 HB.out)
    refine start_ (n := 27) (S := fun w' => w'.cell? ⟨gb135, 0, none⟩ = some (.int .u32 a0_0) ∧ w'.cell? ⟨gb135, 1, none⟩ = some (.int .u32 a0_1) ∧ w'.cell? ⟨gb135, 2, none⟩ = some (.int .u32 a0_2) ∧ w'.cell? ⟨gb135, 3, none⟩ = some (.int .i64 a0_3) ∧ w'.cell? ⟨gb135, 4, none⟩ = some (.int .u32 a0_4) ∧ w'.cell? ⟨gb135, 5, none⟩ = some (.slice A0_5 l0_5.length c0_5) ∧ w'.cell? ⟨gb136, 0, none⟩ = some (.int .u32 a1_0) ∧ w'.cell? ⟨gb136, 1, none⟩ = some (.int .u32 a1_1) ∧ w'.cell? ⟨gb136, 2, none⟩ = some (.int .u32 a1_2) ∧ w'.cell? ⟨gb136, 3, none⟩ = some (.int .i64 a1_3) ∧ w'.cell? ⟨gb136, 4, none⟩ = some (.int .u32 a1_4) ∧ w'.cell? ⟨gb136, 5, none⟩ = some (.slice A1_5 l1_5.length c1_5)) (ds := []) (bs_ 27 0) (by kernel_rfl) rfl rfl ⟨bc_ BK135.out 0, bc_ BK135.out 1, bc_ BK135.out 2, bc_ BK135.out 3, bc_ BK135.out 4, bc_ BK135.out 5, bc_ BK136.out 0, bc_ BK136.out 1, bc_ BK136.out 2, bc_ BK136.out 3, bc_ BK136.out 4, bc_ BK136.out 5⟩ (fun hHeld => ?_); refine with_tabW flow_Same.tab1 flow_Same.bits1 (fun HT_ HW_ => ?_)
    generalize w15.drew = w16 at BK135 BK136 HB hHeld ⊢
    refine tz_ 0 5 ?_
    refine tz_ 2 7 ?_
    refine oz_ 1 (some 6) (fun K hK => ?_)
    refine gz_ Try.func46 #[.agg #[.int .u32 a0_0, .int .u32 a0_1, .int .u32 a0_2, .int .i64 a0_3, .int .u32 a0_4, .slice A0_5 l0_5.length c0_5]] ?_
    with_reducible refine (flow_of.calls a0_0 a0_1 a0_2 a0_3 a0_4 _ _ l0_5 t137 t138 t139 _ ?side1 ?side2 A3.out).mono ?_
    (case side1 => exact Cd_ (Kd.C_below HR0_5.out HB.out))
    (case side2 => exact HC0_5.out)
    rintro e w17 ⟨rfl, hb⟩
    refine ⟨_, rfl, ?_⟩
    replace BK135 := m_ (kl_ gb135 hb)
    replace BK136 := m_ (kl_ gb136 hb)
    replace HB := m_ (below_step bz_ hb)
    (try clear hb)
    (try clear hb2)
    (try clear hk)
    (try clear hi)
    refine hK.out _ _ ⟨bc_ BK135.out 0, bc_ BK135.out 1, bc_ BK135.out 2, bc_ BK135.out 3, bc_ BK135.out 4, bc_ BK135.out 5, bc_ BK136.out 0, bc_ BK136.out 1, bc_ BK136.out 2, bc_ BK136.out 3, bc_ BK136.out 4, bc_ BK136.out 5⟩ (fun hHeld => ?_)
    clear hK K
    refine nz_ (some 6) ?_
    refine oz_ 3 (some 8) (fun K hK => ?_)
    refine gz_ Try.func46 #[.agg #[.int .u32 a1_0, .int .u32 a1_1, .int .u32 a1_2, .int .i64 a1_3, .int .u32 a1_4, .slice A1_5 l1_5.length c1_5]] ?_
    with_reducible refine (flow_of.calls a1_0 a1_1 a1_2 a1_3 a1_4 _ _ l1_5 t140 t141 t142 _ ?side1 ?side2 A4.out).mono ?_
    (case side1 => exact Cd_ (Kd.C_below HR1_5.out HB.out))
    (case side2 => exact HC1_5.out)
    rintro e w18 ⟨rfl, hb⟩
    refine ⟨_, rfl, ?_⟩
    replace BK135 := m_ (kl_ gb135 hb)
    replace BK136 := m_ (kl_ gb136 hb)
    replace HB := m_ (below_step bz_ hb)
    (try clear hb)
    (try clear hb2)
    (try clear hk)
    (try clear hi)
    refine hK.out _ _ ⟨bc_ BK135.out 0, bc_ BK135.out 1, bc_ BK135.out 2, bc_ BK135.out 3, bc_ BK135.out 4, bc_ BK135.out 5, bc_ BK136.out 0, bc_ BK136.out 1, bc_ BK136.out 2, bc_ BK136.out 3, bc_ BK136.out 4, bc_ BK136.out 5⟩ (fun hHeld => ?_)
    clear hK K
    refine nz_ (some 8) ?_
    refine pz_ 4 9 ?_
    refine pz_ 5 10 ?_
    refine pz_ 6 11 ?_
    refine pz_ 8 13 ?_
    refine tz_ 7 12 ?_
    refine tz_ 9 14 ?_
    refine pz_ 10 15 ?_
    refine pz_ 11 16 ?_
    refine pz_ 12 17 ?_
    refine pz_ 13 18 ?_
    refine pz_ 15 20 ?_
    refine tz_ 14 19 ?_
    refine tz_ 16 21 ?_
    refine pz_ 17 22 ?_
    refine pz_ 18 23 ?_
    refine pz_ 19 24 ?_
    refine pz_ 20 25 ?_
    refine pz_ 21 26 ?_
    refine pz_ 22 27 ?_
    refine pz_ 23 28 ?_
    refine pz_ 24 29 ?_
    refine pz_ 25 30 ?_
    refine pz_ 26 4 ?_
    refine dz_ ?_
    try go_wp2
    go_ret
    exact ⟨ew_, bz_⟩
  ·rw [if_neg c6] at H
   have c6b0 : (a0_3 == a1_3) = false := beq_eq_false_iff_ne.mpr c6
   have c6b1 : (a0_3 != a1_3) = true := bne_iff_ne.mpr c6
   obtain rfl := Option.some.inj H
   go_enter Try.func63, Try.ntmps63
   try go_wp2_with (first | ((with_reducible refine gate_dst (N := 2) rfl ?_); refine bx_ 2 29 #[.int .u32 a0_0, .int .u32 a0_1, .int .u32 a0_2, .int .i64 a0_3, .int .u32 a0_4, .slice A0_5 l0_5.length c0_5] ?_; intro gb135 hg w19 hbox hb; have BK135 := m_ (hbox); have GW135 := m_ ((gw_ : w.heap.size ≤ gb135)); have GE135 := m_ ((gw_ : w.heap.size ≤ gb135)); replace HB := m_ (below_step bz_ hb); clear hb hbox hg) | ((with_reducible refine gate_dst (N := 3) rfl ?_); refine bx_ 3 29 #[.int .u32 a1_0, .int .u32 a1_1, .int .u32 a1_2, .int .i64 a1_3, .int .u32 a1_4, .slice A1_5 l1_5.length c1_5] ?_; intro gb136 hg w20 hbox hb; have BK136 := m_ (hbox); have GW136 := m_ ((gw_ : w.heap.size ≤ gb136)); have GE136 := m_ ((gw_ : w.heap.size ≤ gb136)); have NB135_136 := m_ ((gl_ : gb135 ≠ gb136)); have NB136_135 := m_ ((gr_ : gb136 ≠ gb135)); replace BK135 := m_ (kl_ gb135 hb); replace HB := m_ (below_step bz_ hb); clear hb hbox hg))
   replace BK135 := m_ (blk_drew BK135.out)
   replace BK136 := m_ (blk_drew BK136.out)
   replace HB := m_ (below_drew1 HB.out)
   refine start_ (n := 27) (S := fun w' => w'.cell? ⟨gb135, 0, none⟩ = some (.int .u32 a0_0) ∧ w'.cell? ⟨gb135, 1, none⟩ = some (.int .u32 a0_1) ∧ w'.cell? ⟨gb135, 2, none⟩ = some (.int .u32 a0_2) ∧ w'.cell? ⟨gb135, 3, none⟩ = some (.int .i64 a0_3) ∧ w'.cell? ⟨gb135, 4, none⟩ = some (.int .u32 a0_4) ∧ w'.cell? ⟨gb135, 5, none⟩ = some (.slice A0_5 l0_5.length c0_5) ∧ w'.cell? ⟨gb136, 0, none⟩ = some (.int .u32 a1_0) ∧ w'.cell? ⟨gb136, 1, none⟩ = some (.int .u32 a1_1) ∧ w'.cell? ⟨gb136, 2, none⟩ = some (.int .u32 a1_2) ∧ w'.cell? ⟨gb136, 3, none⟩ = some (.int .i64 a1_3) ∧ w'.cell? ⟨gb136, 4, none⟩ = some (.int .u32 a1_4) ∧ w'.cell? ⟨gb136, 5, none⟩ = some (.slice A1_5 l1_5.length c1_5)) (ds := []) (bs_ 27 0) (by kernel_rfl) rfl rfl ⟨bc_ BK135.out 0, bc_ BK135.out 1, bc_ BK135.out 2, bc_ BK135.out 3, bc_ BK135.out 4, bc_ BK135.out 5, bc_ BK136.out 0, bc_ BK136.out 1, bc_ BK136.out 2, bc_ BK136.out 3, bc_ BK136.out 4, bc_ BK136.out 5⟩ (fun hHeld => ?_); refine with_tabW flow_Same.tab1 flow_Same.bits1 (fun HT_ HW_ => ?_)
   generalize w20.drew = w21 at BK135 BK136 HB hHeld ⊢
   refine tz_ 0 5 ?_
   refine tz_ 2 7 ?_
   refine oz_ 1 (some 6) (fun K hK => ?_)
   refine gz_ Try.func46 #[.agg #[.int .u32 a0_0, .int .u32 a0_1, .int .u32 a0_2, .int .i64 a0_3, .int .u32 a0_4, .slice A0_5 l0_5.length c0_5]] ?_
   with_reducible refine (flow_of.calls a0_0 a0_1 a0_2 a0_3 a0_4 _ _ l0_5 t137 t138 t139 _ ?side1 ?side2 A3.out).mono ?_
   (case side1 => exact Cd_ (Kd.C_below HR0_5.out HB.out))
   (case side2 => exact HC0_5.out)
   rintro e w22 ⟨rfl, hb⟩
   refine ⟨_, rfl, ?_⟩
   replace BK135 := m_ (kl_ gb135 hb)
   replace BK136 := m_ (kl_ gb136 hb)
   replace HB := m_ (below_step bz_ hb)
   (try clear hb)
   (try clear hb2)
   (try clear hk)
   (try clear hi)
   refine hK.out _ _ ⟨bc_ BK135.out 0, bc_ BK135.out 1, bc_ BK135.out 2, bc_ BK135.out 3, bc_ BK135.out 4, bc_ BK135.out 5, bc_ BK136.out 0, bc_ BK136.out 1, bc_ BK136.out 2, bc_ BK136.out 3, bc_ BK136.out 4, bc_ BK136.out 5⟩ (fun hHeld => ?_)
   clear hK K
   refine nz_ (some 6) ?_
   refine oz_ 3 (some 8) (fun K hK => ?_)
   refine gz_ Try.func46 #[.agg #[.int .u32 a1_0, .int .u32 a1_1, .int .u32 a1_2, .int .i64 a1_3, .int .u32 a1_4, .slice A1_5 l1_5.length c1_5]] ?_
   with_reducible refine (flow_of.calls a1_0 a1_1 a1_2 a1_3 a1_4 _ _ l1_5 t140 t141 t142 _ ?side1 ?side2 A4.out).mono ?_
   (case side1 => exact Cd_ (Kd.C_below HR1_5.out HB.out))
   (case side2 => exact HC1_5.out)
   rintro e w23 ⟨rfl, hb⟩
   refine ⟨_, rfl, ?_⟩
   replace BK135 := m_ (kl_ gb135 hb)
   replace BK136 := m_ (kl_ gb136 hb)
   replace HB := m_ (below_step bz_ hb)
   (try clear hb)
   (try clear hb2)
   (try clear hk)
   (try clear hi)
   refine hK.out _ _ ⟨bc_ BK135.out 0, bc_ BK135.out 1, bc_ BK135.out 2, bc_ BK135.out 3, bc_ BK135.out 4, bc_ BK135.out 5, bc_ BK136.out 0, bc_ BK136.out 1, bc_ BK136.out 2, bc_ BK136.out 3, bc_ BK136.out 4, bc_ BK136.out 5⟩ (fun hHeld => ?_)
   clear hK K
   refine nz_ (some 8) ?_
   refine pz_ 4 9 ?_
   refine pz_ 5 10 ?_
   refine pz_ 6 11 ?_
   refine pz_ 8 13 ?_
   refine tz_ 7 12 ?_
   refine tz_ 9 14 ?_
   refine pz_ 10 15 ?_
   refine pz_ 11 16 ?_
   refine pz_ 12 17 ?_
   refine pz_ 13 18 ?_
   refine pz_ 14 19 ?_
   refine pz_ 15 20 ?_
   refine pz_ 16 21 ?_
   refine pz_ 17 22 ?_
   refine pz_ 18 23 ?_
   refine pz_ 19 24 ?_
   refine pz_ 20 25 ?_
   refine pz_ 21 26 ?_
   refine pz_ 22 27 ?_
   refine pz_ 23 28 ?_
   refine pz_ 24 29 ?_
   refine pz_ 25 30 ?_
   refine pz_ 26 4 ?_
   refine dz_ ?_
   try go_wp2
   go_ret
   exact ⟨ew_, bz_⟩
 ·rw [if_neg c5] at H
  have c5b0 : (t137 == t140 && (t138 == t141 && (t139 == t142))) = false := by simpa using c5
  (try (have c5b1 : decide (t137 = t140 && (t138 == t141 && (t139 == t142))) = false := by simpa using c5))
  (try (have c5b2 : (t137 == t140 && (t138 == t141 && (t139 == t142))) = false := by simpa using c5))
  (try (have c5b3 : ¬ (t137 = t140 && (t138 == t141 && (t139 == t142))) := by simpa using c5))
  clear c5
  obtain rfl := Option.some.inj H
  go_enter Try.func63, Try.ntmps63
  try go_wp2_with (first | ((with_reducible refine gate_dst (N := 2) rfl ?_); refine bx_ 2 29 #[.int .u32 a0_0, .int .u32 a0_1, .int .u32 a0_2, .int .i64 a0_3, .int .u32 a0_4, .slice A0_5 l0_5.length c0_5] ?_; intro gb135 hg w24 hbox hb; have BK135 := m_ (hbox); have GW135 := m_ ((gw_ : w.heap.size ≤ gb135)); have GE135 := m_ ((gw_ : w.heap.size ≤ gb135)); replace HB := m_ (below_step bz_ hb); clear hb hbox hg) | ((with_reducible refine gate_dst (N := 3) rfl ?_); refine bx_ 3 29 #[.int .u32 a1_0, .int .u32 a1_1, .int .u32 a1_2, .int .i64 a1_3, .int .u32 a1_4, .slice A1_5 l1_5.length c1_5] ?_; intro gb136 hg w25 hbox hb; have BK136 := m_ (hbox); have GW136 := m_ ((gw_ : w.heap.size ≤ gb136)); have GE136 := m_ ((gw_ : w.heap.size ≤ gb136)); have NB135_136 := m_ ((gl_ : gb135 ≠ gb136)); have NB136_135 := m_ ((gr_ : gb136 ≠ gb135)); replace BK135 := m_ (kl_ gb135 hb); replace HB := m_ (below_step bz_ hb); clear hb hbox hg))
  replace BK135 := m_ (blk_drew BK135.out)
  replace BK136 := m_ (blk_drew BK136.out)
  replace HB := m_ (below_drew1 HB.out)
  refine start_ (n := 27) (S := fun w' => w'.cell? ⟨gb135, 0, none⟩ = some (.int .u32 a0_0) ∧ w'.cell? ⟨gb135, 1, none⟩ = some (.int .u32 a0_1) ∧ w'.cell? ⟨gb135, 2, none⟩ = some (.int .u32 a0_2) ∧ w'.cell? ⟨gb135, 3, none⟩ = some (.int .i64 a0_3) ∧ w'.cell? ⟨gb135, 4, none⟩ = some (.int .u32 a0_4) ∧ w'.cell? ⟨gb135, 5, none⟩ = some (.slice A0_5 l0_5.length c0_5) ∧ w'.cell? ⟨gb136, 0, none⟩ = some (.int .u32 a1_0) ∧ w'.cell? ⟨gb136, 1, none⟩ = some (.int .u32 a1_1) ∧ w'.cell? ⟨gb136, 2, none⟩ = some (.int .u32 a1_2) ∧ w'.cell? ⟨gb136, 3, none⟩ = some (.int .i64 a1_3) ∧ w'.cell? ⟨gb136, 4, none⟩ = some (.int .u32 a1_4) ∧ w'.cell? ⟨gb136, 5, none⟩ = some (.slice A1_5 l1_5.length c1_5)) (ds := []) (bs_ 27 0) (by kernel_rfl) rfl rfl ⟨bc_ BK135.out 0, bc_ BK135.out 1, bc_ BK135.out 2, bc_ BK135.out 3, bc_ BK135.out 4, bc_ BK135.out 5, bc_ BK136.out 0, bc_ BK136.out 1, bc_ BK136.out 2, bc_ BK136.out 3, bc_ BK136.out 4, bc_ BK136.out 5⟩ (fun hHeld => ?_); refine with_tabW flow_Same.tab1 flow_Same.bits1 (fun HT_ HW_ => ?_)
  generalize w25.drew = w26 at BK135 BK136 HB hHeld ⊢
  refine tz_ 0 5 ?_
  refine tz_ 2 7 ?_
  refine oz_ 1 (some 6) (fun K hK => ?_)
  refine gz_ Try.func46 #[.agg #[.int .u32 a0_0, .int .u32 a0_1, .int .u32 a0_2, .int .i64 a0_3, .int .u32 a0_4, .slice A0_5 l0_5.length c0_5]] ?_
  with_reducible refine (flow_of.calls a0_0 a0_1 a0_2 a0_3 a0_4 _ _ l0_5 t137 t138 t139 _ ?side1 ?side2 A3.out).mono ?_
  (case side1 => exact Cd_ (Kd.C_below HR0_5.out HB.out))
  (case side2 => exact HC0_5.out)
  rintro e w27 ⟨rfl, hb⟩
  refine ⟨_, rfl, ?_⟩
  replace BK135 := m_ (kl_ gb135 hb)
  replace BK136 := m_ (kl_ gb136 hb)
  replace HB := m_ (below_step bz_ hb)
  (try clear hb)
  (try clear hb2)
  (try clear hk)
  (try clear hi)
  refine hK.out _ _ ⟨bc_ BK135.out 0, bc_ BK135.out 1, bc_ BK135.out 2, bc_ BK135.out 3, bc_ BK135.out 4, bc_ BK135.out 5, bc_ BK136.out 0, bc_ BK136.out 1, bc_ BK136.out 2, bc_ BK136.out 3, bc_ BK136.out 4, bc_ BK136.out 5⟩ (fun hHeld => ?_)
  clear hK K
  refine nz_ (some 6) ?_
  refine oz_ 3 (some 8) (fun K hK => ?_)
  refine gz_ Try.func46 #[.agg #[.int .u32 a1_0, .int .u32 a1_1, .int .u32 a1_2, .int .i64 a1_3, .int .u32 a1_4, .slice A1_5 l1_5.length c1_5]] ?_
  with_reducible refine (flow_of.calls a1_0 a1_1 a1_2 a1_3 a1_4 _ _ l1_5 t140 t141 t142 _ ?side1 ?side2 A4.out).mono ?_
  (case side1 => exact Cd_ (Kd.C_below HR1_5.out HB.out))
  (case side2 => exact HC1_5.out)
  rintro e w28 ⟨rfl, hb⟩
  refine ⟨_, rfl, ?_⟩
  replace BK135 := m_ (kl_ gb135 hb)
  replace BK136 := m_ (kl_ gb136 hb)
  replace HB := m_ (below_step bz_ hb)
  (try clear hb)
  (try clear hb2)
  (try clear hk)
  (try clear hi)
  refine hK.out _ _ ⟨bc_ BK135.out 0, bc_ BK135.out 1, bc_ BK135.out 2, bc_ BK135.out 3, bc_ BK135.out 4, bc_ BK135.out 5, bc_ BK136.out 0, bc_ BK136.out 1, bc_ BK136.out 2, bc_ BK136.out 3, bc_ BK136.out 4, bc_ BK136.out 5⟩ (fun hHeld => ?_)
  clear hK K
  refine nz_ (some 8) ?_
  refine pz_ 4 9 ?_
  refine pz_ 5 10 ?_
  refine pz_ 6 11 ?_
  refine pz_ 7 12 ?_
  refine pz_ 8 13 ?_
  refine pz_ 9 14 ?_
  refine pz_ 10 15 ?_
  refine pz_ 11 16 ?_
  refine pz_ 12 17 ?_
  refine pz_ 13 18 ?_
  refine pz_ 14 19 ?_
  refine pz_ 15 20 ?_
  refine pz_ 16 21 ?_
  refine pz_ 17 22 ?_
  refine pz_ 18 23 ?_
  refine pz_ 19 24 ?_
  refine pz_ 20 25 ?_
  refine pz_ 21 26 ?_
  refine pz_ 22 27 ?_
  refine pz_ 23 28 ?_
  refine pz_ 24 29 ?_
  refine pz_ 25 30 ?_
  refine pz_ 26 4 ?_
  refine dz_ ?_
  try go_wp2
  go_ret
  exact ⟨ew_, bz_⟩
end Go.Proofs.Ytfomnmdjbdohgaa.P

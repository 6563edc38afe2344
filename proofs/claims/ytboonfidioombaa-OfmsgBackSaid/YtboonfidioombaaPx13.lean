/- For each Go function a Lean function, and the proof that a call comes to what it tells: made by program out of the translation (the kit's print, with texts by hand put in). No condition. -/
import Derived.Test.YtboonfidioombaaSq
import Derived.Test.YtboonfidioombaaPx0
import Derived.Test.YtboonfidioombaaPx9
import Derived.Test.YtboonfidioombaaPx10
import Derived.Test.YtboonfidioombaaPx12
namespace Go.Proofs.Ytboonfidioombaa.P
open Go.RowKit Go.Proofs.Ytboonfidioombaa.HRows Go.Proofs.YtboonfidioombaaW.PrintWords Go.Proofs.YtboonfidioombaaW.PrintLast Go.Proofs.YtboonfidioombaaW.PrintMore
attribute [local go_sem] max2_int min2_int max_two min_two max_three min_three max_four min_four
set_option linter.unusedVariables false
set_option linter.unusedSimpArgs false
def ofmsg_Encode.f (k : Nat) (a0_0 : Int) (a0_1 : Int) (a0_2 : Int) (a0_3 : Int) (a0_4 : Int) (a0_5 : Int) (a0_6 : Int) (l0_7 : List (S59)) (a0_8 : Int) (a0_9 : Bool) (l0_10 : List Int) : Option (List Int × Int) := (ofmsg_Right.f k a0_0 a0_1 a0_2 a0_3 a0_4 a0_5 a0_6 l0_7 a0_8 a0_9 l0_10).bind fun t202 => (if t202 = true then ((ofmsg_inner.f k a0_0 a0_1 a0_2 a0_3 a0_4 a0_5 a0_6 l0_7 a0_8 a0_9 l0_10).bind fun t203 => ((ofmsg_two.f (wrap64 (7 + (t203.length : Int)))).bind fun t206 => ((ofmsg_four.f a0_1).bind fun t212 => ((slices_Concat_byte_byte.f (([t206, (([a0_0] : List Int)), t212, t203] : List (List Int)))).bind fun t218 => (some (t218, 0)))))) else (some (([] : List Int), 1)))
theorem ofmsg_Encode.mono : ∀ a0 a1 a2 a3 a4 a5 a6 a7 a8 a9 a10 k, LeO (ofmsg_Encode.f k a0 a1 a2 a3 a4 a5 a6 a7 a8 a9 a10) (ofmsg_Encode.f (k + 1) a0 a1 a2 a3 a4 a5 a6 a7 a8 a9 a10) := by
 intro a0 a1 a2 a3 a4 a5 a6 a7 a8 a9 a10 k
 unfold ofmsg_Encode.f
 repeat' first
   | (with_reducible exact ofmsg_Right.mono _ _ _ _ _ _ _ _ _ _ _ _)
   | (with_reducible exact ofmsg_inner.mono _ _ _ _ _ _ _ _ _ _ _ _)
   | (with_reducible exact LeO.refl _)
   | (with_reducible exact LeO.none _)
   | (with_reducible refine LeO.ite ?_ ?_)
   | (with_reducible refine LeO.bind ?_ (fun _ => ?_))
   | exact ofmsg_Right.mono _ _ _ _ _ _ _ _ _ _ _ _
   | exact ofmsg_inner.mono _ _ _ _ _ _ _ _ _ _ _ _
   | exact LeO.none _
   | refine LeO.ite ?_ ?_
   | refine LeO.bind ?_ (fun _ => ?_)
def ofmsg_Encode.T4 : Bool × List (List Nat × List Nat) := (true, [([], []), ([0], [0]), ([1], [1]), ([2], [2]), ([], []), ([4], [4]), ([5], [5]), ([], []), ([7], [7]), ([8, 3], [8]), ([], []), ([3, 6, 9, 10], [3, 6, 9, 10]), ([11, 9], [11]), ([12, 12, 0, 1, 2, 3, 4, 5, 6, 7, 8, 9, 10, 11, 12], [12]), ([13, 0, 1, 2, 3, 4, 5, 6, 7, 8, 9, 10, 11, 12, 13], [])])
def ofmsg_Encode.B4 : List Nat := [0, 1, 3, 7, 0, 16, 48, 0, 128, 399, 0, 2047, 4095, 8191, 16383]
theorem ofmsg_Encode.tab4 : rtab .any (opsOf Try.f12 4) = ofmsg_Encode.T4 := by kernel_rfl
theorem ofmsg_Encode.bits4 : waitsOk ofmsg_Encode.T4.2 ofmsg_Encode.B4 = true := by kernel_rfl
set_option maxHeartbeats 8000000 in
set_option maxRecDepth 100000 in
theorem ofmsg_Encode.calls (k : Nat) (a0_0 : Int) (a0_1 : Int) (a0_2 : Int) (a0_3 : Int) (a0_4 : Int) (a0_5 : Int) (a0_6 : Int) (A0_7 : Option Addr) (c0_7 : Nat) (l0_7 : List (S59)) (a0_8 : Int) (a0_9 : Bool) (A0_10 : Option Addr) (c0_10 : Nat) (l0_10 : List Int) (r1 : List Int) (r2 : Int) (w : World) (hr0_7 : Kd.C k59 w A0_7 l0_7.length l0_7) (hc0_7 : l0_7.length ≤ c0_7) (hr0_10 : Kd.C (Kd.int .u8) w A0_10 l0_10.length l0_10) (hc0_10 : l0_10.length ≤ c0_10) (h : ofmsg_Encode.f k a0_0 a0_1 a0_2 a0_3 a0_4 a0_5 a0_6 l0_7 a0_8 a0_9 l0_10 = some (r1, r2)) :
  Calls Try.prog 12 #[.agg #[.int .u8 a0_0, .int .u32 a0_1, .int .u32 a0_2, .int .u32 a0_3, .int .u32 a0_4, .int .i64 a0_5, .int .u32 a0_6, .slice A0_7 l0_7.length c0_7, .int .i64 a0_8, .bool a0_9, .slice A0_10 l0_10.length c0_10]] w fun e w' => ∃ v0_ : Value, e = .returned (.tuple #[v0_, .int .i64 r2]) ∧ Kd.R (Kd.int .u8) 5 w' w.heap.size (fun _ => True) v0_ r1 ∧ Below w.heap.size w w' := by
 have hu29 := Try.underlying29
 have HR0_7 := m_ hr0_7
 have HC0_7 := m_ hc0_7
 clear hr0_7 hc0_7
 have HR0_10 := m_ hr0_10
 have HC0_10 := m_ hc0_10
 clear hr0_10 hc0_10
 have HB := m_ (Below.refl w.heap.size w)
 have H : ((ofmsg_Right.f k a0_0 a0_1 a0_2 a0_3 a0_4 a0_5 a0_6 l0_7 a0_8 a0_9 l0_10).bind fun t202 => (if t202 = true then ((ofmsg_inner.f k a0_0 a0_1 a0_2 a0_3 a0_4 a0_5 a0_6 l0_7 a0_8 a0_9 l0_10).bind fun t203 => ((ofmsg_two.f (wrap64 (7 + (t203.length : Int)))).bind fun t206 => ((ofmsg_four.f a0_1).bind fun t212 => ((slices_Concat_byte_byte.f (([t206, (([a0_0] : List Int)), t212, t203] : List (List Int)))).bind fun t218 => (some (t218, 0)))))) else (some (([] : List Int), 1)))) = some (r1, r2) := h
 clear h
 replace H := Option.bind_eq_some_iff.mp H
 obtain ⟨t202, A20, H⟩ := H
 replace H : (if t202 = true then ((ofmsg_inner.f k a0_0 a0_1 a0_2 a0_3 a0_4 a0_5 a0_6 l0_7 a0_8 a0_9 l0_10).bind fun t203 => ((ofmsg_two.f (wrap64 (7 + (t203.length : Int)))).bind fun t206 => ((ofmsg_four.f a0_1).bind fun t212 => ((slices_Concat_byte_byte.f (([t206, (([a0_0] : List Int)), t212, t203] : List (List Int)))).bind fun t218 => (some (t218, 0)))))) else (some (([] : List Int), 1))) = some (r1, r2) := H
 have A2 := m_ A20
 clear A20
 by_cases c3 : t202 = true
 ·subst c3
  have H1 : ((ofmsg_inner.f k a0_0 a0_1 a0_2 a0_3 a0_4 a0_5 a0_6 l0_7 a0_8 a0_9 l0_10).bind fun t203 => ((ofmsg_two.f (wrap64 (7 + (t203.length : Int)))).bind fun t206 => ((ofmsg_four.f a0_1).bind fun t212 => ((slices_Concat_byte_byte.f (([t206, (([a0_0] : List Int)), t212, t203] : List (List Int)))).bind fun t218 => (some (t218, 0)))))) = some (r1, r2) := by rw [if_pos rfl] at H; exact H
  clear H
  have H := H1
  clear H1
  replace H := Option.bind_eq_some_iff.mp H
  obtain ⟨t203, A40, H⟩ := H
  replace H : ((ofmsg_two.f (wrap64 (7 + (t203.length : Int)))).bind fun t206 => ((ofmsg_four.f a0_1).bind fun t212 => ((slices_Concat_byte_byte.f (([t206, (([a0_0] : List Int)), t212, t203] : List (List Int)))).bind fun t218 => (some (t218, 0))))) = some (r1, r2) := H
  have A4 := m_ A40
  clear A40
  replace H := Option.bind_eq_some_iff.mp H
  obtain ⟨t206, A50, H⟩ := H
  replace H : ((ofmsg_four.f a0_1).bind fun t212 => ((slices_Concat_byte_byte.f (([t206, (([a0_0] : List Int)), t212, t203] : List (List Int)))).bind fun t218 => (some (t218, 0)))) = some (r1, r2) := H
  have A5 := m_ A50
  clear A50
  obtain ⟨y209, hy209⟩ : ∃ y_ : List Int, y_ = (([a0_0] : List Int)) := ⟨_, rfl⟩
  replace H : ((ofmsg_four.f a0_1).bind fun t212 => ((slices_Concat_byte_byte.f (([t206, y209, t212, t203] : List (List Int)))).bind fun t218 => (some (t218, 0)))) = some (r1, r2) := by first | (rw [hy209]; with_reducible exact H) | (have H2_ := (Option.bind_some _ _).symm.trans H; rw [hy209]; with_reducible exact H2_) | (have H2_ := (Option.bind_some _ _).symm.trans H; with_reducible exact H2_) | with_reducible exact H | (rw [hy209]; exact H) | exact H
  have Ny209 := m_ hy209
  clear hy209
  replace H := Option.bind_eq_some_iff.mp H
  obtain ⟨t212, A60, H⟩ := H
  replace H : ((slices_Concat_byte_byte.f (([t206, y209, t212, t203] : List (List Int)))).bind fun t218 => (some (t218, 0))) = some (r1, r2) := H
  have A6 := m_ A60
  clear A60
  obtain ⟨y215, hy215⟩ : ∃ y_ : List (List Int), y_ = (([t206, y209, t212, t203] : List (List Int))) := ⟨_, rfl⟩
  replace H : ((slices_Concat_byte_byte.f y215).bind fun t218 => (some (t218, 0))) = some (r1, r2) := by first | (rw [hy215]; with_reducible exact H) | (have H2_ := (Option.bind_some _ _).symm.trans H; rw [hy215]; with_reducible exact H2_) | (have H2_ := (Option.bind_some _ _).symm.trans H; with_reducible exact H2_) | with_reducible exact H | (rw [hy215]; exact H) | exact H
  have Ny215 := m_ hy215
  clear hy215
  replace H := Option.bind_eq_some_iff.mp H
  obtain ⟨t218, A70, H⟩ := H
  replace H : (some (t218, 0)) = some (r1, r2) := H
  have A7 := m_ A70
  clear A70
  simp only [Option.some.injEq, Prod.mk.injEq] at H
  obtain ⟨rfl, rfl⟩ := H
  go_enter Try.func12, Try.ntmps12
  try go_wp2_with (first | ((with_reducible refine gate_dst (N := 1) rfl ?_); refine bx_ 1 29 #[.int .u8 a0_0, .int .u32 a0_1, .int .u32 a0_2, .int .u32 a0_3, .int .u32 a0_4, .int .i64 a0_5, .int .u32 a0_6, .slice A0_7 l0_7.length c0_7, .int .i64 a0_8, .bool a0_9, .slice A0_10 l0_10.length c0_10] ?_; intro gb201 hg w8 hbox hb; have BK201 := m_ (hbox); have GW201 := m_ ((gw_ : w.heap.size ≤ gb201)); have GE201 := m_ ((gw_ : w.heap.size ≤ gb201)); replace HB := m_ (below_step bz_ hb); clear hb hbox hg; have hcz9 := cz11_ BK201.out) | ((with_reducible refine gate_callee (f := 14) rfl ?_); refine gL_ (some 6) Try.func14 #[.agg #[.int .u8 a0_0, .int .u32 a0_1, .int .u32 a0_2, .int .u32 a0_3, .int .u32 a0_4, .int .i64 a0_5, .int .u32 a0_6, .slice A0_7 l0_7.length c0_7, .int .i64 a0_8, .bool a0_9, .slice A0_10 l0_10.length c0_10]] ?_; (with_reducible refine (ofmsg_Right.calls k a0_0 a0_1 a0_2 a0_3 a0_4 a0_5 a0_6 _ _ l0_7 a0_8 a0_9 _ _ l0_10 true _ ?side1 ?side2 ?side3 ?side4 A2.out).mono ?_); (case side1 => exact Cd_ (Kd.C_below HR0_7.out HB.out)); (case side2 => exact HC0_7.out); (case side3 => exact Cd_ (Kd.C_below HR0_10.out HB.out)); (case side4 => exact HC0_10.out); rintro e w10 ⟨rfl, hb⟩; refine ⟨_, rfl, ?_⟩; replace BK201 := m_ (kl_ gb201 hb); replace HB := m_ (below_step bz_ hb); (try clear hb); (try clear hb2); (try clear hk); (try clear hi); have hcz11 := cz11_ BK201.out) | ((with_reducible refine gate_callee (f := 24) rfl ?_); refine gL_ (some 9) Try.func24 #[.agg #[.int .u8 a0_0, .int .u32 a0_1, .int .u32 a0_2, .int .u32 a0_3, .int .u32 a0_4, .int .i64 a0_5, .int .u32 a0_6, .slice A0_7 l0_7.length c0_7, .int .i64 a0_8, .bool a0_9, .slice A0_10 l0_10.length c0_10]] ?_; (with_reducible refine (ofmsg_inner.calls k a0_0 a0_1 a0_2 a0_3 a0_4 a0_5 a0_6 _ _ l0_7 a0_8 a0_9 _ _ l0_10 t203 _ ?side1 ?side2 ?side3 ?side4 A4.out).mono ?_); (case side1 => exact Cd_ (Kd.C_below HR0_7.out HB.out)); (case side2 => exact HC0_7.out); (case side3 => exact Cd_ (Kd.C_below HR0_10.out HB.out)); (case side4 => exact HC0_10.out); rintro e w12 ⟨v204, rfl, ho0, hb⟩; refine ⟨_, rfl, ?_⟩; have HO205 := m_ (Kd.R_lower ho0 (below_size bz_)); replace BK201 := m_ (kl_ gb201 hb); replace HB := m_ (below_step bz_ hb); (try clear hb); (try clear hb2); (try clear hk); (try clear hi); (try clear ho0)))
  replace HO205 := m_ (Kd.R_drew HO205.out)
  replace BK201 := m_ (blk_drew BK201.out)
  replace HB := m_ (below_drew1 HB.out)
  obtain ⟨Ao14, co14, eo14⟩ := Kd.R_slice HO205.out
  (first | subst eo14 | (injection eo14 with f1_ f2_ f3_; have f4_ := f1_.symm; have f5_ := f3_.symm; clear f1_ f2_ f3_; subst f4_; subst f5_))
  refine start_ (n := 15) (S := fun w' => True) (ds := []) (bs_ 15 0) (by kernel_rfl) rfl rfl trivial (fun hHeld => ?_); refine with_tabW ofmsg_Encode.tab4 ofmsg_Encode.bits4 (fun HT_ HW_ => ?_)
  generalize w12.drew = w13 at HO205 BK201 HB hHeld ⊢
  refine pz_ 0 10 ?_
  refine pz_ 4 14 ?_
  refine pz_ 7 17 ?_
  refine pz_ 10 20 ?_
  refine inv_at [1, 2, 3, 5, 6, 8, 9, 11, 12, 13, 14] (fun a0_ b a w' => ∃ (v207 : Value) (v210 : Value) (v213 : Value) (v216 : Value) (v219 : Value) (m13_ : Value), a = putSel a0_ b [(1, 11, .int .i64 (t203.length : Int)), (2, 12, .int .i64 (wrap64 (7 + (t203.length : Int)))), (3, 13, v207), (5, 15, .int .u8 a0_0), (6, 16, v210), (8, 18, .int .u32 a0_1), (9, 19, v213), (11, 21, v216), (12, 22, v219), (13, 2, m13_), (14, 3, .int .i64 0)] ∧ (b 11 = false → Kd.R (Kd.int .u8) 5 w' w.heap.size (fun _ => True) (.slice Ao14 t203.length co14) t203) ∧ (w'.heap[gb201]? = some (.cells #[.int .u8 a0_0, .int .u32 a0_1, .int .u32 a0_2, .int .u32 a0_3, .int .u32 a0_4, .int .i64 a0_5, .int .u32 a0_6, .slice A0_7 l0_7.length c0_7, .int .i64 a0_8, .bool a0_9, .slice A0_10 l0_10.length c0_10] 29 (0, 0))) ∧ (Below w.heap.size w w') ∧ (b 3 = true → b 11 = false → Kd.R (Kd.int .u8) 5 w' w.heap.size (fun k_ => some k_ ≠ (.slice Ao14 t203.length co14 : Value).ownBlock) v207 t206) ∧ (b 6 = true → b 11 = false → Kd.R (Kd.int .u8) 5 w' w.heap.size (fun k_ => some k_ ≠ (.slice Ao14 t203.length co14 : Value).ownBlock) v210 y209) ∧ (b 9 = true → b 11 = false → Kd.R (Kd.int .u8) 5 w' w.heap.size (fun k_ => some k_ ≠ (.slice Ao14 t203.length co14 : Value).ownBlock) v213 t212) ∧ (b 11 = true → Kd.N (Kd.slice 5 (Kd.int .u8)) 27 w' w.heap.size (fun k_ => k_ ≠ gb201) v216 y215) ∧ (b 12 = true → Kd.R (Kd.int .u8) 5 w' w.heap.size (fun _ => True) v219 t218) ∧ (b 13 = true → (m13_ : Value) = v219)) HT_.out HW_.out (by kernel_rfl) (by kernel_rfl) ?_ ?_ ?_
  ·exact ⟨.bool false, .bool false, .bool false, .bool false, .bool false, .bool false, by simp only [putSel, Bool.false_eq_true, if_false], fun _ => HO205.out, BK201.out, HB.out, fun h_ => absurd h_ (by decide), fun h_ => absurd h_ (by decide), fun h_ => absurd h_ (by decide), fun h_ => absurd h_ (by decide), fun h_ => absurd h_ (by decide), fun h_ => absurd h_ (by decide)⟩
  ·skip
   clear BK201 HB HO205
   refine steps_cons ?_ ?_
   ·rintro b a w' ⟨v207, v210, v213, v216, v219, m13_, ha, Q_HO205, Q_BK201, Q_HB, Q_HO208, Q_HO211, Q_HO214, Q_HO217, Q_HO220, Q_X13_⟩ hb_ hon hoff
    refine ⟨_, rfl, fun K hK => ?_⟩
    have e10 : a.tmps[10]? = some (.slice Ao14 t203.length co14) := by rw [ha]; exact (putSel_off rfl).trans rfl
    replace ha := m_ ha
    have HO205 := m_ (Q_HO205 (hoff 11 (by kernel_rfl)))
    have BK201 := m_ Q_BK201
    have HB := m_ Q_HB
    refine value_ (w1 := w') (v := .int .i64 (t203.length : Int)) (by rfl) rfl ?_ ?_
    ·go_simp
     (try simp only [i64_w])
     try rfl
    refine hK.out _ _ ⟨v207, v210, v213, v216, v219, m13_, (by rw [ha.out]; exact putSel_upk 0 hb_ rfl rfl rfl), Q_HO205, Q_BK201, Q_HB, fun h0_ _ => absurd ((hoff 3 (by kernel_rfl)).symm.trans h0_) (by decide), Q_HO211, fun h0_ _ => absurd ((hoff 9 (by kernel_rfl)).symm.trans h0_) (by decide), fun h0_ => absurd ((hoff 11 (by kernel_rfl)).symm.trans h0_) (by decide), fun h0_ => absurd ((hoff 12 (by kernel_rfl)).symm.trans h0_) (by decide), fun h0_ => absurd ((hoff 13 (by kernel_rfl)).symm.trans h0_) (by decide)⟩
   refine steps_cons ?_ ?_
   ·rintro b a w' ⟨v207, v210, v213, v216, v219, m13_, ha, Q_HO205, Q_BK201, Q_HB, Q_HO208, Q_HO211, Q_HO214, Q_HO217, Q_HO220, Q_X13_⟩ hb_ hon hoff
    refine ⟨_, rfl, fun K hK => ?_⟩
    have e11 : a.tmps[11]? = some (.int .i64 (t203.length : Int)) := by rw [ha]; exact putSel_on (e := (1, 11, .int .i64 (t203.length : Int))) 0 rfl rfl (hon 1 (by kernel_rfl)) rfl
    replace ha := m_ ha
    have HO205 := m_ (Q_HO205 (hoff 11 (by kernel_rfl)))
    have BK201 := m_ Q_BK201
    have HB := m_ Q_HB
    refine value_ (w1 := w') (v := .int .i64 (wrap64 (7 + (t203.length : Int)))) (by rfl) rfl ?_ ?_
    ·go_simp
     (try simp only [i64_w])
     try rfl
    refine hK.out _ _ ⟨v207, v210, v213, v216, v219, m13_, (by rw [ha.out]; exact putSel_upk 1 hb_ rfl rfl rfl), Q_HO205, Q_BK201, Q_HB, fun h0_ _ => absurd ((hoff 3 (by kernel_rfl)).symm.trans h0_) (by decide), Q_HO211, fun h0_ _ => absurd ((hoff 9 (by kernel_rfl)).symm.trans h0_) (by decide), fun h0_ => absurd ((hoff 11 (by kernel_rfl)).symm.trans h0_) (by decide), fun h0_ => absurd ((hoff 12 (by kernel_rfl)).symm.trans h0_) (by decide), fun h0_ => absurd ((hoff 13 (by kernel_rfl)).symm.trans h0_) (by decide)⟩
   refine steps_cons ?_ ?_
   ·rintro b a w' ⟨v207, v210, v213, v216, v219, m13_, ha, Q_HO205, Q_BK201, Q_HB, Q_HO208, Q_HO211, Q_HO214, Q_HO217, Q_HO220, Q_X13_⟩ hb_ hon hoff
    refine ⟨_, rfl, fun K hK => ?_⟩
    have e12 : a.tmps[12]? = some (.int .i64 (wrap64 (7 + (t203.length : Int)))) := by rw [ha]; exact putSel_on (e := (2, 12, .int .i64 (wrap64 (7 + (t203.length : Int))))) 1 rfl rfl (hon 2 (by kernel_rfl)) rfl
    replace ha := m_ ha
    have HO205 := m_ (Q_HO205 (hoff 11 (by kernel_rfl)))
    have BK201 := m_ Q_BK201
    have HB := m_ Q_HB
    refine goes_ Try.func26 (by kernel_rfl) rfl #[.int .i64 (wrap64 (7 + (t203.length : Int)))] (by rfl) rfl rfl (by first | (simp only [List.map_toArray, List.map_cons, List.map_nil, Act.eval, Array.getD_eq_getD_getElem?, Option.getD_some, e12]; done) | (simp only [List.map_toArray, List.map_cons, List.map_nil, Act.eval, Array.getD_eq_getD_getElem?, Option.getD_some, e12]; rfl)) ?_
    with_reducible refine (ofmsg_two.calls (wrap64 (7 + (t203.length : Int))) t206 _ A5.out).mono ?_
    rintro e w15 ⟨v207, rfl, ho0, hb⟩
    refine ⟨_, rfl, ?_⟩
    have n0_ := m_ (Kd.R_elder' (Rz_ HO205.out) (Kd.R_base ho0) hb)
    have n1_ := m_ (Kd.R_lower (Kd.R_new' ho0 (Kd.R_lt (Rz_ HO205.out))) (below_size bz_))
    have n2_ := m_ (kl_ gb201 hb)
    have n3_ := m_ (below_step bz_ hb)
    have z_HO211 := fun (h0_ : b 6 = true) (h1_ : b 11 = false) => (show Kd.R (Kd.int .u8) 5 w15 w.heap.size (fun k_ => some k_ ≠ (.slice Ao14 t203.length co14 : Value).ownBlock) v210 y209 from by first | exact (Kd.R_elder' (Ry_ (Q_HO211 h0_ h1_)) (Kd.R_base ho0) hb) | exact Kd.R_mono (Kd.R_elder' (Ry_ (Q_HO211 h0_ h1_)) (Kd.R_base ho0) hb) (fun _ h_ => by first | trivial | exact h_ | exact h_.1))
    clear HO205 BK201 HB
    have HO205 := n0_
    have HO208 := n1_
    have BK201 := n2_
    have HB := n3_
    clear n0_ n1_ n2_ n3_
    (try clear hb)
    (try clear hb2)
    (try clear hk)
    (try clear hi)
    (try clear ho0)
    refine hK.out _ _ ⟨v207, v210, v213, v216, v219, m13_, (by rw [ha.out]; exact putSel_upk 2 hb_ rfl rfl rfl), fun _ => (Rw_ HO205.out), (by (with_reducible repeat (first | refine blk_drewN ?_ _ | refine blk_drew ?_ | refine blk_alloc ?_ _)); exact BK201.out), (by repeat (first | (with_reducible first | exact HB.out | apply below_alloc | apply pw_below_drewN | apply below_drew1 | refine below_set ?_ GE201.out) | exact HB.out)), fun _ _ => (Rw_ HO208.out), z_HO211, fun h0_ _ => absurd ((hoff 9 (by kernel_rfl)).symm.trans h0_) (by decide), fun h0_ => absurd ((hoff 11 (by kernel_rfl)).symm.trans h0_) (by decide), fun h0_ => absurd ((hoff 12 (by kernel_rfl)).symm.trans h0_) (by decide), fun h0_ => absurd ((hoff 13 (by kernel_rfl)).symm.trans h0_) (by decide)⟩
   refine steps_cons ?_ ?_
   ·rintro b a w' ⟨v207, v210, v213, v216, v219, m13_, ha, Q_HO205, Q_BK201, Q_HB, Q_HO208, Q_HO211, Q_HO214, Q_HO217, Q_HO220, Q_X13_⟩ hb_ hon hoff
    refine ⟨_, rfl, fun K hK => ?_⟩
    have e14 : a.tmps[14]? = some (.pointer (some ⟨gb201, 0, none⟩)) := by rw [ha]; exact (putSel_off rfl).trans rfl
    replace ha := m_ ha
    have HO205 := m_ (Q_HO205 (hoff 11 (by kernel_rfl)))
    have BK201 := m_ Q_BK201
    have HB := m_ Q_HB
    have hc0_ : w'.cell? ⟨gb201, 0, none⟩ = some (.int .u8 a0_0) := (blk_cell BK201.out 0).trans rfl
    have hc1_ : w'.cell? ⟨gb201, 1, none⟩ = some (.int .u32 a0_1) := (blk_cell BK201.out 1).trans rfl
    have hc2_ : w'.cell? ⟨gb201, 2, none⟩ = some (.int .u32 a0_2) := (blk_cell BK201.out 2).trans rfl
    have hc3_ : w'.cell? ⟨gb201, 3, none⟩ = some (.int .u32 a0_3) := (blk_cell BK201.out 3).trans rfl
    have hc4_ : w'.cell? ⟨gb201, 4, none⟩ = some (.int .u32 a0_4) := (blk_cell BK201.out 4).trans rfl
    have hc5_ : w'.cell? ⟨gb201, 5, none⟩ = some (.int .i64 a0_5) := (blk_cell BK201.out 5).trans rfl
    have hc6_ : w'.cell? ⟨gb201, 6, none⟩ = some (.int .u32 a0_6) := (blk_cell BK201.out 6).trans rfl
    have hc7_ : w'.cell? ⟨gb201, 7, none⟩ = some (.slice A0_7 l0_7.length c0_7) := (blk_cell BK201.out 7).trans rfl
    have hc8_ : w'.cell? ⟨gb201, 8, none⟩ = some (.int .i64 a0_8) := (blk_cell BK201.out 8).trans rfl
    have hc9_ : w'.cell? ⟨gb201, 9, none⟩ = some (.bool a0_9) := (blk_cell BK201.out 9).trans rfl
    have hc10_ : w'.cell? ⟨gb201, 10, none⟩ = some (.slice A0_10 l0_10.length c0_10) := (blk_cell BK201.out 10).trans rfl
    refine value_ (w1 := w') (v := .int .u8 a0_0) (by rfl) rfl ?_ ?_
    ·go_simp
     (try simp only [i64_w])
     try rfl
    refine hK.out _ _ ⟨v207, v210, v213, v216, v219, m13_, (by rw [ha.out]; exact putSel_upk 3 hb_ rfl rfl rfl), Q_HO205, Q_BK201, Q_HB, Q_HO208, fun h0_ _ => absurd ((hoff 6 (by kernel_rfl)).symm.trans h0_) (by decide), Q_HO214, fun h0_ => absurd ((hoff 11 (by kernel_rfl)).symm.trans h0_) (by decide), fun h0_ => absurd ((hoff 12 (by kernel_rfl)).symm.trans h0_) (by decide), fun h0_ => absurd ((hoff 13 (by kernel_rfl)).symm.trans h0_) (by decide)⟩
   refine steps_cons ?_ ?_
   ·rintro b a w' ⟨v207, v210, v213, v216, v219, m13_, ha, Q_HO205, Q_BK201, Q_HB, Q_HO208, Q_HO211, Q_HO214, Q_HO217, Q_HO220, Q_X13_⟩ hb_ hon hoff
    refine ⟨_, rfl, fun K hK => ?_⟩
    have e15 : a.tmps[15]? = some (.int .u8 a0_0) := by rw [ha]; exact putSel_on (e := (5, 15, .int .u8 a0_0)) 3 rfl rfl (hon 5 (by kernel_rfl)) rfl
    replace ha := m_ ha
    have HO205 := m_ (Q_HO205 (hoff 11 (by kernel_rfl)))
    have BK201 := m_ Q_BK201
    have HB := m_ Q_HB
    refine Kd.R_lit_step (Kd.int .u8) _ 5 ?hg (N := 16) ?hd (xs := ([a0_0] : List Int)) (inner := [.int .u8 a0_0]) (ok := fun _ => True) (okp := fun _ => True) ?hr ?hp (fun _ hk => hk) trivial (Below.refl _ _) (Nat.le_refl _) (by simp) ?_; (case hd => rfl); (case hg => rfl); (case hr => first | (go_simp; done) | (go_simp; rfl)); (case hp => exact (Reps.one (show Kd.M (Kd.int .u8) _ _ _ a0_0 [.int .u8 a0_0] from rfl) (Reps.none _ _)))
    intro v210 w15 ho16 hb hg_ hnew_
    clear hg_ hnew_
    (first | rw [← Ny209.out] at ho16 | (simp only [Int.reduceToNat] at ho16; rw [← Ny209.out] at ho16))
    have n0_ := m_ (Kd.R_elder' (Rz_ HO205.out) (Kd.R_base ho16) hb)
    have n1_ := m_ (Kd.R_lower (Kd.R_new' ho16 (Kd.R_lt (Rz_ HO205.out))) (below_size bz_))
    have n2_ := m_ (kl_ gb201 hb)
    have n3_ := m_ (below_step bz_ hb)
    have z_HO208 := fun (h0_ : b 3 = true) (h1_ : b 11 = false) => (show Kd.R (Kd.int .u8) 5 w15 w.heap.size (fun k_ => some k_ ≠ (.slice Ao14 t203.length co14 : Value).ownBlock) v207 t206 from by first | exact (Kd.R_elder' (Ry_ (Q_HO208 h0_ h1_)) (Kd.R_base ho16) hb) | exact Kd.R_mono (Kd.R_elder' (Ry_ (Q_HO208 h0_ h1_)) (Kd.R_base ho16) hb) (fun _ h_ => by first | trivial | exact h_ | exact h_.1))
    have z_HO214 := fun (h0_ : b 9 = true) (h1_ : b 11 = false) => (show Kd.R (Kd.int .u8) 5 w15 w.heap.size (fun k_ => some k_ ≠ (.slice Ao14 t203.length co14 : Value).ownBlock) v213 t212 from by first | exact (Kd.R_elder' (Ry_ (Q_HO214 h0_ h1_)) (Kd.R_base ho16) hb) | exact Kd.R_mono (Kd.R_elder' (Ry_ (Q_HO214 h0_ h1_)) (Kd.R_base ho16) hb) (fun _ h_ => by first | trivial | exact h_ | exact h_.1))
    clear HO205 BK201 HB
    have HO205 := n0_
    have HO211 := n1_
    have BK201 := n2_
    have HB := n3_
    clear n0_ n1_ n2_ n3_ hb ho16
    refine hK.out _ _ ⟨v207, v210, v213, v216, v219, m13_, (by rw [ha.out]; exact putSel_upk 4 hb_ rfl rfl rfl), fun _ => (Rw_ HO205.out), (by (with_reducible repeat (first | refine blk_drewN ?_ _ | refine blk_drew ?_ | refine blk_alloc ?_ _)); exact BK201.out), (by repeat (first | (with_reducible first | exact HB.out | apply below_alloc | apply pw_below_drewN | apply below_drew1 | refine below_set ?_ GE201.out) | exact HB.out)), z_HO208, fun _ _ => (Rw_ HO211.out), z_HO214, fun h0_ => absurd ((hoff 11 (by kernel_rfl)).symm.trans h0_) (by decide), fun h0_ => absurd ((hoff 12 (by kernel_rfl)).symm.trans h0_) (by decide), fun h0_ => absurd ((hoff 13 (by kernel_rfl)).symm.trans h0_) (by decide)⟩
   refine steps_cons ?_ ?_
   ·rintro b a w' ⟨v207, v210, v213, v216, v219, m13_, ha, Q_HO205, Q_BK201, Q_HB, Q_HO208, Q_HO211, Q_HO214, Q_HO217, Q_HO220, Q_X13_⟩ hb_ hon hoff
    refine ⟨_, rfl, fun K hK => ?_⟩
    have e17 : a.tmps[17]? = some (.pointer (some ⟨gb201, 1, none⟩)) := by rw [ha]; exact (putSel_off rfl).trans rfl
    replace ha := m_ ha
    have HO205 := m_ (Q_HO205 (hoff 11 (by kernel_rfl)))
    have BK201 := m_ Q_BK201
    have HB := m_ Q_HB
    have hc0_ : w'.cell? ⟨gb201, 0, none⟩ = some (.int .u8 a0_0) := (blk_cell BK201.out 0).trans rfl
    have hc1_ : w'.cell? ⟨gb201, 1, none⟩ = some (.int .u32 a0_1) := (blk_cell BK201.out 1).trans rfl
    have hc2_ : w'.cell? ⟨gb201, 2, none⟩ = some (.int .u32 a0_2) := (blk_cell BK201.out 2).trans rfl
    have hc3_ : w'.cell? ⟨gb201, 3, none⟩ = some (.int .u32 a0_3) := (blk_cell BK201.out 3).trans rfl
    have hc4_ : w'.cell? ⟨gb201, 4, none⟩ = some (.int .u32 a0_4) := (blk_cell BK201.out 4).trans rfl
    have hc5_ : w'.cell? ⟨gb201, 5, none⟩ = some (.int .i64 a0_5) := (blk_cell BK201.out 5).trans rfl
    have hc6_ : w'.cell? ⟨gb201, 6, none⟩ = some (.int .u32 a0_6) := (blk_cell BK201.out 6).trans rfl
    have hc7_ : w'.cell? ⟨gb201, 7, none⟩ = some (.slice A0_7 l0_7.length c0_7) := (blk_cell BK201.out 7).trans rfl
    have hc8_ : w'.cell? ⟨gb201, 8, none⟩ = some (.int .i64 a0_8) := (blk_cell BK201.out 8).trans rfl
    have hc9_ : w'.cell? ⟨gb201, 9, none⟩ = some (.bool a0_9) := (blk_cell BK201.out 9).trans rfl
    have hc10_ : w'.cell? ⟨gb201, 10, none⟩ = some (.slice A0_10 l0_10.length c0_10) := (blk_cell BK201.out 10).trans rfl
    refine value_ (w1 := w') (v := .int .u32 a0_1) (by rfl) rfl ?_ ?_
    ·go_simp
     (try simp only [i64_w])
     try rfl
    refine hK.out _ _ ⟨v207, v210, v213, v216, v219, m13_, (by rw [ha.out]; exact putSel_upk 5 hb_ rfl rfl rfl), Q_HO205, Q_BK201, Q_HB, Q_HO208, Q_HO211, fun h0_ _ => absurd ((hoff 9 (by kernel_rfl)).symm.trans h0_) (by decide), fun h0_ => absurd ((hoff 11 (by kernel_rfl)).symm.trans h0_) (by decide), fun h0_ => absurd ((hoff 12 (by kernel_rfl)).symm.trans h0_) (by decide), fun h0_ => absurd ((hoff 13 (by kernel_rfl)).symm.trans h0_) (by decide)⟩
   refine steps_cons ?_ ?_
   ·rintro b a w' ⟨v207, v210, v213, v216, v219, m13_, ha, Q_HO205, Q_BK201, Q_HB, Q_HO208, Q_HO211, Q_HO214, Q_HO217, Q_HO220, Q_X13_⟩ hb_ hon hoff
    refine ⟨_, rfl, fun K hK => ?_⟩
    have e18 : a.tmps[18]? = some (.int .u32 a0_1) := by rw [ha]; exact putSel_on (e := (8, 18, .int .u32 a0_1)) 5 rfl rfl (hon 8 (by kernel_rfl)) rfl
    replace ha := m_ ha
    have HO205 := m_ (Q_HO205 (hoff 11 (by kernel_rfl)))
    have BK201 := m_ Q_BK201
    have HB := m_ Q_HB
    have HO208 := m_ (Q_HO208 (hon 3 (by kernel_rfl)) (hoff 11 (by kernel_rfl)))
    refine goes_ Try.func27 (by kernel_rfl) rfl #[.int .u32 a0_1] (by rfl) rfl rfl (by first | (simp only [List.map_toArray, List.map_cons, List.map_nil, Act.eval, Array.getD_eq_getD_getElem?, Option.getD_some, e18]; done) | (simp only [List.map_toArray, List.map_cons, List.map_nil, Act.eval, Array.getD_eq_getD_getElem?, Option.getD_some, e18]; rfl)) ?_
    with_reducible refine (ofmsg_four.calls a0_1 t212 _ A6.out).mono ?_
    rintro e w17 ⟨v213, rfl, ho0, hb⟩
    refine ⟨_, rfl, ?_⟩
    have n0_ := m_ (Kd.R_elder' (Rz_ HO205.out) (Kd.R_base ho0) hb)
    have n1_ := m_ (Kd.R_elder' (Rz_ HO208.out) (Kd.R_base ho0) hb)
    have n2_ := m_ (Kd.R_lower (Kd.R_new' (Kd.R_new' ho0 (Kd.R_lt (Rz_ HO205.out))) (Kd.R_lt (Rz_ HO208.out))) (below_size bz_))
    have n3_ := m_ (kl_ gb201 hb)
    have n4_ := m_ (below_step bz_ hb)
    have z_HO211 := fun (h0_ : b 6 = true) (h1_ : b 11 = false) => (show Kd.R (Kd.int .u8) 5 w17 w.heap.size (fun k_ => some k_ ≠ (.slice Ao14 t203.length co14 : Value).ownBlock) v210 y209 from by first | exact (Kd.R_elder' (Ry_ (Q_HO211 h0_ h1_)) (Kd.R_base ho0) hb) | exact Kd.R_mono (Kd.R_elder' (Ry_ (Q_HO211 h0_ h1_)) (Kd.R_base ho0) hb) (fun _ h_ => by first | trivial | exact h_ | exact h_.1))
    clear HO205 HO208 BK201 HB
    have HO205 := n0_
    have HO208 := n1_
    have HO214 := n2_
    have BK201 := n3_
    have HB := n4_
    clear n0_ n1_ n2_ n3_ n4_
    (try clear hb)
    (try clear hb2)
    (try clear hk)
    (try clear hi)
    (try clear ho0)
    refine hK.out _ _ ⟨v207, v210, v213, v216, v219, m13_, (by rw [ha.out]; exact putSel_upk 6 hb_ rfl rfl rfl), fun _ => (Rw_ HO205.out), (by (with_reducible repeat (first | refine blk_drewN ?_ _ | refine blk_drew ?_ | refine blk_alloc ?_ _)); exact BK201.out), (by repeat (first | (with_reducible first | exact HB.out | apply below_alloc | apply pw_below_drewN | apply below_drew1 | refine below_set ?_ GE201.out) | exact HB.out)), fun _ _ => (Rw_ HO208.out), z_HO211, fun _ _ => (Rw_ HO214.out), fun h0_ => absurd ((hoff 11 (by kernel_rfl)).symm.trans h0_) (by decide), fun h0_ => absurd ((hoff 12 (by kernel_rfl)).symm.trans h0_) (by decide), fun h0_ => absurd ((hoff 13 (by kernel_rfl)).symm.trans h0_) (by decide)⟩
   refine steps_cons ?_ ?_
   ·rintro b a w' ⟨v207, v210, v213, v216, v219, m13_, ha, Q_HO205, Q_BK201, Q_HB, Q_HO208, Q_HO211, Q_HO214, Q_HO217, Q_HO220, Q_X13_⟩ hb_ hon hoff
    refine ⟨_, rfl, fun K hK => ?_⟩
    have e13 : a.tmps[13]? = some (v207) := by rw [ha]; exact putSel_on (e := (3, 13, v207)) 2 rfl rfl (hon 3 (by kernel_rfl)) rfl
    have e16 : a.tmps[16]? = some (v210) := by rw [ha]; exact putSel_on (e := (6, 16, v210)) 4 rfl rfl (hon 6 (by kernel_rfl)) rfl
    have e19 : a.tmps[19]? = some (v213) := by rw [ha]; exact putSel_on (e := (9, 19, v213)) 6 rfl rfl (hon 9 (by kernel_rfl)) rfl
    have e20 : a.tmps[20]? = some (.slice Ao14 t203.length co14) := by rw [ha]; exact (putSel_off rfl).trans rfl
    replace ha := m_ ha
    have HO205 := m_ (Q_HO205 hb_)
    have BK201 := m_ Q_BK201
    have HB := m_ Q_HB
    have HO208 := m_ (Q_HO208 (hon 3 (by kernel_rfl)) hb_)
    have HO211 := m_ (Q_HO211 (hon 6 (by kernel_rfl)) hb_)
    have HO214 := m_ (Q_HO214 (hon 9 (by kernel_rfl)) hb_)
    obtain ⟨Ao20, co20, eo20⟩ := Kd.R_slice HO208.out
    (first | subst eo20 | (injection eo20 with f1_ f2_ f3_; have f4_ := f1_.symm; have f5_ := f3_.symm; clear f1_ f2_ f3_; subst f4_; subst f5_))
    obtain ⟨Ao21, co21, eo21⟩ := Kd.R_slice HO211.out
    (first | subst eo21 | (injection eo21 with f1_ f2_ f3_; have f4_ := f1_.symm; have f5_ := f3_.symm; clear f1_ f2_ f3_; subst f4_; subst f5_))
    obtain ⟨Ao22, co22, eo22⟩ := Kd.R_slice HO214.out
    (first | subst eo22 | (injection eo22 with f1_ f2_ f3_; have f4_ := f1_.symm; have f5_ := f3_.symm; clear f1_ f2_ f3_; subst f4_; subst f5_))
    refine Kd.N_lit_step (Kd.slice 5 (Kd.int .u8)) _ 27 ?hg (N' := 21) ?hd (xs := ([t206, y209, t212, t203] : List (List Int))) (inner := [.slice Ao20 t206.length co20, .slice Ao21 y209.length co21, .slice Ao22 t212.length co22, .slice Ao14 t203.length co14]) (ok := (fun k_ => k_ ≠ gb201)) (okp := (fun k_ => k_ ≠ gb201)) ?hr ?hp (fun _ hk => hk) ((show ∀ k_, w'.heap.size ≤ k_ → (fun k_ => k_ ≠ gb201) k_ from fun k_ hk => Kd.freshB (g := gb201) (o := .cells #[.int .u8 a0_0, .int .u32 a0_1, .int .u32 a0_2, .int .u32 a0_3, .int .u32 a0_4, .int .i64 a0_5, .int .u32 a0_6, .slice A0_7 l0_7.length c0_7, .int .i64 a0_8, .bool a0_9, .slice A0_10 l0_10.length c0_10] 29 (0, 0)) kz_ k_ hk) _ (Nat.le_refl _)) (Below.refl _ _) (Nat.le_refl _) (by simp) ?_; (case hd => rfl); (case hg => rfl); (case hr => first | (go_simp; done) | (go_simp; rfl)); (case hp => exact (Reps.one (show Kd.FK (Kd.slice 5 (Kd.int .u8)) _ _ t206 [.slice Ao20 t206.length co20] from (Kd.FK_slice_mk (Kd.R_reads' (Kd.R_mono (ok' := (fun k_ => k_ ≠ gb201)) (Kd.R_types (HO208.out) BK201.out (by decide)) (fun k_ hk => hk.2))).2.1 (Kd.R_F (Kd.R_mono (ok' := (fun k_ => k_ ≠ gb201)) (Kd.R_types (HO208.out) BK201.out (by decide)) (fun k_ hk => hk.2))))) (Reps.one (show Kd.FK (Kd.slice 5 (Kd.int .u8)) _ _ y209 [.slice Ao21 y209.length co21] from (Kd.FK_slice_mk (Kd.R_reads' (Kd.R_mono (ok' := (fun k_ => k_ ≠ gb201)) (Kd.R_types (HO211.out) BK201.out (by decide)) (fun k_ hk => hk.2))).2.1 (Kd.R_F (Kd.R_mono (ok' := (fun k_ => k_ ≠ gb201)) (Kd.R_types (HO211.out) BK201.out (by decide)) (fun k_ hk => hk.2))))) (Reps.one (show Kd.FK (Kd.slice 5 (Kd.int .u8)) _ _ t212 [.slice Ao22 t212.length co22] from (Kd.FK_slice_mk (Kd.R_reads' (Kd.R_mono (ok' := (fun k_ => k_ ≠ gb201)) (Kd.R_types (HO214.out) BK201.out (by decide)) (fun k_ hk => hk.2))).2.1 (Kd.R_F (Kd.R_mono (ok' := (fun k_ => k_ ≠ gb201)) (Kd.R_types (HO214.out) BK201.out (by decide)) (fun k_ hk => hk.2))))) (Reps.one (show Kd.FK (Kd.slice 5 (Kd.int .u8)) _ _ t203 [.slice Ao14 t203.length co14] from (Kd.FK_slice_mk (Kd.R_reads' (Kd.R_mono (ok' := (fun k_ => k_ ≠ gb201)) (Kd.R_types (HO205.out) BK201.out (by decide)) (fun k_ hk => hk.2))).2.1 (Kd.R_F (Kd.R_mono (ok' := (fun k_ => k_ ≠ gb201)) (Kd.R_types (HO205.out) BK201.out (by decide)) (fun k_ hk => hk.2))))) (Reps.none _ _))))))
    intro v216 w23 ho24 hb hg_ hnew_
    clear hg_ hnew_
    (first | rw [← Ny215.out] at ho24 | (simp only [Int.reduceToNat] at ho24; rw [← Ny215.out] at ho24))
    have HO217 := m_ (Kd.N_lower ho24 (below_size bz_))
    replace BK201 := m_ (kl_ gb201 hb)
    replace HB := m_ (below_step bz_ hb)
    clear HO205 HO208 HO211 HO214 hb ho24
    refine hK.out _ _ ⟨.slice Ao20 t206.length co20, .slice Ao21 y209.length co21, .slice Ao22 t212.length co22, v216, v219, m13_, (by rw [ha.out]; exact putSel_upk 7 hb_ rfl rfl rfl), fun h0_ => absurd ((up_self b 11).symm.trans h0_) (by decide), kz_, bz_, fun _ h1_ => absurd ((up_self b 11).symm.trans h1_) (by decide), fun _ h1_ => absurd ((up_self b 11).symm.trans h1_) (by decide), fun _ h1_ => absurd ((up_self b 11).symm.trans h1_) (by decide), fun _ => (Nz_ HO217.out), fun h0_ => absurd ((hoff 12 (by kernel_rfl)).symm.trans h0_) (by decide), fun h0_ => absurd ((hoff 13 (by kernel_rfl)).symm.trans h0_) (by decide)⟩
   refine steps_cons ?_ ?_
   ·rintro b a w' ⟨v207, v210, v213, v216, v219, m13_, ha, Q_HO205, Q_BK201, Q_HB, Q_HO208, Q_HO211, Q_HO214, Q_HO217, Q_HO220, Q_X13_⟩ hb_ hon hoff
    refine ⟨_, rfl, fun K hK => ?_⟩
    have e21 : a.tmps[21]? = some (v216) := by rw [ha]; exact putSel_on (e := (11, 21, v216)) 7 rfl rfl (hon 11 (by kernel_rfl)) rfl
    replace ha := m_ ha
    have BK201 := m_ Q_BK201
    have HB := m_ Q_HB
    have HO217 := m_ (Q_HO217 (hon 11 (by kernel_rfl)))
    obtain ⟨Ao25, co25, eo25⟩ := Kd.N_slice HO217.out
    (first | subst eo25 | (injection eo25 with f1_ f2_ f3_; have f4_ := f1_.symm; have f5_ := f3_.symm; clear f1_ f2_ f3_; subst f4_; subst f5_))
    refine goes_ Try.func25 (by kernel_rfl) rfl #[.slice Ao25 y215.length co25] (by rfl) rfl rfl (by first | (simp only [List.map_toArray, List.map_cons, List.map_nil, Act.eval, Array.getD_eq_getD_getElem?, Option.getD_some, e21]; done) | (simp only [List.map_toArray, List.map_cons, List.map_nil, Act.eval, Array.getD_eq_getD_getElem?, Option.getD_some, e21]; rfl)) ?_
    with_reducible refine (slices_Concat_byte_byte.calls _ _ y215 t218 _ ?side1 ?side2 A7.out).mono ?_
    (case side1 => exact Cd_ (Kd.N_reads' HO217.out).2.2)
    (case side2 => exact (Kd.N_reads' HO217.out).2.1)
    rintro e w26 ⟨v219, rfl, ho0, hb⟩
    refine ⟨_, rfl, ?_⟩
    have HO220 := m_ (Kd.R_lower ho0 (below_size bz_))
    replace HO217 := m_ (Kd.N_elder' (Nz_ HO217.out) (Kd.R_base ho0) hb)
    replace BK201 := m_ (kl_ gb201 hb)
    replace HB := m_ (below_step bz_ hb)
    (try clear hb)
    (try clear hb2)
    (try clear hk)
    (try clear hi)
    (try clear ho0)
    refine hK.out _ _ ⟨v207, v210, v213, .slice Ao25 y215.length co25, v219, m13_, (by rw [ha.out]; exact putSel_upk 8 hb_ rfl rfl rfl), fun h0_ => absurd ((hon 11 (by kernel_rfl)).symm.trans h0_) (by decide), (by (with_reducible repeat (first | refine blk_drewN ?_ _ | refine blk_drew ?_ | refine blk_alloc ?_ _)); exact BK201.out), (by repeat (first | (with_reducible first | exact HB.out | apply below_alloc | apply pw_below_drewN | apply below_drew1 | refine below_set ?_ GE201.out) | exact HB.out)), fun _ h1_ => absurd ((hon 11 (by kernel_rfl)).symm.trans h1_) (by decide), fun _ h1_ => absurd ((hon 11 (by kernel_rfl)).symm.trans h1_) (by decide), fun _ h1_ => absurd ((hon 11 (by kernel_rfl)).symm.trans h1_) (by decide), fun _ => (Nw_ HO217.out), fun _ => (Rw_ HO220.out), fun h0_ => absurd ((hoff 13 (by kernel_rfl)).symm.trans h0_) (by decide)⟩
   refine steps_cons ?_ ?_
   ·rintro b a w' ⟨v207, v210, v213, v216, v219, m13_, ha, Q_HO205, Q_BK201, Q_HB, Q_HO208, Q_HO211, Q_HO214, Q_HO217, Q_HO220, Q_X13_⟩ hb_ hon hoff
    refine ⟨_, rfl, fun K hK => ?_⟩
    have e22 : a.tmps[22]? = some (v219) := by rw [ha]; exact putSel_on (e := (12, 22, v219)) 8 rfl rfl (hon 12 (by kernel_rfl)) rfl
    replace ha := m_ ha
    have BK201 := m_ Q_BK201
    have HB := m_ Q_HB
    have HO217 := m_ (Q_HO217 (hon 11 (by kernel_rfl)))
    have HO220 := m_ (Q_HO220 (hon 12 (by kernel_rfl)))
    refine value_ (w1 := w') (v := v219) (by rfl) rfl ?_ ?_
    ·go_simp
     (try simp only [i64_w])
     try rfl
    refine hK.out _ _ ⟨v207, v210, v213, v216, v219, (v219), (by rw [ha.out]; exact putSel_upk 9 hb_ rfl rfl rfl), fun h0_ => absurd ((hon 11 (by kernel_rfl)).symm.trans h0_) (by decide), Q_BK201, Q_HB, fun _ h1_ => absurd ((hon 11 (by kernel_rfl)).symm.trans h1_) (by decide), fun _ h1_ => absurd ((hon 11 (by kernel_rfl)).symm.trans h1_) (by decide), fun _ h1_ => absurd ((hon 11 (by kernel_rfl)).symm.trans h1_) (by decide), Q_HO217, Q_HO220, fun _ => rfl⟩
   refine steps_cons ?_ ?_
   ·rintro b a w' ⟨v207, v210, v213, v216, v219, m13_, ha, Q_HO205, Q_BK201, Q_HB, Q_HO208, Q_HO211, Q_HO214, Q_HO217, Q_HO220, Q_X13_⟩ hb_ hon hoff
    refine ⟨_, rfl, fun K hK => ?_⟩
    replace ha := m_ ha
    have BK201 := m_ Q_BK201
    have HB := m_ Q_HB
    have HO217 := m_ (Q_HO217 (hon 11 (by kernel_rfl)))
    have HO220 := m_ (Q_HO220 (hon 12 (by kernel_rfl)))
    refine value_ (w1 := w') (v := .int .i64 0) (by rfl) rfl ?_ ?_
    ·go_simp
     (try simp only [i64_w])
     try rfl
    refine hK.out _ _ ⟨v207, v210, v213, v216, v219, m13_, (by rw [ha.out]; exact putSel_upk 10 hb_ rfl rfl rfl), fun h0_ => absurd ((hon 11 (by kernel_rfl)).symm.trans h0_) (by decide), Q_BK201, Q_HB, fun _ h1_ => absurd ((hon 11 (by kernel_rfl)).symm.trans h1_) (by decide), fun _ h1_ => absurd ((hon 11 (by kernel_rfl)).symm.trans h1_) (by decide), fun _ h1_ => absurd ((hon 11 (by kernel_rfl)).symm.trans h1_) (by decide), Q_HO217, Q_HO220, Q_X13_⟩
   exact steps_nil
  rintro b a w26 hall ⟨v207, v210, v213, v216, v219, m13_, ha, Q_HO205, Q_BK201, Q_HB, Q_HO208, Q_HO211, Q_HO214, Q_HO217, Q_HO220, Q_X13_⟩
  clear BK201 HB HO205
  have hb1_ := hall 1 (by kernel_rfl)
  have hb2_ := hall 2 (by kernel_rfl)
  have hb3_ := hall 3 (by kernel_rfl)
  have hb5_ := hall 5 (by kernel_rfl)
  have hb6_ := hall 6 (by kernel_rfl)
  have hb8_ := hall 8 (by kernel_rfl)
  have hb9_ := hall 9 (by kernel_rfl)
  have hb11_ := hall 11 (by kernel_rfl)
  have hb12_ := hall 12 (by kernel_rfl)
  have hb13_ := hall 13 (by kernel_rfl)
  have hb14_ := hall 14 (by kernel_rfl)
  subst ha
  obtain rfl := Q_X13_ hb13_
  simp only [putSel, hb1_, hb2_, hb3_, hb5_, hb6_, hb8_, hb9_, hb11_, hb12_, hb13_, hb14_, if_true, Act.put, List.setIfInBounds_toArray, List.set_cons_zero, List.set_cons_succ]
  clear Q_HO205
  have BK201 := m_ Q_BK201
  clear Q_BK201
  have HB := m_ Q_HB
  clear Q_HB Q_HO208 Q_HO211 Q_HO214
  have HO217 := m_ (Q_HO217 hb11_)
  clear Q_HO217
  have HO220 := m_ (Q_HO220 hb12_)
  clear Q_HO220 hall hb1_ hb2_ hb3_ hb5_ hb6_ hb8_ hb9_ hb11_ hb12_ hb13_ hb14_
  try go_wp2
  go_ret2
  exact ⟨_, ew_, (Rz_ HO220.out), bz_⟩
 ·replace c3 := Bool.eq_false_iff.mpr c3
  subst c3
  have H1 : (some (([] : List Int), 1)) = some (r1, r2) := by rw [if_neg (show ¬ (false = true) by decide)] at H; exact H
  clear H
  have H := H1
  clear H1
  simp only [Option.some.injEq, Prod.mk.injEq] at H
  obtain ⟨rfl, rfl⟩ := H
  go_enter Try.func12, Try.ntmps12
  go_wp2_with (first | ((with_reducible refine gate_dst (N := 1) rfl ?_); refine bx_ 1 29 #[.int .u8 a0_0, .int .u32 a0_1, .int .u32 a0_2, .int .u32 a0_3, .int .u32 a0_4, .int .i64 a0_5, .int .u32 a0_6, .slice A0_7 l0_7.length c0_7, .int .i64 a0_8, .bool a0_9, .slice A0_10 l0_10.length c0_10] ?_; intro gb201 hg w27 hbox hb; have BK201 := m_ (hbox); have GW201 := m_ ((gw_ : w.heap.size ≤ gb201)); have GE201 := m_ ((gw_ : w.heap.size ≤ gb201)); replace HB := m_ (below_step bz_ hb); clear hb hbox hg; have hcz28 := cz11_ BK201.out) | ((with_reducible refine gate_callee (f := 14) rfl ?_); refine gL_ (some 6) Try.func14 #[.agg #[.int .u8 a0_0, .int .u32 a0_1, .int .u32 a0_2, .int .u32 a0_3, .int .u32 a0_4, .int .i64 a0_5, .int .u32 a0_6, .slice A0_7 l0_7.length c0_7, .int .i64 a0_8, .bool a0_9, .slice A0_10 l0_10.length c0_10]] ?_; (with_reducible refine (ofmsg_Right.calls k a0_0 a0_1 a0_2 a0_3 a0_4 a0_5 a0_6 _ _ l0_7 a0_8 a0_9 _ _ l0_10 false _ ?side1 ?side2 ?side3 ?side4 A2.out).mono ?_); (case side1 => exact Cd_ (Kd.C_below HR0_7.out HB.out)); (case side2 => exact HC0_7.out); (case side3 => exact Cd_ (Kd.C_below HR0_10.out HB.out)); (case side4 => exact HC0_10.out); rintro e w29 ⟨rfl, hb⟩; refine ⟨_, rfl, ?_⟩; replace BK201 := m_ (kl_ gb201 hb); replace HB := m_ (below_step bz_ hb); (try clear hb); (try clear hb2); (try clear hk); (try clear hi)))
  go_ret2
  exact ⟨_, ew_, (by first | exact Kd.R_nil _ _ _ _ _ | exact Kd.N_nil _ _ _ _ _ | exact Kd.V_nil _ _ _ _ _ | exact Kd.Q_nil _ _ _ _ _ | exact Kd.S_nil _ _ _ _ _), bz_⟩
end Go.Proofs.Ytboonfidioombaa.P

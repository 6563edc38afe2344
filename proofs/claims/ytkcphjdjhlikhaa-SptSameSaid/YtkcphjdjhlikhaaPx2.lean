/- For each Go function a Lean function, and the proof that a call comes to what it tells: made by program out of the translation (the kit's print, with texts by hand put in). No condition. -/
import Derived.Test.YtkcphjdjhlikhaaSq
import Derived.Test.YtkcphjdjhlikhaaPx0
import Derived.Test.YtkcphjdjhlikhaaPx1
namespace Go.Proofs.Ytkcphjdjhlikhaa.P
open Go.RowKit Go.Proofs.Ytkcphjdjhlikhaa.HRows Go.Proofs.YtkcphjdjhlikhaaW.PrintWords Go.Proofs.YtkcphjdjhlikhaaW.PrintLast Go.Proofs.YtkcphjdjhlikhaaW.PrintMore
attribute [local go_sem] max2_int min2_int max_two min_two max_three min_three max_four min_four   -- for this text's walks alone
set_option linter.unusedVariables false
set_option linter.unusedSimpArgs false

/-! ### spt_blank: function 27 -/
def spt_blank.f (a0_0 : Int) (l0_1 : List (S33)) : Option (List Int × List Int) := (slices_Repeat_int_int.f (([(-1)] : List Int)) a0_0).bind fun t108 => ((slices_Repeat_int_int.f (([(-1)] : List Int)) a0_0).bind fun t114 => (some (t108, t114)))
def spt_blank.T1 : Bool × List (List Nat × List Nat) := (true, [([], []), ([], []), ([1], [1]), ([0, 2], [0, 2]), ([], []), ([], []), ([5], [5]), ([4, 6, 3], [4, 6]), ([3, 7], [3, 7]), ([8, 7, 0, 1, 2, 3, 4, 5, 6, 7, 8], [8])])
def spt_blank.B1 : List Nat := [0, 0, 2, 7, 0, 0, 32, 127, 255, 511]
theorem spt_blank.tab1 : rtab .any (opsOf Try.f27 1) = spt_blank.T1 := by kernel_rfl
theorem spt_blank.bits1 : waitsOk spt_blank.T1.2 spt_blank.B1 = true := by kernel_rfl
set_option maxHeartbeats 8000000 in
set_option maxRecDepth 100000 in
theorem spt_blank.calls (a0_0 : Int) (A0_1 : Option Addr) (c0_1 : Nat) (l0_1 : List (S33)) (r1 : List Int) (r2 : List Int) (w : World) (hr0_1 : Kd.C k33 w A0_1 l0_1.length l0_1) (hc0_1 : l0_1.length ≤ c0_1) (h : spt_blank.f a0_0 l0_1 = some (r1, r2)) :
  Calls Try.prog 27 #[.agg #[.int .i64 a0_0, .slice A0_1 l0_1.length c0_1]] w fun e w' => ∃ v0_ v1_ : Value, e = .returned (.agg #[v0_, v1_]) ∧ Kd.R (Kd.int .i64) 3 w' w.heap.size (fun k_ => some k_ ≠ (v1_ : Value).ownBlock) v0_ r1 ∧ Kd.R (Kd.int .i64) 3 w' w.heap.size (fun k_ => some k_ ≠ (v0_ : Value).ownBlock) v1_ r2 ∧ Below w.heap.size w w' := by
 have hu24 := Try.underlying24
 have hu29 := Try.underlying29
 have HR0_1 := m_ hr0_1
 have HC0_1 := m_ hc0_1
 clear hr0_1 hc0_1
 have HB := m_ (Below.refl w.heap.size w)
 have H : ((slices_Repeat_int_int.f (([(-1)] : List Int)) a0_0).bind fun t108 => ((slices_Repeat_int_int.f (([(-1)] : List Int)) a0_0).bind fun t114 => (some (t108, t114)))) = some (r1, r2) := h
 clear h
 obtain ⟨y105, hy105⟩ : ∃ y_ : List Int, y_ = (([(-1)] : List Int)) := ⟨_, rfl⟩
 replace H : ((slices_Repeat_int_int.f y105 a0_0).bind fun t108 => ((slices_Repeat_int_int.f (([(-1)] : List Int)) a0_0).bind fun t114 => (some (t108, t114)))) = some (r1, r2) := by first | (rw [hy105]; with_reducible exact H) | (have H2_ := (Option.bind_some _ _).symm.trans H; rw [hy105]; with_reducible exact H2_) | (have H2_ := (Option.bind_some _ _).symm.trans H; with_reducible exact H2_) | with_reducible exact H | (rw [hy105]; exact H) | exact H
 have Ny105 := m_ hy105
 clear hy105
 replace H := Option.bind_eq_some_iff.mp H
 obtain ⟨t108, A20, H⟩ := H
 replace H : ((slices_Repeat_int_int.f (([(-1)] : List Int)) a0_0).bind fun t114 => (some (t108, t114))) = some (r1, r2) := H
 have A2 := m_ A20
 clear A20
 obtain ⟨y111, hy111⟩ : ∃ y_ : List Int, y_ = (([(-1)] : List Int)) := ⟨_, rfl⟩
 replace H : ((slices_Repeat_int_int.f y111 a0_0).bind fun t114 => (some (t108, t114))) = some (r1, r2) := by first | (rw [hy111]; with_reducible exact H) | (have H2_ := (Option.bind_some _ _).symm.trans H; rw [hy111]; with_reducible exact H2_) | (have H2_ := (Option.bind_some _ _).symm.trans H; with_reducible exact H2_) | with_reducible exact H | (rw [hy111]; exact H) | exact H
 have Ny111 := m_ hy111
 clear hy111
 replace H := Option.bind_eq_some_iff.mp H
 obtain ⟨t114, A30, H⟩ := H
 replace H : (some (t108, t114)) = some (r1, r2) := H
 have A3 := m_ A30
 clear A30
 simp only [Option.some.injEq, Prod.mk.injEq] at H
 obtain ⟨rfl, rfl⟩ := H
 go_enter Try.func27, Try.ntmps27
 try go_wp2_with (first | ((with_reducible refine gate_dst (N := 1) rfl ?_); refine bx_ 1 24 #[.int .i64 a0_0, .slice A0_1 l0_1.length c0_1] ?_; intro gb103 hg w4 hbox hb; have BK103 := m_ (hbox); have GW103 := m_ ((gw_ : w.heap.size ≤ gb103)); have GE103 := m_ ((gw_ : w.heap.size ≤ gb103)); replace HB := m_ (below_step bz_ hb); clear hb hbox hg) | ((with_reducible refine gate_dst (N := 2) rfl ?_); refine bx_ 2 29 #[.slice none 0 0, .slice none 0 0] ?_; intro gb104 hg w5 hbox hb; have BK104 := m_ (hbox); have GW104 := m_ ((gw_ : w.heap.size ≤ gb104)); have GE104 := m_ ((gw_ : w.heap.size ≤ gb104)); have NB103_104 := m_ ((gl_ : gb103 ≠ gb104)); have NB104_103 := m_ ((gr_ : gb104 ≠ gb103)); replace BK103 := m_ (kl_ gb103 hb); replace HB := m_ (below_step bz_ hb); clear hb hbox hg))
 replace BK103 := m_ (blk_drew BK103.out)
 replace BK104 := m_ (blk_drew BK104.out)
 replace HB := m_ (below_drew1 HB.out)
 refine start_ (n := 10) (S := fun w' => w'.cell? ⟨gb103, 0, none⟩ = some (.int .i64 a0_0) ∧ w'.cell? ⟨gb103, 1, none⟩ = some (.slice A0_1 l0_1.length c0_1)) (ds := []) (bs_ 10 0) (by kernel_rfl) rfl rfl ⟨(blk_cell BK103.out 0).trans rfl, (blk_cell BK103.out 1).trans rfl⟩ (fun hHeld => ?_); refine with_tabW spt_blank.tab1 spt_blank.bits1 (fun HT_ HW_ => ?_)
 generalize w5.drew = w6 at BK103 BK104 HB hHeld ⊢
 refine pz_ 1 4 ?_
 refine pz_ 5 8 ?_
 refine tz_ 2 5 ?_
 refine tz_ 6 9 ?_
 refine join_ (σ := Value × Value × Value) 3 (bs_ 10 127) (fun s_ => [(3, s_.1), (6, s_.2.1), (7, s_.2.2)]) (fun s_ w' => (w'.cell? ⟨gb103, 0, none⟩ = some (.int .i64 a0_0) ∧ w'.cell? ⟨gb103, 1, none⟩ = some (.slice A0_1 l0_1.length c0_1)) ∧ (Kd.R (Kd.int .i64) 3 w' w.heap.size (fun k_ => some k_ ≠ (s_.2.1 : Value).ownBlock ∧ some k_ ≠ (s_.2.2 : Value).ownBlock) s_.1 y105) ∧ (Kd.R (Kd.int .i64) 3 w' w.heap.size (fun k_ => some k_ ≠ (s_.1 : Value).ownBlock ∧ some k_ ≠ (s_.2.2 : Value).ownBlock) s_.2.1 t108) ∧ (Kd.R (Kd.int .i64) 3 w' w.heap.size (fun k_ => some k_ ≠ (s_.1 : Value).ownBlock ∧ some k_ ≠ (s_.2.1 : Value).ownBlock) s_.2.2 y111) ∧ (w'.heap[gb103]? = some (.cells #[.int .i64 a0_0, .slice A0_1 l0_1.length c0_1] 24 (0, 0))) ∧ (w'.heap[gb104]? = some (.cells #[.slice none 0 0, .slice none 0 0] 29 (0, 0))) ∧ (Below w.heap.size w w')) ?_ ?_
 rotate_left
 ·intro hCont
  refine two_ (i := 0) (j := 4) (Ni := some 3) (Nj := some 7) (bs_ 10 103) (bs_ 10 118) rfl rfl rfl rfl (two_of HT_.out (by kernel_rfl)) (by decide) (by decide) (fun K hK => ?_) (fun K hK => ?_)
  ·skip
   refine Kd.R_lit_step (Kd.int .i64) _ 3 ?hg (N := 3) ?hd (xs := ([(-1)] : List Int)) (inner := [.int .i64 (-1)]) (ok := fun _ => True) (okp := fun _ => True) ?hr ?hp (fun _ hk => hk) trivial (Below.refl _ _) (Nat.le_refl _) (by simp) ?_; (case hd => rfl); (case hg => rfl); (case hr => first | (go_simp; done) | (go_simp; rfl)); (case hp => exact (Reps.one (show Kd.M (Kd.int .i64) _ _ _ (-1) [.int .i64 (-1)] from rfl) (Reps.none _ _)))
   intro v106 w7 ho8 hb hg_ hnew_
   clear hg_ hnew_
   (first | rw [← Ny105.out] at ho8 | (simp only [Int.reduceToNat] at ho8; rw [← Ny105.out] at ho8))
   have HO107 := m_ (Kd.R_lower ho8 (below_size bz_))
   replace BK103 := m_ (kl_ gb103 hb)
   replace BK104 := m_ (kl_ gb104 hb)
   replace HB := m_ (below_step bz_ hb)
   clear hb ho8
   obtain ⟨Ao9, co9, eo9⟩ := Kd.R_slice HO107.out
   (first | subst eo9 | (injection eo9 with f1_ f2_ f3_; have f4_ := f1_.symm; have f5_ := f3_.symm; clear f1_ f2_ f3_; subst f4_; subst f5_))
   refine hK.out _ _ ⟨(blk_cell BK103.out 0).trans rfl, (blk_cell BK103.out 1).trans rfl⟩ (fun hHeld => ?_)
   clear hK K
   refine nz_ (some 3) ?_
   refine two_ (i := 3) (j := 4) (Ni := some 6) (Nj := some 7) (bs_ 10 111) (bs_ 10 119) rfl rfl rfl rfl (two_of HT_.out (by kernel_rfl)) (by decide) (by decide) (fun K hK => ?_) (fun K hK => ?_)
   ·skip
    refine gz_ Try.func41 #[.slice Ao9 y105.length co9, .int .i64 a0_0] ?_
    with_reducible refine (slices_Repeat_int_int.calls _ _ y105 a0_0 t108 _ ?side1 ?side2 A2.out).mono ?_
    (case side1 => exact Cd_ (Kd.R_reads' HO107.out).2.2)
    (case side2 => exact (Kd.R_reads' HO107.out).2.1)
    rintro e w10 ⟨v109, rfl, ho0, hb⟩
    refine ⟨_, rfl, ?_⟩
    have HO110 := m_ (Kd.R_lower (Kd.R_new' ho0 (Kd.R_lt (Rz_ HO107.out))) (below_size bz_))
    replace HO107 := m_ (Kd.R_elder' (Rz_ HO107.out) (Kd.R_base ho0) hb)
    replace BK103 := m_ (kl_ gb103 hb)
    replace BK104 := m_ (kl_ gb104 hb)
    replace HB := m_ (below_step bz_ hb)
    (try clear hb)
    (try clear hb2)
    (try clear hk)
    (try clear hi)
    (try clear ho0)
    refine hK.out _ _ ⟨(blk_cell BK103.out 0).trans rfl, (blk_cell BK103.out 1).trans rfl⟩ (fun hHeld => ?_)
    clear hK K
    refine nz_ (some 6) ?_
    refine oz_ 4 (some 7) (fun K hK => ?_)
    refine Kd.R_lit_step (Kd.int .i64) _ 3 ?hg (N := 7) ?hd (xs := ([(-1)] : List Int)) (inner := [.int .i64 (-1)]) (ok := fun _ => True) (okp := fun _ => True) ?hr ?hp (fun _ hk => hk) trivial (Below.refl _ _) (Nat.le_refl _) (by simp) ?_; (case hd => rfl); (case hg => rfl); (case hr => first | (go_simp; done) | (go_simp; rfl)); (case hp => exact (Reps.one (show Kd.M (Kd.int .i64) _ _ _ (-1) [.int .i64 (-1)] from rfl) (Reps.none _ _)))
    intro v112 w11 ho12 hb hg_ hnew_
    clear hg_ hnew_
    (first | rw [← Ny111.out] at ho12 | (simp only [Int.reduceToNat] at ho12; rw [← Ny111.out] at ho12))
    have HO113 := m_ (Kd.R_lower (Kd.R_new' (Kd.R_new' ho12 (Kd.R_lt (Rz_ HO107.out))) (Kd.R_lt (Rz_ HO110.out))) (below_size bz_))
    replace HO107 := m_ (Kd.R_elder' (Rz_ HO107.out) (Kd.R_base ho12) hb)
    replace HO110 := m_ (Kd.R_elder' (Rz_ HO110.out) (Kd.R_base ho12) hb)
    replace BK103 := m_ (kl_ gb103 hb)
    replace BK104 := m_ (kl_ gb104 hb)
    replace HB := m_ (below_step bz_ hb)
    clear hb ho12
    refine hK.out _ _ ⟨(blk_cell BK103.out 0).trans rfl, (blk_cell BK103.out 1).trans rfl⟩ (fun hHeld => ?_)
    clear hK K
    refine nz_ (some 7) ?_
    exact norm_ (by simp only [putAll, Act.put, List.setIfInBounds_toArray, List.set_cons_zero, List.set_cons_succ]) (hCont (.slice Ao9 y105.length co9, v109, v112) _ ⟨hHeld, (Ry_ (Kd.R_mono HO107.out (fun _ hk => ⟨hk.1.2, hk.2⟩))), (Ry_ (Kd.R_mono HO110.out (fun _ hk => ⟨hk.1.2, hk.2⟩))), (Ry_ (Kd.R_mono HO113.out (fun _ hk => ⟨hk.1.2, hk.2⟩))), kz_, kz_, bz_⟩)
   ·skip
    refine Kd.R_lit_step (Kd.int .i64) _ 3 ?hg (N := 7) ?hd (xs := ([(-1)] : List Int)) (inner := [.int .i64 (-1)]) (ok := fun _ => True) (okp := fun _ => True) ?hr ?hp (fun _ hk => hk) trivial (Below.refl _ _) (Nat.le_refl _) (by simp) ?_; (case hd => rfl); (case hg => rfl); (case hr => first | (go_simp; done) | (go_simp; rfl)); (case hp => exact (Reps.one (show Kd.M (Kd.int .i64) _ _ _ (-1) [.int .i64 (-1)] from rfl) (Reps.none _ _)))
    intro v112 w9 ho10 hb hg_ hnew_
    clear hg_ hnew_
    (first | rw [← Ny111.out] at ho10 | (simp only [Int.reduceToNat] at ho10; rw [← Ny111.out] at ho10))
    have HO113 := m_ (Kd.R_lower (Kd.R_new' ho10 (Kd.R_lt (Rz_ HO107.out))) (below_size bz_))
    replace HO107 := m_ (Kd.R_elder' (Rz_ HO107.out) (Kd.R_base ho10) hb)
    replace BK103 := m_ (kl_ gb103 hb)
    replace BK104 := m_ (kl_ gb104 hb)
    replace HB := m_ (below_step bz_ hb)
    clear hb ho10
    obtain ⟨Ao11, co11, eo11⟩ := Kd.R_slice HO107.out
    (first | subst eo11 | (injection eo11 with f1_ f2_ f3_; have f4_ := f1_.symm; have f5_ := f3_.symm; clear f1_ f2_ f3_; subst f4_; subst f5_))
    refine hK.out _ _ ⟨(blk_cell BK103.out 0).trans rfl, (blk_cell BK103.out 1).trans rfl⟩ (fun hHeld => ?_)
    clear hK K
    refine nz_ (some 7) ?_
    refine oz_ 3 (some 6) (fun K hK => ?_)
    refine gz_ Try.func41 #[.slice Ao11 y105.length co11, .int .i64 a0_0] ?_
    with_reducible refine (slices_Repeat_int_int.calls _ _ y105 a0_0 t108 _ ?side1 ?side2 A2.out).mono ?_
    (case side1 => exact Cd_ (Kd.R_reads' HO107.out).2.2)
    (case side2 => exact (Kd.R_reads' HO107.out).2.1)
    rintro e w12 ⟨v109, rfl, ho0, hb⟩
    refine ⟨_, rfl, ?_⟩
    have HO110 := m_ (Kd.R_lower (Kd.R_new' (Kd.R_new' ho0 (Kd.R_lt (Rz_ HO107.out))) (Kd.R_lt (Rz_ HO113.out))) (below_size bz_))
    replace HO107 := m_ (Kd.R_elder' (Rz_ HO107.out) (Kd.R_base ho0) hb)
    replace HO113 := m_ (Kd.R_elder' (Rz_ HO113.out) (Kd.R_base ho0) hb)
    replace BK103 := m_ (kl_ gb103 hb)
    replace BK104 := m_ (kl_ gb104 hb)
    replace HB := m_ (below_step bz_ hb)
    (try clear hb)
    (try clear hb2)
    (try clear hk)
    (try clear hi)
    (try clear ho0)
    refine hK.out _ _ ⟨(blk_cell BK103.out 0).trans rfl, (blk_cell BK103.out 1).trans rfl⟩ (fun hHeld => ?_)
    clear hK K
    refine nz_ (some 6) ?_
    exact norm_ (by simp only [putAll, Act.put, List.setIfInBounds_toArray, List.set_cons_zero, List.set_cons_succ]) (hCont (.slice Ao11 y105.length co11, v109, v112) _ ⟨hHeld, (Ry_ (Kd.R_mono HO107.out (fun _ hk => ⟨hk.2, hk.1.2⟩))), (Ry_ (Kd.R_mono HO110.out (fun _ hk => ⟨hk.1.2, hk.2⟩))), (Ry_ (Kd.R_mono HO113.out (fun _ hk => ⟨hk.1.2, hk.2⟩))), kz_, kz_, bz_⟩)
  ·skip
   refine Kd.R_lit_step (Kd.int .i64) _ 3 ?hg (N := 7) ?hd (xs := ([(-1)] : List Int)) (inner := [.int .i64 (-1)]) (ok := fun _ => True) (okp := fun _ => True) ?hr ?hp (fun _ hk => hk) trivial (Below.refl _ _) (Nat.le_refl _) (by simp) ?_; (case hd => rfl); (case hg => rfl); (case hr => first | (go_simp; done) | (go_simp; rfl)); (case hp => exact (Reps.one (show Kd.M (Kd.int .i64) _ _ _ (-1) [.int .i64 (-1)] from rfl) (Reps.none _ _)))
   intro v112 w7 ho8 hb hg_ hnew_
   clear hg_ hnew_
   (first | rw [← Ny111.out] at ho8 | (simp only [Int.reduceToNat] at ho8; rw [← Ny111.out] at ho8))
   have HO113 := m_ (Kd.R_lower ho8 (below_size bz_))
   replace BK103 := m_ (kl_ gb103 hb)
   replace BK104 := m_ (kl_ gb104 hb)
   replace HB := m_ (below_step bz_ hb)
   clear hb ho8
   refine hK.out _ _ ⟨(blk_cell BK103.out 0).trans rfl, (blk_cell BK103.out 1).trans rfl⟩ (fun hHeld => ?_)
   clear hK K
   refine nz_ (some 7) ?_
   refine oz_ 0 (some 3) (fun K hK => ?_)
   refine Kd.R_lit_step (Kd.int .i64) _ 3 ?hg (N := 3) ?hd (xs := ([(-1)] : List Int)) (inner := [.int .i64 (-1)]) (ok := fun _ => True) (okp := fun _ => True) ?hr ?hp (fun _ hk => hk) trivial (Below.refl _ _) (Nat.le_refl _) (by simp) ?_; (case hd => rfl); (case hg => rfl); (case hr => first | (go_simp; done) | (go_simp; rfl)); (case hp => exact (Reps.one (show Kd.M (Kd.int .i64) _ _ _ (-1) [.int .i64 (-1)] from rfl) (Reps.none _ _)))
   intro v106 w9 ho10 hb hg_ hnew_
   clear hg_ hnew_
   (first | rw [← Ny105.out] at ho10 | (simp only [Int.reduceToNat] at ho10; rw [← Ny105.out] at ho10))
   have HO107 := m_ (Kd.R_lower (Kd.R_new' ho10 (Kd.R_lt (Rz_ HO113.out))) (below_size bz_))
   replace HO113 := m_ (Kd.R_elder' (Rz_ HO113.out) (Kd.R_base ho10) hb)
   replace BK103 := m_ (kl_ gb103 hb)
   replace BK104 := m_ (kl_ gb104 hb)
   replace HB := m_ (below_step bz_ hb)
   clear hb ho10
   obtain ⟨Ao11, co11, eo11⟩ := Kd.R_slice HO107.out
   (first | subst eo11 | (injection eo11 with f1_ f2_ f3_; have f4_ := f1_.symm; have f5_ := f3_.symm; clear f1_ f2_ f3_; subst f4_; subst f5_))
   refine hK.out _ _ ⟨(blk_cell BK103.out 0).trans rfl, (blk_cell BK103.out 1).trans rfl⟩ (fun hHeld => ?_)
   clear hK K
   refine nz_ (some 3) ?_
   refine oz_ 3 (some 6) (fun K hK => ?_)
   refine gz_ Try.func41 #[.slice Ao11 y105.length co11, .int .i64 a0_0] ?_
   with_reducible refine (slices_Repeat_int_int.calls _ _ y105 a0_0 t108 _ ?side1 ?side2 A2.out).mono ?_
   (case side1 => exact Cd_ (Kd.R_reads' HO107.out).2.2)
   (case side2 => exact (Kd.R_reads' HO107.out).2.1)
   rintro e w12 ⟨v109, rfl, ho0, hb⟩
   refine ⟨_, rfl, ?_⟩
   have HO110 := m_ (Kd.R_lower (Kd.R_new' (Kd.R_new' ho0 (Kd.R_lt (Rz_ HO113.out))) (Kd.R_lt (Rz_ HO107.out))) (below_size bz_))
   replace HO113 := m_ (Kd.R_elder' (Rz_ HO113.out) (Kd.R_base ho0) hb)
   replace HO107 := m_ (Kd.R_elder' (Rz_ HO107.out) (Kd.R_base ho0) hb)
   replace BK103 := m_ (kl_ gb103 hb)
   replace BK104 := m_ (kl_ gb104 hb)
   replace HB := m_ (below_step bz_ hb)
   (try clear hb)
   (try clear hb2)
   (try clear hk)
   (try clear hi)
   (try clear ho0)
   refine hK.out _ _ ⟨(blk_cell BK103.out 0).trans rfl, (blk_cell BK103.out 1).trans rfl⟩ (fun hHeld => ?_)
   clear hK K
   refine nz_ (some 6) ?_
   exact norm_ (by simp only [putAll, Act.put, List.setIfInBounds_toArray, List.set_cons_zero, List.set_cons_succ]) (hCont (.slice Ao11 y105.length co11, v109, v112) _ ⟨hHeld, (Ry_ (Kd.R_mono HO107.out (fun _ hk => ⟨hk.2, hk.1.2⟩))), (Ry_ (Kd.R_mono HO110.out (fun _ hk => ⟨hk.2, hk.1.2⟩))), (Ry_ (Kd.R_mono HO113.out (fun _ hk => ⟨hk.1.2, hk.2⟩))), kz_, kz_, bz_⟩)
 rintro ⟨v106, v109, v112⟩ w13 ⟨hS_, h0_, h1_, h2_, h3_, h4_, h5_⟩
 have n0_ : Aside0 (Kd.R (Kd.int .i64) 3 w13 w.heap.size (fun k_ => some k_ ≠ (v109 : Value).ownBlock ∧ some k_ ≠ (v112 : Value).ownBlock) v106 y105) := ⟨h0_⟩
 have n1_ : Aside0 (Kd.R (Kd.int .i64) 3 w13 w.heap.size (fun k_ => some k_ ≠ (v106 : Value).ownBlock ∧ some k_ ≠ (v112 : Value).ownBlock) v109 t108) := ⟨h1_⟩
 have n2_ : Aside0 (Kd.R (Kd.int .i64) 3 w13 w.heap.size (fun k_ => some k_ ≠ (v106 : Value).ownBlock ∧ some k_ ≠ (v109 : Value).ownBlock) v112 y111) := ⟨h2_⟩
 have n3_ : Aside0 (w13.heap[gb103]? = some (.cells #[.int .i64 a0_0, .slice A0_1 l0_1.length c0_1] 24 (0, 0))) := ⟨h3_⟩
 have n4_ : Aside0 (w13.heap[gb104]? = some (.cells #[.slice none 0 0, .slice none 0 0] 29 (0, 0))) := ⟨h4_⟩
 have n5_ : Aside0 (Below w.heap.size w w13) := ⟨h5_⟩
 clear BK103 BK104 HB h0_ h1_ h2_ h3_ h4_ h5_
 have HO107 := n0_
 have HO110 := n1_
 have HO113 := n2_
 have BK103 := n3_
 have BK104 := n4_
 have HB := n5_
 clear n0_ n1_ n2_ n3_ n4_ n5_
 have hHeld : w13.cell? ⟨gb103, 0, none⟩ = some (.int .i64 a0_0) ∧ w13.cell? ⟨gb103, 1, none⟩ = some (.slice A0_1 l0_1.length c0_1) := hS_
 obtain ⟨Ao14, co14, eo14⟩ := Kd.R_slice HO113.out
 (first | subst eo14 | (injection eo14 with f1_ f2_ f3_; have f4_ := f1_.symm; have f5_ := f3_.symm; clear f1_ f2_ f3_; subst f4_; subst f5_))
 refine norm_ (a' := ?_) ?_ ?_
 rotate_left
 ·simp only [putAll, Act.put, List.setIfInBounds_toArray, List.set_cons_zero, List.set_cons_succ]
  rfl
 refine oz_ 7 (some 10) (fun K hK => ?_)
 refine gz_ Try.func41 #[.slice Ao14 y111.length co14, .int .i64 a0_0] ?_
 with_reducible refine (slices_Repeat_int_int.calls _ _ y111 a0_0 t114 _ ?side1 ?side2 A3.out).mono ?_
 (case side1 => exact Cd_ (Kd.R_reads' HO113.out).2.2)
 (case side2 => exact (Kd.R_reads' HO113.out).2.1)
 rintro e w15 ⟨v115, rfl, ho0, hb⟩
 refine ⟨_, rfl, ?_⟩
 have HO116 := m_ (Kd.R_lower (Kd.R_new' (Kd.R_new' (Kd.R_new' ho0 (Kd.R_lt (Rz_ HO107.out))) (Kd.R_lt (Rz_ HO110.out))) (Kd.R_lt (Rz_ HO113.out))) (below_size bz_))
 replace HO107 := m_ (Kd.R_elder' (Rz_ HO107.out) (Kd.R_base ho0) hb)
 replace HO110 := m_ (Kd.R_elder' (Rz_ HO110.out) (Kd.R_base ho0) hb)
 replace HO113 := m_ (Kd.R_elder' (Rz_ HO113.out) (Kd.R_base ho0) hb)
 replace BK103 := m_ (kl_ gb103 hb)
 replace BK104 := m_ (kl_ gb104 hb)
 replace HB := m_ (below_step bz_ hb)
 (try clear hb)
 (try clear hb2)
 (try clear hk)
 (try clear hi)
 (try clear ho0)
 obtain ⟨Ao16, co16, eo16⟩ := Kd.R_slice HO116.out
 (first | subst eo16 | (injection eo16 with f1_ f2_ f3_; have f4_ := f1_.symm; have f5_ := f3_.symm; clear f1_ f2_ f3_; subst f4_; subst f5_))
 obtain ⟨Ao17, co17, eo17⟩ := Kd.R_slice HO110.out
 (first | subst eo17 | (injection eo17 with f1_ f2_ f3_; have f4_ := f1_.symm; have f5_ := f3_.symm; clear f1_ f2_ f3_; subst f4_; subst f5_))
 refine hK.out _ _ ⟨(blk_cell BK103.out 0).trans rfl, (blk_cell BK103.out 1).trans rfl⟩ (fun hHeld => ?_)
 clear hK K
 refine nz_ (some 10) ?_
 refine pz_ 8 11 ?_
 refine oz_ 9 none (fun K hK => ?_)
 have hs18 : w15.cell? ⟨gb104, 0, none⟩ = some (.slice none 0 0) := (blk_cell BK104.out 0).trans rfl
 have hfs18 := blk_frozen BK104.out 0
 have hns18_0 := NB103_104.out
 have hms18_0 := NB104_103.out
 have hs19 : w15.cell? ⟨gb104, 1, none⟩ = some (.slice none 0 0) := (blk_cell BK104.out 1).trans rfl
 have hfs19 := blk_frozen BK104.out 1
 have hns19_0 := NB103_104.out
 have hms19_0 := NB104_103.out
 refine skip_ (w1 := ?_) (by rfl) rfl ?_ ?_
 rotate_left
 ·go_simp
  rfl
 refine hK.out _ _ ⟨((cell_far (p := ⟨gb104, _, none⟩) NB103_104.out _).trans (((cell_far (p := ⟨gb104, _, none⟩) NB103_104.out _).trans (hHeld.1)))), ((cell_far (p := ⟨gb104, _, none⟩) NB103_104.out _).trans (((cell_far (p := ⟨gb104, _, none⟩) NB103_104.out _).trans (hHeld.2))))⟩ (fun hHeld => ?_)
 clear hK K
 refine dz_ ?_
 try go_wp2
 refine bodyPost_ret (results_cell_row rfl _ _ gb104 29 #[.slice Ao17 t108.length co17, .slice Ao16 t114.length co16] (0, 0) _ rfl kb_ Try.underlying29 rfl (by kernel_rfl)) rfl ?_
 exact ⟨_, _, ew_, (Kd.R_mono (Rf_ (Kd.R_types HO110.out BK104.out (by decide))) (fun _ hk => hk.1.2)), (Kd.R_mono (Rf_ (Kd.R_types HO116.out BK104.out (by decide))) (fun _ hk => hk.1.1.2)), bz_⟩

/-! ### graph_over: function 45 -/
def graph_over.f (a0_0 : Int) (a0_1 : Int) (a0_2 : Int) (a0_3 : Bool) (a1 : Int) : Option (Int × Bool) := if a1 = a0_0 then (some (a0_1, true)) else (if a1 = a0_1 then (some (a0_0, true)) else (some (0, false)))
set_option maxHeartbeats 8000000 in
set_option maxRecDepth 100000 in
theorem graph_over.calls (a0_0 : Int) (a0_1 : Int) (a0_2 : Int) (a0_3 : Bool) (a1 : Int) (r1 : Int) (r2 : Bool) (w : World) (h : graph_over.f a0_0 a0_1 a0_2 a0_3 a1 = some (r1, r2)) :
  Calls Try.prog 45 #[.agg #[.int .i64 a0_0, .int .i64 a0_1, .int .i64 a0_2, .bool a0_3], .int .i64 a1] w fun e w' => e = .returned (.tuple #[.int .i64 r1, .bool r2]) ∧ Below w.heap.size w w' := by
 have hu33 := Try.underlying33
 have HB := m_ (Below.refl w.heap.size w)
 have H : (if a1 = a0_0 then (some (a0_1, true)) else (if a1 = a0_1 then (some (a0_0, true)) else (some (0, false)))) = some (r1, r2) := h
 clear h
 by_cases c3 : a1 = a0_0
 ·rw [if_pos c3] at H
  have c3b0 : (a1 == a0_0) = true := beq_iff_eq.mpr c3
  have c3b1 : (a1 != a0_0) = false := bne_eq_false_iff_eq.mpr c3
  clear c3
  simp only [Option.some.injEq, Prod.mk.injEq] at H
  obtain ⟨rfl, rfl⟩ := H
  go_enter Try.func45, Try.ntmps45
  go_wp2_with (first | ((with_reducible refine gate_dst (N := 2) rfl ?_); refine bx_ 2 33 #[.int .i64 a0_0, .int .i64 a0_1, .int .i64 a0_2, .bool a0_3] ?_; intro gb117 hg w4 hbox hb; have BK117 := m_ (hbox); have GW117 := m_ ((gw_ : w.heap.size ≤ gb117)); have GE117 := m_ ((gw_ : w.heap.size ≤ gb117)); replace HB := m_ (below_step bz_ hb); clear hb hbox hg; have hcz5 := cz4_ BK117.out))
  go_ret2
  exact ⟨ew_, bz_⟩
 ·rw [if_neg c3] at H
  have c3b0 : (a1 == a0_0) = false := beq_eq_false_iff_ne.mpr c3
  have c3b1 : (a1 != a0_0) = true := bne_iff_ne.mpr c3
  by_cases c6 : a1 = a0_1
  ·rw [if_pos c6] at H
   have c6b0 : (a1 == a0_1) = true := beq_iff_eq.mpr c6
   have c6b1 : (a1 != a0_1) = false := bne_eq_false_iff_eq.mpr c6
   clear c6
   simp only [Option.some.injEq, Prod.mk.injEq] at H
   obtain ⟨rfl, rfl⟩ := H
   go_enter Try.func45, Try.ntmps45
   go_wp2_with (first | ((with_reducible refine gate_dst (N := 2) rfl ?_); refine bx_ 2 33 #[.int .i64 a0_0, .int .i64 a0_1, .int .i64 a0_2, .bool a0_3] ?_; intro gb117 hg w7 hbox hb; have BK117 := m_ (hbox); have GW117 := m_ ((gw_ : w.heap.size ≤ gb117)); have GE117 := m_ ((gw_ : w.heap.size ≤ gb117)); replace HB := m_ (below_step bz_ hb); clear hb hbox hg; have hcz8 := cz4_ BK117.out))
   go_ret2
   exact ⟨ew_, bz_⟩
  ·rw [if_neg c6] at H
   have c6b0 : (a1 == a0_1) = false := beq_eq_false_iff_ne.mpr c6
   have c6b1 : (a1 != a0_1) = true := bne_iff_ne.mpr c6
   simp only [Option.some.injEq, Prod.mk.injEq] at H
   obtain ⟨rfl, rfl⟩ := H
   go_enter Try.func45, Try.ntmps45
   go_wp2_with (first | ((with_reducible refine gate_dst (N := 2) rfl ?_); refine bx_ 2 33 #[.int .i64 a0_0, .int .i64 a0_1, .int .i64 a0_2, .bool a0_3] ?_; intro gb117 hg w9 hbox hb; have BK117 := m_ (hbox); have GW117 := m_ ((gw_ : w.heap.size ≤ gb117)); have GE117 := m_ ((gw_ : w.heap.size ≤ gb117)); replace HB := m_ (below_step bz_ hb); clear hb hbox hg; have hcz10 := cz4_ BK117.out))
   go_ret2
   exact ⟨ew_, bz_⟩

end Go.Proofs.Ytkcphjdjhlikhaa.P

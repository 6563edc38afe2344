/- For each Go function a Lean function, and the proof that a call comes to what it tells: made by program out of the translation (the kit's print, with texts by hand put in). No condition. -/
import Derived.Test.YtkcphjdjhlikhaaSq
import Derived.Test.YtkcphjdjhlikhaaPx0
import Derived.Test.YtkcphjdjhlikhaaPx3
import Derived.Test.YtkcphjdjhlikhaaPx5
namespace Go.Proofs.Ytkcphjdjhlikhaa.P
open Go.RowKit Go.Proofs.Ytkcphjdjhlikhaa.HRows Go.Proofs.YtkcphjdjhlikhaaW.PrintWords Go.Proofs.YtkcphjdjhlikhaaW.PrintLast Go.Proofs.YtkcphjdjhlikhaaW.PrintMore
attribute [local go_sem] max2_int min2_int max_two min_two max_three min_three max_four min_four   -- for this text's walks alone
set_option linter.unusedVariables false
set_option linter.unusedSimpArgs false

/-! ### heap_Push: function 43 -/
def heap_Push.f (k : Nat) (l0 : List (S76)) (a1_0 : Int) (a1_1 : Int) : Option ((List (S76))) := (heap_copied.f l0 1).bind fun t150 => ((some (([(⟨a1_0, a1_1⟩ : S76)] : List (S76)) : List (S76))).bind fun y153 => (if t150.length + y153.length < 8796093022208 then ((heap_rise.f k (t150 ++ y153)).bind fun t159 => (some t159)) else (none)))
theorem heap_Push.mono : ∀ a0 a1 a2 k, LeO (heap_Push.f k a0 a1 a2) (heap_Push.f (k + 1) a0 a1 a2) := by
 intro a0 a1 a2 k
 unfold heap_Push.f
 repeat' first
   | (with_reducible exact heap_rise.mono _ _)
   | (with_reducible exact LeO.refl _)
   | (with_reducible exact LeO.none _)
   | (with_reducible refine LeO.ite ?_ ?_)
   | (with_reducible refine LeO.bind ?_ (fun _ => ?_))
   | exact heap_rise.mono _ _
   | exact LeO.none _
   | refine LeO.ite ?_ ?_
   | refine LeO.bind ?_ (fun _ => ?_)
set_option maxHeartbeats 8000000 in
set_option maxRecDepth 100000 in
theorem heap_Push.calls (k : Nat) (A0 : Option Addr) (c0 : Nat) (l0 : List (S76)) (a1_0 : Int) (a1_1 : Int) (r : List (S76)) (w : World) (hr0 : Kd.C k76 w A0 l0.length l0) (hc0 : l0.length ≤ c0) (h : heap_Push.f k l0 a1_0 a1_1 = some r) :
  Calls Try.prog 43 #[.slice A0 l0.length c0, .agg #[.int .i64 a1_0, .int .i64 a1_1]] w fun e w' => ∃ v0_ : Value, e = .returned (v0_) ∧ Kd.R k76 76 w' w.heap.size (fun _ => True) v0_ r ∧ Below w.heap.size w w' := by
 have hu76 := Try.underlying76
 have HR0 := m_ hr0
 have HC0 := m_ hc0
 clear hr0 hc0
 have HB := m_ (Below.refl w.heap.size w)
 have H : ((heap_copied.f l0 1).bind fun t150 => ((some (([(⟨a1_0, a1_1⟩ : S76)] : List (S76)) : List (S76))).bind fun y153 => (if t150.length + y153.length < 8796093022208 then ((heap_rise.f k (t150 ++ y153)).bind fun t159 => (some t159)) else (none)))) = some r := h
 clear h
 replace H := Option.bind_eq_some_iff.mp H
 obtain ⟨t150, A30, H⟩ := H
 replace H : ((some (([(⟨a1_0, a1_1⟩ : S76)] : List (S76)) : List (S76))).bind fun y153 => (if t150.length + y153.length < 8796093022208 then ((heap_rise.f k (t150 ++ y153)).bind fun t159 => (some t159)) else (none))) = some r := H
 have A3 := m_ A30
 clear A30
 obtain ⟨y153, hy153⟩ : ∃ y_ : List (S76), y_ = (([(⟨a1_0, a1_1⟩ : S76)] : List (S76))) := ⟨_, rfl⟩
 replace H : (if t150.length + y153.length < 8796093022208 then ((heap_rise.f k (t150 ++ y153)).bind fun t159 => (some t159)) else (none)) = some r := by first | (rw [hy153]; with_reducible exact H) | (have H2_ := (Option.bind_some _ _).symm.trans H; rw [hy153]; with_reducible exact H2_) | (have H2_ := (Option.bind_some _ _).symm.trans H; with_reducible exact H2_) | with_reducible exact H | (rw [hy153]; exact H) | exact H
 have Ny153 := m_ hy153
 clear hy153
 by_cases c4 : t150.length + y153.length < 8796093022208
 ·rw [if_pos c4] at H
  have LMc4 := m_ c4
  clear c4
  obtain ⟨y156, hy156⟩ : ∃ y_ : List (S76), y_ = (t150 ++ y153) := ⟨_, rfl⟩
  replace H : ((heap_rise.f k y156).bind fun t159 => (some t159)) = some r := by first | (rw [hy156]; with_reducible exact H) | (have H2_ := (Option.bind_some _ _).symm.trans H; rw [hy156]; with_reducible exact H2_) | (have H2_ := (Option.bind_some _ _).symm.trans H; with_reducible exact H2_) | with_reducible exact H | (rw [hy156]; exact H) | exact H
  have Ny156 := m_ hy156
  clear hy156
  replace H := Option.bind_eq_some_iff.mp H
  obtain ⟨t159, A50, H⟩ := H
  replace H : (some t159) = some r := H
  have A5 := m_ A50
  clear A50
  obtain rfl := Option.some.inj H
  go_enter Try.func43, Try.ntmps43
  try go_wp2_with (first | ((with_reducible refine gate_dst (N := 3) rfl ?_); refine bx_ 3 76 #[.int .i64 a1_0, .int .i64 a1_1] ?_; intro gb149 hg w6 hbox hb; have BK149 := m_ (hbox); have GW149 := m_ ((gw_ : w.heap.size ≤ gb149)); have GE149 := m_ ((gw_ : w.heap.size ≤ gb149)); replace HB := m_ (below_step bz_ hb); clear hb hbox hg))
  replace BK149 := m_ (blk_drew BK149.out)
  replace HB := m_ (below_drew1 HB.out)
  refine start_ (n := 6) (S := fun w' => w'.cell? ⟨gb149, 0, none⟩ = some (.int .i64 a1_0) ∧ w'.cell? ⟨gb149, 1, none⟩ = some (.int .i64 a1_1)) (ds := []) (bs_ 6 0) (by kernel_rfl) rfl rfl ⟨(blk_cell BK149.out 0).trans rfl, (blk_cell BK149.out 1).trans rfl⟩ (fun hHeld => ?_)
  generalize w6.drew = w7 at BK149 HB hHeld ⊢
  refine pure_ (i := 0) (N := some 6) (v := ?_) (a' := ?_) (bs_ 6 1) rfl rfl (by kernel_rfl) (fun _ _ _ h => h) (Or.inl ⟨by rfl, ?_⟩) ?_ ?_
  rotate_left
  ·intro w'
   go_simp
   with_reducible rfl
  rotate_left
  ·simp only [Act.put, a1_, a2_, a3_, i64_w, i32_w]
   rfl
  refine take_ (i := 2) (N := some 8) (v := ?_) (a' := ?_) (bs_ 6 5) rfl rfl (by kernel_rfl) (fun _ _ _ h => h) (Or.inl ⟨by rfl, ?_⟩) hHeld ?_ ?_
  rotate_left
  ·rintro w' ⟨s0, s1⟩
   (try simp only [add_plain] at s0 s1)
   go_simp
   with_reducible rfl
  rotate_left
  ·simp only [Act.put, a1_, a2_, a3_, i64_w, i32_w]
   rfl
  refine join_ (σ := Value × Value) 2 (bs_ 6 15) (fun s_ => [(7, s_.1), (9, s_.2)]) (fun s_ w' => (w'.cell? ⟨gb149, 0, none⟩ = some (.int .i64 a1_0) ∧ w'.cell? ⟨gb149, 1, none⟩ = some (.int .i64 a1_1)) ∧ (Kd.R k76 76 w' w.heap.size (fun k_ => some k_ ≠ (s_.2 : Value).ownBlock ∧ k_ ≠ gb149) s_.1 t150) ∧ (Kd.R k76 76 w' w.heap.size (fun k_ => some k_ ≠ (s_.1 : Value).ownBlock ∧ k_ ≠ gb149) s_.2 y153) ∧ (w'.heap[gb149]? = some (.cells #[.int .i64 a1_0, .int .i64 a1_1] 76 (0, 0))) ∧ (Below w.heap.size w w')) ?_ ?_
  rotate_left
  ·intro hCont
   refine two_ (i := 1) (j := 3) (Ni := some 7) (Nj := some 9) (bs_ 6 7) (bs_ 6 13) rfl rfl rfl rfl (by kernel_rfl) (by decide) (by decide) (fun K hK => ?_) (fun K hK => ?_)
   ·skip
    refine gz_ Try.func51 #[.slice A0 l0.length c0, .int .i64 1] ?_
    with_reducible refine (heap_copied.calls _ _ l0 1 t150 _ ?side1 ?side2 A3.out).mono ?_
    (case side1 => exact Cd_ (Kd.C_below HR0.out HB.out))
    (case side2 => exact HC0.out)
    rintro e w8 ⟨v151, rfl, ho0, hb⟩
    refine ⟨_, rfl, ?_⟩
    have HO152 := m_ (Kd.R_lower (Kd.R_newB ho0 (g := gb149) (o := .cells #[.int .i64 a1_0, .int .i64 a1_1] 76 (0, 0)) kz_) (below_size bz_))
    replace BK149 := m_ (kl_ gb149 hb)
    replace HB := m_ (below_step bz_ hb)
    (try clear hb)
    (try clear hb2)
    (try clear hk)
    (try clear hi)
    (try clear ho0)
    refine hK.out _ _ ⟨(blk_cell BK149.out 0).trans rfl, (blk_cell BK149.out 1).trans rfl⟩ (fun hHeld => ?_)
    clear hK K
    refine nz_ (some 7) ?_
    refine one_ (i := 3) (N := some 9) (bs_ 6 15) rfl rfl (by kernel_rfl) (by decide) (fun K hK => ?_)
    refine Kd.R_lit_step k76 _ 76 ?hg (N := 9) ?hd (xs := ([(⟨a1_0, a1_1⟩ : S76)] : List (S76))) (inner := [.int .i64 a1_0, .int .i64 a1_1]) (ok := fun _ => True) (okp := fun _ => True) ?hr ?hp (fun _ hk => hk) trivial (Below.refl _ _) (Nat.le_refl _) (by simp) ?_; (case hd => rfl); (case hg => rfl); (case hr => first | (go_simp; done) | (go_simp; rfl)); (case hp => exact (Reps.c2 (show Kd.M k76 _ _ _ (⟨a1_0, a1_1⟩ : S76) [.int .i64 a1_0, .int .i64 a1_1] from (k76_mkM _ _ _ (⟨a1_0, a1_1⟩ : S76) )) (Reps.none _ _)))
    intro v154 w9 ho10 hb hg_ hnew_
    clear hg_ hnew_
    (first | rw [← Ny153.out] at ho10 | (simp only [Int.reduceToNat] at ho10; rw [← Ny153.out] at ho10))
    have HO155 := m_ (Kd.R_lower (Kd.R_newB (Kd.R_new' ho10 (Kd.R_lt (Rz_ HO152.out))) (g := gb149) (o := .cells #[.int .i64 a1_0, .int .i64 a1_1] 76 (0, 0)) kz_) (below_size bz_))
    replace HO152 := m_ (Kd.R_elder' (Rz_ HO152.out) (Kd.R_base ho10) hb)
    replace BK149 := m_ (kl_ gb149 hb)
    replace HB := m_ (below_step bz_ hb)
    clear hb ho10
    refine hK.out _ _ ⟨(blk_cell BK149.out 0).trans rfl, (blk_cell BK149.out 1).trans rfl⟩ (fun hHeld => ?_)
    clear hK K
    refine nz_ (some 9) ?_
    exact norm_ (by simp only [putAll, Act.put, List.setIfInBounds_toArray, List.set_cons_zero, List.set_cons_succ]) (hCont (v151, v154) _ ⟨hHeld, (Ry_ (Kd.R_mono HO152.out (fun _ hk => ⟨hk.2, hk.1.2⟩))), (Ry_ (Kd.R_mono HO155.out (fun _ hk => ⟨hk.1.2, hk.2⟩))), kz_, bz_⟩)
   ·skip
    refine Kd.R_lit_step k76 _ 76 ?hg (N := 9) ?hd (xs := ([(⟨a1_0, a1_1⟩ : S76)] : List (S76))) (inner := [.int .i64 a1_0, .int .i64 a1_1]) (ok := fun _ => True) (okp := fun _ => True) ?hr ?hp (fun _ hk => hk) trivial (Below.refl _ _) (Nat.le_refl _) (by simp) ?_; (case hd => rfl); (case hg => rfl); (case hr => first | (go_simp; done) | (go_simp; rfl)); (case hp => exact (Reps.c2 (show Kd.M k76 _ _ _ (⟨a1_0, a1_1⟩ : S76) [.int .i64 a1_0, .int .i64 a1_1] from (k76_mkM _ _ _ (⟨a1_0, a1_1⟩ : S76) )) (Reps.none _ _)))
    intro v154 w8 ho9 hb hg_ hnew_
    clear hg_ hnew_
    (first | rw [← Ny153.out] at ho9 | (simp only [Int.reduceToNat] at ho9; rw [← Ny153.out] at ho9))
    have HO155 := m_ (Kd.R_lower (Kd.R_newB ho9 (g := gb149) (o := .cells #[.int .i64 a1_0, .int .i64 a1_1] 76 (0, 0)) kz_) (below_size bz_))
    replace BK149 := m_ (kl_ gb149 hb)
    replace HB := m_ (below_step bz_ hb)
    clear hb ho9
    refine hK.out _ _ ⟨(blk_cell BK149.out 0).trans rfl, (blk_cell BK149.out 1).trans rfl⟩ (fun hHeld => ?_)
    clear hK K
    refine nz_ (some 9) ?_
    refine one_ (i := 1) (N := some 7) (bs_ 6 15) rfl rfl (by kernel_rfl) (by decide) (fun K hK => ?_)
    refine gz_ Try.func51 #[.slice A0 l0.length c0, .int .i64 1] ?_
    with_reducible refine (heap_copied.calls _ _ l0 1 t150 _ ?side1 ?side2 A3.out).mono ?_
    (case side1 => exact Cd_ (Kd.C_below HR0.out HB.out))
    (case side2 => exact HC0.out)
    rintro e w10 ⟨v151, rfl, ho0, hb⟩
    refine ⟨_, rfl, ?_⟩
    have HO152 := m_ (Kd.R_lower (Kd.R_newB (Kd.R_new' ho0 (Kd.R_lt (Rz_ HO155.out))) (g := gb149) (o := .cells #[.int .i64 a1_0, .int .i64 a1_1] 76 (0, 0)) kz_) (below_size bz_))
    replace HO155 := m_ (Kd.R_elder' (Rz_ HO155.out) (Kd.R_base ho0) hb)
    replace BK149 := m_ (kl_ gb149 hb)
    replace HB := m_ (below_step bz_ hb)
    (try clear hb)
    (try clear hb2)
    (try clear hk)
    (try clear hi)
    (try clear ho0)
    refine hK.out _ _ ⟨(blk_cell BK149.out 0).trans rfl, (blk_cell BK149.out 1).trans rfl⟩ (fun hHeld => ?_)
    clear hK K
    refine nz_ (some 7) ?_
    exact norm_ (by simp only [putAll, Act.put, List.setIfInBounds_toArray, List.set_cons_zero, List.set_cons_succ]) (hCont (v151, v154) _ ⟨hHeld, (Ry_ (Kd.R_mono HO152.out (fun _ hk => ⟨hk.1.2, hk.2⟩))), (Ry_ (Kd.R_mono HO155.out (fun _ hk => ⟨hk.2, hk.1.2⟩))), kz_, bz_⟩)
  rintro ⟨v151, v154⟩ w11 ⟨hS_, h0_, h1_, h2_, h3_⟩
  have n0_ : Aside0 (Kd.R k76 76 w11 w.heap.size (fun k_ => some k_ ≠ (v154 : Value).ownBlock ∧ k_ ≠ gb149) v151 t150) := ⟨h0_⟩
  have n1_ : Aside0 (Kd.R k76 76 w11 w.heap.size (fun k_ => some k_ ≠ (v151 : Value).ownBlock ∧ k_ ≠ gb149) v154 y153) := ⟨h1_⟩
  have n2_ : Aside0 (w11.heap[gb149]? = some (.cells #[.int .i64 a1_0, .int .i64 a1_1] 76 (0, 0))) := ⟨h2_⟩
  have n3_ : Aside0 (Below w.heap.size w w11) := ⟨h3_⟩
  clear BK149 HB h0_ h1_ h2_ h3_
  have HO152 := n0_
  have HO155 := n1_
  have BK149 := n2_
  have HB := n3_
  clear n0_ n1_ n2_ n3_
  have hHeld : w11.cell? ⟨gb149, 0, none⟩ = some (.int .i64 a1_0) ∧ w11.cell? ⟨gb149, 1, none⟩ = some (.int .i64 a1_1) := hS_
  obtain ⟨Ao13, co13, eo13⟩ := Kd.R_slice HO155.out
  (first | subst eo13 | (injection eo13 with f1_ f2_ f3_; have f4_ := f1_.symm; have f5_ := f3_.symm; clear f1_ f2_ f3_; subst f4_; subst f5_))
  refine norm_ (a' := ?_) ?_ ?_
  rotate_left
  ·simp only [putAll, Act.put, List.setIfInBounds_toArray, List.set_cons_zero, List.set_cons_succ]
   rfl
  refine one_ (i := 4) (N := some 10) (bs_ 6 31) rfl rfl (by kernel_rfl) (by decide) (fun K hK => ?_)
  refine Kd.R_append_rows_step k76 (w0 := w) w.heap.size (by rfl) (.tmp 7) (.tmp 9) 72 76 (.agg #[(.int .i64 0), (.int .i64 0)]) 16 rfl Try.underlying72 info76 rfl (by decide) (by omega) v151 t150 y153 _ _ _ (fun k_ => some k_ ≠ (.slice Ao13 y153.length co13 : Value).ownBlock ∧ k_ ≠ gb149) (fun _ => False) rfl rfl ?aO ?aR (fun _ _ h => h) (fun _ h => h.elim) ?aF ?aB ?aS ?aL ?_
  (case aR => exact Cd_ (Kd.R_reads' HO155.out).2.2)
  (case aB => exact bz_)
  (case aF => exact (fun k_ hk => ⟨Kd.fresh' (Kd.R_lt (Rz_ HO155.out)) k_ hk, Kd.freshB (g := gb149) (o := .cells #[.int .i64 a1_0, .int .i64 a1_1] 76 (0, 0)) kz_ k_ hk⟩))
  (case aO => exact (Rz_ HO152.out))
  (case aS => exact (below_size bz_))
  (case aL => have := LMc4.out; omega)
  intro v157 w12 ho hb hg hat
  rw [← Ny156.out] at ho
  have HO158 := m_ (ho)
  replace BK149 := m_ (blk_grown (g := gb149) (o := .cells #[.int .i64 a1_0, .int .i64 a1_1] 76 (0, 0)) kz_ hg (Kd.R_away HO152.out (fun _ hk => hk.2)))
  replace HO155 := m_ (Kd.R_after (ok := (fun k_ => k_ ≠ gb149)) (Ry_ (Kd.R_mono HO155.out (fun _ hk => ⟨hk.2, hk.1⟩))) hg hat)
  replace HB := m_ (hb)
  clear HO152 ho hb hg hat
  refine hK.out _ _ ⟨(blk_cell BK149.out 0).trans rfl, (blk_cell BK149.out 1).trans rfl⟩ (fun hHeld => ?_)
  clear hK K
  refine nz_ (some 10) ?_
  refine pure_ (i := 5) (N := some 5) (v := ?_) (a' := ?_) (bs_ 6 63) rfl rfl (by kernel_rfl) (fun _ _ _ h => h) (Or.inl ⟨by rfl, ?_⟩) ?_ ?_
  rotate_left
  ·intro w'
   go_simp
   with_reducible rfl
  rotate_left
  ·simp only [Act.put, a1_, a2_, a3_, i64_w, i32_w]
   rfl
  refine done_ (by kernel_rfl) ?_
  obtain ⟨Ao14, co14, eo14⟩ := Kd.R_slice HO158.out
  subst eo14
  try go_wp2_with (first | ((with_reducible refine gate_callee (f := 52) rfl ?_); refine gL_ (some 12) Try.func52 #[.slice Ao14 y156.length co14] ?_; (with_reducible refine (heap_rise.calls k (fun k_ => some k_ = (.slice Ao14 y156.length co14 : Value).ownBlock) (.slice Ao14 y156.length co14) y156 t159 w _ ?side1 ?side2 A5.out).mono ?_); (case side1 => repeat (first | (with_reducible first | exact HB.out | apply below_alloc | apply pw_below_drewN | apply below_drew1 | refine below_set ?_ GE149.out) | exact HB.out)); (case side2 => exact Kd.R_tight rfl HO158.out); rintro e w15 ⟨rfl, hy0, hb, hkp⟩; refine ⟨_, rfl, ?_⟩; replace BK149 := m_ (blk_kept kz_ hkp (fun hs_ => (fun e_ => (Kd.R_away HO158.out (fun _ hk => hk.2)) e_) hs_)); replace HO155 := m_ (Kd.R_mono (ok' := fun k_ => some k_ ≠ (.slice Ao14 y156.length co14 : Value).ownBlock ∧ k_ ≠ gb149) (Kd.R_keptB (HO155.out) hkp (fun k_ hk_ hs_ => (hk_.2) hs_)) (fun k_ hk_ => ⟨hk_.1.2, hk_.1.1⟩)); replace HO158 := m_ (Kd.R_reok rfl hy0 (fun k_ e_ => HO158.out.1 k_ e_)); replace HB := m_ (hb); (try clear hb); (try clear hkp); (try clear hy0)))
  go_ret
  exact ⟨_, ew_, (Ry_ (Kd.R_mono HO158.out (fun _ hk => trivial))), bz_⟩
 ·rw [if_neg c4] at H
  exact absurd H (by simp)

end Go.Proofs.Ytkcphjdjhlikhaa.P

/- For each Go function a Lean function, and the proof that a call comes to what it tells: made by program out of the translation (the kit's print, with texts by hand put in). No condition. -/
import Derived.Test.YtkcphjdjhlikhaaSq
import Derived.Test.YtkcphjdjhlikhaaPx0
import Derived.Test.YtkcphjdjhlikhaaPx3
import Derived.Test.YtkcphjdjhlikhaaPx7
namespace Go.Proofs.Ytkcphjdjhlikhaa.P
open Go.RowKit Go.Proofs.Ytkcphjdjhlikhaa.HRows Go.Proofs.YtkcphjdjhlikhaaW.PrintWords Go.Proofs.YtkcphjdjhlikhaaW.PrintLast Go.Proofs.YtkcphjdjhlikhaaW.PrintMore
attribute [local go_sem] max2_int min2_int max_two min_two max_three min_three max_four min_four   -- for this text's walks alone
set_option linter.unusedVariables false
set_option linter.unusedSimpArgs false

/-! ### heap_Pop: function 44 -/
def heap_Pop.f (k : Nat) (l0 : List (S76)) : Option ((List (S76)) × Int × Int × Bool) := if (l0.length : Int) = 0 then (some (([] : List (S76)), 0, 0, false)) else ((heap_copied.f l0 0).bind fun t171 => (if 0 ≤ (wrap64 ((t171.length : Int) - 1)) then (if (wrap64 ((t171.length : Int) - 1)) < (t171.length : Int) then (if 0 < (t171.length : Int) then (if (wrap64 ((t171.length : Int) - 1)) ≤ (t171.length : Int) then ((heap_sink.f k ((t171.set (0 : Int).toNat (⟨(rd_T76 t171 (wrap64 ((t171.length : Int) - 1))).f0, (rd_T76 t171 (wrap64 ((t171.length : Int) - 1))).f1⟩ : S76)).take ((wrap64 ((t171.length : Int) - 1)) : Int).toNat)).bind fun t179 => (if 0 < (l0.length : Int) then (some (t179, (rd_T76 l0 0).f0, (rd_T76 l0 0).f1, true)) else (none))) else (none)) else (none)) else (none)) else (none)))
theorem heap_Pop.mono : ∀ a0 k, LeO (heap_Pop.f k a0) (heap_Pop.f (k + 1) a0) := by
 intro a0 k
 unfold heap_Pop.f
 repeat' first
   | (with_reducible exact heap_sink.mono _ _)
   | (with_reducible exact LeO.refl _)
   | (with_reducible exact LeO.none _)
   | (with_reducible refine LeO.ite ?_ ?_)
   | (with_reducible refine LeO.bind ?_ (fun _ => ?_))
   | exact heap_sink.mono _ _
   | exact LeO.none _
   | refine LeO.ite ?_ ?_
   | refine LeO.bind ?_ (fun _ => ?_)
set_option maxHeartbeats 8000000 in
set_option maxRecDepth 100000 in
theorem heap_Pop.calls (k : Nat) (A0 : Option Addr) (c0 : Nat) (l0 : List (S76)) (r1 : List (S76)) (r2 : Int) (r3 : Int) (r4 : Bool) (w : World) (hr0 : Kd.C k76 w A0 l0.length l0) (hc0 : l0.length ≤ c0) (h : heap_Pop.f k l0 = some (r1, r2, r3, r4)) :
  Calls Try.prog 44 #[.slice A0 l0.length c0] w fun e w' => ∃ v0_ : Value, e = .returned (.tuple #[v0_, .agg #[.int .i64 r2, .int .i64 r3], .bool r4]) ∧ Kd.R k76 76 w' w.heap.size (fun _ => True) v0_ r1 ∧ Below w.heap.size w w' := by
 have hu76 := Try.underlying76
 have HR0 := m_ hr0
 have HC0 := m_ hc0
 clear hr0 hc0
 have HB := m_ (Below.refl w.heap.size w)
 have H : (if (l0.length : Int) = 0 then (some (([] : List (S76)), 0, 0, false)) else ((heap_copied.f l0 0).bind fun t171 => (if 0 ≤ (wrap64 ((t171.length : Int) - 1)) then (if (wrap64 ((t171.length : Int) - 1)) < (t171.length : Int) then (if 0 < (t171.length : Int) then (if (wrap64 ((t171.length : Int) - 1)) ≤ (t171.length : Int) then ((heap_sink.f k ((t171.set (0 : Int).toNat (⟨(rd_T76 t171 (wrap64 ((t171.length : Int) - 1))).f0, (rd_T76 t171 (wrap64 ((t171.length : Int) - 1))).f1⟩ : S76)).take ((wrap64 ((t171.length : Int) - 1)) : Int).toNat)).bind fun t179 => (if 0 < (l0.length : Int) then (some (t179, (rd_T76 l0 0).f0, (rd_T76 l0 0).f1, true)) else (none))) else (none)) else (none)) else (none)) else (none)))) = some (r1, r2, r3, r4) := h
 clear h
 by_cases c2 : (l0.length : Int) = 0
 ·rw [if_pos c2] at H
  have c2b0 : ((l0.length : Int) == 0) = true := beq_iff_eq.mpr c2
  have c2b1 : ((l0.length : Int) != 0) = false := bne_eq_false_iff_eq.mpr c2
  clear c2
  simp only [Option.some.injEq, Prod.mk.injEq] at H
  obtain ⟨rfl, rfl, rfl, rfl⟩ := H
  go_enter Try.func44, Try.ntmps44
  go_wp2_with (first | ((with_reducible refine gate_dst (N := 3) rfl ?_); refine bx_ 3 76 #[.int .i64 0, .int .i64 0] ?_; intro gb170 hg w3 hbox hb; have BK170 := m_ (hbox); have GW170 := m_ ((gw_ : w.heap.size ≤ gb170)); have GE170 := m_ ((gw_ : w.heap.size ≤ gb170)); replace HB := m_ (below_step bz_ hb); clear hb hbox hg; have hcz4 := cz2_ BK170.out))
  refine bodyPost_ret (results_list (rs := [.tmp 2, .cell 3 76, .tmp 4]) rfl (by simp) (.tmp (.cell gb170 76 #[.int .i64 0, .int .i64 0] (0, 0) _ rfl kb_ Try.underlying76 rfl (by kernel_rfl) (.tmp .nil)))) rfl ?_
  exact ⟨_, ew_, (by first | exact Kd.R_nil _ _ _ _ _ | exact Kd.N_nil _ _ _ _ _ | exact Kd.V_nil _ _ _ _ _ | exact Kd.Q_nil _ _ _ _ _ | exact Kd.S_nil _ _ _ _ _), bz_⟩
 ·rw [if_neg c2] at H
  have c2b0 : ((l0.length : Int) == 0) = false := beq_eq_false_iff_ne.mpr c2
  have c2b1 : ((l0.length : Int) != 0) = true := bne_iff_ne.mpr c2
  have c2b2 : ¬ (l0 = []) := fun h_ => c2 (by rw [h_]; rfl)
  replace H := Option.bind_eq_some_iff.mp H
  obtain ⟨t171, A50, H⟩ := H
  replace H : (if 0 ≤ (wrap64 ((t171.length : Int) - 1)) then (if (wrap64 ((t171.length : Int) - 1)) < (t171.length : Int) then (if 0 < (t171.length : Int) then (if (wrap64 ((t171.length : Int) - 1)) ≤ (t171.length : Int) then ((heap_sink.f k ((t171.set (0 : Int).toNat (⟨(rd_T76 t171 (wrap64 ((t171.length : Int) - 1))).f0, (rd_T76 t171 (wrap64 ((t171.length : Int) - 1))).f1⟩ : S76)).take ((wrap64 ((t171.length : Int) - 1)) : Int).toNat)).bind fun t179 => (if 0 < (l0.length : Int) then (some (t179, (rd_T76 l0 0).f0, (rd_T76 l0 0).f1, true)) else (none))) else (none)) else (none)) else (none)) else (none)) = some (r1, r2, r3, r4) := H
  have A5 := m_ A50
  clear A50
  obtain ⟨ji6, hji6⟩ : ∃ j_ : Int, (wrap64 ((t171.length : Int) - 1)) = j_ := ⟨_, rfl⟩
  replace H : (if 0 ≤ (ji6) then (if (ji6) < (t171.length : Int) then (if 0 < (t171.length : Int) then (if (ji6) ≤ (t171.length : Int) then ((heap_sink.f k ((t171.set (0 : Int).toNat (⟨(rd_T76 t171 (ji6)).f0, (rd_T76 t171 (ji6)).f1⟩ : S76)).take ((ji6) : Int).toNat)).bind fun t179 => (if 0 < (l0.length : Int) then (some (t179, (rd_T76 l0 0).f0, (rd_T76 l0 0).f1, true)) else (none))) else (none)) else (none)) else (none)) else (none)) = some (r1, r2, r3, r4) := by first | (rw [hji6] at H; exact H) | (simp only [hji6] at H ⊢; exact H)
  (try rw [hji6] at A5)
  have hji6w : (IntKind.i64.wrap ((t171.length : Int) - 1)) = ji6 := (i64_w _).trans hji6
  by_cases c7 : 0 ≤ (ji6)
  ·rw [if_pos c7] at H
   have c7b0 : decide (0 ≤ (ji6)) = true := decide_eq_true c7
   clear c7
   by_cases c8 : (ji6) < (t171.length : Int)
   ·rw [if_pos c8] at H
    have c8b0 : decide ((ji6) < (t171.length : Int)) = true := decide_eq_true c8
    clear c8
    by_cases c9 : 0 < (t171.length : Int)
    ·rw [if_pos c9] at H
     have c9b0 : decide (0 < (t171.length : Int)) = true := decide_eq_true c9
     have c9b1 : decide (0 < t171.length) = true := decide_eq_true (by omega)
     clear c9
     obtain ⟨y175, hy175⟩ : ∃ y_ : List (S76), y_ = (t171.set (0 : Int).toNat (⟨(rd_T76 t171 (ji6)).f0, (rd_T76 t171 (ji6)).f1⟩ : S76)) := ⟨_, rfl⟩
     replace H : (if (ji6) ≤ (t171.length : Int) then ((heap_sink.f k (y175.take ((ji6) : Int).toNat)).bind fun t179 => (if 0 < (l0.length : Int) then (some (t179, (rd_T76 l0 0).f0, (rd_T76 l0 0).f1, true)) else (none))) else (none)) = some (r1, r2, r3, r4) := by first | (rw [hy175]; with_reducible exact H) | (have H2_ := (Option.bind_some _ _).symm.trans H; rw [hy175]; with_reducible exact H2_) | (have H2_ := (Option.bind_some _ _).symm.trans H; with_reducible exact H2_) | with_reducible exact H | (rw [hy175]; exact H) | exact H
     have Ny175 := m_ hy175
     clear hy175
     by_cases c11 : (ji6) ≤ (t171.length : Int)
     ·rw [if_pos c11] at H
      have c11b0 := eq_true c11
      have c11b1 : decide ((ji6) ≤ (t171.length : Int)) = true := decide_eq_true c11
      clear c11
      obtain ⟨y176, hy176⟩ : ∃ y_ : List (S76), y_ = (y175.take ((ji6) : Int).toNat) := ⟨_, rfl⟩
      replace H : ((heap_sink.f k y176).bind fun t179 => (if 0 < (l0.length : Int) then (some (t179, (rd_T76 l0 0).f0, (rd_T76 l0 0).f1, true)) else (none))) = some (r1, r2, r3, r4) := by first | (rw [hy176]; with_reducible exact H) | (have H2_ := (Option.bind_some _ _).symm.trans H; rw [hy176]; with_reducible exact H2_) | (have H2_ := (Option.bind_some _ _).symm.trans H; with_reducible exact H2_) | with_reducible exact H | (rw [hy176]; exact H) | exact H
      have Ny176 := m_ hy176
      clear hy176
      replace H := Option.bind_eq_some_iff.mp H
      obtain ⟨t179, A120, H⟩ := H
      replace H : (if 0 < (l0.length : Int) then (some (t179, (rd_T76 l0 0).f0, (rd_T76 l0 0).f1, true)) else (none)) = some (r1, r2, r3, r4) := H
      have A12 := m_ A120
      clear A120
      by_cases c13 : 0 < (l0.length : Int)
      ·rw [if_pos c13] at H
       have c13b0 : decide (0 < (l0.length : Int)) = true := decide_eq_true c13
       have c13b1 : decide (0 < l0.length) = true := decide_eq_true (by omega)
       clear c13
       simp only [Option.some.injEq, Prod.mk.injEq] at H
       obtain ⟨rfl, rfl, rfl, rfl⟩ := H
       go_enter Try.func44, Try.ntmps44
       try go_wp2_with (first | ((with_reducible refine gate_dst (N := 3) rfl ?_); refine bx_ 3 76 #[.int .i64 0, .int .i64 0] ?_; intro gb170 hg w14 hbox hb; have BK170 := m_ (hbox); have GW170 := m_ ((gw_ : w.heap.size ≤ gb170)); have GE170 := m_ ((gw_ : w.heap.size ≤ gb170)); replace HB := m_ (below_step bz_ hb); clear hb hbox hg) | ((with_reducible refine gate_callee (f := 51) rfl ?_); refine gL_ (some 11) Try.func51 #[.slice A0 l0.length c0, .int .i64 0] ?_; (with_reducible refine (heap_copied.calls _ _ l0 0 t171 _ ?side1 ?side2 A5.out).mono ?_); (case side1 => exact Cd_ (Kd.C_below HR0.out HB.out)); (case side2 => exact HC0.out); rintro e w15 ⟨v172, rfl, ho0, hb⟩; refine ⟨_, rfl, ?_⟩; have HO173 := m_ (Kd.R_lower (Kd.R_newB ho0 (g := gb170) (o := .cells #[.int .i64 0, .int .i64 0] 76 (0, 0)) kz_) (below_size bz_)); replace BK170 := m_ (kl_ gb170 hb); replace HB := m_ (below_step bz_ hb); (try clear hb); (try clear hb2); (try clear hk); (try clear hi); (try clear ho0); obtain ⟨Ao16, co16, eo16⟩ := Kd.R_slice HO173.out; subst eo16; have p174 : 0 ≤ ((ji6) : Int) := od_; have q174 : (ji6) < (t171.length : Int) := od_; obtain ⟨ad174, e174, hx174_0, hx174_1⟩ := at_T76 (Kd.R_reads' HO173.out).2.2 (ji6) p174 q174; cases e174; replace p174 := eq_true p174; replace q174 := eq_true q174; have p10 : 0 ≤ (0 : Int) := (by omega); have q10 : (0 : Int) < ((t171.length : Int) : Int) := od_; have qi10 : (0 < t171.length) = True := eq_true (by omega); obtain ⟨go10, co10, eo10, gb10, gl10, cl10, HG10⟩ := Kd.R_form HO173.out (by omega); (first | cases eo10 | (injection eo10 with ea_ en_ ec_; (first | subst ea_ | (injection ea_ with ea_; subst ea_)); subst ec_; clear en_)); have GB10 := m_ gb10; have GG10 := m_ HG10; clear gb10 gl10 HG10; (first | simp only [add_plain] at hx174_0 | skip); (first | simp only [add_plain] at hx174_1 | skip); obtain ⟨ce10, hcl10, hM10, hcc10, hfr10⟩ := Kd.R_elem HO173.out z76 (0 : Int) p10 q10; obtain rfl := k76_openM hM10; have hx10_0 : w15.cell? ⟨go10, (0 : Int).toNat * 2, none⟩ = some (.int .i64 ((rd_T76 t171 0).f0)) := hcc10 0 _ rfl; have hx10_1 : w15.cell? ⟨go10, (0 : Int).toNat * 2 + 1, none⟩ = some (.int .i64 ((rd_T76 t171 0).f1)) := hcc10 1 _ rfl; have hf10_0 : w15.frozen? ⟨go10, (0 : Int).toNat * 2, none⟩ = false := hfr10 0; have hf10_1 : w15.frozen? ⟨go10, (0 : Int).toNat * 2 + 1, none⟩ = false := hfr10 1; clear hcl10 hcc10 hfr10 hM10; (try rw [show ((0 : Int)).toNat = 0 from rfl] at hx10_0); (try simp only [Nat.reduceMul, Nat.zero_mul, Nat.zero_add, Nat.reduceAdd] at hx10_0); (try rw [show ((0 : Int)).toNat = 0 from rfl] at hf10_0); (try simp only [Nat.reduceMul, Nat.zero_mul, Nat.zero_add, Nat.reduceAdd] at hf10_0); (try rw [show ((0 : Int)).toNat = 0 from rfl] at hx10_1); (try simp only [Nat.reduceMul, Nat.zero_mul, Nat.zero_add, Nat.reduceAdd] at hx10_1); (try rw [show ((0 : Int)).toNat = 0 from rfl] at hf10_1); (try simp only [Nat.reduceMul, Nat.zero_mul, Nat.zero_add, Nat.reduceAdd] at hf10_1); replace p10 := eq_true p10; replace q10 := eq_true q10; have n_ := m_ (Kd.R_mono (ok' := (fun k_ => k_ ≠ gb170)) HO173.out (fun k_ hk => hk.2)); clear HO173; have HO173 := n_; clear n_; have HX17 := m_ (show Kd.R k76 76 w15 w.heap.size (fun k_ => k_ ≠ gb170) (.slice (some ⟨go10, 0, none⟩) t171.length co16) t171 from (Rz_ HO173.out)); obtain ⟨ce17, hcl17, hM17, hcc17, hfr17⟩ := Kd.R_elem HX17.out z76 (0 : Int) (by omega) (by have h_ : (0 : Int) < ((t171.length : Int) : Int) := od_; first | exact h_ | (have e_ := (Kd.R_reads' HO173.out).1; omega) | simpa using h_); obtain rfl := k76_openM hM17; have HP17 := Kd.R_seg HX17.out (0 : Int) (by omega) (by have h_ : (0 : Int) < ((t171.length : Int) : Int) := od_; first | exact h_ | (have e_ := (Kd.R_reads' HO173.out).1; omega) | simpa using h_) (seg := [.int .i64 ((rd_T76 t171 (ji6)).f0), .int .i64 ((rd_T76 t171 (ji6)).f1)]) (j := 0) hcl17 hcc17 (show 2 ≤ 2 from by decide) (x' := (⟨(rd_T76 t171 (ji6)).f0, (rd_T76 t171 (ji6)).f1⟩ : S76)) (k76_mkM _ _ _ (⟨(rd_T76 t171 (ji6)).f0, (rd_T76 t171 (ji6)).f1⟩ : S76) ) (fun _ hk => hk); have hx17_0 := hcc17 0 _ rfl; (try simp only [show (k76).sz = 2 from rfl, Nat.mul_one, Nat.add_zero] at hx17_0); (try rw [show ((0 : Int)).toNat = 0 from rfl] at hx17_0); (try simp only [Nat.reduceMul, Nat.zero_mul, Nat.zero_add, Nat.reduceAdd] at hx17_0); have hf17_0 := hfr17 0; (try simp only [show (k76).sz = 2 from rfl, Nat.mul_one, Nat.add_zero] at hf17_0); (try rw [show ((0 : Int)).toNat = 0 from rfl] at hf17_0); (try simp only [Nat.reduceMul, Nat.zero_mul, Nat.zero_add, Nat.reduceAdd] at hf17_0); have hx17_1 := hcc17 1 _ rfl; (try simp only [show (k76).sz = 2 from rfl, Nat.mul_one, Nat.add_zero] at hx17_1); (try rw [show ((0 : Int)).toNat = 0 from rfl] at hx17_1); (try simp only [Nat.reduceMul, Nat.zero_mul, Nat.zero_add, Nat.reduceAdd] at hx17_1); have hf17_1 := hfr17 1; (try simp only [show (k76).sz = 2 from rfl, Nat.mul_one, Nat.add_zero] at hf17_1); (try rw [show ((0 : Int)).toNat = 0 from rfl] at hf17_1); (try simp only [Nat.reduceMul, Nat.zero_mul, Nat.zero_add, Nat.reduceAdd] at hf17_1); clear hcl17 hcc17 hfr17 hM17) | ((with_reducible refine gate_store (t := 76) (p := 19) rfl ?_); refine st_ 76 19 ((w15.setCell ⟨go10, 0, none⟩ (.int .i64 ((rd_T76 t171 (ji6)).f0))).setCell ⟨go10, 1, none⟩ (.int .i64 ((rd_T76 t171 (ji6)).f1))) ?_; intro w18 hw; have hg : w15.grownBy w18 (some go10) := (by rw [hw]; exact HP17.2); have hp_ : Kd.R k76 76 w18 w.heap.size (fun k_ => k_ ≠ gb170) (.slice (some ⟨go10, 0, none⟩) t171.length co16) y175 := (by rw [hw, Ny175.out]; exact HP17.1); clear HP17; replace BK170 := m_ (blk_grown (g := gb170) (o := .cells #[.int .i64 0, .int .i64 0] 76 (0, 0)) kz_ hg (Kd.R_away HO173.out (fun _ hk => hk))); replace HO173 := m_ (hp_); replace HB := m_ ((by rw [hw]; exact below_set (below_set (HB.out) GB10.out) GB10.out : Below w.heap.size w w18)); clear hg hw hp_; have q19 : ((ji6) : Int) ≤ ((t171.length : Int) : Int) := od_; obtain ⟨i019, hi019, _, hsz19, _⟩ := info_parts info76; have hcut19 := cut_to (P := Try.prog) 72 76 .i64 Try.underlying72 hi019 (some ⟨go10, 0, none⟩) t171.length co16 (ji6) od_ q19 (Kd.R_reads' HO173.out).2.1; have hr19 := Kd.R_take (m := ((ji6) : Int).toNat) HO173.out (by first | omega | (have e_ := (Kd.R_reads' HO173.out).1; omega)); have hy19 : y176.length = ((ji6) : Int).toNat := (by rw [Ny176.out, List.length_take]; first | omega | (have e_ := (Kd.R_reads' HO173.out).1; omega)); rw [← Ny176.out] at hr19; rw [← hy19] at hr19 hcut19; clear hy19 hi019 hsz19 HO173; have HO178 := m_ hr19; clear hr19; replace q19 := eq_true q19) | ((with_reducible refine gate_callee (f := 53) rfl ?_); refine gL_ (some 26) Try.func53 #[.slice (some ⟨go10, 0, none⟩) y176.length co16] ?_; (with_reducible refine (heap_sink.calls k (fun k_ => some k_ = (.slice (some ⟨go10, 0, none⟩) y176.length co16 : Value).ownBlock) (.slice (some ⟨go10, 0, none⟩) y176.length co16) y176 t179 w _ ?side1 ?side2 A12.out).mono ?_); (case side1 => repeat (first | (with_reducible first | exact HB.out | apply below_alloc | apply pw_below_drewN | apply below_drew1 | refine below_set ?_ GE170.out) | exact HB.out)); (case side2 => exact Kd.R_tight rfl HO178.out); rintro e w20 ⟨rfl, hy0, hb, hkp⟩; refine ⟨_, rfl, ?_⟩; replace BK170 := m_ (blk_kept kz_ hkp (fun hs_ => (fun e_ => (Kd.R_away HO178.out (fun _ hk => hk)) e_) hs_)); replace HO178 := m_ (Kd.R_reok rfl hy0 (fun k_ e_ => HO178.out.1 k_ e_)); replace HB := m_ (hb); (try clear hb); (try clear hkp); (try clear hy0)))
       replace HO178 := m_ (Kd.R_drew HO178.out)
       replace BK170 := m_ (blk_drew BK170.out)
       replace HB := m_ (below_drew1 HB.out)
       have p180 : 0 ≤ (0 : Int) := (by omega)
       have q180 : 0 < (l0.length : Int) := od_
       obtain ⟨ad180, e180, hx180_0, hx180_1⟩ := at_T76 HR0.out 0 p180 q180
       have hw180_1 := hx180_1
       (try rw [show ((0 : Int)).toNat = 0 from rfl] at hw180_1)
       (try rw [show 0 * 2 = 0 from rfl] at hw180_1)
       (try rw [Addr.add_zero'] at hw180_1)
       have hw180_0 := hx180_0
       (try rw [show ((0 : Int)).toNat = 0 from rfl] at hw180_0)
       (try rw [show 0 * 2 = 0 from rfl] at hw180_0)
       (try rw [Addr.add_zero'] at hw180_0)
       cases e180
       have qi180 : (0 < l0.length) = True := eq_true (by omega)
       (try rw [show ((0 : Int)).toNat = 0 from rfl] at hx180_0)
       (try rw [show 0 * 2 = 0 from rfl] at hx180_0)
       (try rw [Addr.add_zero'] at hx180_0)
       (try rw [show ((0 : Int)).toNat = 0 from rfl] at hx180_1)
       (try rw [show 0 * 2 = 0 from rfl] at hx180_1)
       (try rw [Addr.add_zero'] at hx180_1)
       replace hx180_0 := kp_ HB.out hx180_0
       replace hx180_1 := kp_ HB.out hx180_1
       replace p180 := eq_true p180
       replace q180 := eq_true q180
       refine start_ (n := 7) (S := fun w' => w'.cell? ad180 = some (.int .i64 ((rd_T76 l0 0).f0)) ∧ w'.cell? ⟨ad180.block, ad180.off + 1, none⟩ = some (.int .i64 ((rd_T76 l0 0).f1))) (ds := []) (bs_ 7 0) (by kernel_rfl) rfl rfl ⟨(kp_ HB.out hw180_0), (kp_ HB.out hw180_1)⟩ (fun hHeld => ?_)
       generalize w20.drew = w21 at HO178 BK170 HB hx180_0 hx180_1 hHeld ⊢
       refine pure_ (i := 0) (N := some 27) (v := ?_) (a' := ?_) (bs_ 7 1) rfl rfl (by kernel_rfl) (fun _ _ _ h => h) (Or.inl ⟨by rfl, ?_⟩) ?_ ?_
       rotate_left
       ·intro w'
        go_simp
        with_reducible rfl
       rotate_left
       ·simp only [Act.put, a1_, a2_, a3_, i64_w, i32_w]
        rfl
       refine pure_ (i := 1) (N := some 28) (v := ?_) (a' := ?_) (bs_ 7 3) rfl rfl (by kernel_rfl) (fun _ _ _ h => h) (Or.inl ⟨by rfl, ?_⟩) ?_ ?_
       rotate_left
       ·intro w'
        go_simp
        with_reducible rfl
       rotate_left
       ·simp only [Act.put, a1_, a2_, a3_, i64_w, i32_w]
        rfl
       refine pure_ (i := 2) (N := some 29) (v := ?_) (a' := ?_) (bs_ 7 7) rfl rfl (by kernel_rfl) (fun _ _ _ h => h) (Or.inl ⟨by rfl, ?_⟩) ?_ ?_
       rotate_left
       ·intro w'
        go_simp
        with_reducible rfl
       rotate_left
       ·simp only [Act.put, a1_, a2_, a3_, i64_w, i32_w]
        rfl
       refine pure_ (i := 4) (N := some 2) (v := ?_) (a' := ?_) (bs_ 7 23) rfl rfl (by kernel_rfl) (fun _ _ _ h => h) (Or.inl ⟨by rfl, ?_⟩) ?_ ?_
       rotate_left
       ·intro w'
        go_simp
        with_reducible rfl
       rotate_left
       ·simp only [Act.put, a1_, a2_, a3_, i64_w, i32_w]
        rfl
       refine take_ (i := 3) (N := some 30) (v := ?_) (a' := ?_) (bs_ 7 31) rfl rfl (by kernel_rfl) (fun _ _ _ h => h) (Or.inl ⟨by rfl, ?_⟩) hHeld ?_ ?_
       rotate_left
       ·rintro w' ⟨s0, s1⟩
        (try simp only [add_plain] at s0 s1)
        go_simp
        with_reducible rfl
       rotate_left
       ·simp only [Act.put, a1_, a2_, a3_, i64_w, i32_w]
        rfl
       refine one_ (i := 5) (N := none) (bs_ 7 63) rfl rfl (by kernel_rfl) (by decide) (fun K hK => ?_)
       have hs22 : w21.cell? ⟨gb170, 0, none⟩ = some (.int .i64 0) := (blk_cell BK170.out 0).trans rfl
       have hfs22 := blk_frozen BK170.out 0
       have hs23 : w21.cell? ⟨gb170, 1, none⟩ = some (.int .i64 0) := (blk_cell BK170.out 1).trans rfl
       have hfs23 := blk_frozen BK170.out 1
       refine skip_ (w1 := ?_) (by rfl) rfl ?_ ?_
       rotate_left
       ·go_simp
        rfl
       refine hK.out _ _ ⟨((cell_far (p := ⟨gb170, _, none⟩) (by first | exact Nat.ne_of_lt (Nat.lt_of_lt_of_le (by have := World.block_lt_of_cell? _ _ hw180_0; first | rwa [add_block] at this | exact this) GW170.out) | (rw [add_block]; exact Nat.ne_of_lt (Nat.lt_of_lt_of_le (by have := World.block_lt_of_cell? _ _ hw180_0; first | rwa [add_block] at this | exact this) GW170.out)) | (show (Addr.add _ _).block ≠ _; rw [add_block]; exact Nat.ne_of_lt (Nat.lt_of_lt_of_le (by have := World.block_lt_of_cell? _ _ hw180_0; first | rwa [add_block] at this | exact this) GW170.out)) | (dsimp only; exact Nat.ne_of_lt (Nat.lt_of_lt_of_le (by have := World.block_lt_of_cell? _ _ hw180_0; first | rwa [add_block] at this | exact this) GW170.out))) _).trans (((cell_far (p := ⟨gb170, _, none⟩) (by first | exact Nat.ne_of_lt (Nat.lt_of_lt_of_le (by have := World.block_lt_of_cell? _ _ hw180_0; first | rwa [add_block] at this | exact this) GW170.out) | (rw [add_block]; exact Nat.ne_of_lt (Nat.lt_of_lt_of_le (by have := World.block_lt_of_cell? _ _ hw180_0; first | rwa [add_block] at this | exact this) GW170.out)) | (show (Addr.add _ _).block ≠ _; rw [add_block]; exact Nat.ne_of_lt (Nat.lt_of_lt_of_le (by have := World.block_lt_of_cell? _ _ hw180_0; first | rwa [add_block] at this | exact this) GW170.out)) | (dsimp only; exact Nat.ne_of_lt (Nat.lt_of_lt_of_le (by have := World.block_lt_of_cell? _ _ hw180_0; first | rwa [add_block] at this | exact this) GW170.out))) _).trans (hHeld.1)))), ((cell_far (p := ⟨gb170, _, none⟩) (by first | exact Nat.ne_of_lt (Nat.lt_of_lt_of_le (by have := World.block_lt_of_cell? _ _ hw180_1; first | rwa [add_block] at this | exact this) GW170.out) | (rw [add_block]; exact Nat.ne_of_lt (Nat.lt_of_lt_of_le (by have := World.block_lt_of_cell? _ _ hw180_1; first | rwa [add_block] at this | exact this) GW170.out)) | (show (Addr.add _ _).block ≠ _; rw [add_block]; exact Nat.ne_of_lt (Nat.lt_of_lt_of_le (by have := World.block_lt_of_cell? _ _ hw180_1; first | rwa [add_block] at this | exact this) GW170.out)) | (dsimp only; exact Nat.ne_of_lt (Nat.lt_of_lt_of_le (by have := World.block_lt_of_cell? _ _ hw180_1; first | rwa [add_block] at this | exact this) GW170.out))) _).trans (((cell_far (p := ⟨gb170, _, none⟩) (by first | exact Nat.ne_of_lt (Nat.lt_of_lt_of_le (by have := World.block_lt_of_cell? _ _ hw180_1; first | rwa [add_block] at this | exact this) GW170.out) | (rw [add_block]; exact Nat.ne_of_lt (Nat.lt_of_lt_of_le (by have := World.block_lt_of_cell? _ _ hw180_1; first | rwa [add_block] at this | exact this) GW170.out)) | (show (Addr.add _ _).block ≠ _; rw [add_block]; exact Nat.ne_of_lt (Nat.lt_of_lt_of_le (by have := World.block_lt_of_cell? _ _ hw180_1; first | rwa [add_block] at this | exact this) GW170.out)) | (dsimp only; exact Nat.ne_of_lt (Nat.lt_of_lt_of_le (by have := World.block_lt_of_cell? _ _ hw180_1; first | rwa [add_block] at this | exact this) GW170.out))) _).trans (hHeld.2))))⟩ (fun hHeld => ?_)
       clear hK K
       refine pure_ (i := 6) (N := some 4) (v := ?_) (a' := ?_) (bs_ 7 127) rfl rfl (by kernel_rfl) (fun _ _ _ h => h) (Or.inl ⟨by rfl, ?_⟩) ?_ ?_
       rotate_left
       ·intro w'
        go_simp
        with_reducible rfl
       rotate_left
       ·simp only [Act.put, a1_, a2_, a3_, i64_w, i32_w]
        rfl
       refine done_ (by kernel_rfl) ?_
       try go_wp2
       refine bodyPost_ret (results_list (rs := [.tmp 2, .cell 3 76, .tmp 4]) rfl (by simp) (.tmp (.cell gb170 76 #[.int .i64 ((rd_T76 l0 0).f0), .int .i64 ((rd_T76 l0 0).f1)] (0, 0) _ rfl kb_ Try.underlying76 rfl (by kernel_rfl) (.tmp .nil)))) rfl ?_
       exact ⟨_, (by first | rfl | (simp [errW_none, errW_some] <;> rfl) | (simp only [← hji6]; first | rfl | (simp [errW_none, errW_some] <;> rfl)) | (simp [*, errW_none, errW_some] <;> rfl)), (Kd.R_mono (Rf_ (Kd.R_mono HO178.out (fun k_ hk => (⟨hk, hk⟩ : _ ∧ k_ ≠ gb170)))) (fun _ hk => trivial)), bz_⟩
      ·rw [if_neg c13] at H
       exact absurd H (by simp)
     ·rw [if_neg c11] at H
      exact absurd H (by simp)
    ·rw [if_neg c9] at H
     exact absurd H (by simp)
   ·rw [if_neg c8] at H
    exact absurd H (by simp)
  ·rw [if_neg c7] at H
   exact absurd H (by simp)

/-! ### api_Hop: function 30, by hand (slices.IndexFunc.Hop.lean.tpl) -/
/-- The place of the first link of which p holds; -1: there is none. -/
def idxH (p : S59 → Bool) (l : List (S59)) : Int := if l.any p then (l.findIdx p : Int) else -1
theorem idxH_hit (p : S59 → Bool) (l : List (S59)) (k : Nat) (hk : k < l.length) (h1 : p (l[k]'hk) = true) (h0 : ∀ j (h : j < l.length), j < k → p (l[j]'h) = false) : idxH p l = (k : Int) := by
 have hany : l.any p = true := List.any_eq_true.2 ⟨_, List.getElem_mem hk, h1⟩
 have hf : l.findIdx p = k := by
  rcases Nat.lt_trichotomy (l.findIdx p) k with h | h | h
  ·have hlt : l.findIdx p < l.length := by omega
   have := List.findIdx_getElem (w := hlt) (p := p)
   rw [h0 _ hlt h] at this
   cases this
  ·exact h
  ·have := List.not_of_lt_findIdx h
   rw [h1] at this
   simp at this
 unfold idxH
 rw [if_pos hany, hf]
theorem idxH_miss (p : S59 → Bool) (l : List (S59)) (h0 : ∀ j (h : j < l.length), p (l[j]'h) = false) : idxH p l = -1 := by
 have hany : ¬ l.any p = true := by
  intro h
  obtain ⟨x, hx, hp⟩ := List.any_eq_true.1 h
  obtain ⟨j, hj, rfl⟩ := List.getElem_of_mem hx
  rw [h0 j hj] at hp
  cases hp
 unfold idxH
 rw [if_neg hany]
theorem idxH_nonneg (p : S59 → Bool) (l : List (S59)) : decide (idxH p l ≥ 0) = l.any p := by
 unfold idxH
 cases h : l.any p with
 | true => simp
 | false => simp
theorem rd_hop (l : List (S59)) (k : Nat) (hk : k < l.length) : rd_T59 l (k : Int) = l[k]'hk := by
 unfold rd_T59
 rw [Int.toNat_natCast]
 simp [List.getD_eq_getElem?_getD, List.getElem?_eq_getElem hk]
set_option maxHeartbeats 2000000 in
/-- Whatever function is handed over that answers p and leaves what was there. -/
theorem ixHop.calls (g : Nat) (lb : Array Value) (p : S59 → Bool) (A : Option Addr) (c : Nat) (l : List (S59)) (w : World) (eg : ∀ args w, (callFunc g args).run Try.prog w = .ok (.enter g args) w)
  (hr : Kd.C k59 w A l.length l) (hp : ∀ (x : S59) W, Below w.heap.size w W → x ∈ l → Calls Try.prog g (#[.agg #[.int .i64 x.f0, .int .i64 x.f1]] ++ lb) W fun e W' => e = .returned (.bool (p x)) ∧ Below W.heap.size W W') :
  Calls Try.prog 30 #[.slice A l.length c, .func (.func g) #[] lb] w fun e w' => e = .returned (.int .i64 (idxH p l)) ∧ Below w.heap.size w w' := by
 have hl : l.length ≤ 9223372036854775807 := hr.2.1
 have HR := m_ hr
 have HP := m_ hp
 clear hr hp
 go_enter Try.func30, Try.ntmps30
 go_wp2
 go_loopg [5, 8] l.length (fun gg _ s8 wr => ∃ kk : Nat, kk ≤ l.length ∧ l.length - kk ≤ gg ∧ s8 = .int .i64 kk ∧ Aside0 (Below w.heap.size w wr) ∧ Aside0 (∀ j (h : j < l.length), j < kk → p (l[j]'h) = false))
 case atStart => exact ⟨0, Nat.zero_le _, by omega, rfl, ⟨Below.refl _ _⟩, ⟨fun j _ hj => absurd hj (Nat.not_lt_zero _)⟩⟩
 case round =>
  obtain ⟨kk, hkk, hg, rfl, HB, HA⟩ := hrel
  by_cases hlt : kk < l.length
  ·have hlt' : (kk : Int) < (l.length : Int) := by omega
   have hw0 : w.heap.size ≤ wr.heap.size := HB.out.size
   obtain ⟨ad, rfl, h0, h1⟩ := at_T59 (Kd.C_below HR.out HB.out) (kk : Int) (by omega) (by omega)
   rw [rd_hop l kk hlt, Int.toNat_natCast] at h0 h1
   have hcall := HP.out (l[kk]'hlt) wr HB.out (List.getElem_mem hlt)
   generalize hx : l[kk]'hlt = x at h0 h1 hcall
   have HX := m_ hx
   clear hx
   have HC := m_ hcall
   clear hcall
   cases hq : p x with
   | true =>
    have HQ := m_ hq
    clear hq
    go_wp2_with fail
    refine HC.out.mono ?_
    rintro e w' ⟨rfl, hb⟩
    rw [HQ.out]
    have HB2 := m_ (below_then HB.out hw0 hb)
    clear hb
    go_wp2
    go_ret
    refine ⟨?_, HB2.out⟩
    rw [idxH_hit p l kk hlt (by rw [HX.out]; exact HQ.out) HA.out]
    rfl
   | false =>
    have HQ := m_ hq
    clear hq
    go_wp2_with fail
    refine HC.out.mono ?_
    rintro e w' ⟨rfl, hb⟩
    rw [HQ.out]
    have HB2 := m_ (below_then HB.out hw0 hb)
    clear hb
    go_wp2
    go_roundg (l.length - (kk + 1))
    case measure => omega
    case rel =>
     refine ⟨kk + 1, by omega, by omega, by go_num, HB2, ⟨fun j h hj => ?_⟩⟩
     by_cases e : j = kk
     ·subst e
      rw [HX.out]
      exact HQ.out
     ·exact HA.out j h (by omega)
  ·have hlt' : ¬ (kk : Int) < (l.length : Int) := by omega
   have : kk = l.length := by omega
   subst this
   go_wp2
   go_ret
   refine ⟨?_, HB.out⟩
   rw [idxH_miss p l (fun j h => HA.out j h h)]
   rfl

end Go.Proofs.Ytkcphjdjhlikhaa.P

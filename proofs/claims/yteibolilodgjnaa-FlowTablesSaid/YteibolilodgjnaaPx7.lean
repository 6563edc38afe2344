/- For each Go function a Lean function, and the proof that a call comes to what it tells: made by program out of the translation (the kit's print, with texts by hand put in). No condition. -/
import Derived.Test.YteibolilodgjnaaSq
import Derived.Test.YteibolilodgjnaaPx0
import Derived.Test.YteibolilodgjnaaPx4
import Derived.Test.YteibolilodgjnaaPx6
namespace Go.Proofs.Yteibolilodgjnaa.P
open Go.RowKit Go.Proofs.Yteibolilodgjnaa.HRows Go.Proofs.YteibolilodgjnaaW.PrintWords Go.Proofs.YteibolilodgjnaaW.PrintLast Go.Proofs.YteibolilodgjnaaW.PrintMore
attribute [local go_sem] max2_int min2_int max_two min_two max_three min_three max_four min_four   -- for this text's walks alone
set_option linter.unusedVariables false
set_option linter.unusedSimpArgs false

/-! ### flow_Put: function 10, by hand (flow.Put.lean.tpl) -/
theorem blk6 {W : World} {g : Nat} {t : TypeId} {v0 v1 v2 v3 v4 v5 : Value} (h : W.heap[g]? = some (.cells #[v0, v1, v2, v3, v4, v5] t (0, 0))) : W.cell? ⟨g, 0, none⟩ = some v0 ∧ W.cell? ⟨g, 1, none⟩ = some v1 ∧ W.cell? ⟨g, 2, none⟩ = some v2 ∧ W.cell? ⟨g, 3, none⟩ = some v3 ∧ W.cell? ⟨g, 4, none⟩ = some v4 ∧ W.cell? ⟨g, 5, none⟩ = some v5 :=
 ⟨(bc_ h 0).trans rfl, (bc_ h 1).trans rfl, (bc_ h 2).trans rfl, (bc_ h 3).trans rfl, (bc_ h 4).trans rfl, (bc_ h 5).trans rfl⟩
theorem V_base {α : Type} {d : Kd α} {e b b' : Nat} {W : World} {ok : Nat → Prop} {v : Value} {xs : List α} (h : Kd.V d e W b ok v xs) : Kd.V d e W b' ok v xs := h
def placeB (l : List (S27)) (k : Int × Int × Int) : Bool := decide (placeK l k < l.length) && (ordK (keyR (rd_T27 l (placeK l k : Nat))) k == 0)
def flow_Put.f (k : Nat) (l0 : List (S27)) (a1_0 a1_1 a1_2 a1_3 a1_4 : Int) (l1_5 : List (S53)) (a2 : Int) : Option (List (S27) × Int) :=
 if riseK l0 = true ∧ l0.length ≤ 100000 then (flow_Right.f k a1_0 a1_1 a1_2 a1_3 a1_4 l1_5).bind fun t => if t = true then (if placeB l0 (a1_0, a1_1, a1_2) = true then some (l0.set (placeK l0 (a1_0, a1_1, a1_2)) ⟨a1_0, a1_1, a1_2, a1_3, a1_4, l1_5⟩, 0) else if (l0.length : Int) ≥ a2 then some (l0, 7) else some (l0.take (placeK l0 (a1_0, a1_1, a1_2)) ++ ⟨a1_0, a1_1, a1_2, a1_3, a1_4, l1_5⟩ :: l0.drop (placeK l0 (a1_0, a1_1, a1_2)), 0)) else some (l0, 1)
 else none
theorem flow_Put.mono : ∀ a0 a1 a2 a3 a4 a5 a6 a7 k, LeO (flow_Put.f k a0 a1 a2 a3 a4 a5 a6 a7) (flow_Put.f (k + 1) a0 a1 a2 a3 a4 a5 a6 a7) := by
 intro a0 a1 a2 a3 a4 a5 a6 a7 k
 unfold flow_Put.f
 refine LeO.ite (LeO.bind (flow_Right.mono _ _ _ _ _ _ _) (fun _ => LeO.refl _)) (LeO.refl _)
set_option maxHeartbeats 4000000 in
set_option maxRecDepth 100000 in
theorem flow_Put.calls (k : Nat) (P0_ : Nat → Prop) (A0 : Option Addr) (c0 : Nat) (l0 : List (S27)) (a1_0 a1_1 a1_2 a1_3 a1_4 : Int) (P1_5_ : Nat → Prop) (A1_5 : Option Addr) (c1_5 : Nat) (l1_5 : List (S53)) (a2 : Int) (r1 : List (S27)) (r2 : Int) (w : World) (hs0 : Kd.V k27 27 w w.heap.size (fun k_ => P0_ k_) (.slice A0 l0.length c0) l0) (hs1_5 : Kd.V k53 53 w w.heap.size (fun k_ => P1_5_ k_) (.slice A1_5 l1_5.length c1_5) l1_5) (h : flow_Put.f k l0 a1_0 a1_1 a1_2 a1_3 a1_4 l1_5 a2 = some (r1, r2)) :
  Calls Try.prog 10 #[.slice A0 l0.length c0, .agg #[.int .u32 a1_0, .int .u32 a1_1, .int .u32 a1_2, .int .i64 a1_3, .int .u32 a1_4, .slice A1_5 l1_5.length c1_5], .int .i64 a2] w fun e w' => ∃ v0_ : Value, e = .returned (.tuple #[v0_, .int .i64 r2]) ∧ Kd.V k27 27 w' w.heap.size (fun k_ => ((P0_ k_ ∨ P1_5_ k_) ∨ w.heap.size ≤ k_)) v0_ r1 ∧ Below w.heap.size w w' := by
 unfold flow_Put.f at h
 split at h
 case isFalse => cases h
 case isTrue hok =>
 obtain ⟨hs, hl⟩ := hok
 obtain ⟨t, hr, h⟩ := Option.bind_eq_some_iff.mp h
 have HS0 := m_ hs0
 have HS1 := m_ hs1_5
 have HRI := m_ hr
 have HS := m_ hs
 have HL := m_ hl
 have H := m_ h
 have hu27 := Try.underlying27
 have hu59 := Try.underlying59
 clear hs0 hs1_5 hr hs hl h
 go_enter Try.func10, Try.ntmps10
 go_wp2_with (go_at_call 24; refine Stop0.out ?_)
 refine ⟨?_⟩
 have BK := m_ (blk_new w (.cells #[.int .u32 a1_0, .int .u32 a1_1, .int .u32 a1_2, .int .i64 a1_3, .int .u32 a1_4, .slice A1_5 l1_5.length c1_5] 27))
 have HB := m_ (pa_ (Below.refl w.heap.size w) (.cells #[.int .u32 a1_0, .int .u32 a1_1, .int .u32 a1_2, .int .i64 a1_3, .int .u32 a1_4, .slice A1_5 l1_5.length c1_5] 27))
 generalize (w.alloc _) = w1 at BK HB ⊢
 have hC1 := (Kd.V_reads' HS1.out).2
 have hC0 := (Kd.V_reads' HS0.out).2
 have HC1 := m_ hC1
 have HC0 := m_ hC0
 clear hC1 hC0
 refine (flow_of.calls a1_0 a1_1 a1_2 a1_3 a1_4 A1_5 c1_5 l1_5 a1_0 a1_1 a1_2 w1 (Kd.C_below HC1.out.2 HB.out) HC1.out.1 rfl).mono ?_
 rintro e w2 ⟨rfl, hb⟩
 have BK2 := m_ (blk_below BK.out hb)
 have HB2 := m_ (below_step HB.out hb)
 clear hb BK HB
 go_wp2_with (go_at_call 23; refine Stop0.out ?_)
 refine ⟨?_⟩
 refine (flow_place.calls A0 c0 l0 a1_0 a1_1 a1_2 (placeK l0 (a1_0, a1_1, a1_2) : Nat) (placeB l0 (a1_0, a1_1, a1_2)) w2 (Kd.C_below HC0.out.2 HB2.out) HC0.out.1 (by unfold flow_place.f placeB; rw [if_pos ⟨HS.out, Nat.le_trans HL.out (by decide)⟩])).mono ?_
 rintro e w3 ⟨rfl, hb⟩
 have BK3 := m_ (blk_below BK2.out hb)
 have HB3 := m_ (below_step HB2.out hb)
 have HPL := m_ (place_le l0 (a1_0, a1_1, a1_2))
 have HPB : Aside0 (placeB l0 (a1_0, a1_1, a1_2) = true → placeK l0 (a1_0, a1_1, a1_2) < l0.length) := ⟨fun h => by unfold placeB at h; rw [Bool.and_eq_true] at h; exact of_decide_eq_true h.1⟩
 generalize placeK l0 (a1_0, a1_1, a1_2) = p at HPL HPB H ⊢
 generalize placeB l0 (a1_0, a1_1, a1_2) = is at HPB H ⊢
 clear hb BK2 HB2
 have b0 : w3.cell? ⟨w.heap.size, 0, none⟩ = some (.int .u32 a1_0) := (bc_ BK3.out 0).trans rfl
 have b1 : w3.cell? ⟨w.heap.size, 1, none⟩ = some (.int .u32 a1_1) := (bc_ BK3.out 1).trans rfl
 have b2 : w3.cell? ⟨w.heap.size, 2, none⟩ = some (.int .u32 a1_2) := (bc_ BK3.out 2).trans rfl
 have b3 : w3.cell? ⟨w.heap.size, 3, none⟩ = some (.int .i64 a1_3) := (bc_ BK3.out 3).trans rfl
 have b4 : w3.cell? ⟨w.heap.size, 4, none⟩ = some (.int .u32 a1_4) := (bc_ BK3.out 4).trans rfl
 have b5 : w3.cell? ⟨w.heap.size, 5, none⟩ = some (.slice A1_5 l1_5.length c1_5) := (bc_ BK3.out 5).trans rfl
 go_wp2_with (go_at_call 16; refine Stop0.out ?_)
 refine ⟨?_⟩
 refine (flow_Right.calls k a1_0 a1_1 a1_2 a1_3 a1_4 A1_5 c1_5 l1_5 t w3 (Kd.C_below HC1.out.2 HB3.out) HC1.out.1 HRI.out).mono ?_
 rintro e w4 ⟨rfl, hb⟩
 have BK4 := m_ (blk_below BK3.out hb)
 have HB4 := m_ (below_step HB3.out hb)
 clear hb BK3 HB3 b0 b1 b2 b3 b4 b5
 cases t with
 | false =>
  have H1 := H.out
  rw [if_neg (by simp)] at H1
  simp only [Option.some.injEq, Prod.mk.injEq] at H1
  obtain ⟨rfl, rfl⟩ := H1
  go_wp2
  go_ret2
  exact ⟨_, rfl, Kd.V_mono (Kd.V_below HS0.out HB4.out) (fun k hk => .inl (.inl hk)), HB4.out⟩
 | true =>
  have H1 := H.out
  rw [if_pos rfl] at H1
  cases is with
  | true =>
   rw [if_pos rfl] at H1
   simp only [Option.some.injEq, Prod.mk.injEq] at H1
   obtain ⟨rfl, rfl⟩ := H1
   have hpl := HPB.out rfl
   obtain ⟨i0, hi0, hz0⟩ := Option.map_eq_some_iff.1 info27
   simp only [Prod.mk.injEq] at hz0
   obtain ⟨hz, hsz, hby⟩ := hz0
   have hmk : ∀ W : World, (Instr.makeSlice 22 (.int .i64 (l0.length : Int)) (.int .i64 (l0.length : Int))).run Try.prog W = .ok (.slice (some ⟨W.heap.size, 0, none⟩) l0.length l0.length) (W.alloc (.cells (madeCells #[.int .u32 0, .int .u32 0, .int .u32 0, .int .i64 0, .int .u32 0, .slice none 0 0] (l0.length * 6)) 27)) := by
    intro W
    have hl2 := HL.out
    have := run_make W 22 27 i0 _ Try.underlying22 hi0 hz .i64 .i64 (l0.length : Int) (l0.length : Int) (by omega) (by omega) (by rw [hby]; omega) (by omega)
    rw [hsz, show ((l0.length : Int)).toNat = l0.length from by omega] at this
    exact this
   have HI0 := m_ (And.intro hi0 hsz)
   clear hi0 hz hsz hby
   go_wp2_with ((with_reducible refine gate_builtin (b := .copy) (xs := #[.tmp 28, .tmp 29]) rfl ?_); refine Stop0.out ?_)
   refine ⟨?_⟩
   have hgm := blk_new w4 (.cells (madeCells #[.int .u32 0, .int .u32 0, .int .u32 0, .int .i64 0, .int .u32 0, .slice none 0 0] (l0.length * 6)) 27)
   have hbm := pa_ (Below.refl w4.heap.size w4) (.cells (madeCells #[.int .u32 0, .int .u32 0, .int .u32 0, .int .i64 0, .int .u32 0, .slice none 0 0] (l0.length * 6)) 27)
   have hsm := size_madeCells #[.int .u32 0, .int .u32 0, .int .u32 0, .int .i64 0, .int .u32 0, .slice none 0 0] (l0.length * 6)
   generalize madeCells #[.int .u32 0, .int .u32 0, .int .u32 0, .int .i64 0, .int .u32 0, .slice none 0 0] (l0.length * 6) = cm at hgm hbm hsm ⊢
   generalize (w4.alloc _) = wm at hgm hbm ⊢
   have hF0 := Kd.F_below (Kd.F_below (Kd.F_bound (Kd.V_F HS0.out)) HB4.out) hbm
   have hrr := Kd.F_rows hF0
   obtain ⟨ad, rfl, _⟩ := hrr.2.2 (by omega)
   obtain ⟨inner, hre, hcell⟩ := ReadsRow.inner_ hrr
   rw [show k27.sz = 6 from rfl] at hre
   have hil : inner.length = l0.length * 6 := hre.1
   have HRE := m_ hre
   have hnm : Nat.min l0.length l0.length = l0.length := Nat.min_self _
   refine wpList_copy_rows rfl (.tmp 28) (.tmp 29) 22 22 rfl 27 6 Try.underlying22 (by rw [HI0.out.1]; exact congrArg some HI0.out.2) (some ⟨w4.heap.size, 0, none⟩) (some ad) l0.length l0.length l0.length c0 rfl rfl w4.heap.size 0 cm 27 hgm inner ?_ ?_ ?_ ?_ inner.toArray ?_ ?_
   ·rw [hnm]; exact hil
   ·exact fun _ => ⟨rfl, ad, rfl, hcell⟩
   ·rw [hil, hsm]; omega
   ·exact reps_one_F (d := k27) hre
   ·rw [List.take_zero, List.nil_append, List.drop_of_length_le (by rw [Array.length_toList, hsm, hil]; omega), List.append_nil]
   rw [hnm]
   intro w5 hg5 ho5
   have HG5 := m_ (And.intro hg5 ho5)
   have HBM := m_ hbm
   have HIL := m_ hil
   have b0 : w5.cell? ⟨w.heap.size, 0, none⟩ = some (.int .u32 a1_0) := (bc_ ((ho5.block _ (Nat.ne_of_lt (blk_lt BK4.out))).trans (blk_below BK4.out hbm)) 0).trans rfl
   clear hg5 ho5 hgm hbm hsm hil hre hrr hF0 hcell hnm b0
   have BK5 := m_ ((HG5.out.2.block _ (Nat.ne_of_lt (blk_lt BK4.out))).trans (blk_below BK4.out HBM.out))
   obtain ⟨b0, b1, b2, b3, b4, b5⟩ := blk6 BK5.out
   have hd1 : decide ((p : Int) < (l0.length : Int)) = true := decide_eq_true (by omega)
   go_wp2_with ((with_reducible refine gate_store (t := 27) (p := 34) (v := .tmp 33) rfl ?_); refine Stop0.out ?_)
   refine ⟨?_⟩
   clear b0 b1 b2 b3 b4 b5 hd1
   refine blk_write (cs' := (inner.take (p * 6) ++ ([.int .u32 a1_0, .int .u32 a1_1, .int .u32 a1_2, .int .i64 a1_3, .int .u32 a1_4, .slice A1_5 l1_5.length c1_5] : List Value) ++ inner.drop (p * 6 + 6)).toArray) rfl rfl rfl (g := w4.heap.size) (o' := p * 6) [.int .u32 a1_0, .int .u32 a1_1, .int .u32 a1_2, .int .i64 a1_3, .int .u32 a1_4, .slice A1_5 l1_5.length c1_5] rfl rfl rfl (by rw [HI0.out.1]; exact congrArg some HI0.out.2) (by simp [Value.oneCell']) HG5.out.1 (by simp [HIL.out]; omega) (by simp) ?_
   intro w6 hg6 ho6
   have hb6 : Below w.heap.size w w6 := pw_below_grown (pw_below_grown (below_step HB4.out HBM.out) _ (Nat.le_trans HB4.out.size HBM.out.size) HG5.out.2.grown (fun k hk => by injection hk with hk; rw [← hk]; exact HB4.out.size)) _ (by rw [HG5.out.2.size]; exact Nat.le_trans HB4.out.size HBM.out.size) ho6.grown (fun k hk => by injection hk with hk; rw [← hk]; exact HB4.out.size)
   have hst : ∀ k, k < w.heap.size → w6.heap[k]? = wm.heap[k]? := fun k hk => (ho6.block k (Nat.ne_of_lt (Nat.lt_of_lt_of_le hk HB4.out.size))).trans (HG5.out.2.block k (Nat.ne_of_lt (Nat.lt_of_lt_of_le hk HB4.out.size)))
   have hN : Kd.N k27 27 w6 w.heap.size (fun k => (P0_ k ∨ P1_5_ k) ∨ w.heap.size ≤ k) (.slice (some ⟨w4.heap.size, 0, none⟩) l0.length l0.length) (l0.set p ⟨a1_0, a1_1, a1_2, a1_3, a1_4, l1_5⟩) := by
    have hll : (l0.set p ⟨a1_0, a1_1, a1_2, a1_3, a1_4, l1_5⟩).length = l0.length := List.length_set
    have hfl : (inner.take (p * 6) ++ ([.int .u32 a1_0, .int .u32 a1_1, .int .u32 a1_2, .int .i64 a1_3, .int .u32 a1_4, .slice A1_5 l1_5.length c1_5] : List Value) ++ inner.drop (p * 6 + 6)).length = l0.length * 6 := by
     simp only [List.length_append, List.length_take, List.length_drop, List.length_cons, List.length_nil, HIL.out]
     omega
    have := N_mk (d := k27) (base := w.heap.size) (ok := fun k => (P0_ k ∨ P1_5_ k) ∨ w.heap.size ≤ k) (xs := l0.set p ⟨a1_0, a1_1, a1_2, a1_3, a1_4, l1_5⟩) (cap := l0.length) (inner := inner.take (p * 6) ++ ([.int .u32 a1_0, .int .u32 a1_1, .int .u32 a1_2, .int .i64 a1_3, .int .u32 a1_4, .slice A1_5 l1_5.length c1_5] : List Value) ++ inner.drop (p * 6 + 6)) hg6 HB4.out.size (.inr HB4.out.size) (by rw [hll]; exact Nat.le_refl _) (by have := HL.out; simp only [maxLen]; omega) (by rw [List.size_toArray, hfl]; rfl) (by rw [hll, List.toList_toArray]; exact List.take_of_length_le (by rw [hfl]; exact Nat.le_refl _)) (by
     have hre2 : Reps (fun x c => Kd.FK k27 w6 (fun k => P0_ k ∧ k < w.heap.size) x c) 6 l0 inner := reps_F_step HRE.out (fun k hk _ => hst k hk.2)
     have hfr : Kd.FK k27 w6 (fun k => P1_5_ k ∧ k < w.heap.size) ⟨a1_0, a1_1, a1_2, a1_3, a1_4, l1_5⟩ [.int .u32 a1_0, .int .u32 a1_1, .int .u32 a1_2, .int .i64 a1_3, .int .u32 a1_4, .slice A1_5 l1_5.length c1_5] := k27_mkF _ _ ⟨a1_0, a1_1, a1_2, a1_3, a1_4, l1_5⟩ HC1.out.1 (Kd.F_step (Kd.F_below (Kd.F_below (Kd.F_bound (Kd.V_F HS1.out)) HB4.out) HBM.out) (fun k hk _ => hst k hk.2))
     have h3 := Kd.reps_append (Kd.reps_append ((reps_take hre2 p).imp_ (fun _ _ hp => Kd.FK_mono (ok' := fun k => ((P0_ k ∨ P1_5_ k) ∨ w.heap.size ≤ k) ∧ k ≠ w4.heap.size) hp (fun k hk => ⟨.inl (.inl hk.1), Nat.ne_of_lt (Nat.lt_of_lt_of_le hk.2 HB4.out.size)⟩))) (reps_single (Kd.FK_mono (ok' := fun k => ((P0_ k ∨ P1_5_ k) ∨ w.heap.size ≤ k) ∧ k ≠ w4.heap.size) hfr (fun k hk => ⟨.inl (.inr hk.1), Nat.ne_of_lt (Nat.lt_of_lt_of_le hk.2 HB4.out.size)⟩)) rfl)) ((reps_drop hre2 (p + 1)).imp_ (fun _ _ hp => Kd.FK_mono (ok' := fun k => ((P0_ k ∨ P1_5_ k) ∨ w.heap.size ≤ k) ∧ k ≠ w4.heap.size) hp (fun k hk => ⟨.inl (.inl hk.1), Nat.ne_of_lt (Nat.lt_of_lt_of_le hk.2 HB4.out.size)⟩)))
     rw [show (p + 1) * 6 = p * 6 + 6 from by omega] at h3
     rw [show l0.set p ⟨a1_0, a1_1, a1_2, a1_3, a1_4, l1_5⟩ = l0.take p ++ [⟨a1_0, a1_1, a1_2, a1_3, a1_4, l1_5⟩] ++ l0.drop (p + 1) from by rw [List.set_eq_take_append_cons_drop, if_pos hpl]; simp]
     exact h3)
    rw [hll] at this
    exact this
   have HN := m_ (And.intro hN hb6)
   clear hN hb6 hg6 ho6 hst
   go_wp2
   go_ret2
   exact ⟨_, rfl, Kd.V_mono (Kd.N_V HN.out.1) (fun _ hk => hk), HN.out.2⟩
  | false =>
   rw [if_neg (by simp)] at H1
   have hl2 := HL.out
   by_cases hc : (l0.length : Int) ≥ a2
   ·rw [if_pos hc] at H1
    simp only [Option.some.injEq, Prod.mk.injEq] at H1
    obtain ⟨rfl, rfl⟩ := H1
    have hd : decide ((l0.length : Int) ≥ a2) = true := decide_eq_true hc
    have hd2 : decide (a2 ≤ (l0.length : Int)) = true := decide_eq_true hc
    clear hc
    go_wp2
    go_ret2
    exact ⟨_, rfl, Kd.V_mono (Kd.V_below HS0.out HB4.out) (fun k hk => .inl (.inl hk)), HB4.out⟩
   ·rw [if_neg hc] at H1
    simp only [Option.some.injEq, Prod.mk.injEq] at H1
    obtain ⟨rfl, rfl⟩ := H1
    have hd : decide ((l0.length : Int) ≥ a2) = false := decide_eq_false hc
    have hd2 : decide (a2 ≤ (l0.length : Int)) = false := decide_eq_false hc
    clear hc
    go_wp2
    have BKc := BK4
    go_region_held3 (fun W => W.cell? ⟨w.heap.size, 0, none⟩ = some (.int .u32 a1_0) ∧ W.cell? ⟨w.heap.size, 1, none⟩ = some (.int .u32 a1_1) ∧ W.cell? ⟨w.heap.size, 2, none⟩ = some (.int .u32 a1_2) ∧ W.cell? ⟨w.heap.size, 3, none⟩ = some (.int .i64 a1_3) ∧ W.cell? ⟨w.heap.size, 4, none⟩ = some (.int .u32 a1_4) ∧ W.cell? ⟨w.heap.size, 5, none⟩ = some (.slice A1_5 l1_5.length c1_5)) (first | exact blk6 BKc.out | exact blk6 (ba_ BKc.out _)) (first | (go_at_call 26; (with_reducible refine (cloneRule_calls P0_ A0 c0 l0 w4.drew (V_base (Kd.V_drew (Kd.V_below HS0.out HB4.out))) (Nat.le_trans HL.out (by decide))).mono ?_); rintro e w5 ⟨v5, rfl, hN5, hb5⟩; obtain ⟨A5, c5, rfl⟩ := Kd.N_slice hN5; have HLO := m_ (Kd.N_base hN5); have HN5 := m_ (Kd.N_lower (Kd.N_mono (ok' := fun k => (P0_ k ∨ P1_5_ k) ∨ w.heap.size ≤ k) hN5 (fun k hk => hk.elim (fun h => .inl (.inl h)) (fun h => .inr (Nat.le_trans HB4.out.size h)))) HB4.out.size); have HBW5 := m_ (below_step (pd_ HB4.out) hb5); have HF5 := m_ (Kd.F_below (Kd.F_drew (Kd.F_below (Kd.F_bound (Kd.V_F HS1.out)) HB4.out)) hb5); have HSZ := m_ (Nat.le_trans HB4.out.size hb5.size); have BKc := m_ (blk_below (bd_ BK4.out) hb5); clear hN5 hb5) | (go_at_call 26; (with_reducible refine (cloneRule_calls P0_ A0 c0 l0 (World.drew (w4.alloc _)) (V_base (Kd.V_drew (Kd.V_alloc (Kd.V_below HS0.out HB4.out) _))) (Nat.le_trans HL.out (by decide))).mono ?_); rintro e w5 ⟨v5, rfl, hN5, hb5⟩; obtain ⟨A5, c5, rfl⟩ := Kd.N_slice hN5; have HLO := m_ (Kd.N_base hN5); have HSA := m_ (show w.heap.size ≤ (World.drew (w4.alloc (.cells #[.int .u32 a1_0, .int .u32 a1_1, .int .u32 a1_2, .int .i64 a1_3, .int .u32 a1_4, .slice A1_5 l1_5.length c1_5] 27))).heap.size from Nat.le_trans HB4.out.size (pd_ (pa_ (Below.refl w4.heap.size w4) _)).size); have HN5 := m_ (Kd.N_lower (Kd.N_mono (ok' := fun k => (P0_ k ∨ P1_5_ k) ∨ w.heap.size ≤ k) hN5 (fun k hk => hk.elim (fun h => .inl (.inl h)) (fun h => .inr (Nat.le_trans HSA.out h)))) HSA.out); have HBW5 := m_ (below_step (pd_ (pa_ HB4.out _)) hb5); have HF5 := m_ (Kd.F_below (Kd.F_drew (Kd.F_alloc (Kd.F_below (Kd.F_bound (Kd.V_F HS1.out)) HB4.out) _)) hb5); have HSZ := m_ (Nat.le_trans HSA.out hb5.size); have HBB := m_ (blk_below (bd_ (blk_new w4 _)) hb5); have BKc := m_ (blk_below (bd_ (ba_ BK4.out _)) hb5); clear hN5 hb5) | (go_at_call 25; (with_reducible refine (insRule_calls A5 l0.length c5 w5.heap.size p l0 ⟨a1_0, a1_1, a1_2, a1_3, a1_4, l1_5⟩ [.int .u32 a1_0, .int .u32 a1_1, .int .u32 a1_2, .int .i64 a1_3, .int .u32 a1_4, .slice A1_5 l1_5.length c1_5] (fun k => (P0_ k ∨ P1_5_ k) ∨ w.heap.size ≤ k) (fun k => P1_5_ k ∧ k < w.heap.size) w.heap.size w _ ?i1 ?i2 ?i3 ?i4 ?i5 ?i6 ?i7 ?i8 HPL.out (Nat.le_trans HL.out (by decide))).mono ?_); (case i1 => exact Kd.N_alloc HN5.out _); (case i2 => exact blk_new w5 _); (case i3 => exact k27_mkF _ _ ⟨a1_0, a1_1, a1_2, a1_3, a1_4, l1_5⟩ HC1.out.1 (Kd.F_alloc HF5.out _)); (case i4 => exact ⟨.inr HSZ.out, fun e => Nat.lt_irrefl _ (Kd.N_lt HN5.out _ e.symm)⟩); (case i5 => exact fun k hk => ⟨.inl (.inr hk.1), fun e => Nat.lt_irrefl _ (Nat.lt_of_lt_of_le hk.2 (Kd.N_base HN5.out _ e.symm))⟩); (case i6 => exact fun k hk => .inr (Nat.le_trans (Nat.le_trans HSZ.out (pa_ (Below.refl w5.heap.size w5) _).size) hk)); (case i7 => exact pa_ HBW5.out _); (case i8 => exact Nat.le_trans HSZ.out (pa_ (Below.refl w5.heap.size w5) _).size); rintro e w6 ⟨v6, rfl, hN6, hb6, hg6⟩; obtain ⟨A6, n6, c6, rfl⟩ : ∃ A n c, v6 = Value.slice A n c := (by obtain ⟨A, c, h⟩ := Kd.N_slice hN6; exact ⟨A, _, c, h⟩); have HN6 := m_ hN6; have HB6 := m_ hb6; have hne6 : some w.heap.size ≠ (Value.slice A5 l0.length c5).ownBlock := (fun e => Nat.lt_irrefl _ (Nat.lt_of_lt_of_le (blk_lt BK4.out) (HLO.out _ e.symm))); have BKc := m_ (blk_grown (ba_ BKc.out _) hg6 hne6); clear hne6; clear hN6 hb6 hg6) | (go_at_call 25; (with_reducible refine (insRule_calls A5 l0.length c5 w4.heap.size p l0 ⟨a1_0, a1_1, a1_2, a1_3, a1_4, l1_5⟩ [.int .u32 a1_0, .int .u32 a1_1, .int .u32 a1_2, .int .i64 a1_3, .int .u32 a1_4, .slice A1_5 l1_5.length c1_5] (fun k => (P0_ k ∨ P1_5_ k) ∨ w.heap.size ≤ k) (fun k => P1_5_ k ∧ k < w.heap.size) w.heap.size w _ ?n1 ?n2 ?n3 ?n4 ?n5 ?n6 ?n7 ?n8 HPL.out (Nat.le_trans HL.out (by decide))).mono ?_); (case n1 => exact HN5.out); (case n2 => exact HBB.out); (case n3 => exact k27_mkF _ _ ⟨a1_0, a1_1, a1_2, a1_3, a1_4, l1_5⟩ HC1.out.1 HF5.out); (case n4 => exact ⟨.inr HB4.out.size, fun e => Nat.lt_irrefl _ (Nat.lt_of_lt_of_le (blk_lt (bd_ (blk_new w4 _))) (HLO.out _ e.symm))⟩); (case n5 => exact fun k hk => ⟨.inl (.inr hk.1), fun e => Nat.lt_irrefl _ (Nat.lt_of_lt_of_le hk.2 (Kd.N_base HN5.out _ e.symm))⟩); (case n6 => exact fun k hk => .inr (Nat.le_trans HSZ.out hk)); (case n7 => exact HBW5.out); (case n8 => exact HSZ.out); rintro e w6 ⟨v6, rfl, hN6, hb6, hg6⟩; obtain ⟨A6, n6, c6, rfl⟩ : ∃ A n c, v6 = Value.slice A n c := (by obtain ⟨A, c, h⟩ := Kd.N_slice hN6; exact ⟨A, _, c, h⟩); have HN6 := m_ hN6; have HB6 := m_ hb6; have hne6 : some w.heap.size ≠ (Value.slice A5 l0.length c5).ownBlock := (fun e => Nat.lt_irrefl _ (Nat.lt_of_lt_of_le (blk_lt (bd_ (ba_ BK4.out _))) (HLO.out _ e.symm))); have BKc := m_ (blk_grown BKc.out hg6 hne6); clear hne6; clear hN6 hb6 hg6))
    all_goals
     try (rename_i hHeld; clear hHeld)
     go_wp2
     go_ret2
     exact ⟨_, rfl, Kd.N_V HN6.out, HB6.out⟩

end Go.Proofs.Yteibolilodgjnaa.P

/- For each Go function a Lean function, and the proof that a call comes to what it tells: made by program out of the translation (the kit's print, with texts by hand put in). No condition. -/
import Derived.Test.YtfomnmdjbdohgaaSq
import Derived.Test.YtfomnmdjbdohgaaPx0
import Derived.Test.YtfomnmdjbdohgaaPx4
import Derived.Test.YtfomnmdjbdohgaaPx5
import Derived.Test.YtfomnmdjbdohgaaPx6
namespace Go.Proofs.Ytfomnmdjbdohgaa.P
open Go.RowKit Go.Proofs.Ytfomnmdjbdohgaa.HRows Go.Proofs.YtfomnmdjbdohgaaW.PrintWords Go.Proofs.YtfomnmdjbdohgaaW.PrintLast Go.Proofs.YtfomnmdjbdohgaaW.PrintMore
attribute [local go_sem] max2_int min2_int max_two min_two max_three min_three max_four min_four
set_option linter.unusedVariables false
set_option linter.unusedSimpArgs false
theorem blk6 {W : World} {g : Nat} {t : TypeId} {v0 v1 v2 v3 v4 v5 : Value} (h : W.heap[g]? = some (.cells #[v0, v1, v2, v3, v4, v5] t (0, 0))) : W.cell? ⟨g, 0, none⟩ = some v0 ∧ W.cell? ⟨g, 1, none⟩ = some v1 ∧ W.cell? ⟨g, 2, none⟩ = some v2 ∧ W.cell? ⟨g, 3, none⟩ = some v3 ∧ W.cell? ⟨g, 4, none⟩ = some v4 ∧ W.cell? ⟨g, 5, none⟩ = some v5 :=
  ⟨bc_ h 0, bc_ h 1, bc_ h 2, bc_ h 3, bc_ h 4, bc_ h 5⟩
theorem V_base {α : Type} {d : Kd α} {e b b' : Nat} {W : World} {ok : Nat → Prop} {v : Value} {xs : List α} (h : Kd.V d e W b ok v xs) : Kd.V d e W b' ok v xs := h
def placeB (l : List (S29)) (k : Int × Int × Int) : Bool := decide (placeK l k < l.length) && (ordK (keyR (rd_T29 l (placeK l k : Nat))) k == 0)
def flow_Put.f (k : Nat) (l0 : List (S29)) (a1_0 a1_1 a1_2 a1_3 a1_4 : Int) (l1_5 : List (S74)) (a2 : Int) : Option (List (S29) × Int) :=
  if riseK l0 = true ∧ l0.length ≤ 100000 then (flow_Right.f k a1_0 a1_1 a1_2 a1_3 a1_4 l1_5).bind fun t => if t = true then (if placeB l0 (a1_0, a1_1, a1_2) = true then some (l0.set (placeK l0 (a1_0, a1_1, a1_2)) ⟨a1_0, a1_1, a1_2, a1_3, a1_4, l1_5⟩, 0) else if (l0.length : Int) ≥ a2 then some (l0, 7) else some (l0.take (placeK l0 (a1_0, a1_1, a1_2)) ++ ⟨a1_0, a1_1, a1_2, a1_3, a1_4, l1_5⟩ :: l0.drop (placeK l0 (a1_0, a1_1, a1_2)), 0)) else some (l0, 1)
  else none
theorem flow_Put.mono : ∀ a0 a1 a2 a3 a4 a5 a6 a7 k, LeO (flow_Put.f k a0 a1 a2 a3 a4 a5 a6 a7) (flow_Put.f (k + 1) a0 a1 a2 a3 a4 a5 a6 a7) := by
  intro a0 a1 a2 a3 a4 a5 a6 a7 k
  unfold flow_Put.f
  refine LeO.ite (LeO.bind (flow_Right.mono _ _ _ _ _ _ _) (fun _ => LeO.refl _)) (LeO.refl _)
set_option maxHeartbeats 4000000 in
set_option maxRecDepth 100000 in
theorem flow_Put.calls (k : Nat) (P0_ : Nat → Prop) (A0 : Option Addr) (c0 : Nat) (l0 : List (S29)) (a1_0 a1_1 a1_2 a1_3 a1_4 : Int) (P1_5_ : Nat → Prop) (A1_5 : Option Addr) (c1_5 : Nat) (l1_5 : List (S74)) (a2 : Int) (r1 : List (S29)) (r2 : Int) (w : World) (hs0 : Kd.V k29 29 w w.heap.size (fun k_ => P0_ k_) (.slice A0 l0.length c0) l0) (hs1_5 : Kd.V k74 74 w w.heap.size (fun k_ => P1_5_ k_) (.slice A1_5 l1_5.length c1_5) l1_5) (h : flow_Put.f k l0 a1_0 a1_1 a1_2 a1_3 a1_4 l1_5 a2 = some (r1, r2)) :
    Calls Try.prog 48 #[.slice A0 l0.length c0, .agg #[.int .u32 a1_0, .int .u32 a1_1, .int .u32 a1_2, .int .i64 a1_3, .int .u32 a1_4, .slice A1_5 l1_5.length c1_5], .int .i64 a2] w fun e w' => ∃ v0_ : Value, e = .returned (.tuple #[v0_, .int .i64 r2]) ∧ Kd.V k29 29 w' w.heap.size (fun k_ => ((P0_ k_ ∨ P1_5_ k_) ∨ w.heap.size ≤ k_)) v0_ r1 ∧ Below w.heap.size w w' := by
  unfold flow_Put.f at h
  split at h
  case isFalse => cases h
  case isTrue hok =>
  obtain ⟨hs, hl⟩ := hok
  obtain ⟨t, hr, h⟩ := Option.bind_eq_some_iff.mp h
  have HS0 := m_ hs0
  have HS1 := m_ hs1_5
  have HRI := m_ hr
  have HS := m_ hs
  have HL := m_ hl
  have H := m_ h
  have hu27 := Try.underlying29
  have hu59 := Try.underlying85
  clear hs0 hs1_5 hr hs hl h
  go_enter Try.func48, Try.ntmps48
  go_wp2_with (go_at_call 46; refine Stop0.out ?_)
  refine ⟨?_⟩
  have BK := m_ (blk_new w (.cells #[.int .u32 a1_0, .int .u32 a1_1, .int .u32 a1_2, .int .i64 a1_3, .int .u32 a1_4, .slice A1_5 l1_5.length c1_5] 29))
  have HB := m_ (below_alloc (Below.refl w.heap.size w) (.cells #[.int .u32 a1_0, .int .u32 a1_1, .int .u32 a1_2, .int .i64 a1_3, .int .u32 a1_4, .slice A1_5 l1_5.length c1_5] 29))
  generalize (w.alloc _) = w1 at BK HB ⊢
  have hC1 := (Kd.V_reads' HS1.out).2
  have hC0 := (Kd.V_reads' HS0.out).2
  have HC1 := m_ hC1
  have HC0 := m_ hC0
  clear hC1 hC0
  refine (flow_of.calls a1_0 a1_1 a1_2 a1_3 a1_4 A1_5 c1_5 l1_5 a1_0 a1_1 a1_2 w1 (Kd.C_below HC1.out.2 HB.out) HC1.out.1 rfl).mono ?_
  rintro e w2 ⟨rfl, hb⟩
  have BK2 := m_ (blk_below BK.out hb)
  have HB2 := m_ (below_step HB.out hb)
  clear hb BK HB
  go_wp2_with (go_at_call 53; refine Stop0.out ?_)
  refine ⟨?_⟩
  refine (flow_place.calls A0 c0 l0 a1_0 a1_1 a1_2 (placeK l0 (a1_0, a1_1, a1_2) : Nat) (placeB l0 (a1_0, a1_1, a1_2)) w2 (Kd.C_below HC0.out.2 HB2.out) HC0.out.1 (by unfold flow_place.f placeB; rw [if_pos ⟨HS.out, Nat.le_trans HL.out (by decide)⟩])).mono ?_
  rintro e w3 ⟨rfl, hb⟩
  have BK3 := m_ (blk_below BK2.out hb)
  have HB3 := m_ (below_step HB2.out hb)
  have HPL := m_ (place_le l0 (a1_0, a1_1, a1_2))
  have HPB : Aside0 (placeB l0 (a1_0, a1_1, a1_2) = true → placeK l0 (a1_0, a1_1, a1_2) < l0.length) := ⟨fun h => by unfold placeB at h; rw [Bool.and_eq_true] at h; exact of_decide_eq_true h.1⟩
  generalize placeK l0 (a1_0, a1_1, a1_2) = p at HPL HPB H ⊢
  generalize placeB l0 (a1_0, a1_1, a1_2) = is at HPB H ⊢
  clear hb BK2 HB2
  have b0 : w3.cell? ⟨w.heap.size, 0, none⟩ = some (.int .u32 a1_0) := (blk_cell BK3.out 0).trans rfl
  have b1 : w3.cell? ⟨w.heap.size, 1, none⟩ = some (.int .u32 a1_1) := (blk_cell BK3.out 1).trans rfl
  have b2 : w3.cell? ⟨w.heap.size, 2, none⟩ = some (.int .u32 a1_2) := (blk_cell BK3.out 2).trans rfl
  have b3 : w3.cell? ⟨w.heap.size, 3, none⟩ = some (.int .i64 a1_3) := (blk_cell BK3.out 3).trans rfl
  have b4 : w3.cell? ⟨w.heap.size, 4, none⟩ = some (.int .u32 a1_4) := (blk_cell BK3.out 4).trans rfl
  have b5 : w3.cell? ⟨w.heap.size, 5, none⟩ = some (.slice A1_5 l1_5.length c1_5) := (blk_cell BK3.out 5).trans rfl
  go_wp2_with (go_at_call 45; refine Stop0.out ?_)
  refine ⟨?_⟩
  refine (flow_Right.calls k a1_0 a1_1 a1_2 a1_3 a1_4 A1_5 c1_5 l1_5 t w3 (Kd.C_below HC1.out.2 HB3.out) HC1.out.1 HRI.out).mono ?_
  rintro e w4 ⟨rfl, hb⟩
  have BK4 := m_ (blk_below BK3.out hb)
  have HB4 := m_ (below_step HB3.out hb)
  clear hb BK3 HB3 b0 b1 b2 b3 b4 b5
  cases t with
  | false =>
    have H1 := H.out
    rw [if_neg (by simp)] at H1
    simp only [Option.some.injEq, Prod.mk.injEq] at H1
    obtain ⟨rfl, rfl⟩ := H1
    go_wp2
    go_ret2
    exact ⟨_, rfl, Kd.V_mono (Kd.V_below HS0.out HB4.out) (fun k hk => .inl (.inl hk)), HB4.out⟩
  | true =>
    have H1 := H.out
    rw [if_pos rfl] at H1
    cases is with
    | true =>
      rw [if_pos rfl] at H1
      simp only [Option.some.injEq, Prod.mk.injEq] at H1
      obtain ⟨rfl, rfl⟩ := H1
      have hpl := HPB.out rfl
      obtain ⟨i0, hi0, hz0⟩ := Option.map_eq_some_iff.1 info29
      simp only [Prod.mk.injEq] at hz0
      obtain ⟨hz, hsz, hby⟩ := hz0
      have hmk : ∀ W : World, (Instr.makeSlice 22 (.int .i64 (l0.length : Int)) (.int .i64 (l0.length : Int))).run Try.prog W = .ok (.slice (some ⟨W.heap.size, 0, none⟩) l0.length l0.length) (W.alloc (.cells (madeCells #[.int .u32 0, .int .u32 0, .int .u32 0, .int .i64 0, .int .u32 0, .slice none 0 0] (l0.length * 6)) 29)) := by
        intro W
        have hl2 := HL.out
        have := run_make W 22 29 i0 _ Try.underlying22 hi0 hz .i64 .i64 (l0.length : Int) (l0.length : Int) (by omega) (by omega) (by rw [hby]; omega) (by omega)
        rw [hsz, show ((l0.length : Int)).toNat = l0.length from by omega] at this
        exact this
      have HI0 := m_ (And.intro hi0 hsz)
      clear hi0 hz hsz hby
      go_wp2_with ((with_reducible refine gate_builtin (b := .copy) (xs := #[.tmp 28, .tmp 29]) rfl ?_); refine Stop0.out ?_)
      refine ⟨?_⟩
      have hgm := blk_new w4 (.cells (madeCells #[.int .u32 0, .int .u32 0, .int .u32 0, .int .i64 0, .int .u32 0, .slice none 0 0] (l0.length * 6)) 29)
      have hbm := below_alloc (Below.refl w4.heap.size w4) (.cells (madeCells #[.int .u32 0, .int .u32 0, .int .u32 0, .int .i64 0, .int .u32 0, .slice none 0 0] (l0.length * 6)) 29)
      have hsm := size_madeCells #[.int .u32 0, .int .u32 0, .int .u32 0, .int .i64 0, .int .u32 0, .slice none 0 0] (l0.length * 6)
      generalize madeCells #[.int .u32 0, .int .u32 0, .int .u32 0, .int .i64 0, .int .u32 0, .slice none 0 0] (l0.length * 6) = cm at hgm hbm hsm ⊢
      generalize (w4.alloc _) = wm at hgm hbm ⊢
      have hF0 := Kd.F_below (Kd.F_below (Kd.F_bound (Kd.V_F HS0.out)) HB4.out) hbm
      have hrr := Kd.F_rows hF0
      obtain ⟨ad, rfl, _⟩ := hrr.2.2 (by omega)
      obtain ⟨inner, hre, hcell⟩ := ReadsRow.inner_ hrr
      rw [show k29.sz = 6 from rfl] at hre
      have hil : inner.length = l0.length * 6 := hre.1
      have HRE := m_ hre
      have hnm : Nat.min l0.length l0.length = l0.length := Nat.min_self _
      refine wpList_copy_rows rfl (.tmp 28) (.tmp 29) 22 22 rfl 29 6 Try.underlying22 (by rw [HI0.out.1]; exact congrArg some HI0.out.2) (some ⟨w4.heap.size, 0, none⟩) (some ad) l0.length l0.length l0.length c0 rfl rfl w4.heap.size 0 cm 29 hgm inner ?_ ?_ ?_ ?_ inner.toArray ?_ ?_
      · rw [hnm]; exact hil
      · exact fun _ => ⟨rfl, ad, rfl, hcell⟩
      · rw [hil, hsm]; omega
      · exact reps_one_F (d := k29) hre
      · rw [List.take_zero, List.nil_append, List.drop_of_length_le (by rw [Array.length_toList, hsm, hil]; omega), List.append_nil]
      rw [hnm]
      intro w5 hg5 ho5
      have HG5 := m_ (And.intro hg5 ho5)
      have HBM := m_ hbm
      have HIL := m_ hil
      have b0 : w5.cell? ⟨w.heap.size, 0, none⟩ = some (.int .u32 a1_0) := (blk_cell ((ho5.block _ (Nat.ne_of_lt (blk_lt BK4.out))).trans (blk_below BK4.out hbm)) 0).trans rfl
      clear hg5 ho5 hgm hbm hsm hil hre hrr hF0 hcell hnm b0
      have BK5 := m_ ((HG5.out.2.block _ (Nat.ne_of_lt (blk_lt BK4.out))).trans (blk_below BK4.out HBM.out))
      obtain ⟨b0, b1, b2, b3, b4, b5⟩ := blk6 BK5.out
      have hd1 : decide ((p : Int) < (l0.length : Int)) = true := decide_eq_true (by omega)
      go_wp2_with ((with_reducible refine gate_store (t := 29) (p := 34) (v := .tmp 33) rfl ?_); refine Stop0.out ?_)
      refine ⟨?_⟩
      clear b0 b1 b2 b3 b4 b5 hd1
      refine blk_write (cs' := (inner.take (p * 6) ++ ([.int .u32 a1_0, .int .u32 a1_1, .int .u32 a1_2, .int .i64 a1_3, .int .u32 a1_4, .slice A1_5 l1_5.length c1_5] : List Value) ++ inner.drop (p * 6 + 6)).toArray) rfl rfl rfl (g := w4.heap.size) (o' := p * 6) [.int .u32 a1_0, .int .u32 a1_1, .int .u32 a1_2, .int .i64 a1_3, .int .u32 a1_4, .slice A1_5 l1_5.length c1_5] rfl rfl rfl (by rw [HI0.out.1]; exact congrArg some HI0.out.2) (by simp [Value.oneCell']) HG5.out.1 (by simp [HIL.out]; omega) (by simp) ?_
      intro w6 hg6 ho6
      have hb6 : Below w.heap.size w w6 := pw_below_grown (pw_below_grown (below_step HB4.out HBM.out) _ (Nat.le_trans HB4.out.size HBM.out.size) HG5.out.2.grown (fun k hk => by injection hk with hk; rw [← hk]; exact HB4.out.size)) _ (by rw [HG5.out.2.size]; exact Nat.le_trans HB4.out.size HBM.out.size) ho6.grown (fun k hk => by injection hk with hk; rw [← hk]; exact HB4.out.size)
      have hst : ∀ k, k < w.heap.size → w6.heap[k]? = wm.heap[k]? := fun k hk => (ho6.block k (Nat.ne_of_lt (Nat.lt_of_lt_of_le hk HB4.out.size))).trans (HG5.out.2.block k (Nat.ne_of_lt (Nat.lt_of_lt_of_le hk HB4.out.size)))
      have hN : Kd.N k29 29 w6 w.heap.size (fun k => (P0_ k ∨ P1_5_ k) ∨ w.heap.size ≤ k) (.slice (some ⟨w4.heap.size, 0, none⟩) l0.length l0.length) (l0.set p ⟨a1_0, a1_1, a1_2, a1_3, a1_4, l1_5⟩) := by
        have hll : (l0.set p ⟨a1_0, a1_1, a1_2, a1_3, a1_4, l1_5⟩).length = l0.length := List.length_set
        have hfl : (inner.take (p * 6) ++ ([.int .u32 a1_0, .int .u32 a1_1, .int .u32 a1_2, .int .i64 a1_3, .int .u32 a1_4, .slice A1_5 l1_5.length c1_5] : List Value) ++ inner.drop (p * 6 + 6)).length = l0.length * 6 := by
          simp only [List.length_append, List.length_take, List.length_drop, List.length_cons, List.length_nil, HIL.out]
          omega
        have := N_mk (d := k29) (base := w.heap.size) (ok := fun k => (P0_ k ∨ P1_5_ k) ∨ w.heap.size ≤ k) (xs := l0.set p ⟨a1_0, a1_1, a1_2, a1_3, a1_4, l1_5⟩) (cap := l0.length) (inner := inner.take (p * 6) ++ ([.int .u32 a1_0, .int .u32 a1_1, .int .u32 a1_2, .int .i64 a1_3, .int .u32 a1_4, .slice A1_5 l1_5.length c1_5] : List Value) ++ inner.drop (p * 6 + 6)) hg6 HB4.out.size (.inr HB4.out.size) (by rw [hll]; exact Nat.le_refl _) (by have := HL.out; simp only [maxLen]; omega) (by rw [List.size_toArray, hfl]; rfl) (by rw [hll, List.toList_toArray]; exact List.take_of_length_le (by rw [hfl]; exact Nat.le_refl _)) (by
          have hre2 : Reps (fun x c => Kd.FK k29 w6 (fun k => P0_ k ∧ k < w.heap.size) x c) 6 l0 inner := reps_F_step HRE.out (fun k hk _ => hst k hk.2)
          have hfr : Kd.FK k29 w6 (fun k => P1_5_ k ∧ k < w.heap.size) ⟨a1_0, a1_1, a1_2, a1_3, a1_4, l1_5⟩ [.int .u32 a1_0, .int .u32 a1_1, .int .u32 a1_2, .int .i64 a1_3, .int .u32 a1_4, .slice A1_5 l1_5.length c1_5] := k29_mkF _ _ ⟨a1_0, a1_1, a1_2, a1_3, a1_4, l1_5⟩ HC1.out.1 (Kd.F_step (Kd.F_below (Kd.F_below (Kd.F_bound (Kd.V_F HS1.out)) HB4.out) HBM.out) (fun k hk _ => hst k hk.2))
          have h3 := Kd.reps_append (Kd.reps_append ((reps_take hre2 p).imp_ (fun _ _ hp => Kd.FK_mono (ok' := fun k => ((P0_ k ∨ P1_5_ k) ∨ w.heap.size ≤ k) ∧ k ≠ w4.heap.size) hp (fun k hk => ⟨.inl (.inl hk.1), Nat.ne_of_lt (Nat.lt_of_lt_of_le hk.2 HB4.out.size)⟩))) (reps_single (Kd.FK_mono (ok' := fun k => ((P0_ k ∨ P1_5_ k) ∨ w.heap.size ≤ k) ∧ k ≠ w4.heap.size) hfr (fun k hk => ⟨.inl (.inr hk.1), Nat.ne_of_lt (Nat.lt_of_lt_of_le hk.2 HB4.out.size)⟩)) rfl)) ((reps_drop hre2 (p + 1)).imp_ (fun _ _ hp => Kd.FK_mono (ok' := fun k => ((P0_ k ∨ P1_5_ k) ∨ w.heap.size ≤ k) ∧ k ≠ w4.heap.size) hp (fun k hk => ⟨.inl (.inl hk.1), Nat.ne_of_lt (Nat.lt_of_lt_of_le hk.2 HB4.out.size)⟩)))
          rw [show (p + 1) * 6 = p * 6 + 6 from by omega] at h3
          rw [show l0.set p ⟨a1_0, a1_1, a1_2, a1_3, a1_4, l1_5⟩ = l0.take p ++ [⟨a1_0, a1_1, a1_2, a1_3, a1_4, l1_5⟩] ++ l0.drop (p + 1) from by rw [List.set_eq_take_append_cons_drop, if_pos hpl]; simp]
          exact h3)
        rw [hll] at this
        exact this
      have HN := m_ (And.intro hN hb6)
      clear hN hb6 hg6 ho6 hst
      go_wp2
      go_ret2
      exact ⟨_, rfl, Kd.V_mono (Kd.N_V HN.out.1) (fun _ hk => hk), HN.out.2⟩
    | false =>
      rw [if_neg (by simp)] at H1
      have hl2 := HL.out
      by_cases hc : (l0.length : Int) ≥ a2
      · rw [if_pos hc] at H1
        simp only [Option.some.injEq, Prod.mk.injEq] at H1
        obtain ⟨rfl, rfl⟩ := H1
        have hd : decide ((l0.length : Int) ≥ a2) = true := decide_eq_true hc
        have hd2 : decide (a2 ≤ (l0.length : Int)) = true := decide_eq_true hc
        clear hc
        go_wp2
        go_ret2
        exact ⟨_, rfl, Kd.V_mono (Kd.V_below HS0.out HB4.out) (fun k hk => .inl (.inl hk)), HB4.out⟩
      · rw [if_neg hc] at H1
        simp only [Option.some.injEq, Prod.mk.injEq] at H1
        obtain ⟨rfl, rfl⟩ := H1
        have hd : decide ((l0.length : Int) ≥ a2) = false := decide_eq_false hc
        have hd2 : decide (a2 ≤ (l0.length : Int)) = false := decide_eq_false hc
        clear hc
        go_wp2
        have BKc := BK4
        go_region_held3 (fun W => W.cell? ⟨w.heap.size, 0, none⟩ = some (.int .u32 a1_0) ∧ W.cell? ⟨w.heap.size, 1, none⟩ = some (.int .u32 a1_1) ∧ W.cell? ⟨w.heap.size, 2, none⟩ = some (.int .u32 a1_2) ∧ W.cell? ⟨w.heap.size, 3, none⟩ = some (.int .i64 a1_3) ∧ W.cell? ⟨w.heap.size, 4, none⟩ = some (.int .u32 a1_4) ∧ W.cell? ⟨w.heap.size, 5, none⟩ = some (.slice A1_5 l1_5.length c1_5)) (first | exact blk6 BKc.out | exact blk6 (blk_alloc BKc.out _)) (first | (go_at_call 59; (with_reducible refine (cloneRule_calls P0_ A0 c0 l0 w4.drew (V_base (Kd.V_drew (Kd.V_below HS0.out HB4.out))) (Nat.le_trans HL.out (by decide))).mono ?_); rintro e w5 ⟨v5, rfl, hN5, hb5⟩; obtain ⟨A5, c5, rfl⟩ := Kd.N_slice hN5; have HLO := m_ (Kd.N_base hN5); have HN5 := m_ (Kd.N_lower (Kd.N_mono (ok' := fun k => (P0_ k ∨ P1_5_ k) ∨ w.heap.size ≤ k) hN5 (fun k hk => hk.elim (fun h => .inl (.inl h)) (fun h => .inr (Nat.le_trans HB4.out.size h)))) HB4.out.size); have HBW5 := m_ (below_step (below_drew1 HB4.out) hb5); have HF5 := m_ (Kd.F_below (Kd.F_drew (Kd.F_below (Kd.F_bound (Kd.V_F HS1.out)) HB4.out)) hb5); have HSZ := m_ (Nat.le_trans HB4.out.size hb5.size); have BKc := m_ (blk_below (blk_drew BK4.out) hb5); clear hN5 hb5) | (go_at_call 59; (with_reducible refine (cloneRule_calls P0_ A0 c0 l0 (World.drew (w4.alloc _)) (V_base (Kd.V_drew (Kd.V_alloc (Kd.V_below HS0.out HB4.out) _))) (Nat.le_trans HL.out (by decide))).mono ?_); rintro e w5 ⟨v5, rfl, hN5, hb5⟩; obtain ⟨A5, c5, rfl⟩ := Kd.N_slice hN5; have HLO := m_ (Kd.N_base hN5); have HSA := m_ (show w.heap.size ≤ (World.drew (w4.alloc (.cells #[.int .u32 a1_0, .int .u32 a1_1, .int .u32 a1_2, .int .i64 a1_3, .int .u32 a1_4, .slice A1_5 l1_5.length c1_5] 29))).heap.size from Nat.le_trans HB4.out.size (below_drew1 (below_alloc (Below.refl w4.heap.size w4) _)).size); have HN5 := m_ (Kd.N_lower (Kd.N_mono (ok' := fun k => (P0_ k ∨ P1_5_ k) ∨ w.heap.size ≤ k) hN5 (fun k hk => hk.elim (fun h => .inl (.inl h)) (fun h => .inr (Nat.le_trans HSA.out h)))) HSA.out); have HBW5 := m_ (below_step (below_drew1 (below_alloc HB4.out _)) hb5); have HF5 := m_ (Kd.F_below (Kd.F_drew (Kd.F_alloc (Kd.F_below (Kd.F_bound (Kd.V_F HS1.out)) HB4.out) _)) hb5); have HSZ := m_ (Nat.le_trans HSA.out hb5.size); have HBB := m_ (blk_below (blk_drew (blk_new w4 _)) hb5); have BKc := m_ (blk_below (blk_drew (blk_alloc BK4.out _)) hb5); clear hN5 hb5) | (go_at_call 58; (with_reducible refine (insRule_calls A5 l0.length c5 w5.heap.size p l0 ⟨a1_0, a1_1, a1_2, a1_3, a1_4, l1_5⟩ [.int .u32 a1_0, .int .u32 a1_1, .int .u32 a1_2, .int .i64 a1_3, .int .u32 a1_4, .slice A1_5 l1_5.length c1_5] (fun k => (P0_ k ∨ P1_5_ k) ∨ w.heap.size ≤ k) (fun k => P1_5_ k ∧ k < w.heap.size) w.heap.size w _ ?i1 ?i2 ?i3 ?i4 ?i5 ?i6 ?i7 ?i8 HPL.out (Nat.le_trans HL.out (by decide))).mono ?_); (case i1 => exact Kd.N_alloc HN5.out _); (case i2 => exact blk_new w5 _); (case i3 => exact k29_mkF _ _ ⟨a1_0, a1_1, a1_2, a1_3, a1_4, l1_5⟩ HC1.out.1 (Kd.F_alloc HF5.out _)); (case i4 => exact ⟨.inr HSZ.out, fun e => Nat.lt_irrefl _ (Kd.N_lt HN5.out _ e.symm)⟩); (case i5 => exact fun k hk => ⟨.inl (.inr hk.1), fun e => Nat.lt_irrefl _ (Nat.lt_of_lt_of_le hk.2 (Kd.N_base HN5.out _ e.symm))⟩); (case i6 => exact fun k hk => .inr (Nat.le_trans (Nat.le_trans HSZ.out (below_alloc (Below.refl w5.heap.size w5) _).size) hk)); (case i7 => exact below_alloc HBW5.out _); (case i8 => exact Nat.le_trans HSZ.out (below_alloc (Below.refl w5.heap.size w5) _).size); rintro e w6 ⟨v6, rfl, hN6, hb6, hg6⟩; obtain ⟨A6, n6, c6, rfl⟩ : ∃ A n c, v6 = Value.slice A n c := (by obtain ⟨A, c, h⟩ := Kd.N_slice hN6; exact ⟨A, _, c, h⟩); have HN6 := m_ hN6; have HB6 := m_ hb6; have hne6 : some w.heap.size ≠ (Value.slice A5 l0.length c5).ownBlock := (fun e => Nat.lt_irrefl _ (Nat.lt_of_lt_of_le (blk_lt BK4.out) (HLO.out _ e.symm))); have BKc := m_ (blk_grown (blk_alloc BKc.out _) hg6 hne6); clear hne6 hN6 hb6 hg6) | (go_at_call 58; (with_reducible refine (insRule_calls A5 l0.length c5 w4.heap.size p l0 ⟨a1_0, a1_1, a1_2, a1_3, a1_4, l1_5⟩ [.int .u32 a1_0, .int .u32 a1_1, .int .u32 a1_2, .int .i64 a1_3, .int .u32 a1_4, .slice A1_5 l1_5.length c1_5] (fun k => (P0_ k ∨ P1_5_ k) ∨ w.heap.size ≤ k) (fun k => P1_5_ k ∧ k < w.heap.size) w.heap.size w _ ?n1 ?n2 ?n3 ?n4 ?n5 ?n6 ?n7 ?n8 HPL.out (Nat.le_trans HL.out (by decide))).mono ?_); (case n1 => exact HN5.out); (case n2 => exact HBB.out); (case n3 => exact k29_mkF _ _ ⟨a1_0, a1_1, a1_2, a1_3, a1_4, l1_5⟩ HC1.out.1 HF5.out); (case n4 => exact ⟨.inr HB4.out.size, fun e => Nat.lt_irrefl _ (Nat.lt_of_lt_of_le (blk_lt (blk_drew (blk_new w4 _))) (HLO.out _ e.symm))⟩); (case n5 => exact fun k hk => ⟨.inl (.inr hk.1), fun e => Nat.lt_irrefl _ (Nat.lt_of_lt_of_le hk.2 (Kd.N_base HN5.out _ e.symm))⟩); (case n6 => exact fun k hk => .inr (Nat.le_trans HSZ.out hk)); (case n7 => exact HBW5.out); (case n8 => exact HSZ.out); rintro e w6 ⟨v6, rfl, hN6, hb6, hg6⟩; obtain ⟨A6, n6, c6, rfl⟩ : ∃ A n c, v6 = Value.slice A n c := (by obtain ⟨A, c, h⟩ := Kd.N_slice hN6; exact ⟨A, _, c, h⟩); have HN6 := m_ hN6; have HB6 := m_ hb6; have hne6 : some w.heap.size ≠ (Value.slice A5 l0.length c5).ownBlock := (fun e => Nat.lt_irrefl _ (Nat.lt_of_lt_of_le (blk_lt (blk_drew (blk_alloc BK4.out _))) (HLO.out _ e.symm))); have BKc := m_ (blk_grown BKc.out hg6 hne6); clear hne6 hN6 hb6 hg6))
        all_goals
          try (rename_i hHeld; clear hHeld)
          go_wp2
          go_ret2
          exact ⟨_, rfl, Kd.N_V HN6.out, HB6.out⟩
theorem sw_write {P : Program} {ops : Array Oper} {o : Oper} {a : Act} {Q : Exit → Act → World → Prop} {W : World} {K : Act → World → Prop} {X : Prop} (hw : Region.wanted o (yielded ops a.tmps) = true) (hN : o.dst = none) {t : TypeId} {p x : Operand} (ho : o.op = .store t p x) {g o' : Nat} {e : TypeId} {cs cs' : Array Value} {u : Value} (seg : List Value) (haddr : a.eval p = .pointer (some ⟨g, o', none⟩)) (hx : a.eval x = u) (hu : u.cells.toList = seg) (ht : (P.info? t).map (·.size) = some seg.length) (h1 : ∀ q ∈ seg, q.oneCell' = true)
    (hh : W.heap[g]? = some (.cells cs e (0, 0))) (hfit : o' + seg.length ≤ cs.size) (hcs : cs'.toList = cs.toList.take o' ++ seg ++ cs.toList.drop (o' + seg.length))
    (h : ∀ W', W'.heap[g]? = some (.cells cs' e (0, 0)) → Only g W W' → K a W') : if Region.wanted o (yielded ops a.tmps) = true then Oper.wp P o a W K Q else X := by
  rw [if_pos hw]
  unfold Oper.wp
  have hrun : (execOp a.eval o).run P W = .ok .skip (W.setCells g o' seg) := by
    have := run_store_run (P := P) t u seg hh hu ht hfit h1
    simp only [execOp, ho, haddr, hx]
    simp [this]
  rw [hrun]
  show K (a.put o.dst undef) _
  rw [hN]
  obtain ⟨cur', h3, h4, h5⟩ := setCells_row seg o' W cs hh hfit
  obtain ⟨s1, s2, s3, s4⟩ := setCells_same g seg o' W
  have hc : cur' = cs' := Array.toList_inj.1 (h5.trans hcs.symm)
  subst hc
  exact h _ h3 ⟨s1, s2, s3, s4, fun k hk => setCells_far seg _ k hk⟩
/-- A message without a rule, a frame. -/
def bare32 (kind xid : Int) : S32 := ⟨kind, xid, ⟨0, 0, 0, 0, 0, []⟩, 0, false, []⟩
set_option maxHeartbeats 8000000 in
set_option maxRecDepth 100000 in
theorem swtch_answer.calls (gw : Nat) (lim kind : Int) (vR vB vO : Value) (a0 a1 a2 a3 a4 a5 a6 : Int) (A7 : Option Addr) (n7 c7 : Nat) (a8 : Int) (a9 : Bool) (A10 : Option Addr) (n10 c10 : Nat) (lB : List S32) (okB : Nat → Prop) (w0 w : World) (hW : w.heap[gw]? = some (.cells #[.int .i64 lim, vR, vB, vO] 68 (0, 0))) (hN : Kd.N k32 32 w w0.heap.size okB vB lB) (hgB : ∀ k, okB k → k ≠ gw) (hfr : ∀ k, w.heap.size ≤ k → okB k) (hB : Below w0.heap.size w0 w) (hl : lB.length < 1000000000) :
  Calls Try.prog 49 #[.pointer (some ⟨gw, 0, none⟩), .int .u8 kind, .agg #[.int .u8 a0, .int .u32 a1, .int .u32 a2, .int .u32 a3, .int .u32 a4, .int .i64 a5, .int .u32 a6, .slice A7 n7 c7, .int .i64 a8, .bool a9, .slice A10 n10 c10]] w fun e w' => e = .returned (.tuple #[]) ∧ ∃ vB', w'.heap[gw]? = some (.cells #[.int .i64 lim, vR, vB', vO] 68 (0, 0)) ∧ Kd.N k32 32 w' w0.heap.size okB vB' (lB ++ [bare32 kind a1]) ∧ Kept w w' (fun k => k = gw ∨ some k = vB.ownBlock) ∧ (vB'.ownBlock = vB.ownBlock ∨ ∃ b, vB'.ownBlock = some b ∧ w.heap.size ≤ b) ∧ (w'.os = w.os ∧ w'.tape = w.tape ∧ w'.output = w.output) := by
 have hu32 := Try.underlying32
 have hu68 := Try.underlying68
 have HW := m_ hW
 have HN := m_ hN
 have HB := m_ hB
 have HG := m_ hgB
 have HF := m_ hfr
 have HL := m_ hl
 clear hW hN hB hgB hfr hl
 have HS := m_ (Below.refl w.heap.size w)
 go_enter Try.func49, Try.ntmps49
 go_upto_region 1 with (first | ((with_reducible refine gate_dst (N := 5) rfl ?_); refine bx_ 5 32 #[.int .u8 a0, .int .u32 a1, .int .u32 a2, .int .u32 a3, .int .u32 a4, .int .i64 a5, .int .u32 a6, .slice A7 n7 c7, .int .i64 a8, .bool a9, .slice A10 n10 c10] ?_; intro gm hg w1 hbox hb; have BM := m_ (hbox); have GM := m_ (Nat.le_of_eq hg.symm); have NM := m_ (show gw ≠ gm from by rw [hg]; exact Nat.ne_of_lt (blk_lt HW.out)); replace HW := m_ (blk_below HW.out hb); replace HS := m_ hb; clear hb hbox hg))
 (try simp only [Act.put, List.setIfInBounds_toArray, List.set_cons_zero, List.set_cons_succ])
 refine start_ (n := 14) (S := fun W => W.cell? ⟨gw, 2, none⟩ = some vB ∧ W.cell? ⟨gm, 1, none⟩ = some (.int .u32 a1)) (ds := [10, 13]) (bs_ 14 0) (by kernel_rfl) rfl rfl ⟨bc_ (blk_drew HW.out) 2, bc_ (blk_drew BM.out) 1⟩ (fun hHeld => ?_)
 replace HW := m_ (blk_drew HW.out)
 replace BM := m_ (blk_drew BM.out)
 replace HS := m_ (below_drew1 HS.out)
 generalize w1.drew = w2 at HW BM HS hHeld ⊢
 refine pk_ 0 6 ?_
 refine pk_ 1 7 ?_
 refine pk_ 2 8 ?_
 refine pk_ 3 9 ?_
 refine tk_ 4 10 ?_
 refine pk_ 5 11 ?_
 refine pk_ 6 12 ?_
 refine tk_ 7 13 ?_
 refine pk_ 8 14 ?_
 refine one_ (i := 9) (N := some 15) (bs_ 14 (0 + 2 ^ 0 + 2 ^ 1 + 2 ^ 2 + 2 ^ 3 + 2 ^ 4 + 2 ^ 5 + 2 ^ 6 + 2 ^ 7 + 2 ^ 8 + 2 ^ 9)) rfl rfl (by kernel_rfl) (by decide) (fun K hK => ?_)
 refine value_ (w1 := ?_) (v := ?_) (by rfl) rfl ?_ ?_
 rotate_left 2
 · go_simp
   constructor
   · rfl
   · rfl
 refine hK.out _ _ ⟨bc_ (blk_alloc HW.out _) 2, bc_ (blk_alloc BM.out _) 1⟩ (fun hHeld => ?_)
 clear hK K
 refine nz_ (some 15) ?_
 refine last_ (i := 10) (N := some 16) (bs_ 14 (0 + 2 ^ 0 + 2 ^ 1 + 2 ^ 2 + 2 ^ 3 + 2 ^ 4 + 2 ^ 5 + 2 ^ 6 + 2 ^ 7 + 2 ^ 8 + 2 ^ 9 + 2 ^ 10)) rfl rfl (by kernel_rfl) (by decide) (fun K hK => ?_)
 have HN2 := m_ (Kd.N_below HN.out HS.out)
 have HF2 := m_ (fun k (hk : w2.heap.size ≤ k) => HF.out k (Nat.le_trans HS.out.size hk))
 refine Kd.N_append_step k32 (w0 := w0) w0.heap.size (by rfl) (.tmp 10) (.tmp 15) 33 32 (.agg #[(.int .u8 0), (.int .u32 0), (.int .u32 0), (.int .u32 0), (.int .u32 0), (.int .i64 0), (.int .u32 0), (.slice none 0 0), (.int .i64 0), (.bool false), (.slice none 0 0)]) 104 rfl Try.underlying33 info32 rfl (by decide) (by omega) vB lB (bare32 kind a1) [.int .u8 kind, .int .u32 a1, .int .u32 0, .int .u32 0, .int .u32 0, .int .i64 0, .int .u32 0, .slice none 0 0, .int .i64 0, .bool false, .slice none 0 0] okB (fun _ => False) rfl rfl ?aP (fun _ hk => hk.elim) ?aF ?aO ?aB ?aS ?aL ?_
 (case aP => exact k32_mkF w2 _ (bare32 kind a1) (Nat.le_refl 0) (Kd.F_nil _ _ _) (Nat.le_refl 0) (Kd.F_nil _ _ _))
 (case aB => exact below_then HB.out HB.out.size HS.out)
 (case aF => exact HF2.out)
 (case aO => exact HN2.out)
 (case aS => exact Nat.le_trans HB.out.size HS.out.size)
 (case aL => have := HL.out; omega)
 intro v1 w3 ho hb hg hat
 obtain ⟨An, cn, rfl⟩ := Kd.V_slice (Kd.N_V (base' := 0) ho)
 refine hK.out _ _ ?_
 clear hK K
 refine nz_ (some 16) ?_
 have hown : ∀ k, vB.ownBlock = some k → okB k := HN.out.1
 replace HW := m_ (blk_grown (g := gw) HW.out hg (fun e => HG.out gw (hown gw e.symm) rfl))
 refine pk_ 11 17 ?_
 refine pk_ 12 18 ?_
 refine last_ (i := 13) (N := none) (bs_ 14 (0 + 2 ^ 0 + 2 ^ 1 + 2 ^ 2 + 2 ^ 3 + 2 ^ 4 + 2 ^ 5 + 2 ^ 6 + 2 ^ 7 + 2 ^ 8 + 2 ^ 9 + 2 ^ 10 + 2 ^ 11 + 2 ^ 12 + 2 ^ 13)) rfl rfl (by kernel_rfl) (by decide) (fun K hK => ?_)
 refine sw_write (by rfl) rfl rfl [.slice An (lB ++ [bare32 kind a1]).length cn] (g := gw) (o' := 2) (cs' := #[.int .i64 lim, vR, .slice An (lB ++ [bare32 kind a1]).length cn, vO]) rfl rfl rfl rfl (by simp [Value.oneCell']) HW.out (by simp) rfl ?_
 intro w4 hblk on
 refine hK.out _ _ ?_
 clear hK K
 refine done_ (by kernel_rfl) ?_
 (try simp only [Exit.inBlock, Exit.then])
 refine ⟨rfl, .tuple #[], results_none rfl _ _ _, ?_⟩
 refine ⟨rfl, _, hblk, Kd.N_step ho (fun k hk _ => on.block k (HG.out k hk)), ?_, ?_, ?_⟩
 · refine ⟨Nat.le_trans HS.out.size (Nat.le_trans hg.size (Nat.le_of_eq on.size.symm)), fun i hi hn => ?_⟩
   rw [on.block i (fun e => hn (.inl e)), hg.block i (Nat.lt_of_lt_of_le hi HS.out.size) (fun e => hn (.inr e)), HS.out.block i hi]
 · rcases hat with h | ⟨b, h, h2⟩
   · exact .inl h
   · exact .inr ⟨b, h, Nat.le_trans HS.out.size h2⟩
 · exact ⟨on.os.trans (hg.os.trans HS.out.os), on.tape.trans (hg.tape.trans HS.out.tape), on.output.trans (hg.output.trans HS.out.output)⟩
set_option maxHeartbeats 8000000 in
set_option maxRecDepth 100000 in
theorem swtch_put.calls (k : Nat) (gw : Nat) (lim : Int) (vR vB vO : Value) (a0 a1 a2 a3 a4 a5 a6 : Int) (A7 : Option Addr) (c7 : Nat) (l7 : List S74) (a8 : Int) (a9 : Bool) (A10 : Option Addr) (n10 c10 : Nat) (lR r1 : List S29) (r2 : Int) (lB : List S32) (okR okB P : Nat → Prop) (w0 w : World) (hW : w.heap[gw]? = some (.cells #[.int .i64 lim, vR, vB, vO] 68 (0, 0))) (hR : Kd.V k29 29 w w0.heap.size okR vR lR) (hN : Kd.N k32 32 w w0.heap.size okB vB lB) (hgB : ∀ k, okB k → k ≠ gw) (hfr : ∀ k, w.heap.size ≤ k → okB k) (hB : Below w0.heap.size w0 w) (hl : lB.length < 1000000000) (hg0 : w0.heap.size ≤ gw)
  (h7 : Kd.F k74 w P A7 l7.length l7) (hc7 : l7.length ≤ c7) (hP : ∀ k, okR k ∨ P k → k ≠ gw ∧ some k ≠ vB.ownBlock) (h : flow_Put.f k lR a2 a3 a4 a5 a6 l7 lim = some (r1, r2)) :
  Calls Try.prog 37 #[.pointer (some ⟨gw, 0, none⟩), .agg #[.int .u8 a0, .int .u32 a1, .int .u32 a2, .int .u32 a3, .int .u32 a4, .int .i64 a5, .int .u32 a6, .slice A7 l7.length c7, .int .i64 a8, .bool a9, .slice A10 n10 c10]] w fun e w' => e = .returned (.tuple #[]) ∧ ∃ vR' vB', w'.heap[gw]? = some (.cells #[.int .i64 lim, vR', vB', vO] 68 (0, 0)) ∧ Kd.V k29 29 w' w0.heap.size (fun k => (okR k ∨ P k ∨ w.heap.size ≤ k) ∧ k ≠ gw ∧ some k ≠ vB'.ownBlock) vR' r1 ∧ Kd.N k32 32 w' w0.heap.size okB vB' (lB ++ (if r2 = 7 then [bare32 5 a1] else [])) ∧ Kept w w' (fun k => k = gw ∨ some k = vB.ownBlock) ∧ (vB'.ownBlock = vB.ownBlock ∨ ∃ b, vB'.ownBlock = some b ∧ w.heap.size ≤ b) ∧ (w'.os = w.os ∧ w'.tape = w.tape ∧ w'.output = w.output) := by
 have hu32 := Try.underlying32
 have hu68 := Try.underlying68
 have hu24 := Try.underlying24
 have hu29 := Try.underlying29
 obtain ⟨AR, cR, rfl⟩ := Kd.V_slice hR
 have HW := m_ hW
 have HR := m_ hR
 have HN := m_ hN
 have HB := m_ hB
 have HG := m_ hgB
 have HF := m_ hfr
 have HL := m_ hl
 have H7 := m_ (Kd.V_mk (e := 74) (base := 0) hc7 h7)
 have HP := m_ hP
 have HG0 := m_ hg0
 have HH := m_ h
 have HGS := m_ (blk_lt hW)
 clear hg0 hW hR hN hB hgB hfr hl h7 hc7 hP h
 have HS := m_ (Below.refl w.heap.size w)
 go_enter Try.func37, Try.ntmps37
 go_upto_region 1 with (first | ((with_reducible refine gate_dst (N := 3) rfl ?_); refine bx_ 3 32 #[.int .u8 a0, .int .u32 a1, .int .u32 a2, .int .u32 a3, .int .u32 a4, .int .i64 a5, .int .u32 a6, .slice A7 l7.length c7, .int .i64 a8, .bool a9, .slice A10 n10 c10] ?_; intro gm hg w1 hbox hb; have BM := m_ (hbox); have GM := m_ (Nat.le_of_eq hg.symm); have NM := m_ (show gm ≠ gw from by rw [hg]; exact (Nat.ne_of_lt (blk_lt HW.out)).symm); replace HW := m_ (blk_below HW.out hb); replace HS := m_ hb; clear hb hbox hg))
 (try simp only [Act.put, List.setIfInBounds_toArray, List.set_cons_zero, List.set_cons_succ])
 refine start_ (n := 18) (S := fun W => W.cell? ⟨gw, 0, none⟩ = some (.int .i64 lim) ∧ W.cell? ⟨gw, 1, none⟩ = some (.slice AR lR.length cR) ∧ W.cell? ⟨gm, 2, none⟩ = some (.int .u32 a2) ∧ W.cell? ⟨gm, 3, none⟩ = some (.int .u32 a3) ∧ W.cell? ⟨gm, 4, none⟩ = some (.int .u32 a4) ∧ W.cell? ⟨gm, 5, none⟩ = some (.int .i64 a5) ∧ W.cell? ⟨gm, 6, none⟩ = some (.int .u32 a6) ∧ W.cell? ⟨gm, 7, none⟩ = some (.slice A7 l7.length c7)) (ds := [12]) (bs_ 18 0) (by kernel_rfl) rfl rfl ⟨bc_ (blk_drew HW.out) 0, bc_ (blk_drew HW.out) 1, bc_ (blk_drew BM.out) 2, bc_ (blk_drew BM.out) 3, bc_ (blk_drew BM.out) 4, bc_ (blk_drew BM.out) 5, bc_ (blk_drew BM.out) 6, bc_ (blk_drew BM.out) 7⟩ (fun hHeld => ?_)
 replace HW := m_ (blk_drew HW.out)
 replace BM := m_ (blk_drew BM.out)
 replace HS := m_ (below_drew1 HS.out)
 generalize w1.drew = w2 at HW BM HS hHeld ⊢
 refine pk_ 0 7 ?_
 refine pk_ 1 8 ?_
 refine pk_ 2 9 ?_
 refine pk_ 3 10 ?_
 refine tk_ 4 11 ?_
 refine pk_ 5 12 ?_
 refine tk_ 6 13 ?_
 refine pk_ 7 14 ?_
 refine pk_ 8 15 ?_
 refine pk_ 9 16 ?_
 refine pk_ 10 17 ?_
 refine tk_ 11 18 ?_
 refine last_ (i := 12) (N := some 19) (bs_ 18 (0 + 2 ^ 0 + 2 ^ 1 + 2 ^ 2 + 2 ^ 3 + 2 ^ 4 + 2 ^ 5 + 2 ^ 6 + 2 ^ 7 + 2 ^ 8 + 2 ^ 9 + 2 ^ 10 + 2 ^ 11 + 2 ^ 12)) rfl rfl (by kernel_rfl) (by decide) (fun K hK => ?_)
 refine gz_ Try.func48 #[.slice AR lR.length cR, .agg #[.int .u32 a2, .int .u32 a3, .int .u32 a4, .int .i64 a5, .int .u32 a6, .slice A7 l7.length c7], .int .i64 lim] ?_
 (with_reducible refine (flow_Put.calls k okR AR cR lR a2 a3 a4 a5 a6 P A7 c7 l7 lim r1 r2 w2 ?side1 ?side2 HH.out).mono ?_)
 (case side1 => exact Kd.V_map (Kd.V_below HR.out HS.out) (fun _ hf => hf))
 (case side2 => exact Kd.V_map (Kd.V_below H7.out HS.out) (fun _ hf => hf))
 rintro e w3 ⟨v0, rfl, hv, hb⟩
 refine ⟨_, rfl, ?_⟩
 obtain ⟨A2, c2, rfl⟩ := Kd.V_slice hv
 have HV := m_ hv
 have HE := m_ hb
 replace HW := m_ (blk_below HW.out hb)
 replace BM := m_ (blk_below BM.out hb)
 have HS2 := m_ (below_then HS.out HS.out.size hb)
 clear hv hb
 refine hK.out _ _ ?_
 clear hK K
 refine nz_ (some 19) ?_
 refine pk_ 13 6 ?_
 refine pk_ 14 20 ?_
 refine pk_ 15 21 ?_
 refine pk_ 16 4 ?_
 refine pk_ 17 5 ?_
 refine done_ (by kernel_rfl) ?_
 have f1 := blk_frozen HW.out 1
 have c1 : w3.cell? ⟨gw, 1, none⟩ = some (.slice AR lR.length cR) := (blk_cell HW.out 1).trans rfl
 go_upto_if 28 with (fail)
 have hgs : gw < w.heap.size := HGS.out
 have hown : ∀ k, vB.ownBlock = some k → k < w.heap.size := Kd.N_lt HN.out
 have W4 := m_ (show (w3.setCell ⟨gw, 1, none⟩ (.slice A2 r1.length c2)).heap[gw]? = some (.cells #[.int .i64 lim, .slice A2 r1.length c2, vB, vO] 68 (0, 0)) from blk_put HW.out 1 _ rfl)
 have M4 := m_ (blk_far BM.out (p := ⟨gw, 1, none⟩) NM.out (.slice A2 r1.length c2))
 have K4 := m_ (show Kept w3 (w3.setCell ⟨gw, 1, none⟩ (.slice A2 r1.length c2)) (fun k => k = gw) from ⟨by simp [World.setCell], fun i hi hn => Below.heap_setCell _ _ _ i hn⟩)
 have B4 := m_ (below_set (below_then HB.out HB.out.size HS2.out) HG0.out (v := .slice A2 r1.length c2) (j := 1))
 generalize w3.setCell ⟨gw, 1, none⟩ (.slice A2 r1.length c2) = w4 at W4 M4 K4 B4 ⊢
 have V4 := m_ (Kd.V_kept (S := fun k => k = gw) (Kd.V_mono (ok' := fun k => (okR k ∨ P k ∨ w.heap.size ≤ k) ∧ k ≠ gw ∧ some k ≠ vB.ownBlock) HV.out (fun k hk => by
  rcases hk with hk | hk
  · exact ⟨hk.elim .inl (fun h => .inr (.inl h)), HP.out k hk⟩
  · have hk2 := Nat.le_trans HS.out.size hk
    exact ⟨.inr (.inr hk2), by omega, fun e => by have := hown k e.symm; omega⟩)) K4.out (fun k hk e => hk.2.1 e))
 have N4 := m_ (Kd.N_kept (Kd.N_below HN.out HS2.out) K4.out (fun k hk e => HG.out k hk e))
 have S4 := m_ (Nat.le_trans HS2.out.size K4.out.1)
 clear HW BM HV HE f1 c1 HS hHeld
 by_cases c7 : r2 = 7
 · subst c7
   have hcz := cz11_ M4.out
   go_wp2_with (go_at_call 49; refine Stop0.out ?_)
   refine ⟨?_⟩
   refine (swtch_answer.calls gw lim 5 (.slice A2 r1.length c2) vB vO a0 a1 a2 a3 a4 a5 a6 A7 l7.length c7 a8 a9 A10 n10 c10 lB okB w0 w4 W4.out N4.out HG.out (fun k hk => HF.out k (Nat.le_trans S4.out hk)) B4.out HL.out).mono ?_
   rintro e w5 ⟨rfl, vB2, h1, h2, h3, h4, h6, h7, h8⟩
   go_wp2
   (try simp only [Exit.inBlock, Exit.then])
   refine ⟨rfl, .tuple #[], results_none rfl _ _ _, ?_⟩
   have hn : ∀ k, k < w4.heap.size → some k ≠ vB.ownBlock → some k ≠ vB2.ownBlock := fun k hk hk2 => by
    rcases h4 with h | ⟨b, h, h5⟩
    · rw [h]; exact hk2
    · rw [h]
      intro e
      have := Option.some.inj e
      omega
   have hV5 := Kd.V_mono (ok' := fun k => (okR k ∨ P k ∨ w.heap.size ≤ k) ∧ k ≠ gw ∧ some k ≠ vB2.ownBlock) (Kd.V_keptB V4.out h3 (fun k hk e => e.elim hk.2.1 hk.2.2)) (fun k hk => ⟨hk.1.1, hk.1.2.1, hn k hk.2.2 hk.1.2.2⟩)
   have hK5 : Kept w w5 (fun k => k = gw ∨ some k = vB.ownBlock) := Kept.then_ (Kept.of_below HS2.out _) (Kept.then_ (Kept.mono K4.out (fun k hk => Or.inl hk)) h3 (fun k hk => .inl hk)) (fun k hk => .inl hk)
   have hat5 : vB2.ownBlock = vB.ownBlock ∨ ∃ b, vB2.ownBlock = some b ∧ w.heap.size ≤ b := by
    rcases h4 with h | ⟨b, h, h5⟩
    · exact .inl h
    · exact .inr ⟨b, h, Nat.le_trans S4.out h5⟩
   exact ⟨rfl, _, vB2, h1, Kd.V_map hV5 (fun _ hf => hf), h2, hK5, hat5, h6.trans (B4.out.os.trans HB.out.os.symm), h7.trans (B4.out.tape.trans HB.out.tape.symm), h8.trans (B4.out.output.trans HB.out.output.symm)⟩
 · have c7b : (r2 == 7) = false := beq_eq_false_iff_ne.mpr c7
   go_wp2
   (try simp only [Exit.inBlock, Exit.then])
   refine ⟨rfl, .tuple #[], results_none rfl _ _ _, ?_⟩
   refine ⟨rfl, _, vB, W4.out, Kd.V_map V4.out (fun _ hf => hf), by first | exact N4.out | (rw [if_neg c7, List.append_nil]; exact N4.out), ?_, .inl rfl, B4.out.os.trans HB.out.os.symm, B4.out.tape.trans HB.out.tape.symm, B4.out.output.trans HB.out.output.symm⟩
   exact Kept.then_ (Kept.of_below HS2.out _) (Kept.mono K4.out (fun k hk => Or.inl hk)) (fun k hk => .inl hk)
set_option maxHeartbeats 4000000 in
set_option maxRecDepth 100000 in
theorem delRule_calls (g n cap i : Nat) (l : List (S29)) (ok : Nat → Prop) (base : Nat) (w0 w : World) (HO : Kd.N k29 29 w base ok (.slice (some ⟨g, 0, none⟩) n cap) l)
    (HB : Below base w0 w) (hbase : base ≤ w.heap.size) (hi : i < n) (hn : n ≤ 1000000) :
    Calls Try.prog 60 #[.slice (some ⟨g, 0, none⟩) n cap, .int .i64 (i : Int), .int .i64 ((i : Int) + 1)] w fun e w' => ∃ v', e = .returned v' ∧ Kd.N k29 29 w' base ok v' (l.eraseIdx i) ∧ Below base w0 w' := by
  obtain ⟨i0, hi0, hz0⟩ := Option.map_eq_some_iff.1 info29
  simp only [Prod.mk.injEq] at hz0
  obtain ⟨hz, hsz, hby⟩ := hz0
  have hnc : n ≤ cap := (Kd.N_reads' HO).2.1
  have hel : Try.prog.elem 22 = 29 := by simp [Program.elem, Try.underlying22]
  have hu : Try.prog.underlying 22 = some (.slice (Try.prog.elem 22)) := by rw [hel]; exact Try.underlying22
  obtain ⟨vc, hcut3⟩ : ∃ v, ∀ W : World, (Instr.slice 22 (.slice (some ⟨g, 0, none⟩) n cap) (some (.int .i64 (i : Int))) (some (.int .i64 ((i : Int) + 1))) (some (.int .i64 (n : Int)))).run Try.prog W = .ok v W := by
    refine ⟨sliced (some ⟨g, 0, none⟩) (i : Int).toNat ((i : Int) + 1).toNat (n : Int).toNat 6, fun W => ?_⟩
    rw [run_slice_lhm W 22 (some ⟨g, 0, none⟩) n cap hu .i64 .i64 .i64 (i : Int) ((i : Int) + 1) (n : Int) (by omega) (by omega) (by omega) (by omega), hel]
    simp [sizeOf, typeInfo, hi0, hsz, Result.andThen]
  have hto : ∀ W : World, (Instr.slice 22 (.slice (some ⟨g, 0, none⟩) n cap) none (some (.int .i64 (i : Int))) none).run Try.prog W = .ok (.slice (some ⟨g, 0, none⟩) i cap) W := by
    intro W
    have := cut_to (P := Try.prog) 22 29 .i64 Try.underlying22 hi0 (some ⟨g, 0, none⟩) n cap (i : Int) (by omega) (by omega) hnc W
    rwa [Int.toNat_natCast] at this
  have hfrom := cut_from (P := Try.prog) 22 29 .i64 Try.underlying22 hi0 6 hsz (some ⟨g, 0, none⟩) n cap ((i : Int) + 1) (by omega) (by omega)
  rw [show ((i : Int) + 1).toNat = i + 1 from by omega] at hfrom
  obtain ⟨A2, hA2⟩ : ∃ A2 : Option Addr, A2 = (if cap = i + 1 then some ⟨g, 0, none⟩ else (some (⟨g, 0, none⟩ : Addr)).map (·.add ((i + 1) * 6))) := ⟨_, rfl⟩
  rw [← hA2] at hfrom
  have hback : ∀ W : World, (Instr.slice 22 (.slice (some ⟨g, 0, none⟩) (n - 1) cap) (some (.int .i64 ((n - 1 : Nat) : Int))) (some (.int .i64 (n : Int))) none).run Try.prog W = .ok (.slice (some ⟨g, (n - 1) * 6, none⟩) 1 (cap - (n - 1))) W := by
    intro W
    rw [run_slice_lh W 22 (some ⟨g, 0, none⟩) (n - 1) cap hu .i64 .i64 ((n - 1 : Nat) : Int) (n : Int) (by omega) (by omega) (by omega), hel]
    have h1 : ¬ (cap = n - 1) := by omega
    have h2 : n - (n - 1) = 1 := by omega
    simp [sizeOf, typeInfo, hi0, hsz, Result.andThen, sliced, h1, h2, add0]
  have hzv : ∀ W : World, (zeroValue 29).run Try.prog W = .ok (.agg #[(.int .u32 0), (.int .u32 0), (.int .u32 0), (.int .i64 0), (.int .u32 0), (.slice none 0 0)]) W := by
    intro W
    simp [zeroValue, typeInfo, hi0, hz]
  have HA2 := m_ hA2
  have HI0 := m_ (And.intro hi0 hsz)
  have HZV := m_ hzv
  have HO' := m_ HO
  have HB' := m_ HB
  have ht1 : ((i : Int) == (i : Int) + 1) = false := beq_eq_false_iff_ne.mpr (by omega)
  have hw1 : IntKind.i64.wrap ((i : Int) + 1) = (i : Int) + 1 := by rw [IntKind.wrap_i64]; omega
  clear hA2 hi0 hsz hz hby hzv HO HB hel hu
  go_enter Try.func60, Try.ntmps60
  go_wp2
  go_still_tail 6, (by kernel_rfl)
  change wpList _ _ _ _ _ w.drew
  refine Kd.N_delete k29 (w0 := w0) base rfl (.tmp 22) (.tmp 25) 22 29 rfl Try.underlying22 (by rw [HI0.out.1]; exact congrArg some HI0.out.2) (g := g) (n := n) (c := cap) (k := i) (m := n - (i + 1)) (A := A2) rfl rfl HA2.out rfl (Kd.N_drew HO'.out) hi (below_drew1 HB'.out) hbase ?_
  intro W1 h1 hb1 hg1
  have H1 := m_ h1
  have HB1 := m_ (And.intro hb1 (Nat.le_trans (show w.heap.size ≤ w.drew.heap.size from Nat.le_refl _) hg1.size))
  clear h1 hb1 hg1
  go_wp2_with ((with_reducible refine gate_builtin (b := .clear) (xs := #[.tmp 31]) rfl ?_); refine Stop0.out ?_)
  refine ⟨?_⟩
  obtain ⟨hn1, hog, hbg, hnc1, hcm, cur, inner, hg, hcs, hin, hre⟩ := N_open H1.out
  rw [show k29.sz = 6 from rfl] at hcs hin hre
  refine wpList_clear_rows rfl (.tmp 31) 22 rfl 29 6 Try.underlying22 _ HZV.out rfl (by decide) g ((n - 1) * 6) 1 (cap - (n - 1)) rfl (by decide) cur 29 hg (by rw [hcs]; omega) ?_
  intro W2 cur2 hg2 hc2 ht2 ho2
  have hN : Kd.N k29 29 W2 base ok (.slice (some ⟨g, 0, none⟩) (n - 1) cap) (l.eraseIdx i) := by
    have := N_mk (d := k29) (base := base) (ok := ok) (xs := l.eraseIdx i) (cap := cap) (inner := inner) hg2 hbg hog (by rw [← hn1]; exact hnc1) hcm (by rw [hc2]; exact hcs) (by rw [← hn1]; exact ht2.trans hin) (reps_F_step hre (fun k hk _ => ho2.block k hk.2))
    rw [← hn1] at this
    exact this
  have hb2 : Below base w0 W2 := pw_below_grown HB1.out.1 _ (Nat.le_trans hbase HB1.out.2) ho2.grown (fun k hk => by injection hk with hk; omega)
  have HN := m_ (And.intro hN hb2)
  clear hN hb2 hg2 hc2 ht2 ho2 hn1 hog hbg hnc1 hcm hg hcs hin hre
  go_wp2
  go_ret
  exact ⟨_, rfl, HN.out.1, HN.out.2⟩
def flow_Del.f (l0 : List (S29)) (a1 a2 a3 : Int) : Option (List (S29) × Bool) :=
  if riseK l0 = true ∧ l0.length ≤ 100000 then (if placeB l0 (a1, a2, a3) = true then some (l0.eraseIdx (placeK l0 (a1, a2, a3)), true) else some (l0, false)) else none
set_option maxHeartbeats 4000000 in
set_option maxRecDepth 100000 in
theorem flow_Del.calls (P0_ : Nat → Prop) (A0 : Option Addr) (c0 : Nat) (l0 : List (S29)) (a1 a2 a3 : Int) (r1 : List (S29)) (r2 : Bool) (w : World) (hs0 : Kd.V k29 29 w w.heap.size (fun k_ => P0_ k_) (.slice A0 l0.length c0) l0) (h : flow_Del.f l0 a1 a2 a3 = some (r1, r2)) :
    Calls Try.prog 50 #[.slice A0 l0.length c0, .int .u32 a1, .int .u32 a2, .int .u32 a3] w fun e w' => ∃ v0_ : Value, e = .returned (.tuple #[v0_, .bool r2]) ∧ Kd.V k29 29 w' w.heap.size (fun k_ => (P0_ k_ ∨ w.heap.size ≤ k_)) v0_ r1 ∧ Below w.heap.size w w' := by
  unfold flow_Del.f at h
  split at h
  case isFalse => cases h
  case isTrue hok =>
  obtain ⟨hs, hl⟩ := hok
  have HS0 := m_ hs0
  have HS := m_ hs
  have HL := m_ hl
  have H := m_ h
  have hu59 := Try.underlying85
  have hC0 := (Kd.V_reads' HS0.out).2
  have HC0 := m_ hC0
  clear hs0 hs hl h hC0
  go_enter Try.func50, Try.ntmps50
  go_wp2_with (go_at_call 53; refine Stop0.out ?_)
  refine ⟨?_⟩
  refine (flow_place.calls A0 c0 l0 a1 a2 a3 (placeK l0 (a1, a2, a3) : Nat) (placeB l0 (a1, a2, a3)) _ HC0.out.2 HC0.out.1 (by unfold flow_place.f placeB; rw [if_pos ⟨HS.out, Nat.le_trans HL.out (by decide)⟩])).mono ?_
  rintro e w3 ⟨rfl, hb⟩
  have HB3 := m_ hb
  have HPL := m_ (place_le l0 (a1, a2, a3))
  have HPB : Aside0 (placeB l0 (a1, a2, a3) = true → placeK l0 (a1, a2, a3) < l0.length) := ⟨fun h => by unfold placeB at h; rw [Bool.and_eq_true] at h; exact of_decide_eq_true h.1⟩
  generalize placeK l0 (a1, a2, a3) = p at HPL HPB H ⊢
  generalize placeB l0 (a1, a2, a3) = is at HPB H ⊢
  clear hb
  cases is with
  | false =>
    have H1 := H.out
    rw [if_neg (by simp)] at H1
    simp only [Option.some.injEq, Prod.mk.injEq] at H1
    obtain ⟨rfl, rfl⟩ := H1
    go_wp2
    go_ret2
    exact ⟨_, rfl, Kd.V_mono (Kd.V_below HS0.out HB3.out) (fun k hk => .inl hk), HB3.out⟩
  | true =>
    have H1 := H.out
    rw [if_pos rfl] at H1
    simp only [Option.some.injEq, Prod.mk.injEq] at H1
    obtain ⟨rfl, rfl⟩ := H1
    have hpl := HPB.out rfl
    have hl2 := HL.out
    go_wp2_with (go_at_call 59; refine Stop0.out ?_)
    refine ⟨?_⟩
    refine (cloneRule_calls P0_ A0 c0 l0 w3 (V_base (Kd.V_below HS0.out HB3.out)) (Nat.le_trans HL.out (by decide))).mono ?_
    rintro e w5 ⟨v5, rfl, hN5, hb5⟩
    obtain ⟨g, c5, rfl, _⟩ := Kd.N_form hN5 (by omega)
    have HN5 := m_ (Kd.N_lower (Kd.N_mono (ok' := fun k => P0_ k ∨ w.heap.size ≤ k) hN5 (fun k hk => hk.elim .inl (fun h => .inr (Nat.le_trans HB3.out.size h)))) HB3.out.size)
    have HB5 := m_ (below_step HB3.out hb5)
    clear hN5 hb5
    go_wp2_with (go_at_call 60; refine Stop0.out ?_)
    refine ⟨?_⟩
    refine (delRule_calls g l0.length c5 p l0 (fun k => P0_ k ∨ w.heap.size ≤ k) w.heap.size w w5 HN5.out HB5.out HB5.out.size hpl (Nat.le_trans HL.out (by decide))).mono ?_
    rintro e w6 ⟨v6, rfl, hN6, hb6⟩
    have HN6 := m_ (And.intro hN6 hb6)
    clear hN6 hb6
    go_wp2
    go_ret2
    exact ⟨_, rfl, Kd.N_V HN6.out.1, HN6.out.2⟩
set_option maxHeartbeats 8000000 in
set_option maxRecDepth 100000 in
theorem swtch_del.calls (gw : Nat) (lim : Int) (vR vB vO : Value) (a0 a1 a2 a3 a4 a5 a6 : Int) (A7 : Option Addr) (n7 c7 : Nat) (a8 : Int) (a9 : Bool) (A10 : Option Addr) (n10 c10 : Nat) (lR r1 : List S29) (r2 : Bool) (okR : Nat → Prop) (w0 w : World) (hW : w.heap[gw]? = some (.cells #[.int .i64 lim, vR, vB, vO] 68 (0, 0))) (hR : Kd.V k29 29 w w0.heap.size okR vR lR) (hP : ∀ k, okR k → k ≠ gw) (h : flow_Del.f lR a2 a3 a4 = some (r1, r2)) :
  Calls Try.prog 38 #[.pointer (some ⟨gw, 0, none⟩), .agg #[.int .u8 a0, .int .u32 a1, .int .u32 a2, .int .u32 a3, .int .u32 a4, .int .i64 a5, .int .u32 a6, .slice A7 n7 c7, .int .i64 a8, .bool a9, .slice A10 n10 c10]] w fun e w' => e = .returned (.tuple #[]) ∧ ∃ vR', w'.heap[gw]? = some (.cells #[.int .i64 lim, vR', vB, vO] 68 (0, 0)) ∧ Kd.V k29 29 w' w0.heap.size (fun k => (okR k ∨ w.heap.size ≤ k) ∧ k ≠ gw) vR' r1 ∧ Kept w w' (fun k => k = gw) ∧ (w'.os = w.os ∧ w'.tape = w.tape ∧ w'.output = w.output) := by
 have hu32 := Try.underlying32
 have hu68 := Try.underlying68
 have hu24 := Try.underlying24
 have hu29 := Try.underlying29
 obtain ⟨AR, cR, rfl⟩ := Kd.V_slice hR
 have HGS := m_ (blk_lt hW)
 have HW := m_ hW
 have HR := m_ hR
 have HP := m_ hP
 have HH := m_ h
 clear hW hR hP h
 have HS := m_ (Below.refl w.heap.size w)
 go_enter Try.func38, Try.ntmps38
 go_upto_region 1 with (first | ((with_reducible refine gate_dst (N := 3) rfl ?_); refine bx_ 3 32 #[.int .u8 a0, .int .u32 a1, .int .u32 a2, .int .u32 a3, .int .u32 a4, .int .i64 a5, .int .u32 a6, .slice A7 n7 c7, .int .i64 a8, .bool a9, .slice A10 n10 c10] ?_; intro gm hg w1 hbox hb; have BM := m_ (hbox); replace HW := m_ (blk_below HW.out hb); replace HS := m_ hb; clear hb hbox hg))
 (try simp only [Act.put, List.setIfInBounds_toArray, List.set_cons_zero, List.set_cons_succ])
 refine start_ (n := 23) (S := fun W => W.cell? ⟨gw, 1, none⟩ = some (.slice AR lR.length cR) ∧ W.cell? ⟨gm, 2, none⟩ = some (.int .u32 a2) ∧ W.cell? ⟨gm, 3, none⟩ = some (.int .u32 a3) ∧ W.cell? ⟨gm, 4, none⟩ = some (.int .u32 a4)) (ds := [15, 22]) (bs_ 23 0) (by kernel_rfl) rfl rfl ⟨bc_ (blk_drew HW.out) 1, bc_ (blk_drew BM.out) 2, bc_ (blk_drew BM.out) 3, bc_ (blk_drew BM.out) 4⟩ (fun hHeld => ?_)
 replace HW := m_ (blk_drew HW.out)
 replace BM := m_ (blk_drew BM.out)
 replace HS := m_ (below_drew1 HS.out)
 generalize w1.drew = w2 at HW BM HS hHeld ⊢
 refine pk_ 0 5 ?_
 refine pk_ 1 6 ?_
 refine pk_ 2 7 ?_
 refine pk_ 3 8 ?_
 refine pk_ 4 9 ?_
 refine tk_ 5 10 ?_
 refine pk_ 6 11 ?_
 refine pk_ 7 12 ?_
 refine tk_ 8 13 ?_
 refine pk_ 9 14 ?_
 refine pk_ 10 15 ?_
 refine tk_ 11 16 ?_
 refine pk_ 12 17 ?_
 refine pk_ 13 18 ?_
 refine tk_ 14 19 ?_
 refine last_ (i := 15) (N := some 20) (bs_ 23 (0 + 2 ^ 0 + 2 ^ 1 + 2 ^ 2 + 2 ^ 3 + 2 ^ 4 + 2 ^ 5 + 2 ^ 6 + 2 ^ 7 + 2 ^ 8 + 2 ^ 9 + 2 ^ 10 + 2 ^ 11 + 2 ^ 12 + 2 ^ 13 + 2 ^ 14 + 2 ^ 15)) rfl rfl (by kernel_rfl) (by decide) (fun K hK => ?_)
 refine gz_ Try.func50 #[.slice AR lR.length cR, .int .u32 a2, .int .u32 a3, .int .u32 a4] ?_
 (with_reducible refine (flow_Del.calls okR AR cR lR a2 a3 a4 r1 r2 w2 ?side1 HH.out).mono ?_)
 (case side1 => exact Kd.V_map (Kd.V_below HR.out HS.out) (fun _ hf => hf))
 rintro e w3 ⟨v0, rfl, hv, hb⟩
 refine ⟨_, rfl, ?_⟩
 obtain ⟨A2, c2, rfl⟩ := Kd.V_slice hv
 have HV := m_ hv
 replace HW := m_ (blk_below HW.out hb)
 have HS2 := m_ (below_then HS.out HS.out.size hb)
 clear hv hb
 refine hK.out _ _ ?_
 clear hK K
 refine nz_ (some 20) ?_
 refine pk_ 16 4 ?_
 refine pk_ 17 21 ?_
 refine pk_ 18 22 ?_
 refine pk_ 19 23 ?_
 refine pk_ 20 24 ?_
 refine pk_ 21 25 ?_
 refine last_ (i := 22) (N := none) (bs_ 23 (0 + 2 ^ 0 + 2 ^ 1 + 2 ^ 2 + 2 ^ 3 + 2 ^ 4 + 2 ^ 5 + 2 ^ 6 + 2 ^ 7 + 2 ^ 8 + 2 ^ 9 + 2 ^ 10 + 2 ^ 11 + 2 ^ 12 + 2 ^ 13 + 2 ^ 14 + 2 ^ 15 + 2 ^ 16 + 2 ^ 17 + 2 ^ 18 + 2 ^ 19 + 2 ^ 20 + 2 ^ 21 + 2 ^ 22)) rfl rfl (by kernel_rfl) (by decide) (fun K hK => ?_)
 refine sw_write (by rfl) rfl rfl [.slice A2 r1.length c2] (g := gw) (o' := 1) (cs' := #[.int .i64 lim, .slice A2 r1.length c2, vB, vO]) rfl rfl rfl rfl (by simp [Value.oneCell']) HW.out (by simp) rfl ?_
 intro w4 hblk on
 refine hK.out _ _ ?_
 clear hK K
 refine done_ (by kernel_rfl) ?_
 (try simp only [Exit.inBlock, Exit.then])
 refine ⟨rfl, .tuple #[], results_none rfl _ _ _, ?_⟩
 have hgs : gw < w.heap.size := HGS.out
 have hk4 : Kept w3 w4 (fun k => k = gw) := ⟨Nat.le_of_eq on.size.symm, fun i hi hn => on.block i hn⟩
 have hv3 := Kd.V_mono (ok' := fun k => (okR k ∨ w.heap.size ≤ k) ∧ k ≠ gw) HV.out (fun k hk => by
  rcases hk with hk | hk
  · exact ⟨.inl hk, HP.out k hk⟩
  · have hk2 := Nat.le_trans HS.out.size hk
    exact ⟨.inr hk2, by omega⟩)
 exact ⟨rfl, _, hblk, Kd.V_map (Kd.V_kept (S := fun k => k = gw) hv3 hk4 (fun k hk e => hk.2 e)) (fun _ hf => hf), Kept.then_ (Kept.of_below HS2.out _) hk4 (fun k hk => .inl hk), on.os.trans HS2.out.os, on.tape.trans HS2.out.tape, on.output.trans HS2.out.output⟩
set_option maxHeartbeats 8000000 in
set_option maxRecDepth 100000 in
theorem swtch_wipe.calls (gw : Nat) (lim : Int) (vR vB vO : Value) (a0 a1 a2 a3 a4 a5 a6 : Int) (A7 : Option Addr) (n7 c7 : Nat) (a8 : Int) (a9 : Bool) (A10 : Option Addr) (n10 c10 : Nat) (w : World) (hW : w.heap[gw]? = some (.cells #[.int .i64 lim, vR, vB, vO] 68 (0, 0))) :
  Calls Try.prog 39 #[.pointer (some ⟨gw, 0, none⟩), .agg #[.int .u8 a0, .int .u32 a1, .int .u32 a2, .int .u32 a3, .int .u32 a4, .int .i64 a5, .int .u32 a6, .slice A7 n7 c7, .int .i64 a8, .bool a9, .slice A10 n10 c10]] w fun e w' => e = .returned (.tuple #[]) ∧ w'.heap[gw]? = some (.cells #[.int .i64 lim, .slice none 0 0, vB, vO] 68 (0, 0)) ∧ Kept w w' (fun k => k = gw) ∧ (w'.os = w.os ∧ w'.tape = w.tape ∧ w'.output = w.output) := by
 have hu32 := Try.underlying32
 have hu68 := Try.underlying68
 have hu24 := Try.underlying24
 have HW := m_ hW
 clear hW
 have HS := m_ (Below.refl w.heap.size w)
 go_enter Try.func39, Try.ntmps39
 go_wp2_with (first | ((with_reducible refine gate_dst (N := 3) rfl ?_); refine bx_ 3 32 #[.int .u8 a0, .int .u32 a1, .int .u32 a2, .int .u32 a3, .int .u32 a4, .int .i64 a5, .int .u32 a6, .slice A7 n7 c7, .int .i64 a8, .bool a9, .slice A10 n10 c10] ?_; intro gm hg w1 hbox hb; have BM := m_ (hbox); have GM := m_ (Nat.le_of_eq hg.symm); replace HW := m_ (blk_below HW.out hb); replace HS := m_ hb; clear hb hbox hg; have f1 := blk_frozen HW.out 1; have c1 : w1.cell? ⟨gw, 1, none⟩ = some vR := (blk_cell HW.out 1).trans rfl))
 (try simp only [Exit.inBlock, Exit.then])
 refine ⟨rfl, .tuple #[], results_none rfl _ _ _, ?_⟩
 refine ⟨rfl, blk_put HW.out 1 _ rfl, ?_, HS.out.os, HS.out.tape, HS.out.output⟩
 exact Kept.then_ (Kept.of_below HS.out _) (S2 := fun k => k = gw) ⟨by simp [World.setCell], fun i hi hn => Below.heap_setCell _ _ _ i hn⟩ (fun k hk => .inl hk)
set_option maxHeartbeats 8000000 in
set_option maxRecDepth 100000 in
theorem swtch_barrier.calls (gw : Nat) (lim : Int) (vR vB vO : Value) (a0 a1 a2 a3 a4 a5 a6 : Int) (A7 : Option Addr) (n7 c7 : Nat) (a8 : Int) (a9 : Bool) (A10 : Option Addr) (n10 c10 : Nat) (lB : List S32) (okB : Nat → Prop) (w0 w : World) (hW : w.heap[gw]? = some (.cells #[.int .i64 lim, vR, vB, vO] 68 (0, 0))) (hN : Kd.N k32 32 w w0.heap.size okB vB lB) (hgB : ∀ k, okB k → k ≠ gw) (hfr : ∀ k, w.heap.size ≤ k → okB k) (hB : Below w0.heap.size w0 w) (hl : lB.length < 1000000000) :
  Calls Try.prog 40 #[.pointer (some ⟨gw, 0, none⟩), .agg #[.int .u8 a0, .int .u32 a1, .int .u32 a2, .int .u32 a3, .int .u32 a4, .int .i64 a5, .int .u32 a6, .slice A7 n7 c7, .int .i64 a8, .bool a9, .slice A10 n10 c10]] w fun e w' => e = .returned (.tuple #[]) ∧ ∃ vB', w'.heap[gw]? = some (.cells #[.int .i64 lim, vR, vB', vO] 68 (0, 0)) ∧ Kd.N k32 32 w' w0.heap.size okB vB' (lB ++ [bare32 4 a1]) ∧ Kept w w' (fun k => k = gw ∨ some k = vB.ownBlock) ∧ (vB'.ownBlock = vB.ownBlock ∨ ∃ b, vB'.ownBlock = some b ∧ w.heap.size ≤ b) ∧ (w'.os = w.os ∧ w'.tape = w.tape ∧ w'.output = w.output) := by
 have hu32 := Try.underlying32
 have HW := m_ hW
 have HN := m_ hN
 have HB := m_ hB
 have HG := m_ hgB
 have HF := m_ hfr
 have HL := m_ hl
 clear hW hN hB hgB hfr hl
 have HS := m_ (Below.refl w.heap.size w)
 go_enter Try.func40, Try.ntmps40
 go_wp2_with (first | ((with_reducible refine gate_dst (N := 3) rfl ?_); refine bx_ 3 32 #[.int .u8 a0, .int .u32 a1, .int .u32 a2, .int .u32 a3, .int .u32 a4, .int .i64 a5, .int .u32 a6, .slice A7 n7 c7, .int .i64 a8, .bool a9, .slice A10 n10 c10] ?_; intro gm hg w1 hbox hb; have BM := m_ (hbox); have GM := m_ (Nat.le_of_eq hg.symm); replace HW := m_ (blk_below HW.out hb); replace HS := m_ hb; clear hb hbox hg; have hcz := cz11_ BM.out) | (go_at_call 49; refine Stop0.out ?_))
 refine ⟨?_⟩
 refine (swtch_answer.calls gw lim 4 vR vB vO a0 a1 a2 a3 a4 a5 a6 A7 n7 c7 a8 a9 A10 n10 c10 lB okB w0 w1 HW.out (Kd.N_below HN.out HS.out) HG.out (fun k hk => HF.out k (Nat.le_trans HS.out.size hk)) (below_then HB.out HB.out.size HS.out) HL.out).mono ?_
 rintro e w2 ⟨rfl, vB2, h1, h2, h3, h4, h6, h7, h8⟩
 go_wp2
 (try simp only [Exit.inBlock, Exit.then])
 refine ⟨rfl, .tuple #[], results_none rfl _ _ _, ?_⟩
 refine ⟨rfl, vB2, h1, h2, Kept.then_ (Kept.of_below HS.out _) h3 (fun k hk => .inl hk), ?_, h6.trans HS.out.os, h7.trans HS.out.tape, h8.trans HS.out.output⟩
 rcases h4 with h | ⟨b, h, h5⟩
 · exact .inl h
 · exact .inr ⟨b, h, Nat.le_trans HS.out.size h5⟩
end Go.Proofs.Ytfomnmdjbdohgaa.P

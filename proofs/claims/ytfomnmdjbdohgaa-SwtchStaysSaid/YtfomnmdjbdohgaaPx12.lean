/- For each Go function a Lean function, and the proof that a call comes to what it tells: made by program out of the translation (the kit's print, with texts by hand put in). No condition. -/
import Derived.Test.YtfomnmdjbdohgaaSq
import Derived.Test.YtfomnmdjbdohgaaPx0
import Derived.Test.YtfomnmdjbdohgaaPx3
import Derived.Test.YtfomnmdjbdohgaaPx4
import Derived.Test.YtfomnmdjbdohgaaPx11
namespace Go.Proofs.Ytfomnmdjbdohgaa.P
open Go.RowKit Go.Proofs.Ytfomnmdjbdohgaa.HRows Go.Proofs.YtfomnmdjbdohgaaW.PrintWords Go.Proofs.YtfomnmdjbdohgaaW.PrintLast Go.Proofs.YtfomnmdjbdohgaaW.PrintMore
attribute [local go_sem] max2_int min2_int max_two min_two max_three min_three max_four min_four
set_option linter.unusedVariables false
set_option linter.unusedSimpArgs false
theorem ht1_ {P : Program} {md : Region.Mode} {ops : Array Oper} {Q : Exit → Act → World → Prop} {S : World → Prop} {fuel : Nat} {l : Array Bool} {a a' : Act} {w : World} (i : Nat) {oi : Oper} {v : Value} (h : wpAnyH P md ops (NoPanic Q) S fuel (l.setIfInBounds i true) a' w) (hi : ops[i]? = some oi := by rfl)
  (hk : (Region.noSelect ops && Region.free md ops l i && (Region.ready md ops l).contains i) = true := by kernel_rfl) (hy : YieldsIf P ops S oi v a := by first | exact Or.inr ⟨by rfl, rfl⟩ | exact Or.inl ⟨by rfl, by intro w hSw; go_simp; try (with_reducible rfl)⟩) (hS : S w := by exact hHeld)
  (ha : a.put oi.dst v = a' := by simp only [Act.put, List.getElem_toArray, List.getElem_cons_zero, List.getElem_cons_succ, List.setIfInBounds_toArray, List.set_cons_zero, List.set_cons_succ]; rfl) : wpAnyH P md ops (NoPanic Q) S (fuel + 1) l a w := by
 subst ha
 simp only [Bool.and_eq_true] at hk
 exact wpAnyH_take hi hk.1.1 hk.1.2 hk.2 (fun _ _ _ h => h) hy hS h
/-- What stays of a message that is right, and whether it is so far (by its kind). -/
def ofmsg_Right.f (k : Nat) (a0_0 : Int) (a0_1 : Int) (a0_2 : Int) (a0_3 : Int) (a0_4 : Int) (a0_5 : Int) (a0_6 : Int) (l0_7 : List (S74)) (a0_8 : Int) (a0_9 : Bool) (l0_10 : List Int) : Option (Bool) :=
 if a0_0 = 1 then ((flow_Right.f k a0_2 a0_3 a0_4 a0_5 a0_6 l0_7).bind fun t => if t = true then ofmsg_Same.f k a0_0 a0_1 a0_2 a0_3 a0_4 a0_5 a0_6 l0_7 a0_8 a0_9 l0_10 a0_0 a0_1 a0_2 a0_3 a0_4 a0_5 a0_6 l0_7 0 false [] else some false)
 else if a0_0 = 2 then ((addr_IsAsked.f a0_3).bind fun t => if t = true then ofmsg_Same.f k a0_0 a0_1 a0_2 a0_3 a0_4 a0_5 a0_6 l0_7 a0_8 a0_9 l0_10 a0_0 a0_1 a0_2 a0_3 a0_4 0 0 [] 0 false [] else some false)
 else if 3 ≤ a0_0 ∧ a0_0 ≤ 6 then ofmsg_Same.f k a0_0 a0_1 a0_2 a0_3 a0_4 a0_5 a0_6 l0_7 a0_8 a0_9 l0_10 a0_0 a0_1 0 0 0 0 0 [] 0 false []
 else if a0_0 = 7 then (if 0 ≤ a0_8 ∧ a0_8 < 64 then ofmsg_Same.f k a0_0 a0_1 a0_2 a0_3 a0_4 a0_5 a0_6 l0_7 a0_8 a0_9 l0_10 a0_0 a0_1 0 0 0 0 0 [] a0_8 a0_9 [] else some false)
 else if 8 ≤ a0_0 ∧ a0_0 ≤ 9 then (if (64 ≤ a0_8 ∧ a0_8 < 128) ∧ (l0_10.length : Int) ≤ 1500 then ofmsg_Same.f k a0_0 a0_1 a0_2 a0_3 a0_4 a0_5 a0_6 l0_7 a0_8 a0_9 l0_10 a0_0 a0_1 0 0 0 0 0 [] a0_8 false l0_10 else some false)
 else some false
theorem ofmsg_Right.mono : ∀ a0 a1 a2 a3 a4 a5 a6 a7 a8 a9 a10 k, LeO (ofmsg_Right.f k a0 a1 a2 a3 a4 a5 a6 a7 a8 a9 a10) (ofmsg_Right.f (k + 1) a0 a1 a2 a3 a4 a5 a6 a7 a8 a9 a10) := by
 intro a0 a1 a2 a3 a4 a5 a6 a7 a8 a9 a10 k
 unfold ofmsg_Right.f
 repeat' first
   | (with_reducible exact ofmsg_Same.mono _ _ _ _ _ _ _ _ _ _ _ _ _ _ _ _ _ _ _ _ _ _ _)
   | (with_reducible exact flow_Right.mono _ _ _ _ _ _ _)
   | (with_reducible exact LeO.refl _)
   | (with_reducible refine LeO.ite ?_ ?_)
   | (with_reducible refine LeO.bind ?_ (fun _ => ?_))
set_option maxHeartbeats 8000000 in
set_option maxRecDepth 100000 in
theorem ofmsg_Right.calls (k : Nat) (a0_0 : Int) (a0_1 : Int) (a0_2 : Int) (a0_3 : Int) (a0_4 : Int) (a0_5 : Int) (a0_6 : Int) (A0_7 : Option Addr) (c0_7 : Nat) (l0_7 : List (S74)) (a0_8 : Int) (a0_9 : Bool) (A0_10 : Option Addr) (c0_10 : Nat) (l0_10 : List Int) (r : Bool) (w : World) (hr0_7 : Kd.C k74 w A0_7 l0_7.length l0_7) (hc0_7 : l0_7.length ≤ c0_7) (hr0_10 : Kd.C (Kd.int .u8) w A0_10 l0_10.length l0_10) (hc0_10 : l0_10.length ≤ c0_10) (h : ofmsg_Right.f k a0_0 a0_1 a0_2 a0_3 a0_4 a0_5 a0_6 l0_7 a0_8 a0_9 l0_10 = some r) :
  Calls Try.prog 42 #[.agg #[.int .u8 a0_0, .int .u32 a0_1, .int .u32 a0_2, .int .u32 a0_3, .int .u32 a0_4, .int .i64 a0_5, .int .u32 a0_6, .slice A0_7 l0_7.length c0_7, .int .i64 a0_8, .bool a0_9, .slice A0_10 l0_10.length c0_10]] w fun e w' => e = .returned (.bool r) ∧ Below w.heap.size w w' := by
 have hu29 := Try.underlying32
 have hu26 := Try.underlying29
 have HR0_7 := m_ hr0_7
 have HC0_7 := m_ hc0_7
 have HR0_10 := m_ hr0_10
 have HC0_10 := m_ hc0_10
 clear hr0_7 hc0_7 hr0_10 hc0_10
 have H := m_ h
 clear h
 go_enter Try.func42, Try.ntmps42
 go_wp2_with ((with_reducible refine gate_dst (N := 1) rfl ?_); refine bx_ 1 32 #[.int .u8 a0_0, .int .u32 a0_1, .int .u32 a0_2, .int .u32 a0_3, .int .u32 a0_4, .int .i64 a0_5, .int .u32 a0_6, .slice A0_7 l0_7.length c0_7, .int .i64 a0_8, .bool a0_9, .slice A0_10 l0_10.length c0_10] ?_; intro gm hgm w1 hblk hb1; have GM := m_ hgm; clear hgm; refine Stop0.out ?_)
 refine ⟨?_⟩
 have BK := m_ hblk
 have HB := m_ hb1
 have c0 : w1.cell? ⟨gm, 0, none⟩ = some (.int .u8 a0_0) := (blk_cell hblk 0).trans rfl
 have c1 : w1.cell? ⟨gm, 1, none⟩ = some (.int .u32 a0_1) := (blk_cell hblk 1).trans rfl
 have f0 := blk_frozen hblk 0
 have f1 := blk_frozen hblk 1
 clear hblk hb1
 go_wp2_with ((with_reducible refine gate_dst (N := 3) rfl ?_); refine bx_ 3 32 #[.int .u8 0, .int .u32 0, .int .u32 0, .int .u32 0, .int .u32 0, .int .i64 0, .int .u32 0, .slice none 0 0, .int .i64 0, .bool false, .slice none 0 0] ?_; intro gx hgx w2 hblk hb2; have GX := m_ hgx; have BX := m_ hblk; clear hgx hblk; have HB2 := m_ hb2; clear hb2; refine Stop0.out ?_)
 refine ⟨?_⟩
 refine blk_write (cs' := #[.int .u8 a0_0, .int .u32 a0_1, .int .u32 0, .int .u32 0, .int .u32 0, .int .i64 0, .int .u32 0, .slice none 0 0, .int .i64 0, .bool false, .slice none 0 0]) rfl rfl rfl [.int .u8 a0_0, .int .u32 a0_1, .int .u32 0, .int .u32 0, .int .u32 0, .int .i64 0, .int .u32 0, .slice none 0 0, .int .i64 0, .bool false, .slice none 0 0] rfl rfl rfl rfl (by simp [Value.oneCell']) BX.out (by simp) rfl ?_
 intro w3 bx3 on3
 have hne : gm ≠ gx := by rw [GX.out]; exact Nat.ne_of_lt (blk_lt BK.out)
 have hwm : w.heap.size ≤ gm := by rw [GM.out]; exact Nat.le_refl _
 have hwx : w.heap.size ≤ gx := by rw [GX.out]; exact HB.out.size
 have bm3 : w3.heap[gm]? = some (.cells #[.int .u8 a0_0, .int .u32 a0_1, .int .u32 a0_2, .int .u32 a0_3, .int .u32 a0_4, .int .i64 a0_5, .int .u32 a0_6, .slice A0_7 l0_7.length c0_7, .int .i64 a0_8, .bool a0_9, .slice A0_10 l0_10.length c0_10] 32 (0, 0)) := on3.blk hne (blk_below BK.out HB2.out)
 have hb3 : Below w.heap.size w w3 := on3.below (below_step HB.out HB2.out) hwx
 clear c0 c1 f0 f1 BK HB BX HB2 GX GM on3
 have BM := m_ bm3
 have BX := m_ bx3
 have HB := m_ hb3
 have HWM := m_ hwm
 have HWX := m_ hwx
 have HNE := m_ hne
 have c0 : w3.cell? ⟨gm, 0, none⟩ = some (.int .u8 a0_0) := (blk_cell bm3 0).trans rfl
 have f0 := blk_frozen bm3 0
 clear hwm hwx bm3 bx3 hb3 w1 w2 hne
 by_cases k1 : a0_0 = 1
 -- CASES
 ·subst k1
  have H1 := H.out
  clear H
  unfold ofmsg_Right.f at H1
  rw [if_pos rfl] at H1
  obtain ⟨t, hr, H1⟩ := Option.bind_eq_some_iff.mp H1
  have HF := m_ hr
  have HG := m_ H1
  clear hr H1
  have BMc := BM
  go_wp2
  go_region_held3 (fun W => W.cell? ⟨gm, 2, none⟩ = some (.int .u32 a0_2) ∧ W.cell? ⟨gm, 3, none⟩ = some (.int .u32 a0_3) ∧ W.cell? ⟨gm, 4, none⟩ = some (.int .u32 a0_4) ∧ W.cell? ⟨gm, 5, none⟩ = some (.int .i64 a0_5) ∧ W.cell? ⟨gm, 6, none⟩ = some (.int .u32 a0_6) ∧ W.cell? ⟨gm, 7, none⟩ = some (.slice A0_7 l0_7.length c0_7)) ((refine cells_mid (v0 := .int .u8 1) (v1 := .int .u32 a0_1) (v8 := .int .i64 a0_8) (v9 := .bool a0_9) (v10 := .slice A0_10 l0_10.length c0_10) (t := 32) ?_; (with_reducible repeat (first | refine blk_away ?_ HNE.out _ | refine blk_drewN ?_ _ | refine blk_drew ?_)); with_reducible exact BMc.out)) (first | (go_at_call 45; refine (flow_Right.calls k a0_2 a0_3 a0_4 a0_5 a0_6 A0_7 c0_7 l0_7 t _ ?side1 HC0_7.out HF.out).mono ?_; (case side1 => repeat (first | exact (Kd.C_below HR0_7.out HB.out) | (with_reducible refine Kd.C_drewN ?_ _) | (with_reducible refine Kd.C_drew ?_))); rintro e w4 ⟨rfl, hb4⟩; have BMc := m_ ((hb4.block gm (blk_lt BM.out)).trans BM.out); have bx4 := (hb4.block gx (blk_lt BX.out)).trans BX.out; have BXc := m_ bx4; have HBc := m_ (below_step HB.out.drew hb4); have cgx2 : w4.cell? ⟨gx, 2, none⟩ = some (.int .u32 0) := (blk_cell bx4 2).trans rfl; have zgx2 := blk_frozen bx4 2; have cgx3 : w4.cell? ⟨gx, 3, none⟩ = some (.int .u32 0) := (blk_cell bx4 3).trans rfl; have zgx3 := blk_frozen bx4 3; have cgx4 : w4.cell? ⟨gx, 4, none⟩ = some (.int .u32 0) := (blk_cell bx4 4).trans rfl; have zgx4 := blk_frozen bx4 4; have cgx5 : w4.cell? ⟨gx, 5, none⟩ = some (.int .i64 0) := (blk_cell bx4 5).trans rfl; have zgx5 := blk_frozen bx4 5; have cgx6 : w4.cell? ⟨gx, 6, none⟩ = some (.int .u32 0) := (blk_cell bx4 6).trans rfl; have zgx6 := blk_frozen bx4 6; have cgx7 : w4.cell? ⟨gx, 7, none⟩ = some (.slice none 0 0) := (blk_cell bx4 7).trans rfl; have zgx7 := blk_frozen bx4 7; clear bx4 hb4))
  rename_i hHeld
  clear hHeld cgx2 zgx2 cgx3 zgx3 cgx4 zgx4 cgx5 zgx5 cgx6 zgx6 cgx7 zgx7
  generalize hW : World.setCell (World.setCell (World.setCell (World.setCell (World.setCell (World.setCell (_) _ _) _ _) _ _) _ _) _ _) _ _ = W9
  have bm9 : W9.heap[gm]? = some (.cells #[.int .u8 1, .int .u32 a0_1, .int .u32 a0_2, .int .u32 a0_3, .int .u32 a0_4, .int .i64 a0_5, .int .u32 a0_6, .slice A0_7 l0_7.length c0_7, .int .i64 a0_8, .bool a0_9, .slice A0_10 l0_10.length c0_10] 32 (0, 0)) := by rw [← hW]; (with_reducible repeat (first | refine blk_away ?_ HNE.out _ | refine blk_drewN ?_ _ | refine blk_drew ?_)); with_reducible exact BMc.out
  have bx9 : W9.heap[gx]? = some (.cells #[.int .u8 1, .int .u32 a0_1, .int .u32 a0_2, .int .u32 a0_3, .int .u32 a0_4, .int .i64 a0_5, .int .u32 a0_6, .slice A0_7 l0_7.length c0_7, .int .i64 0, .bool false, .slice none 0 0] 32 (0, 0)) := by rw [← hW]; exact (blk_set (blk_set (blk_set (blk_set (blk_set (blk_set (BXc.out) 2 _) 3 _) 4 _) 5 _) 6 _) 7 _).trans rfl
  have hb9 : Below w.heap.size w W9 := by rw [← hW]; (with_reducible repeat (first | refine below_set ?_ HWX.out | refine pw_below_drewN ?_ _ | refine below_drew1 ?_)); exact HBc.out
  clear hW BMc BXc HBc
  cases t with
  | false =>
   have H1 := HG.out
   rw [if_neg (by decide)] at H1
   obtain rfl := Option.some.inj H1
   have HB9 := m_ hb9
   clear hb9 bm9 bx9 H1
   go_wp2
   go_ret
   exact ⟨rfl, HB9.out⟩
  | true =>
   have H1 := HG.out
   rw [if_pos rfl] at H1
   have H2 := m_ H1
   clear H1
   have cgm0 : W9.cell? ⟨gm, 0, none⟩ = some (.int .u8 1) := (blk_cell bm9 0).trans rfl
   have zgm0 := blk_frozen bm9 0
   have cgm1 : W9.cell? ⟨gm, 1, none⟩ = some (.int .u32 a0_1) := (blk_cell bm9 1).trans rfl
   have zgm1 := blk_frozen bm9 1
   have cgm2 : W9.cell? ⟨gm, 2, none⟩ = some (.int .u32 a0_2) := (blk_cell bm9 2).trans rfl
   have zgm2 := blk_frozen bm9 2
   have cgm3 : W9.cell? ⟨gm, 3, none⟩ = some (.int .u32 a0_3) := (blk_cell bm9 3).trans rfl
   have zgm3 := blk_frozen bm9 3
   have cgm4 : W9.cell? ⟨gm, 4, none⟩ = some (.int .u32 a0_4) := (blk_cell bm9 4).trans rfl
   have zgm4 := blk_frozen bm9 4
   have cgm5 : W9.cell? ⟨gm, 5, none⟩ = some (.int .i64 a0_5) := (blk_cell bm9 5).trans rfl
   have zgm5 := blk_frozen bm9 5
   have cgm6 : W9.cell? ⟨gm, 6, none⟩ = some (.int .u32 a0_6) := (blk_cell bm9 6).trans rfl
   have zgm6 := blk_frozen bm9 6
   have cgm7 : W9.cell? ⟨gm, 7, none⟩ = some (.slice A0_7 l0_7.length c0_7) := (blk_cell bm9 7).trans rfl
   have zgm7 := blk_frozen bm9 7
   have cgm8 : W9.cell? ⟨gm, 8, none⟩ = some (.int .i64 a0_8) := (blk_cell bm9 8).trans rfl
   have zgm8 := blk_frozen bm9 8
   have cgm9 : W9.cell? ⟨gm, 9, none⟩ = some (.bool a0_9) := (blk_cell bm9 9).trans rfl
   have zgm9 := blk_frozen bm9 9
   have cgm10 : W9.cell? ⟨gm, 10, none⟩ = some (.slice A0_10 l0_10.length c0_10) := (blk_cell bm9 10).trans rfl
   have zgm10 := blk_frozen bm9 10
   have cgx0 : W9.cell? ⟨gx, 0, none⟩ = some (.int .u8 1) := (blk_cell bx9 0).trans rfl
   have zgx0 := blk_frozen bx9 0
   have cgx1 : W9.cell? ⟨gx, 1, none⟩ = some (.int .u32 a0_1) := (blk_cell bx9 1).trans rfl
   have zgx1 := blk_frozen bx9 1
   have cgx2 : W9.cell? ⟨gx, 2, none⟩ = some (.int .u32 a0_2) := (blk_cell bx9 2).trans rfl
   have zgx2 := blk_frozen bx9 2
   have cgx3 : W9.cell? ⟨gx, 3, none⟩ = some (.int .u32 a0_3) := (blk_cell bx9 3).trans rfl
   have zgx3 := blk_frozen bx9 3
   have cgx4 : W9.cell? ⟨gx, 4, none⟩ = some (.int .u32 a0_4) := (blk_cell bx9 4).trans rfl
   have zgx4 := blk_frozen bx9 4
   have cgx5 : W9.cell? ⟨gx, 5, none⟩ = some (.int .i64 a0_5) := (blk_cell bx9 5).trans rfl
   have zgx5 := blk_frozen bx9 5
   have cgx6 : W9.cell? ⟨gx, 6, none⟩ = some (.int .u32 a0_6) := (blk_cell bx9 6).trans rfl
   have zgx6 := blk_frozen bx9 6
   have cgx7 : W9.cell? ⟨gx, 7, none⟩ = some (.slice A0_7 l0_7.length c0_7) := (blk_cell bx9 7).trans rfl
   have zgx7 := blk_frozen bx9 7
   have cgx8 : W9.cell? ⟨gx, 8, none⟩ = some (.int .i64 0) := (blk_cell bx9 8).trans rfl
   have zgx8 := blk_frozen bx9 8
   have cgx9 : W9.cell? ⟨gx, 9, none⟩ = some (.bool false) := (blk_cell bx9 9).trans rfl
   have zgx9 := blk_frozen bx9 9
   have cgx10 : W9.cell? ⟨gx, 10, none⟩ = some (.slice none 0 0) := (blk_cell bx9 10).trans rfl
   have zgx10 := blk_frozen bx9 10
   have HB9 := m_ hb9
   clear hb9 bm9 bx9
   go_wp2_with (go_at_call 52; refine Stop0.out ?_)
   refine ⟨?_⟩
   refine (ofmsg_Same.calls k 1 a0_1 a0_2 a0_3 a0_4 a0_5 a0_6 A0_7 c0_7 l0_7 a0_8 a0_9 A0_10 c0_10 l0_10 1 a0_1 a0_2 a0_3 a0_4 a0_5 a0_6 A0_7 c0_7 l0_7 0 false none 0 []  r _ (Kd.C_below HR0_7.out HB9.out) HC0_7.out (Kd.C_below HR0_10.out HB9.out) HC0_10.out (Kd.C_below HR0_7.out HB9.out) HC0_7.out (Kd.C_nil _ _) (Nat.le_refl _) H2.out).mono ?_
   rintro e w10 ⟨rfl, hb10⟩
   have HB10 := m_ (below_step HB9.out hb10)
   clear hb10
   go_wp2
   go_ret
   exact ⟨rfl, HB10.out⟩
 ·by_cases k2 : a0_0 = 2
  ·subst k2
   have H1 := H.out
   clear H
   unfold ofmsg_Right.f at H1
   rw [if_neg k1, if_pos rfl] at H1
   clear k1
   obtain ⟨t, hr, H1⟩ := Option.bind_eq_some_iff.mp H1
   have HF := m_ hr
   have HG := m_ H1
   clear hr H1
   have BMc := BM
   go_wp2
   go_region_held3 (fun W => W.cell? ⟨gm, 2, none⟩ = some (.int .u32 a0_2) ∧ W.cell? ⟨gm, 3, none⟩ = some (.int .u32 a0_3) ∧ W.cell? ⟨gm, 4, none⟩ = some (.int .u32 a0_4) ∧ W.cell? ⟨gm, 5, none⟩ = some (.int .i64 a0_5) ∧ W.cell? ⟨gm, 6, none⟩ = some (.int .u32 a0_6) ∧ W.cell? ⟨gm, 7, none⟩ = some (.slice A0_7 l0_7.length c0_7)) ((refine cells_mid (v0 := .int .u8 2) (v1 := .int .u32 a0_1) (v8 := .int .i64 a0_8) (v9 := .bool a0_9) (v10 := .slice A0_10 l0_10.length c0_10) (t := 32) ?_; (with_reducible repeat (first | refine blk_away ?_ HNE.out _ | refine blk_drewN ?_ _ | refine blk_drew ?_)); with_reducible exact BMc.out)) (first | (go_at_call 51; refine (addr_IsAsked.calls a0_3 t _ HF.out).mono ?_; rintro e w4 ⟨rfl, hb4⟩; have hb4 := hb4.below; have BMc := m_ ((hb4.block gm (blk_lt BM.out)).trans BM.out); have bx4 := (hb4.block gx (blk_lt BX.out)).trans BX.out; have BXc := m_ bx4; have HBc := m_ (below_step HB.out.drew hb4); have cgx2 : w4.cell? ⟨gx, 2, none⟩ = some (.int .u32 0) := (blk_cell bx4 2).trans rfl; have zgx2 := blk_frozen bx4 2; have cgx3 : w4.cell? ⟨gx, 3, none⟩ = some (.int .u32 0) := (blk_cell bx4 3).trans rfl; have zgx3 := blk_frozen bx4 3; have cgx4 : w4.cell? ⟨gx, 4, none⟩ = some (.int .u32 0) := (blk_cell bx4 4).trans rfl; have zgx4 := blk_frozen bx4 4; have cgx5 : w4.cell? ⟨gx, 5, none⟩ = some (.int .i64 0) := (blk_cell bx4 5).trans rfl; have zgx5 := blk_frozen bx4 5; have cgx6 : w4.cell? ⟨gx, 6, none⟩ = some (.int .u32 0) := (blk_cell bx4 6).trans rfl; have zgx6 := blk_frozen bx4 6; have cgx7 : w4.cell? ⟨gx, 7, none⟩ = some (.slice none 0 0) := (blk_cell bx4 7).trans rfl; have zgx7 := blk_frozen bx4 7; clear bx4 hb4))
   rename_i hHeld
   clear hHeld cgx2 zgx2 cgx3 zgx3 cgx4 zgx4 cgx5 zgx5 cgx6 zgx6 cgx7 zgx7
   generalize hW : World.setCell (World.setCell (World.setCell (World.setCell (World.setCell (World.setCell (_) _ _) _ _) _ _) _ _) _ _) _ _ = W9
   have bm9 : W9.heap[gm]? = some (.cells #[.int .u8 2, .int .u32 a0_1, .int .u32 a0_2, .int .u32 a0_3, .int .u32 a0_4, .int .i64 a0_5, .int .u32 a0_6, .slice A0_7 l0_7.length c0_7, .int .i64 a0_8, .bool a0_9, .slice A0_10 l0_10.length c0_10] 32 (0, 0)) := by rw [← hW]; (with_reducible repeat (first | refine blk_away ?_ HNE.out _ | refine blk_drewN ?_ _ | refine blk_drew ?_)); with_reducible exact BMc.out
   have bx9 : W9.heap[gx]? = some (.cells #[.int .u8 2, .int .u32 a0_1, .int .u32 a0_2, .int .u32 a0_3, .int .u32 a0_4, .int .i64 0, .int .u32 0, .slice none 0 0, .int .i64 0, .bool false, .slice none 0 0] 32 (0, 0)) := by rw [← hW]; exact (blk_set (blk_set (blk_set (blk_set (blk_set (blk_set (BXc.out) 2 _) 3 _) 4 _) 5 _) 6 _) 7 _).trans rfl
   have hb9 : Below w.heap.size w W9 := by rw [← hW]; (with_reducible repeat (first | refine below_set ?_ HWX.out | refine pw_below_drewN ?_ _ | refine below_drew1 ?_)); exact HBc.out
   clear hW BMc BXc HBc
   cases t with
   | false =>
    have H1 := HG.out
    rw [if_neg (by decide)] at H1
    obtain rfl := Option.some.inj H1
    have HB9 := m_ hb9
    clear hb9 bm9 bx9 H1
    go_wp2
    go_ret
    exact ⟨rfl, HB9.out⟩
   | true =>
    have H1 := HG.out
    rw [if_pos rfl] at H1
    have H2 := m_ H1
    clear H1
    have cgm0 : W9.cell? ⟨gm, 0, none⟩ = some (.int .u8 2) := (blk_cell bm9 0).trans rfl
    have zgm0 := blk_frozen bm9 0
    have cgm1 : W9.cell? ⟨gm, 1, none⟩ = some (.int .u32 a0_1) := (blk_cell bm9 1).trans rfl
    have zgm1 := blk_frozen bm9 1
    have cgm2 : W9.cell? ⟨gm, 2, none⟩ = some (.int .u32 a0_2) := (blk_cell bm9 2).trans rfl
    have zgm2 := blk_frozen bm9 2
    have cgm3 : W9.cell? ⟨gm, 3, none⟩ = some (.int .u32 a0_3) := (blk_cell bm9 3).trans rfl
    have zgm3 := blk_frozen bm9 3
    have cgm4 : W9.cell? ⟨gm, 4, none⟩ = some (.int .u32 a0_4) := (blk_cell bm9 4).trans rfl
    have zgm4 := blk_frozen bm9 4
    have cgm5 : W9.cell? ⟨gm, 5, none⟩ = some (.int .i64 a0_5) := (blk_cell bm9 5).trans rfl
    have zgm5 := blk_frozen bm9 5
    have cgm6 : W9.cell? ⟨gm, 6, none⟩ = some (.int .u32 a0_6) := (blk_cell bm9 6).trans rfl
    have zgm6 := blk_frozen bm9 6
    have cgm7 : W9.cell? ⟨gm, 7, none⟩ = some (.slice A0_7 l0_7.length c0_7) := (blk_cell bm9 7).trans rfl
    have zgm7 := blk_frozen bm9 7
    have cgm8 : W9.cell? ⟨gm, 8, none⟩ = some (.int .i64 a0_8) := (blk_cell bm9 8).trans rfl
    have zgm8 := blk_frozen bm9 8
    have cgm9 : W9.cell? ⟨gm, 9, none⟩ = some (.bool a0_9) := (blk_cell bm9 9).trans rfl
    have zgm9 := blk_frozen bm9 9
    have cgm10 : W9.cell? ⟨gm, 10, none⟩ = some (.slice A0_10 l0_10.length c0_10) := (blk_cell bm9 10).trans rfl
    have zgm10 := blk_frozen bm9 10
    have cgx0 : W9.cell? ⟨gx, 0, none⟩ = some (.int .u8 2) := (blk_cell bx9 0).trans rfl
    have zgx0 := blk_frozen bx9 0
    have cgx1 : W9.cell? ⟨gx, 1, none⟩ = some (.int .u32 a0_1) := (blk_cell bx9 1).trans rfl
    have zgx1 := blk_frozen bx9 1
    have cgx2 : W9.cell? ⟨gx, 2, none⟩ = some (.int .u32 a0_2) := (blk_cell bx9 2).trans rfl
    have zgx2 := blk_frozen bx9 2
    have cgx3 : W9.cell? ⟨gx, 3, none⟩ = some (.int .u32 a0_3) := (blk_cell bx9 3).trans rfl
    have zgx3 := blk_frozen bx9 3
    have cgx4 : W9.cell? ⟨gx, 4, none⟩ = some (.int .u32 a0_4) := (blk_cell bx9 4).trans rfl
    have zgx4 := blk_frozen bx9 4
    have cgx5 : W9.cell? ⟨gx, 5, none⟩ = some (.int .i64 0) := (blk_cell bx9 5).trans rfl
    have zgx5 := blk_frozen bx9 5
    have cgx6 : W9.cell? ⟨gx, 6, none⟩ = some (.int .u32 0) := (blk_cell bx9 6).trans rfl
    have zgx6 := blk_frozen bx9 6
    have cgx7 : W9.cell? ⟨gx, 7, none⟩ = some (.slice none 0 0) := (blk_cell bx9 7).trans rfl
    have zgx7 := blk_frozen bx9 7
    have cgx8 : W9.cell? ⟨gx, 8, none⟩ = some (.int .i64 0) := (blk_cell bx9 8).trans rfl
    have zgx8 := blk_frozen bx9 8
    have cgx9 : W9.cell? ⟨gx, 9, none⟩ = some (.bool false) := (blk_cell bx9 9).trans rfl
    have zgx9 := blk_frozen bx9 9
    have cgx10 : W9.cell? ⟨gx, 10, none⟩ = some (.slice none 0 0) := (blk_cell bx9 10).trans rfl
    have zgx10 := blk_frozen bx9 10
    have HB9 := m_ hb9
    clear hb9 bm9 bx9
    go_wp2_with (go_at_call 52; refine Stop0.out ?_)
    refine ⟨?_⟩
    refine (ofmsg_Same.calls k 2 a0_1 a0_2 a0_3 a0_4 a0_5 a0_6 A0_7 c0_7 l0_7 a0_8 a0_9 A0_10 c0_10 l0_10 2 a0_1 a0_2 a0_3 a0_4 0 0 none 0 [] 0 false none 0 []  r _ (Kd.C_below HR0_7.out HB9.out) HC0_7.out (Kd.C_below HR0_10.out HB9.out) HC0_10.out (Kd.C_nil _ _) (Nat.le_refl _) (Kd.C_nil _ _) (Nat.le_refl _) H2.out).mono ?_
    rintro e w10 ⟨rfl, hb10⟩
    have HB10 := m_ (below_step HB9.out hb10)
    clear hb10
    go_wp2
    go_ret
    exact ⟨rfl, HB10.out⟩
  ·by_cases k3 : 3 ≤ a0_0 ∧ a0_0 ≤ 6
   ·have H1 := H.out
    clear H
    unfold ofmsg_Right.f at H1
    rw [if_neg k1, if_neg k2, if_pos k3] at H1
    have k4 : a0_0 = 3 ∨ a0_0 = 4 ∨ a0_0 = 5 ∨ a0_0 = 6 := by omega
    clear k1 k2 k3
    rcases k4 with k4 | k4 | k4 | k4
    ·subst k4
     have bm9 := BM.out
     have bx9 := BX.out
     have hb9 := HB.out
     clear BM BX HB c0 f0
     have H2 := m_ H1
     clear H1
     have cgm0 : w3.cell? ⟨gm, 0, none⟩ = some (.int .u8 3) := (blk_cell bm9 0).trans rfl
     have zgm0 := blk_frozen bm9 0
     have cgm1 : w3.cell? ⟨gm, 1, none⟩ = some (.int .u32 a0_1) := (blk_cell bm9 1).trans rfl
     have zgm1 := blk_frozen bm9 1
     have cgm2 : w3.cell? ⟨gm, 2, none⟩ = some (.int .u32 a0_2) := (blk_cell bm9 2).trans rfl
     have zgm2 := blk_frozen bm9 2
     have cgm3 : w3.cell? ⟨gm, 3, none⟩ = some (.int .u32 a0_3) := (blk_cell bm9 3).trans rfl
     have zgm3 := blk_frozen bm9 3
     have cgm4 : w3.cell? ⟨gm, 4, none⟩ = some (.int .u32 a0_4) := (blk_cell bm9 4).trans rfl
     have zgm4 := blk_frozen bm9 4
     have cgm5 : w3.cell? ⟨gm, 5, none⟩ = some (.int .i64 a0_5) := (blk_cell bm9 5).trans rfl
     have zgm5 := blk_frozen bm9 5
     have cgm6 : w3.cell? ⟨gm, 6, none⟩ = some (.int .u32 a0_6) := (blk_cell bm9 6).trans rfl
     have zgm6 := blk_frozen bm9 6
     have cgm7 : w3.cell? ⟨gm, 7, none⟩ = some (.slice A0_7 l0_7.length c0_7) := (blk_cell bm9 7).trans rfl
     have zgm7 := blk_frozen bm9 7
     have cgm8 : w3.cell? ⟨gm, 8, none⟩ = some (.int .i64 a0_8) := (blk_cell bm9 8).trans rfl
     have zgm8 := blk_frozen bm9 8
     have cgm9 : w3.cell? ⟨gm, 9, none⟩ = some (.bool a0_9) := (blk_cell bm9 9).trans rfl
     have zgm9 := blk_frozen bm9 9
     have cgm10 : w3.cell? ⟨gm, 10, none⟩ = some (.slice A0_10 l0_10.length c0_10) := (blk_cell bm9 10).trans rfl
     have zgm10 := blk_frozen bm9 10
     have cgx0 : w3.cell? ⟨gx, 0, none⟩ = some (.int .u8 3) := (blk_cell bx9 0).trans rfl
     have zgx0 := blk_frozen bx9 0
     have cgx1 : w3.cell? ⟨gx, 1, none⟩ = some (.int .u32 a0_1) := (blk_cell bx9 1).trans rfl
     have zgx1 := blk_frozen bx9 1
     have cgx2 : w3.cell? ⟨gx, 2, none⟩ = some (.int .u32 0) := (blk_cell bx9 2).trans rfl
     have zgx2 := blk_frozen bx9 2
     have cgx3 : w3.cell? ⟨gx, 3, none⟩ = some (.int .u32 0) := (blk_cell bx9 3).trans rfl
     have zgx3 := blk_frozen bx9 3
     have cgx4 : w3.cell? ⟨gx, 4, none⟩ = some (.int .u32 0) := (blk_cell bx9 4).trans rfl
     have zgx4 := blk_frozen bx9 4
     have cgx5 : w3.cell? ⟨gx, 5, none⟩ = some (.int .i64 0) := (blk_cell bx9 5).trans rfl
     have zgx5 := blk_frozen bx9 5
     have cgx6 : w3.cell? ⟨gx, 6, none⟩ = some (.int .u32 0) := (blk_cell bx9 6).trans rfl
     have zgx6 := blk_frozen bx9 6
     have cgx7 : w3.cell? ⟨gx, 7, none⟩ = some (.slice none 0 0) := (blk_cell bx9 7).trans rfl
     have zgx7 := blk_frozen bx9 7
     have cgx8 : w3.cell? ⟨gx, 8, none⟩ = some (.int .i64 0) := (blk_cell bx9 8).trans rfl
     have zgx8 := blk_frozen bx9 8
     have cgx9 : w3.cell? ⟨gx, 9, none⟩ = some (.bool false) := (blk_cell bx9 9).trans rfl
     have zgx9 := blk_frozen bx9 9
     have cgx10 : w3.cell? ⟨gx, 10, none⟩ = some (.slice none 0 0) := (blk_cell bx9 10).trans rfl
     have zgx10 := blk_frozen bx9 10
     have HB9 := m_ hb9
     clear hb9 bm9 bx9
     go_wp2_with (go_at_call 52; refine Stop0.out ?_)
     refine ⟨?_⟩
     refine (ofmsg_Same.calls k 3 a0_1 a0_2 a0_3 a0_4 a0_5 a0_6 A0_7 c0_7 l0_7 a0_8 a0_9 A0_10 c0_10 l0_10 3 a0_1 0 0 0 0 0 none 0 [] 0 false none 0 []  r _ (Kd.C_below HR0_7.out HB9.out) HC0_7.out (Kd.C_below HR0_10.out HB9.out) HC0_10.out (Kd.C_nil _ _) (Nat.le_refl _) (Kd.C_nil _ _) (Nat.le_refl _) H2.out).mono ?_
     rintro e w10 ⟨rfl, hb10⟩
     have HB10 := m_ (below_step HB9.out hb10)
     clear hb10
     go_wp2
     go_ret
     exact ⟨rfl, HB10.out⟩
    ·subst k4
     have bm9 := BM.out
     have bx9 := BX.out
     have hb9 := HB.out
     clear BM BX HB c0 f0
     have H2 := m_ H1
     clear H1
     have cgm0 : w3.cell? ⟨gm, 0, none⟩ = some (.int .u8 4) := (blk_cell bm9 0).trans rfl
     have zgm0 := blk_frozen bm9 0
     have cgm1 : w3.cell? ⟨gm, 1, none⟩ = some (.int .u32 a0_1) := (blk_cell bm9 1).trans rfl
     have zgm1 := blk_frozen bm9 1
     have cgm2 : w3.cell? ⟨gm, 2, none⟩ = some (.int .u32 a0_2) := (blk_cell bm9 2).trans rfl
     have zgm2 := blk_frozen bm9 2
     have cgm3 : w3.cell? ⟨gm, 3, none⟩ = some (.int .u32 a0_3) := (blk_cell bm9 3).trans rfl
     have zgm3 := blk_frozen bm9 3
     have cgm4 : w3.cell? ⟨gm, 4, none⟩ = some (.int .u32 a0_4) := (blk_cell bm9 4).trans rfl
     have zgm4 := blk_frozen bm9 4
     have cgm5 : w3.cell? ⟨gm, 5, none⟩ = some (.int .i64 a0_5) := (blk_cell bm9 5).trans rfl
     have zgm5 := blk_frozen bm9 5
     have cgm6 : w3.cell? ⟨gm, 6, none⟩ = some (.int .u32 a0_6) := (blk_cell bm9 6).trans rfl
     have zgm6 := blk_frozen bm9 6
     have cgm7 : w3.cell? ⟨gm, 7, none⟩ = some (.slice A0_7 l0_7.length c0_7) := (blk_cell bm9 7).trans rfl
     have zgm7 := blk_frozen bm9 7
     have cgm8 : w3.cell? ⟨gm, 8, none⟩ = some (.int .i64 a0_8) := (blk_cell bm9 8).trans rfl
     have zgm8 := blk_frozen bm9 8
     have cgm9 : w3.cell? ⟨gm, 9, none⟩ = some (.bool a0_9) := (blk_cell bm9 9).trans rfl
     have zgm9 := blk_frozen bm9 9
     have cgm10 : w3.cell? ⟨gm, 10, none⟩ = some (.slice A0_10 l0_10.length c0_10) := (blk_cell bm9 10).trans rfl
     have zgm10 := blk_frozen bm9 10
     have cgx0 : w3.cell? ⟨gx, 0, none⟩ = some (.int .u8 4) := (blk_cell bx9 0).trans rfl
     have zgx0 := blk_frozen bx9 0
     have cgx1 : w3.cell? ⟨gx, 1, none⟩ = some (.int .u32 a0_1) := (blk_cell bx9 1).trans rfl
     have zgx1 := blk_frozen bx9 1
     have cgx2 : w3.cell? ⟨gx, 2, none⟩ = some (.int .u32 0) := (blk_cell bx9 2).trans rfl
     have zgx2 := blk_frozen bx9 2
     have cgx3 : w3.cell? ⟨gx, 3, none⟩ = some (.int .u32 0) := (blk_cell bx9 3).trans rfl
     have zgx3 := blk_frozen bx9 3
     have cgx4 : w3.cell? ⟨gx, 4, none⟩ = some (.int .u32 0) := (blk_cell bx9 4).trans rfl
     have zgx4 := blk_frozen bx9 4
     have cgx5 : w3.cell? ⟨gx, 5, none⟩ = some (.int .i64 0) := (blk_cell bx9 5).trans rfl
     have zgx5 := blk_frozen bx9 5
     have cgx6 : w3.cell? ⟨gx, 6, none⟩ = some (.int .u32 0) := (blk_cell bx9 6).trans rfl
     have zgx6 := blk_frozen bx9 6
     have cgx7 : w3.cell? ⟨gx, 7, none⟩ = some (.slice none 0 0) := (blk_cell bx9 7).trans rfl
     have zgx7 := blk_frozen bx9 7
     have cgx8 : w3.cell? ⟨gx, 8, none⟩ = some (.int .i64 0) := (blk_cell bx9 8).trans rfl
     have zgx8 := blk_frozen bx9 8
     have cgx9 : w3.cell? ⟨gx, 9, none⟩ = some (.bool false) := (blk_cell bx9 9).trans rfl
     have zgx9 := blk_frozen bx9 9
     have cgx10 : w3.cell? ⟨gx, 10, none⟩ = some (.slice none 0 0) := (blk_cell bx9 10).trans rfl
     have zgx10 := blk_frozen bx9 10
     have HB9 := m_ hb9
     clear hb9 bm9 bx9
     go_wp2_with (go_at_call 52; refine Stop0.out ?_)
     refine ⟨?_⟩
     refine (ofmsg_Same.calls k 4 a0_1 a0_2 a0_3 a0_4 a0_5 a0_6 A0_7 c0_7 l0_7 a0_8 a0_9 A0_10 c0_10 l0_10 4 a0_1 0 0 0 0 0 none 0 [] 0 false none 0 []  r _ (Kd.C_below HR0_7.out HB9.out) HC0_7.out (Kd.C_below HR0_10.out HB9.out) HC0_10.out (Kd.C_nil _ _) (Nat.le_refl _) (Kd.C_nil _ _) (Nat.le_refl _) H2.out).mono ?_
     rintro e w10 ⟨rfl, hb10⟩
     have HB10 := m_ (below_step HB9.out hb10)
     clear hb10
     go_wp2
     go_ret
     exact ⟨rfl, HB10.out⟩
    ·subst k4
     have bm9 := BM.out
     have bx9 := BX.out
     have hb9 := HB.out
     clear BM BX HB c0 f0
     have H2 := m_ H1
     clear H1
     have cgm0 : w3.cell? ⟨gm, 0, none⟩ = some (.int .u8 5) := (blk_cell bm9 0).trans rfl
     have zgm0 := blk_frozen bm9 0
     have cgm1 : w3.cell? ⟨gm, 1, none⟩ = some (.int .u32 a0_1) := (blk_cell bm9 1).trans rfl
     have zgm1 := blk_frozen bm9 1
     have cgm2 : w3.cell? ⟨gm, 2, none⟩ = some (.int .u32 a0_2) := (blk_cell bm9 2).trans rfl
     have zgm2 := blk_frozen bm9 2
     have cgm3 : w3.cell? ⟨gm, 3, none⟩ = some (.int .u32 a0_3) := (blk_cell bm9 3).trans rfl
     have zgm3 := blk_frozen bm9 3
     have cgm4 : w3.cell? ⟨gm, 4, none⟩ = some (.int .u32 a0_4) := (blk_cell bm9 4).trans rfl
     have zgm4 := blk_frozen bm9 4
     have cgm5 : w3.cell? ⟨gm, 5, none⟩ = some (.int .i64 a0_5) := (blk_cell bm9 5).trans rfl
     have zgm5 := blk_frozen bm9 5
     have cgm6 : w3.cell? ⟨gm, 6, none⟩ = some (.int .u32 a0_6) := (blk_cell bm9 6).trans rfl
     have zgm6 := blk_frozen bm9 6
     have cgm7 : w3.cell? ⟨gm, 7, none⟩ = some (.slice A0_7 l0_7.length c0_7) := (blk_cell bm9 7).trans rfl
     have zgm7 := blk_frozen bm9 7
     have cgm8 : w3.cell? ⟨gm, 8, none⟩ = some (.int .i64 a0_8) := (blk_cell bm9 8).trans rfl
     have zgm8 := blk_frozen bm9 8
     have cgm9 : w3.cell? ⟨gm, 9, none⟩ = some (.bool a0_9) := (blk_cell bm9 9).trans rfl
     have zgm9 := blk_frozen bm9 9
     have cgm10 : w3.cell? ⟨gm, 10, none⟩ = some (.slice A0_10 l0_10.length c0_10) := (blk_cell bm9 10).trans rfl
     have zgm10 := blk_frozen bm9 10
     have cgx0 : w3.cell? ⟨gx, 0, none⟩ = some (.int .u8 5) := (blk_cell bx9 0).trans rfl
     have zgx0 := blk_frozen bx9 0
     have cgx1 : w3.cell? ⟨gx, 1, none⟩ = some (.int .u32 a0_1) := (blk_cell bx9 1).trans rfl
     have zgx1 := blk_frozen bx9 1
     have cgx2 : w3.cell? ⟨gx, 2, none⟩ = some (.int .u32 0) := (blk_cell bx9 2).trans rfl
     have zgx2 := blk_frozen bx9 2
     have cgx3 : w3.cell? ⟨gx, 3, none⟩ = some (.int .u32 0) := (blk_cell bx9 3).trans rfl
     have zgx3 := blk_frozen bx9 3
     have cgx4 : w3.cell? ⟨gx, 4, none⟩ = some (.int .u32 0) := (blk_cell bx9 4).trans rfl
     have zgx4 := blk_frozen bx9 4
     have cgx5 : w3.cell? ⟨gx, 5, none⟩ = some (.int .i64 0) := (blk_cell bx9 5).trans rfl
     have zgx5 := blk_frozen bx9 5
     have cgx6 : w3.cell? ⟨gx, 6, none⟩ = some (.int .u32 0) := (blk_cell bx9 6).trans rfl
     have zgx6 := blk_frozen bx9 6
     have cgx7 : w3.cell? ⟨gx, 7, none⟩ = some (.slice none 0 0) := (blk_cell bx9 7).trans rfl
     have zgx7 := blk_frozen bx9 7
     have cgx8 : w3.cell? ⟨gx, 8, none⟩ = some (.int .i64 0) := (blk_cell bx9 8).trans rfl
     have zgx8 := blk_frozen bx9 8
     have cgx9 : w3.cell? ⟨gx, 9, none⟩ = some (.bool false) := (blk_cell bx9 9).trans rfl
     have zgx9 := blk_frozen bx9 9
     have cgx10 : w3.cell? ⟨gx, 10, none⟩ = some (.slice none 0 0) := (blk_cell bx9 10).trans rfl
     have zgx10 := blk_frozen bx9 10
     have HB9 := m_ hb9
     clear hb9 bm9 bx9
     go_wp2_with (go_at_call 52; refine Stop0.out ?_)
     refine ⟨?_⟩
     refine (ofmsg_Same.calls k 5 a0_1 a0_2 a0_3 a0_4 a0_5 a0_6 A0_7 c0_7 l0_7 a0_8 a0_9 A0_10 c0_10 l0_10 5 a0_1 0 0 0 0 0 none 0 [] 0 false none 0 []  r _ (Kd.C_below HR0_7.out HB9.out) HC0_7.out (Kd.C_below HR0_10.out HB9.out) HC0_10.out (Kd.C_nil _ _) (Nat.le_refl _) (Kd.C_nil _ _) (Nat.le_refl _) H2.out).mono ?_
     rintro e w10 ⟨rfl, hb10⟩
     have HB10 := m_ (below_step HB9.out hb10)
     clear hb10
     go_wp2
     go_ret
     exact ⟨rfl, HB10.out⟩
    ·subst k4
     have bm9 := BM.out
     have bx9 := BX.out
     have hb9 := HB.out
     clear BM BX HB c0 f0
     have H2 := m_ H1
     clear H1
     have cgm0 : w3.cell? ⟨gm, 0, none⟩ = some (.int .u8 6) := (blk_cell bm9 0).trans rfl
     have zgm0 := blk_frozen bm9 0
     have cgm1 : w3.cell? ⟨gm, 1, none⟩ = some (.int .u32 a0_1) := (blk_cell bm9 1).trans rfl
     have zgm1 := blk_frozen bm9 1
     have cgm2 : w3.cell? ⟨gm, 2, none⟩ = some (.int .u32 a0_2) := (blk_cell bm9 2).trans rfl
     have zgm2 := blk_frozen bm9 2
     have cgm3 : w3.cell? ⟨gm, 3, none⟩ = some (.int .u32 a0_3) := (blk_cell bm9 3).trans rfl
     have zgm3 := blk_frozen bm9 3
     have cgm4 : w3.cell? ⟨gm, 4, none⟩ = some (.int .u32 a0_4) := (blk_cell bm9 4).trans rfl
     have zgm4 := blk_frozen bm9 4
     have cgm5 : w3.cell? ⟨gm, 5, none⟩ = some (.int .i64 a0_5) := (blk_cell bm9 5).trans rfl
     have zgm5 := blk_frozen bm9 5
     have cgm6 : w3.cell? ⟨gm, 6, none⟩ = some (.int .u32 a0_6) := (blk_cell bm9 6).trans rfl
     have zgm6 := blk_frozen bm9 6
     have cgm7 : w3.cell? ⟨gm, 7, none⟩ = some (.slice A0_7 l0_7.length c0_7) := (blk_cell bm9 7).trans rfl
     have zgm7 := blk_frozen bm9 7
     have cgm8 : w3.cell? ⟨gm, 8, none⟩ = some (.int .i64 a0_8) := (blk_cell bm9 8).trans rfl
     have zgm8 := blk_frozen bm9 8
     have cgm9 : w3.cell? ⟨gm, 9, none⟩ = some (.bool a0_9) := (blk_cell bm9 9).trans rfl
     have zgm9 := blk_frozen bm9 9
     have cgm10 : w3.cell? ⟨gm, 10, none⟩ = some (.slice A0_10 l0_10.length c0_10) := (blk_cell bm9 10).trans rfl
     have zgm10 := blk_frozen bm9 10
     have cgx0 : w3.cell? ⟨gx, 0, none⟩ = some (.int .u8 6) := (blk_cell bx9 0).trans rfl
     have zgx0 := blk_frozen bx9 0
     have cgx1 : w3.cell? ⟨gx, 1, none⟩ = some (.int .u32 a0_1) := (blk_cell bx9 1).trans rfl
     have zgx1 := blk_frozen bx9 1
     have cgx2 : w3.cell? ⟨gx, 2, none⟩ = some (.int .u32 0) := (blk_cell bx9 2).trans rfl
     have zgx2 := blk_frozen bx9 2
     have cgx3 : w3.cell? ⟨gx, 3, none⟩ = some (.int .u32 0) := (blk_cell bx9 3).trans rfl
     have zgx3 := blk_frozen bx9 3
     have cgx4 : w3.cell? ⟨gx, 4, none⟩ = some (.int .u32 0) := (blk_cell bx9 4).trans rfl
     have zgx4 := blk_frozen bx9 4
     have cgx5 : w3.cell? ⟨gx, 5, none⟩ = some (.int .i64 0) := (blk_cell bx9 5).trans rfl
     have zgx5 := blk_frozen bx9 5
     have cgx6 : w3.cell? ⟨gx, 6, none⟩ = some (.int .u32 0) := (blk_cell bx9 6).trans rfl
     have zgx6 := blk_frozen bx9 6
     have cgx7 : w3.cell? ⟨gx, 7, none⟩ = some (.slice none 0 0) := (blk_cell bx9 7).trans rfl
     have zgx7 := blk_frozen bx9 7
     have cgx8 : w3.cell? ⟨gx, 8, none⟩ = some (.int .i64 0) := (blk_cell bx9 8).trans rfl
     have zgx8 := blk_frozen bx9 8
     have cgx9 : w3.cell? ⟨gx, 9, none⟩ = some (.bool false) := (blk_cell bx9 9).trans rfl
     have zgx9 := blk_frozen bx9 9
     have cgx10 : w3.cell? ⟨gx, 10, none⟩ = some (.slice none 0 0) := (blk_cell bx9 10).trans rfl
     have zgx10 := blk_frozen bx9 10
     have HB9 := m_ hb9
     clear hb9 bm9 bx9
     go_wp2_with (go_at_call 52; refine Stop0.out ?_)
     refine ⟨?_⟩
     refine (ofmsg_Same.calls k 6 a0_1 a0_2 a0_3 a0_4 a0_5 a0_6 A0_7 c0_7 l0_7 a0_8 a0_9 A0_10 c0_10 l0_10 6 a0_1 0 0 0 0 0 none 0 [] 0 false none 0 []  r _ (Kd.C_below HR0_7.out HB9.out) HC0_7.out (Kd.C_below HR0_10.out HB9.out) HC0_10.out (Kd.C_nil _ _) (Nat.le_refl _) (Kd.C_nil _ _) (Nat.le_refl _) H2.out).mono ?_
     rintro e w10 ⟨rfl, hb10⟩
     have HB10 := m_ (below_step HB9.out hb10)
     clear hb10
     go_wp2
     go_ret
     exact ⟨rfl, HB10.out⟩
   ·by_cases k4 : a0_0 = 7
    ·subst k4
     have H1 := H.out
     clear H
     unfold ofmsg_Right.f at H1
     rw [if_neg k1, if_neg k2, if_neg k3, if_pos rfl] at H1
     clear k1 k2 k3
     by_cases k5 : 0 ≤ a0_8
     ·have o1 : decide (a0_8 ≥ 0) = true := decide_eq_true k5
      have o2 : decide (0 ≤ a0_8) = true := decide_eq_true k5
      by_cases k6 : a0_8 < 64
      ·rw [if_pos ⟨k5, k6⟩] at H1
       have o3 : decide (a0_8 < 64) = true := decide_eq_true k6
       have BMc := BM
       have BXc := BX
       have HBc := HB
       have cgx8 : w3.cell? ⟨gx, 8, none⟩ = some (.int .i64 0) := (blk_cell BX.out 8).trans rfl
       have zgx8 := blk_frozen BX.out 8
       have cgx9 : w3.cell? ⟨gx, 9, none⟩ = some (.bool false) := (blk_cell BX.out 9).trans rfl
       have zgx9 := blk_frozen BX.out 9
       go_wp2
       go_region_held3 (fun W => W.cell? ⟨gm, 8, none⟩ = some (.int .i64 a0_8) ∧ W.cell? ⟨gm, 9, none⟩ = some (.bool a0_9) ∧ W.cell? ⟨gm, 10, none⟩ = some (.slice A0_10 l0_10.length c0_10)) ((refine cells_port (v0 := .int .u8 7) (v1 := .int .u32 a0_1) (v2 := .int .u32 a0_2) (v3 := .int .u32 a0_3) (v4 := .int .u32 a0_4) (v5 := .int .i64 a0_5) (v6 := .int .u32 a0_6) (v7 := .slice A0_7 l0_7.length c0_7) (t := 32) ?_; (with_reducible repeat (first | refine blk_away ?_ HNE.out _ | refine blk_drewN ?_ _ | refine blk_drew ?_)); with_reducible exact BMc.out)) (fail)
       rename_i hHeld
       clear hHeld cgx8 zgx8 cgx9 zgx9
       generalize hW : World.drew (World.setCell (World.setCell (_) _ _) _ _) = W9
       have bm9 : W9.heap[gm]? = some (.cells #[.int .u8 7, .int .u32 a0_1, .int .u32 a0_2, .int .u32 a0_3, .int .u32 a0_4, .int .i64 a0_5, .int .u32 a0_6, .slice A0_7 l0_7.length c0_7, .int .i64 a0_8, .bool a0_9, .slice A0_10 l0_10.length c0_10] 32 (0, 0)) := by rw [← hW]; (with_reducible repeat (first | refine blk_away ?_ HNE.out _ | refine blk_drewN ?_ _ | refine blk_drew ?_)); with_reducible exact BMc.out
       have bx9 : W9.heap[gx]? = some (.cells #[.int .u8 7, .int .u32 a0_1, .int .u32 0, .int .u32 0, .int .u32 0, .int .i64 0, .int .u32 0, .slice none 0 0, .int .i64 a0_8, .bool a0_9, .slice none 0 0] 32 (0, 0)) := by rw [← hW]; exact blk_drew ((blk_set (blk_set BXc.out 8 _) 9 _).trans rfl)
       have hb9 : Below w.heap.size w W9 := by rw [← hW]; (with_reducible repeat (first | refine below_set ?_ HWX.out | refine pw_below_drewN ?_ _ | refine below_drew1 ?_)); exact HBc.out
       clear hW BMc BXc HBc
       have H2 := m_ H1
       clear H1
       have cgm0 : W9.cell? ⟨gm, 0, none⟩ = some (.int .u8 7) := (blk_cell bm9 0).trans rfl
       have zgm0 := blk_frozen bm9 0
       have cgm1 : W9.cell? ⟨gm, 1, none⟩ = some (.int .u32 a0_1) := (blk_cell bm9 1).trans rfl
       have zgm1 := blk_frozen bm9 1
       have cgm2 : W9.cell? ⟨gm, 2, none⟩ = some (.int .u32 a0_2) := (blk_cell bm9 2).trans rfl
       have zgm2 := blk_frozen bm9 2
       have cgm3 : W9.cell? ⟨gm, 3, none⟩ = some (.int .u32 a0_3) := (blk_cell bm9 3).trans rfl
       have zgm3 := blk_frozen bm9 3
       have cgm4 : W9.cell? ⟨gm, 4, none⟩ = some (.int .u32 a0_4) := (blk_cell bm9 4).trans rfl
       have zgm4 := blk_frozen bm9 4
       have cgm5 : W9.cell? ⟨gm, 5, none⟩ = some (.int .i64 a0_5) := (blk_cell bm9 5).trans rfl
       have zgm5 := blk_frozen bm9 5
       have cgm6 : W9.cell? ⟨gm, 6, none⟩ = some (.int .u32 a0_6) := (blk_cell bm9 6).trans rfl
       have zgm6 := blk_frozen bm9 6
       have cgm7 : W9.cell? ⟨gm, 7, none⟩ = some (.slice A0_7 l0_7.length c0_7) := (blk_cell bm9 7).trans rfl
       have zgm7 := blk_frozen bm9 7
       have cgm8 : W9.cell? ⟨gm, 8, none⟩ = some (.int .i64 a0_8) := (blk_cell bm9 8).trans rfl
       have zgm8 := blk_frozen bm9 8
       have cgm9 : W9.cell? ⟨gm, 9, none⟩ = some (.bool a0_9) := (blk_cell bm9 9).trans rfl
       have zgm9 := blk_frozen bm9 9
       have cgm10 : W9.cell? ⟨gm, 10, none⟩ = some (.slice A0_10 l0_10.length c0_10) := (blk_cell bm9 10).trans rfl
       have zgm10 := blk_frozen bm9 10
       have cgx0 : W9.cell? ⟨gx, 0, none⟩ = some (.int .u8 7) := (blk_cell bx9 0).trans rfl
       have zgx0 := blk_frozen bx9 0
       have cgx1 : W9.cell? ⟨gx, 1, none⟩ = some (.int .u32 a0_1) := (blk_cell bx9 1).trans rfl
       have zgx1 := blk_frozen bx9 1
       have cgx2 : W9.cell? ⟨gx, 2, none⟩ = some (.int .u32 0) := (blk_cell bx9 2).trans rfl
       have zgx2 := blk_frozen bx9 2
       have cgx3 : W9.cell? ⟨gx, 3, none⟩ = some (.int .u32 0) := (blk_cell bx9 3).trans rfl
       have zgx3 := blk_frozen bx9 3
       have cgx4 : W9.cell? ⟨gx, 4, none⟩ = some (.int .u32 0) := (blk_cell bx9 4).trans rfl
       have zgx4 := blk_frozen bx9 4
       have cgx5 : W9.cell? ⟨gx, 5, none⟩ = some (.int .i64 0) := (blk_cell bx9 5).trans rfl
       have zgx5 := blk_frozen bx9 5
       have cgx6 : W9.cell? ⟨gx, 6, none⟩ = some (.int .u32 0) := (blk_cell bx9 6).trans rfl
       have zgx6 := blk_frozen bx9 6
       have cgx7 : W9.cell? ⟨gx, 7, none⟩ = some (.slice none 0 0) := (blk_cell bx9 7).trans rfl
       have zgx7 := blk_frozen bx9 7
       have cgx8 : W9.cell? ⟨gx, 8, none⟩ = some (.int .i64 a0_8) := (blk_cell bx9 8).trans rfl
       have zgx8 := blk_frozen bx9 8
       have cgx9 : W9.cell? ⟨gx, 9, none⟩ = some (.bool a0_9) := (blk_cell bx9 9).trans rfl
       have zgx9 := blk_frozen bx9 9
       have cgx10 : W9.cell? ⟨gx, 10, none⟩ = some (.slice none 0 0) := (blk_cell bx9 10).trans rfl
       have zgx10 := blk_frozen bx9 10
       have HB9 := m_ hb9
       clear hb9 bm9 bx9
       go_wp2_with (go_at_call 52; refine Stop0.out ?_)
       refine ⟨?_⟩
       refine (ofmsg_Same.calls k 7 a0_1 a0_2 a0_3 a0_4 a0_5 a0_6 A0_7 c0_7 l0_7 a0_8 a0_9 A0_10 c0_10 l0_10 7 a0_1 0 0 0 0 0 none 0 [] a0_8 a0_9 none 0 []  r _ (Kd.C_below HR0_7.out HB9.out) HC0_7.out (Kd.C_below HR0_10.out HB9.out) HC0_10.out (Kd.C_nil _ _) (Nat.le_refl _) (Kd.C_nil _ _) (Nat.le_refl _) H2.out).mono ?_
       rintro e w10 ⟨rfl, hb10⟩
       have HB10 := m_ (below_step HB9.out hb10)
       clear hb10
       go_wp2
       go_ret
       exact ⟨rfl, HB10.out⟩
      ·rw [if_neg (fun h => k6 h.2)] at H1
       have o3 : decide (a0_8 < 64) = false := decide_eq_false k6
       have BMc := BM
       have BXc := BX
       have HBc := HB
       have cgx8 : w3.cell? ⟨gx, 8, none⟩ = some (.int .i64 0) := (blk_cell BX.out 8).trans rfl
       have zgx8 := blk_frozen BX.out 8
       have cgx9 : w3.cell? ⟨gx, 9, none⟩ = some (.bool false) := (blk_cell BX.out 9).trans rfl
       have zgx9 := blk_frozen BX.out 9
       go_wp2
       go_region_held3 (fun W => W.cell? ⟨gm, 8, none⟩ = some (.int .i64 a0_8) ∧ W.cell? ⟨gm, 9, none⟩ = some (.bool a0_9) ∧ W.cell? ⟨gm, 10, none⟩ = some (.slice A0_10 l0_10.length c0_10)) ((refine cells_port (v0 := .int .u8 7) (v1 := .int .u32 a0_1) (v2 := .int .u32 a0_2) (v3 := .int .u32 a0_3) (v4 := .int .u32 a0_4) (v5 := .int .i64 a0_5) (v6 := .int .u32 a0_6) (v7 := .slice A0_7 l0_7.length c0_7) (t := 32) ?_; (with_reducible repeat (first | refine blk_away ?_ HNE.out _ | refine blk_drewN ?_ _ | refine blk_drew ?_)); with_reducible exact BMc.out)) (fail)
       rename_i hHeld
       clear hHeld cgx8 zgx8 cgx9 zgx9
       generalize hW : World.drew (World.setCell (World.setCell (_) _ _) _ _) = W9
       have bm9 : W9.heap[gm]? = some (.cells #[.int .u8 7, .int .u32 a0_1, .int .u32 a0_2, .int .u32 a0_3, .int .u32 a0_4, .int .i64 a0_5, .int .u32 a0_6, .slice A0_7 l0_7.length c0_7, .int .i64 a0_8, .bool a0_9, .slice A0_10 l0_10.length c0_10] 32 (0, 0)) := by rw [← hW]; (with_reducible repeat (first | refine blk_away ?_ HNE.out _ | refine blk_drewN ?_ _ | refine blk_drew ?_)); with_reducible exact BMc.out
       have bx9 : W9.heap[gx]? = some (.cells #[.int .u8 7, .int .u32 a0_1, .int .u32 0, .int .u32 0, .int .u32 0, .int .i64 0, .int .u32 0, .slice none 0 0, .int .i64 a0_8, .bool a0_9, .slice none 0 0] 32 (0, 0)) := by rw [← hW]; exact blk_drew ((blk_set (blk_set BXc.out 8 _) 9 _).trans rfl)
       have hb9 : Below w.heap.size w W9 := by rw [← hW]; (with_reducible repeat (first | refine below_set ?_ HWX.out | refine pw_below_drewN ?_ _ | refine below_drew1 ?_)); exact HBc.out
       clear hW BMc BXc HBc
       obtain rfl := Option.some.inj H1
       have HB9 := m_ hb9
       clear hb9 bm9 bx9
       go_wp2
       go_ret
       exact ⟨rfl, HB9.out⟩
     ·rw [if_neg (fun h => k5 h.1)] at H1
      have o1 : decide (a0_8 ≥ 0) = false := decide_eq_false k5
      have o2 : decide (0 ≤ a0_8) = false := decide_eq_false k5
      have BMc := BM
      have BXc := BX
      have HBc := HB
      have cgx8 : w3.cell? ⟨gx, 8, none⟩ = some (.int .i64 0) := (blk_cell BX.out 8).trans rfl
      have zgx8 := blk_frozen BX.out 8
      have cgx9 : w3.cell? ⟨gx, 9, none⟩ = some (.bool false) := (blk_cell BX.out 9).trans rfl
      have zgx9 := blk_frozen BX.out 9
      go_wp2
      refine wp_region_noPanic ?_
      refine wp_region_held_drew (S := (fun W => W.cell? ⟨gm, 8, none⟩ = some (.int .i64 a0_8) ∧ W.cell? ⟨gm, 9, none⟩ = some (.bool a0_9) ∧ W.cell? ⟨gm, 10, none⟩ = some (.slice A0_10 l0_10.length c0_10))) (by kernel_rfl) ?_ (fun hHeld => ?_)
      ·refine cells_port (v0 := .int .u8 7) (v1 := .int .u32 a0_1) (v2 := .int .u32 a0_2) (v3 := .int .u32 a0_3) (v4 := .int .u32 a0_4) (v5 := .int .i64 a0_5) (v6 := .int .u32 a0_6) (v7 := .slice A0_7 l0_7.length c0_7) (t := 32) ?_; (with_reducible repeat (first | refine blk_away ?_ HNE.out _ | refine blk_drewN ?_ _ | refine blk_drew ?_)); with_reducible exact BMc.out
      refine ht1_ 0 ?_
      refine ht1_ 1 ?_
      refine ht1_ 2 ?_
      refine ht1_ 3 ?_
      refine ht1_ 4 ?_
      refine ht1_ 5 ?_
      refine ht1_ 6 ?_
      refine ht1_ 7 ?_
      refine ht1_ 8 ?_
      refine ht1_ 9 ?_
      refine ht1_ 10 ?_
      refine ht1_ 11 ?_
      refine ht1_ 12 ?_
      refine wpAnyH_ready (rs := [13]) (by kernel_rfl) (by simp) (AllReadyH.cons rfl (fun K hK => ?_) AllReadyH.nil)
      go_simp
      refine hK.out _ _ ?_ (fun hHeld => ?_)
      ·(try dsimp only); refine cells_port (v0 := .int .u8 7) (v1 := .int .u32 a0_1) (v2 := .int .u32 a0_2) (v3 := .int .u32 a0_3) (v4 := .int .u32 a0_4) (v5 := .int .i64 a0_5) (v6 := .int .u32 a0_6) (v7 := .slice A0_7 l0_7.length c0_7) (t := 32) ?_; (with_reducible repeat (first | refine blk_away ?_ HNE.out _ | refine blk_drewN ?_ _ | refine blk_drew ?_)); with_reducible exact BMc.out
      clear hK K
      try simp only [Act.put, List.getElem_toArray, List.getElem_cons_zero, List.getElem_cons_succ, List.setIfInBounds_toArray, List.set_cons_zero, List.set_cons_succ]
      refine ht1_ 14 ?_
      refine wpAnyH_ready (rs := [15]) (by kernel_rfl) (by simp) (AllReadyH.cons rfl (fun K hK => ?_) AllReadyH.nil)
      go_simp
      refine hK.out _ _ ?_ (fun hHeld => ?_)
      ·(try dsimp only); refine cells_port (v0 := .int .u8 7) (v1 := .int .u32 a0_1) (v2 := .int .u32 a0_2) (v3 := .int .u32 a0_3) (v4 := .int .u32 a0_4) (v5 := .int .i64 a0_5) (v6 := .int .u32 a0_6) (v7 := .slice A0_7 l0_7.length c0_7) (t := 32) ?_; (with_reducible repeat (first | refine blk_away ?_ HNE.out _ | refine blk_drewN ?_ _ | refine blk_drew ?_)); with_reducible exact BMc.out
      clear hK K
      try simp only [Act.put, List.getElem_toArray, List.getElem_cons_zero, List.getElem_cons_succ, List.setIfInBounds_toArray, List.set_cons_zero, List.set_cons_succ]
      refine ht1_ 16 ?_
      refine wpAnyH_done (by kernel_rfl) ?_ _
      refine NoPanic.normal ?_
      rename_i hHeld
      clear hHeld cgx8 zgx8 cgx9 zgx9
      generalize hW : World.drew (World.setCell (World.setCell (_) _ _) _ _) = W9
      have bm9 : W9.heap[gm]? = some (.cells #[.int .u8 7, .int .u32 a0_1, .int .u32 a0_2, .int .u32 a0_3, .int .u32 a0_4, .int .i64 a0_5, .int .u32 a0_6, .slice A0_7 l0_7.length c0_7, .int .i64 a0_8, .bool a0_9, .slice A0_10 l0_10.length c0_10] 32 (0, 0)) := by rw [← hW]; (with_reducible repeat (first | refine blk_away ?_ HNE.out _ | refine blk_drewN ?_ _ | refine blk_drew ?_)); with_reducible exact BMc.out
      have bx9 : W9.heap[gx]? = some (.cells #[.int .u8 7, .int .u32 a0_1, .int .u32 0, .int .u32 0, .int .u32 0, .int .i64 0, .int .u32 0, .slice none 0 0, .int .i64 a0_8, .bool a0_9, .slice none 0 0] 32 (0, 0)) := by rw [← hW]; exact blk_drew ((blk_set (blk_set BXc.out 8 _) 9 _).trans rfl)
      have hb9 : Below w.heap.size w W9 := by rw [← hW]; (with_reducible repeat (first | refine below_set ?_ HWX.out | refine pw_below_drewN ?_ _ | refine below_drew1 ?_)); exact HBc.out
      clear hW BMc BXc HBc
      obtain rfl := Option.some.inj H1
      have HB9 := m_ hb9
      clear hb9 bm9 bx9
      go_wp2
      go_ret
      exact ⟨rfl, HB9.out⟩
    ·by_cases k5 : 8 ≤ a0_0 ∧ a0_0 ≤ 9
     ·have H1 := H.out
      clear H
      unfold ofmsg_Right.f at H1
      rw [if_neg k1, if_neg k2, if_neg k3, if_neg k4, if_pos k5] at H1
      have k6 : a0_0 = 8 ∨ a0_0 = 9 := by omega
      clear k1 k2 k3 k4 k5
      rcases k6 with k6 | k6
      ·subst k6
       by_cases k5 : 64 ≤ a0_8
       ·have o1 : decide (a0_8 ≥ 64) = true := decide_eq_true k5
        have o2 : decide (64 ≤ a0_8) = true := decide_eq_true k5
        by_cases k6 : a0_8 < 128
        ·have o3 : decide (a0_8 < 128) = true := decide_eq_true k6
         by_cases k7 : (l0_10.length : Int) ≤ 1500
         ·rw [if_pos ⟨⟨k5, k6⟩, k7⟩] at H1
          have o4 : decide ((l0_10.length : Int) ≤ 1500) = true := decide_eq_true k7
          have BMc := BM
          have BXc := BX
          have HBc := HB
          have cgx8 : w3.cell? ⟨gx, 8, none⟩ = some (.int .i64 0) := (blk_cell BX.out 8).trans rfl
          have zgx8 := blk_frozen BX.out 8
          have cgx10 : w3.cell? ⟨gx, 10, none⟩ = some (.slice none 0 0) := (blk_cell BX.out 10).trans rfl
          have zgx10 := blk_frozen BX.out 10
          go_wp2
          go_region_held3 (fun W => W.cell? ⟨gm, 8, none⟩ = some (.int .i64 a0_8) ∧ W.cell? ⟨gm, 9, none⟩ = some (.bool a0_9) ∧ W.cell? ⟨gm, 10, none⟩ = some (.slice A0_10 l0_10.length c0_10)) ((refine cells_port (v0 := .int .u8 8) (v1 := .int .u32 a0_1) (v2 := .int .u32 a0_2) (v3 := .int .u32 a0_3) (v4 := .int .u32 a0_4) (v5 := .int .i64 a0_5) (v6 := .int .u32 a0_6) (v7 := .slice A0_7 l0_7.length c0_7) (t := 32) ?_; (with_reducible repeat (first | refine blk_away ?_ HNE.out _ | refine blk_drewN ?_ _ | refine blk_drew ?_)); with_reducible exact BMc.out)) (fail)
          rename_i hHeld
          clear hHeld cgx8 zgx8 cgx10 zgx10
          generalize hW : World.drew (World.setCell (World.setCell (_) _ _) _ _) = W9
          have bm9 : W9.heap[gm]? = some (.cells #[.int .u8 8, .int .u32 a0_1, .int .u32 a0_2, .int .u32 a0_3, .int .u32 a0_4, .int .i64 a0_5, .int .u32 a0_6, .slice A0_7 l0_7.length c0_7, .int .i64 a0_8, .bool a0_9, .slice A0_10 l0_10.length c0_10] 32 (0, 0)) := by rw [← hW]; (with_reducible repeat (first | refine blk_away ?_ HNE.out _ | refine blk_drewN ?_ _ | refine blk_drew ?_)); with_reducible exact BMc.out
          have bx9 : W9.heap[gx]? = some (.cells #[.int .u8 8, .int .u32 a0_1, .int .u32 0, .int .u32 0, .int .u32 0, .int .i64 0, .int .u32 0, .slice none 0 0, .int .i64 a0_8, .bool false, .slice A0_10 l0_10.length c0_10] 32 (0, 0)) := by rw [← hW]; exact blk_drew ((blk_set (blk_set BXc.out 8 _) 10 _).trans rfl)
          have hb9 : Below w.heap.size w W9 := by rw [← hW]; (with_reducible repeat (first | refine below_set ?_ HWX.out | refine pw_below_drewN ?_ _ | refine below_drew1 ?_)); exact HBc.out
          clear hW BMc BXc HBc
          have H2 := m_ H1
          clear H1
          have cgm0 : W9.cell? ⟨gm, 0, none⟩ = some (.int .u8 8) := (blk_cell bm9 0).trans rfl
          have zgm0 := blk_frozen bm9 0
          have cgm1 : W9.cell? ⟨gm, 1, none⟩ = some (.int .u32 a0_1) := (blk_cell bm9 1).trans rfl
          have zgm1 := blk_frozen bm9 1
          have cgm2 : W9.cell? ⟨gm, 2, none⟩ = some (.int .u32 a0_2) := (blk_cell bm9 2).trans rfl
          have zgm2 := blk_frozen bm9 2
          have cgm3 : W9.cell? ⟨gm, 3, none⟩ = some (.int .u32 a0_3) := (blk_cell bm9 3).trans rfl
          have zgm3 := blk_frozen bm9 3
          have cgm4 : W9.cell? ⟨gm, 4, none⟩ = some (.int .u32 a0_4) := (blk_cell bm9 4).trans rfl
          have zgm4 := blk_frozen bm9 4
          have cgm5 : W9.cell? ⟨gm, 5, none⟩ = some (.int .i64 a0_5) := (blk_cell bm9 5).trans rfl
          have zgm5 := blk_frozen bm9 5
          have cgm6 : W9.cell? ⟨gm, 6, none⟩ = some (.int .u32 a0_6) := (blk_cell bm9 6).trans rfl
          have zgm6 := blk_frozen bm9 6
          have cgm7 : W9.cell? ⟨gm, 7, none⟩ = some (.slice A0_7 l0_7.length c0_7) := (blk_cell bm9 7).trans rfl
          have zgm7 := blk_frozen bm9 7
          have cgm8 : W9.cell? ⟨gm, 8, none⟩ = some (.int .i64 a0_8) := (blk_cell bm9 8).trans rfl
          have zgm8 := blk_frozen bm9 8
          have cgm9 : W9.cell? ⟨gm, 9, none⟩ = some (.bool a0_9) := (blk_cell bm9 9).trans rfl
          have zgm9 := blk_frozen bm9 9
          have cgm10 : W9.cell? ⟨gm, 10, none⟩ = some (.slice A0_10 l0_10.length c0_10) := (blk_cell bm9 10).trans rfl
          have zgm10 := blk_frozen bm9 10
          have cgx0 : W9.cell? ⟨gx, 0, none⟩ = some (.int .u8 8) := (blk_cell bx9 0).trans rfl
          have zgx0 := blk_frozen bx9 0
          have cgx1 : W9.cell? ⟨gx, 1, none⟩ = some (.int .u32 a0_1) := (blk_cell bx9 1).trans rfl
          have zgx1 := blk_frozen bx9 1
          have cgx2 : W9.cell? ⟨gx, 2, none⟩ = some (.int .u32 0) := (blk_cell bx9 2).trans rfl
          have zgx2 := blk_frozen bx9 2
          have cgx3 : W9.cell? ⟨gx, 3, none⟩ = some (.int .u32 0) := (blk_cell bx9 3).trans rfl
          have zgx3 := blk_frozen bx9 3
          have cgx4 : W9.cell? ⟨gx, 4, none⟩ = some (.int .u32 0) := (blk_cell bx9 4).trans rfl
          have zgx4 := blk_frozen bx9 4
          have cgx5 : W9.cell? ⟨gx, 5, none⟩ = some (.int .i64 0) := (blk_cell bx9 5).trans rfl
          have zgx5 := blk_frozen bx9 5
          have cgx6 : W9.cell? ⟨gx, 6, none⟩ = some (.int .u32 0) := (blk_cell bx9 6).trans rfl
          have zgx6 := blk_frozen bx9 6
          have cgx7 : W9.cell? ⟨gx, 7, none⟩ = some (.slice none 0 0) := (blk_cell bx9 7).trans rfl
          have zgx7 := blk_frozen bx9 7
          have cgx8 : W9.cell? ⟨gx, 8, none⟩ = some (.int .i64 a0_8) := (blk_cell bx9 8).trans rfl
          have zgx8 := blk_frozen bx9 8
          have cgx9 : W9.cell? ⟨gx, 9, none⟩ = some (.bool false) := (blk_cell bx9 9).trans rfl
          have zgx9 := blk_frozen bx9 9
          have cgx10 : W9.cell? ⟨gx, 10, none⟩ = some (.slice A0_10 l0_10.length c0_10) := (blk_cell bx9 10).trans rfl
          have zgx10 := blk_frozen bx9 10
          have HB9 := m_ hb9
          clear hb9 bm9 bx9
          go_wp2_with (go_at_call 52; refine Stop0.out ?_)
          refine ⟨?_⟩
          refine (ofmsg_Same.calls k 8 a0_1 a0_2 a0_3 a0_4 a0_5 a0_6 A0_7 c0_7 l0_7 a0_8 a0_9 A0_10 c0_10 l0_10 8 a0_1 0 0 0 0 0 none 0 [] a0_8 false A0_10 c0_10 l0_10  r _ (Kd.C_below HR0_7.out HB9.out) HC0_7.out (Kd.C_below HR0_10.out HB9.out) HC0_10.out (Kd.C_nil _ _) (Nat.le_refl _) (Kd.C_below HR0_10.out HB9.out) HC0_10.out H2.out).mono ?_
          rintro e w10 ⟨rfl, hb10⟩
          have HB10 := m_ (below_step HB9.out hb10)
          clear hb10
          go_wp2
          go_ret
          exact ⟨rfl, HB10.out⟩
         ·rw [if_neg (fun h => k7 h.2)] at H1
          have o4 : decide ((l0_10.length : Int) ≤ 1500) = false := decide_eq_false k7
          have BMc := BM
          have BXc := BX
          have HBc := HB
          have cgx8 : w3.cell? ⟨gx, 8, none⟩ = some (.int .i64 0) := (blk_cell BX.out 8).trans rfl
          have zgx8 := blk_frozen BX.out 8
          have cgx10 : w3.cell? ⟨gx, 10, none⟩ = some (.slice none 0 0) := (blk_cell BX.out 10).trans rfl
          have zgx10 := blk_frozen BX.out 10
          go_wp2
          go_region_held3 (fun W => W.cell? ⟨gm, 8, none⟩ = some (.int .i64 a0_8) ∧ W.cell? ⟨gm, 9, none⟩ = some (.bool a0_9) ∧ W.cell? ⟨gm, 10, none⟩ = some (.slice A0_10 l0_10.length c0_10)) ((refine cells_port (v0 := .int .u8 8) (v1 := .int .u32 a0_1) (v2 := .int .u32 a0_2) (v3 := .int .u32 a0_3) (v4 := .int .u32 a0_4) (v5 := .int .i64 a0_5) (v6 := .int .u32 a0_6) (v7 := .slice A0_7 l0_7.length c0_7) (t := 32) ?_; (with_reducible repeat (first | refine blk_away ?_ HNE.out _ | refine blk_drewN ?_ _ | refine blk_drew ?_)); with_reducible exact BMc.out)) (fail)
          rename_i hHeld
          clear hHeld cgx8 zgx8 cgx10 zgx10
          generalize hW : World.drew (World.setCell (World.setCell (_) _ _) _ _) = W9
          have bm9 : W9.heap[gm]? = some (.cells #[.int .u8 8, .int .u32 a0_1, .int .u32 a0_2, .int .u32 a0_3, .int .u32 a0_4, .int .i64 a0_5, .int .u32 a0_6, .slice A0_7 l0_7.length c0_7, .int .i64 a0_8, .bool a0_9, .slice A0_10 l0_10.length c0_10] 32 (0, 0)) := by rw [← hW]; (with_reducible repeat (first | refine blk_away ?_ HNE.out _ | refine blk_drewN ?_ _ | refine blk_drew ?_)); with_reducible exact BMc.out
          have bx9 : W9.heap[gx]? = some (.cells #[.int .u8 8, .int .u32 a0_1, .int .u32 0, .int .u32 0, .int .u32 0, .int .i64 0, .int .u32 0, .slice none 0 0, .int .i64 a0_8, .bool false, .slice A0_10 l0_10.length c0_10] 32 (0, 0)) := by rw [← hW]; exact blk_drew ((blk_set (blk_set BXc.out 8 _) 10 _).trans rfl)
          have hb9 : Below w.heap.size w W9 := by rw [← hW]; (with_reducible repeat (first | refine below_set ?_ HWX.out | refine pw_below_drewN ?_ _ | refine below_drew1 ?_)); exact HBc.out
          clear hW BMc BXc HBc
          obtain rfl := Option.some.inj H1
          have HB9 := m_ hb9
          clear hb9 bm9 bx9
          go_wp2
          go_ret
          exact ⟨rfl, HB9.out⟩
        ·rw [if_neg (fun h => k6 h.1.2)] at H1
         have o3 : decide (a0_8 < 128) = false := decide_eq_false k6
         have BMc := BM
         have BXc := BX
         have HBc := HB
         have cgx8 : w3.cell? ⟨gx, 8, none⟩ = some (.int .i64 0) := (blk_cell BX.out 8).trans rfl
         have zgx8 := blk_frozen BX.out 8
         have cgx10 : w3.cell? ⟨gx, 10, none⟩ = some (.slice none 0 0) := (blk_cell BX.out 10).trans rfl
         have zgx10 := blk_frozen BX.out 10
         go_wp2
         refine wp_region_noPanic ?_
         refine wp_region_held_drew (S := (fun W => W.cell? ⟨gm, 8, none⟩ = some (.int .i64 a0_8) ∧ W.cell? ⟨gm, 9, none⟩ = some (.bool a0_9) ∧ W.cell? ⟨gm, 10, none⟩ = some (.slice A0_10 l0_10.length c0_10))) (by kernel_rfl) ?_ (fun hHeld => ?_)
         ·refine cells_port (v0 := .int .u8 8) (v1 := .int .u32 a0_1) (v2 := .int .u32 a0_2) (v3 := .int .u32 a0_3) (v4 := .int .u32 a0_4) (v5 := .int .i64 a0_5) (v6 := .int .u32 a0_6) (v7 := .slice A0_7 l0_7.length c0_7) (t := 32) ?_; (with_reducible repeat (first | refine blk_away ?_ HNE.out _ | refine blk_drewN ?_ _ | refine blk_drew ?_)); with_reducible exact BMc.out
         refine ht1_ 0 ?_
         refine ht1_ 1 ?_
         refine ht1_ 2 ?_
         refine ht1_ 3 ?_
         refine ht1_ 4 ?_
         refine ht1_ 5 ?_
         refine ht1_ 6 ?_
         refine ht1_ 7 ?_
         refine ht1_ 8 ?_
         refine ht1_ 9 ?_
         refine ht1_ 10 ?_
         refine ht1_ 11 ?_
         refine ht1_ 12 ?_
         refine ht1_ 13 ?_
         refine ht1_ 14 ?_
         refine ht1_ 15 ?_
         refine ht1_ 16 ?_
         refine ht1_ 17 ?_
         refine ht1_ 18 ?_
         refine wpAnyH_ready (rs := [19]) (by kernel_rfl) (by simp) (AllReadyH.cons rfl (fun K hK => ?_) AllReadyH.nil)
         go_simp
         refine hK.out _ _ ?_ (fun hHeld => ?_)
         ·(try dsimp only); refine cells_port (v0 := .int .u8 8) (v1 := .int .u32 a0_1) (v2 := .int .u32 a0_2) (v3 := .int .u32 a0_3) (v4 := .int .u32 a0_4) (v5 := .int .i64 a0_5) (v6 := .int .u32 a0_6) (v7 := .slice A0_7 l0_7.length c0_7) (t := 32) ?_; (with_reducible repeat (first | refine blk_away ?_ HNE.out _ | refine blk_drewN ?_ _ | refine blk_drew ?_)); with_reducible exact BMc.out
         clear hK K
         try simp only [Act.put, List.getElem_toArray, List.getElem_cons_zero, List.getElem_cons_succ, List.setIfInBounds_toArray, List.set_cons_zero, List.set_cons_succ]
         refine ht1_ 20 ?_
         refine wpAnyH_ready (rs := [21]) (by kernel_rfl) (by simp) (AllReadyH.cons rfl (fun K hK => ?_) AllReadyH.nil)
         go_simp
         refine hK.out _ _ ?_ (fun hHeld => ?_)
         ·(try dsimp only); refine cells_port (v0 := .int .u8 8) (v1 := .int .u32 a0_1) (v2 := .int .u32 a0_2) (v3 := .int .u32 a0_3) (v4 := .int .u32 a0_4) (v5 := .int .i64 a0_5) (v6 := .int .u32 a0_6) (v7 := .slice A0_7 l0_7.length c0_7) (t := 32) ?_; (with_reducible repeat (first | refine blk_away ?_ HNE.out _ | refine blk_drewN ?_ _ | refine blk_drew ?_)); with_reducible exact BMc.out
         clear hK K
         try simp only [Act.put, List.getElem_toArray, List.getElem_cons_zero, List.getElem_cons_succ, List.setIfInBounds_toArray, List.set_cons_zero, List.set_cons_succ]
         refine ht1_ 22 ?_
         refine wpAnyH_done (by kernel_rfl) ?_ _
         refine NoPanic.normal ?_
         rename_i hHeld
         clear hHeld cgx8 zgx8 cgx10 zgx10
         generalize hW : World.drew (World.setCell (World.setCell (_) _ _) _ _) = W9
         have bm9 : W9.heap[gm]? = some (.cells #[.int .u8 8, .int .u32 a0_1, .int .u32 a0_2, .int .u32 a0_3, .int .u32 a0_4, .int .i64 a0_5, .int .u32 a0_6, .slice A0_7 l0_7.length c0_7, .int .i64 a0_8, .bool a0_9, .slice A0_10 l0_10.length c0_10] 32 (0, 0)) := by rw [← hW]; (with_reducible repeat (first | refine blk_away ?_ HNE.out _ | refine blk_drewN ?_ _ | refine blk_drew ?_)); with_reducible exact BMc.out
         have bx9 : W9.heap[gx]? = some (.cells #[.int .u8 8, .int .u32 a0_1, .int .u32 0, .int .u32 0, .int .u32 0, .int .i64 0, .int .u32 0, .slice none 0 0, .int .i64 a0_8, .bool false, .slice A0_10 l0_10.length c0_10] 32 (0, 0)) := by rw [← hW]; exact blk_drew ((blk_set (blk_set BXc.out 8 _) 10 _).trans rfl)
         have hb9 : Below w.heap.size w W9 := by rw [← hW]; (with_reducible repeat (first | refine below_set ?_ HWX.out | refine pw_below_drewN ?_ _ | refine below_drew1 ?_)); exact HBc.out
         clear hW BMc BXc HBc
         obtain rfl := Option.some.inj H1
         have HB9 := m_ hb9
         clear hb9 bm9 bx9
         go_wp2
         go_ret
         exact ⟨rfl, HB9.out⟩
       ·rw [if_neg (fun h => k5 h.1.1)] at H1
        have o1 : decide (a0_8 ≥ 64) = false := decide_eq_false k5
        have o2 : decide (64 ≤ a0_8) = false := decide_eq_false k5
        have BMc := BM
        have BXc := BX
        have HBc := HB
        have cgx8 : w3.cell? ⟨gx, 8, none⟩ = some (.int .i64 0) := (blk_cell BX.out 8).trans rfl
        have zgx8 := blk_frozen BX.out 8
        have cgx10 : w3.cell? ⟨gx, 10, none⟩ = some (.slice none 0 0) := (blk_cell BX.out 10).trans rfl
        have zgx10 := blk_frozen BX.out 10
        go_wp2
        refine wp_region_noPanic ?_
        refine wp_region_held_drew (S := (fun W => W.cell? ⟨gm, 8, none⟩ = some (.int .i64 a0_8) ∧ W.cell? ⟨gm, 9, none⟩ = some (.bool a0_9) ∧ W.cell? ⟨gm, 10, none⟩ = some (.slice A0_10 l0_10.length c0_10))) (by kernel_rfl) ?_ (fun hHeld => ?_)
        ·refine cells_port (v0 := .int .u8 8) (v1 := .int .u32 a0_1) (v2 := .int .u32 a0_2) (v3 := .int .u32 a0_3) (v4 := .int .u32 a0_4) (v5 := .int .i64 a0_5) (v6 := .int .u32 a0_6) (v7 := .slice A0_7 l0_7.length c0_7) (t := 32) ?_; (with_reducible repeat (first | refine blk_away ?_ HNE.out _ | refine blk_drewN ?_ _ | refine blk_drew ?_)); with_reducible exact BMc.out
        refine ht1_ 0 ?_
        refine ht1_ 1 ?_
        refine ht1_ 2 ?_
        refine ht1_ 3 ?_
        refine ht1_ 4 ?_
        refine ht1_ 5 ?_
        refine ht1_ 6 ?_
        refine ht1_ 7 ?_
        refine ht1_ 8 ?_
        refine ht1_ 9 ?_
        refine ht1_ 10 ?_
        refine ht1_ 11 ?_
        refine ht1_ 12 ?_
        refine ht1_ 13 ?_
        refine ht1_ 14 ?_
        refine ht1_ 15 ?_
        refine ht1_ 16 ?_
        refine ht1_ 17 ?_
        refine ht1_ 18 ?_
        refine wpAnyH_ready (rs := [19]) (by kernel_rfl) (by simp) (AllReadyH.cons rfl (fun K hK => ?_) AllReadyH.nil)
        go_simp
        refine hK.out _ _ ?_ (fun hHeld => ?_)
        ·(try dsimp only); refine cells_port (v0 := .int .u8 8) (v1 := .int .u32 a0_1) (v2 := .int .u32 a0_2) (v3 := .int .u32 a0_3) (v4 := .int .u32 a0_4) (v5 := .int .i64 a0_5) (v6 := .int .u32 a0_6) (v7 := .slice A0_7 l0_7.length c0_7) (t := 32) ?_; (with_reducible repeat (first | refine blk_away ?_ HNE.out _ | refine blk_drewN ?_ _ | refine blk_drew ?_)); with_reducible exact BMc.out
        clear hK K
        try simp only [Act.put, List.getElem_toArray, List.getElem_cons_zero, List.getElem_cons_succ, List.setIfInBounds_toArray, List.set_cons_zero, List.set_cons_succ]
        refine ht1_ 20 ?_
        refine wpAnyH_ready (rs := [21]) (by kernel_rfl) (by simp) (AllReadyH.cons rfl (fun K hK => ?_) AllReadyH.nil)
        go_simp
        refine hK.out _ _ ?_ (fun hHeld => ?_)
        ·(try dsimp only); refine cells_port (v0 := .int .u8 8) (v1 := .int .u32 a0_1) (v2 := .int .u32 a0_2) (v3 := .int .u32 a0_3) (v4 := .int .u32 a0_4) (v5 := .int .i64 a0_5) (v6 := .int .u32 a0_6) (v7 := .slice A0_7 l0_7.length c0_7) (t := 32) ?_; (with_reducible repeat (first | refine blk_away ?_ HNE.out _ | refine blk_drewN ?_ _ | refine blk_drew ?_)); with_reducible exact BMc.out
        clear hK K
        try simp only [Act.put, List.getElem_toArray, List.getElem_cons_zero, List.getElem_cons_succ, List.setIfInBounds_toArray, List.set_cons_zero, List.set_cons_succ]
        refine ht1_ 22 ?_
        refine wpAnyH_done (by kernel_rfl) ?_ _
        refine NoPanic.normal ?_
        rename_i hHeld
        clear hHeld cgx8 zgx8 cgx10 zgx10
        generalize hW : World.drew (World.setCell (World.setCell (_) _ _) _ _) = W9
        have bm9 : W9.heap[gm]? = some (.cells #[.int .u8 8, .int .u32 a0_1, .int .u32 a0_2, .int .u32 a0_3, .int .u32 a0_4, .int .i64 a0_5, .int .u32 a0_6, .slice A0_7 l0_7.length c0_7, .int .i64 a0_8, .bool a0_9, .slice A0_10 l0_10.length c0_10] 32 (0, 0)) := by rw [← hW]; (with_reducible repeat (first | refine blk_away ?_ HNE.out _ | refine blk_drewN ?_ _ | refine blk_drew ?_)); with_reducible exact BMc.out
        have bx9 : W9.heap[gx]? = some (.cells #[.int .u8 8, .int .u32 a0_1, .int .u32 0, .int .u32 0, .int .u32 0, .int .i64 0, .int .u32 0, .slice none 0 0, .int .i64 a0_8, .bool false, .slice A0_10 l0_10.length c0_10] 32 (0, 0)) := by rw [← hW]; exact blk_drew ((blk_set (blk_set BXc.out 8 _) 10 _).trans rfl)
        have hb9 : Below w.heap.size w W9 := by rw [← hW]; (with_reducible repeat (first | refine below_set ?_ HWX.out | refine pw_below_drewN ?_ _ | refine below_drew1 ?_)); exact HBc.out
        clear hW BMc BXc HBc
        obtain rfl := Option.some.inj H1
        have HB9 := m_ hb9
        clear hb9 bm9 bx9
        go_wp2
        go_ret
        exact ⟨rfl, HB9.out⟩
      ·subst k6
       by_cases k5 : 64 ≤ a0_8
       ·have o1 : decide (a0_8 ≥ 64) = true := decide_eq_true k5
        have o2 : decide (64 ≤ a0_8) = true := decide_eq_true k5
        by_cases k6 : a0_8 < 128
        ·have o3 : decide (a0_8 < 128) = true := decide_eq_true k6
         by_cases k7 : (l0_10.length : Int) ≤ 1500
         ·rw [if_pos ⟨⟨k5, k6⟩, k7⟩] at H1
          have o4 : decide ((l0_10.length : Int) ≤ 1500) = true := decide_eq_true k7
          have BMc := BM
          have BXc := BX
          have HBc := HB
          have cgx8 : w3.cell? ⟨gx, 8, none⟩ = some (.int .i64 0) := (blk_cell BX.out 8).trans rfl
          have zgx8 := blk_frozen BX.out 8
          have cgx10 : w3.cell? ⟨gx, 10, none⟩ = some (.slice none 0 0) := (blk_cell BX.out 10).trans rfl
          have zgx10 := blk_frozen BX.out 10
          go_wp2
          go_region_held3 (fun W => W.cell? ⟨gm, 8, none⟩ = some (.int .i64 a0_8) ∧ W.cell? ⟨gm, 9, none⟩ = some (.bool a0_9) ∧ W.cell? ⟨gm, 10, none⟩ = some (.slice A0_10 l0_10.length c0_10)) ((refine cells_port (v0 := .int .u8 9) (v1 := .int .u32 a0_1) (v2 := .int .u32 a0_2) (v3 := .int .u32 a0_3) (v4 := .int .u32 a0_4) (v5 := .int .i64 a0_5) (v6 := .int .u32 a0_6) (v7 := .slice A0_7 l0_7.length c0_7) (t := 32) ?_; (with_reducible repeat (first | refine blk_away ?_ HNE.out _ | refine blk_drewN ?_ _ | refine blk_drew ?_)); with_reducible exact BMc.out)) (fail)
          rename_i hHeld
          clear hHeld cgx8 zgx8 cgx10 zgx10
          generalize hW : World.drew (World.setCell (World.setCell (_) _ _) _ _) = W9
          have bm9 : W9.heap[gm]? = some (.cells #[.int .u8 9, .int .u32 a0_1, .int .u32 a0_2, .int .u32 a0_3, .int .u32 a0_4, .int .i64 a0_5, .int .u32 a0_6, .slice A0_7 l0_7.length c0_7, .int .i64 a0_8, .bool a0_9, .slice A0_10 l0_10.length c0_10] 32 (0, 0)) := by rw [← hW]; (with_reducible repeat (first | refine blk_away ?_ HNE.out _ | refine blk_drewN ?_ _ | refine blk_drew ?_)); with_reducible exact BMc.out
          have bx9 : W9.heap[gx]? = some (.cells #[.int .u8 9, .int .u32 a0_1, .int .u32 0, .int .u32 0, .int .u32 0, .int .i64 0, .int .u32 0, .slice none 0 0, .int .i64 a0_8, .bool false, .slice A0_10 l0_10.length c0_10] 32 (0, 0)) := by rw [← hW]; exact blk_drew ((blk_set (blk_set BXc.out 8 _) 10 _).trans rfl)
          have hb9 : Below w.heap.size w W9 := by rw [← hW]; (with_reducible repeat (first | refine below_set ?_ HWX.out | refine pw_below_drewN ?_ _ | refine below_drew1 ?_)); exact HBc.out
          clear hW BMc BXc HBc
          have H2 := m_ H1
          clear H1
          have cgm0 : W9.cell? ⟨gm, 0, none⟩ = some (.int .u8 9) := (blk_cell bm9 0).trans rfl
          have zgm0 := blk_frozen bm9 0
          have cgm1 : W9.cell? ⟨gm, 1, none⟩ = some (.int .u32 a0_1) := (blk_cell bm9 1).trans rfl
          have zgm1 := blk_frozen bm9 1
          have cgm2 : W9.cell? ⟨gm, 2, none⟩ = some (.int .u32 a0_2) := (blk_cell bm9 2).trans rfl
          have zgm2 := blk_frozen bm9 2
          have cgm3 : W9.cell? ⟨gm, 3, none⟩ = some (.int .u32 a0_3) := (blk_cell bm9 3).trans rfl
          have zgm3 := blk_frozen bm9 3
          have cgm4 : W9.cell? ⟨gm, 4, none⟩ = some (.int .u32 a0_4) := (blk_cell bm9 4).trans rfl
          have zgm4 := blk_frozen bm9 4
          have cgm5 : W9.cell? ⟨gm, 5, none⟩ = some (.int .i64 a0_5) := (blk_cell bm9 5).trans rfl
          have zgm5 := blk_frozen bm9 5
          have cgm6 : W9.cell? ⟨gm, 6, none⟩ = some (.int .u32 a0_6) := (blk_cell bm9 6).trans rfl
          have zgm6 := blk_frozen bm9 6
          have cgm7 : W9.cell? ⟨gm, 7, none⟩ = some (.slice A0_7 l0_7.length c0_7) := (blk_cell bm9 7).trans rfl
          have zgm7 := blk_frozen bm9 7
          have cgm8 : W9.cell? ⟨gm, 8, none⟩ = some (.int .i64 a0_8) := (blk_cell bm9 8).trans rfl
          have zgm8 := blk_frozen bm9 8
          have cgm9 : W9.cell? ⟨gm, 9, none⟩ = some (.bool a0_9) := (blk_cell bm9 9).trans rfl
          have zgm9 := blk_frozen bm9 9
          have cgm10 : W9.cell? ⟨gm, 10, none⟩ = some (.slice A0_10 l0_10.length c0_10) := (blk_cell bm9 10).trans rfl
          have zgm10 := blk_frozen bm9 10
          have cgx0 : W9.cell? ⟨gx, 0, none⟩ = some (.int .u8 9) := (blk_cell bx9 0).trans rfl
          have zgx0 := blk_frozen bx9 0
          have cgx1 : W9.cell? ⟨gx, 1, none⟩ = some (.int .u32 a0_1) := (blk_cell bx9 1).trans rfl
          have zgx1 := blk_frozen bx9 1
          have cgx2 : W9.cell? ⟨gx, 2, none⟩ = some (.int .u32 0) := (blk_cell bx9 2).trans rfl
          have zgx2 := blk_frozen bx9 2
          have cgx3 : W9.cell? ⟨gx, 3, none⟩ = some (.int .u32 0) := (blk_cell bx9 3).trans rfl
          have zgx3 := blk_frozen bx9 3
          have cgx4 : W9.cell? ⟨gx, 4, none⟩ = some (.int .u32 0) := (blk_cell bx9 4).trans rfl
          have zgx4 := blk_frozen bx9 4
          have cgx5 : W9.cell? ⟨gx, 5, none⟩ = some (.int .i64 0) := (blk_cell bx9 5).trans rfl
          have zgx5 := blk_frozen bx9 5
          have cgx6 : W9.cell? ⟨gx, 6, none⟩ = some (.int .u32 0) := (blk_cell bx9 6).trans rfl
          have zgx6 := blk_frozen bx9 6
          have cgx7 : W9.cell? ⟨gx, 7, none⟩ = some (.slice none 0 0) := (blk_cell bx9 7).trans rfl
          have zgx7 := blk_frozen bx9 7
          have cgx8 : W9.cell? ⟨gx, 8, none⟩ = some (.int .i64 a0_8) := (blk_cell bx9 8).trans rfl
          have zgx8 := blk_frozen bx9 8
          have cgx9 : W9.cell? ⟨gx, 9, none⟩ = some (.bool false) := (blk_cell bx9 9).trans rfl
          have zgx9 := blk_frozen bx9 9
          have cgx10 : W9.cell? ⟨gx, 10, none⟩ = some (.slice A0_10 l0_10.length c0_10) := (blk_cell bx9 10).trans rfl
          have zgx10 := blk_frozen bx9 10
          have HB9 := m_ hb9
          clear hb9 bm9 bx9
          go_wp2_with (go_at_call 52; refine Stop0.out ?_)
          refine ⟨?_⟩
          refine (ofmsg_Same.calls k 9 a0_1 a0_2 a0_3 a0_4 a0_5 a0_6 A0_7 c0_7 l0_7 a0_8 a0_9 A0_10 c0_10 l0_10 9 a0_1 0 0 0 0 0 none 0 [] a0_8 false A0_10 c0_10 l0_10  r _ (Kd.C_below HR0_7.out HB9.out) HC0_7.out (Kd.C_below HR0_10.out HB9.out) HC0_10.out (Kd.C_nil _ _) (Nat.le_refl _) (Kd.C_below HR0_10.out HB9.out) HC0_10.out H2.out).mono ?_
          rintro e w10 ⟨rfl, hb10⟩
          have HB10 := m_ (below_step HB9.out hb10)
          clear hb10
          go_wp2
          go_ret
          exact ⟨rfl, HB10.out⟩
         ·rw [if_neg (fun h => k7 h.2)] at H1
          have o4 : decide ((l0_10.length : Int) ≤ 1500) = false := decide_eq_false k7
          have BMc := BM
          have BXc := BX
          have HBc := HB
          have cgx8 : w3.cell? ⟨gx, 8, none⟩ = some (.int .i64 0) := (blk_cell BX.out 8).trans rfl
          have zgx8 := blk_frozen BX.out 8
          have cgx10 : w3.cell? ⟨gx, 10, none⟩ = some (.slice none 0 0) := (blk_cell BX.out 10).trans rfl
          have zgx10 := blk_frozen BX.out 10
          go_wp2
          go_region_held3 (fun W => W.cell? ⟨gm, 8, none⟩ = some (.int .i64 a0_8) ∧ W.cell? ⟨gm, 9, none⟩ = some (.bool a0_9) ∧ W.cell? ⟨gm, 10, none⟩ = some (.slice A0_10 l0_10.length c0_10)) ((refine cells_port (v0 := .int .u8 9) (v1 := .int .u32 a0_1) (v2 := .int .u32 a0_2) (v3 := .int .u32 a0_3) (v4 := .int .u32 a0_4) (v5 := .int .i64 a0_5) (v6 := .int .u32 a0_6) (v7 := .slice A0_7 l0_7.length c0_7) (t := 32) ?_; (with_reducible repeat (first | refine blk_away ?_ HNE.out _ | refine blk_drewN ?_ _ | refine blk_drew ?_)); with_reducible exact BMc.out)) (fail)
          rename_i hHeld
          clear hHeld cgx8 zgx8 cgx10 zgx10
          generalize hW : World.drew (World.setCell (World.setCell (_) _ _) _ _) = W9
          have bm9 : W9.heap[gm]? = some (.cells #[.int .u8 9, .int .u32 a0_1, .int .u32 a0_2, .int .u32 a0_3, .int .u32 a0_4, .int .i64 a0_5, .int .u32 a0_6, .slice A0_7 l0_7.length c0_7, .int .i64 a0_8, .bool a0_9, .slice A0_10 l0_10.length c0_10] 32 (0, 0)) := by rw [← hW]; (with_reducible repeat (first | refine blk_away ?_ HNE.out _ | refine blk_drewN ?_ _ | refine blk_drew ?_)); with_reducible exact BMc.out
          have bx9 : W9.heap[gx]? = some (.cells #[.int .u8 9, .int .u32 a0_1, .int .u32 0, .int .u32 0, .int .u32 0, .int .i64 0, .int .u32 0, .slice none 0 0, .int .i64 a0_8, .bool false, .slice A0_10 l0_10.length c0_10] 32 (0, 0)) := by rw [← hW]; exact blk_drew ((blk_set (blk_set BXc.out 8 _) 10 _).trans rfl)
          have hb9 : Below w.heap.size w W9 := by rw [← hW]; (with_reducible repeat (first | refine below_set ?_ HWX.out | refine pw_below_drewN ?_ _ | refine below_drew1 ?_)); exact HBc.out
          clear hW BMc BXc HBc
          obtain rfl := Option.some.inj H1
          have HB9 := m_ hb9
          clear hb9 bm9 bx9
          go_wp2
          go_ret
          exact ⟨rfl, HB9.out⟩
        ·rw [if_neg (fun h => k6 h.1.2)] at H1
         have o3 : decide (a0_8 < 128) = false := decide_eq_false k6
         have BMc := BM
         have BXc := BX
         have HBc := HB
         have cgx8 : w3.cell? ⟨gx, 8, none⟩ = some (.int .i64 0) := (blk_cell BX.out 8).trans rfl
         have zgx8 := blk_frozen BX.out 8
         have cgx10 : w3.cell? ⟨gx, 10, none⟩ = some (.slice none 0 0) := (blk_cell BX.out 10).trans rfl
         have zgx10 := blk_frozen BX.out 10
         go_wp2
         refine wp_region_noPanic ?_
         refine wp_region_held_drew (S := (fun W => W.cell? ⟨gm, 8, none⟩ = some (.int .i64 a0_8) ∧ W.cell? ⟨gm, 9, none⟩ = some (.bool a0_9) ∧ W.cell? ⟨gm, 10, none⟩ = some (.slice A0_10 l0_10.length c0_10))) (by kernel_rfl) ?_ (fun hHeld => ?_)
         ·refine cells_port (v0 := .int .u8 9) (v1 := .int .u32 a0_1) (v2 := .int .u32 a0_2) (v3 := .int .u32 a0_3) (v4 := .int .u32 a0_4) (v5 := .int .i64 a0_5) (v6 := .int .u32 a0_6) (v7 := .slice A0_7 l0_7.length c0_7) (t := 32) ?_; (with_reducible repeat (first | refine blk_away ?_ HNE.out _ | refine blk_drewN ?_ _ | refine blk_drew ?_)); with_reducible exact BMc.out
         refine ht1_ 0 ?_
         refine ht1_ 1 ?_
         refine ht1_ 2 ?_
         refine ht1_ 3 ?_
         refine ht1_ 4 ?_
         refine ht1_ 5 ?_
         refine ht1_ 6 ?_
         refine ht1_ 7 ?_
         refine ht1_ 8 ?_
         refine ht1_ 9 ?_
         refine ht1_ 10 ?_
         refine ht1_ 11 ?_
         refine ht1_ 12 ?_
         refine ht1_ 13 ?_
         refine ht1_ 14 ?_
         refine ht1_ 15 ?_
         refine ht1_ 16 ?_
         refine ht1_ 17 ?_
         refine ht1_ 18 ?_
         refine wpAnyH_ready (rs := [19]) (by kernel_rfl) (by simp) (AllReadyH.cons rfl (fun K hK => ?_) AllReadyH.nil)
         go_simp
         refine hK.out _ _ ?_ (fun hHeld => ?_)
         ·(try dsimp only); refine cells_port (v0 := .int .u8 9) (v1 := .int .u32 a0_1) (v2 := .int .u32 a0_2) (v3 := .int .u32 a0_3) (v4 := .int .u32 a0_4) (v5 := .int .i64 a0_5) (v6 := .int .u32 a0_6) (v7 := .slice A0_7 l0_7.length c0_7) (t := 32) ?_; (with_reducible repeat (first | refine blk_away ?_ HNE.out _ | refine blk_drewN ?_ _ | refine blk_drew ?_)); with_reducible exact BMc.out
         clear hK K
         try simp only [Act.put, List.getElem_toArray, List.getElem_cons_zero, List.getElem_cons_succ, List.setIfInBounds_toArray, List.set_cons_zero, List.set_cons_succ]
         refine ht1_ 20 ?_
         refine wpAnyH_ready (rs := [21]) (by kernel_rfl) (by simp) (AllReadyH.cons rfl (fun K hK => ?_) AllReadyH.nil)
         go_simp
         refine hK.out _ _ ?_ (fun hHeld => ?_)
         ·(try dsimp only); refine cells_port (v0 := .int .u8 9) (v1 := .int .u32 a0_1) (v2 := .int .u32 a0_2) (v3 := .int .u32 a0_3) (v4 := .int .u32 a0_4) (v5 := .int .i64 a0_5) (v6 := .int .u32 a0_6) (v7 := .slice A0_7 l0_7.length c0_7) (t := 32) ?_; (with_reducible repeat (first | refine blk_away ?_ HNE.out _ | refine blk_drewN ?_ _ | refine blk_drew ?_)); with_reducible exact BMc.out
         clear hK K
         try simp only [Act.put, List.getElem_toArray, List.getElem_cons_zero, List.getElem_cons_succ, List.setIfInBounds_toArray, List.set_cons_zero, List.set_cons_succ]
         refine ht1_ 22 ?_
         refine wpAnyH_done (by kernel_rfl) ?_ _
         refine NoPanic.normal ?_
         rename_i hHeld
         clear hHeld cgx8 zgx8 cgx10 zgx10
         generalize hW : World.drew (World.setCell (World.setCell (_) _ _) _ _) = W9
         have bm9 : W9.heap[gm]? = some (.cells #[.int .u8 9, .int .u32 a0_1, .int .u32 a0_2, .int .u32 a0_3, .int .u32 a0_4, .int .i64 a0_5, .int .u32 a0_6, .slice A0_7 l0_7.length c0_7, .int .i64 a0_8, .bool a0_9, .slice A0_10 l0_10.length c0_10] 32 (0, 0)) := by rw [← hW]; (with_reducible repeat (first | refine blk_away ?_ HNE.out _ | refine blk_drewN ?_ _ | refine blk_drew ?_)); with_reducible exact BMc.out
         have bx9 : W9.heap[gx]? = some (.cells #[.int .u8 9, .int .u32 a0_1, .int .u32 0, .int .u32 0, .int .u32 0, .int .i64 0, .int .u32 0, .slice none 0 0, .int .i64 a0_8, .bool false, .slice A0_10 l0_10.length c0_10] 32 (0, 0)) := by rw [← hW]; exact blk_drew ((blk_set (blk_set BXc.out 8 _) 10 _).trans rfl)
         have hb9 : Below w.heap.size w W9 := by rw [← hW]; (with_reducible repeat (first | refine below_set ?_ HWX.out | refine pw_below_drewN ?_ _ | refine below_drew1 ?_)); exact HBc.out
         clear hW BMc BXc HBc
         obtain rfl := Option.some.inj H1
         have HB9 := m_ hb9
         clear hb9 bm9 bx9
         go_wp2
         go_ret
         exact ⟨rfl, HB9.out⟩
       ·rw [if_neg (fun h => k5 h.1.1)] at H1
        have o1 : decide (a0_8 ≥ 64) = false := decide_eq_false k5
        have o2 : decide (64 ≤ a0_8) = false := decide_eq_false k5
        have BMc := BM
        have BXc := BX
        have HBc := HB
        have cgx8 : w3.cell? ⟨gx, 8, none⟩ = some (.int .i64 0) := (blk_cell BX.out 8).trans rfl
        have zgx8 := blk_frozen BX.out 8
        have cgx10 : w3.cell? ⟨gx, 10, none⟩ = some (.slice none 0 0) := (blk_cell BX.out 10).trans rfl
        have zgx10 := blk_frozen BX.out 10
        go_wp2
        refine wp_region_noPanic ?_
        refine wp_region_held_drew (S := (fun W => W.cell? ⟨gm, 8, none⟩ = some (.int .i64 a0_8) ∧ W.cell? ⟨gm, 9, none⟩ = some (.bool a0_9) ∧ W.cell? ⟨gm, 10, none⟩ = some (.slice A0_10 l0_10.length c0_10))) (by kernel_rfl) ?_ (fun hHeld => ?_)
        ·refine cells_port (v0 := .int .u8 9) (v1 := .int .u32 a0_1) (v2 := .int .u32 a0_2) (v3 := .int .u32 a0_3) (v4 := .int .u32 a0_4) (v5 := .int .i64 a0_5) (v6 := .int .u32 a0_6) (v7 := .slice A0_7 l0_7.length c0_7) (t := 32) ?_; (with_reducible repeat (first | refine blk_away ?_ HNE.out _ | refine blk_drewN ?_ _ | refine blk_drew ?_)); with_reducible exact BMc.out
        refine ht1_ 0 ?_
        refine ht1_ 1 ?_
        refine ht1_ 2 ?_
        refine ht1_ 3 ?_
        refine ht1_ 4 ?_
        refine ht1_ 5 ?_
        refine ht1_ 6 ?_
        refine ht1_ 7 ?_
        refine ht1_ 8 ?_
        refine ht1_ 9 ?_
        refine ht1_ 10 ?_
        refine ht1_ 11 ?_
        refine ht1_ 12 ?_
        refine ht1_ 13 ?_
        refine ht1_ 14 ?_
        refine ht1_ 15 ?_
        refine ht1_ 16 ?_
        refine ht1_ 17 ?_
        refine ht1_ 18 ?_
        refine wpAnyH_ready (rs := [19]) (by kernel_rfl) (by simp) (AllReadyH.cons rfl (fun K hK => ?_) AllReadyH.nil)
        go_simp
        refine hK.out _ _ ?_ (fun hHeld => ?_)
        ·(try dsimp only); refine cells_port (v0 := .int .u8 9) (v1 := .int .u32 a0_1) (v2 := .int .u32 a0_2) (v3 := .int .u32 a0_3) (v4 := .int .u32 a0_4) (v5 := .int .i64 a0_5) (v6 := .int .u32 a0_6) (v7 := .slice A0_7 l0_7.length c0_7) (t := 32) ?_; (with_reducible repeat (first | refine blk_away ?_ HNE.out _ | refine blk_drewN ?_ _ | refine blk_drew ?_)); with_reducible exact BMc.out
        clear hK K
        try simp only [Act.put, List.getElem_toArray, List.getElem_cons_zero, List.getElem_cons_succ, List.setIfInBounds_toArray, List.set_cons_zero, List.set_cons_succ]
        refine ht1_ 20 ?_
        refine wpAnyH_ready (rs := [21]) (by kernel_rfl) (by simp) (AllReadyH.cons rfl (fun K hK => ?_) AllReadyH.nil)
        go_simp
        refine hK.out _ _ ?_ (fun hHeld => ?_)
        ·(try dsimp only); refine cells_port (v0 := .int .u8 9) (v1 := .int .u32 a0_1) (v2 := .int .u32 a0_2) (v3 := .int .u32 a0_3) (v4 := .int .u32 a0_4) (v5 := .int .i64 a0_5) (v6 := .int .u32 a0_6) (v7 := .slice A0_7 l0_7.length c0_7) (t := 32) ?_; (with_reducible repeat (first | refine blk_away ?_ HNE.out _ | refine blk_drewN ?_ _ | refine blk_drew ?_)); with_reducible exact BMc.out
        clear hK K
        try simp only [Act.put, List.getElem_toArray, List.getElem_cons_zero, List.getElem_cons_succ, List.setIfInBounds_toArray, List.set_cons_zero, List.set_cons_succ]
        refine ht1_ 22 ?_
        refine wpAnyH_done (by kernel_rfl) ?_ _
        refine NoPanic.normal ?_
        rename_i hHeld
        clear hHeld cgx8 zgx8 cgx10 zgx10
        generalize hW : World.drew (World.setCell (World.setCell (_) _ _) _ _) = W9
        have bm9 : W9.heap[gm]? = some (.cells #[.int .u8 9, .int .u32 a0_1, .int .u32 a0_2, .int .u32 a0_3, .int .u32 a0_4, .int .i64 a0_5, .int .u32 a0_6, .slice A0_7 l0_7.length c0_7, .int .i64 a0_8, .bool a0_9, .slice A0_10 l0_10.length c0_10] 32 (0, 0)) := by rw [← hW]; (with_reducible repeat (first | refine blk_away ?_ HNE.out _ | refine blk_drewN ?_ _ | refine blk_drew ?_)); with_reducible exact BMc.out
        have bx9 : W9.heap[gx]? = some (.cells #[.int .u8 9, .int .u32 a0_1, .int .u32 0, .int .u32 0, .int .u32 0, .int .i64 0, .int .u32 0, .slice none 0 0, .int .i64 a0_8, .bool false, .slice A0_10 l0_10.length c0_10] 32 (0, 0)) := by rw [← hW]; exact blk_drew ((blk_set (blk_set BXc.out 8 _) 10 _).trans rfl)
        have hb9 : Below w.heap.size w W9 := by rw [← hW]; (with_reducible repeat (first | refine below_set ?_ HWX.out | refine pw_below_drewN ?_ _ | refine below_drew1 ?_)); exact HBc.out
        clear hW BMc BXc HBc
        obtain rfl := Option.some.inj H1
        have HB9 := m_ hb9
        clear hb9 bm9 bx9
        go_wp2
        go_ret
        exact ⟨rfl, HB9.out⟩
     ·have H1 := H.out
      clear H
      unfold ofmsg_Right.f at H1
      rw [if_neg k1, if_neg k2, if_neg k3, if_neg k4, if_neg k5] at H1
      obtain rfl := Option.some.inj H1
      clear H1
      have e1 : (a0_0 == 1) = false := beq_eq_false_iff_ne.mpr (by omega)
      have e2 : (a0_0 == 2) = false := beq_eq_false_iff_ne.mpr (by omega)
      have e3 : (a0_0 == 3) = false := beq_eq_false_iff_ne.mpr (by omega)
      have e4 : (a0_0 == 4) = false := beq_eq_false_iff_ne.mpr (by omega)
      have e5 : (a0_0 == 5) = false := beq_eq_false_iff_ne.mpr (by omega)
      have e6 : (a0_0 == 6) = false := beq_eq_false_iff_ne.mpr (by omega)
      have e7 : (a0_0 == 7) = false := beq_eq_false_iff_ne.mpr (by omega)
      have e8 : (a0_0 == 8) = false := beq_eq_false_iff_ne.mpr (by omega)
      have e9 : (a0_0 == 9) = false := beq_eq_false_iff_ne.mpr (by omega)
      clear k1 k2 k3 k4 k5
      go_wp2
      go_ret
      exact ⟨rfl, HB.out⟩
end Go.Proofs.Ytfomnmdjbdohgaa.P

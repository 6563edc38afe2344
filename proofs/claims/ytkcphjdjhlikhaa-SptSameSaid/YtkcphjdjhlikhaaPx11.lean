/- For each Go function a Lean function, and the proof that a call comes to what it tells: made by program out of the translation (the kit's print, with texts by hand put in). No condition. -/
import Derived.Test.YtkcphjdjhlikhaaSq
import Derived.Test.YtkcphjdjhlikhaaPx0
import Derived.Test.YtkcphjdjhlikhaaPx10
namespace Go.Proofs.Ytkcphjdjhlikhaa.P
open Go.RowKit Go.Proofs.Ytkcphjdjhlikhaa.HRows Go.Proofs.YtkcphjdjhlikhaaW.PrintWords Go.Proofs.YtkcphjdjhlikhaaW.PrintLast Go.Proofs.YtkcphjdjhlikhaaW.PrintMore
attribute [local go_sem] max2_int min2_int max_two min_two max_three min_three max_four min_four   -- for this text's walks alone
set_option linter.unusedVariables false
set_option linter.unusedSimpArgs false

/-! ### spt_Tree: function 20, by hand (spt.Tree.lean.tpl) -/
/-! #### the links of the ways to the ends -/
/-- How many ends are left. -/
def treeMu (n : Nat) (a : Act) : Nat := match a.tmps[18]? with | some (Value.int _ x) => n - x.toNat | _ => 0
def treeLoop (n : Int) (L : List (S33)) (lk : List Int) (k : Nat) : List Int → List Int → Option (List Int)
 | [], acc => some acc
 | x :: es, acc => (backL n L lk k x).bind fun xs => if acc.length + xs.length ≤ 1000000000000 then treeLoop n L lk k es (acc ++ xs) else none
theorem treeLoop_mono (n : Int) (L : List (S33)) (lk : List Int) (k : Nat) : ∀ es acc, LeO (treeLoop n L lk k es acc) (treeLoop n L lk (k + 1) es acc)
 | [], _ => LeO.refl _
 | x :: es, acc => by
  unfold treeLoop
  exact LeO.bind (backL_mono _ _ _ _ _) (fun xs => LeO.ite (treeLoop_mono n L lk k es _) (LeO.refl _))
theorem treeLoop_len (n : Int) (L : List (S33)) (lk : List Int) (k : Nat) : ∀ es acc r, treeLoop n L lk k es acc = some r → acc.length ≤ 1000000000000 → r.length ≤ 1000000000000
 | [], acc, r, h, hl => by obtain rfl := Option.some.inj h; exact hl
 | x :: es, acc, r, h, hl => by
  unfold treeLoop at h
  obtain ⟨xs, h1, h2⟩ := Option.bind_eq_some_iff.1 h
  by_cases h3 : acc.length + xs.length ≤ 1000000000000
  ·rw [if_pos h3] at h2
   exact treeLoop_len n L lk k es _ r h2 (by rw [List.length_append]; exact h3)
  ·rw [if_neg h3] at h2; cases h2
def spt_Tree.f (k : Nat) (a0_0 : Int) (l0_1 : List (S33)) (a1 : Int) (l2 : List Int) : Option (List Int) := (spt_Ways.f k a0_0 l0_1 [a1]).bind fun p => (treeLoop a0_0 l0_1 p.2 k l2 []).bind fun acc => some (Lib.compact (acc.mergeSort fun x y => decide (x ≤ y)))
theorem spt_Tree.mono : ∀ a0 a1 a2 a3 k, LeO (spt_Tree.f k a0 a1 a2 a3) (spt_Tree.f (k + 1) a0 a1 a2 a3) := by
 intro a0 a1 a2 a3 k
 unfold spt_Tree.f
 exact LeO.bind (spt_Ways.mono _ _ _ _) (fun p => LeO.bind (treeLoop_mono _ _ _ _ _ _) (fun _ => LeO.refl _))
theorem lit_C (w : World) (x : Int) : Kd.C (Kd.int .i64) (w.alloc (.cells #[.int .i64 x] 3 (0, 0))) (some ⟨w.heap.size, 0, none⟩) 1 [x] := by
 have h : (Kd.int .i64).R 3 (w.alloc (.cells #[.int .i64 x] 3 (0, 0))) w.heap.size (fun _ => True) (.slice (some ⟨w.heap.size, 0, none⟩) 1 1) [x] := ⟨fun _ _ => trivial, OwnRow.lit w w.heap.size (Kd.reps_scalar (enc := fun x => Value.int .i64 x) [x]) (Nat.le_refl _) (by simp)⟩
 exact (Kd.R_reads' h).2.2
attribute [local go_sem] Oper.semAt_some
set_option maxHeartbeats 4000000 in
set_option maxRecDepth 100000 in
theorem spt_Tree.calls (k : Nat) (a0_0 : Int) (A0_1 : Option Addr) (c0_1 : Nat) (l0_1 : List (S33)) (a1 : Int) (A2 : Option Addr) (c2 : Nat) (l2 : List Int) (r : List Int) (w : World) (hr0_1 : Kd.C k33 w A0_1 l0_1.length l0_1) (hc0_1 : l0_1.length ≤ c0_1) (hr2 : Kd.C (Kd.int .i64) w A2 l2.length l2) (hc2 : l2.length ≤ c2) (h : spt_Tree.f k a0_0 l0_1 a1 l2 = some r) :
  Calls Try.prog 20 #[.agg #[.int .i64 a0_0, .slice A0_1 l0_1.length c0_1], .int .i64 a1, .slice A2 l2.length c2] w fun e w' => ∃ v0_ : Value, e = .returned (v0_) ∧ Kd.R (Kd.int .i64) 3 w' w.heap.size (fun _ => True) v0_ r ∧ Below w.heap.size w w' := by
 unfold spt_Tree.f at h
 obtain ⟨⟨r1, r2⟩, hw, h⟩ := Option.bind_eq_some_iff.mp h
 obtain ⟨acc1, ht, h⟩ := Option.bind_eq_some_iff.mp h
 obtain rfl := Option.some.inj h
 clear h
 dsimp only at ht
 have hu24 := Try.underlying24
 have hu25 := Try.underlying25
 have hu29 := Try.underlying29
 obtain ⟨i0, hinf, he⟩ := Option.map_eq_some_iff.1 info3
 obtain ⟨hzr, hz1, hz2⟩ : i0.zero = some (.int .i64 0) ∧ i0.size = 1 ∧ i0.bytes = 8 := by simpa using he
 clear he
 have H0 := m_ (And.intro hr0_1 (And.intro hc0_1 (And.intro hr2 (And.intro hc2 (And.intro hw ht)))))
 clear hr0_1 hc0_1 hr2 hc2 hw ht
 refine (callsIn_wide (n := 1)).1 ?_
 refine callsIn_of_wp_marks Try.func20 rfl trivial ?_ rfl
 simp only [Try.ntmps20, List.size_toArray, List.length_cons, List.length_nil, Nat.reduceAdd, Nat.reduceSub, Array.replicate_succ, Array.replicate_zero, List.push_toArray, List.append_toArray, List.nil_append, List.cons_append]
 refine wpIn_wide.2 ?_
 go_wp2_with (first
  | ((with_reducible refine gate_dst (N := 3) rfl ?_); refine bx_ 3 24 #[.int .i64 a0_0, .slice A0_1 l0_1.length c0_1] ?_; intro g3 hg3 w1 hbox hb; have hcz3 := cz2_ hbox; have B3 := m_ hbox; have HB1 := m_ hb; clear hbox hb hg3)
  | (go_at_call 12; refine (spt_Ways.calls k a0_0 A0_1 c0_1 l0_1 _ 1 [a1] r1 r2 _ (Kd.C_below H0.out.1 (below_alloc HB1.out _)) H0.out.2.1 (lit_C w1 a1) (Nat.le_refl _) H0.out.2.2.2.2.1).mono ?_; rintro e w2 ⟨v0, v1, rfl, hR0, hR1, hb⟩; obtain ⟨Ad, cd, rfl⟩ := Kd.R_slice hR0; obtain ⟨Al, cl, rfl⟩ := Kd.R_slice hR1; have HP := m_ (And.intro (Kd.R_reads' hR0).2 (Kd.R_reads' hR1).2); have HB2 := m_ (below_step (below_alloc HB1.out _) hb); have B3b := m_ (blk_below (blk_alloc B3.out _) hb); clear hR0 hR1 hb hcz3)
  | ((with_reducible refine gate_dst (N := 7) rfl ?_); refine bx_ 7 29 #[.slice none 0 0, .slice none 0 0] ?_; intro g7 hg7 w3 hbox hb; have hcz7 := cz2_ hbox; have B7 := m_ hbox; have HB3 := m_ (And.intro hb (Nat.le_of_eq hg7.symm)); clear hbox hb hg7)
  | ((with_reducible refine gate_store (t := 29) (p := 7) (v := .tmp 15) rfl ?_); refine st_ 29 7 ((w3.setCell ⟨g7, 0, none⟩ (.slice Ad r1.length cd)).setCell ⟨g7, 1, none⟩ (.slice Al r2.length cl)) ?_; intro w4 hw4; have B7n := m_ (show w4.heap[g7]? = some (.cells #[.slice Ad r1.length cd, .slice Al r2.length cl] 29 (0, 0)) by rw [hw4]; exact blk_put (blk_put B7.out 0 _ rfl) 1 _ rfl); have HB4 := m_ (show Below w2.heap.size w2 w4 by rw [hw4]; exact (HB3.out.1.setCell HB3.out.2 _).setCell HB3.out.2 _); clear hw4 hcz7)
  | ((with_reducible refine gate_dst (N := 8) rfl ?_); refine bx_ 8 25 #[.slice none 0 0] ?_; intro g8 hg8 w5 hbox hb; have B8 := m_ hbox; have HB5 := m_ (And.intro hb hg8); clear hbox hb hg8))
 have s4 := HB4.out.size
 have s2 := HB2.out.size
 have HW4 := m_ (below_step HB2.out HB4.out)
 have B34 := m_ (blk_below B3b.out HB4.out)
 have HZ8 := m_ HB5.out.2
 refine (wpIn_wide (n := 1)).1 ?_
 refine wpIn_loop (fun a wr => ∃ (i : Nat) (acc : List Int) (Ds : List Nat) (u4 u5 u9 u10 u11 u12 u13 u14 u15 u19 u20 u21 u22 u23 u24 u25 u26 u27 u28 u29 u30 u31 u32 u33 u34 u35 : Value), a = { tmps := #[.agg #[.int .i64 a0_0, .slice A0_1 l0_1.length c0_1], .int .i64 a1, .slice A2 l2.length c2, .pointer (some ⟨g3, 0, none⟩), u4, u5, .slice none 0 0, .pointer (some ⟨g7, 0, none⟩), .pointer (some ⟨g8, 0, none⟩), u9, u10, u11, u12, u13, u14, u15, .slice A2 l2.length c2, .int .i64 l2.length, .int .i64 i, u19, u20, u21, u22, u23, u24, u25, u26, u27, u28, u29, u30, u31, u32, u33, u34, u35], defers := marks Ds } ∧ i ≤ l2.length ∧ Aside0 (treeLoop a0_0 l0_1 r2 k (l2.drop i) acc = some acc1) ∧ Aside0 (acc.length ≤ 1000000000000) ∧ Aside0 (Below w4.heap.size w4 wr) ∧ Aside0 (∃ v, Boxed wr g8 25 v ∧ wr.ownsRow w4.heap.size 3 1 v acc.length (acc.map fun x => Value.int .i64 x)) ∧ Aside0 (Ds.Nodup ∧ ∀ D, D ∈ Ds → w4.heap.size < D ∧ wr.heap[D]? = some (.deferred (some [])))) (fun (a : Act) (_ : World) => treeMu l2.length a) ?_ (fun a wr hI => ?_)
 ·exact ⟨0, [], [], _, _, _, _, _, _, _, _, _, _, _, _, _, _, _, _, _, _, _, _, _, _, _, _, _, _, rfl, Nat.zero_le _, ⟨by rw [List.drop_zero]; exact H0.out.2.2.2.2.2⟩, ⟨by simp⟩, ⟨HB5.out.1⟩, ⟨_, B8.out, rfl, .inl ⟨rfl, rfl⟩⟩, ⟨List.nodup_nil, fun D hD => by cases hD⟩⟩
 obtain ⟨i, acc, Ds, u4, u5, u9, u10, u11, u12, u13, u14, u15, u19, u20, u21, u22, u23, u24, u25, u26, u27, u28, u29, u30, u31, u32, u33, u34, u35, rfl, hi, HT, HA, HBr, HX, HD⟩ := hI
 have HBI := m_ (below_step HW4.out HBr.out)
 have hcz3 := cz2_ (blk_below B34.out HBr.out)
 have hcz7 := cz2_ (blk_below B7n.out HBr.out)
 by_cases hlt : i < l2.length
 ·have hltI : (i : Int) < (l2.length : Int) := by omega
  obtain ⟨ad, cc, eA, _, hK, hc0⟩ := Kd.C_get (Kd.C_below H0.out.2.2.1 HBI.out) 0 (i : Int) (by omega) hltI
  subst eA
  obtain rfl := hK
  have e0 := hc0 0 _ rfl
  rw [show (Kd.int .i64).sz = 1 from rfl, Nat.mul_one, Nat.add_zero, Int.toNat_natCast] at e0
  clear hc0
  have hT := HT.out
  rw [List.drop_eq_getElem_cons hlt, show l2[i] = l2.getD i 0 by rw [List.getD_eq_getElem?_getD, List.getElem?_eq_getElem hlt]; rfl] at hT
  generalize l2.getD i 0 = x0 at e0 hT
  unfold treeLoop at hT
  obtain ⟨xs, hx, hT⟩ := Option.bind_eq_some_iff.1 hT
  by_cases hN : acc.length + xs.length ≤ 1000000000000
  case neg => rw [if_neg hN] at hT; cases hT
  rw [if_pos hN] at hT
  have HX1 := m_ (And.intro hx (And.intro hN hT))
  clear hx hN hT
  gi_wp2_with (refine ⟨trivial, ?_⟩; gi_at_call 35; refine (callsIn_wide.2 (back_calls a0_0 A0_1 c0_1 l0_1 Ad r1.length cd Al cl r2 x0 wr (fun k => k < w4.heap.size) (Kd.F_mono (Kd.F_old (Kd.C_F k33_heap H0.out.1) HBI.out) (fun k hk => by have := hk.2; omega)) (Kd.F_mono (Kd.F_old (Kd.C_F (Kd.heap_int .i64) HP.out.2.2) (below_step HB4.out HBr.out)) (fun k hk => by have := hk.2; omega)))).mono ?_; rintro e w6 ⟨gg, gn, gp, rfl, hgn, hgn2, hb6, hrel⟩; have HR6 := m_ (And.intro hgn (And.intro hgn2 (And.intro hb6 hrel))); clear hgn hgn2 hb6 hrel hcz3 hcz7 e0)
  obtain ⟨v, hv, hr⟩ := HX.out
  have h6b := HR6.out.2.2.1
  have h6n := HR6.out.1
  have h6s := h6b.size
  have hgl : g8 < wr.heap.size := hv.lt
  have hg8 := HZ8.out
  have hv6 : Boxed w6 g8 25 v := blk_below hv h6b
  have hr6 := pw_own_below hr h6b
  have hown : ∀ k', v.ownBlock = some k' → w4.heap.size ≤ k' ∧ k' < wr.heap.size := fun k' hk => ⟨(own_cells hr hk).1, (own_cells hr hk).2.1⟩
  have hokp : ∀ k', (k' < w6.heap.size ∧ k' ≠ gn ∧ (wr.heap.size ≤ k' ∨ k' < w4.heap.size)) → k' < w6.heap.size ∧ k' ≠ g8 ∧ some k' ≠ v.ownBlock := fun k' hk => ⟨hk.1, by omega, fun e => by have := hown k' e.symm; omega⟩
  have HV := m_ (And.intro hv (And.intro hr (And.intro hown h6n)))
  have HH := m_ (And.intro h6s (And.intro hgl hg8))
  refine range_B (F := Fence.wide) (n := 1) rfl (Nat.le_refl 1) (gf := 47) rfl trivial back_enters (back_seq 0 _ gg gn gp a0_0 A0_1 c0_1 l0_1 (.slice Ad r1.length cd) Al cl r2 H0.out.2.1 HP.out.2.1 k x0 xs HX1.out.1 (fun k' => k' < w6.heap.size ∧ k' ≠ g8 ∧ some k' ≠ v.ownBlock) w6 HR6.out.2.2.2) (fun k' hk => hk.1) (Below.refl _ w6) HR6.out.2.1 (fun k' hk => hk.1) rfl (fun s X => BoxI w4.heap.size g8 v.ownBlock w6.heap.size (acc ++ s) X) (BoxO g8)
   (BoxI.ownI acc (fun k' hk => hk) hokp ⟨HR6.out.2.1, by omega, fun e => by have := hown gn e.symm; omega⟩) (fun s X k' h hk => BoxI.cells h hk) ⟨v, hv6, by rw [List.append_nil]; exact hr6, Or.inl rfl⟩
   (fun y => { tmps := #[.agg #[.int .i64 a0_0, .slice A0_1 l0_1.length c0_1], .int .i64 a1, .slice (some ad) l2.length c2, .pointer (some ⟨g3, 0, none⟩), u4, u5, .slice none 0 0, .pointer (some ⟨g7, 0, none⟩), .pointer (some ⟨g8, 0, none⟩), u9, .int .i64 x0, .int .i64 y, u12, u13, u14, u15, .slice (some ad) l2.length c2, .int .i64 l2.length, .int .i64 i, .bool true, .pointer (some (ad.add i)), .int .i64 x0, .agg #[.int .i64 a0_0, .slice A0_1 l0_1.length c0_1], .agg #[.slice Ad r1.length cd, .slice Al r2.length cl], .int .i64 x0, .func (.func 47) #[] #[.pointer (some ⟨gg, 0, none⟩), .pointer (some ⟨gn, 0, none⟩), .pointer (some ⟨gp, 0, none⟩)], .int .i64 y, u27, u28, u29, u30, u31, u32, u33, u34, u35], defers := [] }) ?_ ?_ ?_
  ·clear hv hr h6b h6n h6s hgl hg8 hv6 hr6 hown hokp
   intro l y W K hK
   gi_wp2
   exact hK
  ·clear hv hr h6b h6n h6s hgl hg8 hv6 hr6 hown hokp
   intro l pre y W hI hg hlen hsz
   obtain ⟨v1, hv1, hr1, hat1⟩ : BoxI w4.heap.size g8 v.ownBlock w6.heap.size (acc ++ pre) W := hI
   have hcv := hv1.cell
   have hfv := hv1.frozen
   have hN1 : (acc ++ pre).length < 1000000000000 := by have := HX1.out.2.1; rw [List.length_append]; omega
   have hzW : w6.heap.size ≤ W.heap.size := hg.size
   have hz4 : w4.heap.size ≤ W.heap.size := by have := HH.out.1; have := HH.out.2.1; have := HH.out.2.2; omega
   have HV1 := m_ hv1
   have HR1 := m_ hr1
   have HT1 := m_ hat1
   clear hv1 hr1 hat1 hg hlen hsz
   gi_wp2_with (gi_at_builtin; go_loud (refine wpListIn_append_own_at _ rfl _ _ 25 rfl w4.heap.size 3 i0 (.int .i64 0) 1 8 hu25 hinf hzr hz1 hz2 rfl (by decide) v1 (acc ++ pre).length _ rfl (HR1.out.alloc _) ⟨W.heap.size, 0, none⟩ 1 1 [.int .i64 y] rfl rfl (cell_one_new _ _ _) (by simp [Value.oneCell']) (by simp only [maxLen]; omega) (by omega) (by rw [World.size_alloc]; omega) ?_; intro v' w9 hown' hg3 hnil3 hat3; obtain ⟨hv3, hkp, hbx⟩ := BoxI.app HT1.out hzW hat3 HV1.out HR1.out hown' hg3; have hc3 := hv3.cell; have hf3 := hv3.frozen; obtain ⟨g', cap', rfl⟩ := ownsRow_succ hown'; have HKP := m_ (And.intro hkp hbx); clear hkp hbx hown' hg3 hnil3 hv3 hat3))
   have hkp2 := HKP.out
   rw [List.length_append, List.append_assoc] at hkp2
   exact hkp2
  ·intro D ys W hD hS hI hg hd
   obtain rfl : ys = xs := hS
   obtain ⟨v1, hv1, hr1, -⟩ : BoxI w4.heap.size g8 v.ownBlock w6.heap.size (acc ++ ys) W := hI
   have hsame : ∀ k', k' < wr.heap.size → k' ≠ g8 → some k' ≠ v.ownBlock → W.heap[k']? = wr.heap[k']? := fun k' h1 h2 h3 => (hg.block k' ⟨by omega, h2, h3⟩ (by omega) (by omega)).trans (h6b.block k' h1)
   have hBW : Below w4.heap.size w4 W := by
    have hb := HBr.out
    exact ⟨hg.os.trans (h6b.os.trans hb.os), hg.tape.trans (h6b.tape.trans hb.tape), hg.output.trans (h6b.output.trans hb.output), (by have := hg.size; have := hb.size; omega), fun k' hk => (hsame k' (by omega) (by omega) (fun e => by have := hown k' e.symm; omega)).trans (hb.block k' hk)⟩
   have hDs : (D :: Ds).Nodup ∧ ∀ E, E ∈ D :: Ds → w4.heap.size < E ∧ W.heap[E]? = some (.deferred (some [])) := by
    obtain ⟨n1, n2⟩ := HD.out
    refine ⟨List.nodup_cons.2 ⟨fun hm => ?_, n1⟩, fun E hE => ?_⟩
    ·have := blk_lt (n2 D hm).2
     omega
    ·rcases List.mem_cons.1 hE with rfl | hE
     ·exact ⟨by omega, hd⟩
     ·have h2 := n2 E hE
      have h3 := blk_lt h2.2
      refine ⟨h2.1, (hsame E h3 (by omega) (fun e => ?_)).trans h2.2⟩
      obtain ⟨-, -, cs, hc⟩ := own_cells hr e.symm
      rw [h2.2] at hc
      cases hc
   have hwi : wrap64 ((i : Int) + 1) = ((i + 1 : Nat) : Int) := by
    have h63 := H0.out.2.2.1.2.1
    unfold wrap64
    omega
   have HF := m_ (And.intro (show ∃ v, Boxed W g8 25 v ∧ W.ownsRow w4.heap.size 3 1 v (acc ++ ys).length ((acc ++ ys).map fun x => Value.int .i64 x) from ⟨v1, hv1, hr1⟩) (And.intro hBW (And.intro hDs hwi)))
   clear hv hr h6b h6n h6s hgl hg8 hv6 hr6 hown hokp hv1 hr1 hsame hBW hDs hwi hg hd hD
   simp only [Exit.inBlock, Exit.then]
   gi_wp2
   simp only [HF.out.2.2.2]
   refine ⟨⟨i + 1, acc ++ ys, D :: Ds, _, _, _, _, _, _, _, _, _, _, _, _, _, _, _, _, _, _, _, _, _, _, _, _, _, _, rfl, by omega, ⟨HX1.out.2.2⟩, ⟨by have := HX1.out.2.1; rw [List.length_append]; exact this⟩, ⟨HF.out.2.1⟩, ⟨HF.out.1⟩, ⟨HF.out.2.2.1⟩⟩, ?_⟩
   show l2.length - ((i + 1 : Nat) : Int).toNat < l2.length - (i : Int).toNat
   rw [Int.toNat_natCast, Int.toNat_natCast]
   omega
 ·obtain rfl : i = l2.length := by omega
  have hT := HT.out
  rw [List.drop_of_length_le (Nat.le_refl _)] at hT
  obtain rfl : acc = acc1 := Option.some.inj hT
  have hlt' : ¬ ((l2.length : Int) < (l2.length : Int)) := by omega
  obtain ⟨v, hv, hr⟩ := HX.out
  have hcv := hv.cell
  have hne : some g8 ≠ v.ownBlock := hv.not_row (by decide) hr
  have HV := m_ (And.intro hv (And.intro hr hne))
  clear hcz3 hcz7 hv hr hne hT
  gi_wp2
  go_wp2_with (first
   | (go_at_call 38; go_loud (refine (sortInt_calls v acc (fun _ => True) w4.heap.size wr (Kd.R_of_own HV.out.2.1 (fun _ _ => trivial)) (by have := HA.out; omega)).mono ?_; rintro e w7 ⟨rfl, hr7, hg7⟩; have hcv7 := (hv7_ HV.out.1 hg7 HV.out.2.2).cell; have H7 := m_ (And.intro hr7 hg7); clear hr7 hg7 hcv))
   | (go_at_call 39; go_loud (refine (compactInt_calls v _ _ _ w7 H7.out.1).mono ?_; rintro e w8 ⟨v8, rfl, hr8, hg8, hv8⟩; have H8 := m_ (And.intro hr8 (And.intro hg8 hv8)); clear hr8 hg8 hv8 hcv7)))
  have h7 := H7.out.2
  have h8 := H8.out.2.1
  have h7s := h7.size
  have hd7 : ∀ D, D ∈ Ds → w8.heap[D]? = some (.deferred (some [])) := fun D hD => by
   have h1 := (HD.out.2 D hD).2
   have h2 := blk_lt h1
   have h3 : some D ≠ v.ownBlock := fun e => by
    obtain ⟨-, -, cs, hc⟩ := own_cells HV.out.2.1 e.symm
    rw [h1] at hc
    cases hc
   exact (h8.block D (by omega) h3).trans ((h7.block D h2 h3).trans h1)
  have hown : ∀ k', v.ownBlock = some k' → w4.heap.size ≤ k' := fun k' e => (own_cells HV.out.2.1 e).1
  refine leaves_marks rfl Ds w8 HD.out.1 hd7 (fun w' hk => ⟨v8, rfl, ?_, ?_⟩)
  ·obtain ⟨h0, inner, ho, hrep⟩ := Kd.R_lower H8.out.1 (show w.heap.size ≤ w4.heap.size by omega)
   refine ⟨fun _ _ => trivial, inner, own_same ho (fun k' e => hk.block k' (own_cells ho e).2.1 (fun hm => ?_)), hrep⟩
   obtain ⟨-, -, cs, hc⟩ := own_cells ho e
   rw [hd7 k' hm] at hc
   cases hc
  ·have hb := HBI.out
   have hbs := hb.size
   exact ⟨hk.os.trans (h8.os.trans (h7.os.trans hb.os)), hk.tape.trans (h8.tape.trans (h7.tape.trans hb.tape)), hk.output.trans (h8.output.trans (h7.output.trans hb.output)), (by have := h8.size; have := hk.size; omega), fun k' hl => (hk.block k' (by have := h8.size; omega) (fun hm => by have := (HD.out.2 k' hm).1; omega)).trans ((h8.block k' (by omega) (fun e => by have := hown k' e.symm; omega)).trans ((h7.block k' (by omega) (fun e => by have := hown k' e.symm; omega)).trans (hb.block k' hl)))⟩

/-! ### stolonlaw13_shown: function 10 -/
def stolonlaw13_shown.f (k : Nat)  : Option (Bool) := (some (([(⟨0, 1, 1, true⟩ : S33), (⟨1, 2, 4, true⟩ : S33), (⟨0, 2, 9, true⟩ : S33)] : List (S33)) : List (S33))).bind fun y197 => ((spt_Ways.f k 3 y197 (([0] : List Int))).bind fun bt204 => ((spt_Tree.f k 3 y197 0 (([2] : List Int))).bind fun t214 => (if (bt204.1.length : Int) = 3 then (if 2 < (bt204.1.length : Int) then (if (rd bt204.1 2) = 5 then (if (bt204.2.length : Int) = 3 then (if 2 < (bt204.2.length : Int) then (if (rd bt204.2 2) = 1 then (if (t214.length : Int) = 2 then (if 0 < (t214.length : Int) then (if (rd t214 0) = 0 then (if 1 < (t214.length : Int) then (some ((rd t214 1) == 1)) else (none)) else (none)) else (none)) else (none)) else (none)) else (none)) else (none)) else (none)) else (none)) else (none))))
theorem stolonlaw13_shown.mono : ∀ k, LeO (stolonlaw13_shown.f k ) (stolonlaw13_shown.f (k + 1) ) := by
 intro  k
 unfold stolonlaw13_shown.f
 repeat' first
   | (with_reducible exact spt_Tree.mono _ _ _ _ _)
   | (with_reducible exact spt_Ways.mono _ _ _ _)
   | (with_reducible exact LeO.refl _)
   | (with_reducible exact LeO.none _)
   | (with_reducible refine LeO.ite ?_ ?_)
   | (with_reducible refine LeO.bind ?_ (fun _ => ?_))
   | exact spt_Tree.mono _ _ _ _ _
   | exact spt_Ways.mono _ _ _ _
   | exact LeO.none _
   | refine LeO.ite ?_ ?_
   | refine LeO.bind ?_ (fun _ => ?_)
set_option maxHeartbeats 8000000 in
set_option maxRecDepth 100000 in
theorem stolonlaw13_shown.calls (k : Nat)  (r : Bool) (w : World) (h : stolonlaw13_shown.f k  = some r) :
  Calls Try.prog 10 #[] w fun e w' => e = .returned (.bool r) ∧ Below w.heap.size w w' := by
 have hu33 := Try.underlying33
 have hu24 := Try.underlying24
 have hu29 := Try.underlying29
 have HB := m_ (Below.refl w.heap.size w)
 have H : ((some (([(⟨0, 1, 1, true⟩ : S33), (⟨1, 2, 4, true⟩ : S33), (⟨0, 2, 9, true⟩ : S33)] : List (S33)) : List (S33))).bind fun y197 => ((spt_Ways.f k 3 y197 (([0] : List Int))).bind fun bt204 => ((spt_Tree.f k 3 y197 0 (([2] : List Int))).bind fun t214 => (if (bt204.1.length : Int) = 3 then (if 2 < (bt204.1.length : Int) then (if (rd bt204.1 2) = 5 then (if (bt204.2.length : Int) = 3 then (if 2 < (bt204.2.length : Int) then (if (rd bt204.2 2) = 1 then (if (t214.length : Int) = 2 then (if 0 < (t214.length : Int) then (if (rd t214 0) = 0 then (if 1 < (t214.length : Int) then (some ((rd t214 1) == 1)) else (none)) else (none)) else (none)) else (none)) else (none)) else (none)) else (none)) else (none)) else (none)) else (none))))) = some r := h
 clear h
 obtain ⟨y197, hy197⟩ : ∃ y_ : List (S33), y_ = (([(⟨0, 1, 1, true⟩ : S33), (⟨1, 2, 4, true⟩ : S33), (⟨0, 2, 9, true⟩ : S33)] : List (S33))) := ⟨_, rfl⟩
 replace H : ((spt_Ways.f k 3 y197 (([0] : List Int))).bind fun bt204 => ((spt_Tree.f k 3 y197 0 (([2] : List Int))).bind fun t214 => (if (bt204.1.length : Int) = 3 then (if 2 < (bt204.1.length : Int) then (if (rd bt204.1 2) = 5 then (if (bt204.2.length : Int) = 3 then (if 2 < (bt204.2.length : Int) then (if (rd bt204.2 2) = 1 then (if (t214.length : Int) = 2 then (if 0 < (t214.length : Int) then (if (rd t214 0) = 0 then (if 1 < (t214.length : Int) then (some ((rd t214 1) == 1)) else (none)) else (none)) else (none)) else (none)) else (none)) else (none)) else (none)) else (none)) else (none)) else (none)))) = some r := by first | (rw [hy197]; with_reducible exact H) | (have H2_ := (Option.bind_some _ _).symm.trans H; rw [hy197]; with_reducible exact H2_) | (have H2_ := (Option.bind_some _ _).symm.trans H; with_reducible exact H2_) | with_reducible exact H | (rw [hy197]; exact H) | exact H
 have Ny197 := m_ hy197
 clear hy197
 obtain ⟨y201, hy201⟩ : ∃ y_ : List Int, y_ = (([0] : List Int)) := ⟨_, rfl⟩
 replace H : ((spt_Ways.f k 3 y197 y201).bind fun bt204 => ((spt_Tree.f k 3 y197 0 (([2] : List Int))).bind fun t214 => (if (bt204.1.length : Int) = 3 then (if 2 < (bt204.1.length : Int) then (if (rd bt204.1 2) = 5 then (if (bt204.2.length : Int) = 3 then (if 2 < (bt204.2.length : Int) then (if (rd bt204.2 2) = 1 then (if (t214.length : Int) = 2 then (if 0 < (t214.length : Int) then (if (rd t214 0) = 0 then (if 1 < (t214.length : Int) then (some ((rd t214 1) == 1)) else (none)) else (none)) else (none)) else (none)) else (none)) else (none)) else (none)) else (none)) else (none)) else (none)))) = some r := by first | (rw [hy201]; with_reducible exact H) | (have H2_ := (Option.bind_some _ _).symm.trans H; rw [hy201]; with_reducible exact H2_) | (have H2_ := (Option.bind_some _ _).symm.trans H; with_reducible exact H2_) | with_reducible exact H | (rw [hy201]; exact H) | exact H
 have Ny201 := m_ hy201
 clear hy201
 replace H := Option.bind_eq_some_iff.mp H
 obtain ⟨⟨t204, t207⟩, A10, H⟩ := H
 replace H : ((spt_Tree.f k 3 y197 0 (([2] : List Int))).bind fun t214 => (if (t204.length : Int) = 3 then (if 2 < (t204.length : Int) then (if (rd t204 2) = 5 then (if (t207.length : Int) = 3 then (if 2 < (t207.length : Int) then (if (rd t207 2) = 1 then (if (t214.length : Int) = 2 then (if 0 < (t214.length : Int) then (if (rd t214 0) = 0 then (if 1 < (t214.length : Int) then (some ((rd t214 1) == 1)) else (none)) else (none)) else (none)) else (none)) else (none)) else (none)) else (none)) else (none)) else (none)) else (none))) = some r := H
 have A1 := m_ A10
 clear A10
 obtain ⟨y211, hy211⟩ : ∃ y_ : List Int, y_ = (([2] : List Int)) := ⟨_, rfl⟩
 replace H : ((spt_Tree.f k 3 y197 0 y211).bind fun t214 => (if (t204.length : Int) = 3 then (if 2 < (t204.length : Int) then (if (rd t204 2) = 5 then (if (t207.length : Int) = 3 then (if 2 < (t207.length : Int) then (if (rd t207 2) = 1 then (if (t214.length : Int) = 2 then (if 0 < (t214.length : Int) then (if (rd t214 0) = 0 then (if 1 < (t214.length : Int) then (some ((rd t214 1) == 1)) else (none)) else (none)) else (none)) else (none)) else (none)) else (none)) else (none)) else (none)) else (none)) else (none))) = some r := by first | (rw [hy211]; with_reducible exact H) | (have H2_ := (Option.bind_some _ _).symm.trans H; rw [hy211]; with_reducible exact H2_) | (have H2_ := (Option.bind_some _ _).symm.trans H; with_reducible exact H2_) | with_reducible exact H | (rw [hy211]; exact H) | exact H
 have Ny211 := m_ hy211
 clear hy211
 replace H := Option.bind_eq_some_iff.mp H
 obtain ⟨t214, A20, H⟩ := H
 replace H : (if (t204.length : Int) = 3 then (if 2 < (t204.length : Int) then (if (rd t204 2) = 5 then (if (t207.length : Int) = 3 then (if 2 < (t207.length : Int) then (if (rd t207 2) = 1 then (if (t214.length : Int) = 2 then (if 0 < (t214.length : Int) then (if (rd t214 0) = 0 then (if 1 < (t214.length : Int) then (some ((rd t214 1) == 1)) else (none)) else (none)) else (none)) else (none)) else (none)) else (none)) else (none)) else (none)) else (none)) else (none)) = some r := H
 have A2 := m_ A20
 clear A20
 by_cases c3 : (t204.length : Int) = 3
 ·rw [if_pos c3] at H
  have c3b0 : ((t204.length : Int) == 3) = true := beq_iff_eq.mpr c3
  have c3b1 : ((t204.length : Int) != 3) = false := bne_eq_false_iff_eq.mpr c3
  clear c3
  by_cases c4 : 2 < (t204.length : Int)
  ·rw [if_pos c4] at H
   have c4b0 : decide (2 < (t204.length : Int)) = true := decide_eq_true c4
   have c4b1 : decide (2 < t204.length) = true := decide_eq_true (by omega)
   clear c4
   by_cases c5 : (rd t204 2) = 5
   ·rw [if_pos c5] at H
    have c5b0 : ((rd t204 2) == 5) = true := beq_iff_eq.mpr c5
    have c5b1 : ((rd t204 2) != 5) = false := bne_eq_false_iff_eq.mpr c5
    clear c5
    by_cases c6 : (t207.length : Int) = 3
    ·rw [if_pos c6] at H
     have c6b0 : ((t207.length : Int) == 3) = true := beq_iff_eq.mpr c6
     have c6b1 : ((t207.length : Int) != 3) = false := bne_eq_false_iff_eq.mpr c6
     clear c6
     by_cases c7 : 2 < (t207.length : Int)
     ·rw [if_pos c7] at H
      have c7b0 : decide (2 < (t207.length : Int)) = true := decide_eq_true c7
      have c7b1 : decide (2 < t207.length) = true := decide_eq_true (by omega)
      clear c7
      by_cases c8 : (rd t207 2) = 1
      ·rw [if_pos c8] at H
       have c8b0 : ((rd t207 2) == 1) = true := beq_iff_eq.mpr c8
       have c8b1 : ((rd t207 2) != 1) = false := bne_eq_false_iff_eq.mpr c8
       clear c8
       by_cases c9 : (t214.length : Int) = 2
       ·rw [if_pos c9] at H
        have c9b0 : ((t214.length : Int) == 2) = true := beq_iff_eq.mpr c9
        have c9b1 : ((t214.length : Int) != 2) = false := bne_eq_false_iff_eq.mpr c9
        clear c9
        by_cases c10 : 0 < (t214.length : Int)
        ·rw [if_pos c10] at H
         have c10b0 : decide (0 < (t214.length : Int)) = true := decide_eq_true c10
         have c10b1 : decide (0 < t214.length) = true := decide_eq_true (by omega)
         clear c10
         by_cases c11 : (rd t214 0) = 0
         ·rw [if_pos c11] at H
          have c11b0 : ((rd t214 0) == 0) = true := beq_iff_eq.mpr c11
          have c11b1 : ((rd t214 0) != 0) = false := bne_eq_false_iff_eq.mpr c11
          clear c11
          by_cases c12 : 1 < (t214.length : Int)
          ·rw [if_pos c12] at H
           have c12b0 : decide (1 < (t214.length : Int)) = true := decide_eq_true c12
           have c12b1 : decide (1 < t214.length) = true := decide_eq_true (by omega)
           clear c12
           obtain rfl := Option.some.inj H
           go_enter Try.func10, Try.ntmps10
           go_wp2_with (first | ((with_reducible refine gate_dst (N := 7) rfl ?_); (try (refine gate_guard (by rfl) ?_; dsimp only)); refine Kd.R_lit k33 _ 33 ?hg (N := 7) ?hd (xs := ([(⟨0, 1, 1, true⟩ : S33), (⟨1, 2, 4, true⟩ : S33), (⟨0, 2, 9, true⟩ : S33)] : List (S33))) (inner := [.int .i64 0, .int .i64 1, .int .i64 1, .bool true, .int .i64 1, .int .i64 2, .int .i64 4, .bool true, .int .i64 0, .int .i64 2, .int .i64 9, .bool true]) (ok := fun _ => True) (okp := fun _ => True) ?hr ?hp (fun _ hk => hk) trivial (Below.refl _ _) (Nat.le_refl _) (by simp) ?_; (case hd => rfl); (case hg => rfl); (case hr => first | (go_simp; done) | (go_simp; rfl)); (case hp => exact (Reps.c4 (show Kd.M k33 _ _ _ (⟨0, 1, 1, true⟩ : S33) [.int .i64 0, .int .i64 1, .int .i64 1, .bool true] from (k33_mkM _ _ _ (⟨0, 1, 1, true⟩ : S33) )) (Reps.c4 (show Kd.M k33 _ _ _ (⟨1, 2, 4, true⟩ : S33) [.int .i64 1, .int .i64 2, .int .i64 4, .bool true] from (k33_mkM _ _ _ (⟨1, 2, 4, true⟩ : S33) )) (Reps.c4 (show Kd.M k33 _ _ _ (⟨0, 2, 9, true⟩ : S33) [.int .i64 0, .int .i64 2, .int .i64 9, .bool true] from (k33_mkM _ _ _ (⟨0, 2, 9, true⟩ : S33) )) (Reps.none _ _))))); intro v198 w13 ho14 hb hg_ hnew_; clear hg_ hnew_; (first | rw [← Ny197.out] at ho14 | (simp only [Int.reduceToNat] at ho14; rw [← Ny197.out] at ho14)); have HO199 := m_ (Kd.R_lower ho14 (below_size bz_)); replace HB := m_ (below_step bz_ hb); clear hb ho14; obtain ⟨Ao15, co15, eo15⟩ := Kd.R_slice HO199.out; subst eo15) | ((with_reducible refine gate_dst (N := 1) rfl ?_); (try (refine gate_guard (by rfl) ?_; dsimp only)); refine bx_ 1 24 #[.int .i64 0, .slice none 0 0] ?_; intro gb200 hg w16 hbox hb; have BK200 := m_ (hbox); have GW200 := m_ ((gw_ : w.heap.size ≤ gb200)); have GE200 := m_ ((gw_ : w.heap.size ≤ gb200)); replace HO199 := m_ (Kd.R_below (Rz_ HO199.out) hb); replace HB := m_ (below_step bz_ hb); clear hb hbox hg; have hcz17 := cz2_ BK200.out) | ((with_reducible refine gate_dst (N := 10) rfl ?_); (try (refine gate_guard (by rfl) ?_; dsimp only)); refine Kd.R_lit (Kd.int .i64) _ 3 ?hg (N := 10) ?hd (xs := ([0] : List Int)) (inner := [.int .i64 0]) (ok := fun _ => True) (okp := fun _ => True) ?hr ?hp (fun _ hk => hk) trivial (Below.refl _ _) (Nat.le_refl _) (by simp) ?_; (case hd => rfl); (case hg => rfl); (case hr => first | (go_simp; done) | (go_simp; rfl)); (case hp => exact (Reps.one (show Kd.M (Kd.int .i64) _ _ _ 0 [.int .i64 0] from rfl) (Reps.none _ _))); intro v202 w18 ho19 hb hg_ hnew_; clear hg_ hnew_; (first | rw [← Ny201.out] at ho19 | (simp only [Int.reduceToNat] at ho19; rw [← Ny201.out] at ho19)); have HO203 := m_ (Kd.R_lower ho19 (below_size bz_)); replace HO199 := m_ (Kd.R_below ((Kd.R_mono (Rf_ (Kd.R_types HO199.out BK200.out (by decide))) (fun _ h_ => h_.1))) hb); replace BK200 := m_ (blk_below (g := gb200) (o := .cells #[.int .i64 3, .slice Ao15 y197.length co15] 24 (0, 0)) kb_ hb); replace HB := m_ (below_step bz_ hb); clear hb ho19; obtain ⟨Ao20, co20, eo20⟩ := Kd.R_slice HO203.out; subst eo20) | ((with_reducible refine gate_callee (f := 12) rfl ?_); refine gL_ (some 11) Try.func12 #[.agg #[.int .i64 3, .slice Ao15 y197.length co15], .slice Ao20 y201.length co20] ?_; (with_reducible refine (spt_Ways.calls k 3 _ _ y197 _ _ y201 t204 t207 _ ?side1 ?side2 ?side3 ?side4 A1.out).mono ?_); (case side1 => exact Cd_ (Kd.R_reads' HO199.out).2.2); (case side2 => exact (Kd.R_reads' HO199.out).2.1); (case side3 => exact Cd_ (Kd.R_reads' HO203.out).2.2); (case side4 => exact (Kd.R_reads' HO203.out).2.1); rintro e w21 ⟨v205, v208, rfl, ho0, ho1, hb⟩; refine ⟨_, rfl, ?_⟩; have HO206 := m_ (Kd.R_lower (Kd.R_new' ho0 (Kd.R_lt (Rz_ HO203.out))) (below_size bz_)); have HO209 := m_ (Kd.R_lower (Kd.R_new' ho1 (Kd.R_lt (Rz_ HO203.out))) (below_size bz_)); replace HO199 := m_ (Kd.R_below (Rz_ HO199.out) hb); replace HO203 := m_ (Kd.R_mono (Kd.R_told (Kd.R_told (Kd.R_old (Rz_ HO203.out) hb) (Kd.R_base ho0)) (Kd.R_base ho1)) (fun _ h_ => h_.1)); replace BK200 := m_ (kl_ gb200 hb); replace HB := m_ (below_step bz_ hb); (try clear hb); (try clear hb2); (try clear hk); (try clear hi); (try clear ho0); (try clear ho1)) | ((with_reducible refine gate_dst (N := 2) rfl ?_); (try (refine gate_guard (by rfl) ?_; dsimp only)); refine bx_ 2 29 #[.slice none 0 0, .slice none 0 0] ?_; intro gb210 hg w22 hbox hb; have BK210 := m_ (hbox); have GW210 := m_ ((gw_ : w.heap.size ≤ gb210)); have GE210 := m_ ((gw_ : w.heap.size ≤ gb210)); have NB200_210 := m_ ((gl_ : gb200 ≠ gb210)); have NB210_200 := m_ ((gr_ : gb210 ≠ gb200)); replace HO199 := m_ (Kd.R_below (Rz_ HO199.out) hb); replace HO203 := m_ (Kd.R_below (Rz_ HO203.out) hb); replace HO206 := m_ (Kd.R_below (Rz_ HO206.out) hb); replace HO209 := m_ (Kd.R_below (Rz_ HO209.out) hb); replace BK200 := m_ (kl_ gb200 hb); replace HB := m_ (below_step bz_ hb); clear hb hbox hg; obtain ⟨Ao23, co23, eo23⟩ := Kd.R_slice HO206.out; subst eo23; have hnb24 := NB210_200.out; have hnc24 := NB200_210.out; have hcz25 := cz2_ BK210.out; obtain ⟨Ao26, co26, eo26⟩ := Kd.R_slice HO209.out; subst eo26; have hcz27 := cz2_ BK200.out) | ((with_reducible refine gate_dst (N := 13) rfl ?_); (try (refine gate_guard (by rfl) ?_; dsimp only)); refine Kd.R_lit (Kd.int .i64) _ 3 ?hg (N := 13) ?hd (xs := ([2] : List Int)) (inner := [.int .i64 2]) (ok := fun _ => True) (okp := fun _ => True) ?hr ?hp (fun _ hk => hk) trivial (Below.refl _ _) (Nat.le_refl _) (by simp) ?_; (case hd => rfl); (case hg => rfl); (case hr => first | (go_simp; done) | (go_simp; rfl)); (case hp => exact (Reps.one (show Kd.M (Kd.int .i64) _ _ _ 2 [.int .i64 2] from rfl) (Reps.none _ _))); intro v212 w28 ho29 hb hg_ hnew_; clear hg_ hnew_; (first | rw [← Ny211.out] at ho29 | (simp only [Int.reduceToNat] at ho29; rw [← Ny211.out] at ho29)); have HO213 := m_ (Kd.R_lower (Kd.R_new' (Kd.R_new' (Kd.R_new' ho29 (Kd.R_lt ((Kd.R_mono (Rf_ (Kd.R_types HO203.out BK210.out (by decide))) (fun _ h_ => h_.1))))) (Kd.R_lt ((Kd.R_mono (Rf_ (Kd.R_types HO206.out BK210.out (by decide))) (fun _ h_ => h_.1))))) (Kd.R_lt ((Kd.R_mono (Rf_ (Kd.R_types HO209.out BK210.out (by decide))) (fun _ h_ => h_.1))))) (below_size bz_)); replace HO199 := m_ (Kd.R_below ((Kd.R_mono (Rf_ (Kd.R_types HO199.out BK210.out (by decide))) (fun _ h_ => h_.1))) hb); replace HO203 := m_ (Kd.R_elder' ((Kd.R_mono (Rf_ (Kd.R_types HO203.out BK210.out (by decide))) (fun _ h_ => h_.1))) (Kd.R_base ho29) hb); replace HO206 := m_ (Kd.R_elder' ((Kd.R_mono (Rf_ (Kd.R_types HO206.out BK210.out (by decide))) (fun _ h_ => h_.1))) (Kd.R_base ho29) hb); replace HO209 := m_ (Kd.R_elder' ((Kd.R_mono (Rf_ (Kd.R_types HO209.out BK210.out (by decide))) (fun _ h_ => h_.1))) (Kd.R_base ho29) hb); replace BK200 := m_ (blk_below (g := gb200) (o := .cells #[.int .i64 3, .slice Ao15 y197.length co15] 24 (0, 0)) kb_ hb); replace BK210 := m_ (blk_below (g := gb210) (o := .cells #[.slice Ao23 t204.length co23, .slice Ao26 t207.length co26] 29 (0, 0)) kb_ hb); replace HB := m_ (below_step bz_ hb); clear hb ho29; obtain ⟨Ao30, co30, eo30⟩ := Kd.R_slice HO213.out; subst eo30) | ((with_reducible refine gate_callee (f := 20) rfl ?_); refine gL_ (some 14) Try.func20 #[.agg #[.int .i64 3, .slice Ao15 y197.length co15], .int .i64 0, .slice Ao30 y211.length co30] ?_; (with_reducible refine (spt_Tree.calls k 3 _ _ y197 0 _ _ y211 t214 _ ?side1 ?side2 ?side3 ?side4 A2.out).mono ?_); (case side1 => exact Cd_ (Kd.R_reads' HO199.out).2.2); (case side2 => exact (Kd.R_reads' HO199.out).2.1); (case side3 => exact Cd_ (Kd.R_reads' HO213.out).2.2); (case side4 => exact (Kd.R_reads' HO213.out).2.1); rintro e w31 ⟨v215, rfl, ho0, hb⟩; refine ⟨_, rfl, ?_⟩; have HO216 := m_ (Kd.R_lower (Kd.R_new' (Kd.R_new' (Kd.R_new' (Kd.R_new' ho0 (Kd.R_lt (Rz_ HO203.out))) (Kd.R_lt (Rz_ HO206.out))) (Kd.R_lt (Rz_ HO209.out))) (Kd.R_lt (Rz_ HO213.out))) (below_size bz_)); replace HO199 := m_ (Kd.R_below (Rz_ HO199.out) hb); replace HO203 := m_ (Kd.R_elder' (Rz_ HO203.out) (Kd.R_base ho0) hb); replace HO206 := m_ (Kd.R_elder' (Rz_ HO206.out) (Kd.R_base ho0) hb); replace HO209 := m_ (Kd.R_elder' (Rz_ HO209.out) (Kd.R_base ho0) hb); replace HO213 := m_ (Kd.R_elder' (Rz_ HO213.out) (Kd.R_base ho0) hb); replace BK200 := m_ (kl_ gb200 hb); replace BK210 := m_ (kl_ gb210 hb); replace HB := m_ (below_step bz_ hb); (try clear hb); (try clear hb2); (try clear hk); (try clear hi); (try clear ho0); have hcz32 := cz2_ BK210.out; have p217 : 0 ≤ (2 : Int) := (by omega); have q217 : 2 < (t204.length : Int) := od_; obtain ⟨ad217, e217, hx217_0⟩ := Kd.at_int (Kd.R_reads' HO206.out).2.2 2 p217 q217; cases e217; (try simp only [show (2 : Int).toNat = 2 from rfl, Nat.reduceMul, Nat.reduceEqDiff, Go.Addr.add, ↓reduceIte] at hx217_0); have qi217 : (2 < t204.length) = True := eq_true (by omega); (try rw [show ((2 : Int)).toNat = 2 from rfl] at hx217_0); replace p217 := eq_true p217; replace q217 := eq_true q217; have p218 : 0 ≤ (2 : Int) := (by omega); have q218 : 2 < (t207.length : Int) := od_; obtain ⟨ad218, e218, hx218_0⟩ := Kd.at_int (Kd.R_reads' HO209.out).2.2 2 p218 q218; cases e218; (try simp only [show (2 : Int).toNat = 2 from rfl, Nat.reduceMul, Nat.reduceEqDiff, Go.Addr.add, ↓reduceIte] at hx218_0); have qi218 : (2 < t207.length) = True := eq_true (by omega); (try rw [show ((2 : Int)).toNat = 2 from rfl] at hx218_0); replace p218 := eq_true p218; replace q218 := eq_true q218; obtain ⟨Ao33, co33, eo33⟩ := Kd.R_slice HO216.out; subst eo33; have p219 : 0 ≤ (0 : Int) := (by omega); have q219 : 0 < (t214.length : Int) := od_; obtain ⟨ad219, e219, hx219_0⟩ := Kd.at_int (Kd.R_reads' HO216.out).2.2 0 p219 q219; cases e219; have qi219 : (0 < t214.length) = True := eq_true (by omega); (try rw [show ((0 : Int)).toNat = 0 from rfl] at hx219_0); (try rw [Addr.add_zero'] at hx219_0); replace p219 := eq_true p219; replace q219 := eq_true q219; have p220 : 0 ≤ (1 : Int) := (by omega); have q220 : 1 < (t214.length : Int) := od_; obtain ⟨ad220, e220, hx220_0⟩ := Kd.at_int (Kd.R_reads' HO216.out).2.2 1 p220 q220; obtain rfl : ad219 = ad220 := (by injection e220); (try simp only [show (1 : Int).toNat = 1 from rfl, Nat.reduceMul, Nat.reduceEqDiff, Go.Addr.add, ↓reduceIte] at hx220_0); have qi220 : (1 < t214.length) = True := eq_true (by omega); (try rw [show ((1 : Int)).toNat = 1 from rfl] at hx220_0); replace p220 := eq_true p220; replace q220 := eq_true q220))
           go_ret
           exact ⟨ew_, bz_⟩
          ·rw [if_neg c12] at H
           exact absurd H (by simp)
         ·rw [if_neg c11] at H
          exact absurd H (by simp)
        ·rw [if_neg c10] at H
         exact absurd H (by simp)
       ·rw [if_neg c9] at H
        exact absurd H (by simp)
      ·rw [if_neg c8] at H
       exact absurd H (by simp)
     ·rw [if_neg c7] at H
      exact absurd H (by simp)
    ·rw [if_neg c6] at H
     exact absurd H (by simp)
   ·rw [if_neg c5] at H
    exact absurd H (by simp)
  ·rw [if_neg c4] at H
   exact absurd H (by simp)
 ·rw [if_neg c3] at H
  exact absurd H (by simp)

end Go.Proofs.Ytkcphjdjhlikhaa.P

/- For each Go function a Lean function, and the proof that a call comes to what it tells: made by program out of the translation (the kit's print, with texts by hand put in). No condition. -/
import Derived.Test.YtkcphjdjhlikhaaSq
import Derived.Test.YtkcphjdjhlikhaaPx0
import Derived.Test.YtkcphjdjhlikhaaPx2
import Derived.Test.YtkcphjdjhlikhaaPx3
import Derived.Test.YtkcphjdjhlikhaaPx8
import Derived.Test.YtkcphjdjhlikhaaPx9
namespace Go.Proofs.Ytkcphjdjhlikhaa.P
open Go.RowKit Go.Proofs.Ytkcphjdjhlikhaa.HRows Go.Proofs.YtkcphjdjhlikhaaW.PrintWords Go.Proofs.YtkcphjdjhlikhaaW.PrintLast Go.Proofs.YtkcphjdjhlikhaaW.PrintMore
attribute [local go_sem] max2_int min2_int max_two min_two max_three min_three max_four min_four   -- for this text's walks alone
set_option linter.unusedVariables false
set_option linter.unusedSimpArgs false

/-! ### spt_Ways: function 12, by hand (spt.Ways.lean.tpl) -/
/-! #### by which links all is as far as it is -/
def waysP (L : List (S33)) (dist : List Int) (d : Int) (o : S59) : Bool := wrap64 (rd dist o.f1 + (rd_T33 L o.f0).f2) == d
def waysOk (L : List (S33)) (dist : List Int) (hops : List (S59)) : Bool := hops.all (fun o => decide (0 ≤ o.f1 ∧ o.f1 < (dist.length : Int)) && decide (0 ≤ o.f0 ∧ o.f0 < (L.length : Int)))
def waysLoop (k : Nat) (n : Int) (L : List (S33)) (dist : List Int) : Nat → Nat → List Int → Option (List Int)
 | 0, _, lk => some lk
 | m + 1, i, lk => if rd dist (i : Int) ≤ 0 then waysLoop k n L dist m (i + 1) lk else (graph_Next.f k n L (i : Int)).bind fun hops => if (waysOk L dist hops = true ∧ hops.any (waysP L dist (rd dist (i : Int))) = true) ∧ i < lk.length then waysLoop k n L dist m (i + 1) (lk.set i (rd_T59 hops (idxH (waysP L dist (rd dist (i : Int))) hops)).f0) else none
def spt_Ways.f (k : Nat) (a0_0 : Int) (l0_1 : List (S33)) (l1 : List Int) : Option (List Int × List Int) := (spt_blank.f a0_0 l0_1).bind fun b => (spt_far.f k a0_0 l0_1 l1).bind fun d => if d.length ≤ 1000 then (waysLoop k a0_0 l0_1 d d.length 0 b.2).bind fun lk => some (d, lk) else none
theorem waysLoop_mono (k : Nat) (n : Int) (L : List (S33)) (dist : List Int) : ∀ m i lk, LeO (waysLoop k n L dist m i lk) (waysLoop (k + 1) n L dist m i lk)
 | 0, _, _ => LeO.refl _
 | m + 1, i, lk => by
  unfold waysLoop
  exact LeO.ite (waysLoop_mono k n L dist m _ _) (LeO.bind (graph_Next.mono _ _ _ _) (fun hops => LeO.ite (waysLoop_mono k n L dist m _ _) (LeO.refl _)))
theorem spt_Ways.mono : ∀ a0 a1 a2 k, LeO (spt_Ways.f k a0 a1 a2) (spt_Ways.f (k + 1) a0 a1 a2) := by
 intro a0 a1 a2 k
 unfold spt_Ways.f
 exact LeO.bind (LeO.refl _) (fun b => LeO.bind (spt_far.mono _ _ _ _) (fun d => LeO.ite (LeO.bind (waysLoop_mono k _ _ _ _ _ _) (fun _ => LeO.refl _)) (LeO.refl _)))
set_option maxHeartbeats 2000000 in
set_option maxRecDepth 100000 in
/-- The question that 'Ways' asks of a hop. -/
theorem waysP_calls (g5 g2 g7 : Nat) (n d : Int) (A Ad Al : Option Addr) (c cd cl nl : Nat) (L : List (S33)) (dist : List Int) (o : S59) (W : World) (h5 : W.heap[g5]? = some (.cells #[.slice Ad dist.length cd, .slice Al nl cl] 29 (0, 0))) (h2 : W.heap[g2]? = some (.cells #[.int .i64 n, .slice A L.length c] 24 (0, 0))) (h7 : W.heap[g7]? = some (.cells #[.int .i64 d] 3 (0, 0)))
  (hd : Kd.C (Kd.int .i64) W Ad dist.length dist) (hL : Kd.C k33 W A L.length L) (ho1 : 0 ≤ o.f1 ∧ o.f1 < (dist.length : Int)) (ho0 : 0 ≤ o.f0 ∧ o.f0 < (L.length : Int)) :
  Calls Try.prog 31 (#[.agg #[.int .i64 o.f0, .int .i64 o.f1]] ++ #[.pointer (some ⟨g5, 0, none⟩), .pointer (some ⟨g2, 0, none⟩), .pointer (some ⟨g7, 0, none⟩)]) W fun e W' => e = .returned (.bool (waysP L dist d o)) ∧ Below W.heap.size W W' := by
 have hu59 := Try.underlying59
 have H5 := m_ h5
 have H2 := m_ h2
 have H7 := m_ h7
 have HD := m_ hd
 have HL := m_ hL
 have HO1 := m_ ho1
 have HO0 := m_ ho0
 clear h5 h2 h7 hd hL ho1 ho0
 obtain ⟨o0, o1⟩ := o
 dsimp only at HO1 HO0 ⊢
 rw [show (#[Value.agg #[.int .i64 o0, .int .i64 o1]] ++ #[.pointer (some ⟨g5, 0, none⟩), .pointer (some ⟨g2, 0, none⟩), .pointer (some ⟨g7, 0, none⟩)]) = #[Value.agg #[.int .i64 o0, .int .i64 o1], .pointer (some ⟨g5, 0, none⟩), .pointer (some ⟨g2, 0, none⟩), .pointer (some ⟨g7, 0, none⟩)] from rfl]
 go_enter Try.func31, Try.ntmps31
 go_wp2_with ((with_reducible refine gate_dst (N := 4) rfl ?_); refine bx_ 4 59 #[.int .i64 o0, .int .i64 o1] ?_; intro g4 hg w1 hbox hb; have B4 := m_ hbox; have HE := m_ hb; clear hb hbox hg; refine Stop0.out ?_)
 refine ⟨?_⟩
 have hcz := cz2_ B4.out
 have hcz5 := cz2_ (blk_below H5.out HE.out)
 have hcz2 := cz2_ (blk_below H2.out HE.out)
 have hcz7 := cz1_ (blk_below H7.out HE.out)
 obtain ⟨ad, cc, rfl, _, hK, hc0⟩ := Kd.C_get (Kd.C_below HD.out HE.out) 0 o1 HO1.out.1 HO1.out.2
 obtain rfl := hK
 have e0 := hc0 0 _ rfl
 rw [show (Kd.int .i64).sz = 1 from rfl, Nat.mul_one, Nat.add_zero] at e0
 have hrd : dist.getD o1.toNat 0 = rd dist o1 := rfl
 rw [hrd] at e0
 obtain ⟨adL, rfl, l0, l1, l2, l3⟩ := at_T33 (Kd.C_below HL.out HE.out) o0 HO0.out.1 HO0.out.2
 have hok1 := HO1.out.1
 have hok2 := HO1.out.2
 have hok3 := HO0.out.1
 have hok4 := HO0.out.2
 clear hc0 l0 l1 l3 hrd
 generalize hx : rd dist o1 = x at e0
 generalize hy : (rd_T33 L o0).f2 = y at l2
 have HX := m_ hx
 have HY := m_ hy
 clear hx hy
 have HC4 := m_ hcz
 have HC5 := m_ hcz5
 have HC2 := m_ hcz2
 have HC7 := m_ hcz7
 have HE0 := m_ e0
 have HL2 := m_ l2
 clear hcz hcz5 hcz2 hcz7 e0 l2
 go_upto_region 1 with (fail)
 (try simp only [Act.put, List.setIfInBounds_toArray, List.set_cons_zero, List.set_cons_succ])
 refine start_ (n := 17) (S := fun W => W.cell? ⟨g5, 0, none⟩ = some (.slice (some ad) dist.length cd) ∧ W.cell? ⟨g4, 1, none⟩ = some (.int .i64 o1) ∧ W.cell? (ad.add o1.toNat) = some (.int .i64 x) ∧ W.cell? ⟨g2, 1, none⟩ = some (.slice (some adL) L.length c) ∧ W.cell? ⟨g4, 0, none⟩ = some (.int .i64 o0) ∧ W.cell? ⟨(adL.add (o0.toNat * 4)).block, (adL.add (o0.toNat * 4)).off + 2, none⟩ = some (.int .i64 y) ∧ W.cell? ⟨g7, 0, none⟩ = some (.int .i64 d)) (ds := []) (bs_ 17 0) (by kernel_rfl) rfl rfl ⟨HC5.out.1, HC4.out.2.2.1, HE0.out, HC2.out.2.2.1, HC4.out.1, HL2.out, HC7.out.1⟩ (fun hHeld => ?_)
 refine pk_ 0 6 ?_
 refine tk_ 1 7 ?_
 refine pk_ 2 8 ?_
 refine tk_ 3 9 ?_
 refine pk_ 4 10 (v := .pointer (some (ad.add o1.toNat))) (hy := Or.inl ⟨by rfl, by intro w'; go_simp⟩) ?_
 refine tk_ 5 11 ?_
 refine pk_ 6 12 ?_
 refine tk_ 7 13 ?_
 refine pk_ 8 14 ?_
 refine tk_ 9 15 ?_
 refine pk_ 10 16 (v := .pointer (some (adL.add (o0.toNat * 4)))) (hy := Or.inl ⟨by rfl, by intro w'; go_simp⟩) ?_
 refine pk_ 11 17 (v := .pointer (some ⟨(adL.add (o0.toNat * 4)).block, (adL.add (o0.toNat * 4)).off + 2, none⟩)) (hy := Or.inl ⟨by rfl, by intro w'; go_simp⟩) ?_
 refine tk_ 12 18 ?_
 refine pk_ 13 19 (v := .int .i64 (wrap64 (x + y))) (hy := Or.inl ⟨by rfl, by intro w'; go_simp; rw [IntKind.wrap_i64]; unfold wrap64; omega⟩) ?_
 refine tk_ 14 20 ?_
 refine pk_ 15 21 (v := .bool (wrap64 (x + y) == d)) (hy := Or.inl ⟨by rfl, by intro w'; go_simp⟩) ?_
 refine pk_ 16 5 ?_
 refine done_ (by kernel_rfl) ?_
 (try simp only [Exit.inBlock, Exit.then])
 go_wp2
 go_ret
 refine ⟨?_, below_drew1 HE.out⟩
 unfold waysP
 dsimp only
 rw [HX.out, HY.out]
 rfl
theorem rd_set_ne (l : List Int) (i : Nat) (x : Int) (j : Nat) (h : i ≠ j) : rd (l.set i x) (j : Int) = rd l (j : Int) := by
 unfold rd
 rw [Int.toNat_natCast, List.getD_eq_getElem?_getD, List.getD_eq_getElem?_getD, List.getElem?_set_ne h]
/-- What the walk of 'Ways' keeps. -/
structure WaysRel (w : World) (g2 g4 g5 : Nat) (n : Int) (A : Option Addr) (c : Nat) (L : List (S33)) (vd vl : Value) (dist lk : List Int) (wr : World) : Prop where
 hB : Below w.heap.size w wr
 h2 : wr.heap[g2]? = some (.cells #[.int .i64 n, .slice A L.length c] 24 (0, 0))
 h4 : wr.heap[g4]? = some (.cells #[.slice none 0 0, .slice none 0 0] 29 (0, 0))
 h5 : wr.heap[g5]? = some (.cells #[vd, vl] 29 (0, 0))
 hd : Kd.R (Kd.int .i64) 3 wr w.heap.size (fun _ => True) vd dist
 hl : Kd.R (Kd.int .i64) 3 wr w.heap.size (fun _ => True) vl lk
 ne : ∀ k, vd.ownBlock = some k → vl.ownBlock ≠ some k
 hg : w.heap.size ≤ g2 ∧ w.heap.size ≤ g4 ∧ w.heap.size ≤ g5 ∧ g4 ≠ g5
section
variable {w : World} {g2 g4 g5 : Nat} {n : Int} {A : Option Addr} {c : Nat} {L : List (S33)} {vd vl : Value} {dist lk : List Int} {wr wr' : World}
theorem WaysRel.below (H : WaysRel w g2 g4 g5 n A c L vd vl dist lk wr) (hb : Below wr.heap.size wr wr') : WaysRel w g2 g4 g5 n A c L vd vl dist lk wr' :=
 ⟨below_then H.hB H.hB.size hb, blk_below H.h2 hb, blk_below H.h4 hb, blk_below H.h5 hb, Kd.R_below H.hd hb, Kd.R_below H.hl hb, H.ne, H.hg⟩
theorem WaysRel.fresh {g : Nat} (H : WaysRel w g2 g4 g5 n A c L vd vl dist lk wr) (on : Only g wr wr') (hg : w.heap.size ≤ g) (h2 : g2 ≠ g) (h4 : g4 ≠ g) (h5 : g5 ≠ g) (hd : some g ≠ vd.ownBlock) (hl : some g ≠ vl.ownBlock) : WaysRel w g2 g4 g5 n A c L vd vl dist lk wr' :=
 ⟨on.below H.hB hg, on.blk h2 H.h2, on.blk h4 H.h4, on.blk h5 H.h5, Kd.R_grown1 H.hd rfl on.grown hd, Kd.R_grown1 H.hl rfl on.grown hl, H.ne, H.hg⟩
theorem WaysRel.put {gl m cap : Nat} (H : WaysRel w g2 g4 g5 n A c L vd (.slice (some ⟨gl, 0, none⟩) m cap) dist lk wr) (hgl : w.heap.size ≤ gl) (i x : Int) :
  WaysRel w g2 g4 g5 n A c L vd (.slice (some ⟨gl, 0, none⟩) m cap) dist (lk.set i.toNat x) (wr.setCell ⟨gl, i.toNat, none⟩ (.int .i64 x)) := by
 have hp := Kd.R_putg H.hl i x
 have hn : ∀ {g t : Nat} {cells : Array Value}, wr.heap[g]? = some (.cells cells t (0, 0)) → 3 ≠ t → g ≠ gl := fun hc ht e => Kd.R_ne H.hl hc ht (by rw [e]; rfl)
 refine ⟨below_set H.hB hgl, blk_away H.h2 (hn H.h2 (by decide)) _, blk_away H.h4 (hn H.h4 (by decide)) _, blk_away H.h5 (hn H.h5 (by decide)) _, Kd.R_grown1 H.hd rfl hp.2 (fun e => ?_), hp.1, H.ne, H.hg⟩
 exact H.ne gl e.symm rfl
end
set_option maxHeartbeats 4000000 in
set_option maxRecDepth 100000 in
theorem spt_Ways.calls (k : Nat) (a0_0 : Int) (A0_1 : Option Addr) (c0_1 : Nat) (l0_1 : List (S33)) (A1 : Option Addr) (c1 : Nat) (l1 : List Int) (r1 r2 : List Int) (w : World) (hr0_1 : Kd.C k33 w A0_1 l0_1.length l0_1) (hc0_1 : l0_1.length ≤ c0_1) (hr1 : Kd.C (Kd.int .i64) w A1 l1.length l1) (hc1 : l1.length ≤ c1) (h : spt_Ways.f k a0_0 l0_1 l1 = some (r1, r2)) :
  Calls Try.prog 12 #[.agg #[.int .i64 a0_0, .slice A0_1 l0_1.length c0_1], .slice A1 l1.length c1] w fun e w' => ∃ v0_ v1_ : Value, e = .returned (.agg #[v0_, v1_]) ∧ Kd.R (Kd.int .i64) 3 w' w.heap.size (fun k_ => some k_ ≠ (v1_ : Value).ownBlock) v0_ r1 ∧ Kd.R (Kd.int .i64) 3 w' w.heap.size (fun k_ => some k_ ≠ (v0_ : Value).ownBlock) v1_ r2 ∧ Below w.heap.size w w' := by
 unfold spt_Ways.f at h
 obtain ⟨⟨b1, b2⟩, hbl, h⟩ := Option.bind_eq_some_iff.mp h
 obtain ⟨dist, hfar, h⟩ := Option.bind_eq_some_iff.mp h
 dsimp only at h
 split at h
 case isFalse => cases h
 case isTrue hb1 =>
 obtain ⟨lk, hlk, h⟩ := Option.bind_eq_some_iff.mp h
 simp only [Option.some.injEq, Prod.mk.injEq] at h
 obtain ⟨rfl, rfl⟩ := h
 have hu24 := Try.underlying24
 have hu29 := Try.underlying29
 have hu59 := Try.underlying59
 have HR0 := m_ hr0_1
 have HC0 := m_ hc0_1
 have HR1 := m_ hr1
 have HC1 := m_ hc1
 have HBL := m_ hbl
 have HFAR := m_ hfar
 have HLK := m_ hlk
 have HDL := m_ hb1
 clear hr0_1 hc0_1 hr1 hc1 hbl hfar hlk hb1
 have HB := m_ (Below.refl w.heap.size w)
 have hmf : ∀ fn first cap w, (Instr.makeFunc fn first cap).run Try.prog w = .ok (.func fn first cap) w := fun _ _ _ _ => rfl
 go_enter Try.func12, Try.ntmps12
 go_wp2_with (first | ((with_reducible refine gate_dst (N := 2) rfl ?_); refine bx_ 2 24 #[.int .i64 a0_0, .slice A0_1 l0_1.length c0_1] ?_; intro g2 hg w1 hbox hb; have B2 := m_ hbox; have G2 := m_ (Nat.le_of_eq hg.symm); replace HB := m_ hb; clear hb hbox hg; have hcz := cz2_ B2.out) | ((with_reducible refine gate_dst (N := 4) rfl ?_); refine bx_ 4 29 #[.slice none 0 0, .slice none 0 0] ?_; intro g4 hg w2 hbox hb; have B4 := m_ hbox; have G4 := m_ (show w.heap.size ≤ g4 from by rw [hg]; exact HB.out.size); replace B2 := m_ (blk_below B2.out hb); replace HB := m_ (below_then HB.out HB.out.size hb); clear hb hbox hg hcz; have hcz := cz2_ B2.out) | (go_at_call 27; refine Stop0.out ?_))
 refine ⟨?_⟩
 clear hcz
 refine (spt_blank.calls a0_0 A0_1 c0_1 l0_1 b1 b2 w2 (Kd.C_below HR0.out HB.out) HC0.out HBL.out).mono ?_
 rintro e w3 ⟨vb, vl, rfl, hRb, hRl, hb⟩
 have HLr := m_ (Kd.R_lower (Kd.R_mono hRl (fun _ _ => trivial)) HB.out.size)
 have HBr := m_ (Kd.R_lower (Kd.R_mono hRb (fun _ _ => trivial)) HB.out.size)
 replace B2 := m_ (blk_below B2.out hb)
 replace B4 := m_ (blk_below B4.out hb)
 replace HB := m_ (below_then HB.out HB.out.size hb)
 clear hRb hRl hb HBL
 obtain ⟨Ab, cb, eb⟩ := Kd.R_slice HBr.out
 obtain ⟨Al, cl, el⟩ := Kd.R_slice HLr.out
 subst eb
 subst el
 go_wp2_with ((with_reducible refine gate_dst (N := 5) rfl ?_); refine bx_ 5 29 #[.slice none 0 0, .slice none 0 0] ?_; intro g5 hg5 w4 hbox hb; have B5 := m_ hbox; have Z5 := m_ hg5; have HE := m_ hb; clear hb hbox hg5; refine Stop0.out ?_)
 refine ⟨?_⟩
 have G5 := m_ (show w.heap.size ≤ g5 from by rw [Z5.out]; exact HB.out.size)
 have N5 := m_ (show g2 ≠ g5 ∧ g4 ≠ g5 from ⟨by rw [Z5.out]; exact Nat.ne_of_lt (blk_lt B2.out), by rw [Z5.out]; exact Nat.ne_of_lt (blk_lt B4.out)⟩)
 have NL := m_ (show some g5 ≠ (Value.slice Al b2.length cl).ownBlock from fun e => by have := Kd.R_lt HLr.out g5 e.symm; have := Z5.out; omega)
 replace B2 := m_ (blk_below B2.out HE.out)
 replace B4 := m_ (blk_below B4.out HE.out)
 replace HLr := m_ (Kd.R_below HLr.out HE.out)
 refine blk_write (cs' := #[.slice Ab b1.length cb, .slice Al b2.length cl]) rfl rfl rfl (#[Value.slice Ab b1.length cb, .slice Al b2.length cl]).toList rfl rfl rfl rfl (by simp [Value.oneCell']) B5.out (by simp) rfl ?_
 intro w5 bk on
 replace B2 := m_ (on.blk N5.out.1 B2.out)
 replace B4 := m_ (on.blk N5.out.2 B4.out)
 replace HLr := m_ (Kd.R_grown1 HLr.out rfl on.grown NL.out)
 replace HB := m_ (on.below (below_then HB.out HB.out.size HE.out) G5.out)
 replace B5 := m_ bk
 clear bk on HE Z5 HBr NL
 have hcz := cz2_ B2.out
 go_wp2_with (go_at_call 28; refine Stop0.out ?_)
 refine ⟨?_⟩
 refine (spt_far.calls k a0_0 A0_1 c0_1 l0_1 A1 c1 l1 dist w5 (Kd.C_below HR0.out HB.out) HC0.out (Kd.C_below HR1.out HB.out) HC1.out HFAR.out).mono ?_
 rintro e w6 ⟨vd, rfl, hRd, hb⟩
 have NE := m_ (show ∀ q, vd.ownBlock = some q → (Value.slice Al b2.length cl).ownBlock ≠ some q from fun q h1 h2 => by have h3 := Kd.R_base hRd q h1; have h4 := Kd.R_lt HLr.out q h2; omega)
 have HDr := m_ (Kd.R_lower hRd HB.out.size)
 replace B2 := m_ (blk_below B2.out hb)
 replace B4 := m_ (blk_below B4.out hb)
 replace B5 := m_ (blk_below B5.out hb)
 replace HLr := m_ (Kd.R_below HLr.out hb)
 replace HB := m_ (below_then HB.out HB.out.size hb)
 clear hRd hb hcz HFAR HR1 HC1
 obtain ⟨Ad, cd, ed⟩ := Kd.R_slice HDr.out
 subst ed
 have hcz := cz2_ B5.out
 go_wp2_with ((with_reducible refine gate_store (t := 25) (p := 15) (v := .tmp 14) rfl ?_); refine Stop0.out ?_)
 refine ⟨?_⟩
 refine st_ 25 15 (w6.setCell ⟨g5, 0, none⟩ (.slice Ad dist.length cd)) ?_
 intro w7 hw7
 have HW : Aside0 (WaysRel w g2 g4 g5 a0_0 A0_1 c0_1 l0_1 (.slice Ad dist.length cd) (.slice Al b2.length cl) dist b2 w7) := ⟨by
  rw [hw7]
  exact ⟨below_set HB.out G5.out, blk_away B2.out N5.out.1 _, blk_away B4.out N5.out.2 _, (blk_set B5.out 0 _).trans rfl, Kd.R_set HDr.out B5.out (by decide) _ _, Kd.R_set HLr.out B5.out (by decide) _ _, NE.out, G2.out, G4.out, G5.out, N5.out.2⟩⟩
 clear hw7 hcz B2 B4 B5 HLr HDr HB NE N5 G2 G4 G5
 have HLK0 : Aside0 (waysLoop k a0_0 l0_1 dist (dist.length - 0) 0 b2 = some lk) := ⟨HLK.out⟩
 clear HLK
 have hcz := cz2_ HW.out.h5
 go_wp2
 clear hcz
 go_loopg [19] dist.length (fun q s19 wr => ∃ (i : Nat) (ll : List Int), i ≤ dist.length ∧ dist.length - i ≤ q ∧ s19 = .int .i64 i ∧ Aside0 (WaysRel w g2 g4 g5 a0_0 A0_1 c0_1 l0_1 (.slice Ad dist.length cd) (.slice Al b2.length cl) dist ll wr) ∧ Aside0 (waysLoop k a0_0 l0_1 dist (dist.length - i) i ll = some lk))
 case atStart => exact ⟨0, b2, Nat.zero_le _, by omega, rfl, HW, HLK0⟩
 case round =>
  clear HW HLK0
  obtain ⟨i, ll, hi, hg, rfl, HW, HLK⟩ := hrel
  have hl3 := HDL.out
  by_cases hlt : i < dist.length
  ·have hlt' : (i : Int) < (dist.length : Int) := by omega
   obtain ⟨ad, cc, eA, _, hK, hc0⟩ := Kd.C_get (Kd.R_reads' HW.out.hd).2.2 0 (i : Int) (by omega) (by omega)
   subst eA
   obtain rfl := hK
   have e0 := hc0 0 _ rfl
   rw [Int.toNat_natCast, show (Kd.int .i64).sz = 1 from rfl, Nat.mul_one, Nat.add_zero, show dist.getD i 0 = rd dist (i : Int) from by unfold rd; rw [Int.toNat_natCast]] at e0
   have hq := HLK.out
   rw [show dist.length - i = (dist.length - (i + 1)) + 1 from by omega] at hq
   unfold waysLoop at hq
   have HI := m_ hlt
   generalize rd dist (i : Int) = d at e0 hq
   have HQ := m_ hq
   clear hc0 hq HLK hlt
   go_wp2_with ((with_reducible refine gate_dst (N := 7) rfl ?_); refine bx_ 7 3 #[.int .i64 0] ?_; intro g7 hg7 w8 hbox hb; have B7 := m_ hbox; have Z7 := m_ hg7; have HE := m_ hb; clear hb hbox hg7; refine Stop0.out ?_)
   refine ⟨?_⟩
   clear e0
   have G7 := m_ (show w.heap.size ≤ g7 from by rw [Z7.out]; exact HW.out.hB.size)
   have N7 := m_ (show (g2 ≠ g7 ∧ g4 ≠ g7 ∧ g5 ≠ g7) ∧ some g7 ≠ (Value.slice (some ad) dist.length cd).ownBlock ∧ some g7 ≠ (Value.slice Al b2.length cl).ownBlock from ⟨⟨by rw [Z7.out]; exact Nat.ne_of_lt (blk_lt HW.out.h2), by rw [Z7.out]; exact Nat.ne_of_lt (blk_lt HW.out.h4), by rw [Z7.out]; exact Nat.ne_of_lt (blk_lt HW.out.h5)⟩, fun e => by have := Kd.R_lt HW.out.hd g7 e.symm; have := Z7.out; omega, fun e => by have := Kd.R_lt HW.out.hl g7 e.symm; have := Z7.out; omega⟩)
   have HW8 := m_ (HW.out.below HE.out)
   clear HW HE Z7
   go_wp2_with ((with_reducible refine gate_store (t := 3) (p := 7) (v := .tmp 23) rfl ?_); refine Stop0.out ?_)
   refine ⟨?_⟩
   refine blk_write (cs' := #[.int .i64 d]) rfl rfl rfl [Value.int .i64 d] rfl rfl rfl rfl (by simp [Value.oneCell']) B7.out (by simp) rfl ?_
   intro w9 bk on
   have HW9 := m_ (HW8.out.fresh on G7.out N7.out.1.1 N7.out.1.2.1 N7.out.1.2.2 N7.out.2.1 N7.out.2.2)
   replace B7 := m_ bk
   clear bk on HW8
   have hcz := cz1_ B7.out
   by_cases hd0 : d ≤ 0
   ·have hq := HQ.out
    rw [if_pos hd0] at hq
    have HLK := m_ hq
    have hd1 : decide (d ≤ 0) = true := decide_eq_true hd0
    clear hq HQ
    go_wp2
    clear hcz
    go_roundg (dist.length - (i + 1))
    case measure => have := HI.out; omega
    case rel => exact ⟨i + 1, ll, (by have := HI.out; omega), (by omega), by go_num, HW9, HLK⟩
   ·have hq := HQ.out
    rw [if_neg hd0] at hq
    obtain ⟨hops, hnx, hq⟩ := Option.bind_eq_some_iff.mp hq
    split at hq
    case isFalse => cases hq
    case isTrue hok =>
    have HLK := m_ hq
    have HNX := m_ hnx
    have HOK := m_ hok
    have hd1 : decide (d ≤ 0) = false := decide_eq_false hd0
    clear hq HQ hnx hok
    have hcz2 := cz2_ HW9.out.h2
    go_wp2_with (go_at_call 29; refine Stop0.out ?_)
    refine ⟨?_⟩
    refine (graph_Next.calls k a0_0 A0_1 c0_1 l0_1 (i : Int) hops w9 (Kd.C_below HR0.out HW9.out.hB) HC0.out HNX.out).mono ?_
    rintro e w10 ⟨vh, rfl, hRh, hb⟩
    have HO := m_ (Kd.R_lower hRh HW9.out.hB.size)
    have HW10 := m_ (HW9.out.below hb)
    replace B7 := m_ (blk_below B7.out hb)
    obtain ⟨Ah, ch, eh⟩ := Kd.R_slice hRh
    subst eh
    clear hb hRh hcz hcz2 HW9 HNX hd1 hd0
    go_wp2_with (go_at_call 30; refine Stop0.out ?_)
    refine ⟨?_⟩
    refine (ixHop.calls 31 #[.pointer (some ⟨g5, 0, none⟩), .pointer (some ⟨g2, 0, none⟩), .pointer (some ⟨g7, 0, none⟩)] (waysP l0_1 dist d) Ah ch hops w10 (fun _ _ => rfl) (Kd.R_reads' HO.out).2.2 (fun x W hb hx => ?_)).mono ?_
    ·have hx2 := List.all_eq_true.1 HOK.out.1.1 x hx
     simp only [Bool.and_eq_true, decide_eq_true_eq] at hx2
     exact waysP_calls g5 g2 g7 a0_0 d A0_1 (some ad) Al c0_1 cd cl b2.length l0_1 dist x W (blk_below HW10.out.h5 hb) (blk_below HW10.out.h2 hb) (blk_below B7.out hb) (Kd.C_below (Kd.R_reads' HW10.out.hd).2.2 hb) (Kd.C_below (Kd.C_below HR0.out HW10.out.hB) hb) hx2.1 hx2.2
    rintro e w11 ⟨rfl, hb⟩
    have HW11 := m_ (HW10.out.below hb)
    have HO11 := m_ (Kd.R_below HO.out hb)
    clear hb HW10 HO B7
    have hidx : 0 ≤ idxH (waysP l0_1 dist d) hops ∧ idxH (waysP l0_1 dist d) hops < (hops.length : Int) := by
     unfold idxH
     rw [if_pos HOK.out.1.2]
     obtain ⟨x, hx, hp⟩ := List.any_eq_true.1 HOK.out.1.2
     have := List.findIdx_lt_length_of_exists ⟨x, hx, hp⟩
     omega
    generalize idxH (waysP l0_1 dist d) hops = ix at hidx HLK ⊢
    obtain ⟨adh, eA, f0, f1⟩ := at_T59 (Kd.R_reads' HO11.out).2.2 ix hidx.1 hidx.2
    subst eA
    generalize (rd_T59 hops ix).f0 = lnk at f0 HLK
    have HF0 := m_ f0
    obtain ⟨gl, cgl, el, hgl, _, cellsl, hcl⟩ := Kd.R_form HW11.out.hl (by have := HOK.out.2; omega)
    have hll : b2.length = ll.length := by injection el
    obtain ⟨rfl, -, rfl⟩ : Al = some ⟨gl, 0, none⟩ ∧ b2.length = ll.length ∧ cl = cgl := by
     injection el with e1 e2 e3
     exact ⟨e1, e2, e3⟩
    have hok1 := hidx.1
    have hok2 := hidx.2
    have hil : (i : Int) < (b2.length : Int) := by have := HOK.out.2; omega
    have HIL := m_ (And.intro hil hgl)
    clear f0 f1 hidx el hgl hcl hll
    go_upto_region 9 with (fail)
    (try simp only [Act.put, List.setIfInBounds_toArray, List.set_cons_zero, List.set_cons_succ])
    refine start_ (n := 10) (S := fun W => W.cell? ⟨g5, 1, none⟩ = some (.slice (some ⟨gl, 0, none⟩) b2.length cl) ∧ W.cell? (adh.add (ix.toNat * 2)) = some (.int .i64 lnk)) (ds := [9]) (bs_ 10 0) (by kernel_rfl) rfl rfl ⟨(blk_cell (blk_drew HW11.out.h5) 1).trans rfl, HF0.out⟩ (fun hHeld => ?_)
    refine pk_ 0 32 ?_
    refine tk_ 1 33 ?_
    refine pk_ 2 34 ?_
    refine pk_ 3 35 ?_
    refine pk_ 4 36 ?_
    refine pk_ 5 37 (v := .pointer (some (adh.add (ix.toNat * 2)))) (hy := Or.inl ⟨by rfl, by intro w'; go_simp⟩) ?_
    refine pk_ 6 38 ?_
    refine tk_ 7 39 ?_
    refine pk_ 8 40 (v := .pointer (some ⟨gl, i, none⟩)) (hy := Or.inl ⟨by rfl, by intro w'; go_simp⟩) ?_
    have HW12 := m_ (HW11.out.below (below_drew1 (Below.refl _ _)))
    have hcl := Kd.R_celln 0 HW12.out.hl (i : Int) (by omega) HIL.out.1
    rw [Int.toNat_natCast] at hcl
    refine last_ (i := 9) (N := none) (bs_ 10 (0 + 2 ^ 0 + 2 ^ 1 + 2 ^ 2 + 2 ^ 3 + 2 ^ 4 + 2 ^ 5 + 2 ^ 6 + 2 ^ 7 + 2 ^ 8 + 2 ^ 9)) rfl rfl (by kernel_rfl) (by decide) (fun K hK => ?_)
    refine skip_ (w1 := ?_) (by rfl) rfl ?_ ?_
    rotate_left
    ·go_simp
     rfl
    refine hK.out _ _ ?_
    clear hK K hHeld hcl
    have HW13 := HW12.out.put HIL.out.2 (i : Int) lnk
    rw [Int.toNat_natCast] at HW13
    rw [show w11.drew.setCell ⟨gl, i, none⟩ (.int .i64 lnk) = (w11.setCell ⟨gl, i, none⟩ (.int .i64 lnk)).drew from rfl] at HW13
    have HW14 := m_ HW13
    clear HW13 HW12 HW11
    refine done_ (by kernel_rfl) ?_
    (try simp only [Exit.inBlock, Exit.then])
    generalize World.drew (World.setCell _ _ _) = w13 at HW14 ⊢
    go_wp2
    go_roundg (dist.length - (i + 1))
    case measure => have := HI.out; omega
    case rel => exact ⟨i + 1, ll.set i lnk, (by have := HI.out; omega), (by omega), by go_num, HW14, HLK⟩
  ·obtain rfl : i = dist.length := by omega
   have hlt' : ¬ ((dist.length : Int) < (dist.length : Int)) := by omega
   have hq := HLK.out
   rw [Nat.sub_self] at hq
   obtain rfl := Option.some.inj hq
   clear hq HLK hlt
   have hcz := cz2_ HW.out.h5
   go_wp2_with ((with_reducible refine gate_store (t := 29) (p := 4) (v := .tmp 42) rfl ?_); refine Stop0.out ?_)
   refine ⟨?_⟩
   have hn24 : g5 ≠ g4 := fun e => HW.out.hg.2.2.2 e.symm
   refine blk_write (cs' := #[.slice Ad dist.length cd, .slice Al b2.length cl]) rfl rfl rfl (#[Value.slice Ad dist.length cd, .slice Al b2.length cl]).toList rfl rfl rfl rfl (by simp [Value.oneCell']) HW.out.h4 (by simp) rfl ?_
   intro w9 bk on
   have BK := m_ bk
   have hne1 : some g4 ≠ (Value.slice Ad dist.length cd).ownBlock := Kd.R_ne HW.out.hd HW.out.h4 (by decide)
   have hne2 : some g4 ≠ (Value.slice Al b2.length cl).ownBlock := Kd.R_ne HW.out.hl HW.out.h4 (by decide)
   have HD := m_ (Kd.R_grown1 HW.out.hd rfl on.grown hne1)
   have HL := m_ (Kd.R_grown1 HW.out.hl rfl on.grown hne2)
   have HB := m_ (on.below HW.out.hB HW.out.hg.2.1)
   have HNE := m_ HW.out.ne
   clear bk on hcz hn24 hne1 hne2 HW
   go_wp2
   refine bodyPost_ret (results_cell_row rfl _ _ g4 29 #[.slice Ad dist.length cd, .slice Al b2.length cl] (0, 0) _ rfl BK.out Try.underlying29 rfl (by kernel_rfl)) rfl ?_
   refine ⟨_, _, rfl, Kd.R_reok rfl HD.out (fun q hq => fun e => HNE.out q hq e.symm), Kd.R_reok rfl HL.out (fun q hq => fun e => HNE.out q e.symm hq), HB.out⟩

/-! ### spt_back: function 35, by hand (spt.back.lean.tpl) -/
/-! #### the way back, link by link -/
/-- The links of a way, from its end on. -/
def backL (n : Int) (L : List (S33)) (lk : List Int) : Nat → Int → Option (List Int)
 | 0, _ => none
 | f + 1, x => if 0 ≤ x ∧ x < n then (if x < (lk.length : Int) then (if rd lk x = -1 then some [] else if 0 ≤ rd lk x ∧ rd lk x < (L.length : Int) then (backL n L lk f (wrap64 (wrap64 ((rd_T33 L (rd lk x)).f0 + (rd_T33 L (rd lk x)).f1) - x))).map (rd lk x :: ·) else none) else none) else some []
open Classical in
noncomputable def fuelB (n : Int) (L : List (S33)) (lk : List Int) (x : Int) : Nat := if h : ∃ f, (backL n L lk f x).isSome = true then Classical.choose (least_ex h) else 0
theorem fuelB_le {n : Int} {L : List (S33)} {lk : List Int} {f : Nat} {x : Int} {xs : List Int} (h : backL n L lk f x = some xs) : fuelB n L lk x ≤ f := by
 unfold fuelB
 have hex : ∃ f, (backL n L lk f x).isSome = true := ⟨f, by rw [h]; rfl⟩
 rw [dif_pos hex]
 exact (Classical.choose_spec (least_ex hex)).2 f (by rw [h]; rfl)
theorem fuelB_spec {n : Int} {L : List (S33)} {lk : List Int} {f : Nat} {x : Int} {xs : List Int} (h : backL n L lk f x = some xs) : ∃ ys, backL n L lk (fuelB n L lk x) x = some ys := by
 unfold fuelB
 have hex : ∃ f, (backL n L lk f x).isSome = true := ⟨f, by rw [h]; rfl⟩
 rw [dif_pos hex]
 have := (Classical.choose_spec (least_ex hex)).1
 exact Option.isSome_iff_exists.1 this
/-- A step of the way: what is left is shorter. -/
theorem back_step {n : Int} {L : List (S33)} {lk : List Int} {f : Nat} {x : Int} {xs : List Int} (h : backL n L lk (f + 1) x = some xs) (h1 : 0 ≤ x ∧ x < n) (h2 : rd lk x ≠ -1) :
  x < (lk.length : Int) ∧ (0 ≤ rd lk x ∧ rd lk x < (L.length : Int)) ∧ ∃ ys, xs = rd lk x :: ys ∧ backL n L lk f (wrap64 (wrap64 ((rd_T33 L (rd lk x)).f0 + (rd_T33 L (rd lk x)).f1) - x)) = some ys := by
 unfold backL at h
 rw [if_pos h1] at h
 by_cases h3 : x < (lk.length : Int)
 case neg => rw [if_neg h3] at h; cases h
 rw [if_pos h3, if_neg h2] at h
 by_cases h4 : 0 ≤ rd lk x ∧ rd lk x < (L.length : Int)
 case neg => rw [if_neg h4] at h; cases h
 rw [if_pos h4] at h
 obtain ⟨ys, h5, h6⟩ := Option.map_eq_some_iff.1 h
 exact ⟨h3, h4, ys, h6.symm, h5⟩
theorem back_fuel {n : Int} {L : List (S33)} {lk : List Int} {f : Nat} {x : Int} {xs : List Int} (h : backL n L lk (f + 1) x = some xs) (h1 : 0 ≤ x ∧ x < n) (h2 : rd lk x ≠ -1) :
  fuelB n L lk (wrap64 (wrap64 ((rd_T33 L (rd lk x)).f0 + (rd_T33 L (rd lk x)).f1) - x)) < fuelB n L lk x := by
 obtain ⟨ys, hy⟩ := fuelB_spec h
 cases hf : fuelB n L lk x with
 | zero => rw [hf] at hy; cases hy
 | succ g =>
  rw [hf] at hy
  obtain ⟨-, -, zs, -, hz⟩ := back_step hy h1 h2
  have := fuelB_le hz
  omega
/-- What is left of a way at a world: by the box of where it stands. -/
noncomputable def leftB (n : Int) (L : List (S33)) (lk : List Int) (gn : Nat) (W : World) : Nat := match W.cell? ⟨gn, 0, none⟩ with
 | some (.int _ x) => fuelB n L lk x
 | _ => 0
theorem leftB_eq {n : Int} {L : List (S33)} {lk : List Int} {gn : Nat} {W : World} {x : Int} (h : W.heap[gn]? = some (.cells #[.int .i64 x] 3 (0, 0))) : leftB n L lk gn W = fuelB n L lk x := by
 unfold leftB
 rw [(blk_cell h 0).trans rfl]
 rfl
/-- What the walk of a way's iterator keeps. -/
structure BackRel (ok : Nat → Prop) (gg gn gp : Nat) (n : Int) (A : Option Addr) (c : Nat) (L : List (S33)) (vd : Value) (Al : Option Addr) (cl : Nat) (lk : List Int) (x : Int) (W : World) : Prop where
 hg : W.heap[gg]? = some (.cells #[.int .i64 n, .slice A L.length c] 24 (0, 0))
 hn : W.heap[gn]? = some (.cells #[.int .i64 x] 3 (0, 0))
 hp : W.heap[gp]? = some (.cells #[vd, .slice Al lk.length cl] 29 (0, 0))
 hL : Kd.F k33 W ok A L.length L
 hl : Kd.F (Kd.int .i64) W ok Al lk.length lk
 ok' : ok gg ∧ ok gp ∧ ¬ ok gn
theorem BackRel.kept {ok own : Nat → Prop} {gg gn gp : Nat} {n : Int} {A : Option Addr} {c : Nat} {L : List (S33)} {vd : Value} {Al : Option Addr} {cl : Nat} {lk : List Int} {x : Int} {W W' : World} (h : BackRel ok gg gn gp n A c L vd Al cl lk x W) (hk : KpB own W W') (ho : ∀ k, own k → ¬ ok k ∧ k ≠ gn) : BackRel ok gg gn gp n A c L vd Al cl lk x W' :=
 ⟨(hk.block _ (blk_lt h.hg) (fun e => (ho _ e).1 h.ok'.1)).trans h.hg, (hk.block _ (blk_lt h.hn) (fun e => (ho _ e).2 rfl)).trans h.hn, (hk.block _ (blk_lt h.hp) (fun e => (ho _ e).1 h.ok'.2.1)).trans h.hp, Kd.F_step h.hL (fun k hk' hlt => hk.block k hlt (fun e => (ho _ e).1 hk')), Kd.F_step h.hl (fun k hk' hlt => hk.block k hlt (fun e => (ho _ e).1 hk')), h.ok'⟩
theorem BackRel.below {ok : Nat → Prop} {gg gn gp : Nat} {n : Int} {A : Option Addr} {c : Nat} {L : List (S33)} {vd : Value} {Al : Option Addr} {cl : Nat} {lk : List Int} {x : Int} {W W' : World} (h : BackRel ok gg gn gp n A c L vd Al cl lk x W) (hb : Below W.heap.size W W') : BackRel ok gg gn gp n A c L vd Al cl lk x W' :=
 h.kept (own := fun _ => False) ⟨hb.os, hb.tape, hb.output, hb.size, fun k hk _ => hb.block k hk⟩ (fun _ h => h.elim)
theorem BackRel.turn {ok : Nat → Prop} {gg gn gp : Nat} {n : Int} {A : Option Addr} {c : Nat} {L : List (S33)} {vd : Value} {Al : Option Addr} {cl : Nat} {lk : List Int} {x : Int} {W : World} (h : BackRel ok gg gn gp n A c L vd Al cl lk x W) (y : Int) : BackRel ok gg gn gp n A c L vd Al cl lk y (W.setCell ⟨gn, 0, none⟩ (.int .i64 y)) := by
 have hf : ∀ k, ok k → (W.setCell ⟨gn, 0, none⟩ (.int .i64 y)).heap[k]? = W.heap[k]? := fun k hk => Below.heap_setCell W ⟨gn, 0, none⟩ _ k (fun e => h.ok'.2.2 ((show k = gn from e) ▸ hk))
 exact ⟨(hf _ h.ok'.1).trans h.hg, blk_set h.hn 0 _, (hf _ h.ok'.2.1).trans h.hp, Kd.F_step h.hL (fun k hk _ => hf k hk), Kd.F_step h.hl (fun k hk _ => hf k hk), h.ok'⟩
attribute [local go_sem] Oper.semAt_some
set_option maxHeartbeats 4000000 in
set_option maxRecDepth 100000 in
theorem back_seq (m : Nat) (ok : Nat → Prop) (gg gn gp : Nat) (n : Int) (A : Option Addr) (c : Nat) (L : List (S33)) (vd : Value) (Al : Option Addr) (cl : Nat) (lk : List Int) (hcL : L.length ≤ c) (hcl : lk.length ≤ cl) (f : Nat) (x : Int) (xs : List Int) (hx : backL n L lk f x = some xs) (fr : Nat → Prop) (w0 : World) (hR0 : BackRel ok gg gn gp n A c L vd Al cl lk x w0) :
  SeqB Fence.wide m Try.prog 47 #[.pointer (some ⟨gg, 0, none⟩), .pointer (some ⟨gn, 0, none⟩), .pointer (some ⟨gp, 0, none⟩)] ok (fun ys => ys = xs) xs.length gn fr w0 := by
 intro l J own W hb0 hJ hY h0
 have hu24 := Try.underlying24
 have hu29 := Try.underlying29
 have hu33 := Try.underlying33
 have HJ := m_ hJ
 have HY := m_ hY
 have HCL := m_ (And.intro hcL hcl)
 have HX := m_ hx
 have H0 := m_ h0
 have HR := m_ (hR0.below hb0)
 have HG0 := m_ (Grb.of (fr := fr) (b := gn) hb0)
 clear hJ hY hcL hcl hx h0 hR0 hb0
 refine callsIn_of_wp Try.func47 rfl trivial ?_ rfl
 simp only [Try.ntmps47, List.size_toArray, List.length_cons, List.length_nil, Nat.reduceAdd, Nat.reduceSub, Array.replicate_succ, Array.replicate_zero, List.push_toArray, List.append_toArray, List.nil_append, List.cons_append]
 gi_wp2
 gi_loopw [5] (fun _ wr => ∃ (pre rest : List Int) (g : Nat) (y : Int), xs = pre ++ rest ∧ Aside0 (backL n L lk g y = some rest) ∧ Aside0 (J pre wr) ∧ Aside0 (BackRel ok gg gn gp n A c L vd Al cl lk y wr) ∧ Aside0 (Grb fr gn w0 wr)) (fun _ wr => leftB n L lk gn wr)
 case atStart => exact ⟨[], xs, f, x, rfl, HX, H0, HR, HG0⟩
 case round =>
  clear HR H0 HX HG0
  obtain ⟨pre, rest, g, y, hxs, HG, HJP, HR, HGR⟩ := hrel
  cases g with
  | zero => have := HG.out; cases this
  | succ g =>
  have hcz := cz2_ HR.out.hg
  have hczn := cz1_ HR.out.hn
  have hczp := cz2_ HR.out.hp
  by_cases h1 : 0 ≤ y ∧ y < n
  ·have HIS := m_ (show spt_isNode.f n L y = some true from by rw [isNode_f, decide_eq_true h1])
   have h3 : y < (lk.length : Int) := by
    have hg := HG.out
    unfold backL at hg
    rw [if_pos h1] at hg
    by_cases h3 : y < (lk.length : Int)
    ·exact h3
    ·rw [if_neg h3] at hg; cases hg
   have HH := m_ (And.intro h1 h3)
   have hy0 := h1.1
   obtain ⟨adl, cc, eA, _, hK, hc0⟩ := Kd.C_get (Kd.F_now HR.out.hl) 0 y (by omega) (by omega)
   subst eA
   obtain rfl := hK
   have e0 := hc0 0 _ rfl
   rw [show (Kd.int .i64).sz = 1 from rfl, Nat.mul_one, Nat.add_zero, show lk.getD y.toNat 0 = rd lk y from rfl] at e0
   clear hc0 h1
   by_cases h2 : rd lk y = -1
   ·have h2b : (rd lk y != -1) = false := bne_eq_false_iff_eq.mpr h2
    have HE : Aside0 (rest = []) := ⟨by have hg := HG.out; unfold backL at hg; rw [if_pos HH.out.1, if_pos HH.out.2, if_pos h2] at hg; exact (Option.some.inj hg).symm⟩
    rw [h2] at e0
    clear h2 h2b
    gi_wp2_with (refine ⟨trivial, (fun h => by cases h), ?_⟩; gi_at_call 42; refine (callsIn_wide.2 (spt_isNode.calls n A c L y true wr (Kd.F_now HR.out.hL) HCL.out.1 HIS.out)).mono ?_; rintro e w2 ⟨rfl, hb⟩; have hcz2 := cz2_ (blk_below HR.out.hg hb); have hczn2 := cz1_ (blk_below HR.out.hn hb); have hczp2 := cz2_ (blk_below HR.out.hp hb); have e02 := (cell_below_ e0 hb); have HB2 := m_ hb; clear hb hcz hczn hczp e0)
    go_end0
    have HJ2 := HJ.out.grown HJP.out (grownBy_below HB2.out (some gn))
    obtain rfl := HE.out
    rw [List.append_nil] at hxs
    subst hxs
    exact ⟨⟨_, rfl⟩, _, rfl, HJ2.1, HGR.out.keep (grownBy_below HB2.out (some gn))⟩
   ·have h2b : (rd lk y != -1) = true := by simpa using h2
    obtain ⟨-, h4, ys, hys, hg2⟩ := back_step HG.out HH.out.1 h2
    have HG2 := m_ hg2
    have HYS := m_ hys
    have HFU := m_ (back_fuel HG.out HH.out.1 h2)
    generalize hv : rd lk y = v at e0 h4 h2 h2b HG2 HYS HFU
    have HV := m_ (And.intro hv h2)
    have HL4 := m_ h4
    obtain ⟨adL, eA, l0, l1, l2, l3⟩ := at_T33 (Kd.F_now HR.out.hL) v h4.1 h4.2
    subst eA
    generalize rd_T33 L v = rw at l0 l1 l2 l3 HG2 HFU
    obtain ⟨r0, r1, r2, r3⟩ := rw
    dsimp only at l0 l1 l2 l3 HG2 HFU
    gi_wp2_with (refine ⟨trivial, (fun h => by cases h), ?_⟩; gi_at_call 42; refine (callsIn_wide.2 (spt_isNode.calls n (some adL) c L y true wr (Kd.F_now HR.out.hL) HCL.out.1 HIS.out)).mono ?_; rintro e w2 ⟨rfl, hb⟩; have hcz2 := cz2_ (blk_below HR.out.hg hb); have hczn2 := cz1_ (blk_below HR.out.hn hb); have hczp2 := cz2_ (blk_below HR.out.hp hb); have e02 := (cell_below_ e0 hb); have l02 := (cell_below_ l0 hb); have l12 := (cell_below_ l1 hb); have l22 := (cell_below_ l2 hb); have l32 := (cell_below_ l3 hb); have HB2 := m_ hb; clear hb hcz hczn hczp e0 l0 l1 l2 l3)
    have HR2 := m_ (HR.out.below HB2.out)
    have HJ2 := m_ (HJ.out.grown HJP.out (grownBy_below HB2.out (some gn)))
    have HGR2 := m_ (HGR.out.keep (grownBy_below HB2.out (some gn)))
    have hy2 := HH.out.2
    have hv0 := HL4.out
    refine wpIn_wide.2 ?_
    (try simp only [Act.put, List.setIfInBounds_toArray, List.set_cons_zero, List.set_cons_succ])
    refine start_ (n := 11) (S := fun W => W.cell? ⟨gg, 1, none⟩ = some (.slice (some adL) L.length c) ∧ W.cell? ⟨gp, 1, none⟩ = some (.slice (some adl) lk.length cl) ∧ W.cell? ⟨gn, 0, none⟩ = some (.int .i64 y) ∧ W.cell? (adl.add y.toNat) = some (.int .i64 v) ∧ W.cell? (adL.add (v.toNat * 4)) = some (.int .i64 r0) ∧ W.cell? ⟨(adL.add (v.toNat * 4)).block, (adL.add (v.toNat * 4)).off + 1, none⟩ = some (.int .i64 r1) ∧ W.cell? ⟨(adL.add (v.toNat * 4)).block, (adL.add (v.toNat * 4)).off + 2, none⟩ = some (.int .i64 r2) ∧ W.cell? ⟨(adL.add (v.toNat * 4)).block, (adL.add (v.toNat * 4)).off + 3, none⟩ = some (.bool r3)) (ds := [10]) (bs_ 11 0) (by kernel_rfl) rfl rfl ⟨hcz2.2.2.1, hczp2.2.2.1, hczn2.1, e02, l02, l12, l22, l32⟩ (fun hHeld => ?_)
    refine pk_ 0 17 ?_
    refine tk_ 1 18 ?_
    refine pk_ 2 19 ?_
    refine tk_ 3 20 ?_
    refine tk_ 4 21 ?_
    refine pk_ 5 22 (v := .pointer (some (adl.add y.toNat))) (hy := Or.inl ⟨by rfl, by intro w'; go_simp⟩) ?_
    refine tk_ 6 23 ?_
    refine pk_ 7 24 (v := .pointer (some (adL.add (v.toNat * 4)))) (hy := Or.inl ⟨by rfl, by intro w'; go_simp⟩) ?_
    refine tk_ 8 25 (v := .agg #[.int .i64 r0, .int .i64 r1, .int .i64 r2, .bool r3]) (hy := Or.inl ⟨by rfl, by intro w' hS_; go_simp⟩) ?_
    refine one_ (i := 9) (N := some 5) (bs_ 11 (0 + 2 ^ 0 + 2 ^ 1 + 2 ^ 2 + 2 ^ 3 + 2 ^ 4 + 2 ^ 5 + 2 ^ 6 + 2 ^ 7 + 2 ^ 8 + 2 ^ 9)) rfl rfl (by kernel_rfl) (by decide) (fun K hK => ?_)
    refine lay_ 33 #[.int .i64 0, .int .i64 0, .int .i64 0, .bool false] ?_ (by go_simp)
    refine hK.out _ _ ⟨cell_alloc_ hHeld.1 _, cell_alloc_ hHeld.2.1 _, cell_alloc_ hHeld.2.2.1 _, cell_alloc_ hHeld.2.2.2.1 _, cell_alloc_ hHeld.2.2.2.2.1 _, cell_alloc_ hHeld.2.2.2.2.2.1 _, cell_alloc_ hHeld.2.2.2.2.2.2.1 _, cell_alloc_ hHeld.2.2.2.2.2.2.2 _⟩ (fun hHeld2 => ?_)
    clear hK K hHeld hHeld2
    refine nz_ (some 5) ?_
    obtain ⟨gh, hgh⟩ : ∃ gh, gh = w2.heap.size := ⟨_, rfl⟩
    have hb3 : Below w2.heap.size w2 (w2.drew.alloc (.cells #[.int .i64 0, .int .i64 0, .int .i64 0, .bool false] 33 (0, 0))) := below_alloc (below_drew1 (Below.refl _ _)) _
    have hn3 := blk_new w2.drew (.cells #[.int .i64 0, .int .i64 0, .int .i64 0, .bool false] 33 (0, 0))
    rw [show w2.drew.heap.size = w2.heap.size from rfl, ← hgh] at hn3
    rw [show w2.drew.heap.size = gh from hgh.symm]
    generalize w2.drew.alloc (.cells #[.int .i64 0, .int .i64 0, .int .i64 0, .bool false] 33 (0, 0)) = w3 at hb3 hn3 ⊢
    have HGH := m_ hgh
    clear hgh
    have hcz3 := cz4_ hn3
    refine last_ (i := 10) (N := none) (bs_ 11 (0 + 2 ^ 0 + 2 ^ 1 + 2 ^ 2 + 2 ^ 3 + 2 ^ 4 + 2 ^ 5 + 2 ^ 6 + 2 ^ 7 + 2 ^ 8 + 2 ^ 9 + 2 ^ 10)) rfl rfl (by kernel_rfl) (by decide) (fun K hK => ?_)
    refine skip_ (w1 := ?_) (by rfl) rfl ?_ ?_
    rotate_left
    ·go_simp
     rfl
    refine hK.out _ _ ?_
    clear hK K
    refine done_ (by kernel_rfl) ?_
    (try simp only [Exit.inBlock, Exit.then])
    generalize hw4 : World.setCell (World.setCell (World.setCell (World.setCell w3 _ _) _ _) _ _) _ _ = w4
    have hn4 : w4.heap[gh]? = some (.cells #[.int .i64 r0, .int .i64 r1, .int .i64 r2, .bool r3] 33 (0, 0)) := by
     rw [← hw4]
     exact blk_put (blk_put (blk_put (blk_put hn3 0 (.int .i64 r0) rfl) 1 (.int .i64 r1) rfl) 2 (.int .i64 r2) rfl) 3 (.bool r3) rfl
    have hb4 : Below w2.heap.size w2 w4 := by
     rw [← hw4]
     have hge : w2.heap.size ≤ gh := Nat.le_of_eq HGH.out.symm
     exact (((hb3.setCell hge _).setCell hge _).setCell hge _).setCell hge _
    clear hw4 hb3 hn3 hcz3 hcz2 hczn2 hczp2 e02 l02 l12 l22 l32
    have HR4 := m_ (HR2.out.below hb4)
    have HJ4 := m_ (HJ.out.grown HJ2.out.1 (grownBy_below hb4 (some gn)))
    have HGR4 := m_ (HGR2.out.keep (grownBy_below hb4 (some gn)))
    have HN4 := m_ hn4
    have HNO : Aside0 (¬ own w4 gh) := ⟨fun h => by have := (HJ.out.own _ _ _ HJ2.out.1 (HJ4.out.2 _ h)).2.1; have := HGH.out; omega⟩
    clear hb4
    have hcz4 := cz2_ HR4.out.hg
    have hczn4 := cz1_ HR4.out.hn
    have hczp4 := cz2_ HR4.out.hp
    obtain ⟨ad4, cc, eA, _, hK, hc0⟩ := Kd.C_get (Kd.F_now HR4.out.hl) 0 y hy0 hy2
    obtain rfl : adl = ad4 := Option.some.inj eA
    obtain rfl := hK
    have e04 := hc0 0 _ rfl
    rw [show (Kd.int .i64).sz = 1 from rfl, Nat.mul_one, Nat.add_zero, show lk.getD y.toNat 0 = rd lk y from rfl, HV.out.1] at e04
    clear hc0 eA
    obtain ⟨fn5, tm5, as5, bd5, hyl, hrd⟩ := HY.out pre v w4 HJ4.out.1 HGR4.out (by rw [hxs, HYS.out, List.length_append, List.length_cons]; omega)
    have HRD := m_ hrd
    clear hrd hn4
    gi_wp2
    refine ⟨(fun h => by cases h), HRD.out.mono ?_⟩
    rintro e w5 ⟨rfl, hJ5, hk5⟩
    have hn5 : w5.heap[gh]? = some (.cells #[.int .i64 r0, .int .i64 r1, .int .i64 r2, .bool r3] 33 (0, 0)) := (hk5.block _ (blk_lt HN4.out) HNO.out).trans HN4.out
    have HR5 := m_ (HR4.out.kept hk5 (fun k hk => (HJ.out.own _ _ _ HJ4.out.1 hk).2.2))
    have HGR5 := m_ (KpB.grown HGR4.out hk5 (fun k hk => (HJ.out.own _ _ _ HJ4.out.1 hk).1))
    have HJ5 := m_ hJ5
    have hcz5 := cz4_ hn5
    have hczn5 := cz1_ HR5.out.hn
    clear hn5 hJ5 hk5 hcz4 hczn4 hczp4 e04 hyl
    gi_wp2
    have HRT := HR5.out.turn (wrap64 (wrap64 (r0 + r1) - y))
    have hgt : w5.grownBy (w5.setCell ⟨gn, 0, none⟩ (.int .i64 (wrap64 (wrap64 (r0 + r1) - y)))) (some gn) := ⟨rfl, rfl, rfl, by simp [World.setCell], fun k _ hne => Below.heap_setCell w5 ⟨gn, 0, none⟩ _ k (fun e => hne (congrArg some e))⟩
    go_roundw
    case measure =>
     rw [leftB_eq HRT.hn, leftB_eq HR.out.hn]
     exact HFU.out
    case rel => exact ⟨pre ++ [v], ys, g, _, by rw [hxs, HYS.out, List.append_assoc]; rfl, HG2, ⟨(HJ.out.grown HJ5.out hgt).1⟩, ⟨HRT⟩, ⟨HGR5.out.keep hgt⟩⟩
  ·have HIS := m_ (show spt_isNode.f n L y = some false from by rw [isNode_f, decide_eq_false h1])
   have HE : Aside0 (rest = []) := ⟨by have hg := HG.out; unfold backL at hg; rw [if_neg h1] at hg; exact (Option.some.inj hg).symm⟩
   clear h1
   gi_wp2_with (refine ⟨trivial, (fun h => by cases h), ?_⟩; gi_at_call 42; refine (callsIn_wide.2 (spt_isNode.calls n A c L y false wr (Kd.F_now HR.out.hL) HCL.out.1 HIS.out)).mono ?_; rintro e w2 ⟨rfl, hb⟩; have HB2 := m_ hb; clear hb)
   go_end0
   have HJ2 := HJ.out.grown HJP.out (grownBy_below HB2.out (some gn))
   obtain rfl := HE.out
   rw [List.append_nil] at hxs
   subst hxs
   exact ⟨⟨_, rfl⟩, _, rfl, HJ2.1, HGR.out.keep (grownBy_below HB2.out (some gn))⟩
/-- What back hands over: three boxes of its own. -/
theorem back_calls (n : Int) (A : Option Addr) (c : Nat) (L : List (S33)) (Ad : Option Addr) (nd cd : Nat) (Al : Option Addr) (cl : Nat) (lk : List Int) (x : Int) (w : World) (okL : Nat → Prop) (hL : Kd.F k33 w okL A L.length L) (hl : Kd.F (Kd.int .i64) w okL Al lk.length lk) :
  Calls Try.prog 35 #[.agg #[.int .i64 n, .slice A L.length c], .agg #[.slice Ad nd cd, .slice Al lk.length cl], .int .i64 x] w fun e w' => ∃ gg gn gp, e = .returned (.func (.func 47) #[] #[.pointer (some ⟨gg, 0, none⟩), .pointer (some ⟨gn, 0, none⟩), .pointer (some ⟨gp, 0, none⟩)]) ∧ w.heap.size ≤ gn ∧ gn < w'.heap.size ∧ Below w.heap.size w w' ∧ BackRel (fun k => k < w'.heap.size ∧ k ≠ gn ∧ (w.heap.size ≤ k ∨ okL k)) gg gn gp n A c L (.slice Ad nd cd) Al cl lk x w' := by
 have HL := m_ (And.intro hL hl)
 clear hL hl
 go_enter Try.func35, Try.ntmps35
 go_wp2
 go_ret
 have z1 : ∀ (W : World) (o : Obj), (W.alloc o).heap.size = W.heap.size + 1 := fun W o => World.size_alloc W o
 obtain ⟨w1, hw1⟩ : ∃ w1, w.alloc (.cells #[.int .i64 n, .slice A L.length c] 24 (0, 0)) = w1 := ⟨_, rfl⟩
 obtain ⟨w2, hw2⟩ : ∃ w2, w1.alloc (.cells #[.slice Ad nd cd, .slice Al lk.length cl] 29 (0, 0)) = w2 := ⟨_, rfl⟩
 obtain ⟨w3, hw3⟩ : ∃ w3, w2.alloc (.cells #[.int .i64 x] 3 (0, 0)) = w3 := ⟨_, rfl⟩
 have s1 : w1.heap.size = w.heap.size + 1 := by rw [← hw1]; exact z1 _ _
 have s2 : w2.heap.size = w.heap.size + 2 := by rw [← hw2, z1, s1]
 have s3 : w3.heap.size = w.heap.size + 3 := by rw [← hw3, z1, s2]
 have b1 : w1.heap[w.heap.size]? = some (.cells #[.int .i64 n, .slice A L.length c] 24 (0, 0)) := by rw [← hw1]; exact blk_new _ _
 have b2 : w2.heap[w.heap.size + 1]? = some (.cells #[.slice Ad nd cd, .slice Al lk.length cl] 29 (0, 0)) := by rw [← hw2, ← s1]; exact blk_new _ _
 have b3 : w3.heap[w.heap.size + 2]? = some (.cells #[.int .i64 x] 3 (0, 0)) := by rw [← hw3, ← s2]; exact blk_new _ _
 have c1 : w3.heap[w.heap.size]? = some (.cells #[.int .i64 n, .slice A L.length c] 24 (0, 0)) := by rw [← hw3, ← hw2]; exact blk_alloc (blk_alloc b1 _) _
 have c2 : w3.heap[w.heap.size + 1]? = some (.cells #[.slice Ad nd cd, .slice Al lk.length cl] 29 (0, 0)) := by rw [← hw3]; exact blk_alloc b2 _
 have hb : Below w.heap.size w w3 := by rw [← hw3, ← hw2, ← hw1]; exact below_alloc (below_alloc (below_alloc (Below.refl _ _) _) _) _
 rw [hw1, hw2, hw3]
 refine ⟨w.heap.size, w.heap.size + 2, w.heap.size + 1, by simp [s1, s2], by omega, by omega, hb, c1, b3, c2, ?_, ?_, ⟨by omega, by omega, Or.inl (by omega)⟩, ⟨by omega, by omega, Or.inl (by omega)⟩, fun h => h.2.1 rfl⟩
 ·exact Kd.F_mono (Kd.F_old HL.out.1 hb) (fun k hk => ⟨by omega, by omega, Or.inr hk.1⟩)
 ·exact Kd.F_mono (Kd.F_old HL.out.2 hb) (fun k hk => ⟨by omega, by omega, Or.inr hk.1⟩)
theorem back_enters : ∀ args w, (callFunc 47 args).run Try.prog w = .ok (.enter 47 args) w := by
 intro args w
 simp [callFunc, go_sem, Try.func47]
 rfl
theorem backL_mono (n : Int) (L : List (S33)) (lk : List Int) : ∀ k x, LeO (backL n L lk k x) (backL n L lk (k + 1) x)
 | 0, _ => LeO.none _
 | k + 1, x => by
  unfold backL
  refine LeO.ite (LeO.ite (LeO.ite (LeO.refl _) (LeO.ite ?_ (LeO.refl _))) (LeO.refl _)) (LeO.refl _)
  intro r hr
  obtain ⟨ys, h1, h2⟩ := Option.map_eq_some_iff.1 hr
  rw [backL_mono n L lk k _ _ h1]
  exact congrArg some h2

/-! ### cmp_Less_int: function 61 -/
def cmp_Less_int.f (a0 : Int) (a1 : Int) : Option (Bool) := (cmp_isNaN_int.f a0).bind fun t181 => (if t181 = true then ((cmp_isNaN_int.f a1).bind fun t182 => (if t182 = true then (some (decide (a0 < a1))) else (some true))) else (some (decide (a0 < a1))))
set_option maxHeartbeats 8000000 in
set_option maxRecDepth 100000 in
theorem cmp_Less_int.calls (a0 : Int) (a1 : Int) (r : Bool) (w : World) (h : cmp_Less_int.f a0 a1 = some r) :
  Calls Try.prog 61 #[.int .i64 a0, .int .i64 a1] w fun e w' => e = .returned (.bool r) ∧ Drawn0 w w' := by
 have H : ((cmp_isNaN_int.f a0).bind fun t181 => (if t181 = true then ((cmp_isNaN_int.f a1).bind fun t182 => (if t182 = true then (some (decide (a0 < a1))) else (some true))) else (some (decide (a0 < a1))))) = some r := h
 clear h
 replace H := Option.bind_eq_some_iff.mp H
 obtain ⟨t181, A30, H⟩ := H
 replace H : (if t181 = true then ((cmp_isNaN_int.f a1).bind fun t182 => (if t182 = true then (some (decide (a0 < a1))) else (some true))) else (some (decide (a0 < a1)))) = some r := H
 have A3 := m_ A30
 clear A30
 by_cases c4 : t181 = true
 ·subst c4
  have H1 : ((cmp_isNaN_int.f a1).bind fun t182 => (if t182 = true then (some (decide (a0 < a1))) else (some true))) = some r := by rw [if_pos rfl] at H; exact H
  clear H
  have H := H1
  clear H1
  replace H := Option.bind_eq_some_iff.mp H
  obtain ⟨t182, A50, H⟩ := H
  replace H : (if t182 = true then (some (decide (a0 < a1))) else (some true)) = some r := H
  have A5 := m_ A50
  clear A50
  by_cases c6 : t182 = true
  ·subst c6
   have H1 : (some (decide (a0 < a1))) = some r := by rw [if_pos rfl] at H; exact H
   clear H
   have H := H1
   clear H1
   obtain rfl := Option.some.inj H
   go_enter Try.func61, Try.ntmps61
   go_wp2_with (first | ((with_reducible refine gate_callee (f := 75) rfl ?_); refine gL_ (some 6) Try.func75 #[.int .i64 a0] ?_; (with_reducible refine (cmp_isNaN_int.calls a0 true _ A3.out).mono ?_); rintro e w' ⟨rfl, ⟨nd, rfl⟩⟩; refine ⟨_, rfl, ?_⟩) | (go_at_call 75; (with_reducible refine (cmp_isNaN_int.calls a1 true _ A5.out).mono ?_); rintro e w' ⟨rfl, ⟨nd, rfl⟩⟩))
   go_ret
   exact ⟨(by first | rfl | (simp; done) | (simp [*]; done)), (by repeat (first | exact Drawn0.refl _ | apply Drawn0.step))⟩
  ·replace c6 := Bool.eq_false_iff.mpr c6
   subst c6
   have H1 : (some true) = some r := by rw [if_neg (show ¬ (false = true) by decide)] at H; exact H
   clear H
   have H := H1
   clear H1
   obtain rfl := Option.some.inj H
   go_enter Try.func61, Try.ntmps61
   go_wp2_with (first | ((with_reducible refine gate_callee (f := 75) rfl ?_); refine gL_ (some 6) Try.func75 #[.int .i64 a0] ?_; (with_reducible refine (cmp_isNaN_int.calls a0 true _ A3.out).mono ?_); rintro e w' ⟨rfl, ⟨nd, rfl⟩⟩; refine ⟨_, rfl, ?_⟩) | (go_at_call 75; (with_reducible refine (cmp_isNaN_int.calls a1 false _ A5.out).mono ?_); rintro e w' ⟨rfl, ⟨nd, rfl⟩⟩))
   go_ret
   exact ⟨(by first | rfl | (simp; done) | (simp [*]; done)), (by repeat (first | exact Drawn0.refl _ | apply Drawn0.step))⟩
 ·replace c4 := Bool.eq_false_iff.mpr c4
  subst c4
  have H1 : (some (decide (a0 < a1))) = some r := by rw [if_neg (show ¬ (false = true) by decide)] at H; exact H
  clear H
  have H := H1
  clear H1
  obtain rfl := Option.some.inj H
  go_enter Try.func61, Try.ntmps61
  go_wp2_with (first | ((with_reducible refine gate_callee (f := 75) rfl ?_); refine gL_ (some 6) Try.func75 #[.int .i64 a0] ?_; (with_reducible refine (cmp_isNaN_int.calls a0 false _ A3.out).mono ?_); rintro e w' ⟨rfl, ⟨nd, rfl⟩⟩; refine ⟨_, rfl, ?_⟩))
  go_ret
  exact ⟨(by first | rfl | (simp; done) | (simp [*]; done)), (by repeat (first | exact Drawn0.refl _ | apply Drawn0.step))⟩

-- NOT PRINTED: function 55 (slices_insertionSortOrdered_int)

-- NOT PRINTED: function 70 (slices_siftDownOrdered_int)

-- NOT PRINTED: function 56 (slices_heapSortOrdered_int)

-- NOT PRINTED: function 64 (bits_Len32)

-- NOT PRINTED: function 65 (bits_Len64)

-- NOT PRINTED: function 49 (bits_Len)

-- NOT PRINTED: function 71 (slices_nextPowerOfTwo)

-- NOT PRINTED: function 72 (slices_xorshift_Next)

-- NOT PRINTED: function 57 (slices_breakPatternsOrdered_int)

-- NOT PRINTED: function 78 (slices_order2Ordered_int)

-- NOT PRINTED: function 74 (slices_medianOrdered_int)

-- NOT PRINTED: function 73 (slices_medianAdjacentOrdered_int)

-- NOT PRINTED: function 58 (slices_choosePivotOrdered_int)

-- NOT PRINTED: function 59 (slices_reverseRangeOrdered_int)

-- NOT PRINTED: function 60 (slices_partialInsertionSortOrdered_int)

-- NOT PRINTED: function 62 (slices_partitionEqualOrdered_int)

-- NOT PRINTED: function 63 (slices_partitionOrdered_int)

-- NOT PRINTED: function 48 (slices_pdqsortOrdered_int)

-- NOT PRINTED: function 38 (slices_Sort_int_int)

-- NOT PRINTED: function 39 (slices_Compact_int_int)

end Go.Proofs.Ytkcphjdjhlikhaa.P

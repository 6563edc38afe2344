/- For each Go function a Lean function, and the proof that a call comes to what it tells: made by program out of the translation (the kit's print, with texts by hand put in). No condition. -/
import Derived.Test.YteibolilodgjnaaSq
import Derived.Test.YteibolilodgjnaaPx0
import Derived.Test.YteibolilodgjnaaPx8
namespace Go.Proofs.Yteibolilodgjnaa.P
open Go.RowKit Go.Proofs.Yteibolilodgjnaa.HRows Go.Proofs.YteibolilodgjnaaW.PrintWords Go.Proofs.YteibolilodgjnaaW.PrintLast Go.Proofs.YteibolilodgjnaaW.PrintMore
attribute [local go_sem] max2_int min2_int max_two min_two max_three min_three max_four min_four   -- for this text's walks alone
set_option linter.unusedVariables false
set_option linter.unusedSimpArgs false

/-! ### flow_Send: function 15, by hand (flow.Send.lean.tpl) -/
/-- What goes out. -/
def sendF (outs : List (S53)) (i src dst tag id : Int) : List (S55) := (outs.filter (fun o => !(o.f0 == i))).map (fun o => ⟨o.f0, ⟨src, dst, if o.f1 = true then 0 else tag, id⟩⟩)
theorem sendF_snoc (outs : List (S53)) (o : S53) (i src dst tag id : Int) : sendF (outs ++ [o]) i src dst tag id = if o.f0 = i then sendF outs i src dst tag id else sendF outs i src dst tag id ++ [⟨o.f0, ⟨src, dst, if o.f1 = true then 0 else tag, id⟩⟩] := by
 unfold sendF
 rw [List.filter_append, List.map_append]
 by_cases h : o.f0 = i
 ·simp [h]
 ·simp [h]
theorem sendF_len (outs : List (S53)) (i src dst tag id : Int) : (sendF outs i src dst tag id).length ≤ outs.length := by
 unfold sendF
 rw [List.length_map]
 exact List.length_filter_le _ _
def flow_Send.f (l0 : List (S27)) (a1 : Int) (a2_0 a2_1 a2_2 a2_3 : Int) : Option (List (S55)) := (flow_Find.f l0 a1 a2_0 a2_1 a2_2 a2_3).bind fun b => if b.2.2.2.2.2.2 = true then (if b.2.2.2.2.2.1.length ≤ 1000000 then some (sendF b.2.2.2.2.2.1 a1 a2_0 a2_1 (if b.2.2.2.2.1 = 0 then a2_2 else b.2.2.2.2.1) a2_3) else none) else some []
theorem blk4 {W : World} {g : Nat} {t : TypeId} {v0 v1 v2 v3 : Value} (h : W.heap[g]? = some (.cells #[v0, v1, v2, v3] t (0, 0))) : W.cell? ⟨g, 0, none⟩ = some v0 ∧ W.cell? ⟨g, 1, none⟩ = some v1 ∧ W.cell? ⟨g, 2, none⟩ = some v2 ∧ W.cell? ⟨g, 3, none⟩ = some v3 :=
 ⟨(bc_ h 0).trans rfl, (bc_ h 1).trans rfl, (bc_ h 2).trans rfl, (bc_ h 3).trans rfl⟩
set_option maxHeartbeats 4000000 in
set_option maxRecDepth 100000 in
theorem flow_Send.calls (A0 : Option Addr) (c0 : Nat) (l0 : List (S27)) (a1 : Int) (a2_0 a2_1 a2_2 a2_3 : Int) (r : List (S55)) (w : World) (hr0 : Kd.C k27 w A0 l0.length l0) (hc0 : l0.length ≤ c0) (h : flow_Send.f l0 a1 a2_0 a2_1 a2_2 a2_3 = some r) :
  Calls Try.prog 15 #[.slice A0 l0.length c0, .int .i64 a1, .agg #[.int .u32 a2_0, .int .u32 a2_1, .int .u32 a2_2, .int .i64 a2_3]] w fun e w' => ∃ v0_ : Value, e = .returned (v0_) ∧ Kd.R k55 55 w' w.heap.size (fun _ => True) v0_ r ∧ Below w.heap.size w w' := by
 obtain ⟨⟨q0, q1, q2, q3, q4, q5, q6⟩, hf, h⟩ := Option.bind_eq_some_iff.mp h
 simp only at h
 obtain ⟨tg, htg⟩ : ∃ tg, tg = if q4 = 0 then a2_2 else q4 := ⟨_, rfl⟩
 rw [← htg] at h
 have HTG := m_ htg
 have HF := m_ hf
 have H := m_ h
 have HR0 := m_ hr0
 have HC0 := m_ hc0
 have hu38 := Try.underlying38
 have hu27 := Try.underlying27
 have hu53 := Try.underlying53
 clear hf h hr0 hc0 htg
 go_enter Try.func15, Try.ntmps15
 go_wp2_with (go_at_call 12; refine Stop0.out ?_)
 refine ⟨?_⟩
 have BP := m_ (blk_new w (.cells #[.int .u32 a2_0, .int .u32 a2_1, .int .u32 a2_2, .int .i64 a2_3] 38))
 have HB := m_ (pa_ (Below.refl w.heap.size w) (.cells #[.int .u32 a2_0, .int .u32 a2_1, .int .u32 a2_2, .int .i64 a2_3] 38))
 have hw1 : w.heap.size < (w.alloc (.cells #[.int .u32 a2_0, .int .u32 a2_1, .int .u32 a2_2, .int .i64 a2_3] 38)).heap.size := by rw [World.size_alloc]; omega
 generalize (w.alloc _) = w1 at BP HB hw1 ⊢
 refine (flow_Find.calls (fun k => k < w.heap.size) A0 c0 l0 a1 a2_0 a2_1 a2_2 a2_3 q0 q1 q2 q3 q4 q5 q6 w1 (Kd.V_mk HC0.out (Kd.F_below (Kd.C_F k27_heap HR0.out) HB.out)) HF.out).mono ?_
 rintro e w2 ⟨v5, rfl, hV, hb⟩
 obtain ⟨A5, c5, rfl, hc5, hF5⟩ := hV
 have BP2 := m_ (blk_below BP.out hb)
 have HB2 := m_ (below_step HB.out hb)
 have HF5 := m_ hF5
 have HC5 := m_ hc5
 clear hb BP HB hF5 hc5
 cases q6 with
 | false =>
  have H1 := H.out
  rw [if_neg (by simp)] at H1
  obtain rfl := Option.some.inj H1
  go_wp2
  go_ret
  exact ⟨_, rfl, Kd.R_nil _ _ _ _ _, pa_ HB2.out _⟩
 | true =>
  have H1 := H.out
  rw [if_pos rfl] at H1
  by_cases hlen : q5.length ≤ 1000000
  ·rw [if_pos hlen] at H1
   obtain rfl := Option.some.inj H1
   go_wp2_with ((with_reducible refine gate_dst (N := 22) rfl ?_); refine Stop0.out ?_)
   refine ⟨?_⟩
   have HLEN := m_ hlen
   have BR3 := m_ (blk_new w2 (.cells #[.int .u32 q0, .int .u32 q1, .int .u32 q2, .int .i64 q3, .int .u32 q4, .slice A5 q5.length c5] 27))
   have BP3 := m_ (ba_ BP2.out (.cells #[.int .u32 q0, .int .u32 q1, .int .u32 q2, .int .i64 q3, .int .u32 q4, .slice A5 q5.length c5] 27))
   have HB3 := m_ (pa_ HB2.out (.cells #[.int .u32 q0, .int .u32 q1, .int .u32 q2, .int .i64 q3, .int .u32 q4, .slice A5 q5.length c5] 27))
   have HF3 := m_ (Kd.F_alloc (Kd.F_bound HF5.out) (.cells #[.int .u32 q0, .int .u32 q1, .int .u32 q2, .int .i64 q3, .int .u32 q4, .slice A5 q5.length c5] 27))
   have HGP := m_ (blk_lt BP2.out)
   have HP1 : Aside0 (w.heap.size < w1.heap.size) := ⟨hw1⟩
   generalize (w2.alloc _) = w3 at BR3 BP3 HB3 HF3 ⊢
   clear BP2 HB2 HF5 hlen
   have c4 : w3.cell? ⟨w2.heap.size, 4, none⟩ = some (.int .u32 q4) := (bc_ BR3.out 4).trans rfl
   have c2 : w3.cell? ⟨w.heap.size, 2, none⟩ = some (.int .u32 a2_2) := (bc_ BP3.out 2).trans rfl
   have f2 : w3.frozen? ⟨w.heap.size, 2, none⟩ = false := bf_ BP3.out 2
   have htg := HTG.out
   have hloop : ∃ w4, (if q4 = 0 then w4 = w3 else w4 = w3.setCell ⟨w.heap.size, 2, none⟩ (.int .u32 q4)) ∧ w4.heap[w2.heap.size]? = some (.cells #[.int .u32 q0, .int .u32 q1, .int .u32 q2, .int .i64 q3, .int .u32 q4, .slice A5 q5.length c5] 27 (0, 0)) ∧ w4.heap[w.heap.size]? = some (.cells #[.int .u32 a2_0, .int .u32 a2_1, .int .u32 tg, .int .i64 a2_3] 38 (0, 0)) ∧ Below w.heap.size w w4 ∧ Kd.F k53 w4 (fun k => k ≠ w.heap.size) A5 q5.length q5 := by
    by_cases hq : q4 = 0
    ·rw [if_pos hq] at htg
     rw [htg]
     exact ⟨w3, by rw [if_pos hq], BR3.out, BP3.out, HB3.out, Kd.F_mono HF3.out (fun k hk => by have h1 := HP1.out; rcases hk.1 with h | h <;> omega)⟩
    ·rw [if_neg hq] at htg
     rw [htg]
     refine ⟨_, by rw [if_neg hq], blk_away BR3.out (Nat.ne_of_gt HGP.out) _, (blk_set BP3.out 2 _).trans rfl, below_set HB3.out (Nat.le_refl _), ?_⟩
     exact Kd.F_far (p := ⟨w.heap.size, 2, none⟩) (Kd.F_mono (ok' := fun k => k ≠ w.heap.size) HF3.out (fun k hk => by have h1 := HP1.out; rcases hk.1 with h | h <;> omega)) (fun _ hk => hk) _
   obtain ⟨w4, hw4, hbr, hbp, hb4, hf4⟩ := hloop
   have BR4 := m_ hbr
   have BP4 := m_ hbp
   have HB4 := m_ hb4
   have HF4 := m_ hf4
   clear hbr hbp hb4 hf4
   clear htg
   by_cases hq : q4 = 0
   all_goals
    first | rw [if_pos hq] at hw4 | rw [if_neg hq] at hw4
    first | (have hq1 : (q4 != 0) = false := bne_eq_false_iff_eq.mpr hq; have hq2 : (q4 == 0) = true := beq_iff_eq.mpr hq; clear hq) | (have hq1 : (q4 != 0) = true := bne_iff_ne.mpr hq; have hq2 : (q4 == 0) = false := beq_eq_false_iff_ne.mpr hq; clear hq)
    have HW4 := m_ hw4
    clear hw4
    go_wp2_with ((with_reducible refine gate_dst (N := 28) rfl ?_); refine Stop0.out ?_)
    refine ⟨?_⟩
    rw [← HW4.out]
    clear HW4 c4 c2 f2 hq1 hq2 BR3 BP3 HB3 HF3
    have cc5 : w4.cell? ⟨w2.heap.size, 5, none⟩ = some (.slice A5 q5.length c5) := (bc_ BR4.out 5).trans rfl
    go_wp2
    clear cc5
    go_loopg [9, 31] q5.length (fun g s9 s31 wr => ∃ i : Nat, i ≤ q5.length ∧ q5.length - i ≤ g ∧ s31 = .int .i64 i ∧ Aside0 (Kd.R k55 55 wr w4.heap.size (fun _ => True) s9 (sendF (q5.take i) a1 a2_0 a2_1 tg a2_3)) ∧ Aside0 (Below w4.heap.size w4 wr))
    case atStart => exact ⟨0, Nat.zero_le _, by omega, rfl, ⟨Kd.R_nil _ _ _ _ _⟩, ⟨Below.refl _ _⟩⟩
    case round =>
     obtain ⟨i, hi, hg, rfl, HR, HS⟩ := hrel
     have hl3 := HLEN.out
     by_cases hlt : i < q5.length
     ·have hlt' : (i : Int) < (q5.length : Int) := by omega
      obtain ⟨ad, rfl, e0, e1⟩ := at_T53 (Kd.C_below (Kd.F_now HF4.out) HS.out) (i : Int) (by omega) (by omega)
      rw [Int.toNat_natCast] at e0 e1
      have hsn := sendF_snoc (q5.take i) (q5[i]'hlt) a1 a2_0 a2_1 tg a2_3
      rw [← List.take_succ_eq_append_getElem hlt] at hsn
      have HSN := m_ hsn
      clear hsn
      have hx : rd_T53 q5 (i : Int) = q5[i]'hlt := by unfold rd_T53; rw [Int.toNat_natCast, List.getD_eq_getElem?_getD, List.getElem?_eq_getElem hlt, Option.getD_some]
      rw [hx] at e0 e1
      generalize (q5[i]'hlt) = o at HSN e0 e1
      have HSL := m_ (Nat.le_trans (sendF_len (q5.take i) a1 a2_0 a2_1 tg a2_3) (Nat.le_trans (List.length_take_le' _ _) HLEN.out))
      clear hx
      go_wp2_with ((with_reducible refine gate_dst (N := 35) rfl ?_); refine Stop0.out ?_)
      refine ⟨?_⟩
      have HP := m_ (blk_below BP4.out HS.out)
      have h5 : ∃ W, W = wr.alloc (.cells #[.int .i64 o.f0, .bool o.f1] 53) ∧ W.heap[wr.heap.size]? = some (.cells #[.int .i64 o.f0, .bool o.f1] 53 (0, 0)) ∧ Below wr.heap.size wr W ∧ W.heap.size = wr.heap.size + 1 := ⟨_, rfl, blk_new wr _, pa_ (Below.refl _ _) _, World.size_alloc _ _⟩
      obtain ⟨w5, hw5, hbo, hb5, hz5⟩ := h5
      have HW5 := m_ hw5
      rw [← HW5.out]
      have hO := bc_ hbo 0
      have hO1 := bc_ hbo 1
      replace hO : w5.cell? ⟨wr.heap.size, 0, none⟩ = some (.int .i64 o.f0) := hO
      replace hO1 : w5.cell? ⟨wr.heap.size, 1, none⟩ = some (.bool o.f1) := hO1
      have hP := blk4 (blk_below HP.out hb5)
      obtain ⟨p0, p1, p2, p3⟩ := hP
      have HBO := m_ hbo
      have HB5 := m_ hb5
      have HZ5 := m_ hz5
      clear hw5 HW5 hbo hb5 hz5 e0 e1
      obtain ⟨port, pop⟩ := o
      simp only at hO hO1 HSN HBO
      go_wp2_with ((with_reducible refine gate_dst (N := 36) rfl ?_); refine Stop0.out ?_)
      refine ⟨?_⟩
      have HBX := m_ (blk_new w5 (.cells #[.int .u32 a2_0, .int .u32 a2_1, .int .u32 tg, .int .i64 a2_3] 38))
      have HBO6 := m_ (ba_ HBO.out (.cells #[.int .u32 a2_0, .int .u32 a2_1, .int .u32 tg, .int .i64 a2_3] 38))
      have HB6 := m_ (pa_ HB5.out (.cells #[.int .u32 a2_0, .int .u32 a2_1, .int .u32 tg, .int .i64 a2_3] 38))
      have HXO := m_ (show wr.heap.size ≠ w5.heap.size from by have := HZ5.out; omega)
      generalize (w5.alloc _) = w6 at HBX HBO6 HB6 ⊢
      clear hO hO1 p0 p1 p2 p3 HBO HB5
      have hO : w6.cell? ⟨wr.heap.size, 0, none⟩ = some (.int .i64 port) := (bc_ HBO6.out 0).trans rfl
      have hO1 : w6.cell? ⟨wr.heap.size, 1, none⟩ = some (.bool pop) := (bc_ HBO6.out 1).trans rfl
      have hX2 : w6.cell? ⟨w5.heap.size, 2, none⟩ = some (.int .u32 tg) := (bc_ HBX.out 2).trans rfl
      have hX2f := bf_ HBX.out 2
      have h7 : ∃ W tg', ((pop = true → W = w6.setCell ⟨w5.heap.size, 2, none⟩ (.int .u32 0)) ∧ (pop = false → W = w6)) ∧ tg' = (if pop = true then 0 else tg) ∧ W.heap[w5.heap.size]? = some (.cells #[.int .u32 a2_0, .int .u32 a2_1, .int .u32 tg', .int .i64 a2_3] 38 (0, 0)) ∧ W.heap[wr.heap.size]? = some (.cells #[.int .i64 port, .bool pop] 53 (0, 0)) ∧ Below wr.heap.size wr W := by
       cases pop
       ·exact ⟨w6, tg, ⟨(fun h => by cases h), fun _ => rfl⟩, by simp, HBX.out, HBO6.out, HB6.out⟩
       ·exact ⟨_, 0, ⟨fun _ => rfl, (fun h => by cases h)⟩, by simp, (blk_set HBX.out 2 _).trans rfl, blk_away HBO6.out HXO.out _, below_set HB6.out (by have := HZ5.out; omega)⟩
      obtain ⟨w7, tg', hw7, htg', hx7, ho7, hb7⟩ := h7
      rw [show (if (⟨port, pop⟩ : S53).f1 = true then 0 else tg) = tg' from htg'.symm] at HSN
      have HW7 := m_ hw7
      have HX7 := m_ hx7
      have HO7 := m_ ho7
      have HB7 := m_ hb7
      clear hw7 htg' hx7 ho7 hb7 HBX HBO6 HB6
      cases pop
      all_goals
       first | have hw7 := HW7.out.1 rfl | have hw7 := HW7.out.2 rfl
       have HW8 := m_ hw7
       clear hw7 HW7
       go_wp2_with ((with_reducible refine gate_dst (N := 39) rfl ?_); refine Stop0.out ?_)
       refine ⟨?_⟩
       rw [← HW8.out]
       clear HW8 hO hO1 hX2 hX2f
       have hO : w7.cell? ⟨wr.heap.size, 0, none⟩ = some (.int .i64 port) := (bc_ HO7.out 0).trans rfl
       obtain ⟨x0, x1, x2, x3⟩ := blk4 HX7.out
       by_cases hp : port = a1
       ·have hp1 : (port == a1) = true := beq_iff_eq.mpr hp
        have hp2 : (port != a1) = false := bne_eq_false_iff_eq.mpr hp
        have hR2 := HSN.out
        rw [if_pos hp] at hR2
        have HR2 := m_ (show Kd.R k55 55 w7 w4.heap.size (fun _ => True) u9 (sendF (q5.take (i + 1)) a1 a2_0 a2_1 tg a2_3) from by rw [hR2]; exact Kd.R_below HR.out HB7.out)
        have HS2 := m_ (below_step HS.out HB7.out)
        clear hp hR2
        go_wp2
        clear hO x0 x1 x2 x3 hp1 hp2
        go_roundg (q5.length - (i + 1))
        case measure => omega
        case rel => exact ⟨i + 1, by omega, by omega, by go_num, HR2, HS2⟩
       ·have hp1 : (port == a1) = false := beq_eq_false_iff_ne.mpr hp
        have hp2 : (port != a1) = true := bne_iff_ne.mpr hp
        have hR2 := HSN.out
        rw [if_neg hp] at hR2
        have HR2 := m_ hR2
        have HR7 := m_ (Kd.R_below HR.out HB7.out)
        have HS7 := m_ (below_step HS.out HB7.out)
        clear hp hR2
        go_wp2_with ((with_reducible refine gate_builtin (b := .append) (xs := #[.tmp 43, .tmp 48]) rfl ?_); refine Stop0.out ?_)
        refine ⟨?_⟩
        clear hO x0 x1 x2 x3 hp1 hp2
        refine Kd.R_append k55 (w0 := w7) w4.heap.size rfl (.tmp 43) (.tmp 48) 43 55 (.agg #[(.int .i64 0), (.int .u32 0), (.int .u32 0), (.int .u32 0), (.int .i64 0)]) 32 rfl Try.underlying43 info55 rfl (by decide) (by omega) u9 (sendF (q5.take i) a1 a2_0 a2_1 tg a2_3) ⟨port, ⟨a2_0, a2_1, _, a2_3⟩⟩ [.int .i64 port, .int .u32 a2_0, .int .u32 a2_1, .int .u32 _, .int .i64 a2_3] (fun _ => True) (fun _ => False) rfl rfl (k55_mkM _ _ _ ⟨port, ⟨a2_0, a2_1, _, a2_3⟩⟩) (fun _ hk => hk.elim) (fun _ _ => trivial) HR7.out (Below.refl _ _) HS7.out.size (by have := HSL.out; omega) ?_
        intro v1 w8 h1 hb8 _ _
        have HR8 := m_ (show Kd.R k55 55 w8 w4.heap.size (fun _ => True) v1 (sendF (q5.take (i + 1)) a1 a2_0 a2_1 tg a2_3) from by rw [HR2.out]; exact h1)
        have HS8 := m_ (HS7.out.trans hb8)
        clear h1 hb8
        go_wp2
        go_roundg (q5.length - (i + 1))
        case measure => omega
        case rel => exact ⟨i + 1, by omega, by omega, by go_num, HR8, HS8⟩
     ·obtain rfl : i = q5.length := by omega
      have hlt' : ¬ ((q5.length : Int) < (q5.length : Int)) := by omega
      have hR := HR.out
      rw [List.take_of_length_le (Nat.le_refl _)] at hR
      have HR := m_ (Kd.R_lower hR HB4.out.size)
      clear hR
      go_wp2
      go_ret
      exact ⟨_, rfl, HR.out, below_step HB4.out HS.out⟩
  ·rw [if_neg hlen] at H1
   cases H1

end Go.Proofs.Yteibolilodgjnaa.P

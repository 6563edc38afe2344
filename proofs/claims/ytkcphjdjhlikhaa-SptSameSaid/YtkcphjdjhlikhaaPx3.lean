/- For each Go function a Lean function, and the proof that a call comes to what it tells: made by program out of the translation (the kit's print, with texts by hand put in). No condition. -/
import Derived.Test.YtkcphjdjhlikhaaSq
import Derived.Test.YtkcphjdjhlikhaaPx0
import Derived.Test.YtkcphjdjhlikhaaPx2
namespace Go.Proofs.Ytkcphjdjhlikhaa.P
open Go.RowKit Go.Proofs.Ytkcphjdjhlikhaa.HRows Go.Proofs.YtkcphjdjhlikhaaW.PrintWords Go.Proofs.YtkcphjdjhlikhaaW.PrintLast Go.Proofs.YtkcphjdjhlikhaaW.PrintMore
attribute [local go_sem] max2_int min2_int max_two min_two max_three min_three max_four min_four   -- for this text's walks alone
set_option linter.unusedVariables false
set_option linter.unusedSimpArgs false

/-! ### graph_Next: function 29 -/
def graph_Next.l0 : Nat → Int → List (S59) → List (S33) → Int → Int → Option ((List (S59)))
 | 0, _, _, _, _, _ => none
 | k + 1, x1, x5, x11, x12, x13 => if x13 < x12 then (if 0 ≤ x13 then (if x13 < (x11.length : Int) then ((graph_over.f ((rd_T33 x11 x13).f0) ((rd_T33 x11 x13).f1) ((rd_T33 x11 x13).f2) ((rd_T33 x11 x13).f3) x1).bind fun bt121 => (if bt121.2 = true then (if (rd_T33 x11 x13).f3 = true then (if x5.length < 8796093022208 then (graph_Next.l0 k x1 (x5 ++ [(⟨x13, bt121.1⟩ : S59)]) x11 x12 (wrap64 (x13 + 1))) else (none)) else (graph_Next.l0 k x1 x5 x11 x12 (wrap64 (x13 + 1)))) else (graph_Next.l0 k x1 x5 x11 x12 (wrap64 (x13 + 1))))) else (none)) else (none)) else (some x5)
def graph_Next.f (k : Nat) (a0_0 : Int) (l0_1 : List (S33)) (a1 : Int) : Option ((List (S59))) := graph_Next.l0 k a1 ([] : List (S59)) l0_1 (l0_1.length : Int) 0
theorem graph_Next.mono_l : ∀ k, (∀ y0 y1 y2 y3 y4, LeO (graph_Next.l0 k y0 y1 y2 y3 y4) (graph_Next.l0 (k + 1) y0 y1 y2 y3 y4))
 | 0 => fun _ _ _ _ _ r h => by simp [graph_Next.l0] at h
 | k + 1 => by
  have ih0 := graph_Next.mono_l k
  ·intro y0 y1 y2 y3 y4
   unfold graph_Next.l0
   repeat' first
   | (with_reducible exact ih0 _ _ _ _ _)
   | (with_reducible exact LeO.refl _)
   | (with_reducible exact LeO.none _)
   | (with_reducible refine LeO.ite ?_ ?_)
   | (with_reducible refine LeO.bind ?_ (fun _ => ?_))
   | exact ih0 _ _ _ _ _
   | exact LeO.none _
   | refine LeO.ite ?_ ?_
   | refine LeO.bind ?_ (fun _ => ?_)
theorem graph_Next.mono : ∀ a0 a1 a2 k, LeO (graph_Next.f k a0 a1 a2) (graph_Next.f (k + 1) a0 a1 a2) := by
 intro a0 a1 a2 k
 have ih0 := graph_Next.mono_l k
 unfold graph_Next.f
 repeat' first
   | (with_reducible exact ih0 _ _ _ _ _)
   | (with_reducible exact LeO.refl _)
   | (with_reducible exact LeO.none _)
   | (with_reducible refine LeO.ite ?_ ?_)
   | (with_reducible refine LeO.bind ?_ (fun _ => ?_))
   | exact ih0 _ _ _ _ _
   | exact LeO.none _
   | refine LeO.ite ?_ ?_
   | refine LeO.bind ?_ (fun _ => ?_)
set_option maxHeartbeats 8000000 in
set_option maxRecDepth 100000 in
theorem graph_Next.calls (k : Nat) (a0_0 : Int) (A0_1 : Option Addr) (c0_1 : Nat) (l0_1 : List (S33)) (a1 : Int) (r : List (S59)) (w : World) (hr0_1 : Kd.C k33 w A0_1 l0_1.length l0_1) (hc0_1 : l0_1.length ≤ c0_1) (h : graph_Next.f k a0_0 l0_1 a1 = some r) :
  Calls Try.prog 29 #[.agg #[.int .i64 a0_0, .slice A0_1 l0_1.length c0_1], .int .i64 a1] w fun e w' => ∃ v0_ : Value, e = .returned (v0_) ∧ Kd.R k59 59 w' w.heap.size (fun _ => True) v0_ r ∧ Below w.heap.size w w' := by
 have hu24 := Try.underlying24
 have hu33 := Try.underlying33
 have hu59 := Try.underlying59
 have HR0_1 := m_ hr0_1
 have HC0_1 := m_ hc0_1
 clear hr0_1 hc0_1
 have HB := m_ (Below.refl w.heap.size w)
 have H : (graph_Next.l0 k a1 ([] : List (S59)) l0_1 (l0_1.length : Int) 0) = some r := h
 clear h
 have H' := m_ H
 clear H
 go_enter Try.func29, Try.ntmps29
 go_wp2_with (first | ((with_reducible refine gate_dst (N := 2) rfl ?_); refine bx_ 2 24 #[.int .i64 a0_0, .slice A0_1 l0_1.length c0_1] ?_; intro gb118 hg w3 hbox hb; have BK118 := m_ (hbox); have GW118 := m_ ((gw_ : w.heap.size ≤ gb118)); have GE118 := m_ ((gw_ : w.heap.size ≤ gb118)); replace HB := m_ (below_step bz_ hb); clear hb hbox hg; have hcz4 := cz2_ BK118.out))
 go_loopg [5, 13] k (fun kq v5 v13 w' => ∃ (x5_1 : List (S59)) (x13_1 : Int), v13 = .int .i64 x13_1 ∧ Aside0 (graph_Next.l0 kq a1 x5_1 l0_1 (l0_1.length : Int) x13_1 = some r) ∧ Aside0 (kq ≤ k) ∧ Aside0 (Kd.R k59 59 w' w.heap.size (fun _ => True) v5 x5_1) ∧ Aside0 (w'.heap[gb118]? = some (.cells #[.int .i64 a0_0, (.slice A0_1 l0_1.length c0_1)] 24 (0, 0))) ∧ Aside0 (Below w.heap.size w w'))
 case atStart => exact ⟨(([] : List (S59))), (0), (by first | rfl | (simp; done) | (simp [*]; done)), H', ⟨Nat.le_refl _⟩, ⟨by first | exact Kd.R_nil _ _ _ _ _ | exact Kd.N_nil _ _ _ _ _ | exact Kd.V_nil _ _ _ _ _ | exact Kd.Q_nil _ _ _ _ _ | exact Kd.S_nil _ _ _ _ _⟩, ⟨kz_⟩, ⟨bz_⟩⟩
 case round =>
  clear H'
  try clear c2
  try clear p2
  (try clear hcz4)
  obtain ⟨x5_1, x13_1, rfl, HA, HK1, HO_5, BK118, HB⟩ := hrel
  cases gk with
  | zero => exact absurd HA.out (by simp [graph_Next.l0])
  | succ k1 =>
   have H := HA.out
   clear HA
   simp only [graph_Next.l0] at H
   by_cases c5 : x13_1 < (l0_1.length : Int)
   ·rw [if_pos c5] at H
    have c5b0 : decide (x13_1 < (l0_1.length : Int)) = true := decide_eq_true c5
    clear c5
    by_cases c6 : 0 ≤ x13_1
    ·rw [if_pos c6] at H
     have c6b0 : decide (0 ≤ x13_1) = true := decide_eq_true c6
     clear c6
     by_cases c7 : x13_1 < (l0_1.length : Int)
     ·rw [if_pos c7] at H
      have c7b0 : decide (x13_1 < (l0_1.length : Int)) = true := decide_eq_true c7
      clear c7
      replace H := Option.bind_eq_some_iff.mp H
      obtain ⟨⟨t121, t122⟩, A80, H⟩ := H
      replace H : (if t122 = true then (if (rd_T33 l0_1 x13_1).f3 = true then (if x5_1.length < 8796093022208 then (graph_Next.l0 k1 a1 (x5_1 ++ [(⟨x13_1, t121⟩ : S59)]) l0_1 (l0_1.length : Int) (wrap64 (x13_1 + 1))) else (none)) else (graph_Next.l0 k1 a1 x5_1 l0_1 (l0_1.length : Int) (wrap64 (x13_1 + 1)))) else (graph_Next.l0 k1 a1 x5_1 l0_1 (l0_1.length : Int) (wrap64 (x13_1 + 1)))) = some r := H
      have A8 := m_ A80
      clear A80
      by_cases c9 : t122 = true
      ·subst c9
       have H1 : (if (rd_T33 l0_1 x13_1).f3 = true then (if x5_1.length < 8796093022208 then (graph_Next.l0 k1 a1 (x5_1 ++ [(⟨x13_1, t121⟩ : S59)]) l0_1 (l0_1.length : Int) (wrap64 (x13_1 + 1))) else (none)) else (graph_Next.l0 k1 a1 x5_1 l0_1 (l0_1.length : Int) (wrap64 (x13_1 + 1)))) = some r := by rw [if_pos rfl] at H; exact H
       clear H
       have H := H1
       clear H1
       obtain ⟨bq10, hbq10⟩ : ∃ b_ : Bool, b_ = ((rd_T33 l0_1 x13_1).f3) := ⟨_, rfl⟩
       replace H : (if bq10 = true then (if x5_1.length < 8796093022208 then (graph_Next.l0 k1 a1 (x5_1 ++ [(⟨x13_1, t121⟩ : S59)]) l0_1 (l0_1.length : Int) (wrap64 (x13_1 + 1))) else (none)) else (graph_Next.l0 k1 a1 x5_1 l0_1 (l0_1.length : Int) (wrap64 (x13_1 + 1)))) = some r := by rw [← hbq10] at H; exact H
       have Nbq10 := m_ hbq10
       (try rw [← Nbq10.out] at A8)
       clear hbq10
       by_cases c11 : bq10 = true
       ·subst c11
        have H1 : (if x5_1.length < 8796093022208 then (graph_Next.l0 k1 a1 (x5_1 ++ [(⟨x13_1, t121⟩ : S59)]) l0_1 (l0_1.length : Int) (wrap64 (x13_1 + 1))) else (none)) = some r := by rw [if_pos rfl] at H; exact H
        clear H
        have H := H1
        clear H1
        by_cases c12 : x5_1.length < 8796093022208
        ·rw [if_pos c12] at H
         have LMc12 := m_ c12
         clear c12
         obtain ⟨y123, hy123⟩ : ∃ y_ : List (S59), y_ = (x5_1 ++ [(⟨x13_1, t121⟩ : S59)]) := ⟨_, rfl⟩
         replace H : (graph_Next.l0 k1 a1 y123 l0_1 (l0_1.length : Int) (wrap64 (x13_1 + 1))) = some r := by first | (rw [hy123]; with_reducible exact H) | (have H2_ := (Option.bind_some _ _).symm.trans H; rw [hy123]; with_reducible exact H2_) | (have H2_ := (Option.bind_some _ _).symm.trans H; with_reducible exact H2_) | with_reducible exact H | (rw [hy123]; exact H) | exact H
         have Ny123 := m_ hy123
         clear hy123
         have H' := m_ H
         clear H
         have p119 : 0 ≤ (x13_1 : Int) := od_
         have q119 : x13_1 < (l0_1.length : Int) := od_
         obtain ⟨ad119, e119, hx119_0, hx119_1, hx119_2, hx119_3⟩ := at_T33 HR0_1.out x13_1 p119 q119
         (try rw [← Nbq10.out] at hx119_3)
         cases e119
         replace hx119_0 := kp_ HB.out hx119_0
         replace hx119_1 := kp_ HB.out hx119_1
         replace hx119_2 := kp_ HB.out hx119_2
         replace hx119_3 := kp_ HB.out hx119_3
         replace p119 := eq_true p119
         replace q119 := eq_true q119
         go_wp2_with (first | ((with_reducible refine gate_dst (N := 7) rfl ?_); refine bx_ 7 33 #[.int .i64 0, .int .i64 0, .int .i64 0, .bool false] ?_; intro gb120 hg w13 hbox hb; have BK120 := m_ (hbox); have GW120 := m_ ((gw_ : w.heap.size ≤ gb120)); have GE120 := m_ ((gw_ : w.heap.size ≤ gb120)); have NB118_120 := m_ ((gl_ : gb118 ≠ gb120)); have NB120_118 := m_ ((gr_ : gb120 ≠ gb118)); replace HO_5 := m_ (Kd.R_below (Rz_ HO_5.out) hb); replace BK118 := m_ (kl_ gb118 hb); replace HB := m_ (below_step bz_ hb); clear hb hbox hg; have hnb14 := NB120_118.out; have hnc14 := NB118_120.out; have hcz15 := cz4_ BK120.out) | ((with_reducible refine gate_callee (f := 45) rfl ?_); refine gL_ (some 21) Try.func45 #[.agg #[.int .i64 ((rd_T33 l0_1 x13_1).f0), .int .i64 ((rd_T33 l0_1 x13_1).f1), .int .i64 ((rd_T33 l0_1 x13_1).f2), .bool true], .int .i64 a1] ?_; (with_reducible refine (graph_over.calls ((rd_T33 l0_1 x13_1).f0) ((rd_T33 l0_1 x13_1).f1) ((rd_T33 l0_1 x13_1).f2) true a1 t121 true _ A8.out).mono ?_); rintro e w16 ⟨rfl, hb⟩; refine ⟨_, rfl, ?_⟩; replace HO_5 := m_ (Kd.R_below ((Kd.R_mono (Rf_ (Kd.R_types HO_5.out BK120.out (by decide))) (fun _ h_ => h_.1))) hb); replace BK118 := m_ (blk_below (g := gb118) (o := .cells #[.int .i64 a0_0, .slice (some ad119) l0_1.length c0_1] 24 (0, 0)) kb_ hb); replace BK120 := m_ (blk_below (g := gb120) (o := .cells #[.int .i64 ((rd_T33 l0_1 x13_1).f0), .int .i64 ((rd_T33 l0_1 x13_1).f1), .int .i64 ((rd_T33 l0_1 x13_1).f2), .bool true] 33 (0, 0)) kb_ hb); replace HB := m_ (below_step bz_ hb); (try clear hb); (try clear hb2); (try clear hk); (try clear hi); have hcz17 := cz4_ BK120.out) | ((with_reducible refine gate_builtin (b := .append) (xs := #[.tmp 29, .tmp 33]) rfl ?_); at_builtin; refine Kd.R_append k59 (w0 := w) w.heap.size rfl (.tmp 29) (.tmp 33) 55 59 (.agg #[(.int .i64 0), (.int .i64 0)]) 16 rfl Try.underlying55 info59 rfl (by decide) (by omega) u5 x5_1 (⟨x13_1, t121⟩ : S59) [.int .i64 x13_1, .int .i64 t121] (fun _ => True) (fun _ => False) rfl rfl ?aP (fun _ hk => hk.elim) ?aF ?aO ?aB ?aS ?aL ?_; (case aP => exact k59_mkM _ _ _ (⟨x13_1, t121⟩ : S59)); (case aB => exact bz_); (case aF => exact (fun _ _ => trivial)); (case aO => exact (Rz_ HO_5.out)); (case aS => exact (below_size bz_)); (case aL => have := LMc12.out; omega); intro v124 w18 ho hb hg hat; rw [← Ny123.out] at ho; have HO125 := m_ (ho); replace BK118 := m_ (blk_grown (g := gb118) (o := .cells #[.int .i64 a0_0, .slice (some ad119) l0_1.length c0_1] 24 (0, 0)) kz_ hg (Kd.R_ne HO_5.out BK118.out (by decide))); replace BK120 := m_ (blk_grown (g := gb120) (o := .cells #[.int .i64 ((rd_T33 l0_1 x13_1).f0), .int .i64 ((rd_T33 l0_1 x13_1).f1), .int .i64 ((rd_T33 l0_1 x13_1).f2), .bool true] 33 (0, 0)) kz_ hg (Kd.R_ne HO_5.out BK120.out (by decide))); replace HB := m_ (hb); clear HO_5 ho hb hg hat))
         go_roundg k1
         case measure => have := HK1.out; omega
         case rel => exact ⟨(y123), (wrap64 (x13_1 + 1)), (by first | rfl | (simp; done) | (simp [*]; done)), H', ⟨by have := HK1.out; omega⟩, ⟨Rz_ HO125.out⟩, ⟨kz_⟩, ⟨bz_⟩⟩
        ·rw [if_neg c12] at H
         exact absurd H (by simp)
       ·replace c11 := Bool.eq_false_iff.mpr c11
        subst c11
        have H1 : (graph_Next.l0 k1 a1 x5_1 l0_1 (l0_1.length : Int) (wrap64 (x13_1 + 1))) = some r := by rw [if_neg (show ¬ (false = true) by decide)] at H; exact H
        clear H
        have H := H1
        clear H1
        have H' := m_ H
        clear H
        have p119 : 0 ≤ (x13_1 : Int) := od_
        have q119 : x13_1 < (l0_1.length : Int) := od_
        obtain ⟨ad119, e119, hx119_0, hx119_1, hx119_2, hx119_3⟩ := at_T33 HR0_1.out x13_1 p119 q119
        (try rw [← Nbq10.out] at hx119_3)
        cases e119
        replace hx119_0 := kp_ HB.out hx119_0
        replace hx119_1 := kp_ HB.out hx119_1
        replace hx119_2 := kp_ HB.out hx119_2
        replace hx119_3 := kp_ HB.out hx119_3
        replace p119 := eq_true p119
        replace q119 := eq_true q119
        go_wp2_with (first | ((with_reducible refine gate_dst (N := 7) rfl ?_); refine bx_ 7 33 #[.int .i64 0, .int .i64 0, .int .i64 0, .bool false] ?_; intro gb120 hg w19 hbox hb; have BK120 := m_ (hbox); have GW120 := m_ ((gw_ : w.heap.size ≤ gb120)); have GE120 := m_ ((gw_ : w.heap.size ≤ gb120)); have NB118_120 := m_ ((gl_ : gb118 ≠ gb120)); have NB120_118 := m_ ((gr_ : gb120 ≠ gb118)); replace HO_5 := m_ (Kd.R_below (Rz_ HO_5.out) hb); replace BK118 := m_ (kl_ gb118 hb); replace HB := m_ (below_step bz_ hb); clear hb hbox hg; have hnb20 := NB120_118.out; have hnc20 := NB118_120.out; have hcz21 := cz4_ BK120.out) | ((with_reducible refine gate_callee (f := 45) rfl ?_); refine gL_ (some 21) Try.func45 #[.agg #[.int .i64 ((rd_T33 l0_1 x13_1).f0), .int .i64 ((rd_T33 l0_1 x13_1).f1), .int .i64 ((rd_T33 l0_1 x13_1).f2), .bool false], .int .i64 a1] ?_; (with_reducible refine (graph_over.calls ((rd_T33 l0_1 x13_1).f0) ((rd_T33 l0_1 x13_1).f1) ((rd_T33 l0_1 x13_1).f2) false a1 t121 true _ A8.out).mono ?_); rintro e w22 ⟨rfl, hb⟩; refine ⟨_, rfl, ?_⟩; replace HO_5 := m_ (Kd.R_below ((Kd.R_mono (Rf_ (Kd.R_types HO_5.out BK120.out (by decide))) (fun _ h_ => h_.1))) hb); replace BK118 := m_ (blk_below (g := gb118) (o := .cells #[.int .i64 a0_0, .slice (some ad119) l0_1.length c0_1] 24 (0, 0)) kb_ hb); replace BK120 := m_ (blk_below (g := gb120) (o := .cells #[.int .i64 ((rd_T33 l0_1 x13_1).f0), .int .i64 ((rd_T33 l0_1 x13_1).f1), .int .i64 ((rd_T33 l0_1 x13_1).f2), .bool false] 33 (0, 0)) kb_ hb); replace HB := m_ (below_step bz_ hb); (try clear hb); (try clear hb2); (try clear hk); (try clear hi); have hcz23 := cz4_ BK120.out))
        go_roundg k1
        case measure => have := HK1.out; omega
        case rel => exact ⟨(x5_1), (wrap64 (x13_1 + 1)), (by first | rfl | (simp; done) | (simp [*]; done)), H', ⟨by have := HK1.out; omega⟩, ⟨Rz_ HO_5.out⟩, ⟨kz_⟩, ⟨bz_⟩⟩
      ·replace c9 := Bool.eq_false_iff.mpr c9
       subst c9
       have H1 : (graph_Next.l0 k1 a1 x5_1 l0_1 (l0_1.length : Int) (wrap64 (x13_1 + 1))) = some r := by rw [if_neg (show ¬ (false = true) by decide)] at H; exact H
       clear H
       have H := H1
       clear H1
       have H' := m_ H
       clear H
       have p119 : 0 ≤ (x13_1 : Int) := od_
       have q119 : x13_1 < (l0_1.length : Int) := od_
       obtain ⟨ad119, e119, hx119_0, hx119_1, hx119_2, hx119_3⟩ := at_T33 HR0_1.out x13_1 p119 q119
       cases e119
       replace hx119_0 := kp_ HB.out hx119_0
       replace hx119_1 := kp_ HB.out hx119_1
       replace hx119_2 := kp_ HB.out hx119_2
       replace hx119_3 := kp_ HB.out hx119_3
       replace p119 := eq_true p119
       replace q119 := eq_true q119
       go_wp2_with (first | ((with_reducible refine gate_dst (N := 7) rfl ?_); refine bx_ 7 33 #[.int .i64 0, .int .i64 0, .int .i64 0, .bool false] ?_; intro gb120 hg w24 hbox hb; have BK120 := m_ (hbox); have GW120 := m_ ((gw_ : w.heap.size ≤ gb120)); have GE120 := m_ ((gw_ : w.heap.size ≤ gb120)); have NB118_120 := m_ ((gl_ : gb118 ≠ gb120)); have NB120_118 := m_ ((gr_ : gb120 ≠ gb118)); replace HO_5 := m_ (Kd.R_below (Rz_ HO_5.out) hb); replace BK118 := m_ (kl_ gb118 hb); replace HB := m_ (below_step bz_ hb); clear hb hbox hg; have hnb25 := NB120_118.out; have hnc25 := NB118_120.out; have hcz26 := cz4_ BK120.out) | ((with_reducible refine gate_callee (f := 45) rfl ?_); refine gL_ (some 21) Try.func45 #[.agg #[.int .i64 ((rd_T33 l0_1 x13_1).f0), .int .i64 ((rd_T33 l0_1 x13_1).f1), .int .i64 ((rd_T33 l0_1 x13_1).f2), .bool ((rd_T33 l0_1 x13_1).f3)], .int .i64 a1] ?_; (with_reducible refine (graph_over.calls ((rd_T33 l0_1 x13_1).f0) ((rd_T33 l0_1 x13_1).f1) ((rd_T33 l0_1 x13_1).f2) ((rd_T33 l0_1 x13_1).f3) a1 t121 false _ A8.out).mono ?_); rintro e w27 ⟨rfl, hb⟩; refine ⟨_, rfl, ?_⟩; replace HO_5 := m_ (Kd.R_below ((Kd.R_mono (Rf_ (Kd.R_types HO_5.out BK120.out (by decide))) (fun _ h_ => h_.1))) hb); replace BK118 := m_ (blk_below (g := gb118) (o := .cells #[.int .i64 a0_0, .slice (some ad119) l0_1.length c0_1] 24 (0, 0)) kb_ hb); replace BK120 := m_ (blk_below (g := gb120) (o := .cells #[.int .i64 ((rd_T33 l0_1 x13_1).f0), .int .i64 ((rd_T33 l0_1 x13_1).f1), .int .i64 ((rd_T33 l0_1 x13_1).f2), .bool ((rd_T33 l0_1 x13_1).f3)] 33 (0, 0)) kb_ hb); replace HB := m_ (below_step bz_ hb); (try clear hb); (try clear hb2); (try clear hk); (try clear hi)))
       go_roundg k1
       case measure => have := HK1.out; omega
       case rel => exact ⟨(x5_1), (wrap64 (x13_1 + 1)), (by first | rfl | (simp; done) | (simp [*]; done)), H', ⟨by have := HK1.out; omega⟩, ⟨Rz_ HO_5.out⟩, ⟨kz_⟩, ⟨bz_⟩⟩
     ·rw [if_neg c7] at H
      exact absurd H (by simp)
    ·rw [if_neg c6] at H
     exact absurd H (by simp)
   ·rw [if_neg c5] at H
    have c5b0 : decide (x13_1 < (l0_1.length : Int)) = false := decide_eq_false c5
    clear c5
    obtain rfl := Option.some.inj H
    go_wp2
    go_ret
    exact ⟨_, ew_, (Rz_ HO_5.out), bz_⟩

/-! ### spt_isNode: function 42 -/
def spt_isNode.f (a0_0 : Int) (l0_1 : List (S33)) (a1 : Int) : Option (Bool) := if a1 ≥ 0 then (some (decide (a1 < a0_0))) else (some false)
set_option maxHeartbeats 8000000 in
set_option maxRecDepth 100000 in
theorem spt_isNode.calls (a0_0 : Int) (A0_1 : Option Addr) (c0_1 : Nat) (l0_1 : List (S33)) (a1 : Int) (r : Bool) (w : World) (hr0_1 : Kd.C k33 w A0_1 l0_1.length l0_1) (hc0_1 : l0_1.length ≤ c0_1) (h : spt_isNode.f a0_0 l0_1 a1 = some r) :
  Calls Try.prog 42 #[.agg #[.int .i64 a0_0, .slice A0_1 l0_1.length c0_1], .int .i64 a1] w fun e w' => e = .returned (.bool r) ∧ Below w.heap.size w w' := by
 have hu24 := Try.underlying24
 have HR0_1 := m_ hr0_1
 have HC0_1 := m_ hc0_1
 clear hr0_1 hc0_1
 have HB := m_ (Below.refl w.heap.size w)
 have H : (if a1 ≥ 0 then (some (decide (a1 < a0_0))) else (some false)) = some r := h
 clear h
 by_cases c3 : a1 ≥ 0
 ·rw [if_pos c3] at H
  have c3b0 : decide (0 ≤ a1) = true := decide_eq_true c3
  clear c3
  obtain rfl := Option.some.inj H
  go_enter Try.func42, Try.ntmps42
  go_wp2_with (first | ((with_reducible refine gate_dst (N := 2) rfl ?_); refine bx_ 2 24 #[.int .i64 a0_0, .slice A0_1 l0_1.length c0_1] ?_; intro gb126 hg w4 hbox hb; have BK126 := m_ (hbox); have GW126 := m_ ((gw_ : w.heap.size ≤ gb126)); have GE126 := m_ ((gw_ : w.heap.size ≤ gb126)); replace HB := m_ (below_step bz_ hb); clear hb hbox hg; have hcz5 := cz2_ BK126.out))
  go_ret
  exact ⟨ew_, bz_⟩
 ·rw [if_neg c3] at H
  have c3b0 : decide (0 ≤ a1) = false := decide_eq_false c3
  clear c3
  obtain rfl := Option.some.inj H
  go_enter Try.func42, Try.ntmps42
  go_wp2_with (first | ((with_reducible refine gate_dst (N := 2) rfl ?_); refine bx_ 2 24 #[.int .i64 a0_0, .slice A0_1 l0_1.length c0_1] ?_; intro gb126 hg w6 hbox hb; have BK126 := m_ (hbox); have GW126 := m_ ((gw_ : w.heap.size ≤ gb126)); have GE126 := m_ ((gw_ : w.heap.size ≤ gb126)); replace HB := m_ (below_step bz_ hb); clear hb hbox hg))
  go_ret
  exact ⟨ew_, bz_⟩

/-! ### heap_copied: function 51, by hand (heap.copied.lean.tpl) -/
def heap_copied.f (l0 : List (S76)) (a1 : Int) : Option (List (S76)) := if 0 ≤ a1 ∧ (l0.length : Int) + a1 ≤ 8796093022208 then some l0 else none
theorem k_item_M {w : World} {base : Nat} {ok : Nat → Prop} {x : S76} {cs : List Value} (h : k76.K w x cs) : k76.M w base ok x cs := by
 obtain rfl := k76_open h
 exact k76_mkM w base ok x
set_option maxHeartbeats 2000000 in
theorem heap_copied.calls (A0 : Option Addr) (c0 : Nat) (l0 : List (S76)) (a1 : Int) (r : List (S76)) (w : World) (hr0 : Kd.C k76 w A0 l0.length l0) (hc0 : l0.length ≤ c0) (h : heap_copied.f l0 a1 = some r) :
  Calls Try.prog 51 #[.slice A0 l0.length c0, .int .i64 a1] w fun e w' => ∃ v0_ : Value, e = .returned (v0_) ∧ Kd.R k76 76 w' w.heap.size (fun _ => True) v0_ r ∧ Below w.heap.size w w' := by
 unfold heap_copied.f at h
 split at h
 case isFalse => cases h
 case isTrue hb =>
 obtain rfl := Option.some.inj h
 clear h
 obtain ⟨hb0, hb1⟩ := hb
 obtain ⟨m, rfl⟩ := Int.eq_ofNat_of_zero_le hb0
 clear hb0
 obtain ⟨i0, hi0, hz0⟩ := Option.map_eq_some_iff.1 info76
 simp only [Prod.mk.injEq] at hz0
 obtain ⟨hz, hsz, hby⟩ := hz0
 have hmk : (Instr.makeSlice 72 (.int .i64 (l0.length : Int)) (.int .i64 ((l0.length : Int) + (m : Int)))).run Try.prog w = .ok (.slice (some ⟨w.heap.size, 0, none⟩) l0.length (l0.length + m)) (w.alloc (.cells (madeCells #[.int .i64 0, .int .i64 0] ((l0.length + m) * 2)) 76)) := by
  have := run_make w 72 76 i0 _ Try.underlying72 hi0 hz .i64 .i64 (l0.length : Int) ((l0.length : Int) + (m : Int)) (by omega) (by omega) (by rw [hby]; omega) (by omega)
  rw [hsz, show ((l0.length : Int)).toNat = l0.length from by omega, show ((l0.length : Int) + (m : Int)).toNat = l0.length + m from by omega] at this
  exact this
 obtain ⟨inner, hin, hre, hcell⟩ := C_cells hr0
 have hin2 : inner.length = l0.length * 2 := hin
 have hone := reps_one hre
 have hcp : ∀ ty, ∃ cur : Array Value, (Builtin.copy_ #[72, 72] ty #[.slice (some ⟨w.heap.size, 0, none⟩) l0.length (l0.length + m), .slice A0 l0.length c0]).run Try.prog (w.alloc (.cells (madeCells #[.int .i64 0, .int .i64 0] ((l0.length + m) * 2)) 76)) =
   .ok (goInt l0.length) ((w.alloc (.cells (madeCells #[.int .i64 0, .int .i64 0] ((l0.length + m) * 2)) 76)).setRow w.heap.size cur) ∧ cur.size = (l0.length + m) * 2 ∧ cur.toList.take (l0.length * 2) = inner := by
  intro ty
  have hg := heap_alloc_new w (.cells (madeCells #[.int .i64 0, .int .i64 0] ((l0.length + m) * 2)) 76)
  rcases Nat.eq_zero_or_pos l0.length with h0 | h0
  ·refine ⟨madeCells #[.int .i64 0, .int .i64 0] ((l0.length + m) * 2), ?_, size_madeCells _ _, ?_⟩
   ·rw [setRow_self _ _ _ _ _ hg, h0]
    exact run_copy_zero _ _ _ _ _ _ _ _ _ _ _ Try.underlying72 (by rw [hi0]; exact congrArg some hsz)
   ·rw [h0, Nat.zero_mul, List.take_zero]
    exact (List.eq_nil_of_length_eq_zero (by rw [hin2, h0])).symm
  ·obtain ⟨ad, rfl, hsrc⟩ := hcell h0
   have hs := size_madeCells #[.int .i64 0, .int .i64 0] ((l0.length + m) * 2)
   refine ⟨((madeCells #[.int .i64 0, .int .i64 0] ((l0.length + m) * 2)).toList.take 0 ++ inner ++ (madeCells #[.int .i64 0, .int .i64 0] ((l0.length + m) * 2)).toList.drop (0 + inner.length)).toArray, ?_, ?_, ?_⟩
   ·have := run_copy_rows (P := Try.prog) (w.alloc (.cells (madeCells #[.int .i64 0, .int .i64 0] ((l0.length + m) * 2)) 76)) 72 72 ty 76 w.heap.size 0 l0.length (l0.length + m) ad l0.length c0 2 _ _ inner
     Try.underlying72 (by rw [hi0]; exact congrArg some hsz) hg (by rw [show Nat.min l0.length l0.length = l0.length from Nat.min_self _]; exact hin2)
     (fun j v hv => (World.cell?_alloc_lt w _ _ (World.block_lt_of_cell? w _ (hsrc j v hv))).trans (hsrc j v hv)) (by rw [hs]; omega) hone
    rw [show Nat.min l0.length l0.length = l0.length from Nat.min_self _] at this
    exact this
   ·simp only [List.size_toArray, List.length_append, List.length_take, List.length_drop, Array.length_toList, hs]
    omega
   ·simp only [List.take_zero, List.nil_append, List.toList_toArray]
    rw [List.take_append_of_le_length (by omega), List.take_of_length_le (by omega)]
 obtain ⟨cur, hcp, hcs, hct⟩ := hcp 3
 have HH := m_ hcs
 have HT := m_ hct
 have HR := m_ hre
 clear hcell hr0 hin hin2 hone hre hcs hct hi0 hz hsz hby
 have hlen : l0.length ≤ 8796093022208 := by omega
 go_enter Try.func51, Try.ntmps51
 go_wp2
 go_ret
 refine ⟨_, rfl, R_new_row (d := k76) (e := 76) (cur := cur) (fun x cs h => k_item_M h) (HR.out.imp_ (fun _ _ h => k76.K_below ?_ h)) (setRow_heap _ _ _ _ _ _ (heap_alloc_new _ _)) (Nat.le_refl _) (by omega) (by simp only [maxLen]; omega) HH.out HT.out, ?_⟩
 ·exact below_setRow (below_alloc (Below.refl _ _) _) (Nat.le_refl _) _
 ·exact below_setRow (below_alloc (Below.refl _ _) _) (Nat.le_refl _) _

/-! ### cmp_Or_int: function 76 -/
def cmp_Or_int.l0 : Nat → Int → List Int → Int → Int → Option (Int)
 | 0, _, _, _, _ => none
 | k + 1, x3, x6, x7, x8 => if x8 < x7 then (if 0 ≤ x8 then (if x8 < (x6.length : Int) then (if (rd x6 x8) = x3 then (cmp_Or_int.l0 k x3 x6 x7 (wrap64 (x8 + 1))) else (some (rd x6 x8))) else (none)) else (none)) else (some x3)
def cmp_Or_int.f (k : Nat) (l0 : List Int) : Option (Int) := cmp_Or_int.l0 k 0 l0 (l0.length : Int) 0
theorem cmp_Or_int.mono_l : ∀ k, (∀ y0 y1 y2 y3, LeO (cmp_Or_int.l0 k y0 y1 y2 y3) (cmp_Or_int.l0 (k + 1) y0 y1 y2 y3))
 | 0 => fun _ _ _ _ r h => by simp [cmp_Or_int.l0] at h
 | k + 1 => by
  have ih0 := cmp_Or_int.mono_l k
  ·intro y0 y1 y2 y3
   unfold cmp_Or_int.l0
   repeat' first
   | (with_reducible exact ih0 _ _ _ _)
   | (with_reducible exact LeO.refl _)
   | (with_reducible exact LeO.none _)
   | (with_reducible refine LeO.ite ?_ ?_)
   | (with_reducible refine LeO.bind ?_ (fun _ => ?_))
   | exact ih0 _ _ _ _
   | exact LeO.none _
   | refine LeO.ite ?_ ?_
   | refine LeO.bind ?_ (fun _ => ?_)
theorem cmp_Or_int.mono : ∀ a0 k, LeO (cmp_Or_int.f k a0) (cmp_Or_int.f (k + 1) a0) := by
 intro a0 k
 have ih0 := cmp_Or_int.mono_l k
 unfold cmp_Or_int.f
 repeat' first
   | (with_reducible exact ih0 _ _ _ _)
   | (with_reducible exact LeO.refl _)
   | (with_reducible exact LeO.none _)
   | (with_reducible refine LeO.ite ?_ ?_)
   | (with_reducible refine LeO.bind ?_ (fun _ => ?_))
   | exact ih0 _ _ _ _
   | exact LeO.none _
   | refine LeO.ite ?_ ?_
   | refine LeO.bind ?_ (fun _ => ?_)
set_option maxHeartbeats 8000000 in
set_option maxRecDepth 100000 in
theorem cmp_Or_int.calls (k : Nat) (A0 : Option Addr) (c0 : Nat) (l0 : List Int) (r : Int) (w : World) (hr0 : Kd.C (Kd.int .i64) w A0 l0.length l0) (hc0 : l0.length ≤ c0) (h : cmp_Or_int.f k l0 = some r) :
  Calls Try.prog 76 #[.slice A0 l0.length c0] w fun e w' => e = .returned (.int .i64 r) ∧ Drawn0 w w' := by
 have HR0 := m_ hr0
 have HC0 := m_ hc0
 clear hr0 hc0
 have H : (cmp_Or_int.l0 k 0 l0 (l0.length : Int) 0) = some r := h
 clear h
 have H' := m_ H
 clear H
 go_enter Try.func76, Try.ntmps76
 go_wp2
 go_loopg [8] k (fun kq v8 w' => ∃ (x8_1 : Int), v8 = .int .i64 x8_1 ∧ Aside0 (cmp_Or_int.l0 kq 0 l0 (l0.length : Int) x8_1 = some r) ∧ Aside0 (kq ≤ k) ∧ Drawn0 w w')
 case atStart => exact ⟨(0), (by first | rfl | (simp; done) | (simp [*]; done)), H', ⟨Nat.le_refl _⟩, by repeat (first | exact Drawn0.refl _ | apply Drawn0.step)⟩
 case round =>
  clear H'
  obtain ⟨x8_1, rfl, HA, HK1, ⟨m1, rfl⟩⟩ := hrel
  cases gk with
  | zero => exact absurd HA.out (by simp [cmp_Or_int.l0])
  | succ k1 =>
   have H := HA.out
   clear HA
   simp only [cmp_Or_int.l0] at H
   by_cases c2 : x8_1 < (l0.length : Int)
   ·rw [if_pos c2] at H
    have c2b0 : decide (x8_1 < (l0.length : Int)) = true := decide_eq_true c2
    clear c2
    by_cases c3 : 0 ≤ x8_1
    ·rw [if_pos c3] at H
     have c3b0 : decide (0 ≤ x8_1) = true := decide_eq_true c3
     clear c3
     by_cases c4 : x8_1 < (l0.length : Int)
     ·rw [if_pos c4] at H
      have c4b0 : decide (x8_1 < (l0.length : Int)) = true := decide_eq_true c4
      clear c4
      by_cases c5 : (rd l0 x8_1) = 0
      ·rw [if_pos c5] at H
       have c5b0 : ((rd l0 x8_1) == 0) = true := beq_iff_eq.mpr c5
       have c5b1 : ((rd l0 x8_1) != 0) = false := bne_eq_false_iff_eq.mpr c5
       clear c5
       have H' := m_ H
       clear H
       have p127 : 0 ≤ (x8_1 : Int) := od_
       have q127 : x8_1 < (l0.length : Int) := od_
       obtain ⟨ad127, e127, hx127_0⟩ := Kd.at_int HR0.out x8_1 p127 q127
       cases e127
       replace p127 := eq_true p127
       replace q127 := eq_true q127
       go_wp2
       go_roundg k1
       case measure => have := HK1.out; omega
       case rel => exact ⟨(wrap64 (x8_1 + 1)), (by first | rfl | (simp; done) | (simp [*]; done)), H', ⟨by have := HK1.out; omega⟩, by repeat (first | exact Drawn0.refl _ | apply Drawn0.step)⟩
      ·rw [if_neg c5] at H
       have c5b0 : ((rd l0 x8_1) == 0) = false := beq_eq_false_iff_ne.mpr c5
       have c5b1 : ((rd l0 x8_1) != 0) = true := bne_iff_ne.mpr c5
       obtain rfl := Option.some.inj H
       have p127 : 0 ≤ (x8_1 : Int) := od_
       have q127 : x8_1 < (l0.length : Int) := od_
       obtain ⟨ad127, e127, hx127_0⟩ := Kd.at_int HR0.out x8_1 p127 q127
       cases e127
       replace p127 := eq_true p127
       replace q127 := eq_true q127
       go_wp2
       go_ret
       exact ⟨(by first | rfl | (simp; done) | (simp [*]; done)), (by repeat (first | exact Drawn0.refl _ | apply Drawn0.step))⟩
     ·rw [if_neg c4] at H
      exact absurd H (by simp)
    ·rw [if_neg c3] at H
     exact absurd H (by simp)
   ·rw [if_neg c2] at H
    have c2b0 : decide (x8_1 < (l0.length : Int)) = false := decide_eq_false c2
    clear c2
    obtain rfl := Option.some.inj H
    go_wp2
    go_ret
    exact ⟨(by first | rfl | (simp; done) | (simp [*]; done)), (by repeat (first | exact Drawn0.refl _ | apply Drawn0.step))⟩

/-! ### cmp_isNaN_int: function 75 -/
def cmp_isNaN_int.f (a0 : Int) : Option (Bool) := some (a0 != a0)
set_option maxHeartbeats 8000000 in
set_option maxRecDepth 100000 in
theorem cmp_isNaN_int.calls (a0 : Int) (r : Bool) (w : World) (h : cmp_isNaN_int.f a0 = some r) :
  Calls Try.prog 75 #[.int .i64 a0] w fun e w' => e = .returned (.bool r) ∧ Drawn0 w w' := by
 have H : (some (a0 != a0)) = some r := h
 clear h
 obtain rfl := Option.some.inj H
 go_enter Try.func75, Try.ntmps75
 go_wp2
 go_ret
 exact ⟨(by first | rfl | (simp; done) | (simp [*]; done)), (by repeat (first | exact Drawn0.refl _ | apply Drawn0.step))⟩

end Go.Proofs.Ytkcphjdjhlikhaa.P

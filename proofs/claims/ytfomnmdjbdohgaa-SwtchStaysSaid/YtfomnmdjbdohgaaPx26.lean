/- For each Go function a Lean function, and the proof that a call comes to what it tells: made by program out of the translation (the kit's print, with texts by hand put in). No condition. -/
import Derived.Test.YtfomnmdjbdohgaaSq
import Derived.Test.YtfomnmdjbdohgaaPx0
import Derived.Test.YtfomnmdjbdohgaaPx1
namespace Go.Proofs.Ytfomnmdjbdohgaa.P
open Go.RowKit Go.Proofs.Ytfomnmdjbdohgaa.HRows Go.Proofs.YtfomnmdjbdohgaaW.PrintWords Go.Proofs.YtfomnmdjbdohgaaW.PrintLast Go.Proofs.YtfomnmdjbdohgaaW.PrintMore
attribute [local go_sem] max2_int min2_int max_two min_two max_three min_three max_four min_four
set_option linter.unusedVariables false
set_option linter.unusedSimpArgs false
attribute [local go_sem high] eqA74
mutual
def stolonref15_Same.j0 : Nat → Bool → Int → Int → Int → Int → Int → List (S74) → Int → Int → Int → Int → Int → List (S74) → Option (Bool)
 | 0, _, _, _, _, _, _, _, _, _, _, _, _, _ => none
 | k + 1, x47, x285000, x285001, x285002, x285003, x285004, x285005, x286000, x286001, x286002, x286003, x286004, x286005 => if x47 = true then (some false) else (stolonref15_Same.l0 k 0 x285000 x285001 x285002 x285003 x285004 x285005 x286000 x286001 x286002 x286003 x286004 x286005)
def stolonref15_Same.l0 : Nat → Int → Int → Int → Int → Int → Int → List (S74) → Int → Int → Int → Int → Int → List (S74) → Option (Bool)
 | 0, _, _, _, _, _, _, _, _, _, _, _, _, _ => none
 | k + 1, x5, x285000, x285001, x285002, x285003, x285004, x285005, x286000, x286001, x286002, x286003, x286004, x286005 => if x5 < (x285005.length : Int) then (if 0 ≤ x5 then (if x5 < (x286005.length : Int) then (if (!(((rd_T74 x285005 x5).f0) == ((rd_T74 x286005 x5).f0)) || (!(((rd_T74 x285005 x5).f1) == ((rd_T74 x286005 x5).f1)))) = true then (some false) else (stolonref15_Same.l0 k (wrap64 (x5 + 1)) x285000 x285001 x285002 x285003 x285004 x285005 x286000 x286001 x286002 x286003 x286004 x286005)) else (none)) else (none)) else (some true)
end
def stolonref15_Same.f (k : Nat) (a0_0 : Int) (a0_1 : Int) (a0_2 : Int) (a0_3 : Int) (a0_4 : Int) (l0_5 : List (S74)) (a1_0 : Int) (a1_1 : Int) (a1_2 : Int) (a1_3 : Int) (a1_4 : Int) (l1_5 : List (S74)) : Option (Bool) := if a0_0 = a1_0 then (if a0_1 = a1_1 then (if a0_2 = a1_2 then (if a0_3 = a1_3 then (if a0_4 = a1_4 then (stolonref15_Same.j0 k ((l0_5.length : Int) != (l1_5.length : Int)) a0_0 a0_1 a0_2 a0_3 a0_4 l0_5 a1_0 a1_1 a1_2 a1_3 a1_4 l1_5) else (stolonref15_Same.j0 k true a0_0 a0_1 a0_2 a0_3 a0_4 l0_5 a1_0 a1_1 a1_2 a1_3 a1_4 l1_5)) else (stolonref15_Same.j0 k true a0_0 a0_1 a0_2 a0_3 a0_4 l0_5 a1_0 a1_1 a1_2 a1_3 a1_4 l1_5)) else (stolonref15_Same.j0 k true a0_0 a0_1 a0_2 a0_3 a0_4 l0_5 a1_0 a1_1 a1_2 a1_3 a1_4 l1_5)) else (stolonref15_Same.j0 k true a0_0 a0_1 a0_2 a0_3 a0_4 l0_5 a1_0 a1_1 a1_2 a1_3 a1_4 l1_5)) else (stolonref15_Same.j0 k true a0_0 a0_1 a0_2 a0_3 a0_4 l0_5 a1_0 a1_1 a1_2 a1_3 a1_4 l1_5)
set_option maxHeartbeats 8000000 in
set_option maxRecDepth 100000 in
theorem stolonref15_Same.calls (k : Nat) (a0_0 : Int) (a0_1 : Int) (a0_2 : Int) (a0_3 : Int) (a0_4 : Int) (A0_5 : Option Addr) (c0_5 : Nat) (l0_5 : List (S74)) (a1_0 : Int) (a1_1 : Int) (a1_2 : Int) (a1_3 : Int) (a1_4 : Int) (A1_5 : Option Addr) (c1_5 : Nat) (l1_5 : List (S74)) (r : Bool) (w : World) (hr0_5 : Kd.C k74 w A0_5 l0_5.length l0_5) (hc0_5 : l0_5.length ≤ c0_5) (hr1_5 : Kd.C k74 w A1_5 l1_5.length l1_5) (hc1_5 : l1_5.length ≤ c1_5) (h : stolonref15_Same.f k a0_0 a0_1 a0_2 a0_3 a0_4 l0_5 a1_0 a1_1 a1_2 a1_3 a1_4 l1_5 = some r) :
  Calls Try.prog 20 #[.agg #[.int .u32 a0_0, .int .u32 a0_1, .int .u32 a0_2, .int .i64 a0_3, .int .u32 a0_4, .slice A0_5 l0_5.length c0_5], .agg #[.int .u32 a1_0, .int .u32 a1_1, .int .u32 a1_2, .int .i64 a1_3, .int .u32 a1_4, .slice A1_5 l1_5.length c1_5]] w fun e w' => e = .returned (.bool r) ∧ Below w.heap.size w w' := by
 have hu29 := Try.underlying29
 have hu74 := Try.underlying74
 have HR0_5 := m_ hr0_5
 have HC0_5 := m_ hc0_5
 clear hr0_5 hc0_5
 have HR1_5 := m_ hr1_5
 have HC1_5 := m_ hc1_5
 clear hr1_5 hc1_5
 have HB := m_ (Below.refl w.heap.size w)
 have H : (if a0_0 = a1_0 then (if a0_1 = a1_1 then (if a0_2 = a1_2 then (if a0_3 = a1_3 then (if a0_4 = a1_4 then (stolonref15_Same.j0 k ((l0_5.length : Int) != (l1_5.length : Int)) a0_0 a0_1 a0_2 a0_3 a0_4 l0_5 a1_0 a1_1 a1_2 a1_3 a1_4 l1_5) else (stolonref15_Same.j0 k true a0_0 a0_1 a0_2 a0_3 a0_4 l0_5 a1_0 a1_1 a1_2 a1_3 a1_4 l1_5)) else (stolonref15_Same.j0 k true a0_0 a0_1 a0_2 a0_3 a0_4 l0_5 a1_0 a1_1 a1_2 a1_3 a1_4 l1_5)) else (stolonref15_Same.j0 k true a0_0 a0_1 a0_2 a0_3 a0_4 l0_5 a1_0 a1_1 a1_2 a1_3 a1_4 l1_5)) else (stolonref15_Same.j0 k true a0_0 a0_1 a0_2 a0_3 a0_4 l0_5 a1_0 a1_1 a1_2 a1_3 a1_4 l1_5)) else (stolonref15_Same.j0 k true a0_0 a0_1 a0_2 a0_3 a0_4 l0_5 a1_0 a1_1 a1_2 a1_3 a1_4 l1_5)) = some r := h
 clear h
 have HC3 := m_ H
 clear H
 go_enter Try.func20, Try.ntmps20
 go_upto_region 1 with (first | ((with_reducible refine gate_dst (N := 2) rfl ?_); (try (refine gate_guard (by rfl) ?_; dsimp only)); refine bx_ 2 29 #[.int .u32 a0_0, .int .u32 a0_1, .int .u32 a0_2, .int .i64 a0_3, .int .u32 a0_4, .slice A0_5 l0_5.length c0_5] ?_; intro gb284 hg w4 hbox hb; have BK284 := m_ (hbox); have GW284 := m_ ((gw_ : w.heap.size ≤ gb284)); have GE284 := m_ ((gw_ : w.heap.size ≤ gb284)); replace HB := m_ (below_step bz_ hb); clear hb hbox hg) | ((with_reducible refine gate_dst (N := 3) rfl ?_); (try (refine gate_guard (by rfl) ?_; dsimp only)); refine bx_ 3 29 #[.int .u32 a1_0, .int .u32 a1_1, .int .u32 a1_2, .int .i64 a1_3, .int .u32 a1_4, .slice A1_5 l1_5.length c1_5] ?_; intro gb285 hg w5 hbox hb; have BK285 := m_ (hbox); have GW285 := m_ ((gw_ : w.heap.size ≤ gb285)); have GE285 := m_ ((gw_ : w.heap.size ≤ gb285)); have NB284_285 := m_ ((gl_ : gb284 ≠ gb285)); have NB285_284 := m_ ((gr_ : gb285 ≠ gb284)); replace BK284 := m_ (kl_ gb284 hb); replace HB := m_ (below_step bz_ hb); clear hb hbox hg))
 repeat (go_quiet (first | ((with_reducible refine gate_dst (N := 2) rfl ?_); (try (refine gate_guard (by rfl) ?_; dsimp only)); refine bx_ 2 29 #[.int .u32 a0_0, .int .u32 a0_1, .int .u32 a0_2, .int .i64 a0_3, .int .u32 a0_4, .slice A0_5 l0_5.length c0_5] ?_; intro gb284 hg w4 hbox hb; have BK284 := m_ (hbox); have GW284 := m_ ((gw_ : w.heap.size ≤ gb284)); have GE284 := m_ ((gw_ : w.heap.size ≤ gb284)); replace HB := m_ (below_step bz_ hb); clear hb hbox hg) | ((with_reducible refine gate_dst (N := 3) rfl ?_); (try (refine gate_guard (by rfl) ?_; dsimp only)); refine bx_ 3 29 #[.int .u32 a1_0, .int .u32 a1_1, .int .u32 a1_2, .int .i64 a1_3, .int .u32 a1_4, .slice A1_5 l1_5.length c1_5] ?_; intro gb285 hg w5 hbox hb; have BK285 := m_ (hbox); have GW285 := m_ ((gw_ : w.heap.size ≤ gb285)); have GE285 := m_ ((gw_ : w.heap.size ≤ gb285)); have NB284_285 := m_ ((gl_ : gb284 ≠ gb285)); have NB285_284 := m_ ((gr_ : gb285 ≠ gb284)); replace BK284 := m_ (kl_ gb284 hb); replace HB := m_ (below_step bz_ hb); clear hb hbox hg)); go_upto_region 1 with (first | ((with_reducible refine gate_dst (N := 2) rfl ?_); (try (refine gate_guard (by rfl) ?_; dsimp only)); refine bx_ 2 29 #[.int .u32 a0_0, .int .u32 a0_1, .int .u32 a0_2, .int .i64 a0_3, .int .u32 a0_4, .slice A0_5 l0_5.length c0_5] ?_; intro gb284 hg w4 hbox hb; have BK284 := m_ (hbox); have GW284 := m_ ((gw_ : w.heap.size ≤ gb284)); have GE284 := m_ ((gw_ : w.heap.size ≤ gb284)); replace HB := m_ (below_step bz_ hb); clear hb hbox hg) | ((with_reducible refine gate_dst (N := 3) rfl ?_); (try (refine gate_guard (by rfl) ?_; dsimp only)); refine bx_ 3 29 #[.int .u32 a1_0, .int .u32 a1_1, .int .u32 a1_2, .int .i64 a1_3, .int .u32 a1_4, .slice A1_5 l1_5.length c1_5] ?_; intro gb285 hg w5 hbox hb; have BK285 := m_ (hbox); have GW285 := m_ ((gw_ : w.heap.size ≤ gb285)); have GE285 := m_ ((gw_ : w.heap.size ≤ gb285)); have NB284_285 := m_ ((gl_ : gb284 ≠ gb285)); have NB285_284 := m_ ((gr_ : gb285 ≠ gb284)); replace BK284 := m_ (kl_ gb284 hb); replace HB := m_ (below_step bz_ hb); clear hb hbox hg)))
 (try simp only [Act.put, List.setIfInBounds_toArray, List.set_cons_zero, List.set_cons_succ])
 go_cut [47] (fun v47 wc => ∃ (kq : Nat) (x47_2 : Bool), v47 = .bool x47_2 ∧ Aside0 (stolonref15_Same.j0 kq x47_2 a0_0 a0_1 a0_2 a0_3 a0_4 l0_5 a1_0 a1_1 a1_2 a1_3 a1_4 l1_5 = some r) ∧ Aside0 (kq ≤ k) ∧ Aside0 (wc.heap[gb284]? = some (.cells #[.int .u32 a0_0, .int .u32 a0_1, .int .u32 a0_2, .int .i64 a0_3, .int .u32 a0_4, (.slice A0_5 l0_5.length c0_5)] 29 (0, 0))) ∧ Aside0 (wc.heap[gb285]? = some (.cells #[.int .u32 a1_0, .int .u32 a1_1, .int .u32 a1_2, .int .i64 a1_3, .int .u32 a1_4, (.slice A1_5 l1_5.length c1_5)] 29 (0, 0))) ∧ Aside0 (Below w.heap.size w wc))
 case first =>
  have H := HC3.out
  clear HC3
  by_cases c6 : a0_0 = a1_0
  ·rw [if_pos c6] at H
   have c6b0 : (a0_0 == a1_0) = true := beq_iff_eq.mpr c6
   have c6b1 : (a0_0 != a1_0) = false := bne_eq_false_iff_eq.mpr c6
   clear c6
   (first | rw [c6b0] | (simp only [i64_w, i32_w]; rw [c6b0]) | skip)
   by_cases c7 : a0_1 = a1_1
   ·rw [if_pos c7] at H
    have c7b0 : (a0_1 == a1_1) = true := beq_iff_eq.mpr c7
    have c7b1 : (a0_1 != a1_1) = false := bne_eq_false_iff_eq.mpr c7
    clear c7
    by_cases c8 : a0_2 = a1_2
    ·rw [if_pos c8] at H
     have c8b0 : (a0_2 == a1_2) = true := beq_iff_eq.mpr c8
     have c8b1 : (a0_2 != a1_2) = false := bne_eq_false_iff_eq.mpr c8
     clear c8
     by_cases c9 : a0_3 = a1_3
     ·rw [if_pos c9] at H
      have c9b0 : (a0_3 == a1_3) = true := beq_iff_eq.mpr c9
      have c9b1 : (a0_3 != a1_3) = false := bne_eq_false_iff_eq.mpr c9
      clear c9
      by_cases c10 : a0_4 = a1_4
      ·rw [if_pos c10] at H
       have c10b0 : (a0_4 == a1_4) = true := beq_iff_eq.mpr c10
       have c10b1 : (a0_4 != a1_4) = false := bne_eq_false_iff_eq.mpr c10
       clear c10
       have H' := m_ H
       clear H
       have hnb11 := NB284_285.out
       have hnc11 := NB285_284.out
       have hcz12 := cz6_ BK284.out
       have hcz13 := cz6_ BK285.out
       go_wp2
       repeat (go_quiet (fail); try go_wp2)
       go_meet
       case rel => exact ⟨_, (((l0_5.length : Int) != (l1_5.length : Int))), (by first | rfl | (simp; done) | (simp [*]; done)), H', ⟨by first | omega | exact Nat.le_refl _⟩, ⟨kz_⟩, ⟨kz_⟩, ⟨bz_⟩⟩
      ·rw [if_neg c10] at H
       have c10b0 : (a0_4 == a1_4) = false := beq_eq_false_iff_ne.mpr c10
       have c10b1 : (a0_4 != a1_4) = true := bne_iff_ne.mpr c10
       have H' := m_ H
       clear H
       have hnb14 := NB284_285.out
       have hnc14 := NB285_284.out
       have hcz15 := cz6_ BK284.out
       have hcz16 := cz6_ BK285.out
       go_wp2
       repeat (go_quiet (fail); try go_wp2)
       go_meet
       case rel => exact ⟨_, (true), (by first | rfl | (simp; done) | (simp [*]; done)), H', ⟨by first | omega | exact Nat.le_refl _⟩, ⟨kz_⟩, ⟨kz_⟩, ⟨bz_⟩⟩
     ·rw [if_neg c9] at H
      have c9b0 : (a0_3 == a1_3) = false := beq_eq_false_iff_ne.mpr c9
      have c9b1 : (a0_3 != a1_3) = true := bne_iff_ne.mpr c9
      have H' := m_ H
      clear H
      have hnb17 := NB284_285.out
      have hnc17 := NB285_284.out
      have hcz18 := cz6_ BK284.out
      have hcz19 := cz6_ BK285.out
      go_wp2
      repeat (go_quiet (fail); try go_wp2)
      go_meet
      case rel => exact ⟨_, (true), (by first | rfl | (simp; done) | (simp [*]; done)), H', ⟨by first | omega | exact Nat.le_refl _⟩, ⟨kz_⟩, ⟨kz_⟩, ⟨bz_⟩⟩
    ·rw [if_neg c8] at H
     have c8b0 : (a0_2 == a1_2) = false := beq_eq_false_iff_ne.mpr c8
     have c8b1 : (a0_2 != a1_2) = true := bne_iff_ne.mpr c8
     have H' := m_ H
     clear H
     have hnb20 := NB284_285.out
     have hnc20 := NB285_284.out
     have hcz21 := cz6_ BK284.out
     have hcz22 := cz6_ BK285.out
     go_wp2
     repeat (go_quiet (fail); try go_wp2)
     go_meet
     case rel => exact ⟨_, (true), (by first | rfl | (simp; done) | (simp [*]; done)), H', ⟨by first | omega | exact Nat.le_refl _⟩, ⟨kz_⟩, ⟨kz_⟩, ⟨bz_⟩⟩
   ·rw [if_neg c7] at H
    have c7b0 : (a0_1 == a1_1) = false := beq_eq_false_iff_ne.mpr c7
    have c7b1 : (a0_1 != a1_1) = true := bne_iff_ne.mpr c7
    have H' := m_ H
    clear H
    have hnb23 := NB284_285.out
    have hnc23 := NB285_284.out
    have hcz24 := cz6_ BK284.out
    have hcz25 := cz6_ BK285.out
    go_wp2
    repeat (go_quiet (fail); try go_wp2)
    go_meet
    case rel => exact ⟨_, (true), (by first | rfl | (simp; done) | (simp [*]; done)), H', ⟨by first | omega | exact Nat.le_refl _⟩, ⟨kz_⟩, ⟨kz_⟩, ⟨bz_⟩⟩
  ·rw [if_neg c6] at H
   have c6b0 : (a0_0 == a1_0) = false := beq_eq_false_iff_ne.mpr c6
   have c6b1 : (a0_0 != a1_0) = true := bne_iff_ne.mpr c6
   (first | rw [c6b0] | (simp only [i64_w, i32_w]; rw [c6b0]) | skip)
   have H' := m_ H
   clear H
   have hnb26 := NB284_285.out
   have hnc26 := NB285_284.out
   have hcz27 := cz6_ BK284.out
   have hcz28 := cz6_ BK285.out
   go_wp2
   repeat (go_quiet (fail); try go_wp2)
   go_meet
   case rel => exact ⟨_, (true), (by first | rfl | (simp; done) | (simp [*]; done)), H', ⟨by first | omega | exact Nat.le_refl _⟩, ⟨kz_⟩, ⟨kz_⟩, ⟨bz_⟩⟩
 case rest =>
  clear HC3
  try clear c1
  try clear c2
  try clear p2
  try clear c6
  try clear c6b0
  try clear c6b1
  try clear c7
  try clear c7b0
  try clear c7b1
  try clear c8
  try clear c8b0
  try clear c8b1
  try clear c9
  try clear c9b0
  try clear c9b1
  try clear c10
  try clear c10b0
  try clear c10b1
  try clear c11
  try clear c14
  try clear c17
  try clear c20
  try clear c23
  try clear c26
  (try clear hcz12)
  (try clear hcz13)
  (try clear hcz15)
  (try clear hcz16)
  (try clear hcz18)
  (try clear hcz19)
  (try clear hcz21)
  (try clear hcz22)
  (try clear hcz24)
  (try clear hcz25)
  (try clear hcz27)
  (try clear hcz28)
  obtain ⟨kq, x47_2, rfl, HA, HJ2, BK284, BK285, HB⟩ := hcut
  cases kq with
  | zero => exact absurd HA.out (by simp [stolonref15_Same.j0])
  | succ kj2 =>
   have H := HA.out
   clear HA
   simp only [stolonref15_Same.j0] at H
   by_cases c29 : x47_2 = true
   ·subst c29
    have H1 : (some false) = some r := by rw [if_pos rfl] at H; exact H
    clear H
    have H := H1
    clear H1
    obtain rfl := Option.some.inj H
    go_wp2
    repeat (go_quiet (fail); try go_wp2)
    go_ret
    exact ⟨ew_, bz_⟩
   ·replace c29 := Bool.eq_false_iff.mpr c29
    subst c29
    have H1 : (stolonref15_Same.l0 kj2 0 a0_0 a0_1 a0_2 a0_3 a0_4 l0_5 a1_0 a1_1 a1_2 a1_3 a1_4 l1_5) = some r := by rw [if_neg (show ¬ (false = true) by decide)] at H; exact H
    clear H
    have H := H1
    clear H1
    have H' := m_ H
    clear H
    go_wp2
    repeat (go_quiet (fail); try go_wp2)
    go_loopg [5] kj2 (fun kq v5 w' => ∃ (x5_2 : Int), v5 = .int .i64 x5_2 ∧ Aside0 (stolonref15_Same.l0 kq x5_2 a0_0 a0_1 a0_2 a0_3 a0_4 l0_5 a1_0 a1_1 a1_2 a1_3 a1_4 l1_5 = some r) ∧ Aside0 (kq ≤ kj2) ∧ Aside0 (w'.heap[gb284]? = some (.cells #[.int .u32 a0_0, .int .u32 a0_1, .int .u32 a0_2, .int .i64 a0_3, .int .u32 a0_4, (.slice A0_5 l0_5.length c0_5)] 29 (0, 0))) ∧ Aside0 (w'.heap[gb285]? = some (.cells #[.int .u32 a1_0, .int .u32 a1_1, .int .u32 a1_2, .int .i64 a1_3, .int .u32 a1_4, (.slice A1_5 l1_5.length c1_5)] 29 (0, 0))) ∧ Aside0 (Below w.heap.size w w'))
    case atStart => exact ⟨(0), (by first | rfl | (simp; done) | (simp [*]; done)), H', ⟨Nat.le_refl _⟩, ⟨kz_⟩, ⟨kz_⟩, ⟨bz_⟩⟩
    case round =>
     clear H'
     try clear c1
     try clear c2
     try clear p2
     try clear c6
     try clear c6b0
     try clear c6b1
     try clear c7
     try clear c7b0
     try clear c7b1
     try clear c8
     try clear c8b0
     try clear c8b1
     try clear c9
     try clear c9b0
     try clear c9b1
     try clear c10
     try clear c10b0
     try clear c10b1
     try clear c11
     try clear c14
     try clear c17
     try clear c20
     try clear c23
     try clear c26
     try clear c29
     (try clear hcz12)
     (try clear hcz13)
     (try clear hcz15)
     (try clear hcz16)
     (try clear hcz18)
     (try clear hcz19)
     (try clear hcz21)
     (try clear hcz22)
     (try clear hcz24)
     (try clear hcz25)
     (try clear hcz27)
     (try clear hcz28)
     try clear p2
     obtain ⟨x5_2, rfl, HA, HK2, BK284, BK285, HB⟩ := hrel
     cases gk with
     | zero => exact absurd HA.out (by simp [stolonref15_Same.l0])
     | succ k2 =>
      have H := HA.out
      clear HA
      simp only [stolonref15_Same.l0] at H
      by_cases c30 : x5_2 < (l0_5.length : Int)
      ·rw [if_pos c30] at H
       have c30b0 : decide (x5_2 < (l0_5.length : Int)) = true := decide_eq_true c30
       clear c30
       by_cases c31 : 0 ≤ x5_2
       ·rw [if_pos c31] at H
        have c31b0 : decide (0 ≤ x5_2) = true := decide_eq_true c31
        clear c31
        by_cases c32 : x5_2 < (l1_5.length : Int)
        ·rw [if_pos c32] at H
         have c32b0 : decide (x5_2 < (l1_5.length : Int)) = true := decide_eq_true c32
         clear c32
         by_cases c33 : (!(((rd_T74 l0_5 x5_2).f0) == ((rd_T74 l1_5 x5_2).f0)) || (!(((rd_T74 l0_5 x5_2).f1) == ((rd_T74 l1_5 x5_2).f1)))) = true
         ·rw [if_pos c33] at H
          have c33b0 : (!(((rd_T74 l0_5 x5_2).f0) == ((rd_T74 l1_5 x5_2).f0)) || (!(((rd_T74 l0_5 x5_2).f1) == ((rd_T74 l1_5 x5_2).f1)))) = true := c33
          clear c33
          obtain rfl := Option.some.inj H
          have hnb34 := NB284_285.out
          have hnc34 := NB285_284.out
          have hcz35 := cz6_ BK284.out
          have p286 : 0 ≤ (x5_2 : Int) := od_
          have q286 : x5_2 < (l0_5.length : Int) := od_
          obtain ⟨ad286, e286, hx286_0, hx286_1⟩ := at_T74 HR0_5.out x5_2 p286 q286
          cases e286
          replace hx286_0 := kp_ HB.out hx286_0
          replace hx286_1 := kp_ HB.out hx286_1
          replace p286 := eq_true p286
          replace q286 := eq_true q286
          have hcz36 := cz6_ BK285.out
          have p287 : 0 ≤ (x5_2 : Int) := od_
          have q287 : x5_2 < (l1_5.length : Int) := od_
          obtain ⟨ad287, e287, hx287_0, hx287_1⟩ := at_T74 HR1_5.out x5_2 p287 q287
          cases e287
          replace hx287_0 := kp_ HB.out hx287_0
          replace hx287_1 := kp_ HB.out hx287_1
          replace p287 := eq_true p287
          replace q287 := eq_true q287
          go_wp2
          repeat (go_quiet (fail); try go_wp2)
          go_ret
          exact ⟨ew_, bz_⟩
         ·rw [if_neg c33] at H
          have c33b0 : (!(((rd_T74 l0_5 x5_2).f0) == ((rd_T74 l1_5 x5_2).f0)) || (!(((rd_T74 l0_5 x5_2).f1) == ((rd_T74 l1_5 x5_2).f1)))) = false := by simpa using c33
          clear c33
          have H' := m_ H
          clear H
          have hnb37 := NB284_285.out
          have hnc37 := NB285_284.out
          have hcz38 := cz6_ BK284.out
          have p286 : 0 ≤ (x5_2 : Int) := od_
          have q286 : x5_2 < (l0_5.length : Int) := od_
          obtain ⟨ad286, e286, hx286_0, hx286_1⟩ := at_T74 HR0_5.out x5_2 p286 q286
          cases e286
          replace hx286_0 := kp_ HB.out hx286_0
          replace hx286_1 := kp_ HB.out hx286_1
          replace p286 := eq_true p286
          replace q286 := eq_true q286
          have hcz39 := cz6_ BK285.out
          have p287 : 0 ≤ (x5_2 : Int) := od_
          have q287 : x5_2 < (l1_5.length : Int) := od_
          obtain ⟨ad287, e287, hx287_0, hx287_1⟩ := at_T74 HR1_5.out x5_2 p287 q287
          cases e287
          replace hx287_0 := kp_ HB.out hx287_0
          replace hx287_1 := kp_ HB.out hx287_1
          replace p287 := eq_true p287
          replace q287 := eq_true q287
          go_wp2
          repeat (go_quiet (fail); try go_wp2)
          go_roundg k2
          case measure => have := HJ2.out; have := HK2.out; omega
          case rel => exact ⟨(wrap64 (x5_2 + 1)), (by first | rfl | (simp; done) | (simp [*]; done)), H', ⟨by have := HJ2.out; have := HK2.out; omega⟩, ⟨kz_⟩, ⟨kz_⟩, ⟨bz_⟩⟩
        ·rw [if_neg c32] at H
         exact absurd H (by simp)
       ·rw [if_neg c31] at H
        exact absurd H (by simp)
      ·rw [if_neg c30] at H
       have c30b0 : decide (x5_2 < (l0_5.length : Int)) = false := decide_eq_false c30
       clear c30
       obtain rfl := Option.some.inj H
       have hnb40 := NB284_285.out
       have hnc40 := NB285_284.out
       have hcz41 := cz6_ BK284.out
       go_wp2
       repeat (go_quiet (fail); try go_wp2)
       go_ret
       exact ⟨ew_, bz_⟩
end Go.Proofs.Ytfomnmdjbdohgaa.P

/- For each Go function a Lean function, and the proof that a call comes to what it tells: made by program out of the translation (the kit's print, with texts by hand put in). No condition. -/
import Derived.Test.YtfomnmdjbdohgaaSq
import Derived.Test.YtfomnmdjbdohgaaPx0
import Derived.Test.YtfomnmdjbdohgaaPx18
namespace Go.Proofs.Ytfomnmdjbdohgaa.P
open Go.RowKit Go.Proofs.Ytfomnmdjbdohgaa.HRows Go.Proofs.YtfomnmdjbdohgaaW.PrintWords Go.Proofs.YtfomnmdjbdohgaaW.PrintLast Go.Proofs.YtfomnmdjbdohgaaW.PrintMore
attribute [local go_sem] max2_int min2_int max_two min_two max_three min_three max_four min_four
set_option linter.unusedVariables false
set_option linter.unusedSimpArgs false
mutual
def stolonref16_Right.j0 : Nat → Bool → Int → Int → Int → Int → Int → Int → Int → List (S74) → Int → Bool → List Int → Int → Int → Int → Int → Int → List (S74) → Option (Bool)
 | 0, _, _, _, _, _, _, _, _, _, _, _, _, _, _, _, _, _, _ => none
 | k + 1, x4, x234000, x234001, x234002, x234003, x234004, x234005, x234006, x234007, x234008, x234009, x234010, x235000, x235001, x235002, x235003, x235004, x235005 => if x4 = true then (if x235000 = 0 then (if x235001 = 0 then (stolonref16_Right.j1 k x4 (x235002 == 0) x234000 x234001 x234002 x234003 x234004 x234005 x234006 x234007 x234008 x234009 x234010 x235000 x235001 x235002 x235003 x235004 x235005) else (stolonref16_Right.j1 k x4 false x234000 x234001 x234002 x234003 x234004 x234005 x234006 x234007 x234008 x234009 x234010 x235000 x235001 x235002 x235003 x235004 x235005)) else (stolonref16_Right.j1 k x4 false x234000 x234001 x234002 x234003 x234004 x234005 x234006 x234007 x234008 x234009 x234010 x235000 x235001 x235002 x235003 x235004 x235005)) else (stolonref16_Right.j1 k x4 false x234000 x234001 x234002 x234003 x234004 x234005 x234006 x234007 x234008 x234009 x234010 x235000 x235001 x235002 x235003 x235004 x235005)
def stolonref16_Right.j1 : Nat → Bool → Bool → Int → Int → Int → Int → Int → Int → Int → List (S74) → Int → Bool → List Int → Int → Int → Int → Int → Int → List (S74) → Option (Bool)
 | 0, _, _, _, _, _, _, _, _, _, _, _, _, _, _, _, _, _, _, _ => none
 | k + 1, x4, x5, x234000, x234001, x234002, x234003, x234004, x234005, x234006, x234007, x234008, x234009, x234010, x235000, x235001, x235002, x235003, x235004, x235005 => if x234008 = 0 then (if x234009 = true then (stolonref16_Right.j2 k x4 x5 false x234000 x234001 x234002 x234003 x234004 x234005 x234006 x234007 x234008 x234009 x234010 x235000 x235001 x235002 x235003 x235004 x235005) else (stolonref16_Right.j2 k x4 x5 ((x234010.length : Int) == 0) x234000 x234001 x234002 x234003 x234004 x234005 x234006 x234007 x234008 x234009 x234010 x235000 x235001 x235002 x235003 x235004 x235005)) else (stolonref16_Right.j2 k x4 x5 false x234000 x234001 x234002 x234003 x234004 x234005 x234006 x234007 x234008 x234009 x234010 x235000 x235001 x235002 x235003 x235004 x235005)
def stolonref16_Right.j2 : Nat → Bool → Bool → Bool → Int → Int → Int → Int → Int → Int → Int → List (S74) → Int → Bool → List Int → Int → Int → Int → Int → Int → List (S74) → Option (Bool)
 | 0, _, _, _, _, _, _, _, _, _, _, _, _, _, _, _, _, _, _, _, _ => none
 | k + 1, x4, x5, x6, x234000, x234001, x234002, x234003, x234004, x234005, x234006, x234007, x234008, x234009, x234010, x235000, x235001, x235002, x235003, x235004, x235005 => if x234000 = 1 then ((stolonref15_Right.f k x235000 x235001 x235002 x235003 x235004 x235005).bind fun t235 => (if t235 = true then (some x6) else (some false))) else (if x234000 = 2 then ((stolonref01_Asked.f x235001).bind fun t236 => (if t236 = true then (if x4 = true then (some x6) else (some false)) else (some false))) else (if x234000 = 3 then (stolonref16_Right.j3 k x5 x6 x234000 (x234000 == 3) x234000 x234001 x234002 x234003 x234004 x234005 x234006 x234007 x234008 x234009 x234010) else (if x234000 = 4 then (stolonref16_Right.j3 k x5 x6 x234000 (x234000 == 4) x234000 x234001 x234002 x234003 x234004 x234005 x234006 x234007 x234008 x234009 x234010) else (if x234000 = 5 then (stolonref16_Right.j3 k x5 x6 x234000 (x234000 == 5) x234000 x234001 x234002 x234003 x234004 x234005 x234006 x234007 x234008 x234009 x234010) else (stolonref16_Right.j3 k x5 x6 x234000 (x234000 == 6) x234000 x234001 x234002 x234003 x234004 x234005 x234006 x234007 x234008 x234009 x234010)))))
def stolonref16_Right.j3 : Nat → Bool → Bool → Int → Bool → Int → Int → Int → Int → Int → Int → Int → List (S74) → Int → Bool → List Int → Option (Bool)
 | 0, _, _, _, _, _, _, _, _, _, _, _, _, _, _, _ => none
 | k + 1, x5, x6, x56, x77, x234000, x234001, x234002, x234003, x234004, x234005, x234006, x234007, x234008, x234009, x234010 => if x77 = true then (if x5 = true then (some x6) else (some false)) else (if x56 = 7 then (if x5 = true then (if (x234010.length : Int) = 0 then (if x234008 ≥ 0 then (some (decide (x234008 ≤ 63))) else (some false)) else (some false)) else (some false)) else (if x56 = 8 then (if x5 = true then (if x234009 = true then (some false) else (if x234008 ≥ 64 then (if x234008 ≤ 127 then (some (decide ((x234010.length : Int) ≤ 1500))) else (some false)) else (some false))) else (some false)) else (if x56 = 9 then (if x5 = true then (if x234009 = true then (some false) else (if x234008 ≥ 64 then (if x234008 ≤ 127 then (some (decide ((x234010.length : Int) ≤ 1500))) else (some false)) else (some false))) else (some false)) else (some false))))
end
def stolonref16_Right.f (k : Nat) (a0_0 : Int) (a0_1 : Int) (a0_2 : Int) (a0_3 : Int) (a0_4 : Int) (a0_5 : Int) (a0_6 : Int) (l0_7 : List (S74)) (a0_8 : Int) (a0_9 : Bool) (l0_10 : List Int) : Option (Bool) := if a0_5 = 0 then (if a0_6 = 0 then (stolonref16_Right.j0 k ((l0_7.length : Int) == 0) a0_0 a0_1 a0_2 a0_3 a0_4 a0_5 a0_6 l0_7 a0_8 a0_9 l0_10 a0_2 a0_3 a0_4 a0_5 a0_6 l0_7) else (stolonref16_Right.j0 k false a0_0 a0_1 a0_2 a0_3 a0_4 a0_5 a0_6 l0_7 a0_8 a0_9 l0_10 a0_2 a0_3 a0_4 a0_5 a0_6 l0_7)) else (stolonref16_Right.j0 k false a0_0 a0_1 a0_2 a0_3 a0_4 a0_5 a0_6 l0_7 a0_8 a0_9 l0_10 a0_2 a0_3 a0_4 a0_5 a0_6 l0_7)
set_option maxHeartbeats 8000000 in
set_option maxRecDepth 100000 in
theorem stolonref16_Right.calls (k : Nat) (a0_0 : Int) (a0_1 : Int) (a0_2 : Int) (a0_3 : Int) (a0_4 : Int) (a0_5 : Int) (a0_6 : Int) (A0_7 : Option Addr) (c0_7 : Nat) (l0_7 : List (S74)) (a0_8 : Int) (a0_9 : Bool) (A0_10 : Option Addr) (c0_10 : Nat) (l0_10 : List Int) (r : Bool) (w : World) (hr0_7 : Kd.C k74 w A0_7 l0_7.length l0_7) (hc0_7 : l0_7.length ≤ c0_7) (hr0_10 : Kd.C (Kd.int .u8) w A0_10 l0_10.length l0_10) (hc0_10 : l0_10.length ≤ c0_10) (h : stolonref16_Right.f k a0_0 a0_1 a0_2 a0_3 a0_4 a0_5 a0_6 l0_7 a0_8 a0_9 l0_10 = some r) :
  Calls Try.prog 19 #[.agg #[.int .u8 a0_0, .int .u32 a0_1, .int .u32 a0_2, .int .u32 a0_3, .int .u32 a0_4, .int .i64 a0_5, .int .u32 a0_6, .slice A0_7 l0_7.length c0_7, .int .i64 a0_8, .bool a0_9, .slice A0_10 l0_10.length c0_10]] w fun e w' => e = .returned (.bool r) ∧ Below w.heap.size w w' := by
 have hu32 := Try.underlying32
 have hu29 := Try.underlying29
 have HR0_7 := m_ hr0_7
 have HC0_7 := m_ hc0_7
 clear hr0_7 hc0_7
 have HR0_10 := m_ hr0_10
 have HC0_10 := m_ hc0_10
 clear hr0_10 hc0_10
 have HB := m_ (Below.refl w.heap.size w)
 have H : (if a0_5 = 0 then (if a0_6 = 0 then (stolonref16_Right.j0 k ((l0_7.length : Int) == 0) a0_0 a0_1 a0_2 a0_3 a0_4 a0_5 a0_6 l0_7 a0_8 a0_9 l0_10 a0_2 a0_3 a0_4 a0_5 a0_6 l0_7) else (stolonref16_Right.j0 k false a0_0 a0_1 a0_2 a0_3 a0_4 a0_5 a0_6 l0_7 a0_8 a0_9 l0_10 a0_2 a0_3 a0_4 a0_5 a0_6 l0_7)) else (stolonref16_Right.j0 k false a0_0 a0_1 a0_2 a0_3 a0_4 a0_5 a0_6 l0_7 a0_8 a0_9 l0_10 a0_2 a0_3 a0_4 a0_5 a0_6 l0_7)) = some r := h
 clear h
 have HC2 := m_ H
 clear H
 go_enter Try.func19, Try.ntmps19
 go_upto_region 2 with (first | ((with_reducible refine gate_dst (N := 1) rfl ?_); (try (refine gate_guard (by rfl) ?_; dsimp only)); refine bx_ 1 32 #[.int .u8 a0_0, .int .u32 a0_1, .int .u32 a0_2, .int .u32 a0_3, .int .u32 a0_4, .int .i64 a0_5, .int .u32 a0_6, .slice A0_7 l0_7.length c0_7, .int .i64 a0_8, .bool a0_9, .slice A0_10 l0_10.length c0_10] ?_; intro gb233 hg w3 hbox hb; have BK233 := m_ (hbox); have GW233 := m_ ((gw_ : w.heap.size ≤ gb233)); have GE233 := m_ ((gw_ : w.heap.size ≤ gb233)); replace HB := m_ (below_step bz_ hb); clear hb hbox hg; have hcz4 := cz11_ BK233.out) | ((with_reducible refine gate_dst (N := 3) rfl ?_); (try (refine gate_guard (by rfl) ?_; dsimp only)); refine bx_ 3 29 #[.int .u32 0, .int .u32 0, .int .u32 0, .int .i64 0, .int .u32 0, .slice none 0 0] ?_; intro gb234 hg w5 hbox hb; have BK234 := m_ (hbox); have GW234 := m_ ((gw_ : w.heap.size ≤ gb234)); have GE234 := m_ ((gw_ : w.heap.size ≤ gb234)); have NB233_234 := m_ ((gl_ : gb233 ≠ gb234)); have NB234_233 := m_ ((gr_ : gb234 ≠ gb233)); replace BK233 := m_ (kl_ gb233 hb); replace HB := m_ (below_step bz_ hb); clear hb hbox hg; have hnb6 := NB234_233.out; have hnc6 := NB233_234.out; have hcz7 := cz6_ BK234.out))
 (try simp only [Act.put, List.setIfInBounds_toArray, List.set_cons_zero, List.set_cons_succ])
 go_cut [4] (fun v4 wc => ∃ (kq : Nat) (x4_1 : Bool), v4 = .bool x4_1 ∧ Aside0 (stolonref16_Right.j0 kq x4_1 a0_0 a0_1 a0_2 a0_3 a0_4 a0_5 a0_6 l0_7 a0_8 a0_9 l0_10 a0_2 a0_3 a0_4 a0_5 a0_6 l0_7 = some r) ∧ Aside0 (kq ≤ k) ∧ Aside0 (wc.heap[gb233]? = some (.cells #[.int .u8 a0_0, .int .u32 a0_1, .int .u32 a0_2, .int .u32 a0_3, .int .u32 a0_4, .int .i64 a0_5, .int .u32 a0_6, (.slice A0_7 l0_7.length c0_7), .int .i64 a0_8, .bool a0_9, (.slice A0_10 l0_10.length c0_10)] 32 (0, 0))) ∧ Aside0 (wc.heap[gb234]? = some (.cells #[.int .u32 a0_2, .int .u32 a0_3, .int .u32 a0_4, .int .i64 a0_5, .int .u32 a0_6, (.slice A0_7 l0_7.length c0_7)] 29 (0, 0))) ∧ Aside0 (Below w.heap.size w wc))
 case first =>
  have H := HC2.out
  clear HC2
  by_cases c8 : a0_5 = 0
  ·rw [if_pos c8] at H
   have c8b0 : (a0_5 == 0) = true := beq_iff_eq.mpr c8
   have c8b1 : (a0_5 != 0) = false := bne_eq_false_iff_eq.mpr c8
   clear c8
   (first | rw [c8b0] | (simp only [i64_w, i32_w]; rw [c8b0]) | skip)
   by_cases c9 : a0_6 = 0
   ·rw [if_pos c9] at H
    have c9b0 : (a0_6 == 0) = true := beq_iff_eq.mpr c9
    have c9b1 : (a0_6 != 0) = false := bne_eq_false_iff_eq.mpr c9
    clear c9
    have H' := m_ H
    clear H
    have hnb10 := NB234_233.out
    have hnc10 := NB233_234.out
    have hcz11 := cz6_ BK234.out
    go_wp2
    go_meet
    case rel => exact ⟨_, (((l0_7.length : Int) == 0)), (by first | rfl | (simp; done) | (simp [*]; done)), H', ⟨by first | omega | exact Nat.le_refl _⟩, ⟨kb_⟩, ⟨kb_⟩, ⟨bz_⟩⟩
   ·rw [if_neg c9] at H
    have c9b0 : (a0_6 == 0) = false := beq_eq_false_iff_ne.mpr c9
    have c9b1 : (a0_6 != 0) = true := bne_iff_ne.mpr c9
    have H' := m_ H
    clear H
    have hnb12 := NB234_233.out
    have hnc12 := NB233_234.out
    have hcz13 := cz6_ BK234.out
    go_wp2
    go_meet
    case rel => exact ⟨_, (false), (by first | rfl | (simp; done) | (simp [*]; done)), H', ⟨by first | omega | exact Nat.le_refl _⟩, ⟨kb_⟩, ⟨kb_⟩, ⟨bz_⟩⟩
  ·rw [if_neg c8] at H
   have c8b0 : (a0_5 == 0) = false := beq_eq_false_iff_ne.mpr c8
   have c8b1 : (a0_5 != 0) = true := bne_iff_ne.mpr c8
   (first | rw [c8b0] | (simp only [i64_w, i32_w]; rw [c8b0]) | skip)
   have H' := m_ H
   clear H
   have hnb14 := NB234_233.out
   have hnc14 := NB233_234.out
   have hcz15 := cz6_ BK234.out
   go_wp2
   go_meet
   case rel => exact ⟨_, (false), (by first | rfl | (simp; done) | (simp [*]; done)), H', ⟨by first | omega | exact Nat.le_refl _⟩, ⟨kb_⟩, ⟨kb_⟩, ⟨bz_⟩⟩
 case rest =>
  clear HC2
  try clear c1
  try clear p2
  try clear c6
  try clear c8
  try clear c8b0
  try clear c8b1
  try clear c9
  try clear c9b0
  try clear c9b1
  try clear c10
  try clear c12
  try clear c14
  (try clear hcz11)
  (try clear hcz13)
  (try clear hcz15)
  (try clear hcz4)
  (try clear hcz7)
  obtain ⟨kq, x4_1, rfl, HA, HJ1, BK233, BK234, HB⟩ := hcut
  cases kq with
  | zero => exact absurd HA.out (by simp [stolonref16_Right.j0])
  | succ kj1 =>
   have H := HA.out
   clear HA
   simp only [stolonref16_Right.j0] at H
   have HC16 := m_ H
   clear H
   go_upto_region 3 with (fail)
   go_cut [5] (fun v5 wc => ∃ (kq : Nat) (x5_15 : Bool), v5 = .bool x5_15 ∧ Aside0 (stolonref16_Right.j1 kq x4_1 x5_15 a0_0 a0_1 a0_2 a0_3 a0_4 a0_5 a0_6 l0_7 a0_8 a0_9 l0_10 a0_2 a0_3 a0_4 a0_5 a0_6 l0_7 = some r) ∧ Aside0 (kq ≤ kj1) ∧ Aside0 (wc.heap[gb233]? = some (.cells #[.int .u8 a0_0, .int .u32 a0_1, .int .u32 a0_2, .int .u32 a0_3, .int .u32 a0_4, .int .i64 a0_5, .int .u32 a0_6, (.slice A0_7 l0_7.length c0_7), .int .i64 a0_8, .bool a0_9, (.slice A0_10 l0_10.length c0_10)] 32 (0, 0))) ∧ Aside0 (wc.heap[gb234]? = some (.cells #[.int .u32 a0_2, .int .u32 a0_3, .int .u32 a0_4, .int .i64 a0_5, .int .u32 a0_6, (.slice A0_7 l0_7.length c0_7)] 29 (0, 0))) ∧ Aside0 (Below w.heap.size w wc))
   case first =>
    have H := HC16.out
    clear HC16
    by_cases c17 : x4_1 = true
    ·subst c17
     have H1 : (if a0_2 = 0 then (if a0_3 = 0 then (stolonref16_Right.j1 kj1 true (a0_4 == 0) a0_0 a0_1 a0_2 a0_3 a0_4 a0_5 a0_6 l0_7 a0_8 a0_9 l0_10 a0_2 a0_3 a0_4 a0_5 a0_6 l0_7) else (stolonref16_Right.j1 kj1 true false a0_0 a0_1 a0_2 a0_3 a0_4 a0_5 a0_6 l0_7 a0_8 a0_9 l0_10 a0_2 a0_3 a0_4 a0_5 a0_6 l0_7)) else (stolonref16_Right.j1 kj1 true false a0_0 a0_1 a0_2 a0_3 a0_4 a0_5 a0_6 l0_7 a0_8 a0_9 l0_10 a0_2 a0_3 a0_4 a0_5 a0_6 l0_7)) = some r := by rw [if_pos rfl] at H; exact H
     clear H
     have H := H1
     clear H1
     by_cases c18 : a0_2 = 0
     ·rw [if_pos c18] at H
      have c18b0 : (a0_2 == 0) = true := beq_iff_eq.mpr c18
      have c18b1 : (a0_2 != 0) = false := bne_eq_false_iff_eq.mpr c18
      clear c18
      (first | rw [c18b0] | (simp only [i64_w, i32_w]; rw [c18b0]) | skip)
      by_cases c19 : a0_3 = 0
      ·rw [if_pos c19] at H
       have c19b0 : (a0_3 == 0) = true := beq_iff_eq.mpr c19
       have c19b1 : (a0_3 != 0) = false := bne_eq_false_iff_eq.mpr c19
       clear c19
       have H' := m_ H
       clear H
       have hnb20 := NB234_233.out
       have hnc20 := NB233_234.out
       have hcz21 := cz6_ BK234.out
       go_wp2
       go_meet
       case rel => exact ⟨_, ((a0_4 == 0)), (by first | rfl | (simp; done) | (simp [*]; done)), H', ⟨by have := HJ1.out; first | omega | exact Nat.le_refl _⟩, ⟨kz_⟩, ⟨kz_⟩, ⟨bz_⟩⟩
      ·rw [if_neg c19] at H
       have c19b0 : (a0_3 == 0) = false := beq_eq_false_iff_ne.mpr c19
       have c19b1 : (a0_3 != 0) = true := bne_iff_ne.mpr c19
       have H' := m_ H
       clear H
       have hnb22 := NB234_233.out
       have hnc22 := NB233_234.out
       have hcz23 := cz6_ BK234.out
       go_wp2
       go_meet
       case rel => exact ⟨_, (false), (by first | rfl | (simp; done) | (simp [*]; done)), H', ⟨by have := HJ1.out; first | omega | exact Nat.le_refl _⟩, ⟨kz_⟩, ⟨kz_⟩, ⟨bz_⟩⟩
     ·rw [if_neg c18] at H
      have c18b0 : (a0_2 == 0) = false := beq_eq_false_iff_ne.mpr c18
      have c18b1 : (a0_2 != 0) = true := bne_iff_ne.mpr c18
      (first | rw [c18b0] | (simp only [i64_w, i32_w]; rw [c18b0]) | skip)
      have H' := m_ H
      clear H
      have hnb24 := NB234_233.out
      have hnc24 := NB233_234.out
      have hcz25 := cz6_ BK234.out
      go_wp2
      go_meet
      case rel => exact ⟨_, (false), (by first | rfl | (simp; done) | (simp [*]; done)), H', ⟨by have := HJ1.out; first | omega | exact Nat.le_refl _⟩, ⟨kz_⟩, ⟨kz_⟩, ⟨bz_⟩⟩
    ·replace c17 := Bool.eq_false_iff.mpr c17
     subst c17
     have H1 : (stolonref16_Right.j1 kj1 false false a0_0 a0_1 a0_2 a0_3 a0_4 a0_5 a0_6 l0_7 a0_8 a0_9 l0_10 a0_2 a0_3 a0_4 a0_5 a0_6 l0_7) = some r := by rw [if_neg (show ¬ (false = true) by decide)] at H; exact H
     clear H
     have H := H1
     clear H1
     have H' := m_ H
     clear H
     go_wp2
     go_meet
     case rel => exact ⟨_, (false), (by first | rfl | (simp; done) | (simp [*]; done)), H', ⟨by have := HJ1.out; first | omega | exact Nat.le_refl _⟩, ⟨kz_⟩, ⟨kz_⟩, ⟨bz_⟩⟩
   case rest =>
    clear HC16
    try clear c1
    try clear c2
    try clear p2
    try clear c6
    try clear c8
    try clear c8b0
    try clear c8b1
    try clear c9
    try clear c9b0
    try clear c9b1
    try clear c10
    try clear c12
    try clear c14
    try clear c17
    try clear c18
    try clear c18b0
    try clear c18b1
    try clear c19
    try clear c19b0
    try clear c19b1
    try clear c20
    try clear c22
    try clear c24
    (try clear hcz11)
    (try clear hcz13)
    (try clear hcz15)
    (try clear hcz21)
    (try clear hcz23)
    (try clear hcz25)
    (try clear hcz4)
    (try clear hcz7)
    try clear p2
    obtain ⟨kq, x5_15, rfl, HA, HJ15, BK233, BK234, HB⟩ := hcut
    cases kq with
    | zero => exact absurd HA.out (by simp [stolonref16_Right.j1])
    | succ kj15 =>
     have H := HA.out
     clear HA
     simp only [stolonref16_Right.j1] at H
     have HC26 := m_ H
     clear H
     go_upto_region 4 with (fail)
     go_cut [6] (fun v6 wc => ∃ (kq : Nat) (x6_25 : Bool), v6 = .bool x6_25 ∧ Aside0 (stolonref16_Right.j2 kq x4_1 x5_15 x6_25 a0_0 a0_1 a0_2 a0_3 a0_4 a0_5 a0_6 l0_7 a0_8 a0_9 l0_10 a0_2 a0_3 a0_4 a0_5 a0_6 l0_7 = some r) ∧ Aside0 (kq ≤ kj15) ∧ Aside0 (wc.heap[gb233]? = some (.cells #[.int .u8 a0_0, .int .u32 a0_1, .int .u32 a0_2, .int .u32 a0_3, .int .u32 a0_4, .int .i64 a0_5, .int .u32 a0_6, (.slice A0_7 l0_7.length c0_7), .int .i64 a0_8, .bool a0_9, (.slice A0_10 l0_10.length c0_10)] 32 (0, 0))) ∧ Aside0 (wc.heap[gb234]? = some (.cells #[.int .u32 a0_2, .int .u32 a0_3, .int .u32 a0_4, .int .i64 a0_5, .int .u32 a0_6, (.slice A0_7 l0_7.length c0_7)] 29 (0, 0))) ∧ Aside0 (Below w.heap.size w wc))
     case first =>
      have H := HC26.out
      clear HC26
      by_cases c27 : a0_8 = 0
      ·rw [if_pos c27] at H
       have c27b0 : (a0_8 == 0) = true := beq_iff_eq.mpr c27
       have c27b1 : (a0_8 != 0) = false := bne_eq_false_iff_eq.mpr c27
       clear c27
       (first | rw [c27b0] | (simp only [i64_w, i32_w]; rw [c27b0]) | skip)
       by_cases c28 : a0_9 = true
       ·subst c28
        have H1 : (stolonref16_Right.j2 kj15 x4_1 x5_15 false a0_0 a0_1 a0_2 a0_3 a0_4 a0_5 a0_6 l0_7 a0_8 true l0_10 a0_2 a0_3 a0_4 a0_5 a0_6 l0_7) = some r := by rw [if_pos rfl] at H; exact H
        clear H
        have H := H1
        clear H1
        have H' := m_ H
        clear H
        have hnb29 := NB233_234.out
        have hnc29 := NB234_233.out
        have hcz30 := cz11_ BK233.out
        go_wp2
        go_meet
        case rel => exact ⟨_, (false), (by first | rfl | (simp; done) | (simp [*]; done)), H', ⟨by have := HJ1.out; have := HJ15.out; first | omega | exact Nat.le_refl _⟩, ⟨kz_⟩, ⟨kz_⟩, ⟨bz_⟩⟩
       ·replace c28 := Bool.eq_false_iff.mpr c28
        subst c28
        have H1 : (stolonref16_Right.j2 kj15 x4_1 x5_15 ((l0_10.length : Int) == 0) a0_0 a0_1 a0_2 a0_3 a0_4 a0_5 a0_6 l0_7 a0_8 false l0_10 a0_2 a0_3 a0_4 a0_5 a0_6 l0_7) = some r := by rw [if_neg (show ¬ (false = true) by decide)] at H; exact H
        clear H
        have H := H1
        clear H1
        have H' := m_ H
        clear H
        have hnb31 := NB233_234.out
        have hnc31 := NB234_233.out
        have hcz32 := cz11_ BK233.out
        go_wp2
        go_meet
        case rel => exact ⟨_, (((l0_10.length : Int) == 0)), (by first | rfl | (simp; done) | (simp [*]; done)), H', ⟨by have := HJ1.out; have := HJ15.out; first | omega | exact Nat.le_refl _⟩, ⟨kz_⟩, ⟨kz_⟩, ⟨bz_⟩⟩
      ·rw [if_neg c27] at H
       have c27b0 : (a0_8 == 0) = false := beq_eq_false_iff_ne.mpr c27
       have c27b1 : (a0_8 != 0) = true := bne_iff_ne.mpr c27
       (first | rw [c27b0] | (simp only [i64_w, i32_w]; rw [c27b0]) | skip)
       have H' := m_ H
       clear H
       have hnb33 := NB233_234.out
       have hnc33 := NB234_233.out
       have hcz34 := cz11_ BK233.out
       go_wp2
       go_meet
       case rel => exact ⟨_, (false), (by first | rfl | (simp; done) | (simp [*]; done)), H', ⟨by have := HJ1.out; have := HJ15.out; first | omega | exact Nat.le_refl _⟩, ⟨kz_⟩, ⟨kz_⟩, ⟨bz_⟩⟩
     case rest =>
      clear HC26
      try clear c1
      try clear c2
      try clear p2
      try clear c3
      try clear c6
      try clear c8
      try clear c8b0
      try clear c8b1
      try clear c9
      try clear c9b0
      try clear c9b1
      try clear c10
      try clear c12
      try clear c14
      try clear c17
      try clear c18
      try clear c18b0
      try clear c18b1
      try clear c19
      try clear c19b0
      try clear c19b1
      try clear c20
      try clear c22
      try clear c24
      try clear c27
      try clear c27b0
      try clear c27b1
      try clear c28
      try clear c29
      try clear c31
      try clear c33
      (try clear hcz11)
      (try clear hcz13)
      (try clear hcz15)
      (try clear hcz21)
      (try clear hcz23)
      (try clear hcz25)
      (try clear hcz30)
      (try clear hcz32)
      (try clear hcz34)
      (try clear hcz4)
      (try clear hcz7)
      try clear p2
      obtain ⟨kq, x6_25, rfl, HA, HJ25, BK233, BK234, HB⟩ := hcut
      cases kq with
      | zero => exact absurd HA.out (by simp [stolonref16_Right.j2])
      | succ kj25 =>
       have H := HA.out
       clear HA
       simp only [stolonref16_Right.j2] at H
       by_cases c35 : a0_0 = 1
       ·rw [if_pos c35] at H
        have c35b0 : (a0_0 == 1) = true := beq_iff_eq.mpr c35
        have c35b1 : (a0_0 != 1) = false := bne_eq_false_iff_eq.mpr c35
        clear c35
        replace H := Option.bind_eq_some_iff.mp H
        obtain ⟨t235, A360, H⟩ := H
        replace H : (if t235 = true then (some x6_25) else (some false)) = some r := H
        have A36 := m_ A360
        clear A360
        by_cases c37 : t235 = true
        ·subst c37
         have H1 : (some x6_25) = some r := by rw [if_pos rfl] at H; exact H
         clear H
         have H := H1
         clear H1
         obtain rfl := Option.some.inj H
         have hnb38 := NB233_234.out
         have hnc38 := NB234_233.out
         have hcz39 := cz11_ BK233.out
         have hcz40 := cz6_ BK234.out
         go_wp2_with (first | ((with_reducible refine gate_callee (f := 21) rfl ?_); refine gL_ (some 60) Try.func21 #[.agg #[.int .u32 a0_2, .int .u32 a0_3, .int .u32 a0_4, .int .i64 a0_5, .int .u32 a0_6, .slice A0_7 l0_7.length c0_7]] ?_; (with_reducible refine (stolonref15_Right.calls kj25 a0_2 a0_3 a0_4 a0_5 a0_6 _ _ l0_7 true _ ?side1 ?side2 A36.out).mono ?_); (case side1 => exact Cd_ (Kd.C_below HR0_7.out HB.out)); (case side2 => exact HC0_7.out); rintro e w41 ⟨rfl, hb⟩; refine ⟨_, rfl, ?_⟩; replace BK233 := m_ (kl_ gb233 hb); replace BK234 := m_ (kl_ gb234 hb); replace HB := m_ (below_step bz_ hb); (try clear hb); (try clear hb2); (try clear hk); (try clear hi)))
         go_ret
         exact ⟨ew_, bz_⟩
        ·replace c37 := Bool.eq_false_iff.mpr c37
         subst c37
         have H1 : (some false) = some r := by rw [if_neg (show ¬ (false = true) by decide)] at H; exact H
         clear H
         have H := H1
         clear H1
         obtain rfl := Option.some.inj H
         have hnb42 := NB233_234.out
         have hnc42 := NB234_233.out
         have hcz43 := cz11_ BK233.out
         have hcz44 := cz6_ BK234.out
         go_wp2_with (first | ((with_reducible refine gate_callee (f := 21) rfl ?_); refine gL_ (some 60) Try.func21 #[.agg #[.int .u32 a0_2, .int .u32 a0_3, .int .u32 a0_4, .int .i64 a0_5, .int .u32 a0_6, .slice A0_7 l0_7.length c0_7]] ?_; (with_reducible refine (stolonref15_Right.calls kj25 a0_2 a0_3 a0_4 a0_5 a0_6 _ _ l0_7 false _ ?side1 ?side2 A36.out).mono ?_); (case side1 => exact Cd_ (Kd.C_below HR0_7.out HB.out)); (case side2 => exact HC0_7.out); rintro e w45 ⟨rfl, hb⟩; refine ⟨_, rfl, ?_⟩; replace BK233 := m_ (kl_ gb233 hb); replace BK234 := m_ (kl_ gb234 hb); replace HB := m_ (below_step bz_ hb); (try clear hb); (try clear hb2); (try clear hk); (try clear hi)))
         go_ret
         exact ⟨ew_, bz_⟩
       ·rw [if_neg c35] at H
        have c35b0 : (a0_0 == 1) = false := beq_eq_false_iff_ne.mpr c35
        have c35b1 : (a0_0 != 1) = true := bne_iff_ne.mpr c35
        by_cases c46 : a0_0 = 2
        ·rw [if_pos c46] at H
         have c46b0 : (a0_0 == 2) = true := beq_iff_eq.mpr c46
         have c46b1 : (a0_0 != 2) = false := bne_eq_false_iff_eq.mpr c46
         clear c46
         replace H := Option.bind_eq_some_iff.mp H
         obtain ⟨t236, A470, H⟩ := H
         replace H : (if t236 = true then (if x4_1 = true then (some x6_25) else (some false)) else (some false)) = some r := H
         have A47 := m_ A470
         clear A470
         by_cases c48 : t236 = true
         ·subst c48
          have H1 : (if x4_1 = true then (some x6_25) else (some false)) = some r := by rw [if_pos rfl] at H; exact H
          clear H
          have H := H1
          clear H1
          by_cases c49 : x4_1 = true
          ·subst c49
           have H1 : (some x6_25) = some r := by rw [if_pos rfl] at H; exact H
           clear H
           have H := H1
           clear H1
           obtain rfl := Option.some.inj H
           have hnb50 := NB233_234.out
           have hnc50 := NB234_233.out
           have hcz51 := cz11_ BK233.out
           have hcz52 := cz6_ BK234.out
           go_wp2_with (first | ((with_reducible refine gate_callee (f := 32) rfl ?_); refine gL_ (some 69) Try.func32 #[.int .u32 a0_3] ?_; (with_reducible refine (stolonref01_Asked.calls a0_3 true _ A47.out).mono ?_); rintro e w' ⟨rfl, ⟨nd, rfl⟩⟩; refine ⟨_, rfl, ?_⟩))
           go_ret
           exact ⟨ew_, bz_⟩
          ·replace c49 := Bool.eq_false_iff.mpr c49
           subst c49
           have H1 : (some false) = some r := by rw [if_neg (show ¬ (false = true) by decide)] at H; exact H
           clear H
           have H := H1
           clear H1
           obtain rfl := Option.some.inj H
           have hnb53 := NB233_234.out
           have hnc53 := NB234_233.out
           have hcz54 := cz11_ BK233.out
           have hcz55 := cz6_ BK234.out
           go_wp2_with (first | ((with_reducible refine gate_callee (f := 32) rfl ?_); refine gL_ (some 69) Try.func32 #[.int .u32 a0_3] ?_; (with_reducible refine (stolonref01_Asked.calls a0_3 true _ A47.out).mono ?_); rintro e w' ⟨rfl, ⟨nd, rfl⟩⟩; refine ⟨_, rfl, ?_⟩))
           go_ret
           exact ⟨ew_, bz_⟩
         ·replace c48 := Bool.eq_false_iff.mpr c48
          subst c48
          have H1 : (some false) = some r := by rw [if_neg (show ¬ (false = true) by decide)] at H; exact H
          clear H
          have H := H1
          clear H1
          obtain rfl := Option.some.inj H
          have hnb56 := NB233_234.out
          have hnc56 := NB234_233.out
          have hcz57 := cz11_ BK233.out
          have hcz58 := cz6_ BK234.out
          go_wp2_with (first | ((with_reducible refine gate_callee (f := 32) rfl ?_); refine gL_ (some 69) Try.func32 #[.int .u32 a0_3] ?_; (with_reducible refine (stolonref01_Asked.calls a0_3 false _ A47.out).mono ?_); rintro e w' ⟨rfl, ⟨nd, rfl⟩⟩; refine ⟨_, rfl, ?_⟩))
          go_ret
          exact ⟨ew_, bz_⟩
        ·rw [if_neg c46] at H
         have c46b0 : (a0_0 == 2) = false := beq_eq_false_iff_ne.mpr c46
         have c46b1 : (a0_0 != 2) = true := bne_iff_ne.mpr c46
         have HC59 := m_ H
         clear H
         have hnb60 := NB233_234.out
         have hnc60 := NB234_233.out
         have hcz61 := cz11_ BK233.out
         go_upto_if 77 with (fail)
         go_cut [77] (fun v77 wc => ∃ (kq : Nat) (x77_58 : Bool), v77 = .bool x77_58 ∧ Aside0 (stolonref16_Right.j3 kq x5_15 x6_25 a0_0 x77_58 a0_0 a0_1 a0_2 a0_3 a0_4 a0_5 a0_6 l0_7 a0_8 a0_9 l0_10 = some r) ∧ Aside0 (kq ≤ kj25) ∧ Aside0 (wc.heap[gb233]? = some (.cells #[.int .u8 a0_0, .int .u32 a0_1, .int .u32 a0_2, .int .u32 a0_3, .int .u32 a0_4, .int .i64 a0_5, .int .u32 a0_6, (.slice A0_7 l0_7.length c0_7), .int .i64 a0_8, .bool a0_9, (.slice A0_10 l0_10.length c0_10)] 32 (0, 0))) ∧ Aside0 (wc.heap[gb234]? = some (.cells #[.int .u32 a0_2, .int .u32 a0_3, .int .u32 a0_4, .int .i64 a0_5, .int .u32 a0_6, (.slice A0_7 l0_7.length c0_7)] 29 (0, 0))) ∧ Aside0 (Below w.heap.size w wc))
         case first =>
          have H := HC59.out
          clear HC59
          by_cases c62 : a0_0 = 3
          ·rw [if_pos c62] at H
           have c62b0 : (a0_0 == 3) = true := beq_iff_eq.mpr c62
           have c62b1 : (a0_0 != 3) = false := bne_eq_false_iff_eq.mpr c62
           clear c62
           (first | rw [c62b0] | (simp only [i64_w, i32_w]; rw [c62b0]) | skip)
           have H' := m_ H
           clear H
           go_wp2
           go_meet
           case rel => exact ⟨_, ((a0_0 == 3)), (by first | rfl | (simp; done) | (simp [*]; done)), H', ⟨by have := HJ1.out; have := HJ15.out; have := HJ25.out; first | omega | exact Nat.le_refl _⟩, ⟨kz_⟩, ⟨kz_⟩, ⟨bz_⟩⟩
          ·rw [if_neg c62] at H
           have c62b0 : (a0_0 == 3) = false := beq_eq_false_iff_ne.mpr c62
           have c62b1 : (a0_0 != 3) = true := bne_iff_ne.mpr c62
           (first | rw [c62b0] | (simp only [i64_w, i32_w]; rw [c62b0]) | skip)
           by_cases c63 : a0_0 = 4
           ·rw [if_pos c63] at H
            have c63b0 : (a0_0 == 4) = true := beq_iff_eq.mpr c63
            have c63b1 : (a0_0 != 4) = false := bne_eq_false_iff_eq.mpr c63
            clear c63
            have H' := m_ H
            clear H
            go_wp2
            go_meet
            case rel => exact ⟨_, ((a0_0 == 4)), (by first | rfl | (simp; done) | (simp [*]; done)), H', ⟨by have := HJ1.out; have := HJ15.out; have := HJ25.out; first | omega | exact Nat.le_refl _⟩, ⟨kz_⟩, ⟨kz_⟩, ⟨bz_⟩⟩
           ·rw [if_neg c63] at H
            have c63b0 : (a0_0 == 4) = false := beq_eq_false_iff_ne.mpr c63
            have c63b1 : (a0_0 != 4) = true := bne_iff_ne.mpr c63
            by_cases c64 : a0_0 = 5
            ·rw [if_pos c64] at H
             have c64b0 : (a0_0 == 5) = true := beq_iff_eq.mpr c64
             have c64b1 : (a0_0 != 5) = false := bne_eq_false_iff_eq.mpr c64
             clear c64
             have H' := m_ H
             clear H
             go_wp2
             go_meet
             case rel => exact ⟨_, ((a0_0 == 5)), (by first | rfl | (simp; done) | (simp [*]; done)), H', ⟨by have := HJ1.out; have := HJ15.out; have := HJ25.out; first | omega | exact Nat.le_refl _⟩, ⟨kz_⟩, ⟨kz_⟩, ⟨bz_⟩⟩
            ·rw [if_neg c64] at H
             have c64b0 : (a0_0 == 5) = false := beq_eq_false_iff_ne.mpr c64
             have c64b1 : (a0_0 != 5) = true := bne_iff_ne.mpr c64
             have H' := m_ H
             clear H
             go_wp2
             go_meet
             case rel => exact ⟨_, ((a0_0 == 6)), (by first | rfl | (simp; done) | (simp [*]; done)), H', ⟨by have := HJ1.out; have := HJ15.out; have := HJ25.out; first | omega | exact Nat.le_refl _⟩, ⟨kz_⟩, ⟨kz_⟩, ⟨bz_⟩⟩
         case rest =>
          clear HC59
          try clear c1
          try clear c2
          try clear p2
          try clear c3
          try clear c4
          try clear c5
          try clear c6
          try clear c8
          try clear c8b0
          try clear c8b1
          try clear c9
          try clear c9b0
          try clear c9b1
          try clear c10
          try clear c12
          try clear c14
          try clear c17
          try clear c18
          try clear c18b0
          try clear c18b1
          try clear c19
          try clear c19b0
          try clear c19b1
          try clear c20
          try clear c21
          try clear c22
          try clear c24
          try clear c27
          try clear c27b0
          try clear c27b1
          try clear c28
          try clear c29
          try clear c31
          try clear c32
          try clear c33
          try clear c35
          try clear c35b0
          try clear c35b1
          try clear c37
          try clear c38
          try clear c42
          try clear c46
          try clear c46b0
          try clear c46b1
          try clear c48
          try clear c49
          try clear c50
          try clear c53
          try clear c56
          try clear c60
          try clear c62
          try clear c62b0
          try clear c62b1
          try clear c63
          try clear c63b0
          try clear c63b1
          try clear c64
          try clear c64b0
          try clear c64b1
          (try clear hcz11)
          (try clear hcz13)
          (try clear hcz15)
          (try clear hcz21)
          (try clear hcz23)
          (try clear hcz25)
          (try clear hcz30)
          (try clear hcz32)
          (try clear hcz34)
          (try clear hcz39)
          (try clear hcz40)
          (try clear hcz43)
          (try clear hcz44)
          (try clear hcz4)
          (try clear hcz51)
          (try clear hcz52)
          (try clear hcz54)
          (try clear hcz55)
          (try clear hcz57)
          (try clear hcz58)
          (try clear hcz61)
          (try clear hcz7)
          try clear p2
          obtain ⟨kq, x77_58, rfl, HA, HJ58, BK233, BK234, HB⟩ := hcut
          cases kq with
          | zero => exact absurd HA.out (by simp [stolonref16_Right.j3])
          | succ kj58 =>
           have H := HA.out
           clear HA
           simp only [stolonref16_Right.j3] at H
           by_cases c65 : x77_58 = true
           ·subst c65
            have H1 : (if x5_15 = true then (some x6_25) else (some false)) = some r := by rw [if_pos rfl] at H; exact H
            clear H
            have H := H1
            clear H1
            by_cases c66 : x5_15 = true
            ·subst c66
             have H1 : (some x6_25) = some r := by rw [if_pos rfl] at H; exact H
             clear H
             have H := H1
             clear H1
             obtain rfl := Option.some.inj H
             go_wp2
             go_ret
             exact ⟨ew_, bz_⟩
            ·replace c66 := Bool.eq_false_iff.mpr c66
             subst c66
             have H1 : (some false) = some r := by rw [if_neg (show ¬ (false = true) by decide)] at H; exact H
             clear H
             have H := H1
             clear H1
             obtain rfl := Option.some.inj H
             go_wp2
             go_ret
             exact ⟨ew_, bz_⟩
           ·replace c65 := Bool.eq_false_iff.mpr c65
            subst c65
            have H1 : (if a0_0 = 7 then (if x5_15 = true then (if (l0_10.length : Int) = 0 then (if a0_8 ≥ 0 then (some (decide (a0_8 ≤ 63))) else (some false)) else (some false)) else (some false)) else (if a0_0 = 8 then (if x5_15 = true then (if a0_9 = true then (some false) else (if a0_8 ≥ 64 then (if a0_8 ≤ 127 then (some (decide ((l0_10.length : Int) ≤ 1500))) else (some false)) else (some false))) else (some false)) else (if a0_0 = 9 then (if x5_15 = true then (if a0_9 = true then (some false) else (if a0_8 ≥ 64 then (if a0_8 ≤ 127 then (some (decide ((l0_10.length : Int) ≤ 1500))) else (some false)) else (some false))) else (some false)) else (some false)))) = some r := by rw [if_neg (show ¬ (false = true) by decide)] at H; exact H
            clear H
            have H := H1
            clear H1
            by_cases c67 : a0_0 = 7
            ·rw [if_pos c67] at H
             have c67b0 : (a0_0 == 7) = true := beq_iff_eq.mpr c67
             have c67b1 : (a0_0 != 7) = false := bne_eq_false_iff_eq.mpr c67
             clear c67
             by_cases c68 : x5_15 = true
             ·subst c68
              have H1 : (if (l0_10.length : Int) = 0 then (if a0_8 ≥ 0 then (some (decide (a0_8 ≤ 63))) else (some false)) else (some false)) = some r := by rw [if_pos rfl] at H; exact H
              clear H
              have H := H1
              clear H1
              by_cases c69 : (l0_10.length : Int) = 0
              ·rw [if_pos c69] at H
               have c69b0 : ((l0_10.length : Int) == 0) = true := beq_iff_eq.mpr c69
               have c69b1 : ((l0_10.length : Int) != 0) = false := bne_eq_false_iff_eq.mpr c69
               clear c69
               by_cases c70 : a0_8 ≥ 0
               ·rw [if_pos c70] at H
                have c70b0 : decide (0 ≤ a0_8) = true := decide_eq_true c70
                clear c70
                obtain rfl := Option.some.inj H
                have hnb71 := NB233_234.out
                have hnc71 := NB234_233.out
                have hcz72 := cz11_ BK233.out
                go_wp2
                go_ret
                exact ⟨ew_, bz_⟩
               ·rw [if_neg c70] at H
                have c70b0 : decide (0 ≤ a0_8) = false := decide_eq_false c70
                clear c70
                obtain rfl := Option.some.inj H
                have hnb73 := NB233_234.out
                have hnc73 := NB234_233.out
                have hcz74 := cz11_ BK233.out
                go_wp2
                go_ret
                exact ⟨ew_, bz_⟩
              ·rw [if_neg c69] at H
               have c69b0 : ((l0_10.length : Int) == 0) = false := beq_eq_false_iff_ne.mpr c69
               have c69b1 : ((l0_10.length : Int) != 0) = true := bne_iff_ne.mpr c69
               have c69b2 : ¬ (l0_10 = []) := fun h_ => c69 (by rw [h_]; rfl)
               obtain rfl := Option.some.inj H
               have hnb75 := NB233_234.out
               have hnc75 := NB234_233.out
               have hcz76 := cz11_ BK233.out
               go_wp2
               go_ret
               exact ⟨ew_, bz_⟩
             ·replace c68 := Bool.eq_false_iff.mpr c68
              subst c68
              have H1 : (some false) = some r := by rw [if_neg (show ¬ (false = true) by decide)] at H; exact H
              clear H
              have H := H1
              clear H1
              obtain rfl := Option.some.inj H
              go_wp2
              go_ret
              exact ⟨ew_, bz_⟩
            ·rw [if_neg c67] at H
             have c67b0 : (a0_0 == 7) = false := beq_eq_false_iff_ne.mpr c67
             have c67b1 : (a0_0 != 7) = true := bne_iff_ne.mpr c67
             by_cases c77 : a0_0 = 8
             ·rw [if_pos c77] at H
              have c77b0 : (a0_0 == 8) = true := beq_iff_eq.mpr c77
              have c77b1 : (a0_0 != 8) = false := bne_eq_false_iff_eq.mpr c77
              clear c77
              by_cases c78 : x5_15 = true
              ·subst c78
               have H1 : (if a0_9 = true then (some false) else (if a0_8 ≥ 64 then (if a0_8 ≤ 127 then (some (decide ((l0_10.length : Int) ≤ 1500))) else (some false)) else (some false))) = some r := by rw [if_pos rfl] at H; exact H
               clear H
               have H := H1
               clear H1
               by_cases c79 : a0_9 = true
               ·subst c79
                have H1 : (some false) = some r := by rw [if_pos rfl] at H; exact H
                clear H
                have H := H1
                clear H1
                obtain rfl := Option.some.inj H
                have hnb80 := NB233_234.out
                have hnc80 := NB234_233.out
                have hcz81 := cz11_ BK233.out
                go_wp2
                go_ret
                exact ⟨ew_, bz_⟩
               ·replace c79 := Bool.eq_false_iff.mpr c79
                subst c79
                have H1 : (if a0_8 ≥ 64 then (if a0_8 ≤ 127 then (some (decide ((l0_10.length : Int) ≤ 1500))) else (some false)) else (some false)) = some r := by rw [if_neg (show ¬ (false = true) by decide)] at H; exact H
                clear H
                have H := H1
                clear H1
                by_cases c82 : a0_8 ≥ 64
                ·rw [if_pos c82] at H
                 have c82b0 : decide (64 ≤ a0_8) = true := decide_eq_true c82
                 clear c82
                 by_cases c83 : a0_8 ≤ 127
                 ·rw [if_pos c83] at H
                  have c83b0 : decide (a0_8 ≤ 127) = true := decide_eq_true c83
                  clear c83
                  obtain rfl := Option.some.inj H
                  have hnb84 := NB233_234.out
                  have hnc84 := NB234_233.out
                  have hcz85 := cz11_ BK233.out
                  go_wp2
                  go_ret
                  exact ⟨ew_, bz_⟩
                 ·rw [if_neg c83] at H
                  have c83b0 : decide (a0_8 ≤ 127) = false := decide_eq_false c83
                  clear c83
                  obtain rfl := Option.some.inj H
                  have hnb86 := NB233_234.out
                  have hnc86 := NB234_233.out
                  have hcz87 := cz11_ BK233.out
                  go_wp2
                  go_ret
                  exact ⟨ew_, bz_⟩
                ·rw [if_neg c82] at H
                 have c82b0 : decide (64 ≤ a0_8) = false := decide_eq_false c82
                 clear c82
                 obtain rfl := Option.some.inj H
                 have hnb88 := NB233_234.out
                 have hnc88 := NB234_233.out
                 have hcz89 := cz11_ BK233.out
                 go_wp2
                 go_ret
                 exact ⟨ew_, bz_⟩
              ·replace c78 := Bool.eq_false_iff.mpr c78
               subst c78
               have H1 : (some false) = some r := by rw [if_neg (show ¬ (false = true) by decide)] at H; exact H
               clear H
               have H := H1
               clear H1
               obtain rfl := Option.some.inj H
               go_wp2
               go_ret
               exact ⟨ew_, bz_⟩
             ·rw [if_neg c77] at H
              have c77b0 : (a0_0 == 8) = false := beq_eq_false_iff_ne.mpr c77
              have c77b1 : (a0_0 != 8) = true := bne_iff_ne.mpr c77
              by_cases c90 : a0_0 = 9
              ·rw [if_pos c90] at H
               have c90b0 : (a0_0 == 9) = true := beq_iff_eq.mpr c90
               have c90b1 : (a0_0 != 9) = false := bne_eq_false_iff_eq.mpr c90
               clear c90
               by_cases c91 : x5_15 = true
               ·subst c91
                have H1 : (if a0_9 = true then (some false) else (if a0_8 ≥ 64 then (if a0_8 ≤ 127 then (some (decide ((l0_10.length : Int) ≤ 1500))) else (some false)) else (some false))) = some r := by rw [if_pos rfl] at H; exact H
                clear H
                have H := H1
                clear H1
                by_cases c92 : a0_9 = true
                ·subst c92
                 have H1 : (some false) = some r := by rw [if_pos rfl] at H; exact H
                 clear H
                 have H := H1
                 clear H1
                 obtain rfl := Option.some.inj H
                 have hnb93 := NB233_234.out
                 have hnc93 := NB234_233.out
                 have hcz94 := cz11_ BK233.out
                 go_wp2
                 go_ret
                 exact ⟨ew_, bz_⟩
                ·replace c92 := Bool.eq_false_iff.mpr c92
                 subst c92
                 have H1 : (if a0_8 ≥ 64 then (if a0_8 ≤ 127 then (some (decide ((l0_10.length : Int) ≤ 1500))) else (some false)) else (some false)) = some r := by rw [if_neg (show ¬ (false = true) by decide)] at H; exact H
                 clear H
                 have H := H1
                 clear H1
                 by_cases c95 : a0_8 ≥ 64
                 ·rw [if_pos c95] at H
                  have c95b0 : decide (64 ≤ a0_8) = true := decide_eq_true c95
                  clear c95
                  by_cases c96 : a0_8 ≤ 127
                  ·rw [if_pos c96] at H
                   have c96b0 : decide (a0_8 ≤ 127) = true := decide_eq_true c96
                   clear c96
                   obtain rfl := Option.some.inj H
                   have hnb97 := NB233_234.out
                   have hnc97 := NB234_233.out
                   have hcz98 := cz11_ BK233.out
                   go_wp2
                   go_ret
                   exact ⟨ew_, bz_⟩
                  ·rw [if_neg c96] at H
                   have c96b0 : decide (a0_8 ≤ 127) = false := decide_eq_false c96
                   clear c96
                   obtain rfl := Option.some.inj H
                   have hnb99 := NB233_234.out
                   have hnc99 := NB234_233.out
                   have hcz100 := cz11_ BK233.out
                   go_wp2
                   go_ret
                   exact ⟨ew_, bz_⟩
                 ·rw [if_neg c95] at H
                  have c95b0 : decide (64 ≤ a0_8) = false := decide_eq_false c95
                  clear c95
                  obtain rfl := Option.some.inj H
                  have hnb101 := NB233_234.out
                  have hnc101 := NB234_233.out
                  have hcz102 := cz11_ BK233.out
                  go_wp2
                  go_ret
                  exact ⟨ew_, bz_⟩
               ·replace c91 := Bool.eq_false_iff.mpr c91
                subst c91
                have H1 : (some false) = some r := by rw [if_neg (show ¬ (false = true) by decide)] at H; exact H
                clear H
                have H := H1
                clear H1
                obtain rfl := Option.some.inj H
                go_wp2
                go_ret
                exact ⟨ew_, bz_⟩
              ·rw [if_neg c90] at H
               have c90b0 : (a0_0 == 9) = false := beq_eq_false_iff_ne.mpr c90
               have c90b1 : (a0_0 != 9) = true := bne_iff_ne.mpr c90
               obtain rfl := Option.some.inj H
               go_wp2
               go_ret
               exact ⟨ew_, bz_⟩
end Go.Proofs.Ytfomnmdjbdohgaa.P

/- For each Go function a Lean function, and the proof that a call comes to what it tells: made by program out of the translation (the kit's print, with texts by hand put in). No condition. -/
import Derived.Test.YtfomnmdjbdohgaaSq
import Derived.Test.YtfomnmdjbdohgaaPx0
import Derived.Test.YtfomnmdjbdohgaaPx14
import Derived.Test.YtfomnmdjbdohgaaPx17
import Derived.Test.YtfomnmdjbdohgaaPx18
import Derived.Test.YtfomnmdjbdohgaaPx21
import Derived.Test.YtfomnmdjbdohgaaPx22
import Derived.Test.YtfomnmdjbdohgaaPx23
import Derived.Test.YtfomnmdjbdohgaaPx27
namespace Go.Proofs.Ytfomnmdjbdohgaa.P
open Go.RowKit Go.Proofs.Ytfomnmdjbdohgaa.HRows Go.Proofs.YtfomnmdjbdohgaaW.PrintWords Go.Proofs.YtfomnmdjbdohgaaW.PrintLast Go.Proofs.YtfomnmdjbdohgaaW.PrintMore
attribute [local go_sem] max2_int min2_int max_two min_two max_three min_three max_four min_four
set_option linter.unusedVariables false
set_option linter.unusedSimpArgs false
mutual
def stolonlaw17_SwtchOdd.j0 : Nat → Bool → Bool → Int → List (S29) → Int → Int → Int → Int → Int → Int → Int → List (S74) → Int → Bool → List Int → Option (Bool)
 | 0, _, _, _, _, _, _, _, _, _, _, _, _, _, _, _ => none
 | k + 1, x5, x25, x447000, x447001, x448000, x448001, x448002, x448003, x448004, x448005, x448006, x448007, x448008, x448009, x448010 => if x25 = true then (some x5) else (if x448000 = 4 then (stolonlaw17_SwtchOdd.j1 k x5 true x447000 x447001 x448000 x448001 x448002 x448003 x448004 x448005 x448006 x448007 x448008 x448009 x448010) else (if x448000 = 5 then (stolonlaw17_SwtchOdd.j1 k x5 true x447000 x447001 x448000 x448001 x448002 x448003 x448004 x448005 x448006 x448007 x448008 x448009 x448010) else (if x448000 = 7 then (stolonlaw17_SwtchOdd.j1 k x5 true x447000 x447001 x448000 x448001 x448002 x448003 x448004 x448005 x448006 x448007 x448008 x448009 x448010) else (stolonlaw17_SwtchOdd.j1 k x5 (x448000 == 8) x447000 x447001 x448000 x448001 x448002 x448003 x448004 x448005 x448006 x448007 x448008 x448009 x448010))))
def stolonlaw17_SwtchOdd.j1 : Nat → Bool → Bool → Int → List (S29) → Int → Int → Int → Int → Int → Int → Int → List (S74) → Int → Bool → List Int → Option (Bool)
 | 0, _, _, _, _, _, _, _, _, _, _, _, _, _, _, _ => none
 | k + 1, x5, x6, x447000, x447001, x448000, x448001, x448002, x448003, x448004, x448005, x448006, x448007, x448008, x448009, x448010 => (stolonref16_Right.f k x448000 x448001 x448002 x448003 x448004 x448005 x448006 x448007 x448008 x448009 x448010).bind fun t455 => (if t455 = true then (stolonlaw17_SwtchOdd.j2 k x5 (!x6) x447000 x447001 x448000 x448001 x448002 x448003 x448004 x448005 x448006 x448007 x448008 x448009 x448010) else (stolonlaw17_SwtchOdd.j2 k x5 false x447000 x447001 x448000 x448001 x448002 x448003 x448004 x448005 x448006 x448007 x448008 x448009 x448010))
def stolonlaw17_SwtchOdd.j2 : Nat → Bool → Bool → Int → List (S29) → Int → Int → Int → Int → Int → Int → Int → List (S74) → Int → Bool → List Int → Option (Bool)
 | 0, _, _, _, _, _, _, _, _, _, _, _, _, _, _, _ => none
 | k + 1, x5, x50, x447000, x447001, x448000, x448001, x448002, x448003, x448004, x448005, x448006, x448007, x448008, x448009, x448010 => if x50 = true then (some x5) else ((swtch_Hear.f k x447000 x447001 x448000 x448001 x448002 x448003 x448004 x448005 x448006 x448007 x448008 x448009 x448010).bind fun bt456 => (if x5 = true then ((stolonref17_Same.f k bt456.1 bt456.2.1 x447000 x447001).bind fun t467 => (if t467 = true then (if (bt456.2.2.1.length : Int) = 0 then (some ((bt456.2.2.2.length : Int) == 0)) else (some false)) else (some false))) else (some false)))
end
def stolonlaw17_SwtchOdd.f (k : Nat) (a0_0 : Int) (l0_1 : List (S29)) (a1_0 : Int) (a1_1 : Int) (a1_2 : Int) (a1_3 : Int) (a1_4 : Int) (a1_5 : Int) (a1_6 : Int) (l1_7 : List (S74)) (a1_8 : Int) (a1_9 : Bool) (l1_10 : List Int) : Option (Bool) := (stolonlaw17_shown.f k).bind fun t448 => ((stolonref15_Few.f k l0_1).bind fun t449 => (if t449 = true then ((stolonref17_Right.f k a0_0 l0_1).bind fun t450 => (if t450 = true then ((stolonlaw17_few.f k (([(⟨a1_0, a1_1, (⟨a1_2, a1_3, a1_4, a1_5, a1_6, l1_7⟩ : S29), a1_8, a1_9, l1_10⟩ : S32)] : List (S32)))).bind fun t454 => (stolonlaw17_SwtchOdd.j0 k t448 (!t454) a0_0 l0_1 a1_0 a1_1 a1_2 a1_3 a1_4 a1_5 a1_6 l1_7 a1_8 a1_9 l1_10)) else (stolonlaw17_SwtchOdd.j0 k t448 true a0_0 l0_1 a1_0 a1_1 a1_2 a1_3 a1_4 a1_5 a1_6 l1_7 a1_8 a1_9 l1_10))) else (stolonlaw17_SwtchOdd.j0 k t448 true a0_0 l0_1 a1_0 a1_1 a1_2 a1_3 a1_4 a1_5 a1_6 l1_7 a1_8 a1_9 l1_10)))
set_option maxHeartbeats 8000000 in
set_option maxRecDepth 100000 in
theorem stolonlaw17_SwtchOdd.calls (k : Nat) (a0_0 : Int) (P0_1_ : Nat → Prop) (A0_1 : Option Addr) (c0_1 : Nat) (l0_1 : List (S29)) (a1_0 : Int) (a1_1 : Int) (a1_2 : Int) (a1_3 : Int) (a1_4 : Int) (a1_5 : Int) (a1_6 : Int) (P1_7_ : Nat → Prop) (A1_7 : Option Addr) (c1_7 : Nat) (l1_7 : List (S74)) (a1_8 : Int) (a1_9 : Bool) (P1_10_ : Nat → Prop) (A1_10 : Option Addr) (c1_10 : Nat) (l1_10 : List Int) (r : Bool) (w : World) (hs0_1 : Kd.V k29 29 w w.heap.size (fun k_ => P0_1_ k_) (.slice A0_1 l0_1.length c0_1) l0_1) (hs1_7 : Kd.V k74 74 w w.heap.size (fun k_ => P1_7_ k_) (.slice A1_7 l1_7.length c1_7) l1_7) (hs1_10 : Kd.V (Kd.int .u8) 5 w w.heap.size (fun k_ => P1_10_ k_) (.slice A1_10 l1_10.length c1_10) l1_10) (hTrue : Aside0 (r = true)) (h : stolonlaw17_SwtchOdd.f k a0_0 l0_1 a1_0 a1_1 a1_2 a1_3 a1_4 a1_5 a1_6 l1_7 a1_8 a1_9 l1_10 = some r) :
  Calls Try.prog 7 #[.agg #[.int .i64 a0_0, .slice A0_1 l0_1.length c0_1], .agg #[.int .u8 a1_0, .int .u32 a1_1, .int .u32 a1_2, .int .u32 a1_3, .int .u32 a1_4, .int .i64 a1_5, .int .u32 a1_6, .slice A1_7 l1_7.length c1_7, .int .i64 a1_8, .bool a1_9, .slice A1_10 l1_10.length c1_10]] w fun e w' => e = .returned (.bool r) ∧ Below w.heap.size w w' := by
 have hu24 := Try.underlying24
 have hu32 := Try.underlying32
 have HO0_1 := m_ (show Kd.V k29 29 w w.heap.size (fun k_ => ((P0_1_ k_ ∨ P1_7_ k_ ∨ P1_10_ k_) ∨ w.heap.size ≤ k_)) (.slice A0_1 l0_1.length c0_1) l0_1 from Kd.V_mono hs0_1 (fun k_ hk => .inl (.inl hk)))
 have HO1_7 := m_ (show Kd.V k74 74 w w.heap.size (fun k_ => ((P0_1_ k_ ∨ P1_7_ k_ ∨ P1_10_ k_) ∨ w.heap.size ≤ k_)) (.slice A1_7 l1_7.length c1_7) l1_7 from Kd.V_mono hs1_7 (fun k_ hk => .inl (.inr (.inl hk))))
 have HO1_10 := m_ (show Kd.V (Kd.int .u8) 5 w w.heap.size (fun k_ => ((P0_1_ k_ ∨ P1_7_ k_ ∨ P1_10_ k_) ∨ w.heap.size ≤ k_)) (.slice A1_10 l1_10.length c1_10) l1_10 from Kd.V_mono hs1_10 (fun k_ hk => .inl (.inr (.inr hk))))
 have HB := m_ (Below.refl w.heap.size w)
 have H : ((stolonlaw17_shown.f k).bind fun t448 => ((stolonref15_Few.f k l0_1).bind fun t449 => (if t449 = true then ((stolonref17_Right.f k a0_0 l0_1).bind fun t450 => (if t450 = true then ((stolonlaw17_few.f k (([(⟨a1_0, a1_1, (⟨a1_2, a1_3, a1_4, a1_5, a1_6, l1_7⟩ : S29), a1_8, a1_9, l1_10⟩ : S32)] : List (S32)))).bind fun t454 => (stolonlaw17_SwtchOdd.j0 k t448 (!t454) a0_0 l0_1 a1_0 a1_1 a1_2 a1_3 a1_4 a1_5 a1_6 l1_7 a1_8 a1_9 l1_10)) else (stolonlaw17_SwtchOdd.j0 k t448 true a0_0 l0_1 a1_0 a1_1 a1_2 a1_3 a1_4 a1_5 a1_6 l1_7 a1_8 a1_9 l1_10))) else (stolonlaw17_SwtchOdd.j0 k t448 true a0_0 l0_1 a1_0 a1_1 a1_2 a1_3 a1_4 a1_5 a1_6 l1_7 a1_8 a1_9 l1_10)))) = some r := h
 clear h
 replace H := Option.bind_eq_some_iff.mp H
 obtain ⟨t448, A30, H⟩ := H
 replace H : ((stolonref15_Few.f k l0_1).bind fun t449 => (if t449 = true then ((stolonref17_Right.f k a0_0 l0_1).bind fun t450 => (if t450 = true then ((stolonlaw17_few.f k (([(⟨a1_0, a1_1, (⟨a1_2, a1_3, a1_4, a1_5, a1_6, l1_7⟩ : S29), a1_8, a1_9, l1_10⟩ : S32)] : List (S32)))).bind fun t454 => (stolonlaw17_SwtchOdd.j0 k t448 (!t454) a0_0 l0_1 a1_0 a1_1 a1_2 a1_3 a1_4 a1_5 a1_6 l1_7 a1_8 a1_9 l1_10)) else (stolonlaw17_SwtchOdd.j0 k t448 true a0_0 l0_1 a1_0 a1_1 a1_2 a1_3 a1_4 a1_5 a1_6 l1_7 a1_8 a1_9 l1_10))) else (stolonlaw17_SwtchOdd.j0 k t448 true a0_0 l0_1 a1_0 a1_1 a1_2 a1_3 a1_4 a1_5 a1_6 l1_7 a1_8 a1_9 l1_10))) = some r := H
 have A3 := m_ A30
 clear A30
 have HC4 := m_ H
 clear H
 go_enter Try.func7, Try.ntmps7
 go_upto_region 2 with (first | ((with_reducible refine gate_dst (N := 2) rfl ?_); (try (refine gate_guard (by rfl) ?_; dsimp only)); refine bx_ 2 24 #[.int .i64 a0_0, .slice A0_1 l0_1.length c0_1] ?_; intro gb446 hg w5 hbox hb; have BK446 := m_ (hbox); have GW446 := m_ ((gw_ : w.heap.size ≤ gb446)); have GE446 := m_ ((gw_ : w.heap.size ≤ gb446)); replace HO0_1 := m_ (Kd.V_below (Kd.V_elderB (Vz_ HO0_1.out) gb446 (Nat.le_of_eq hg.symm)) hb); replace HO1_7 := m_ (Kd.V_below (Kd.V_elderB (Vz_ HO1_7.out) gb446 (Nat.le_of_eq hg.symm)) hb); replace HO1_10 := m_ (Kd.V_below (Kd.V_elderB (Vz_ HO1_10.out) gb446 (Nat.le_of_eq hg.symm)) hb); replace HB := m_ (below_step bz_ hb); clear hb hbox hg) | ((with_reducible refine gate_dst (N := 3) rfl ?_); (try (refine gate_guard (by rfl) ?_; dsimp only)); refine bx_ 3 32 #[.int .u8 a1_0, .int .u32 a1_1, .int .u32 a1_2, .int .u32 a1_3, .int .u32 a1_4, .int .i64 a1_5, .int .u32 a1_6, .slice A1_7 l1_7.length c1_7, .int .i64 a1_8, .bool a1_9, .slice A1_10 l1_10.length c1_10] ?_; intro gb447 hg w6 hbox hb; have BK447 := m_ (hbox); have GW447 := m_ ((gw_ : w.heap.size ≤ gb447)); have GE447 := m_ ((gw_ : w.heap.size ≤ gb447)); have NB446_447 := m_ ((gl_ : gb446 ≠ gb447)); have NB447_446 := m_ ((gr_ : gb447 ≠ gb446)); replace HO0_1 := m_ (Kd.V_below (Kd.V_elderB (Vz_ HO0_1.out) gb447 (Nat.le_of_eq hg.symm)) hb); replace HO1_7 := m_ (Kd.V_below (Kd.V_elderB (Vz_ HO1_7.out) gb447 (Nat.le_of_eq hg.symm)) hb); replace HO1_10 := m_ (Kd.V_below (Kd.V_elderB (Vz_ HO1_10.out) gb447 (Nat.le_of_eq hg.symm)) hb); replace BK446 := m_ (kl_ gb446 hb); replace HB := m_ (below_step bz_ hb); clear hb hbox hg) | ((with_reducible refine gate_callee (f := 9) rfl ?_); refine gL_ (some 10) Try.func9 #[] ?_; (with_reducible refine (stolonlaw17_shown.calls k  t448 _ A3.out).mono ?_); rintro e w7 ⟨rfl, hb⟩; refine ⟨_, rfl, ?_⟩; replace HO0_1 := m_ (Kd.V_below (Vz_ HO0_1.out) hb); replace HO1_7 := m_ (Kd.V_below (Vz_ HO1_7.out) hb); replace HO1_10 := m_ (Kd.V_below (Vz_ HO1_10.out) hb); replace BK446 := m_ (kl_ gb446 hb); replace BK447 := m_ (kl_ gb447 hb); replace HB := m_ (below_step bz_ hb); (try clear hb); (try clear hb2); (try clear hk); (try clear hi)))
 (try simp only [Act.put, List.setIfInBounds_toArray, List.set_cons_zero, List.set_cons_succ])
 go_cut [25] (fun v25 wc => ∃ (kq : Nat) (x25_3 : Bool), v25 = .bool x25_3 ∧ Aside0 (stolonlaw17_SwtchOdd.j0 kq t448 x25_3 a0_0 l0_1 a1_0 a1_1 a1_2 a1_3 a1_4 a1_5 a1_6 l1_7 a1_8 a1_9 l1_10 = some r) ∧ Aside0 (kq ≤ k) ∧ Aside0 (Kd.V k29 29 wc w.heap.size (fun k_ => ((P0_1_ k_ ∨ P1_7_ k_ ∨ P1_10_ k_) ∨ w.heap.size ≤ k_) ∧ k_ ≠ gb446 ∧ k_ ≠ gb447) (.slice A0_1 l0_1.length c0_1) l0_1) ∧ Aside0 (Kd.V k74 74 wc w.heap.size (fun k_ => ((P0_1_ k_ ∨ P1_7_ k_ ∨ P1_10_ k_) ∨ w.heap.size ≤ k_) ∧ k_ ≠ gb446 ∧ k_ ≠ gb447) (.slice A1_7 l1_7.length c1_7) l1_7) ∧ Aside0 (Kd.V (Kd.int .u8) 5 wc w.heap.size (fun k_ => ((P0_1_ k_ ∨ P1_7_ k_ ∨ P1_10_ k_) ∨ w.heap.size ≤ k_) ∧ k_ ≠ gb446 ∧ k_ ≠ gb447) (.slice A1_10 l1_10.length c1_10) l1_10) ∧ Aside0 (wc.heap[gb446]? = some (.cells #[.int .i64 a0_0, (.slice A0_1 l0_1.length c0_1)] 24 (0, 0))) ∧ Aside0 (wc.heap[gb447]? = some (.cells #[.int .u8 a1_0, .int .u32 a1_1, .int .u32 a1_2, .int .u32 a1_3, .int .u32 a1_4, .int .i64 a1_5, .int .u32 a1_6, (.slice A1_7 l1_7.length c1_7), .int .i64 a1_8, .bool a1_9, (.slice A1_10 l1_10.length c1_10)] 32 (0, 0))) ∧ Aside0 (Below w.heap.size w wc))
 case first =>
  have H := HC4.out
  clear HC4
  replace H := Option.bind_eq_some_iff.mp H
  obtain ⟨t449, A80, H⟩ := H
  replace H : (if t449 = true then ((stolonref17_Right.f k a0_0 l0_1).bind fun t450 => (if t450 = true then ((stolonlaw17_few.f k (([(⟨a1_0, a1_1, (⟨a1_2, a1_3, a1_4, a1_5, a1_6, l1_7⟩ : S29), a1_8, a1_9, l1_10⟩ : S32)] : List (S32)))).bind fun t454 => (stolonlaw17_SwtchOdd.j0 k t448 (!t454) a0_0 l0_1 a1_0 a1_1 a1_2 a1_3 a1_4 a1_5 a1_6 l1_7 a1_8 a1_9 l1_10)) else (stolonlaw17_SwtchOdd.j0 k t448 true a0_0 l0_1 a1_0 a1_1 a1_2 a1_3 a1_4 a1_5 a1_6 l1_7 a1_8 a1_9 l1_10))) else (stolonlaw17_SwtchOdd.j0 k t448 true a0_0 l0_1 a1_0 a1_1 a1_2 a1_3 a1_4 a1_5 a1_6 l1_7 a1_8 a1_9 l1_10)) = some r := H
  have A8 := m_ A80
  clear A80
  by_cases c9 : t449 = true
  ·subst c9
   have H1 : ((stolonref17_Right.f k a0_0 l0_1).bind fun t450 => (if t450 = true then ((stolonlaw17_few.f k (([(⟨a1_0, a1_1, (⟨a1_2, a1_3, a1_4, a1_5, a1_6, l1_7⟩ : S29), a1_8, a1_9, l1_10⟩ : S32)] : List (S32)))).bind fun t454 => (stolonlaw17_SwtchOdd.j0 k t448 (!t454) a0_0 l0_1 a1_0 a1_1 a1_2 a1_3 a1_4 a1_5 a1_6 l1_7 a1_8 a1_9 l1_10)) else (stolonlaw17_SwtchOdd.j0 k t448 true a0_0 l0_1 a1_0 a1_1 a1_2 a1_3 a1_4 a1_5 a1_6 l1_7 a1_8 a1_9 l1_10))) = some r := by rw [if_pos rfl] at H; exact H
   clear H
   have H := H1
   clear H1
   replace H := Option.bind_eq_some_iff.mp H
   obtain ⟨t450, A100, H⟩ := H
   replace H : (if t450 = true then ((stolonlaw17_few.f k (([(⟨a1_0, a1_1, (⟨a1_2, a1_3, a1_4, a1_5, a1_6, l1_7⟩ : S29), a1_8, a1_9, l1_10⟩ : S32)] : List (S32)))).bind fun t454 => (stolonlaw17_SwtchOdd.j0 k t448 (!t454) a0_0 l0_1 a1_0 a1_1 a1_2 a1_3 a1_4 a1_5 a1_6 l1_7 a1_8 a1_9 l1_10)) else (stolonlaw17_SwtchOdd.j0 k t448 true a0_0 l0_1 a1_0 a1_1 a1_2 a1_3 a1_4 a1_5 a1_6 l1_7 a1_8 a1_9 l1_10)) = some r := H
   have A10 := m_ A100
   clear A100
   by_cases c11 : t450 = true
   ·subst c11
    have H1 : ((stolonlaw17_few.f k (([(⟨a1_0, a1_1, (⟨a1_2, a1_3, a1_4, a1_5, a1_6, l1_7⟩ : S29), a1_8, a1_9, l1_10⟩ : S32)] : List (S32)))).bind fun t454 => (stolonlaw17_SwtchOdd.j0 k t448 (!t454) a0_0 l0_1 a1_0 a1_1 a1_2 a1_3 a1_4 a1_5 a1_6 l1_7 a1_8 a1_9 l1_10)) = some r := by rw [if_pos rfl] at H; exact H
    clear H
    have H := H1
    clear H1
    obtain ⟨y451, hy451⟩ : ∃ y_ : List (S32), y_ = (([(⟨a1_0, a1_1, (⟨a1_2, a1_3, a1_4, a1_5, a1_6, l1_7⟩ : S29), a1_8, a1_9, l1_10⟩ : S32)] : List (S32))) := ⟨_, rfl⟩
    replace H : ((stolonlaw17_few.f k y451).bind fun t454 => (stolonlaw17_SwtchOdd.j0 k t448 (!t454) a0_0 l0_1 a1_0 a1_1 a1_2 a1_3 a1_4 a1_5 a1_6 l1_7 a1_8 a1_9 l1_10)) = some r := by first | (rw [hy451]; with_reducible exact H) | (have H2_ := (Option.bind_some _ _).symm.trans H; rw [hy451]; with_reducible exact H2_) | (have H2_ := (Option.bind_some _ _).symm.trans H; with_reducible exact H2_) | with_reducible exact H | (rw [hy451]; exact H) | exact H
    have Ny451 := m_ hy451
    clear hy451
    replace H := Option.bind_eq_some_iff.mp H
    obtain ⟨t454, A120, H⟩ := H
    replace H : (stolonlaw17_SwtchOdd.j0 k t448 (!t454) a0_0 l0_1 a1_0 a1_1 a1_2 a1_3 a1_4 a1_5 a1_6 l1_7 a1_8 a1_9 l1_10) = some r := H
    have A12 := m_ A120
    clear A120
    have H' := m_ H
    clear H
    have hnb13 := NB446_447.out
    have hnc13 := NB447_446.out
    have hcz14 := cz2_ BK446.out
    go_wp2_with (first | ((with_reducible refine gate_callee (f := 10) rfl ?_); refine gL_ (some 13) Try.func10 #[.slice A0_1 l0_1.length c0_1] ?_; (with_reducible refine (stolonref15_Few.calls k _ _ l0_1 true _ ?side1 ?side2 A8.out).mono ?_); (case side1 => exact Cd_ (Kd.V_reads' HO0_1.out).2.2); (case side2 => exact (Kd.V_reads' HO0_1.out).2.1); rintro e w' ⟨rfl, ⟨nd, rfl⟩⟩; refine ⟨_, rfl, ?_⟩) | (go_at_call 11; (with_reducible refine (stolonref17_Right.calls k a0_0 _ _ l0_1 true _ ?side1 ?side2 A10.out).mono ?_); (case side1 => exact Cd_ (Kd.V_reads' HO0_1.out).2.2); (case side2 => exact (Kd.V_reads' HO0_1.out).2.1); rintro e w15 ⟨rfl, hb⟩; replace HO0_1 := m_ (Kd.V_below (Vz_ HO0_1.out) hb); replace HO1_7 := m_ (Kd.V_below (Vz_ HO1_7.out) hb); replace HO1_10 := m_ (Kd.V_below (Vz_ HO1_10.out) hb); replace BK446 := m_ (kl_ gb446 hb); replace BK447 := m_ (kl_ gb447 hb); replace HB := m_ (below_step bz_ hb); (try clear hb); (try clear hb2); (try clear hk); (try clear hi); have hcz16 := cz11_ BK447.out) | ((with_reducible refine gate_dst (N := 22) rfl ?_); (try (refine gate_guard (by rfl) ?_; dsimp only)); refine Kd.N_lit k32 _ 32 ?hg (N' := 22) ?hd (xs := ([(⟨a1_0, a1_1, (⟨a1_2, a1_3, a1_4, a1_5, a1_6, l1_7⟩ : S29), a1_8, a1_9, l1_10⟩ : S32)] : List (S32))) (inner := [.int .u8 a1_0, .int .u32 a1_1, .int .u32 a1_2, .int .u32 a1_3, .int .u32 a1_4, .int .i64 a1_5, .int .u32 a1_6, .slice A1_7 l1_7.length c1_7, .int .i64 a1_8, .bool a1_9, .slice A1_10 l1_10.length c1_10]) (ok := (fun k_ => ((P0_1_ k_ ∨ P1_7_ k_ ∨ P1_10_ k_) ∨ w.heap.size ≤ k_) ∧ k_ ≠ gb446 ∧ k_ ≠ gb447)) (okp := (fun k_ => ((P0_1_ k_ ∨ P1_7_ k_ ∨ P1_10_ k_) ∨ w.heap.size ≤ k_) ∧ k_ ≠ gb446 ∧ k_ ≠ gb447)) ?hr ?hp (fun _ hk => hk) ((show ∀ k_, w15.heap.size ≤ k_ → (fun k_ => ((P0_1_ k_ ∨ P1_7_ k_ ∨ P1_10_ k_) ∨ w.heap.size ≤ k_) ∧ k_ ≠ gb446 ∧ k_ ≠ gb447) k_ from fun k_ hk => ⟨(.inr (Nat.le_trans (below_size bz_) hk)), Kd.freshB (g := gb446) (o := .cells #[.int .i64 a0_0, .slice A0_1 l0_1.length c0_1] 24 (0, 0)) kz_ k_ hk, Kd.freshB (g := gb447) (o := .cells #[.int .u8 a1_0, .int .u32 a1_1, .int .u32 a1_2, .int .u32 a1_3, .int .u32 a1_4, .int .i64 a1_5, .int .u32 a1_6, .slice A1_7 l1_7.length c1_7, .int .i64 a1_8, .bool a1_9, .slice A1_10 l1_10.length c1_10] 32 (0, 0)) kz_ k_ hk⟩) _ (Nat.le_refl _)) (Below.refl _ _) (Nat.le_refl _) (by simp) ?_; (case hd => rfl); (case hg => rfl); (case hr => first | (go_simp; done) | (go_simp; rfl)); (case hp => exact (Reps.front (show Kd.FK k32 _ _ (⟨a1_0, a1_1, (⟨a1_2, a1_3, a1_4, a1_5, a1_6, l1_7⟩ : S29), a1_8, a1_9, l1_10⟩ : S32) [.int .u8 a1_0, .int .u32 a1_1, .int .u32 a1_2, .int .u32 a1_3, .int .u32 a1_4, .int .i64 a1_5, .int .u32 a1_6, .slice A1_7 l1_7.length c1_7, .int .i64 a1_8, .bool a1_9, .slice A1_10 l1_10.length c1_10] from (k32_mkF _ _ (⟨a1_0, a1_1, (⟨a1_2, a1_3, a1_4, a1_5, a1_6, l1_7⟩ : S29), a1_8, a1_9, l1_10⟩ : S32) (Kd.V_reads' (Kd.V_mono (ok' := (fun k_ => ((P0_1_ k_ ∨ P1_7_ k_ ∨ P1_10_ k_) ∨ w.heap.size ≤ k_) ∧ k_ ≠ gb446 ∧ k_ ≠ gb447)) (HO1_7.out) (fun k_ hk => ⟨hk.1.1, ⟨hk.1.2, hk.2⟩⟩))).2.1 (Kd.V_F (Kd.V_mono (ok' := (fun k_ => ((P0_1_ k_ ∨ P1_7_ k_ ∨ P1_10_ k_) ∨ w.heap.size ≤ k_) ∧ k_ ≠ gb446 ∧ k_ ≠ gb447)) (HO1_7.out) (fun k_ hk => ⟨hk.1.1, ⟨hk.1.2, hk.2⟩⟩))) (Kd.V_reads' (Kd.V_mono (ok' := (fun k_ => ((P0_1_ k_ ∨ P1_7_ k_ ∨ P1_10_ k_) ∨ w.heap.size ≤ k_) ∧ k_ ≠ gb446 ∧ k_ ≠ gb447)) (HO1_10.out) (fun k_ hk => ⟨hk.1.1, ⟨hk.1.2, hk.2⟩⟩))).2.1 (Kd.V_F (Kd.V_mono (ok' := (fun k_ => ((P0_1_ k_ ∨ P1_7_ k_ ∨ P1_10_ k_) ∨ w.heap.size ≤ k_) ∧ k_ ≠ gb446 ∧ k_ ≠ gb447)) (HO1_10.out) (fun k_ hk => ⟨hk.1.1, ⟨hk.1.2, hk.2⟩⟩))))) rfl (Reps.none _ _) rfl)); intro v452 w17 ho18 hb hg_ hnew_; clear hg_ hnew_; (first | rw [← Ny451.out] at ho18 | (simp only [Int.reduceToNat] at ho18; rw [← Ny451.out] at ho18)); have HO453 := m_ (Kd.N_lower ho18 (below_size bz_)); replace HO0_1 := m_ (Kd.V_elder' (Vz_ HO0_1.out) (Kd.N_base ho18) hb); replace HO1_7 := m_ (Kd.V_elder' (Vz_ HO1_7.out) (Kd.N_base ho18) hb); replace HO1_10 := m_ (Kd.V_elder' (Vz_ HO1_10.out) (Kd.N_base ho18) hb); replace BK446 := m_ (kl_ gb446 hb); replace BK447 := m_ (kl_ gb447 hb); replace HB := m_ (below_step bz_ hb); clear hb ho18; obtain ⟨Ao19, co19, eo19⟩ := Kd.N_slice HO453.out; subst eo19) | (go_at_call 12; (with_reducible refine (stolonlaw17_few.calls k _ _ y451 t454 _ ?side1 ?side2 A12.out).mono ?_); (case side1 => exact Cd_ (Kd.N_reads' HO453.out).2.2); (case side2 => exact (Kd.N_reads' HO453.out).2.1); rintro e w' ⟨rfl, ⟨nd, rfl⟩⟩))
    go_meet
    case rel => exact ⟨_, (!t454), (by first | rfl | (simp; done) | (simp [*]; done)), H', ⟨by first | omega | exact Nat.le_refl _⟩, ⟨Vy_ (Kd.V_mono HO0_1.out (fun _ hk => ⟨hk.1.1.1, ⟨hk.1.1.2, hk.1.2⟩⟩))⟩, ⟨Vy_ (Kd.V_mono HO1_7.out (fun _ hk => ⟨hk.1.1.1, ⟨hk.1.1.2, hk.1.2⟩⟩))⟩, ⟨Vy_ (Kd.V_mono HO1_10.out (fun _ hk => ⟨hk.1.1.1, ⟨hk.1.1.2, hk.1.2⟩⟩))⟩, ⟨kz_⟩, ⟨kz_⟩, ⟨bz_⟩⟩
   ·replace c11 := Bool.eq_false_iff.mpr c11
    subst c11
    have H1 : (stolonlaw17_SwtchOdd.j0 k t448 true a0_0 l0_1 a1_0 a1_1 a1_2 a1_3 a1_4 a1_5 a1_6 l1_7 a1_8 a1_9 l1_10) = some r := by rw [if_neg (show ¬ (false = true) by decide)] at H; exact H
    clear H
    have H := H1
    clear H1
    have H' := m_ H
    clear H
    have hnb20 := NB446_447.out
    have hnc20 := NB447_446.out
    have hcz21 := cz2_ BK446.out
    go_wp2_with (first | ((with_reducible refine gate_callee (f := 10) rfl ?_); refine gL_ (some 13) Try.func10 #[.slice A0_1 l0_1.length c0_1] ?_; (with_reducible refine (stolonref15_Few.calls k _ _ l0_1 true _ ?side1 ?side2 A8.out).mono ?_); (case side1 => exact Cd_ (Kd.V_reads' HO0_1.out).2.2); (case side2 => exact (Kd.V_reads' HO0_1.out).2.1); rintro e w' ⟨rfl, ⟨nd, rfl⟩⟩; refine ⟨_, rfl, ?_⟩) | (go_at_call 11; (with_reducible refine (stolonref17_Right.calls k a0_0 _ _ l0_1 false _ ?side1 ?side2 A10.out).mono ?_); (case side1 => exact Cd_ (Kd.V_reads' HO0_1.out).2.2); (case side2 => exact (Kd.V_reads' HO0_1.out).2.1); rintro e w22 ⟨rfl, hb⟩; replace HO0_1 := m_ (Kd.V_below (Vz_ HO0_1.out) hb); replace HO1_7 := m_ (Kd.V_below (Vz_ HO1_7.out) hb); replace HO1_10 := m_ (Kd.V_below (Vz_ HO1_10.out) hb); replace BK446 := m_ (kl_ gb446 hb); replace BK447 := m_ (kl_ gb447 hb); replace HB := m_ (below_step bz_ hb); (try clear hb); (try clear hb2); (try clear hk); (try clear hi)))
    go_meet
    case rel => exact ⟨_, (true), (by first | rfl | (simp; done) | (simp [*]; done)), H', ⟨by first | omega | exact Nat.le_refl _⟩, ⟨Vy_ (Kd.V_mono HO0_1.out (fun _ hk => ⟨hk.1.1, ⟨hk.1.2, hk.2⟩⟩))⟩, ⟨Vy_ (Kd.V_mono HO1_7.out (fun _ hk => ⟨hk.1.1, ⟨hk.1.2, hk.2⟩⟩))⟩, ⟨Vy_ (Kd.V_mono HO1_10.out (fun _ hk => ⟨hk.1.1, ⟨hk.1.2, hk.2⟩⟩))⟩, ⟨kz_⟩, ⟨kz_⟩, ⟨bz_⟩⟩
  ·replace c9 := Bool.eq_false_iff.mpr c9
   subst c9
   have H1 : (stolonlaw17_SwtchOdd.j0 k t448 true a0_0 l0_1 a1_0 a1_1 a1_2 a1_3 a1_4 a1_5 a1_6 l1_7 a1_8 a1_9 l1_10) = some r := by rw [if_neg (show ¬ (false = true) by decide)] at H; exact H
   clear H
   have H := H1
   clear H1
   have H' := m_ H
   clear H
   have hnb23 := NB446_447.out
   have hnc23 := NB447_446.out
   have hcz24 := cz2_ BK446.out
   go_wp2_with (first | ((with_reducible refine gate_callee (f := 10) rfl ?_); refine gL_ (some 13) Try.func10 #[.slice A0_1 l0_1.length c0_1] ?_; (with_reducible refine (stolonref15_Few.calls k _ _ l0_1 false _ ?side1 ?side2 A8.out).mono ?_); (case side1 => exact Cd_ (Kd.V_reads' HO0_1.out).2.2); (case side2 => exact (Kd.V_reads' HO0_1.out).2.1); rintro e w' ⟨rfl, ⟨nd, rfl⟩⟩; refine ⟨_, rfl, ?_⟩))
   go_meet
   case rel => exact ⟨_, (true), (by first | rfl | (simp; done) | (simp [*]; done)), H', ⟨by first | omega | exact Nat.le_refl _⟩, ⟨Vy_ (Kd.V_mono HO0_1.out (fun _ hk => ⟨hk.1.1, ⟨hk.1.2, hk.2⟩⟩))⟩, ⟨Vy_ (Kd.V_mono HO1_7.out (fun _ hk => ⟨hk.1.1, ⟨hk.1.2, hk.2⟩⟩))⟩, ⟨Vy_ (Kd.V_mono HO1_10.out (fun _ hk => ⟨hk.1.1, ⟨hk.1.2, hk.2⟩⟩))⟩, ⟨kz_⟩, ⟨kz_⟩, ⟨bz_⟩⟩
 case rest =>
  clear HC4
  try clear c1
  try clear c2
  try clear p2
  try clear c7
  try clear c9
  try clear c10
  try clear c11
  try clear c13
  try clear c20
  try clear c23
  (try clear hcz14)
  (try clear hcz16)
  (try clear hcz21)
  (try clear hcz24)
  obtain ⟨kq, x25_3, rfl, HA, HJ3, HO_447001, HO_448007, HO_448010, BK446, BK447, HB⟩ := hcut
  cases kq with
  | zero => exact absurd HA.out (by simp [stolonlaw17_SwtchOdd.j0])
  | succ kj3 =>
   have H := HA.out
   clear HA
   simp only [stolonlaw17_SwtchOdd.j0] at H
   by_cases c25 : x25_3 = true
   ·subst c25
    have H1 : (some t448) = some r := by rw [if_pos rfl] at H; exact H
    clear H
    have H := H1
    clear H1
    obtain rfl := Option.some.inj H
    go_wp2
    go_ret
    exact ⟨ew_, bz_⟩
   ·replace c25 := Bool.eq_false_iff.mpr c25
    subst c25
    have H1 : (if a1_0 = 4 then (stolonlaw17_SwtchOdd.j1 kj3 t448 true a0_0 l0_1 a1_0 a1_1 a1_2 a1_3 a1_4 a1_5 a1_6 l1_7 a1_8 a1_9 l1_10) else (if a1_0 = 5 then (stolonlaw17_SwtchOdd.j1 kj3 t448 true a0_0 l0_1 a1_0 a1_1 a1_2 a1_3 a1_4 a1_5 a1_6 l1_7 a1_8 a1_9 l1_10) else (if a1_0 = 7 then (stolonlaw17_SwtchOdd.j1 kj3 t448 true a0_0 l0_1 a1_0 a1_1 a1_2 a1_3 a1_4 a1_5 a1_6 l1_7 a1_8 a1_9 l1_10) else (stolonlaw17_SwtchOdd.j1 kj3 t448 (a1_0 == 8) a0_0 l0_1 a1_0 a1_1 a1_2 a1_3 a1_4 a1_5 a1_6 l1_7 a1_8 a1_9 l1_10)))) = some r := by rw [if_neg (show ¬ (false = true) by decide)] at H; exact H
    clear H
    have H := H1
    clear H1
    have HC26 := m_ H
    clear H
    go_upto_region 4 with (fail)
    go_cut [6] (fun v6 wc => ∃ (kq : Nat) (x6_25 : Bool), v6 = .bool x6_25 ∧ Aside0 (stolonlaw17_SwtchOdd.j1 kq t448 x6_25 a0_0 l0_1 a1_0 a1_1 a1_2 a1_3 a1_4 a1_5 a1_6 l1_7 a1_8 a1_9 l1_10 = some r) ∧ Aside0 (kq ≤ kj3) ∧ Aside0 (Kd.V k29 29 wc w.heap.size (fun k_ => ((P0_1_ k_ ∨ P1_7_ k_ ∨ P1_10_ k_) ∨ w.heap.size ≤ k_) ∧ k_ ≠ gb446 ∧ k_ ≠ gb447) (.slice A0_1 l0_1.length c0_1) l0_1) ∧ Aside0 (Kd.V k74 74 wc w.heap.size (fun k_ => ((P0_1_ k_ ∨ P1_7_ k_ ∨ P1_10_ k_) ∨ w.heap.size ≤ k_) ∧ k_ ≠ gb446 ∧ k_ ≠ gb447) (.slice A1_7 l1_7.length c1_7) l1_7) ∧ Aside0 (Kd.V (Kd.int .u8) 5 wc w.heap.size (fun k_ => ((P0_1_ k_ ∨ P1_7_ k_ ∨ P1_10_ k_) ∨ w.heap.size ≤ k_) ∧ k_ ≠ gb446 ∧ k_ ≠ gb447) (.slice A1_10 l1_10.length c1_10) l1_10) ∧ Aside0 (wc.heap[gb446]? = some (.cells #[.int .i64 a0_0, (.slice A0_1 l0_1.length c0_1)] 24 (0, 0))) ∧ Aside0 (wc.heap[gb447]? = some (.cells #[.int .u8 a1_0, .int .u32 a1_1, .int .u32 a1_2, .int .u32 a1_3, .int .u32 a1_4, .int .i64 a1_5, .int .u32 a1_6, (.slice A1_7 l1_7.length c1_7), .int .i64 a1_8, .bool a1_9, (.slice A1_10 l1_10.length c1_10)] 32 (0, 0))) ∧ Aside0 (Below w.heap.size w wc))
    case first =>
     have H := HC26.out
     clear HC26
     by_cases c27 : a1_0 = 4
     ·rw [if_pos c27] at H
      have c27b0 : (a1_0 == 4) = true := beq_iff_eq.mpr c27
      have c27b1 : (a1_0 != 4) = false := bne_eq_false_iff_eq.mpr c27
      clear c27
      (first | rw [c27b0] | (simp only [i64_w, i32_w]; rw [c27b0]) | skip)
      have H' := m_ H
      clear H
      have hnb28 := NB447_446.out
      have hnc28 := NB446_447.out
      have hcz29 := cz11_ BK447.out
      go_wp2
      go_meet
      case rel => exact ⟨_, (true), (by first | rfl | (simp; done) | (simp [*]; done)), H', ⟨by have := HJ3.out; first | omega | exact Nat.le_refl _⟩, ⟨Vz_ HO_447001.out⟩, ⟨Vz_ HO_448007.out⟩, ⟨Vz_ HO_448010.out⟩, ⟨kz_⟩, ⟨kz_⟩, ⟨bz_⟩⟩
     ·rw [if_neg c27] at H
      have c27b0 : (a1_0 == 4) = false := beq_eq_false_iff_ne.mpr c27
      have c27b1 : (a1_0 != 4) = true := bne_iff_ne.mpr c27
      (first | rw [c27b0] | (simp only [i64_w, i32_w]; rw [c27b0]) | skip)
      by_cases c30 : a1_0 = 5
      ·rw [if_pos c30] at H
       have c30b0 : (a1_0 == 5) = true := beq_iff_eq.mpr c30
       have c30b1 : (a1_0 != 5) = false := bne_eq_false_iff_eq.mpr c30
       clear c30
       have H' := m_ H
       clear H
       have hnb31 := NB447_446.out
       have hnc31 := NB446_447.out
       have hcz32 := cz11_ BK447.out
       go_wp2
       go_meet
       case rel => exact ⟨_, (true), (by first | rfl | (simp; done) | (simp [*]; done)), H', ⟨by have := HJ3.out; first | omega | exact Nat.le_refl _⟩, ⟨Vz_ HO_447001.out⟩, ⟨Vz_ HO_448007.out⟩, ⟨Vz_ HO_448010.out⟩, ⟨kz_⟩, ⟨kz_⟩, ⟨bz_⟩⟩
      ·rw [if_neg c30] at H
       have c30b0 : (a1_0 == 5) = false := beq_eq_false_iff_ne.mpr c30
       have c30b1 : (a1_0 != 5) = true := bne_iff_ne.mpr c30
       by_cases c33 : a1_0 = 7
       ·rw [if_pos c33] at H
        have c33b0 : (a1_0 == 7) = true := beq_iff_eq.mpr c33
        have c33b1 : (a1_0 != 7) = false := bne_eq_false_iff_eq.mpr c33
        clear c33
        have H' := m_ H
        clear H
        have hnb34 := NB447_446.out
        have hnc34 := NB446_447.out
        have hcz35 := cz11_ BK447.out
        go_wp2
        go_meet
        case rel => exact ⟨_, (true), (by first | rfl | (simp; done) | (simp [*]; done)), H', ⟨by have := HJ3.out; first | omega | exact Nat.le_refl _⟩, ⟨Vz_ HO_447001.out⟩, ⟨Vz_ HO_448007.out⟩, ⟨Vz_ HO_448010.out⟩, ⟨kz_⟩, ⟨kz_⟩, ⟨bz_⟩⟩
       ·rw [if_neg c33] at H
        have c33b0 : (a1_0 == 7) = false := beq_eq_false_iff_ne.mpr c33
        have c33b1 : (a1_0 != 7) = true := bne_iff_ne.mpr c33
        have H' := m_ H
        clear H
        have hnb36 := NB447_446.out
        have hnc36 := NB446_447.out
        have hcz37 := cz11_ BK447.out
        go_wp2
        go_meet
        case rel => exact ⟨_, ((a1_0 == 8)), (by first | rfl | (simp; done) | (simp [*]; done)), H', ⟨by have := HJ3.out; first | omega | exact Nat.le_refl _⟩, ⟨Vz_ HO_447001.out⟩, ⟨Vz_ HO_448007.out⟩, ⟨Vz_ HO_448010.out⟩, ⟨kz_⟩, ⟨kz_⟩, ⟨bz_⟩⟩
    case rest =>
     clear HC26
     try clear c1
     try clear c2
     try clear p2
     try clear c3
     try clear c7
     try clear c9
     try clear c10
     try clear c11
     try clear c13
     try clear c20
     try clear c23
     try clear c25
     try clear c27
     try clear c27b0
     try clear c27b1
     try clear c28
     try clear c30
     try clear c30b0
     try clear c30b1
     try clear c31
     try clear c33
     try clear c33b0
     try clear c33b1
     try clear c34
     try clear c36
     (try clear hcz14)
     (try clear hcz16)
     (try clear hcz21)
     (try clear hcz24)
     (try clear hcz29)
     (try clear hcz32)
     (try clear hcz35)
     (try clear hcz37)
     try clear p2
     obtain ⟨kq, x6_25, rfl, HA, HJ25, HO_447001, HO_448007, HO_448010, BK446, BK447, HB⟩ := hcut
     cases kq with
     | zero => exact absurd HA.out (by simp [stolonlaw17_SwtchOdd.j1])
     | succ kj25 =>
      have H := HA.out
      clear HA
      simp only [stolonlaw17_SwtchOdd.j1] at H
      have HC38 := m_ H
      clear H
      go_upto_region 5 with (fail)
      go_cut [50] (fun v50 wc => ∃ (kq : Nat) (x50_37 : Bool), v50 = .bool x50_37 ∧ Aside0 (stolonlaw17_SwtchOdd.j2 kq t448 x50_37 a0_0 l0_1 a1_0 a1_1 a1_2 a1_3 a1_4 a1_5 a1_6 l1_7 a1_8 a1_9 l1_10 = some r) ∧ Aside0 (kq ≤ kj25) ∧ Aside0 (Kd.V k29 29 wc w.heap.size (fun k_ => ((P0_1_ k_ ∨ P1_7_ k_ ∨ P1_10_ k_) ∨ w.heap.size ≤ k_) ∧ k_ ≠ gb446 ∧ k_ ≠ gb447) (.slice A0_1 l0_1.length c0_1) l0_1) ∧ Aside0 (Kd.V k74 74 wc w.heap.size (fun k_ => ((P0_1_ k_ ∨ P1_7_ k_ ∨ P1_10_ k_) ∨ w.heap.size ≤ k_) ∧ k_ ≠ gb446 ∧ k_ ≠ gb447) (.slice A1_7 l1_7.length c1_7) l1_7) ∧ Aside0 (Kd.V (Kd.int .u8) 5 wc w.heap.size (fun k_ => ((P0_1_ k_ ∨ P1_7_ k_ ∨ P1_10_ k_) ∨ w.heap.size ≤ k_) ∧ k_ ≠ gb446 ∧ k_ ≠ gb447) (.slice A1_10 l1_10.length c1_10) l1_10) ∧ Aside0 (wc.heap[gb446]? = some (.cells #[.int .i64 a0_0, (.slice A0_1 l0_1.length c0_1)] 24 (0, 0))) ∧ Aside0 (wc.heap[gb447]? = some (.cells #[.int .u8 a1_0, .int .u32 a1_1, .int .u32 a1_2, .int .u32 a1_3, .int .u32 a1_4, .int .i64 a1_5, .int .u32 a1_6, (.slice A1_7 l1_7.length c1_7), .int .i64 a1_8, .bool a1_9, (.slice A1_10 l1_10.length c1_10)] 32 (0, 0))) ∧ Aside0 (Below w.heap.size w wc))
      case first =>
       have H := HC38.out
       clear HC38
       replace H := Option.bind_eq_some_iff.mp H
       obtain ⟨t455, A390, H⟩ := H
       replace H : (if t455 = true then (stolonlaw17_SwtchOdd.j2 kj25 t448 (!x6_25) a0_0 l0_1 a1_0 a1_1 a1_2 a1_3 a1_4 a1_5 a1_6 l1_7 a1_8 a1_9 l1_10) else (stolonlaw17_SwtchOdd.j2 kj25 t448 false a0_0 l0_1 a1_0 a1_1 a1_2 a1_3 a1_4 a1_5 a1_6 l1_7 a1_8 a1_9 l1_10)) = some r := H
       have A39 := m_ A390
       clear A390
       by_cases c40 : t455 = true
       ·subst c40
        have H1 : (stolonlaw17_SwtchOdd.j2 kj25 t448 (!x6_25) a0_0 l0_1 a1_0 a1_1 a1_2 a1_3 a1_4 a1_5 a1_6 l1_7 a1_8 a1_9 l1_10) = some r := by rw [if_pos rfl] at H; exact H
        clear H
        have H := H1
        clear H1
        have H' := m_ H
        clear H
        have hnb41 := NB447_446.out
        have hnc41 := NB446_447.out
        have hcz42 := cz11_ BK447.out
        go_wp2_with (first | ((with_reducible refine gate_callee (f := 19) rfl ?_); refine gL_ (some 46) Try.func19 #[.agg #[.int .u8 a1_0, .int .u32 a1_1, .int .u32 a1_2, .int .u32 a1_3, .int .u32 a1_4, .int .i64 a1_5, .int .u32 a1_6, .slice A1_7 l1_7.length c1_7, .int .i64 a1_8, .bool a1_9, .slice A1_10 l1_10.length c1_10]] ?_; (with_reducible refine (stolonref16_Right.calls kj25 a1_0 a1_1 a1_2 a1_3 a1_4 a1_5 a1_6 _ _ l1_7 a1_8 a1_9 _ _ l1_10 true _ ?side1 ?side2 ?side3 ?side4 A39.out).mono ?_); (case side1 => exact Cd_ (Kd.V_reads' HO_448007.out).2.2); (case side2 => exact (Kd.V_reads' HO_448007.out).2.1); (case side3 => exact Cd_ (Kd.V_reads' HO_448010.out).2.2); (case side4 => exact (Kd.V_reads' HO_448010.out).2.1); rintro e w43 ⟨rfl, hb⟩; refine ⟨_, rfl, ?_⟩; replace HO_447001 := m_ (Kd.V_below (Vz_ HO_447001.out) hb); replace HO_448007 := m_ (Kd.V_below (Vz_ HO_448007.out) hb); replace HO_448010 := m_ (Kd.V_below (Vz_ HO_448010.out) hb); replace BK446 := m_ (kl_ gb446 hb); replace BK447 := m_ (kl_ gb447 hb); replace HB := m_ (below_step bz_ hb); (try clear hb); (try clear hb2); (try clear hk); (try clear hi)))
        go_meet
        case rel => exact ⟨_, (!x6_25), (by first | rfl | (simp; done) | (simp [*]; done)), H', ⟨by have := HJ3.out; have := HJ25.out; first | omega | exact Nat.le_refl _⟩, ⟨Vz_ HO_447001.out⟩, ⟨Vz_ HO_448007.out⟩, ⟨Vz_ HO_448010.out⟩, ⟨kz_⟩, ⟨kz_⟩, ⟨bz_⟩⟩
       ·replace c40 := Bool.eq_false_iff.mpr c40
        subst c40
        have H1 : (stolonlaw17_SwtchOdd.j2 kj25 t448 false a0_0 l0_1 a1_0 a1_1 a1_2 a1_3 a1_4 a1_5 a1_6 l1_7 a1_8 a1_9 l1_10) = some r := by rw [if_neg (show ¬ (false = true) by decide)] at H; exact H
        clear H
        have H := H1
        clear H1
        have H' := m_ H
        clear H
        have hnb44 := NB447_446.out
        have hnc44 := NB446_447.out
        have hcz45 := cz11_ BK447.out
        go_wp2_with (first | ((with_reducible refine gate_callee (f := 19) rfl ?_); refine gL_ (some 46) Try.func19 #[.agg #[.int .u8 a1_0, .int .u32 a1_1, .int .u32 a1_2, .int .u32 a1_3, .int .u32 a1_4, .int .i64 a1_5, .int .u32 a1_6, .slice A1_7 l1_7.length c1_7, .int .i64 a1_8, .bool a1_9, .slice A1_10 l1_10.length c1_10]] ?_; (with_reducible refine (stolonref16_Right.calls kj25 a1_0 a1_1 a1_2 a1_3 a1_4 a1_5 a1_6 _ _ l1_7 a1_8 a1_9 _ _ l1_10 false _ ?side1 ?side2 ?side3 ?side4 A39.out).mono ?_); (case side1 => exact Cd_ (Kd.V_reads' HO_448007.out).2.2); (case side2 => exact (Kd.V_reads' HO_448007.out).2.1); (case side3 => exact Cd_ (Kd.V_reads' HO_448010.out).2.2); (case side4 => exact (Kd.V_reads' HO_448010.out).2.1); rintro e w46 ⟨rfl, hb⟩; refine ⟨_, rfl, ?_⟩; replace HO_447001 := m_ (Kd.V_below (Vz_ HO_447001.out) hb); replace HO_448007 := m_ (Kd.V_below (Vz_ HO_448007.out) hb); replace HO_448010 := m_ (Kd.V_below (Vz_ HO_448010.out) hb); replace BK446 := m_ (kl_ gb446 hb); replace BK447 := m_ (kl_ gb447 hb); replace HB := m_ (below_step bz_ hb); (try clear hb); (try clear hb2); (try clear hk); (try clear hi)))
        go_meet
        case rel => exact ⟨_, (false), (by first | rfl | (simp; done) | (simp [*]; done)), H', ⟨by have := HJ3.out; have := HJ25.out; first | omega | exact Nat.le_refl _⟩, ⟨Vz_ HO_447001.out⟩, ⟨Vz_ HO_448007.out⟩, ⟨Vz_ HO_448010.out⟩, ⟨kz_⟩, ⟨kz_⟩, ⟨bz_⟩⟩
      case rest =>
       clear HC38
       try clear c1
       try clear c2
       try clear p2
       try clear c3
       try clear c4
       try clear c7
       try clear c9
       try clear c10
       try clear c11
       try clear c13
       try clear c19
       try clear c20
       try clear c23
       try clear c25
       try clear c27
       try clear c27b0
       try clear c27b1
       try clear c28
       try clear c30
       try clear c30b0
       try clear c30b1
       try clear c31
       try clear c33
       try clear c33b0
       try clear c33b1
       try clear c34
       try clear c36
       try clear c40
       try clear c41
       try clear c44
       (try clear hcz14)
       (try clear hcz16)
       (try clear hcz21)
       (try clear hcz24)
       (try clear hcz29)
       (try clear hcz32)
       (try clear hcz35)
       (try clear hcz37)
       (try clear hcz42)
       (try clear hcz45)
       try clear p2
       obtain ⟨kq, x50_37, rfl, HA, HJ37, HO_447001, HO_448007, HO_448010, BK446, BK447, HB⟩ := hcut
       cases kq with
       | zero => exact absurd HA.out (by simp [stolonlaw17_SwtchOdd.j2])
       | succ kj37 =>
        have H := HA.out
        clear HA
        simp only [stolonlaw17_SwtchOdd.j2] at H
        by_cases c47 : x50_37 = true
        ·subst c47
         have H1 : (some t448) = some r := by rw [if_pos rfl] at H; exact H
         clear H
         have H := H1
         clear H1
         obtain rfl := Option.some.inj H
         go_wp2
         go_ret
         exact ⟨ew_, bz_⟩
        ·replace c47 := Bool.eq_false_iff.mpr c47
         subst c47
         have H1 : ((swtch_Hear.f kj37 a0_0 l0_1 a1_0 a1_1 a1_2 a1_3 a1_4 a1_5 a1_6 l1_7 a1_8 a1_9 l1_10).bind fun bt456 => (if t448 = true then ((stolonref17_Same.f kj37 bt456.1 bt456.2.1 a0_0 l0_1).bind fun t467 => (if t467 = true then (if (bt456.2.2.1.length : Int) = 0 then (some ((bt456.2.2.2.length : Int) == 0)) else (some false)) else (some false))) else (some false))) = some r := by rw [if_neg (show ¬ (false = true) by decide)] at H; exact H
         clear H
         have H := H1
         clear H1
         replace H := Option.bind_eq_some_iff.mp H
         obtain ⟨⟨t456, t457, t460, t463⟩, A480, H⟩ := H
         replace H : (if t448 = true then ((stolonref17_Same.f kj37 t456 t457 a0_0 l0_1).bind fun t467 => (if t467 = true then (if (t460.length : Int) = 0 then (some ((t463.length : Int) == 0)) else (some false)) else (some false))) else (some false)) = some r := H
         have A48 := m_ A480
         clear A480
         by_cases c49 : t448 = true
         ·subst c49
          have H1 : ((stolonref17_Same.f kj37 t456 t457 a0_0 l0_1).bind fun t467 => (if t467 = true then (if (t460.length : Int) = 0 then (some ((t463.length : Int) == 0)) else (some false)) else (some false))) = some r := by rw [if_pos rfl] at H; exact H
          clear H
          have H := H1
          clear H1
          replace H := Option.bind_eq_some_iff.mp H
          obtain ⟨t467, A500, H⟩ := H
          replace H : (if t467 = true then (if (t460.length : Int) = 0 then (some ((t463.length : Int) == 0)) else (some false)) else (some false)) = some r := H
          have A50 := m_ A500
          clear A500
          by_cases c51 : t467 = true
          ·subst c51
           have H1 : (if (t460.length : Int) = 0 then (some ((t463.length : Int) == 0)) else (some false)) = some r := by rw [if_pos rfl] at H; exact H
           clear H
           have H := H1
           clear H1
           by_cases c52 : (t460.length : Int) = 0
           ·rw [if_pos c52] at H
            have c52b0 : ((t460.length : Int) == 0) = true := beq_iff_eq.mpr c52
            have c52b1 : ((t460.length : Int) != 0) = false := bne_eq_false_iff_eq.mpr c52
            clear c52
            obtain rfl := Option.some.inj H
            have hnb53 := NB446_447.out
            have hnc53 := NB447_446.out
            have hcz54 := cz2_ BK446.out
            have hcz55 := cz11_ BK447.out
            go_wp2_with (first | ((with_reducible refine gate_callee (f := 13) rfl ?_); refine gL_ (some 55) Try.func13 #[.agg #[.int .i64 a0_0, .slice A0_1 l0_1.length c0_1], .agg #[.int .u8 a1_0, .int .u32 a1_1, .int .u32 a1_2, .int .u32 a1_3, .int .u32 a1_4, .int .i64 a1_5, .int .u32 a1_6, .slice A1_7 l1_7.length c1_7, .int .i64 a1_8, .bool a1_9, .slice A1_10 l1_10.length c1_10]] ?_; (with_reducible refine (swtch_Hear.calls kj37 a0_0 (fun k_ => (((P0_1_ k_ ∨ P1_7_ k_ ∨ P1_10_ k_) ∨ w.heap.size ≤ k_) ∧ (k_ ≠ gb446 ∧ k_ ≠ gb447))) _ _ l0_1 a1_0 a1_1 a1_2 a1_3 a1_4 a1_5 a1_6 (fun k_ => (((P0_1_ k_ ∨ P1_7_ k_ ∨ P1_10_ k_) ∨ w.heap.size ≤ k_) ∧ (k_ ≠ gb446 ∧ k_ ≠ gb447))) _ _ l1_7 a1_8 a1_9 (fun k_ => (((P0_1_ k_ ∨ P1_7_ k_ ∨ P1_10_ k_) ∨ w.heap.size ≤ k_) ∧ (k_ ≠ gb446 ∧ k_ ≠ gb447))) _ _ l1_10 t456 t457 t460 t463 _ ?side1 ?side2 ?side3 A48.out).mono ?_); (case side1 => exact HO_447001.out); (case side2 => exact HO_448007.out); (case side3 => exact HO_448010.out); rintro e w56 ⟨v458, v461, v464, rfl, ho0, ho1, ho2, hb⟩; refine ⟨_, rfl, ?_⟩; have HO459 := m_ (Kd.V_lower (Kd.V_mono (ok' := fun k_ => ((P0_1_ k_ ∨ P1_7_ k_ ∨ P1_10_ k_) ∨ w.heap.size ≤ k_) ∧ k_ ≠ gb446 ∧ k_ ≠ gb447) ho0 (fun k_ hk_ => ⟨Or.elim hk_ (fun hs_ => Or.elim hs_ (fun hs_ => hs_.1) (fun hs_ => Or.elim hs_ (fun hs_ => hs_.1) (fun hs_ => hs_.1))) (fun hn_ => (.inr (Nat.le_trans (below_size bz_) hn_))), Or.elim hk_ (fun hs_ => Or.elim hs_ (fun hs_ => hs_.2.1) (fun hs_ => Or.elim hs_ (fun hs_ => hs_.2.1) (fun hs_ => hs_.2.1))) (fun hn_ => (Kd.freshB (g := gb446) (o := .cells #[.int .i64 a0_0, .slice A0_1 l0_1.length c0_1] 24 (0, 0)) kz_ k_ hn_)), Or.elim hk_ (fun hs_ => Or.elim hs_ (fun hs_ => hs_.2.2) (fun hs_ => Or.elim hs_ (fun hs_ => hs_.2.2) (fun hs_ => hs_.2.2))) (fun hn_ => (Kd.freshB (g := gb447) (o := .cells #[.int .u8 a1_0, .int .u32 a1_1, .int .u32 a1_2, .int .u32 a1_3, .int .u32 a1_4, .int .i64 a1_5, .int .u32 a1_6, .slice A1_7 l1_7.length c1_7, .int .i64 a1_8, .bool a1_9, .slice A1_10 l1_10.length c1_10] 32 (0, 0)) kz_ k_ hn_))⟩)) (below_size bz_)); have HO462 := m_ (Kd.V_lower (Kd.V_mono (ok' := fun k_ => ((P0_1_ k_ ∨ P1_7_ k_ ∨ P1_10_ k_) ∨ w.heap.size ≤ k_) ∧ k_ ≠ gb446 ∧ k_ ≠ gb447) ho1 (fun k_ hk_ => ⟨Or.elim hk_ (fun hs_ => Or.elim hs_ (fun hs_ => hs_.1) (fun hs_ => Or.elim hs_ (fun hs_ => hs_.1) (fun hs_ => hs_.1))) (fun hn_ => (.inr (Nat.le_trans (below_size bz_) hn_))), Or.elim hk_ (fun hs_ => Or.elim hs_ (fun hs_ => hs_.2.1) (fun hs_ => Or.elim hs_ (fun hs_ => hs_.2.1) (fun hs_ => hs_.2.1))) (fun hn_ => (Kd.freshB (g := gb446) (o := .cells #[.int .i64 a0_0, .slice A0_1 l0_1.length c0_1] 24 (0, 0)) kz_ k_ hn_)), Or.elim hk_ (fun hs_ => Or.elim hs_ (fun hs_ => hs_.2.2) (fun hs_ => Or.elim hs_ (fun hs_ => hs_.2.2) (fun hs_ => hs_.2.2))) (fun hn_ => (Kd.freshB (g := gb447) (o := .cells #[.int .u8 a1_0, .int .u32 a1_1, .int .u32 a1_2, .int .u32 a1_3, .int .u32 a1_4, .int .i64 a1_5, .int .u32 a1_6, .slice A1_7 l1_7.length c1_7, .int .i64 a1_8, .bool a1_9, .slice A1_10 l1_10.length c1_10] 32 (0, 0)) kz_ k_ hn_))⟩)) (below_size bz_)); have HO465 := m_ (Kd.V_lower (Kd.V_mono (ok' := fun k_ => ((P0_1_ k_ ∨ P1_7_ k_ ∨ P1_10_ k_) ∨ w.heap.size ≤ k_) ∧ k_ ≠ gb446 ∧ k_ ≠ gb447) ho2 (fun k_ hk_ => ⟨Or.elim hk_ (fun hs_ => Or.elim hs_ (fun hs_ => hs_.1) (fun hs_ => Or.elim hs_ (fun hs_ => hs_.1) (fun hs_ => hs_.1))) (fun hn_ => (.inr (Nat.le_trans (below_size bz_) hn_))), Or.elim hk_ (fun hs_ => Or.elim hs_ (fun hs_ => hs_.2.1) (fun hs_ => Or.elim hs_ (fun hs_ => hs_.2.1) (fun hs_ => hs_.2.1))) (fun hn_ => (Kd.freshB (g := gb446) (o := .cells #[.int .i64 a0_0, .slice A0_1 l0_1.length c0_1] 24 (0, 0)) kz_ k_ hn_)), Or.elim hk_ (fun hs_ => Or.elim hs_ (fun hs_ => hs_.2.2) (fun hs_ => Or.elim hs_ (fun hs_ => hs_.2.2) (fun hs_ => hs_.2.2))) (fun hn_ => (Kd.freshB (g := gb447) (o := .cells #[.int .u8 a1_0, .int .u32 a1_1, .int .u32 a1_2, .int .u32 a1_3, .int .u32 a1_4, .int .i64 a1_5, .int .u32 a1_6, .slice A1_7 l1_7.length c1_7, .int .i64 a1_8, .bool a1_9, .slice A1_10 l1_10.length c1_10] 32 (0, 0)) kz_ k_ hn_))⟩)) (below_size bz_)); replace HO_447001 := m_ (Kd.V_below (Vz_ HO_447001.out) hb); replace HO_448007 := m_ (Kd.V_below (Vz_ HO_448007.out) hb); replace HO_448010 := m_ (Kd.V_below (Vz_ HO_448010.out) hb); replace BK446 := m_ (kl_ gb446 hb); replace BK447 := m_ (kl_ gb447 hb); replace HB := m_ (below_step bz_ hb); (try clear hb); (try clear hb2); (try clear hk); (try clear hi); (try clear ho0); (try clear ho1); (try clear ho2)) | ((with_reducible refine gate_dst (N := 7) rfl ?_); (try (refine gate_guard (by rfl) ?_; dsimp only)); refine bx_ 7 24 #[.int .i64 0, .slice none 0 0] ?_; intro gb466 hg w57 hbox hb; have BK466 := m_ (hbox); have GW466 := m_ ((gw_ : w.heap.size ≤ gb466)); have GE466 := m_ ((gw_ : w.heap.size ≤ gb466)); have NB446_466 := m_ ((gl_ : gb446 ≠ gb466)); have NB466_446 := m_ ((gr_ : gb466 ≠ gb446)); have NB447_466 := m_ ((gl_ : gb447 ≠ gb466)); have NB466_447 := m_ ((gr_ : gb466 ≠ gb447)); replace HO_447001 := m_ (Kd.V_below (Kd.V_elderB (Vz_ HO_447001.out) gb466 (Nat.le_of_eq hg.symm)) hb); replace HO_448007 := m_ (Kd.V_below (Kd.V_elderB (Vz_ HO_448007.out) gb466 (Nat.le_of_eq hg.symm)) hb); replace HO_448010 := m_ (Kd.V_below (Kd.V_elderB (Vz_ HO_448010.out) gb466 (Nat.le_of_eq hg.symm)) hb); replace HO459 := m_ (Kd.V_below (Kd.V_elderB (Vz_ HO459.out) gb466 (Nat.le_of_eq hg.symm)) hb); replace HO462 := m_ (Kd.V_below (Kd.V_elderB (Vz_ HO462.out) gb466 (Nat.le_of_eq hg.symm)) hb); replace HO465 := m_ (Kd.V_below (Kd.V_elderB (Vz_ HO465.out) gb466 (Nat.le_of_eq hg.symm)) hb); replace BK446 := m_ (kl_ gb446 hb); replace BK447 := m_ (kl_ gb447 hb); replace HB := m_ (below_step bz_ hb); clear hb hbox hg; have hnb58 := NB466_446.out; have hnc58 := NB446_466.out; have hnb59 := NB466_447.out; have hnc59 := NB447_466.out; have hcz60 := cz2_ BK466.out; obtain ⟨Ao61, co61, eo61⟩ := Kd.V_slice HO459.out; subst eo61; have hcz62 := cz2_ BK446.out) | (go_at_call 17; (with_reducible refine (stolonref17_Same.calls kj37 t456 _ _ t457 a0_0 _ _ l0_1 true _ ?side1 ?side2 ?side3 ?side4 A50.out).mono ?_); (case side1 => first | (refine (Kd.V_reads' (e := 29) (base := w.heap.size) (ok := fun k_ => (((w.heap.size ≤ k_) ∧ (k_ ≠ gb446 ∧ k_ ≠ gb447)) ∧ k_ ≠ gb466)) (n := t457.length) (c := co61) ?_).2.2; exact ((Kd.V_mono (Vf_ (Kd.V_mono HO459.out (fun k_ hk => (⟨hk, hk.2⟩ : _ ∧ k_ ≠ gb466)))) (fun _ h_ => h_.1)))) | (refine (Kd.V_reads' (e := 29) (base := w.heap.size) (ok := fun k_ => ((((P0_1_ k_ ∨ P1_7_ k_ ∨ P1_10_ k_) ∨ w.heap.size ≤ k_) ∧ (k_ ≠ gb446 ∧ k_ ≠ gb447)) ∧ k_ ≠ gb466)) (n := t457.length) (c := co61) ?_).2.2; exact ((Kd.V_mono (Vf_ (Kd.V_mono HO459.out (fun k_ hk => (⟨hk, hk.2⟩ : _ ∧ k_ ≠ gb466)))) (fun _ h_ => h_.1))))); (case side2 => exact (Kd.V_reads' HO459.out).2.1); (case side3 => first | (refine (Kd.V_reads' (e := 29) (base := w.heap.size) (ok := fun k_ => (((w.heap.size ≤ k_) ∧ (k_ ≠ gb446 ∧ k_ ≠ gb447)) ∧ k_ ≠ gb466)) (n := l0_1.length) (c := c0_1) ?_).2.2; exact ((Kd.V_mono (Vf_ (Kd.V_mono HO_447001.out (fun k_ hk => (⟨hk, hk.2⟩ : _ ∧ k_ ≠ gb466)))) (fun _ h_ => h_.1)))) | (refine (Kd.V_reads' (e := 29) (base := w.heap.size) (ok := fun k_ => ((((P0_1_ k_ ∨ P1_7_ k_ ∨ P1_10_ k_) ∨ w.heap.size ≤ k_) ∧ (k_ ≠ gb446 ∧ k_ ≠ gb447)) ∧ k_ ≠ gb466)) (n := l0_1.length) (c := c0_1) ?_).2.2; exact ((Kd.V_mono (Vf_ (Kd.V_mono HO_447001.out (fun k_ hk => (⟨hk, hk.2⟩ : _ ∧ k_ ≠ gb466)))) (fun _ h_ => h_.1))))); (case side4 => exact (Kd.V_reads' HO_447001.out).2.1); rintro e w63 ⟨rfl, hb⟩; replace HO_447001 := m_ (Kd.V_below ((Kd.V_mono (Vf_ (Kd.V_mono HO_447001.out (fun k_ hk => (⟨hk, hk.2⟩ : _ ∧ k_ ≠ gb466)))) (fun _ h_ => h_.1))) hb); replace HO_448007 := m_ (Kd.V_below ((Kd.V_mono (Vf_ (Kd.V_mono HO_448007.out (fun k_ hk => (⟨hk, hk.2⟩ : _ ∧ k_ ≠ gb466)))) (fun _ h_ => h_.1))) hb); replace HO_448010 := m_ (Kd.V_below ((Kd.V_mono (Vf_ (Kd.V_mono HO_448010.out (fun k_ hk => (⟨hk, hk.2⟩ : _ ∧ k_ ≠ gb466)))) (fun _ h_ => h_.1))) hb); replace HO459 := m_ (Kd.V_below ((Kd.V_mono (Vf_ (Kd.V_mono HO459.out (fun k_ hk => (⟨hk, hk.2⟩ : _ ∧ k_ ≠ gb466)))) (fun _ h_ => h_.1))) hb); replace HO462 := m_ (Kd.V_below ((Kd.V_mono (Vf_ (Kd.V_mono HO462.out (fun k_ hk => (⟨hk, hk.2⟩ : _ ∧ k_ ≠ gb466)))) (fun _ h_ => h_.1))) hb); replace HO465 := m_ (Kd.V_below ((Kd.V_mono (Vf_ (Kd.V_mono HO465.out (fun k_ hk => (⟨hk, hk.2⟩ : _ ∧ k_ ≠ gb466)))) (fun _ h_ => h_.1))) hb); replace BK446 := m_ (blk_below (g := gb446) (o := .cells #[.int .i64 a0_0, .slice A0_1 l0_1.length c0_1] 24 (0, 0)) kb_ hb); replace BK447 := m_ (blk_below (g := gb447) (o := .cells #[.int .u8 a1_0, .int .u32 a1_1, .int .u32 a1_2, .int .u32 a1_3, .int .u32 a1_4, .int .i64 a1_5, .int .u32 a1_6, .slice A1_7 l1_7.length c1_7, .int .i64 a1_8, .bool a1_9, .slice A1_10 l1_10.length c1_10] 32 (0, 0)) kb_ hb); replace BK466 := m_ (blk_below (g := gb466) (o := .cells #[.int .i64 t456, .slice Ao61 t457.length co61] 24 (0, 0)) kb_ hb); replace HB := m_ (below_step bz_ hb); (try clear hb); (try clear hb2); (try clear hk); (try clear hi); obtain ⟨Ao64, co64, eo64⟩ := Kd.V_slice HO462.out; subst eo64; obtain ⟨Ao65, co65, eo65⟩ := Kd.V_slice HO465.out; subst eo65))
            go_ret
            exact ⟨ew_, bz_⟩
           ·rw [if_neg c52] at H
            have c52b0 : ((t460.length : Int) == 0) = false := beq_eq_false_iff_ne.mpr c52
            have c52b1 : ((t460.length : Int) != 0) = true := bne_iff_ne.mpr c52
            have c52b2 : ¬ (t460 = []) := fun h_ => c52 (by rw [h_]; rfl)
            exact absurd ((Option.some.inj H).trans hTrue.out) (by simp)
          ·replace c51 := Bool.eq_false_iff.mpr c51
           subst c51
           have H1 : (some false) = some r := by rw [if_neg (show ¬ (false = true) by decide)] at H; exact H
           clear H
           have H := H1
           clear H1
           exact absurd ((Option.some.inj H).trans hTrue.out) (by simp)
         ·replace c49 := Bool.eq_false_iff.mpr c49
          subst c49
          have H1 : (some false) = some r := by rw [if_neg (show ¬ (false = true) by decide)] at H; exact H
          clear H
          have H := H1
          clear H1
          exact absurd ((Option.some.inj H).trans hTrue.out) (by simp)
end Go.Proofs.Ytfomnmdjbdohgaa.P

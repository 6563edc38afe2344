/- For each Go function a Lean function, and the proof that a call comes to what it tells: made by program out of the translation (the kit's print, with texts by hand put in). No condition. -/
import Derived.Test.YtboonfidioombaaSq
import Derived.Test.YtboonfidioombaaPx0
import Derived.Test.YtboonfidioombaaPx9
import Derived.Test.YtboonfidioombaaPx13
import Derived.Test.YtboonfidioombaaPx14
import Derived.Test.YtboonfidioombaaPx17
import Derived.Test.YtboonfidioombaaPx19
import Derived.Test.YtboonfidioombaaPx25
namespace Go.Proofs.Ytboonfidioombaa.P
open Go.RowKit Go.Proofs.Ytboonfidioombaa.HRows Go.Proofs.YtboonfidioombaaW.PrintWords Go.Proofs.YtboonfidioombaaW.PrintLast Go.Proofs.YtboonfidioombaaW.PrintMore
attribute [local go_sem] max2_int min2_int max_two min_two max_three min_three max_four min_four
set_option linter.unusedVariables false
set_option linter.unusedSimpArgs false
/-- The law, along the ways that end in true. -/
def stolonlaw16_OfmsgBack.f (k : Nat) (a0_0 : Int) (a0_1 : Int) (a0_2 : Int) (a0_3 : Int) (a0_4 : Int) (a0_5 : Int) (a0_6 : Int) (l0_7 : List (S59)) (a0_8 : Int) (a0_9 : Bool) (l0_10 : List Int) (l1 : List Int) : Option (Bool) :=
  (stolonlaw16_shown.f k).bind fun up => if up = true then (if (wrap64 ((wrap64 ((l0_10.length : Int) + (l0_7.length : Int))) + (l1.length : Int))) > 3000 then some true else
    (ofmsg_Decode.f k l1).bind fun ⟨q1, q2, q3, q4, q5, q6, q7, q8, q9, q10, q11, q12⟩ => (if q12 = 0 then ((ofmsg_Encode.f k q1 q2 q3 q4 q5 q6 q7 q8 q9 q10 q11).bind fun ei => if ei.2 = 0 then stolonref01_Same.f k ei.1 l1 else none) else some true).bind fun s => if s = true then
    ((ofmsg_Encode.f k a0_0 a0_1 a0_2 a0_3 a0_4 a0_5 a0_6 l0_7 a0_8 a0_9 l0_10).bind fun be => if be.2 = 0 then ((ofmsg_Decode.f k be.1).bind fun ⟨n1, n2, n3, n4, n5, n6, n7, n8, n9, n10, n11, n12⟩ => if (7 : Int) ≤ (be.1.length : Int) then (if 0 ≤ wrap64 ((be.1.length : Int) - 1) ∧ wrap64 ((be.1.length : Int) - 1) ≤ (be.1.length : Int) then ((ofmsg_Decode.f k (be.1.take (wrap64 ((be.1.length : Int) - 1)).toNat)).bind fun ⟨g1, g2, g3, g4, g5, g6, g7, g8, g9, g10, g11, g12⟩ => if n12 = 0 then (if g12 = 3 then ((stolonref16_Same.f k n1 n2 n3 n4 n5 n6 n7 n8 n9 n10 n11 a0_0 a0_1 a0_2 a0_3 a0_4 a0_5 a0_6 l0_7 a0_8 a0_9 l0_10).bind fun s2 => if s2 = true then some true else none) else none) else none) else none) else none)
      else if (be.1.length : Int) = 0 then ((ofmsg_Right.f k a0_0 a0_1 a0_2 a0_3 a0_4 a0_5 a0_6 l0_7 a0_8 a0_9 l0_10).bind fun rt => if rt = true then none else some true) else none) else none) else none
set_option maxHeartbeats 8000000 in
set_option maxRecDepth 100000 in
theorem stolonlaw16_OfmsgBack.calls (k : Nat) (a0_0 : Int) (a0_1 : Int) (a0_2 : Int) (a0_3 : Int) (a0_4 : Int) (a0_5 : Int) (a0_6 : Int) (A0_7 : Option Addr) (c0_7 : Nat) (l0_7 : List (S59)) (a0_8 : Int) (a0_9 : Bool) (A0_10 : Option Addr) (c0_10 : Nat) (l0_10 : List Int) (A1 : Option Addr) (c1 : Nat) (l1 : List Int) (r : Bool) (w : World) (hr0_7 : Kd.C k59 w A0_7 l0_7.length l0_7) (hc0_7 : l0_7.length ≤ c0_7) (hr0_10 : Kd.C (Kd.int .u8) w A0_10 l0_10.length l0_10) (hc0_10 : l0_10.length ≤ c0_10) (hr1 : Kd.C (Kd.int .u8) w A1 l1.length l1) (hc1 : l1.length ≤ c1) (hTrue : Aside0 (r = true)) (h : stolonlaw16_OfmsgBack.f k a0_0 a0_1 a0_2 a0_3 a0_4 a0_5 a0_6 l0_7 a0_8 a0_9 l0_10 l1 = some r) :
  Calls Try.prog 5 #[.agg #[.int .u8 a0_0, .int .u32 a0_1, .int .u32 a0_2, .int .u32 a0_3, .int .u32 a0_4, .int .i64 a0_5, .int .u32 a0_6, .slice A0_7 l0_7.length c0_7, .int .i64 a0_8, .bool a0_9, .slice A0_10 l0_10.length c0_10], .slice A1 l1.length c1] w fun e w' => e = .returned (.bool r) ∧ Below w.heap.size w w' := by
 have hu29 := Try.underlying29
 have hu26 := Try.underlying26
 have HR0_7 := m_ hr0_7
 have HC0_7 := m_ hc0_7
 have HR0_10 := m_ hr0_10
 have HC0_10 := m_ hc0_10
 have HR1 := m_ hr1
 have HC1 := m_ hc1
 clear hr0_7 hc0_7 hr0_10 hc0_10 hr1 hc1
 have HB := m_ (Below.refl w.heap.size w)
 unfold stolonlaw16_OfmsgBack.f at h
 obtain ⟨up, A1_, h1⟩ := Option.bind_eq_some_iff.mp h
 clear h
 have h := h1
 clear h1
 dsimp only at h
 by_cases hup : up = true
 case neg => rw [if_neg hup] at h; cases h
 rw [if_pos hup] at h
 subst hup
 have AS := m_ A1_
 clear A1_
 by_cases c3 : (wrap64 ((wrap64 ((l0_10.length : Int) + (l0_7.length : Int))) + (l1.length : Int))) > 3000
 ·rw [if_pos c3] at h
  have c3b : decide (3000 < (wrap64 ((wrap64 ((l0_10.length : Int) + (l0_7.length : Int))) + (l1.length : Int)))) = true := decide_eq_true c3
  clear c3
  obtain rfl := Option.some.inj h
  go_enter Try.func5, Try.ntmps5
  go_wp2_with (first | ((with_reducible refine gate_dst (N := 2) rfl ?_); refine bx_ 2 29 #[.int .u8 a0_0, .int .u32 a0_1, .int .u32 a0_2, .int .u32 a0_3, .int .u32 a0_4, .int .i64 a0_5, .int .u32 a0_6, .slice A0_7 l0_7.length c0_7, .int .i64 a0_8, .bool a0_9, .slice A0_10 l0_10.length c0_10] ?_; intro gm hg w14 hbox hb; have Bgm := m_ (hbox); have Ggm := m_ ((gw_ : w.heap.size ≤ gm)); replace HB := m_ (below_step bz_ hb); clear hb hbox hg) | ((with_reducible refine gate_callee (f := 11) rfl ?_); refine gL_ (some 16) Try.func11 #[] ?_; (with_reducible refine (stolonlaw16_shown.calls k true _ AS.out).mono ?_); rintro e w16 ⟨rfl, hb⟩; refine ⟨_, rfl, ?_⟩; replace Bgm := m_ (kl_ gm hb); replace HB := m_ (below_step bz_ hb); (try clear hb); have hcz := cz11_ Bgm.out))
  go_ret
  exact ⟨ew_, bz_⟩
 rw [if_neg c3] at h
 have c3b : decide (3000 < (wrap64 ((wrap64 ((l0_10.length : Int) + (l0_7.length : Int))) + (l1.length : Int)))) = false := decide_eq_false c3
 clear c3
 obtain ⟨⟨q1, q2, q3, q4, q5, q6, q7, q8, q9, q10, q11, q12⟩, AD_, h1⟩ := Option.bind_eq_some_iff.mp h
 dsimp only at h1
 have AD := m_ AD_
 clear AD_ h
 obtain ⟨s, hs, h⟩ := Option.bind_eq_some_iff.mp h1
 clear h1
 by_cases hs1 : s = true
 case neg => rw [if_neg hs1] at h; cases h
 rw [if_pos hs1] at h
 subst hs1
 have HS := m_ hs
 have HH := m_ h
 clear hs h
 go_enter Try.func5, Try.ntmps5
 go_wp2_with (first | ((with_reducible refine gate_dst (N := 2) rfl ?_); refine bx_ 2 29 #[.int .u8 a0_0, .int .u32 a0_1, .int .u32 a0_2, .int .u32 a0_3, .int .u32 a0_4, .int .i64 a0_5, .int .u32 a0_6, .slice A0_7 l0_7.length c0_7, .int .i64 a0_8, .bool a0_9, .slice A0_10 l0_10.length c0_10] ?_; intro gm hg w14 hbox hb; have Bgm := m_ (hbox); have Ggm := m_ ((gw_ : w.heap.size ≤ gm)); replace HB := m_ (below_step bz_ hb); clear hb hbox hg) | ((with_reducible refine gate_callee (f := 11) rfl ?_); refine gL_ (some 16) Try.func11 #[] ?_; (with_reducible refine (stolonlaw16_shown.calls k true _ AS.out).mono ?_); rintro e w16 ⟨rfl, hb⟩; refine ⟨_, rfl, ?_⟩; replace Bgm := m_ (kl_ gm hb); replace HB := m_ (below_step bz_ hb); (try clear hb); have hcz := cz11_ Bgm.out) | ((with_reducible refine gate_callee (f := 19) rfl ?_); refine gL_ (some 32) Try.func19 #[.slice A1 l1.length c1] ?_; (with_reducible refine (ofmsg_Decode.calls k _ _ l1 q1 q2 q3 q4 q5 q6 q7 q8 q9 q10 q11 q12 _ ?side1 ?side2 AD.out).mono ?_); (case side1 => exact Cd_ (Kd.C_below HR1.out HB.out)); (case side2 => exact HC1.out); rintro e w20 ⟨v7, v10, rfl, ho7, ho10, hb⟩; refine ⟨_, rfl, ?_⟩; have HOk7 := m_ (Kd.R_lower ho7 (below_size bz_)); have HOk10 := m_ (Kd.R_lower ho10 (below_size bz_)); replace Bgm := m_ (kl_ gm hb); replace HB := m_ (below_step bz_ hb); (try clear hb); (try clear hcz); clear ho7 ho10; obtain ⟨Ak7, ck7, ek7⟩ := Kd.R_slice HOk7.out; subst ek7; obtain ⟨Ak10, ck10, ek10⟩ := Kd.R_slice HOk10.out; subst ek10) | ((with_reducible refine gate_dst (N := 6) rfl ?_); refine bx_ 6 29 #[.int .u8 0, .int .u32 0, .int .u32 0, .int .u32 0, .int .u32 0, .int .i64 0, .int .u32 0, .slice none 0 0, .int .i64 0, .bool false, .slice none 0 0] ?_; intro gk hg w21 hbox hb; have Bgk := m_ (hbox); have Ggk := m_ ((gw_ : w.heap.size ≤ gk)); have GE := m_ (Nat.le_of_eq hg.symm); have Ngm_gk := m_ (show gm ≠ gk from by rw [hg]; exact Nat.ne_of_lt (blk_lt Bgm.out)); replace Bgm := m_ (kl_ gm hb); have HE := m_ hb; replace HB := m_ (below_step bz_ hb); clear hb hbox hg; refine Stop0.out ?_))
 refine ⟨?_⟩
 refine blk_write (cs' := #[.int .u8 q1, .int .u32 q2, .int .u32 q3, .int .u32 q4, .int .u32 q5, .int .i64 q6, .int .u32 q7, .slice Ak7 q8.length ck7, .int .i64 q9, .bool q10, .slice Ak10 q11.length ck10]) rfl rfl rfl (#[.int .u8 q1, .int .u32 q2, .int .u32 q3, .int .u32 q4, .int .u32 q5, .int .i64 q6, .int .u32 q7, .slice Ak7 q8.length ck7, .int .i64 q9, .bool q10, .slice Ak10 q11.length ck10]).toList rfl rfl rfl rfl (by simp [Value.oneCell']) Bgk.out (by simp) rfl ?_
 intro w22 bk on
 replace HOk7 := m_ (Kd.R_below HOk7.out (on.below HE.out GE.out))
 replace HOk10 := m_ (Kd.R_below HOk10.out (on.below HE.out GE.out))
 replace Bgm := m_ (on.blk Ngm_gk.out Bgm.out)
 replace Bgk := m_ bk
 replace HB := m_ (on.below HB.out Ggk.out)
 clear bk on HE GE Ngm_gk AS AD
 go_upto_if 36 with (fail)
 (try simp only [Act.put, List.setIfInBounds_toArray, List.set_cons_zero, List.set_cons_succ])
 go_cut [] (fun wc => Aside0 (wc.heap[gm]? = some (.cells #[.int .u8 a0_0, .int .u32 a0_1, .int .u32 a0_2, .int .u32 a0_3, .int .u32 a0_4, .int .i64 a0_5, .int .u32 a0_6, .slice A0_7 l0_7.length c0_7, .int .i64 a0_8, .bool a0_9, .slice A0_10 l0_10.length c0_10] 29 (0, 0))) ∧ Aside0 (Below w.heap.size w wc))
 case first =>
  have h := HS.out
  clear HS HH
  by_cases c5 : q12 = 0
  ·rw [if_pos c5] at h
   have c5b : (q12 == 0) = true := beq_iff_eq.mpr c5
   clear c5
   obtain ⟨⟨ag, i⟩, AE_, h1⟩ := Option.bind_eq_some_iff.mp h
   clear h
   dsimp only at h1
   by_cases c6 : i = 0
   case neg => rw [if_neg c6] at h1; cases h1
   rw [if_pos c6] at h1
   subst c6
   have AE := m_ AE_
   have AT := m_ h1
   clear AE_ h1
   have hcz := cz11_ Bgk.out
   go_wp2_with (first | ((with_reducible refine gate_callee (f := 12) rfl ?_); refine gL_ (some 39) Try.func12 #[.agg #[.int .u8 q1, .int .u32 q2, .int .u32 q3, .int .u32 q4, .int .u32 q5, .int .i64 q6, .int .u32 q7, .slice Ak7 q8.length ck7, .int .i64 q9, .bool q10, .slice Ak10 q11.length ck10]] ?_; (with_reducible refine (ofmsg_Encode.calls k q1 q2 q3 q4 q5 q6 q7 _ _ q8 q9 q10 _ _ q11 ag 0 _ ?side1 ?side2 ?side3 ?side4 AE.out).mono ?_); (case side1 => exact Cd_ (Kd.R_reads' HOk7.out).2.2); (case side2 => exact (Kd.R_reads' HOk7.out).2.1); (case side3 => exact Cd_ (Kd.R_reads' HOk10.out).2.2); (case side4 => exact (Kd.R_reads' HOk10.out).2.1); rintro e w24 ⟨v0, rfl, ho0, hb⟩; refine ⟨_, rfl, ?_⟩; have HOag := m_ (Kd.R_lower ho0 (below_size bz_)); replace Bgm := m_ (kl_ gm hb); replace HB := m_ (below_step bz_ hb); (try clear hb); (try clear hcz); clear ho0; obtain ⟨Aag, cag, ek7⟩ := Kd.R_slice HOag.out; subst ek7) | (go_at_call 16; (with_reducible refine (stolonref01_Same.calls k _ _ ag _ _ l1 true _ ?side1 ?side2 ?side3 ?side4 AT.out).mono ?_); (case side1 => exact Cd_ (Kd.R_reads' HOag.out).2.2); (case side2 => exact (Kd.R_reads' HOag.out).2.1); (case side3 => exact Cd_ (Kd.C_below HR1.out HB.out)); (case side4 => exact HC1.out); rintro e w25 ⟨rfl, ⟨nd, rfl⟩⟩; replace Bgm := m_ (blk_drewN Bgm.out nd); replace HB := m_ (pw_below_drewN HB.out nd)))
   go_meet
   case rel => exact ⟨Bgm, HB⟩
  ·have c5b : (q12 == 0) = false := beq_eq_false_iff_ne.mpr c5
   clear c5
   go_wp2
   go_meet
   case rel => exact ⟨Bgm, HB⟩
 case rest =>
  obtain ⟨Bgm, HB⟩ := hcut
  clear HOk7 HOk10 Bgk HS
  have h := HH.out
  clear HH
  obtain ⟨⟨b, e⟩, AB_, h1⟩ := Option.bind_eq_some_iff.mp h
  clear h
  have h := h1
  clear h1
  try dsimp only at h
  have AB := m_ AB_
  clear AB_
  have hcz := cz11_ Bgm.out
  by_cases c7 : e = 0
  ·rw [if_pos c7] at h
   subst c7
   obtain ⟨⟨n1, n2, n3, n4, n5, n6, n7, n8, n9, n10, n11, n12⟩, AN_, h1⟩ := Option.bind_eq_some_iff.mp h
   clear h
   have h := h1
   clear h1
   try dsimp only at h
   have AN := m_ AN_
   clear AN_
   by_cases c8 : (7 : Int) ≤ (b.length : Int)
   case neg => rw [if_neg c8] at h; cases h
   rw [if_pos c8] at h
   by_cases c9 : 0 ≤ wrap64 ((b.length : Int) - 1) ∧ wrap64 ((b.length : Int) - 1) ≤ (b.length : Int)
   case neg => rw [if_neg c9] at h; cases h
   rw [if_pos c9] at h
   obtain ⟨⟨g1, g2, g3, g4, g5, g6, g7, g8, g9, g10, g11, g12⟩, AG_, h1⟩ := Option.bind_eq_some_iff.mp h
   clear h
   have h := h1
   clear h1
   try dsimp only at h
   have AG := m_ AG_
   clear AG_
   by_cases c10 : n12 = 0
   case neg => rw [if_neg c10] at h; cases h
   rw [if_pos c10] at h
   by_cases c11 : g12 = 3
   case neg => rw [if_neg c11] at h; cases h
   rw [if_pos c11] at h
   subst c10 c11
   obtain ⟨s2, AU_, h1⟩ := Option.bind_eq_some_iff.mp h
   clear h
   have h := h1
   clear h1
   try dsimp only at h
   have AU := m_ AU_
   clear AU_
   by_cases c12 : s2 = true
   case neg => rw [if_neg c12] at h; cases h
   rw [if_pos c12] at h
   subst c12
   obtain rfl := Option.some.inj h
   clear h
   have c8b : decide ((b.length : Int) < 7) = false := decide_eq_false (Int.not_lt.2 c8)
   obtain ⟨m, hm⟩ : ∃ m, wrap64 ((b.length : Int) - 1) = m := ⟨_, rfl⟩
   rw [hm] at c9 AG
   obtain ⟨cm0, cm1⟩ := c9
   have cm0b := eq_true cm0
   have cm1b := eq_true cm1
   have C0 := m_ cm0
   have C1 := m_ cm1
   clear c8 cm0 cm1
   go_wp2_with (first | ((with_reducible refine gate_callee (f := 12) rfl ?_); refine gL_ (some 52) Try.func12 #[.agg #[.int .u8 a0_0, .int .u32 a0_1, .int .u32 a0_2, .int .u32 a0_3, .int .u32 a0_4, .int .i64 a0_5, .int .u32 a0_6, .slice A0_7 l0_7.length c0_7, .int .i64 a0_8, .bool a0_9, .slice A0_10 l0_10.length c0_10]] ?_; (with_reducible refine (ofmsg_Encode.calls k a0_0 a0_1 a0_2 a0_3 a0_4 a0_5 a0_6 _ _ l0_7 a0_8 a0_9 _ _ l0_10 b 0 _ ?side1 ?side2 ?side3 ?side4 AB.out).mono ?_); (case side1 => exact Cd_ (Kd.C_below HR0_7.out HB.out)); (case side2 => exact HC0_7.out); (case side3 => exact Cd_ (Kd.C_below HR0_10.out HB.out)); (case side4 => exact HC0_10.out); rintro e w30 ⟨v0, rfl, ho0, hb⟩; refine ⟨_, rfl, ?_⟩; have HOb := m_ (Kd.R_lower ho0 (below_size bz_)); replace Bgm := m_ (kl_ gm hb); replace HB := m_ (below_step bz_ hb); (try clear hb); (try clear hcz); clear ho0; obtain ⟨Ab, cb, ek7⟩ := Kd.R_slice HOb.out; subst ek7) | ((with_reducible refine gate_callee (f := 19) rfl ?_); refine gL_ (some 70) Try.func19 #[.slice Ab b.length cb] ?_; (with_reducible refine (ofmsg_Decode.calls k _ _ b n1 n2 n3 n4 n5 n6 n7 n8 n9 n10 n11 0 _ ?side1 ?side2 AN.out).mono ?_); (case side1 => exact Cd_ (Kd.R_reads' HOb.out).2.2); (case side2 => exact (Kd.R_reads' HOb.out).2.1); rintro e w31 ⟨v7, v10, rfl, ho7, ho10, hb⟩; refine ⟨_, rfl, ?_⟩; have HOn7 := m_ (Kd.R_lower ho7 (below_size bz_)); have HOn10 := m_ (Kd.R_lower ho10 (below_size bz_)); replace Bgm := m_ (kl_ gm hb); replace HOb := m_ (Kd.R_below (Rz_ HOb.out) hb); replace HB := m_ (below_step bz_ hb); (try clear hb); (try clear hcz); clear ho7 ho10; obtain ⟨An7, cn7, ek7⟩ := Kd.R_slice HOn7.out; subst ek7; obtain ⟨An10, cn10, ek10⟩ := Kd.R_slice HOn10.out; subst ek10) | ((with_reducible refine gate_dst (N := 12) rfl ?_); refine bx_ 12 29 #[.int .u8 0, .int .u32 0, .int .u32 0, .int .u32 0, .int .u32 0, .int .i64 0, .int .u32 0, .slice none 0 0, .int .i64 0, .bool false, .slice none 0 0] ?_; intro gn hg w33 hbox hb; have Bgn := m_ (hbox); have Ggn := m_ ((gw_ : w.heap.size ≤ gn)); have GE := m_ (Nat.le_of_eq hg.symm); have Ngm_gn := m_ (show gm ≠ gn from by rw [hg]; exact Nat.ne_of_lt (blk_lt Bgm.out)); replace Bgm := m_ (kl_ gm hb); have HE := m_ hb; replace HB := m_ (below_step bz_ hb); clear hb hbox hg; refine Stop0.out ?_))
   refine ⟨?_⟩
   refine blk_write (cs' := #[.int .u8 n1, .int .u32 n2, .int .u32 n3, .int .u32 n4, .int .u32 n5, .int .i64 n6, .int .u32 n7, .slice An7 n8.length cn7, .int .i64 n9, .bool n10, .slice An10 n11.length cn10]) rfl rfl rfl (#[.int .u8 n1, .int .u32 n2, .int .u32 n3, .int .u32 n4, .int .u32 n5, .int .i64 n6, .int .u32 n7, .slice An7 n8.length cn7, .int .i64 n9, .bool n10, .slice An10 n11.length cn10]).toList rfl rfl rfl rfl (by simp [Value.oneCell']) Bgn.out (by simp) rfl ?_
   intro w34 bk on
   replace HOb := m_ (Kd.R_below HOb.out (on.below HE.out GE.out))
   replace HOn7 := m_ (Kd.R_below HOn7.out (on.below HE.out GE.out))
   replace HOn10 := m_ (Kd.R_below HOn10.out (on.below HE.out GE.out))
   replace Bgm := m_ (on.blk Ngm_gn.out Bgm.out)
   replace Bgn := m_ bk
   replace HB := m_ (on.below HB.out Ggn.out)
   clear bk on HE GE Ngm_gn
   have q0 : 0 ≤ m := C0.out
   have q1 : m ≤ (cb : Int) := Int.le_trans C1.out (Int.ofNat_le.2 (Kd.R_reads' HOb.out).2.1)
   have q2 : ¬ ((cb : Int) < m) := Int.not_lt.2 q1
   have q3 : ¬ (m < 0) := Int.not_lt.2 q0
   have q4 := eq_true q1
   go_wp2_with (go_at_call 19; refine Stop0.out ?_)
   refine ⟨?_⟩
   have hl : (b.take m.toNat).length = m.toNat := by rw [List.length_take]; have := C1.out; omega
   rw [show (Value.slice Ab m.toNat cb) = .slice Ab (b.take m.toNat).length cb from by rw [hl]]
   (with_reducible refine (ofmsg_Decode.calls k _ _ (b.take m.toNat) g1 g2 g3 g4 g5 g6 g7 g8 g9 g10 g11 3 _ ?side1 ?side2 AG.out).mono ?_)
   (case side1 => exact Cd_ (Kd.C_take (m := m.toNat) (Kd.R_reads' HOb.out).2.2 (by have := C1.out; omega)))
   (case side2 => rw [hl]; omega)
   rintro e w35 ⟨v7, v10, rfl, ho7, ho10, hb⟩
   have HOg7 := m_ (Kd.R_lower ho7 (below_size bz_))
   have HOg10 := m_ (Kd.R_lower ho10 (below_size bz_))
   replace HOn7 := m_ (Kd.R_below (Rz_ HOn7.out) hb)
   replace HOn10 := m_ (Kd.R_below (Rz_ HOn10.out) hb)
   replace Bgm := m_ (kl_ gm hb)
   replace Bgn := m_ (kl_ gn hb)
   replace HB := m_ (below_step bz_ hb)
   clear hb ho7 ho10 q0 q1 q2 q3 q4 hl hm cm0b cm1b AG C0 C1 HOb
   obtain ⟨Ag7, cg7, ek7⟩ := Kd.R_slice HOg7.out
   subst ek7
   obtain ⟨Ag10, cg10, ek10⟩ := Kd.R_slice HOg10.out
   subst ek10
   go_wp2_with (first | ((with_reducible refine gate_dst (N := 14) rfl ?_); refine bx_ 14 29 #[.int .u8 0, .int .u32 0, .int .u32 0, .int .u32 0, .int .u32 0, .int .i64 0, .int .u32 0, .slice none 0 0, .int .i64 0, .bool false, .slice none 0 0] ?_; intro gg hg w36 hbox hb; have Bgg := m_ (hbox); have Ggg := m_ ((gw_ : w.heap.size ≤ gg)); have GE := m_ (Nat.le_of_eq hg.symm); have Ngm_gg := m_ (show gm ≠ gg from by rw [hg]; exact Nat.ne_of_lt (blk_lt Bgm.out)); replace Bgm := m_ (kl_ gm hb); have Ngn_gg := m_ (show gn ≠ gg from by rw [hg]; exact Nat.ne_of_lt (blk_lt Bgn.out)); replace Bgn := m_ (kl_ gn hb); have HE := m_ hb; replace HB := m_ (below_step bz_ hb); clear hb hbox hg; refine Stop0.out ?_))
   refine ⟨?_⟩
   refine blk_write (cs' := #[.int .u8 g1, .int .u32 g2, .int .u32 g3, .int .u32 g4, .int .u32 g5, .int .i64 g6, .int .u32 g7, .slice Ag7 g8.length cg7, .int .i64 g9, .bool g10, .slice Ag10 g11.length cg10]) rfl rfl rfl (#[.int .u8 g1, .int .u32 g2, .int .u32 g3, .int .u32 g4, .int .u32 g5, .int .i64 g6, .int .u32 g7, .slice Ag7 g8.length cg7, .int .i64 g9, .bool g10, .slice Ag10 g11.length cg10]).toList rfl rfl rfl rfl (by simp [Value.oneCell']) Bgg.out (by simp) rfl ?_
   intro w37 bk on
   replace HOn7 := m_ (Kd.R_below HOn7.out (on.below HE.out GE.out))
   replace HOn10 := m_ (Kd.R_below HOn10.out (on.below HE.out GE.out))
   replace Bgm := m_ (on.blk Ngm_gg.out Bgm.out)
   replace Bgn := m_ (on.blk Ngn_gg.out Bgn.out)
   replace Bgg := m_ bk
   replace HB := m_ (on.below HB.out Ggg.out)
   clear bk on HE GE Ngm_gg Ngn_gg
   have hcz := cz11_ Bgm.out
   have hcz2 := cz11_ Bgn.out
   go_wp2_with (go_at_call 18; (with_reducible refine (stolonref16_Same.calls k n1 n2 n3 n4 n5 n6 n7 _ _ n8 n9 n10 _ _ n11 a0_0 a0_1 a0_2 a0_3 a0_4 a0_5 a0_6 _ _ l0_7 a0_8 a0_9 _ _ l0_10 true _ ?side1 ?side2 ?side3 ?side4 ?side5 ?side6 ?side7 ?side8 AU.out).mono ?_); (case side1 => exact Cd_ (Kd.R_reads' HOn7.out).2.2); (case side2 => exact (Kd.R_reads' HOn7.out).2.1); (case side3 => exact Cd_ (Kd.R_reads' HOn10.out).2.2); (case side4 => exact (Kd.R_reads' HOn10.out).2.1); (case side5 => exact Cd_ (Kd.C_below HR0_7.out HB.out)); (case side6 => exact HC0_7.out); (case side7 => exact Cd_ (Kd.C_below HR0_10.out HB.out)); (case side8 => exact HC0_10.out); rintro e w38 ⟨rfl, hb⟩; replace HB := m_ (below_step bz_ hb); (try clear hb); clear hcz hcz2)
   go_ret
   exact ⟨ew_, bz_⟩
  ·rw [if_neg c7] at h
   by_cases c8 : (b.length : Int) = 0
   case neg => rw [if_neg c8] at h; cases h
   rw [if_pos c8] at h
   obtain ⟨rt, AR_, h1⟩ := Option.bind_eq_some_iff.mp h
   clear h
   have h := h1
   clear h1
   try dsimp only at h
   have AR := m_ AR_
   clear AR_
   by_cases c9 : rt = true
   ·rw [if_pos c9] at h
    cases h
   rw [if_neg c9] at h
   replace c9 := Bool.eq_false_iff.mpr c9
   subst c9
   obtain rfl := Option.some.inj h
   clear h
   have c7b : (e == 0) = false := beq_eq_false_iff_ne.mpr c7
   have c7c : (e != 0) = true := bne_iff_ne.mpr c7
   have c8b : ((b.length : Int) == 0) = true := beq_iff_eq.mpr c8
   clear c7 c8
   go_wp2_with (first | ((with_reducible refine gate_callee (f := 12) rfl ?_); refine gL_ (some 52) Try.func12 #[.agg #[.int .u8 a0_0, .int .u32 a0_1, .int .u32 a0_2, .int .u32 a0_3, .int .u32 a0_4, .int .i64 a0_5, .int .u32 a0_6, .slice A0_7 l0_7.length c0_7, .int .i64 a0_8, .bool a0_9, .slice A0_10 l0_10.length c0_10]] ?_; (with_reducible refine (ofmsg_Encode.calls k a0_0 a0_1 a0_2 a0_3 a0_4 a0_5 a0_6 _ _ l0_7 a0_8 a0_9 _ _ l0_10 b e _ ?side1 ?side2 ?side3 ?side4 AB.out).mono ?_); (case side1 => exact Cd_ (Kd.C_below HR0_7.out HB.out)); (case side2 => exact HC0_7.out); (case side3 => exact Cd_ (Kd.C_below HR0_10.out HB.out)); (case side4 => exact HC0_10.out); rintro e w30 ⟨v0, rfl, ho0, hb⟩; refine ⟨_, rfl, ?_⟩; have HOb := m_ (Kd.R_lower ho0 (below_size bz_)); replace Bgm := m_ (kl_ gm hb); have hcz2 := cz11_ Bgm.out; replace HB := m_ (below_step bz_ hb); (try clear hb); (try clear hcz); clear ho0; obtain ⟨Ab, cb, ek7⟩ := Kd.R_slice HOb.out; subst ek7) | (go_at_call 14; (with_reducible refine (ofmsg_Right.calls k a0_0 a0_1 a0_2 a0_3 a0_4 a0_5 a0_6 _ _ l0_7 a0_8 a0_9 _ _ l0_10 false _ ?side1 ?side2 ?side3 ?side4 AR.out).mono ?_); (case side1 => exact Cd_ (Kd.C_below HR0_7.out HB.out)); (case side2 => exact HC0_7.out); (case side3 => exact Cd_ (Kd.C_below HR0_10.out HB.out)); (case side4 => exact HC0_10.out); rintro e w38 ⟨rfl, hb⟩; replace HB := m_ (below_step bz_ hb); (try clear hb); clear hcz2))
   go_ret
   exact ⟨ew_, bz_⟩
end Go.Proofs.Ytboonfidioombaa.P

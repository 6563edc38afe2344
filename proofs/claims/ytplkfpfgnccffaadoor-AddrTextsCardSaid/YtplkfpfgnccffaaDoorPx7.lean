/- For each Go function a Lean function, and the proof that a call comes to what it tells: made by program out of the translation (the kit's print, with texts by hand put in). No condition. -/
import Derived.Test.YtplkfpfgnccffaaDoorSq
import Derived.Test.YtplkfpfgnccffaaDoorPx0
import Derived.Test.YtplkfpfgnccffaaDoorPx1
namespace Go.Proofs.YtplkfpfgnccffaaDoor.P
open Go.RowKit Go.Proofs.YtplkfpfgnccffaaDoor.HRows Go.Proofs.YtplkfpfgnccffaaDoorW.PrintWords Go.Proofs.YtplkfpfgnccffaaDoorW.PrintLast Go.Proofs.YtplkfpfgnccffaaDoorW.PrintMore
attribute [local go_sem] max2_int min2_int max_two min_two max_three min_three max_four min_four   -- for this text's walks alone
set_option linter.unusedVariables false
set_option linter.unusedSimpArgs false

/-! ### stolonlaw01_AddrTexts: function 5 -/
def stolonlaw01_AddrTexts.l0 : Nat → ByteArray → Bool → ByteArray → Int → Int → Option (Bool)
 | 0, _, _, _, _, _ => none
 | k + 1, x7, x8, x9, x10, x11 => if x11 < (x9.size : Int) then (if 0 ≤ x11 then (if (bt x9 x11) = 46 then (stolonlaw01_AddrTexts.l0 k x7 x8 x9 (wrap64 (x10 + 1)) (wrap64 (x11 + 1))) else (if (bt x9 x11) < 48 then (some false) else (if (bt x9 x11) > 57 then (some false) else (stolonlaw01_AddrTexts.l0 k x7 x8 x9 x10 (wrap64 (x11 + 1)))))) else (none)) else (if x9.size + x7.size ≤ 9223372036854775807 then ((addr_Parse.f k (x9 ++ x7)).bind fun bt175 => (if x7.size + x9.size ≤ 9223372036854775807 then ((addr_Parse.f k (x7 ++ x9)).bind fun bt177 => (if (x7.size : Int) > 0 then (if 0 < (x7.size : Int) then (if (bt x7 0) < 48 then (if x8 = true then (if x10 = 3 then (if (x9.size : Int) ≥ 7 then (if (x9.size : Int) ≤ 15 then (if bt175.2 = 2 then (some (bt177.2 == 2)) else (some false)) else (some false)) else (some false)) else (some false)) else (some false)) else (if x8 = true then (if x10 = 3 then (if (x9.size : Int) ≥ 7 then (if (x9.size : Int) ≤ 15 then (if ((bt x7 0) > 57) then (if bt175.2 = 2 then (some (bt177.2 == 2)) else (some false)) else (some true)) else (some false)) else (some false)) else (some false)) else (some false))) else (none)) else (if x8 = true then (if x10 = 3 then (if (x9.size : Int) ≥ 7 then (if (x9.size : Int) ≤ 15 then (if bt175.2 = 0 then (if bt177.2 = 0 then (some true) else (some false)) else (some false)) else (some false)) else (some false)) else (some false)) else (some false)))) else (none))) else (none))
def stolonlaw01_AddrTexts.f (k : Nat) (a0_0 : Int) (a0_1 : Int) (a0_2 : Int) (a0_3 : Int) (a0_4 : ByteArray) : Option (Bool) := (stolonlaw01_shown.f k).bind fun t173 => (if (a0_4.size : Int) > 50 then (some t173) else ((addr_Text.f ((((((((((a0_0) % 4294967296) * 16777216) % 4294967296) + ((((a0_1) % 4294967296) * 65536) % 4294967296)) % 4294967296) + ((((a0_2) % 4294967296) * 256) % 4294967296)) % 4294967296) + ((a0_3) % 4294967296)) % 4294967296)).bind fun t174 => (stolonlaw01_AddrTexts.l0 k a0_4 t173 t174 0 0)))
theorem stolonlaw01_AddrTexts.mono_l : ∀ k, (∀ y0 y1 y2 y3 y4, LeO (stolonlaw01_AddrTexts.l0 k y0 y1 y2 y3 y4) (stolonlaw01_AddrTexts.l0 (k + 1) y0 y1 y2 y3 y4))
 | 0 => fun _ _ _ _ _ r h => by simp [stolonlaw01_AddrTexts.l0] at h
 | k + 1 => by
  have ih0 := stolonlaw01_AddrTexts.mono_l k
  ·intro y0 y1 y2 y3 y4
   unfold stolonlaw01_AddrTexts.l0
   repeat' first
   | (with_reducible exact ih0 _ _ _ _ _)
   | (with_reducible exact addr_Parse.mono _ _)
   | (with_reducible exact stolonlaw01_shown.mono _)
   | (with_reducible exact LeO.refl _)
   | (with_reducible exact LeO.none _)
   | (with_reducible refine LeO.ite ?_ ?_)
   | (with_reducible refine LeO.bind ?_ (fun _ => ?_))
   | exact ih0 _ _ _ _ _
   | exact addr_Parse.mono _ _
   | exact stolonlaw01_shown.mono _
   | exact LeO.none _
   | refine LeO.ite ?_ ?_
   | refine LeO.bind ?_ (fun _ => ?_)
theorem stolonlaw01_AddrTexts.mono : ∀ a0 a1 a2 a3 a4 k, LeO (stolonlaw01_AddrTexts.f k a0 a1 a2 a3 a4) (stolonlaw01_AddrTexts.f (k + 1) a0 a1 a2 a3 a4) := by
 intro a0 a1 a2 a3 a4 k
 have ih0 := stolonlaw01_AddrTexts.mono_l k
 unfold stolonlaw01_AddrTexts.f
 repeat' first
   | (with_reducible exact ih0 _ _ _ _ _)
   | (with_reducible exact addr_Parse.mono _ _)
   | (with_reducible exact stolonlaw01_shown.mono _)
   | (with_reducible exact LeO.refl _)
   | (with_reducible exact LeO.none _)
   | (with_reducible refine LeO.ite ?_ ?_)
   | (with_reducible refine LeO.bind ?_ (fun _ => ?_))
   | exact ih0 _ _ _ _ _
   | exact addr_Parse.mono _ _
   | exact stolonlaw01_shown.mono _
   | exact LeO.none _
   | refine LeO.ite ?_ ?_
   | refine LeO.bind ?_ (fun _ => ?_)
set_option maxHeartbeats 8000000 in
set_option maxRecDepth 100000 in
theorem stolonlaw01_AddrTexts.calls (k : Nat) (a0_0 : Int) (a0_1 : Int) (a0_2 : Int) (a0_3 : Int) (a0_4 : ByteArray) (r : Bool) (w : World) (hTrue : Aside0 (r = true)) (hL : LaidW w) (h : stolonlaw01_AddrTexts.f k a0_0 a0_1 a0_2 a0_3 a0_4 = some r) :
  Calls Tryd.prog 5 #[.agg #[.int .u8 a0_0, .int .u8 a0_1, .int .u8 a0_2, .int .u8 a0_3, .string a0_4]] w fun e w' => e = .returned (.bool r) ∧ Below w.heap.size w w' := by
 have HLW := m_ hL
 clear hL
 have hu38 := Tryd.underlying38
 have HB := m_ (Below.refl w.heap.size w)
 have H : ((stolonlaw01_shown.f k).bind fun t173 => (if (a0_4.size : Int) > 50 then (some t173) else ((addr_Text.f ((((((((((a0_0) % 4294967296) * 16777216) % 4294967296) + ((((a0_1) % 4294967296) * 65536) % 4294967296)) % 4294967296) + ((((a0_2) % 4294967296) * 256) % 4294967296)) % 4294967296) + ((a0_3) % 4294967296)) % 4294967296)).bind fun t174 => (stolonlaw01_AddrTexts.l0 k a0_4 t173 t174 0 0)))) = some r := h
 clear h
 replace H := Option.bind_eq_some_iff.mp H
 obtain ⟨t173, A20, H⟩ := H
 replace H : (if (a0_4.size : Int) > 50 then (some t173) else ((addr_Text.f ((((((((((a0_0) % 4294967296) * 16777216) % 4294967296) + ((((a0_1) % 4294967296) * 65536) % 4294967296)) % 4294967296) + ((((a0_2) % 4294967296) * 256) % 4294967296)) % 4294967296) + ((a0_3) % 4294967296)) % 4294967296)).bind fun t174 => (stolonlaw01_AddrTexts.l0 k a0_4 t173 t174 0 0))) = some r := H
 have A2 := m_ A20
 clear A20
 by_cases c3 : (a0_4.size : Int) > 50
 ·rw [if_pos c3] at H
  have c3b0 : decide (50 < (a0_4.size : Int)) = true := decide_eq_true c3
  have c3b1 : decide (50 < a0_4.size) = true := decide_eq_true (by omega)
  clear c3
  obtain rfl := Option.some.inj H
  go_enter Tryd.func5, Tryd.ntmps5
  go_wp2_with (first | ((with_reducible refine gate_dst (N := 1) rfl ?_); (try (refine gate_guard (by rfl) ?_; dsimp only)); refine bx_ 1 38 #[.int .u8 a0_0, .int .u8 a0_1, .int .u8 a0_2, .int .u8 a0_3, .string a0_4] ?_; intro gb172 hg w4 hbox hb; have BK172 := m_ (hbox); have GW172 := m_ ((gw_ : w.heap.size ≤ gb172)); have GE172 := m_ ((gw_ : w.heap.size ≤ gb172)); replace HB := m_ (below_step bz_ hb); clear hb hbox hg; have hcz5 := cz5_ BK172.out) | ((with_reducible refine gate_callee (f := 9) rfl ?_); refine gL_ (some 27) Tryd.func9 #[] ?_; (with_reducible refine (stolonlaw01_shown.calls k  t173 _ (LaidW.below HLW.out bz_) A2.out).mono ?_); rintro e w6 ⟨rfl, hb⟩; refine ⟨_, rfl, ?_⟩; replace BK172 := m_ (kl_ gb172 hb); replace HB := m_ (below_step bz_ hb); (try clear hb); (try clear hb2); (try clear hk); (try clear hi)))
  go_ret
  exact ⟨ew_, bz_⟩
 ·rw [if_neg c3] at H
  have c3b0 : decide (50 < (a0_4.size : Int)) = false := decide_eq_false c3
  have c3b1 : decide (50 < a0_4.size) = false := decide_eq_false (by omega)
  clear c3
  replace H := Option.bind_eq_some_iff.mp H
  obtain ⟨t174, A70, H⟩ := H
  replace H : (stolonlaw01_AddrTexts.l0 k a0_4 t173 t174 0 0) = some r := H
  have A7 := m_ A70
  clear A70
  have H' := m_ H
  clear H
  go_enter Tryd.func5, Tryd.ntmps5
  go_wp2_with (first | ((with_reducible refine gate_dst (N := 1) rfl ?_); (try (refine gate_guard (by rfl) ?_; dsimp only)); refine bx_ 1 38 #[.int .u8 a0_0, .int .u8 a0_1, .int .u8 a0_2, .int .u8 a0_3, .string a0_4] ?_; intro gb172 hg w8 hbox hb; have BK172 := m_ (hbox); have GW172 := m_ ((gw_ : w.heap.size ≤ gb172)); have GE172 := m_ ((gw_ : w.heap.size ≤ gb172)); replace HB := m_ (below_step bz_ hb); clear hb hbox hg; have hcz9 := cz5_ BK172.out) | ((with_reducible refine gate_callee (f := 9) rfl ?_); refine gL_ (some 27) Tryd.func9 #[] ?_; (with_reducible refine (stolonlaw01_shown.calls k  t173 _ (LaidW.below HLW.out bz_) A2.out).mono ?_); rintro e w10 ⟨rfl, hb⟩; refine ⟨_, rfl, ?_⟩; replace BK172 := m_ (kl_ gb172 hb); replace HB := m_ (below_step bz_ hb); (try clear hb); (try clear hb2); (try clear hk); (try clear hi)) | ((with_reducible refine gate_callee (f := 14) rfl ?_); refine gL_ (some 46) Tryd.func14 #[.int .u32 _] ?_; (first | (with_reducible refine (addr_Text.calls ((((((((((a0_0) % 4294967296) * 16777216) % 4294967296) + ((((a0_1) % 4294967296) * 65536) % 4294967296)) % 4294967296) + ((((a0_2) % 4294967296) * 256) % 4294967296)) % 4294967296) + ((a0_3) % 4294967296)) % 4294967296) t174 _ (LaidW.below HLW.out bz_) A7.out).mono ?_) | (refine (addr_Text.calls _ t174 _ (LaidW.below HLW.out bz_) ?hh_).mono ?_; (case hh_ => exact (congrArg addr_Text.f (by omega)).trans A7.out))); rintro e w11 ⟨rfl, hb⟩; refine ⟨_, rfl, ?_⟩; replace BK172 := m_ (kl_ gb172 hb); replace HB := m_ (below_step bz_ hb); (try clear hb); (try clear hb2); (try clear hk); (try clear hi)))
  go_loopg [10, 11] k (fun kq v10 v11 w' => ∃ (x10_1 : Int) (x11_1 : Int), v10 = .int .i64 x10_1 ∧ v11 = .int .i64 x11_1 ∧ Aside0 (stolonlaw01_AddrTexts.l0 kq a0_4 t173 t174 x10_1 x11_1 = some r) ∧ Aside0 (kq ≤ k) ∧ Aside0 (w'.heap[gb172]? = some (.cells #[.int .u8 a0_0, .int .u8 a0_1, .int .u8 a0_2, .int .u8 a0_3, .string a0_4] 38 (0, 0))) ∧ Aside0 (Below w.heap.size w w'))
  case atStart => exact ⟨(0), (0), (by first | rfl | (simp; done) | (simp [*]; done)), (by first | rfl | (simp; done) | (simp [*]; done)), H', ⟨Nat.le_refl _⟩, ⟨kz_⟩, ⟨bz_⟩⟩
  case round =>
   clear H'
   try clear c1
   try clear p2
   try clear c3
   try clear c3b0
   try clear c3b1
   try clear c5
   try clear c9
   (try clear hcz5)
   (try clear hcz9)
   obtain ⟨x10_1, x11_1, rfl, rfl, HA, HK1, BK172, HB⟩ := hrel
   cases gk with
   | zero => exact absurd HA.out (by simp [stolonlaw01_AddrTexts.l0])
   | succ k1 =>
    have H := HA.out
    clear HA
    simp only [stolonlaw01_AddrTexts.l0] at H
    by_cases c12 : x11_1 < (t174.size : Int)
    ·rw [if_pos c12] at H
     have c12b0 : decide (x11_1 < (t174.size : Int)) = true := decide_eq_true c12
     clear c12
     by_cases c13 : 0 ≤ x11_1
     ·rw [if_pos c13] at H
      have c13b0 : decide (0 ≤ x11_1) = true := decide_eq_true c13
      clear c13
      by_cases c15 : (bt t174 x11_1) = 46
      ·rw [if_pos c15] at H
       have c15b0 : ((bt t174 x11_1) == 46) = true := beq_iff_eq.mpr c15
       have c15b1 : ((bt t174 x11_1) != 46) = false := bne_eq_false_iff_eq.mpr c15
       clear c15
       have H' := m_ H
       clear H
       have p14 : 0 ≤ (x11_1 : Int) := od_
       have q14 : x11_1 < (t174.size : Int) := od_
       have hx14 := bt_at t174 x11_1
       replace p14 := eq_true p14
       replace q14 := eq_true q14
       go_wp2
       go_roundg k1
       case measure => have := HK1.out; omega
       case rel => exact ⟨(wrap64 (x10_1 + 1)), (wrap64 (x11_1 + 1)), (by first | rfl | (simp; done) | (simp [*]; done)), (by first | rfl | (simp; done) | (simp [*]; done)), H', ⟨by have := HK1.out; omega⟩, ⟨kz_⟩, ⟨bz_⟩⟩
      ·rw [if_neg c15] at H
       have c15b0 : ((bt t174 x11_1) == 46) = false := beq_eq_false_iff_ne.mpr c15
       have c15b1 : ((bt t174 x11_1) != 46) = true := bne_iff_ne.mpr c15
       by_cases c17 : (bt t174 x11_1) < 48
       ·rw [if_pos c17] at H
        have c17b0 : decide ((bt t174 x11_1) < 48) = true := decide_eq_true c17
        clear c17
        exact absurd ((Option.some.inj H).trans hTrue.out) (by simp)
       ·rw [if_neg c17] at H
        have c17b0 : decide ((bt t174 x11_1) < 48) = false := decide_eq_false c17
        clear c17
        by_cases c19 : (bt t174 x11_1) > 57
        ·rw [if_pos c19] at H
         have c19b0 : decide (57 < (bt t174 x11_1)) = true := decide_eq_true c19
         clear c19
         exact absurd ((Option.some.inj H).trans hTrue.out) (by simp)
        ·rw [if_neg c19] at H
         have c19b0 : decide (57 < (bt t174 x11_1)) = false := decide_eq_false c19
         clear c19
         have H' := m_ H
         clear H
         have p14 : 0 ≤ (x11_1 : Int) := od_
         have q14 : x11_1 < (t174.size : Int) := od_
         have hx14 := bt_at t174 x11_1
         replace p14 := eq_true p14
         replace q14 := eq_true q14
         have p16 : 0 ≤ (x11_1 : Int) := od_
         have q16 : x11_1 < (t174.size : Int) := od_
         have hx16 := bt_at t174 x11_1
         replace p16 := eq_true p16
         replace q16 := eq_true q16
         have p18 : 0 ≤ (x11_1 : Int) := od_
         have q18 : x11_1 < (t174.size : Int) := od_
         have hx18 := bt_at t174 x11_1
         replace p18 := eq_true p18
         replace q18 := eq_true q18
         go_wp2
         go_roundg k1
         case measure => have := HK1.out; omega
         case rel => exact ⟨(x10_1), (wrap64 (x11_1 + 1)), (by first | rfl | (simp; done) | (simp [*]; done)), (by first | rfl | (simp; done) | (simp [*]; done)), H', ⟨by have := HK1.out; omega⟩, ⟨kz_⟩, ⟨bz_⟩⟩
     ·rw [if_neg c13] at H
      exact absurd H (by simp)
    ·rw [if_neg c12] at H
     have c12b0 : decide (x11_1 < (t174.size : Int)) = false := decide_eq_false c12
     clear c12
     by_cases c20 : t174.size + a0_4.size ≤ 9223372036854775807
     ·rw [if_pos c20] at H
      have c20b0 := eq_true c20
      have c20b1 : decide (t174.size + a0_4.size ≤ 9223372036854775807) = true := decide_eq_true c20
      try have c20b2 : (9223372036854775807 < t174.size + a0_4.size) = False := eq_false (Nat.not_lt.2 c20)
      replace H := Option.bind_eq_some_iff.mp H
      obtain ⟨⟨t175, t176⟩, A210, H⟩ := H
      replace H : (if a0_4.size + t174.size ≤ 9223372036854775807 then ((addr_Parse.f k1 (a0_4 ++ t174)).bind fun bt177 => (if (a0_4.size : Int) > 0 then (if 0 < (a0_4.size : Int) then (if (bt a0_4 0) < 48 then (if t173 = true then (if x10_1 = 3 then (if (t174.size : Int) ≥ 7 then (if (t174.size : Int) ≤ 15 then (if t176 = 2 then (some (bt177.2 == 2)) else (some false)) else (some false)) else (some false)) else (some false)) else (some false)) else (if t173 = true then (if x10_1 = 3 then (if (t174.size : Int) ≥ 7 then (if (t174.size : Int) ≤ 15 then (if ((bt a0_4 0) > 57) then (if t176 = 2 then (some (bt177.2 == 2)) else (some false)) else (some true)) else (some false)) else (some false)) else (some false)) else (some false))) else (none)) else (if t173 = true then (if x10_1 = 3 then (if (t174.size : Int) ≥ 7 then (if (t174.size : Int) ≤ 15 then (if t176 = 0 then (if bt177.2 = 0 then (some true) else (some false)) else (some false)) else (some false)) else (some false)) else (some false)) else (some false)))) else (none)) = some r := H
      have A21 := m_ A210
      clear A210
      by_cases c22 : a0_4.size + t174.size ≤ 9223372036854775807
      ·rw [if_pos c22] at H
       have c22b0 := eq_true c22
       have c22b1 : decide (a0_4.size + t174.size ≤ 9223372036854775807) = true := decide_eq_true c22
       try have c22b2 : (9223372036854775807 < a0_4.size + t174.size) = False := eq_false (Nat.not_lt.2 c22)
       replace H := Option.bind_eq_some_iff.mp H
       obtain ⟨⟨t177, t178⟩, A230, H⟩ := H
       replace H : (if (a0_4.size : Int) > 0 then (if 0 < (a0_4.size : Int) then (if (bt a0_4 0) < 48 then (if t173 = true then (if x10_1 = 3 then (if (t174.size : Int) ≥ 7 then (if (t174.size : Int) ≤ 15 then (if t176 = 2 then (some (t178 == 2)) else (some false)) else (some false)) else (some false)) else (some false)) else (some false)) else (if t173 = true then (if x10_1 = 3 then (if (t174.size : Int) ≥ 7 then (if (t174.size : Int) ≤ 15 then (if ((bt a0_4 0) > 57) then (if t176 = 2 then (some (t178 == 2)) else (some false)) else (some true)) else (some false)) else (some false)) else (some false)) else (some false))) else (none)) else (if t173 = true then (if x10_1 = 3 then (if (t174.size : Int) ≥ 7 then (if (t174.size : Int) ≤ 15 then (if t176 = 0 then (if t178 = 0 then (some true) else (some false)) else (some false)) else (some false)) else (some false)) else (some false)) else (some false))) = some r := H
       have A23 := m_ A230
       clear A230
       by_cases c24 : (a0_4.size : Int) > 0
       ·rw [if_pos c24] at H
        have c24b0 : decide (0 < (a0_4.size : Int)) = true := decide_eq_true c24
        have c24b1 : decide (0 < a0_4.size) = true := decide_eq_true (by omega)
        clear c24
        by_cases c25 : 0 < (a0_4.size : Int)
        ·rw [if_pos c25] at H
         have c25b0 : decide (0 < (a0_4.size : Int)) = true := decide_eq_true c25
         have c25b1 : decide (0 < a0_4.size) = true := decide_eq_true (by omega)
         clear c25
         by_cases c27 : (bt a0_4 0) < 48
         ·rw [if_pos c27] at H
          have c27b0 : decide ((bt a0_4 0) < 48) = true := decide_eq_true c27
          clear c27
          by_cases c28 : t173 = true
          ·subst c28
           have H1 : (if x10_1 = 3 then (if (t174.size : Int) ≥ 7 then (if (t174.size : Int) ≤ 15 then (if t176 = 2 then (some (t178 == 2)) else (some false)) else (some false)) else (some false)) else (some false)) = some r := by rw [if_pos rfl] at H; exact H
           clear H
           have H := H1
           clear H1
           by_cases c29 : x10_1 = 3
           ·rw [if_pos c29] at H
            have c29b0 : (x10_1 == 3) = true := beq_iff_eq.mpr c29
            have c29b1 : (x10_1 != 3) = false := bne_eq_false_iff_eq.mpr c29
            clear c29
            by_cases c30 : (t174.size : Int) ≥ 7
            ·rw [if_pos c30] at H
             have c30b0 : decide (7 ≤ (t174.size : Int)) = true := decide_eq_true c30
             have c30b1 : decide (7 ≤ t174.size) = true := decide_eq_true (by omega)
             clear c30
             by_cases c31 : (t174.size : Int) ≤ 15
             ·rw [if_pos c31] at H
              have c31b0 : decide ((t174.size : Int) ≤ 15) = true := decide_eq_true c31
              have c31b1 : decide (t174.size ≤ 15) = true := decide_eq_true (by omega)
              clear c31
              by_cases c32 : t176 = 2
              ·rw [if_pos c32] at H
               have c32b0 : (t176 == 2) = true := beq_iff_eq.mpr c32
               have c32b1 : (t176 != 2) = false := bne_eq_false_iff_eq.mpr c32
               clear c32
               obtain rfl := Option.some.inj H
               go_wp2_with (first | ((with_reducible refine gate_callee (f := 10) rfl ?_); refine gL_ (some 73) Tryd.func10 #[.string (t174 ++ a0_4)] ?_; (with_reducible refine (addr_Parse.calls k1 (t174 ++ a0_4) t175 t176 _ (LaidW.below HLW.out bz_) A21.out).mono ?_); rintro e w33 ⟨rfl, hb⟩; refine ⟨_, rfl, ?_⟩; replace BK172 := m_ (kl_ gb172 hb); replace HB := m_ (below_step bz_ hb); (try clear hb); (try clear hb2); (try clear hk); (try clear hi)) | ((with_reducible refine gate_callee (f := 10) rfl ?_); refine gL_ (some 80) Tryd.func10 #[.string (a0_4 ++ t174)] ?_; (with_reducible refine (addr_Parse.calls k1 (a0_4 ++ t174) t177 t178 _ (LaidW.below HLW.out bz_) A23.out).mono ?_); rintro e w34 ⟨rfl, hb⟩; refine ⟨_, rfl, ?_⟩; replace BK172 := m_ (kl_ gb172 hb); replace HB := m_ (below_step bz_ hb); (try clear hb); (try clear hb2); (try clear hk); (try clear hi); have p26 : 0 ≤ (0 : Int) := (by omega); have q26 : 0 < a0_4.size := (by have : (0 : Int) < (a0_4.size : Int) := od_; omega); have hx26 : ∀ h : 0 < a0_4.size, ((a0_4[0]'h).toNat : Int) = bt a0_4 0 := bt_at a0_4 0; clear p26; have qi26 : (0 < (a0_4.size : Int)) = True := eq_true od_; replace q26 := eq_true q26))
               go_ret
               exact ⟨ew_, bz_⟩
              ·rw [if_neg c32] at H
               have c32b0 : (t176 == 2) = false := beq_eq_false_iff_ne.mpr c32
               have c32b1 : (t176 != 2) = true := bne_iff_ne.mpr c32
               exact absurd ((Option.some.inj H).trans hTrue.out) (by simp)
             ·rw [if_neg c31] at H
              have c31b0 : decide ((t174.size : Int) ≤ 15) = false := decide_eq_false c31
              have c31b1 : decide (t174.size ≤ 15) = false := decide_eq_false (by omega)
              clear c31
              exact absurd ((Option.some.inj H).trans hTrue.out) (by simp)
            ·rw [if_neg c30] at H
             have c30b0 : decide (7 ≤ (t174.size : Int)) = false := decide_eq_false c30
             have c30b1 : decide (7 ≤ t174.size) = false := decide_eq_false (by omega)
             clear c30
             exact absurd ((Option.some.inj H).trans hTrue.out) (by simp)
           ·rw [if_neg c29] at H
            have c29b0 : (x10_1 == 3) = false := beq_eq_false_iff_ne.mpr c29
            have c29b1 : (x10_1 != 3) = true := bne_iff_ne.mpr c29
            exact absurd ((Option.some.inj H).trans hTrue.out) (by simp)
          ·replace c28 := Bool.eq_false_iff.mpr c28
           subst c28
           have H1 : (some false) = some r := by rw [if_neg (show ¬ (false = true) by decide)] at H; exact H
           clear H
           have H := H1
           clear H1
           exact absurd ((Option.some.inj H).trans hTrue.out) (by simp)
         ·rw [if_neg c27] at H
          have c27b0 : decide ((bt a0_4 0) < 48) = false := decide_eq_false c27
          clear c27
          by_cases c36 : t173 = true
          ·subst c36
           have H1 : (if x10_1 = 3 then (if (t174.size : Int) ≥ 7 then (if (t174.size : Int) ≤ 15 then (if ((bt a0_4 0) > 57) then (if t176 = 2 then (some (t178 == 2)) else (some false)) else (some true)) else (some false)) else (some false)) else (some false)) = some r := by rw [if_pos rfl] at H; exact H
           clear H
           have H := H1
           clear H1
           by_cases c37 : x10_1 = 3
           ·rw [if_pos c37] at H
            have c37b0 : (x10_1 == 3) = true := beq_iff_eq.mpr c37
            have c37b1 : (x10_1 != 3) = false := bne_eq_false_iff_eq.mpr c37
            clear c37
            by_cases c38 : (t174.size : Int) ≥ 7
            ·rw [if_pos c38] at H
             have c38b0 : decide (7 ≤ (t174.size : Int)) = true := decide_eq_true c38
             have c38b1 : decide (7 ≤ t174.size) = true := decide_eq_true (by omega)
             clear c38
             by_cases c39 : (t174.size : Int) ≤ 15
             ·rw [if_pos c39] at H
              have c39b0 : decide ((t174.size : Int) ≤ 15) = true := decide_eq_true c39
              have c39b1 : decide (t174.size ≤ 15) = true := decide_eq_true (by omega)
              clear c39
              by_cases c40 : ((bt a0_4 0) > 57)
              ·rw [if_pos c40] at H
               have c40b0 : decide (57 < (bt a0_4 0)) = true := decide_eq_true c40
               clear c40
               by_cases c41 : t176 = 2
               ·rw [if_pos c41] at H
                have c41b0 : (t176 == 2) = true := beq_iff_eq.mpr c41
                have c41b1 : (t176 != 2) = false := bne_eq_false_iff_eq.mpr c41
                clear c41
                obtain rfl := Option.some.inj H
                go_wp2_with (first | ((with_reducible refine gate_callee (f := 10) rfl ?_); refine gL_ (some 73) Tryd.func10 #[.string (t174 ++ a0_4)] ?_; (with_reducible refine (addr_Parse.calls k1 (t174 ++ a0_4) t175 t176 _ (LaidW.below HLW.out bz_) A21.out).mono ?_); rintro e w42 ⟨rfl, hb⟩; refine ⟨_, rfl, ?_⟩; replace BK172 := m_ (kl_ gb172 hb); replace HB := m_ (below_step bz_ hb); (try clear hb); (try clear hb2); (try clear hk); (try clear hi)) | ((with_reducible refine gate_callee (f := 10) rfl ?_); refine gL_ (some 80) Tryd.func10 #[.string (a0_4 ++ t174)] ?_; (with_reducible refine (addr_Parse.calls k1 (a0_4 ++ t174) t177 t178 _ (LaidW.below HLW.out bz_) A23.out).mono ?_); rintro e w43 ⟨rfl, hb⟩; refine ⟨_, rfl, ?_⟩; replace BK172 := m_ (kl_ gb172 hb); replace HB := m_ (below_step bz_ hb); (try clear hb); (try clear hb2); (try clear hk); (try clear hi); have p26 : 0 ≤ (0 : Int) := (by omega); have q26 : 0 < a0_4.size := (by have : (0 : Int) < (a0_4.size : Int) := od_; omega); have hx26 : ∀ h : 0 < a0_4.size, ((a0_4[0]'h).toNat : Int) = bt a0_4 0 := bt_at a0_4 0; clear p26; have qi26 : (0 < (a0_4.size : Int)) = True := eq_true od_; replace q26 := eq_true q26; have p35 : 0 ≤ (0 : Int) := (by omega); have q35 : 0 < a0_4.size := (by have : (0 : Int) < (a0_4.size : Int) := od_; omega); have hx35 : ∀ h : 0 < a0_4.size, ((a0_4[0]'h).toNat : Int) = bt a0_4 0 := bt_at a0_4 0; clear p35; have qi35 : (0 < (a0_4.size : Int)) = True := eq_true od_; replace q35 := eq_true q35))
                go_ret
                exact ⟨ew_, bz_⟩
               ·rw [if_neg c41] at H
                have c41b0 : (t176 == 2) = false := beq_eq_false_iff_ne.mpr c41
                have c41b1 : (t176 != 2) = true := bne_iff_ne.mpr c41
                exact absurd ((Option.some.inj H).trans hTrue.out) (by simp)
              ·rw [if_neg c40] at H
               have c40b0 : decide (57 < (bt a0_4 0)) = false := decide_eq_false c40
               clear c40
               obtain rfl := Option.some.inj H
               go_wp2_with (first | ((with_reducible refine gate_callee (f := 10) rfl ?_); refine gL_ (some 73) Tryd.func10 #[.string (t174 ++ a0_4)] ?_; (with_reducible refine (addr_Parse.calls k1 (t174 ++ a0_4) t175 t176 _ (LaidW.below HLW.out bz_) A21.out).mono ?_); rintro e w44 ⟨rfl, hb⟩; refine ⟨_, rfl, ?_⟩; replace BK172 := m_ (kl_ gb172 hb); replace HB := m_ (below_step bz_ hb); (try clear hb); (try clear hb2); (try clear hk); (try clear hi)) | ((with_reducible refine gate_callee (f := 10) rfl ?_); refine gL_ (some 80) Tryd.func10 #[.string (a0_4 ++ t174)] ?_; (with_reducible refine (addr_Parse.calls k1 (a0_4 ++ t174) t177 t178 _ (LaidW.below HLW.out bz_) A23.out).mono ?_); rintro e w45 ⟨rfl, hb⟩; refine ⟨_, rfl, ?_⟩; replace BK172 := m_ (kl_ gb172 hb); replace HB := m_ (below_step bz_ hb); (try clear hb); (try clear hb2); (try clear hk); (try clear hi); have p26 : 0 ≤ (0 : Int) := (by omega); have q26 : 0 < a0_4.size := (by have : (0 : Int) < (a0_4.size : Int) := od_; omega); have hx26 : ∀ h : 0 < a0_4.size, ((a0_4[0]'h).toNat : Int) = bt a0_4 0 := bt_at a0_4 0; clear p26; have qi26 : (0 < (a0_4.size : Int)) = True := eq_true od_; replace q26 := eq_true q26; have p35 : 0 ≤ (0 : Int) := (by omega); have q35 : 0 < a0_4.size := (by have : (0 : Int) < (a0_4.size : Int) := od_; omega); have hx35 : ∀ h : 0 < a0_4.size, ((a0_4[0]'h).toNat : Int) = bt a0_4 0 := bt_at a0_4 0; clear p35; have qi35 : (0 < (a0_4.size : Int)) = True := eq_true od_; replace q35 := eq_true q35))
               go_ret
               exact ⟨ew_, bz_⟩
             ·rw [if_neg c39] at H
              have c39b0 : decide ((t174.size : Int) ≤ 15) = false := decide_eq_false c39
              have c39b1 : decide (t174.size ≤ 15) = false := decide_eq_false (by omega)
              clear c39
              exact absurd ((Option.some.inj H).trans hTrue.out) (by simp)
            ·rw [if_neg c38] at H
             have c38b0 : decide (7 ≤ (t174.size : Int)) = false := decide_eq_false c38
             have c38b1 : decide (7 ≤ t174.size) = false := decide_eq_false (by omega)
             clear c38
             exact absurd ((Option.some.inj H).trans hTrue.out) (by simp)
           ·rw [if_neg c37] at H
            have c37b0 : (x10_1 == 3) = false := beq_eq_false_iff_ne.mpr c37
            have c37b1 : (x10_1 != 3) = true := bne_iff_ne.mpr c37
            exact absurd ((Option.some.inj H).trans hTrue.out) (by simp)
          ·replace c36 := Bool.eq_false_iff.mpr c36
           subst c36
           have H1 : (some false) = some r := by rw [if_neg (show ¬ (false = true) by decide)] at H; exact H
           clear H
           have H := H1
           clear H1
           exact absurd ((Option.some.inj H).trans hTrue.out) (by simp)
        ·rw [if_neg c25] at H
         exact absurd H (by simp)
       ·rw [if_neg c24] at H
        have c24b0 : decide (0 < (a0_4.size : Int)) = false := decide_eq_false c24
        have c24b1 : decide (0 < a0_4.size) = false := decide_eq_false (by omega)
        clear c24
        by_cases c46 : t173 = true
        ·subst c46
         have H1 : (if x10_1 = 3 then (if (t174.size : Int) ≥ 7 then (if (t174.size : Int) ≤ 15 then (if t176 = 0 then (if t178 = 0 then (some true) else (some false)) else (some false)) else (some false)) else (some false)) else (some false)) = some r := by rw [if_pos rfl] at H; exact H
         clear H
         have H := H1
         clear H1
         by_cases c47 : x10_1 = 3
         ·rw [if_pos c47] at H
          have c47b0 : (x10_1 == 3) = true := beq_iff_eq.mpr c47
          have c47b1 : (x10_1 != 3) = false := bne_eq_false_iff_eq.mpr c47
          clear c47
          by_cases c48 : (t174.size : Int) ≥ 7
          ·rw [if_pos c48] at H
           have c48b0 : decide (7 ≤ (t174.size : Int)) = true := decide_eq_true c48
           have c48b1 : decide (7 ≤ t174.size) = true := decide_eq_true (by omega)
           clear c48
           by_cases c49 : (t174.size : Int) ≤ 15
           ·rw [if_pos c49] at H
            have c49b0 : decide ((t174.size : Int) ≤ 15) = true := decide_eq_true c49
            have c49b1 : decide (t174.size ≤ 15) = true := decide_eq_true (by omega)
            clear c49
            by_cases c50 : t176 = 0
            ·rw [if_pos c50] at H
             have c50b0 : (t176 == 0) = true := beq_iff_eq.mpr c50
             have c50b1 : (t176 != 0) = false := bne_eq_false_iff_eq.mpr c50
             clear c50
             by_cases c51 : t178 = 0
             ·rw [if_pos c51] at H
              have c51b0 : (t178 == 0) = true := beq_iff_eq.mpr c51
              have c51b1 : (t178 != 0) = false := bne_eq_false_iff_eq.mpr c51
              clear c51
              obtain rfl := Option.some.inj H
              go_wp2_with (first | ((with_reducible refine gate_callee (f := 10) rfl ?_); refine gL_ (some 73) Tryd.func10 #[.string (t174 ++ a0_4)] ?_; (with_reducible refine (addr_Parse.calls k1 (t174 ++ a0_4) t175 t176 _ (LaidW.below HLW.out bz_) A21.out).mono ?_); rintro e w52 ⟨rfl, hb⟩; refine ⟨_, rfl, ?_⟩; replace BK172 := m_ (kl_ gb172 hb); replace HB := m_ (below_step bz_ hb); (try clear hb); (try clear hb2); (try clear hk); (try clear hi)) | ((with_reducible refine gate_callee (f := 10) rfl ?_); refine gL_ (some 80) Tryd.func10 #[.string (a0_4 ++ t174)] ?_; (with_reducible refine (addr_Parse.calls k1 (a0_4 ++ t174) t177 t178 _ (LaidW.below HLW.out bz_) A23.out).mono ?_); rintro e w53 ⟨rfl, hb⟩; refine ⟨_, rfl, ?_⟩; replace BK172 := m_ (kl_ gb172 hb); replace HB := m_ (below_step bz_ hb); (try clear hb); (try clear hb2); (try clear hk); (try clear hi)))
              go_ret
              exact ⟨ew_, bz_⟩
             ·rw [if_neg c51] at H
              have c51b0 : (t178 == 0) = false := beq_eq_false_iff_ne.mpr c51
              have c51b1 : (t178 != 0) = true := bne_iff_ne.mpr c51
              exact absurd ((Option.some.inj H).trans hTrue.out) (by simp)
            ·rw [if_neg c50] at H
             have c50b0 : (t176 == 0) = false := beq_eq_false_iff_ne.mpr c50
             have c50b1 : (t176 != 0) = true := bne_iff_ne.mpr c50
             exact absurd ((Option.some.inj H).trans hTrue.out) (by simp)
           ·rw [if_neg c49] at H
            have c49b0 : decide ((t174.size : Int) ≤ 15) = false := decide_eq_false c49
            have c49b1 : decide (t174.size ≤ 15) = false := decide_eq_false (by omega)
            clear c49
            exact absurd ((Option.some.inj H).trans hTrue.out) (by simp)
          ·rw [if_neg c48] at H
           have c48b0 : decide (7 ≤ (t174.size : Int)) = false := decide_eq_false c48
           have c48b1 : decide (7 ≤ t174.size) = false := decide_eq_false (by omega)
           clear c48
           exact absurd ((Option.some.inj H).trans hTrue.out) (by simp)
         ·rw [if_neg c47] at H
          have c47b0 : (x10_1 == 3) = false := beq_eq_false_iff_ne.mpr c47
          have c47b1 : (x10_1 != 3) = true := bne_iff_ne.mpr c47
          exact absurd ((Option.some.inj H).trans hTrue.out) (by simp)
        ·replace c46 := Bool.eq_false_iff.mpr c46
         subst c46
         have H1 : (some false) = some r := by rw [if_neg (show ¬ (false = true) by decide)] at H; exact H
         clear H
         have H := H1
         clear H1
         exact absurd ((Option.some.inj H).trans hTrue.out) (by simp)
      ·rw [if_neg c22] at H
       exact absurd H (by simp)
     ·rw [if_neg c20] at H
      exact absurd H (by simp)

end Go.Proofs.YtplkfpfgnccffaaDoor.P

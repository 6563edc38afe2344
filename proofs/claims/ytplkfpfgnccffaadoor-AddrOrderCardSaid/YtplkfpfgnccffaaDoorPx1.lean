/- For each Go function a Lean function, and the proof that a call comes to what it tells: made by program out of the translation (the kit's print, with texts by hand put in). No condition. -/
import Derived.Test.YtplkfpfgnccffaaDoorSq
import Derived.Test.YtplkfpfgnccffaaDoorPx0
namespace Go.Proofs.YtplkfpfgnccffaaDoor.P
open Go.RowKit Go.Proofs.YtplkfpfgnccffaaDoor.HRows Go.Proofs.YtplkfpfgnccffaaDoorW.PrintWords Go.Proofs.YtplkfpfgnccffaaDoorW.PrintLast Go.Proofs.YtplkfpfgnccffaaDoorW.PrintMore
attribute [local go_sem] max2_int min2_int max_two min_two max_three min_three max_four min_four   -- for this text's walks alone
set_option linter.unusedVariables false
set_option linter.unusedSimpArgs false

/-! ### addr_Of: function 12 -/
def addr_Of.l0 : Nat → Int → List Int → Int → Int → Option (Int × Int)
 | 0, _, _, _, _ => none
 | k + 1, x4, x15, x16, x17 => if x17 < x16 then (if 0 ≤ x17 then (if x17 < (x15.length : Int) then (addr_Of.l0 k (Go.bits .or .u32 ((x4 * 256) % 4294967296) ((rd x15 x17) % 4294967296)) x15 x16 (wrap64 (x17 + 1))) else (none)) else (none)) else (some (x4, 0))
def addr_Of.f (k : Nat) (l0 : List Int) : Option (Int × Int) := if (l0.length : Int) < 4 then (some (0, 3)) else (if (l0.length : Int) > 4 then (some (0, 2)) else (addr_Of.l0 k 0 l0 (l0.length : Int) 0))
theorem addr_Of.mono_l : ∀ k, (∀ y0 y1 y2 y3, LeO (addr_Of.l0 k y0 y1 y2 y3) (addr_Of.l0 (k + 1) y0 y1 y2 y3))
 | 0 => fun _ _ _ _ r h => by simp [addr_Of.l0] at h
 | k + 1 => by
  have ih0 := addr_Of.mono_l k
  ·intro y0 y1 y2 y3
   unfold addr_Of.l0
   repeat' first
   | (with_reducible exact ih0 _ _ _ _)
   | (with_reducible exact LeO.refl _)
   | (with_reducible exact LeO.none _)
   | (with_reducible refine LeO.ite ?_ ?_)
   | (with_reducible refine LeO.bind ?_ (fun _ => ?_))
   | exact ih0 _ _ _ _
   | exact LeO.none _
   | refine LeO.ite ?_ ?_
   | refine LeO.bind ?_ (fun _ => ?_)
theorem addr_Of.mono : ∀ a0 k, LeO (addr_Of.f k a0) (addr_Of.f (k + 1) a0) := by
 intro a0 k
 have ih0 := addr_Of.mono_l k
 unfold addr_Of.f
 repeat' first
   | (with_reducible exact ih0 _ _ _ _)
   | (with_reducible exact LeO.refl _)
   | (with_reducible exact LeO.none _)
   | (with_reducible refine LeO.ite ?_ ?_)
   | (with_reducible refine LeO.bind ?_ (fun _ => ?_))
   | exact ih0 _ _ _ _
   | exact LeO.none _
   | refine LeO.ite ?_ ?_
   | refine LeO.bind ?_ (fun _ => ?_)
set_option maxHeartbeats 8000000 in
set_option maxRecDepth 100000 in
theorem addr_Of.calls (k : Nat) (A0 : Option Addr) (c0 : Nat) (l0 : List Int) (r1 : Int) (r2 : Int) (w : World) (hr0 : Kd.C (Kd.int .u8) w A0 l0.length l0) (hc0 : l0.length ≤ c0) (h : addr_Of.f k l0 = some (r1, r2)) :
  Calls Tryd.prog 12 #[.slice A0 l0.length c0] w fun e w' => e = .returned (.tuple #[.int .u32 r1, .int .i64 r2]) ∧ Drawn0 w w' := by
 have HR0 := m_ hr0
 have HC0 := m_ hc0
 clear hr0 hc0
 have H : (if (l0.length : Int) < 4 then (some (0, 3)) else (if (l0.length : Int) > 4 then (some (0, 2)) else (addr_Of.l0 k 0 l0 (l0.length : Int) 0))) = some (r1, r2) := h
 clear h
 by_cases c2 : (l0.length : Int) < 4
 ·rw [if_pos c2] at H
  have c2b0 : decide ((l0.length : Int) < 4) = true := decide_eq_true c2
  have c2b1 : decide (l0.length < 4) = true := decide_eq_true (by omega)
  clear c2
  simp only [Option.some.injEq, Prod.mk.injEq] at H
  obtain ⟨rfl, rfl⟩ := H
  go_enter Tryd.func12, Tryd.ntmps12
  go_wp2
  go_ret2
  exact ⟨(by first | rfl | (simp; done) | (simp [*]; done)), (by repeat (first | exact Drawn0.refl _ | apply Drawn0.step))⟩
 ·rw [if_neg c2] at H
  have c2b0 : decide ((l0.length : Int) < 4) = false := decide_eq_false c2
  have c2b1 : decide (l0.length < 4) = false := decide_eq_false (by omega)
  clear c2
  by_cases c3 : (l0.length : Int) > 4
  ·rw [if_pos c3] at H
   have c3b0 : decide (4 < (l0.length : Int)) = true := decide_eq_true c3
   have c3b1 : decide (4 < l0.length) = true := decide_eq_true (by omega)
   clear c3
   simp only [Option.some.injEq, Prod.mk.injEq] at H
   obtain ⟨rfl, rfl⟩ := H
   go_enter Tryd.func12, Tryd.ntmps12
   go_wp2
   go_ret2
   exact ⟨(by first | rfl | (simp; done) | (simp [*]; done)), (by repeat (first | exact Drawn0.refl _ | apply Drawn0.step))⟩
  ·rw [if_neg c3] at H
   have c3b0 : decide (4 < (l0.length : Int)) = false := decide_eq_false c3
   have c3b1 : decide (4 < l0.length) = false := decide_eq_false (by omega)
   clear c3
   have H' := m_ H
   clear H
   go_enter Tryd.func12, Tryd.ntmps12
   go_wp2
   go_loopg [4, 17] k (fun kq v4 v17 w' => ∃ (x4_1 : Int) (x17_1 : Int), v4 = .int .u32 x4_1 ∧ v17 = .int .i64 x17_1 ∧ Aside0 (addr_Of.l0 kq x4_1 l0 (l0.length : Int) x17_1 = some (r1, r2)) ∧ Aside0 (kq ≤ k) ∧ Drawn0 w w')
   case atStart => exact ⟨(0), (0), (by first | rfl | (simp; done) | (simp [*]; done)), (by first | rfl | (simp; done) | (simp [*]; done)), H', ⟨Nat.le_refl _⟩, by repeat (first | exact Drawn0.refl _ | apply Drawn0.step)⟩
   case round =>
    clear H'
    try clear c1
    try clear c2
    try clear c2b0
    try clear c2b1
    try clear p2
    try clear c3
    try clear c3b0
    try clear c3b1
    obtain ⟨x4_1, x17_1, rfl, rfl, HA, HK1, ⟨m1, rfl⟩⟩ := hrel
    cases gk with
    | zero => exact absurd HA.out (by simp [addr_Of.l0])
    | succ k1 =>
     have H := HA.out
     clear HA
     simp only [addr_Of.l0] at H
     by_cases c4 : x17_1 < (l0.length : Int)
     ·rw [if_pos c4] at H
      have c4b0 : decide (x17_1 < (l0.length : Int)) = true := decide_eq_true c4
      clear c4
      by_cases c5 : 0 ≤ x17_1
      ·rw [if_pos c5] at H
       have c5b0 : decide (0 ≤ x17_1) = true := decide_eq_true c5
       clear c5
       by_cases c6 : x17_1 < (l0.length : Int)
       ·rw [if_pos c6] at H
        have c6b0 : decide (x17_1 < (l0.length : Int)) = true := decide_eq_true c6
        clear c6
        have H' := m_ H
        clear H
        have p101 : 0 ≤ (x17_1 : Int) := od_
        have q101 : x17_1 < (l0.length : Int) := od_
        obtain ⟨ad101, e101, hx101_0⟩ := Kd.at_int HR0.out x17_1 p101 q101
        cases e101
        replace p101 := eq_true p101
        replace q101 := eq_true q101
        go_wp2
        go_roundg k1
        case measure => have := HK1.out; omega
        case rel => exact ⟨(Go.bits .or .u32 ((x4_1 * 256) % 4294967296) ((rd l0 x17_1) % 4294967296)), (wrap64 (x17_1 + 1)), (by first | rfl | (simp; done) | (simp [*]; done)), (by first | rfl | (simp; done) | (simp [*]; done)), H', ⟨by have := HK1.out; omega⟩, by repeat (first | exact Drawn0.refl _ | apply Drawn0.step)⟩
       ·rw [if_neg c6] at H
        exact absurd H (by simp)
      ·rw [if_neg c5] at H
       exact absurd H (by simp)
     ·rw [if_neg c4] at H
      have c4b0 : decide (x17_1 < (l0.length : Int)) = false := decide_eq_false c4
      clear c4
      simp only [Option.some.injEq, Prod.mk.injEq] at H
      obtain ⟨rfl, rfl⟩ := H
      go_wp2
      go_ret2
      exact ⟨(by first | rfl | (simp; done) | (simp [*]; done)), (by repeat (first | exact Drawn0.refl _ | apply Drawn0.step))⟩

-- NOT PRINTED: function 51 (utf8_RuneCountInString)

-- NOT PRINTED: function 64 (utf8_decodeRuneInStringSlow)

-- NOT PRINTED: function 52 (utf8_DecodeRuneInString)

-- NOT PRINTED: function 40 (strings_explode)

-- NOT PRINTED: function 76 (bytealg_IndexByteString)

-- NOT PRINTED: function 65 (stringslite_IndexByte)

-- NOT PRINTED: function 66 (bytealg_IndexString)

-- NOT PRINTED: function 67 (bytealg_Cutover)

-- NOT PRINTED: function 77 (bytealg_hashStr_string)

-- NOT PRINTED: function 68 (bytealg_IndexRabinKarp_string)

-- NOT PRINTED: function 54 (stringslite_Index)

-- NOT PRINTED: function 42 (strings_Index)

-- NOT PRINTED: function 53 (bytealg_CountString)

-- NOT PRINTED: function 41 (strings_Count)

-- NOT PRINTED: function 33 (strings_genSplit)

-- NOT PRINTED: function 26 (strings_Split)

-- NOT PRINTED: function 69 (strconv_lower)

-- NOT PRINTED: function 70 (strconv_underscoreOK)

-- NOT PRINTED: function 55 (strconv_ParseUint)

-- NOT PRINTED: function 43 (strconv_ParseInt)

-- NOT PRINTED: function 34 (strconv_Atoi_34)

-- NOT PRINTED: function 56 (stringslite_Clone)

-- NOT PRINTED: function 44 (strconv_syntaxError)

-- NOT PRINTED: function 45 (strconv_rangeError)

-- NOT PRINTED: function 58 (strconv_small)

-- NOT PRINTED: function 71 (strconv_log10Pow2)

-- NOT PRINTED: function 72 (bits_Len64)

-- NOT PRINTED: function 73 (strconv_bool2_int)

-- NOT PRINTED: function 59 (strconv_numDigits)

-- NOT PRINTED: function 60 (strconv_formatBase10)

-- NOT PRINTED: function 74 (strconv_isPowerOfTwo)

-- NOT PRINTED: function 78 (bits_TrailingZeros32)

-- NOT PRINTED: function 79 (bits_TrailingZeros64)

-- NOT PRINTED: function 75 (bits_TrailingZeros)

-- NOT PRINTED: function 61 (strconv_formatBits)

-- NOT PRINTED: function 48 (strconv_FormatInt)

-- NOT PRINTED: function 36 (strconv_Itoa_36)

-- NOT PRINTED: function 28 (strconv_Itoa_28)

-- NOT PRINTED: function 57 (errors_New)

-- NOT PRINTED: function 46 (strconv_baseError)

-- NOT PRINTED: function 47 (strconv_bitSizeError)

-- NOT PRINTED: function 35 (strconv_toError)

-- NOT PRINTED: function 27 (strconv_Atoi_27)

/-! ### addr_Parse: function 10, by hand (addr.Parse.lean.tpl) -/
/-- A piece that is a number of 0 to 255, as it is written. -/
def okPiece (x : ByteArray) : Option Int :=
 match Lib.atoiAll x.data.toList with
 | .ok v => if 0 ≤ v ∧ v ≤ 255 ∧ (itoaB v).toList = x.toList then some v else none
 | _ => none
def parseL : List ByteArray → List Int
 | [] => []
 | x :: l => match okPiece x with
  | some v => v :: parseL l
  | none => []
theorem parseL_len : ∀ l, (parseL l).length ≤ l.length
 | [] => Nat.le_refl _
 | x :: l => by
  unfold parseL
  split
  ·have := parseL_len l
   simp only [List.length_cons]
   omega
  ·exact Nat.zero_le _
def addr_Parse.f (k : Nat) (s : ByteArray) : Option (Int × Int) :=
 if s.size ≤ 1000 ∧ (piecesB s).length = Lib.countB s dotB + 1 ∧ (piecesB s).length ≤ 1001 ∧ ∀ x ∈ piecesB s, x.size ≤ 1000 then
  (if (piecesB s).length ≠ 4 ∨ (parseL (piecesB s)).length ≠ 4 then some (0, 2) else addr_Of.f k (parseL (piecesB s)))
 else none
theorem addr_Parse.mono : ∀ a0 k, LeO (addr_Parse.f k a0) (addr_Parse.f (k + 1) a0) := by
 intro a0 k
 unfold addr_Parse.f
 refine LeO.ite (LeO.ite (LeO.refl _) ?_) (LeO.refl _)
 exact addr_Of.mono _ _
set_option maxHeartbeats 1000000 in
set_option maxRecDepth 100000 in
theorem addr_Parse.calls (k : Nat) (a0 : ByteArray) (r1 r2 : Int) (w : World) (hL : LaidW w) (h : addr_Parse.f k a0 = some (r1, r2)) :
  Calls Tryd.prog 10 #[.string a0] w fun e w' => e = .returned (.tuple #[.int .u32 r1, .int .i64 r2]) ∧ Below w.heap.size w w' := by
 unfold addr_Parse.f at h
 split at h
 case isFalse => cases h
 case isTrue hok =>
 obtain ⟨hs, hn, hn2, hx⟩ := hok
 have H := m_ h
 have HX := m_ hx
 have HL := m_ hL
 have HS := m_ hs
 obtain ⟨m, hm⟩ := hL.mx
 clear h hx hL
 go_enter Tryd.func10, Tryd.ntmps10
 go_wp2
 go_step3
 go_wp2_with (go_at_call 26; refine Stop0.out ?_)
 refine ⟨?_⟩
 refine (Tryd.strings_Split a0 dotB m w (by have := HS.out; omega) hm (by decide)).mono ?_
 rintro e w1 ⟨rfl, rfl⟩
 rw [← hn]
 have HP := m_ (blk_new w (.cells ((piecesB a0).map Value.string).toArray 9))
 have HB := m_ (below_alloc (Below.refl w.heap.size w) (.cells ((piecesB a0).map Value.string).toArray 9))
 rw [show (Lib.splitB dotB 0 (Lib.countB a0 dotB) a0) = piecesB a0 from rfl]
 clear hm hn
 generalize (w.alloc _) = w1 at HP HB ⊢
 generalize piecesB a0 = P at HP H HX hn2 ⊢
 have HN2 := m_ hn2
 clear hn2
 obtain ⟨ad, had⟩ : ∃ ad : Addr, ad = ⟨w.heap.size, 0, none⟩ := ⟨_, rfl⟩
 rw [← had]
 have HAD := m_ had
 clear had
 go_wp2
 go_step3
 go_wp2
 -- LOOP
 go_loopg [5, 14] P.length (fun gg s5 s14 wr => ∃ (i : Nat) (Ab : Option Addr) (cb : Nat) (b : List Int), i ≤ P.length ∧ P.length - i ≤ gg ∧ s5 = .slice Ab b.length cb ∧ s14 = .int .i64 i ∧ Aside0 (parseL P = b ++ parseL (P.drop i)) ∧ Aside0 (b.length ≤ i) ∧ Aside0 (wr.heap[w.heap.size]? = some (.cells (P.map Value.string).toArray 9 (0, 0))) ∧ Aside0 (Kd.R (Kd.int .u8) 5 wr w.heap.size (fun k => w.heap.size < k) (.slice Ab b.length cb) b) ∧ Aside0 (Below w.heap.size w wr))
 case atStart => exact ⟨0, none, 0, [], Nat.zero_le _, by omega, rfl, rfl, ⟨rfl⟩, ⟨Nat.le_refl _⟩, HP, ⟨Kd.R_nil _ _ _ _ _⟩, HB⟩
 case round =>
  obtain ⟨i, Ab, cb, b, hi, hg, rfl, rfl, HA, HBL, HP, HR, HB⟩ := hrel
  by_cases hlt : i < P.length
  ·have hlt' : (i : Int) < (P.length : Int) := by omega
   obtain ⟨x, hx⟩ : ∃ x, x = P[i]'hlt := ⟨_, rfl⟩
   have hdr : parseL P = b ++ parseL (x :: P.drop (i + 1)) := by rw [HA.out, List.drop_eq_getElem_cons hlt, ← hx]
   have HD := m_ hdr
   have hcx : wr.cell? (ad.add i) = some (.string x) := by
    rw [HAD.out, add0, Nat.zero_add, blk_cell HP.out i, hx]
    simp [hlt]
   have HSX := m_ (HX.out x (hx ▸ List.getElem_mem hlt))
   clear hdr hx HA
   go_wp2_with (go_at_call 27; refine Stop0.out ?_)
   refine ⟨?_⟩
   by_cases hq : ∃ v, Lib.atoiAll x.data.toList = .ok v
   ·obtain ⟨v, hv⟩ := hq
    have HV := m_ hv
    clear hv
    refine (atoiOk_calls x (by have := HSX.out; omega) v HV.out _).mono ?_
    rintro e w2 ⟨rfl, hb⟩
    have HP2 := m_ (blk_below HP.out hb)
    have HR2 := m_ (Kd.R_below HR.out hb)
    have HB2 := m_ (below_step HB.out hb)
    clear hb HP HR HB hcx
    by_cases h0 : v < 0
    ·have d0 : decide (v < 0) = true := decide_eq_true h0
     have hb_ : parseL P = b := by
      rw [HD.out]
      unfold parseL okPiece
      rw [HV.out]
      simp only
      rw [if_neg (by omega)]
      exact List.append_nil b
     have HBB := m_ hb_
     clear h0 hb_ HD HV
     have hH := H.out
     rw [HBB.out] at hH
     have HH := m_ hH
     clear hH H
     by_cases h4 : P.length = 4
     ·have d4 : ((P.length : Int) != 4) = false := by rw [h4]; rfl
      by_cases hb4 : b.length = 4
      ·have e4 : ((b.length : Int) != 4) = false := by rw [hb4]; rfl
       have hH := HH.out
       rw [if_neg (by omega)] at hH
       have HO := m_ hH
       have HC := m_ (Kd.R_reads' HR2.out)
       clear hH h4 hb4
       go_wp2_with (go_at_call 12; refine Stop0.out ?_)
       refine ⟨?_⟩
       refine (addr_Of.calls k _ _ b r1 r2 _ HC.out.2.2 HC.out.2.1 HO.out).mono ?_
       rintro e w9 ⟨rfl, ⟨nd, rfl⟩⟩
       have HBD := m_ (pw_below_drewN HB2.out nd)
       generalize World.drewN _ nd = w10 at HBD ⊢
       go_wp2
       try rw [Exit.noGoto_ret]
       go_ret2
       exact ⟨rfl, HBD.out⟩
      ·have e4 : ((b.length : Int) != 4) = true := bne_iff_ne.2 (by omega)
       have hH := HH.out
       rw [if_pos (by omega)] at hH
       obtain ⟨rfl, rfl⟩ := Prod.mk.inj (Option.some.inj hH)
       clear hH h4 hb4
       go_wp2
       try rw [Exit.noGoto_ret]
       go_ret2
       exact ⟨rfl, HB2.out⟩
     ·have d4 : ((P.length : Int) != 4) = true := bne_iff_ne.2 (by omega)
      have hH := HH.out
      rw [if_pos (by omega)] at hH
      obtain ⟨rfl, rfl⟩ := Prod.mk.inj (Option.some.inj hH)
      clear hH h4
      go_wp2
      try rw [Exit.noGoto_ret]
      go_ret2
      exact ⟨rfl, HB2.out⟩

    have d0 : decide (v < 0) = false := decide_eq_false h0
    by_cases h1 : v > 255
    ·have d1 : decide (v > 255) = true := decide_eq_true h1
     have d2 : decide (255 < v) = true := decide_eq_true h1
     have hb_ : parseL P = b := by
      rw [HD.out]
      unfold parseL okPiece
      rw [HV.out]
      simp only
      rw [if_neg (by omega)]
      exact List.append_nil b
     have HBB := m_ hb_
     clear h0 h1 hb_ HD HV
     have hH := H.out
     rw [HBB.out] at hH
     have HH := m_ hH
     clear hH H
     by_cases h4 : P.length = 4
     ·have d4 : ((P.length : Int) != 4) = false := by rw [h4]; rfl
      by_cases hb4 : b.length = 4
      ·have e4 : ((b.length : Int) != 4) = false := by rw [hb4]; rfl
       have hH := HH.out
       rw [if_neg (by omega)] at hH
       have HO := m_ hH
       have HC := m_ (Kd.R_reads' HR2.out)
       clear hH h4 hb4
       go_wp2_with (go_at_call 12; refine Stop0.out ?_)
       refine ⟨?_⟩
       refine (addr_Of.calls k _ _ b r1 r2 _ HC.out.2.2 HC.out.2.1 HO.out).mono ?_
       rintro e w9 ⟨rfl, ⟨nd, rfl⟩⟩
       have HBD := m_ (pw_below_drewN HB2.out nd)
       generalize World.drewN _ nd = w10 at HBD ⊢
       go_wp2
       try rw [Exit.noGoto_ret]
       go_ret2
       exact ⟨rfl, HBD.out⟩
      ·have e4 : ((b.length : Int) != 4) = true := bne_iff_ne.2 (by omega)
       have hH := HH.out
       rw [if_pos (by omega)] at hH
       obtain ⟨rfl, rfl⟩ := Prod.mk.inj (Option.some.inj hH)
       clear hH h4 hb4
       go_wp2
       try rw [Exit.noGoto_ret]
       go_ret2
       exact ⟨rfl, HB2.out⟩
     ·have d4 : ((P.length : Int) != 4) = true := bne_iff_ne.2 (by omega)
      have hH := HH.out
      rw [if_pos (by omega)] at hH
      obtain ⟨rfl, rfl⟩ := Prod.mk.inj (Option.some.inj hH)
      clear hH h4
      go_wp2
      try rw [Exit.noGoto_ret]
      go_ret2
      exact ⟨rfl, HB2.out⟩

    have d1 : decide (v > 255) = false := decide_eq_false h1
    have d2 : decide (255 < v) = false := decide_eq_false h1
    have HV01 := m_ (show 0 ≤ v ∧ v ≤ 255 by omega)
    clear h0 h1
    go_wp2_with (go_at_call 28; refine Stop0.out ?_)
    refine ⟨?_⟩
    refine (itoa_calls v HV01.out.1 HV01.out.2 _ (HL.out.below HB2.out)).mono ?_
    rintro e w3 ⟨rfl, hb⟩
    have HP3 := m_ (blk_below HP2.out hb)
    have HR3 := m_ (Kd.R_below HR2.out hb)
    have HB3 := m_ (below_step HB2.out hb)
    clear hb HP2 HR2 HB2 d0 d1 d2
    by_cases hs2 : (itoaB v).toList = x.toList
    ·have hsd : ((itoaB v).toList != x.toList) = false := bne_eq_false_iff_eq.mpr hs2
     have hse : ((itoaB v).toList == x.toList) = true := beq_iff_eq.mpr hs2
     have hb_ : parseL P = (b ++ [v]) ++ parseL (P.drop (i + 1)) := by
      rw [HD.out]
      conv => lhs; unfold parseL okPiece
      rw [HV.out]
      simp only
      rw [if_pos ⟨HV01.out.1, HV01.out.2, hs2⟩, List.append_assoc]
      rfl
     have HA2 := m_ hb_
     clear hb_ HD hs2
     go_wp2_with ((with_reducible refine gate_builtin (b := .append) (xs := #[.tmp 34, .tmp 37]) rfl ?_); refine Stop0.out ?_)
     refine ⟨?_⟩
     rw [show v % 256 = v by have := HV01.out; omega]
     refine Kd.R_append (Kd.int .u8) (w0 := w) w.heap.size rfl (.tmp 34) (.tmp 37) 22 5 (.int .u8 0) 1 rfl Tryd.underlying22 info5 rfl (by decide) (by omega) (.slice Ab b.length cb) b v [.int .u8 v] (fun k => w.heap.size < k) (fun _ => False) rfl rfl ?aP (fun _ hk => hk.elim) ?aF ?aO ?aB ?aS ?aL ?_
     case aP => exact rfl
     case aF => exact fun k hk => Nat.lt_of_lt_of_le (blk_lt HP3.out) hk
     case aO => exact HR3.out
     case aB => exact HB3.out
     case aS => exact HB3.out.size
     case aL => have := HBL.out; have := HN2.out; omega
     intro v1 w4 hR hb hg hat
     obtain ⟨b2, hb2⟩ : ∃ o, o = b ++ [v] := ⟨_, rfl⟩
     have HBL2 := m_ (show b2.length ≤ i + 1 by have := HBL.out; rw [hb2, List.length_append]; simp only [List.length_singleton]; omega)
     have HA3 := m_ (show parseL P = b2 ++ parseL (P.drop (i + 1)) by rw [hb2]; exact HA2.out)
     rw [← hb2] at hR
     obtain ⟨Ab2, cb2, rfl⟩ := Kd.R_slice hR
     have HR4 := m_ hR
     have HB4 := m_ hb
     have HP4 := m_ (blk_grown (g := w.heap.size) HP3.out hg (fun e => absurd (HR3.out.1 _ e.symm) (Nat.lt_irrefl _)))
     have HLT := m_ (And.intro hlt hg)
     clear hR hb hg hat hb2 HA2 HBL HR3 HB3 HP3 hsd hse
     go_wp2
     go_roundg (P.length - (i + 1))
     case measure => omega
     case rel => exact ⟨i + 1, Ab2, cb2, b2, by omega, Nat.le_refl _, rfl, by have := HN2.out; rw [show wrap64 ((i : Int) + 1) = ((i + 1 : Nat) : Int) by unfold wrap64; omega], HA3, HBL2, HP4, HR4, HB4⟩
    ·have hsd : ((itoaB v).toList != x.toList) = true := bne_iff_ne.mpr hs2
     have hse : ((itoaB v).toList == x.toList) = false := beq_eq_false_iff_ne.mpr hs2
     have hb_ : parseL P = b := by
      rw [HD.out]
      unfold parseL okPiece
      rw [HV.out]
      simp only
      rw [if_neg (fun h => hs2 h.2.2)]
      exact List.append_nil b
     have HBB := m_ hb_
     clear hb_ HD HV hs2
     have hH := H.out
     rw [HBB.out] at hH
     have HH := m_ hH
     clear hH H
     by_cases h4 : P.length = 4
     ·have d4 : ((P.length : Int) != 4) = false := by rw [h4]; rfl
      by_cases hb4 : b.length = 4
      ·have e4 : ((b.length : Int) != 4) = false := by rw [hb4]; rfl
       have hH := HH.out
       rw [if_neg (by omega)] at hH
       have HO := m_ hH
       have HC := m_ (Kd.R_reads' HR3.out)
       clear hH h4 hb4
       go_wp2_with (go_at_call 12; refine Stop0.out ?_)
       refine ⟨?_⟩
       refine (addr_Of.calls k _ _ b r1 r2 _ HC.out.2.2 HC.out.2.1 HO.out).mono ?_
       rintro e w9 ⟨rfl, ⟨nd, rfl⟩⟩
       have HBD := m_ (pw_below_drewN HB3.out nd)
       generalize World.drewN _ nd = w10 at HBD ⊢
       go_wp2
       try rw [Exit.noGoto_ret]
       go_ret2
       exact ⟨rfl, HBD.out⟩
      ·have e4 : ((b.length : Int) != 4) = true := bne_iff_ne.2 (by omega)
       have hH := HH.out
       rw [if_pos (by omega)] at hH
       obtain ⟨rfl, rfl⟩ := Prod.mk.inj (Option.some.inj hH)
       clear hH h4 hb4
       go_wp2
       try rw [Exit.noGoto_ret]
       go_ret2
       exact ⟨rfl, HB3.out⟩
     ·have d4 : ((P.length : Int) != 4) = true := bne_iff_ne.2 (by omega)
      have hH := HH.out
      rw [if_pos (by omega)] at hH
      obtain ⟨rfl, rfl⟩ := Prod.mk.inj (Option.some.inj hH)
      clear hH h4
      go_wp2
      try rw [Exit.noGoto_ret]
      go_ret2
      exact ⟨rfl, HB3.out⟩

   ·have HQ : Aside0 (∀ v, Lib.atoiAll x.data.toList ≠ .ok v) := ⟨fun v hv => hq ⟨v, hv⟩⟩
    clear hq
    refine (atoiNo_calls x (by have := HSX.out; omega) HQ.out _ (HL.out.below HB.out)).mono ?_
    rintro e w2 ⟨v, te, pe, rfl, hb⟩
    have HR2 := m_ (Kd.R_below HR.out hb)
    have HB2 := m_ (below_step HB.out hb)
    have hb_ : parseL P = b := by
     rw [HD.out]
     unfold parseL okPiece
     split
     ·rename_i v2 h2
      split at h2
      ·rename_i v3 h3
       exact absurd h3 (HQ.out v3)
      ·cases h2
     ·exact List.append_nil b
    have HBB := m_ hb_
    clear hb hb_ HP HR HB HD hcx
    have hH := H.out
    rw [HBB.out] at hH
    have HH := m_ hH
    clear hH H
    by_cases h4 : P.length = 4
    ·have d4 : ((P.length : Int) != 4) = false := by rw [h4]; rfl
     by_cases hb4 : b.length = 4
     ·have e4 : ((b.length : Int) != 4) = false := by rw [hb4]; rfl
      have hH := HH.out
      rw [if_neg (by omega)] at hH
      have HO := m_ hH
      have HC := m_ (Kd.R_reads' HR2.out)
      clear hH h4 hb4
      go_wp2_with (go_at_call 12; refine Stop0.out ?_)
      refine ⟨?_⟩
      refine (addr_Of.calls k _ _ b r1 r2 _ HC.out.2.2 HC.out.2.1 HO.out).mono ?_
      rintro e w9 ⟨rfl, ⟨nd, rfl⟩⟩
      have HBD := m_ (pw_below_drewN HB2.out nd)
      generalize World.drewN _ nd = w10 at HBD ⊢
      go_wp2
      try rw [Exit.noGoto_ret]
      go_ret2
      exact ⟨rfl, HBD.out⟩
     ·have e4 : ((b.length : Int) != 4) = true := bne_iff_ne.2 (by omega)
      have hH := HH.out
      rw [if_pos (by omega)] at hH
      obtain ⟨rfl, rfl⟩ := Prod.mk.inj (Option.some.inj hH)
      clear hH h4 hb4
      go_wp2
      try rw [Exit.noGoto_ret]
      go_ret2
      exact ⟨rfl, HB2.out⟩
    ·have d4 : ((P.length : Int) != 4) = true := bne_iff_ne.2 (by omega)
     have hH := HH.out
     rw [if_pos (by omega)] at hH
     obtain ⟨rfl, rfl⟩ := Prod.mk.inj (Option.some.inj hH)
     clear hH h4
     go_wp2
     try rw [Exit.noGoto_ret]
     go_ret2
     exact ⟨rfl, HB2.out⟩

  ·have hlt' : ¬ (i : Int) < (P.length : Int) := by omega
   have hb_ : parseL P = b := by
    rw [HA.out, List.drop_of_length_le (by omega)]
    exact List.append_nil b
   have HBB := m_ hb_
   clear hb_ HA
   have hH := H.out
   rw [HBB.out] at hH
   have HH := m_ hH
   clear hH H
   by_cases h4 : P.length = 4
   ·have d4 : ((P.length : Int) != 4) = false := by rw [h4]; rfl
    by_cases hb4 : b.length = 4
    ·have e4 : ((b.length : Int) != 4) = false := by rw [hb4]; rfl
     have hH := HH.out
     rw [if_neg (by omega)] at hH
     have HO := m_ hH
     have HC := m_ (Kd.R_reads' HR.out)
     clear hH h4 hb4
     go_wp2_with (go_at_call 12; refine Stop0.out ?_)
     refine ⟨?_⟩
     refine (addr_Of.calls k _ _ b r1 r2 _ HC.out.2.2 HC.out.2.1 HO.out).mono ?_
     rintro e w9 ⟨rfl, ⟨nd, rfl⟩⟩
     have HBD := m_ (pw_below_drewN HB.out nd)
     generalize World.drewN _ nd = w10 at HBD ⊢
     go_wp2
     try rw [Exit.noGoto_ret]
     go_ret2
     exact ⟨rfl, HBD.out⟩
    ·have e4 : ((b.length : Int) != 4) = true := bne_iff_ne.2 (by omega)
     have hH := HH.out
     rw [if_pos (by omega)] at hH
     obtain ⟨rfl, rfl⟩ := Prod.mk.inj (Option.some.inj hH)
     clear hH h4 hb4
     go_wp2
     try rw [Exit.noGoto_ret]
     go_ret2
     exact ⟨rfl, HB.out⟩
   ·have d4 : ((P.length : Int) != 4) = true := bne_iff_ne.2 (by omega)
    have hH := HH.out
    rw [if_pos (by omega)] at hH
    obtain ⟨rfl, rfl⟩ := Prod.mk.inj (Option.some.inj hH)
    clear hH h4
    go_wp2
    try rw [Exit.noGoto_ret]
    go_ret2
    exact ⟨rfl, HB.out⟩

-- NOT PRINTED: function 62 (abi_NoEscape)

-- NOT PRINTED: function 49 (strings_Builder_copyCheck)

-- NOT PRINTED: function 63 (bytealg_MakeNoZero)

-- NOT PRINTED: function 50 (strings_Builder_grow)

-- NOT PRINTED: function 37 (strings_Builder_Grow)

-- NOT PRINTED: function 38 (strings_Builder_WriteString)

-- NOT PRINTED: function 39 (strings_Builder_String)

-- NOT PRINTED: function 31 (strings_Join)

/-! ### addr_part: function 30 -/
def addr_part.f (a0 : Int) (a1 : Int) : Option (Int) := if 0 ≤ (wrap64 (24 - (wrap64 (8 * a1)))) then (some ((shr .u32 a0 (wrap64 (24 - (wrap64 (8 * a1))))) % 256)) else (none)
set_option maxHeartbeats 8000000 in
set_option maxRecDepth 100000 in
theorem addr_part.calls (a0 : Int) (a1 : Int) (r : Int) (w : World) (h : addr_part.f a0 a1 = some r) :
  Calls Tryd.prog 30 #[.int .u32 a0, .int .i64 a1] w fun e w' => e = .returned (.int .u8 r) ∧ Drawn0 w w' := by
 have H : (if 0 ≤ (wrap64 (24 - (wrap64 (8 * a1)))) then (some ((shr .u32 a0 (wrap64 (24 - (wrap64 (8 * a1))))) % 256)) else (none)) = some r := h
 clear h
 obtain ⟨ji3, hji3⟩ : ∃ j_ : Int, (wrap64 (24 - (wrap64 (8 * a1)))) = j_ := ⟨_, rfl⟩
 replace H : (if 0 ≤ (ji3) then (some ((shr .u32 a0 (ji3)) % 256)) else (none)) = some r := by first | (rw [hji3] at H; exact H) | (simp only [hji3] at H ⊢; exact H)
 have hji3w : (IntKind.i64.wrap (24 - (wrap64 (8 * a1)))) = ji3 := (i64_w _).trans hji3
 by_cases c4 : 0 ≤ (ji3)
 ·rw [if_pos c4] at H
  have c4b0 := eq_true c4
  have c4b1 : decide (0 ≤ (ji3)) = true := decide_eq_true c4
  clear c4
  obtain ⟨ji5, hji5⟩ : ∃ j_ : Int, (shr .u32 a0 (ji3)) = j_ := ⟨_, rfl⟩
  replace H : (some ((ji5) % 256)) = some r := by first | (rw [hji5] at H; exact H) | (simp only [hji5] at H ⊢; exact H)
  have hji5_ : (a0 / 2 ^ min (ji3).toNat 32) = ji5 := hji5
  have hji5z : (ji3) ≤ 32 → (a0 / 2 ^ (ji3).toNat) = ji5 := shr_small hji5
  obtain rfl := Option.some.inj H
  go_enter Tryd.func30, Tryd.ntmps30
  go_wp2
  go_ret
  exact ⟨(by first | rfl | (simp; done) | (simp only [← hji3, ← hji5] <;> (first | rfl | simp)) | (simp [*]; done)), (by repeat (first | exact Drawn0.refl _ | apply Drawn0.step))⟩
 ·rw [if_neg c4] at H
  exact absurd H (by simp)

/-! ### addr_Text: function 14, by hand (addr.Text.lean.tpl) -/
theorem itoa_short (p : Int) (h : 0 ≤ p ∧ p ≤ 255) : (Lib.itoa p).length ≤ 3 := by
 unfold Lib.itoa
 rw [if_neg (by omega)]
 obtain ⟨u, rfl⟩ : ∃ u : Nat, p = u := ⟨p.toNat, by omega⟩
 rw [Int.toNat_natCast, Lib.decDigits]
 split
 ·simp
 rw [Lib.decDigits]
 split
 ·simp
 rw [Lib.decDigits]
 rw [dif_pos (by omega)]
 simp
theorem join4 (a b c d : List UInt8) : Lib.join [a, b, c, d] [46] = a ++ (46 :: (b ++ (46 :: (c ++ (46 :: d))))) := by
 simp [Lib.join, List.intercalate, List.intersperse]
def textOf (p0 p1 p2 p3 : Int) : ByteArray := ⟨(Lib.join [Lib.itoa p0, Lib.itoa p1, Lib.itoa p2, Lib.itoa p3] [46]).toArray⟩
def addr_Text.f (a : Int) : Option ByteArray :=
 (addr_part.f a 0).bind fun p0 => (addr_part.f a 1).bind fun p1 => (addr_part.f a 2).bind fun p2 => (addr_part.f a 3).bind fun p3 =>
  if (0 ≤ p0 ∧ p0 ≤ 255) ∧ (0 ≤ p1 ∧ p1 ≤ 255) ∧ (0 ≤ p2 ∧ p2 ≤ 255) ∧ (0 ≤ p3 ∧ p3 ≤ 255) then some (textOf p0 p1 p2 p3) else none
set_option maxHeartbeats 4000000 in
theorem one_calls (gb : Nat) (a i p : Int) (w : World) (hB : w.heap[gb]? = some (.cells #[.int .u32 a] 25 (0, 0))) (hp : addr_part.f a i = some p) (h0 : 0 ≤ p) (h1 : p ≤ 255) (hL : LaidW w) :
  Calls Tryd.prog 29 #[.int .i64 i, .pointer (some ⟨gb, 0, none⟩)] w fun e w' => e = .returned (.string (itoaB p)) ∧ Below w.heap.size w w' := by
 have cB : w.cell? ⟨gb, 0, none⟩ = some (.int .u32 a) := blk_cell hB 0
 have HP := m_ hp
 have HL := m_ hL
 have H01 := m_ (And.intro h0 h1)
 clear hp hL h0 h1 hB
 go_enter Tryd.func29, Tryd.ntmps29
 go_wp2_with (go_at_call 30; refine Stop0.out ?_)
 refine ⟨?_⟩
 refine (addr_part.calls a i p _ HP.out).mono ?_
 rintro e w1 ⟨rfl, ⟨nd, rfl⟩⟩
 have HL1 := m_ (HL.out.below (pw_below_drewN (Below.refl _ _) nd))
 have hw : wrap64 p = p := by have := H01.out; unfold wrap64; omega
 go_wp2_with (go_at_call 28; refine Stop0.out ?_)
 refine ⟨?_⟩
 rw [hw]
 refine (itoa_calls p H01.out.1 H01.out.2 _ HL1.out).mono ?_
 rintro e w2 ⟨rfl, hb⟩
 have HB := m_ (below_step (pw_below_drewN (Below.refl w.heap.size w) nd) hb)
 clear hb hw
 go_wp2
 go_ret
 exact ⟨rfl, HB.out⟩
set_option maxHeartbeats 4000000 in
theorem addr_Text.calls (a0 : Int) (r : ByteArray) (w : World) (hL : LaidW w) (h : addr_Text.f a0 = some r) :
  Calls Tryd.prog 14 #[.int .u32 a0] w fun e w' => e = .returned (.string r) ∧ Below w.heap.size w w' := by
 unfold addr_Text.f at h
 obtain ⟨p0, A0, h⟩ := Option.bind_eq_some_iff.mp h
 obtain ⟨p1, A1, h⟩ := Option.bind_eq_some_iff.mp h
 obtain ⟨p2, A2, h⟩ := Option.bind_eq_some_iff.mp h
 obtain ⟨p3, A3, h⟩ := Option.bind_eq_some_iff.mp h
 split at h
 case isFalse => cases h
 case isTrue hok =>
 obtain rfl := Option.some.inj h
 have HA := m_ (And.intro A0 (And.intro A1 (And.intro A2 A3)))
 have HOK := m_ hok
 have HL := m_ hL
 have hmf : ∀ (fn : Fn) (first cap : Array Value) (w : World), (Instr.makeFunc fn first cap).run Tryd.prog w = .ok (.func fn first cap) w := fun _ _ _ _ => rfl
 have HBX := m_ (blk_new w (.cells #[.int .u32 a0] 25))
 have HB0 := m_ (below_alloc (Below.refl w.heap.size w) (.cells #[.int .u32 a0] 25))
 clear A0 A1 A2 A3 h hok hL
 go_enter Tryd.func14, Tryd.ntmps14
 go_wp2_with (go_at_call 29; refine Stop0.out ?_)
 refine ⟨?_⟩
 generalize (w.alloc _) = w1 at HBX HB0 ⊢
 refine (one_calls w.heap.size a0 0 p0 _ HBX.out HA.out.1 HOK.out.1.1 HOK.out.1.2 (HL.out.below HB0.out)).mono ?_
 rintro e w2 ⟨rfl, hb⟩
 have HBX2 := m_ (blk_below HBX.out hb)
 have HB2 := m_ (below_step HB0.out hb)
 clear hb HB0 HBX
 go_wp2_with (go_at_call 29; refine Stop0.out ?_)
 refine ⟨?_⟩
 refine (one_calls w.heap.size a0 1 p1 _ HBX2.out HA.out.2.1 HOK.out.2.1.1 HOK.out.2.1.2 (HL.out.below HB2.out)).mono ?_
 rintro e w3 ⟨rfl, hb⟩
 have HBX3 := m_ (blk_below HBX2.out hb)
 have HB3 := m_ (below_step HB2.out hb)
 clear hb HB2 HBX2
 go_wp2_with (go_at_call 29; refine Stop0.out ?_)
 refine ⟨?_⟩
 refine (one_calls w.heap.size a0 2 p2 _ HBX3.out HA.out.2.2.1 HOK.out.2.2.1.1 HOK.out.2.2.1.2 (HL.out.below HB3.out)).mono ?_
 rintro e w4 ⟨rfl, hb⟩
 have HBX4 := m_ (blk_below HBX3.out hb)
 have HB4 := m_ (below_step HB3.out hb)
 clear hb HB3 HBX3
 go_wp2_with (go_at_call 29; refine Stop0.out ?_)
 refine ⟨?_⟩
 refine (one_calls w.heap.size a0 3 p3 _ HBX4.out HA.out.2.2.2 HOK.out.2.2.2.1 HOK.out.2.2.2.2 (HL.out.below HB4.out)).mono ?_
 rintro e w5 ⟨rfl, hb⟩
 have HB5 := m_ (below_step HB4.out hb)
 clear hb HB4 HBX4 hmf
 go_wp2_with (go_at_call 31; refine Stop0.out ?_)
 refine ⟨?_⟩
 have hn := blk_new w5 (.cells #[.string (itoaB p0), .string (itoaB p1), .string (itoaB p2), .string (itoaB p3)] 9)
 have HB6 := m_ (below_alloc HB5.out (.cells #[.string (itoaB p0), .string (itoaB p1), .string (itoaB p2), .string (itoaB p3)] 9))
 generalize (w5.alloc _) = w6 at hn HB6 ⊢
 refine (Tryd.strings_Join w5.heap.size 0 4 [itoaB p0, itoaB p1, itoaB p2, itoaB p3] ⟨#[46]⟩ w6 ?c1 (blk_lt hn) (by simp) (by simp) ?c3).mono ?_
 case c1 =>
  intro j x hx
  rw [Nat.zero_add, blk_cell hn j]
  match j, hx with
  | 0, hx => cases hx; rfl
  | 1, hx => cases hx; rfl
  | 2, hx => cases hx; rfl
  | 3, hx => cases hx; rfl
  | j + 4, hx => simp at hx
 case c3 =>
  have h0 := itoa_short p0 HOK.out.1
  have h1 := itoa_short p1 HOK.out.2.1
  have h2 := itoa_short p2 HOK.out.2.2.1
  have h3 := itoa_short p3 HOK.out.2.2.2
  show (Lib.join [Lib.itoa p0, Lib.itoa p1, Lib.itoa p2, Lib.itoa p3] [46]).length ≤ _
  rw [join4]
  simp only [List.length_append, List.length_cons, List.length_nil]
  omega
 rintro e w7 ⟨rfl, hb⟩
 have HB7 := m_ (below_step HB6.out hb)
 clear hb hn
 go_wp2
 go_ret
 exact ⟨rfl, HB7.out⟩

/-! ### addr_Bytes: function 15, by hand (addr.Bytes.lean.tpl) -/
/-- The byte at a place of an address. -/
def partV (a : Int) (i : Nat) : Int := if i = 0 then a / 16777216 % 256 else if i = 1 then a / 65536 % 256 else if i = 2 then a / 256 % 256 else a % 256
def partsTo (a : Int) (i : Nat) : List Int := (List.range 4).map (fun j => if j < i then partV a j else 0)
theorem partsTo_set (a : Int) (i : Nat) (hi : i < 4) : (partsTo a i).set i (partV a i) = partsTo a (i + 1) := by
 unfold partsTo
 refine List.ext_getElem (by simp) (fun j h1 h2 => ?_)
 rw [List.getElem_set, List.getElem_map, List.getElem_map, List.getElem_range]
 by_cases e : i = j
 ·subst e; rw [if_pos rfl, if_pos (by omega)]
 ·rw [if_neg e]
  by_cases h : j < i
  ·rw [if_pos h, if_pos (by omega)]
  ·rw [if_neg h, if_neg (by omega)]
def bytes4 (a : Int) : List Int := [a / 16777216 % 256, a / 65536 % 256, a / 256 % 256, a % 256]
theorem partsTo_all (a : Int) : partsTo a 4 = bytes4 a := rfl
theorem partsTo_len (a : Int) (i : Nat) : (partsTo a i).length = 4 := by simp [partsTo]
theorem part_ok (a : Int) (i : Nat) (hi : i < 4) : addr_part.f a (i : Int) = some (partV a i) := by
 unfold addr_part.f partV shr
 have h : i = 0 ∨ i = 1 ∨ i = 2 ∨ i = 3 := by omega
 rcases h with rfl | rfl | rfl | rfl
 ·have e : wrap64 (24 - wrap64 (8 * ((0 : Nat) : Int))) = 24 := by decide +kernel
  rw [e]; rfl
 ·have e : wrap64 (24 - wrap64 (8 * ((1 : Nat) : Int))) = 16 := by decide +kernel
  rw [e]; rfl
 ·have e : wrap64 (24 - wrap64 (8 * ((2 : Nat) : Int))) = 8 := by decide +kernel
  rw [e]; rfl
 ·have e : wrap64 (24 - wrap64 (8 * ((3 : Nat) : Int))) = 0 := by decide +kernel
  rw [e]
  rw [if_pos (by omega), if_neg (by omega), if_neg (by omega), if_neg (by omega)]
  simp
def addr_Bytes.f (a0 : Int) : Option (List Int) := some (bytes4 a0)
set_option maxHeartbeats 1000000 in
theorem addr_Bytes.calls (a0 : Int) (r : List Int) (w : World) (h : addr_Bytes.f a0 = some r) :
  Calls Tryd.prog 15 #[.int .u32 a0] w fun e w' => ∃ v0_ : Value, e = .returned (v0_) ∧ Kd.R (Kd.int .u8) 5 w' w.heap.size (fun _ => True) v0_ r ∧ Below w.heap.size w w' := by
 obtain rfl := Option.some.inj h
 clear h
 go_enter Tryd.func15, Tryd.ntmps15
 go_wp2_with ((with_reducible refine gate_dst (N := 5) rfl ?_); refine Stop0.out ?_)
 refine ⟨?_⟩
 refine Kd.R_make (Kd.int .u8) (w0 := w) w.heap.size 5 (by rfl) (N := 5) (by rfl) 22 (.const (.int .i64 4)) (.const (.int .i64 4)) (by rfl) 4 (by rfl) (by rfl) Tryd.underlying22 (.int .u8 0) 1 info5 rfl (by decide) (by omega) 0 (ok := fun _ => True) (okp := fun _ => False) rfl (fun _ h => h.elim) trivial (by omega) (by decide) (Below.refl _ _) (Nat.le_refl _) ?_
 intro v1 w1 hR hB _ _
 have HR := m_ (show Kd.R (Kd.int .u8) 5 w1 w.heap.size (fun _ => True) v1 (partsTo a0 0) from hR)
 have HB := m_ hB
 obtain ⟨g, cap, rfl, _⟩ := Kd.R_form HR.out (by rw [partsTo_len]; omega)
 rw [partsTo_len] at HR ⊢
 clear hR hB
 go_wp2
 go_loopg [4, 8] 4 (fun gg _ s8 wr => ∃ i : Nat, i ≤ 4 ∧ 4 - i ≤ gg ∧ s8 = .int .i64 i ∧ Aside0 (Kd.R (Kd.int .u8) 5 wr w.heap.size (fun _ => True) (.slice (some ⟨g, 0, none⟩) 4 cap) (partsTo a0 i)) ∧ Aside0 (Below w.heap.size w wr))
 case atStart => exact ⟨0, by omega, by omega, rfl, HR, HB⟩
 case round =>
  clear HR HB
  obtain ⟨i, hi, hg, rfl, HR, HB⟩ := hrel
  by_cases hlt : i < 4
  ·have hlt' : (i : Int) < 4 := by omega
   go_wp2_with (go_at_call 30; refine Stop0.out ?_)
   refine ⟨?_⟩
   refine (addr_part.calls a0 (i : Int) (partV a0 i) _ (part_ok a0 i hlt)).mono ?_
   rintro e w2 ⟨rfl, hdr⟩
   have HR2 := m_ (Kd.R_below HR.out hdr.below)
   have HB2 := m_ (below_then HB.out HB.out.size hdr.below)
   have hgb := Kd.R_base HR2.out g rfl
   obtain ⟨c1, f1⟩ := Kd.R_celln 0 HR2.out (i : Int) (by omega) (by omega)
   have hput := Kd.R_putg HR2.out (i : Int) (partV a0 i)
   rw [Int.toNat_natCast] at c1 f1 hput
   rw [partsTo_set a0 i hlt] at hput
   have HP := m_ hput
   have HGB := m_ hgb
   clear hput hgb hdr HR HB HR2
   generalize partV a0 i = z at HP ⊢
   go_wp2
   clear c1 f1
   go_roundg (4 - (i + 1))
   case measure => omega
   case rel => exact ⟨i + 1, by omega, by omega, by go_num, ⟨HP.out.1⟩, ⟨HB2.out.setCell HGB.out _⟩⟩
  ·have hlt' : ¬ (i : Int) < 4 := by omega
   obtain rfl : i = 4 := by omega
   go_wp2
   go_ret
   exact ⟨_, rfl, HR.out, HB.out⟩

/-! ### addr_IsLocal: function 21 -/
def addr_IsLocal.f (a0 : Int) : Option (Bool) := some ((a0 / 256) == 14680064)
set_option maxHeartbeats 8000000 in
set_option maxRecDepth 100000 in
theorem addr_IsLocal.calls (a0 : Int) (r : Bool) (w : World) (h : addr_IsLocal.f a0 = some r) :
  Calls Tryd.prog 21 #[.int .u32 a0] w fun e w' => e = .returned (.bool r) ∧ Drawn0 w w' := by
 have H : (some ((a0 / 256) == 14680064)) = some r := h
 clear h
 obtain rfl := Option.some.inj H
 go_enter Tryd.func21, Tryd.ntmps21
 go_wp2
 go_ret
 exact ⟨(by first | rfl | (simp; done) | (simp [*]; done)), (by repeat (first | exact Drawn0.refl _ | apply Drawn0.step))⟩

/-! ### addr_IsGroup: function 19 -/
def addr_IsGroup.f (a0 : Int) : Option (Bool) := some ((a0 / 268435456) == 14)
set_option maxHeartbeats 8000000 in
set_option maxRecDepth 100000 in
theorem addr_IsGroup.calls (a0 : Int) (r : Bool) (w : World) (h : addr_IsGroup.f a0 = some r) :
  Calls Tryd.prog 19 #[.int .u32 a0] w fun e w' => e = .returned (.bool r) ∧ Drawn0 w w' := by
 have H : (some ((a0 / 268435456) == 14)) = some r := h
 clear h
 obtain rfl := Option.some.inj H
 go_enter Tryd.func19, Tryd.ntmps19
 go_wp2
 go_ret
 exact ⟨(by first | rfl | (simp; done) | (simp [*]; done)), (by repeat (first | exact Drawn0.refl _ | apply Drawn0.step))⟩

/-! ### addr_IsAsked: function 23 -/
def addr_IsAsked.f (a0 : Int) : Option (Bool) := (addr_IsGroup.f a0).bind fun t102 => (if t102 = true then ((addr_IsLocal.f a0).bind fun t103 => (some (!t103))) else (some false))
set_option maxHeartbeats 8000000 in
set_option maxRecDepth 100000 in
theorem addr_IsAsked.calls (a0 : Int) (r : Bool) (w : World) (h : addr_IsAsked.f a0 = some r) :
  Calls Tryd.prog 23 #[.int .u32 a0] w fun e w' => e = .returned (.bool r) ∧ Drawn0 w w' := by
 have H : ((addr_IsGroup.f a0).bind fun t102 => (if t102 = true then ((addr_IsLocal.f a0).bind fun t103 => (some (!t103))) else (some false))) = some r := h
 clear h
 replace H := Option.bind_eq_some_iff.mp H
 obtain ⟨t102, A20, H⟩ := H
 replace H : (if t102 = true then ((addr_IsLocal.f a0).bind fun t103 => (some (!t103))) else (some false)) = some r := H
 have A2 := m_ A20
 clear A20
 by_cases c3 : t102 = true
 ·subst c3
  have H1 : ((addr_IsLocal.f a0).bind fun t103 => (some (!t103))) = some r := by rw [if_pos rfl] at H; exact H
  clear H
  have H := H1
  clear H1
  replace H := Option.bind_eq_some_iff.mp H
  obtain ⟨t103, A40, H⟩ := H
  replace H : (some (!t103)) = some r := H
  have A4 := m_ A40
  clear A40
  obtain rfl := Option.some.inj H
  go_enter Tryd.func23, Tryd.ntmps23
  go_wp2_with (first | ((with_reducible refine gate_callee (f := 19) rfl ?_); refine gL_ (some 4) Tryd.func19 #[.int .u32 a0] ?_; (with_reducible refine (addr_IsGroup.calls a0 true _ A2.out).mono ?_); rintro e w' ⟨rfl, ⟨nd, rfl⟩⟩; refine ⟨_, rfl, ?_⟩) | (go_at_call 21; (with_reducible refine (addr_IsLocal.calls a0 t103 _ A4.out).mono ?_); rintro e w' ⟨rfl, ⟨nd, rfl⟩⟩))
  go_ret
  exact ⟨(by first | rfl | (simp; done) | (simp [*]; done)), (by repeat (first | exact Drawn0.refl _ | apply Drawn0.step))⟩
 ·replace c3 := Bool.eq_false_iff.mpr c3
  subst c3
  have H1 : (some false) = some r := by rw [if_neg (show ¬ (false = true) by decide)] at H; exact H
  clear H
  have H := H1
  clear H1
  obtain rfl := Option.some.inj H
  go_enter Tryd.func23, Tryd.ntmps23
  go_wp2_with (first | ((with_reducible refine gate_callee (f := 19) rfl ?_); refine gL_ (some 4) Tryd.func19 #[.int .u32 a0] ?_; (with_reducible refine (addr_IsGroup.calls a0 false _ A2.out).mono ?_); rintro e w' ⟨rfl, ⟨nd, rfl⟩⟩; refine ⟨_, rfl, ?_⟩))
  go_ret
  exact ⟨(by first | rfl | (simp; done) | (simp [*]; done)), (by repeat (first | exact Drawn0.refl _ | apply Drawn0.step))⟩

/-! ### stolonlaw01_shown: function 9 -/
def stolonlaw01_shown.f (k : Nat)  : Option (Bool) := (addr_Parse.f k (⟨#[50, 51, 57, 46, 49, 46, 50, 46, 51]⟩ : ByteArray)).bind fun bt104 => ((addr_Text.f 3758096385).bind fun t106 => (if t106.toList = ([50, 50, 52, 46, 48, 46, 48, 46, 49] : List UInt8) then (if bt104.2 = 0 then ((addr_IsAsked.f bt104.1).bind fun t107 => (if t107 = true then ((addr_IsLocal.f 3758096385).bind fun t108 => (if t108 = true then ((addr_Bytes.f bt104.1).bind fun t109 => (some ((t109.length : Int) == 4))) else (none))) else (none))) else (none)) else (none)))
theorem stolonlaw01_shown.mono : ∀ k, LeO (stolonlaw01_shown.f k ) (stolonlaw01_shown.f (k + 1) ) := by
 intro  k
 unfold stolonlaw01_shown.f
 repeat' first
   | (with_reducible exact addr_Parse.mono _ _)
   | (with_reducible exact LeO.refl _)
   | (with_reducible exact LeO.none _)
   | (with_reducible refine LeO.ite ?_ ?_)
   | (with_reducible refine LeO.bind ?_ (fun _ => ?_))
   | exact addr_Parse.mono _ _
   | exact LeO.none _
   | refine LeO.ite ?_ ?_
   | refine LeO.bind ?_ (fun _ => ?_)
set_option maxHeartbeats 8000000 in
set_option maxRecDepth 100000 in
theorem stolonlaw01_shown.calls (k : Nat)  (r : Bool) (w : World) (hL : LaidW w) (h : stolonlaw01_shown.f k  = some r) :
  Calls Tryd.prog 9 #[] w fun e w' => e = .returned (.bool r) ∧ Below w.heap.size w w' := by
 have HLW := m_ hL
 clear hL
 have HB := m_ (Below.refl w.heap.size w)
 have H : ((addr_Parse.f k (⟨#[50, 51, 57, 46, 49, 46, 50, 46, 51]⟩ : ByteArray)).bind fun bt104 => ((addr_Text.f 3758096385).bind fun t106 => (if t106.toList = ([50, 50, 52, 46, 48, 46, 48, 46, 49] : List UInt8) then (if bt104.2 = 0 then ((addr_IsAsked.f bt104.1).bind fun t107 => (if t107 = true then ((addr_IsLocal.f 3758096385).bind fun t108 => (if t108 = true then ((addr_Bytes.f bt104.1).bind fun t109 => (some ((t109.length : Int) == 4))) else (none))) else (none))) else (none)) else (none)))) = some r := h
 clear h
 replace H := Option.bind_eq_some_iff.mp H
 obtain ⟨⟨t104, t105⟩, A10, H⟩ := H
 replace H : ((addr_Text.f 3758096385).bind fun t106 => (if t106.toList = ([50, 50, 52, 46, 48, 46, 48, 46, 49] : List UInt8) then (if t105 = 0 then ((addr_IsAsked.f t104).bind fun t107 => (if t107 = true then ((addr_IsLocal.f 3758096385).bind fun t108 => (if t108 = true then ((addr_Bytes.f t104).bind fun t109 => (some ((t109.length : Int) == 4))) else (none))) else (none))) else (none)) else (none))) = some r := H
 have A1 := m_ A10
 clear A10
 replace H := Option.bind_eq_some_iff.mp H
 obtain ⟨t106, A20, H⟩ := H
 replace H : (if t106.toList = ([50, 50, 52, 46, 48, 46, 48, 46, 49] : List UInt8) then (if t105 = 0 then ((addr_IsAsked.f t104).bind fun t107 => (if t107 = true then ((addr_IsLocal.f 3758096385).bind fun t108 => (if t108 = true then ((addr_Bytes.f t104).bind fun t109 => (some ((t109.length : Int) == 4))) else (none))) else (none))) else (none)) else (none)) = some r := H
 have A2 := m_ A20
 clear A20
 by_cases c3 : t106.toList = ([50, 50, 52, 46, 48, 46, 48, 46, 49] : List UInt8)
 ·rw [if_pos c3] at H
  have c3b0 : (t106.toList == ([50, 50, 52, 46, 48, 46, 48, 46, 49] : List UInt8)) = true := beq_iff_eq.mpr c3
  have c3b1 : (t106.toList != ([50, 50, 52, 46, 48, 46, 48, 46, 49] : List UInt8)) = false := bne_eq_false_iff_eq.mpr c3
  clear c3
  by_cases c4 : t105 = 0
  ·rw [if_pos c4] at H
   have c4b0 : (t105 == 0) = true := beq_iff_eq.mpr c4
   have c4b1 : (t105 != 0) = false := bne_eq_false_iff_eq.mpr c4
   clear c4
   replace H := Option.bind_eq_some_iff.mp H
   obtain ⟨t107, A50, H⟩ := H
   replace H : (if t107 = true then ((addr_IsLocal.f 3758096385).bind fun t108 => (if t108 = true then ((addr_Bytes.f t104).bind fun t109 => (some ((t109.length : Int) == 4))) else (none))) else (none)) = some r := H
   have A5 := m_ A50
   clear A50
   by_cases c6 : t107 = true
   ·subst c6
    have H1 : ((addr_IsLocal.f 3758096385).bind fun t108 => (if t108 = true then ((addr_Bytes.f t104).bind fun t109 => (some ((t109.length : Int) == 4))) else (none))) = some r := by rw [if_pos rfl] at H; exact H
    clear H
    have H := H1
    clear H1
    replace H := Option.bind_eq_some_iff.mp H
    obtain ⟨t108, A70, H⟩ := H
    replace H : (if t108 = true then ((addr_Bytes.f t104).bind fun t109 => (some ((t109.length : Int) == 4))) else (none)) = some r := H
    have A7 := m_ A70
    clear A70
    by_cases c8 : t108 = true
    ·subst c8
     have H1 : ((addr_Bytes.f t104).bind fun t109 => (some ((t109.length : Int) == 4))) = some r := by rw [if_pos rfl] at H; exact H
     clear H
     have H := H1
     clear H1
     replace H := Option.bind_eq_some_iff.mp H
     obtain ⟨t109, A90, H⟩ := H
     replace H : (some ((t109.length : Int) == 4)) = some r := H
     have A9 := m_ A90
     clear A90
     obtain rfl := Option.some.inj H
     go_enter Tryd.func9, Tryd.ntmps9
     go_wp2_with (first | ((with_reducible refine gate_callee (f := 10) rfl ?_); refine gL_ (some 4) Tryd.func10 #[.string (⟨#[50, 51, 57, 46, 49, 46, 50, 46, 51]⟩ : ByteArray)] ?_; (with_reducible refine (addr_Parse.calls k (⟨#[50, 51, 57, 46, 49, 46, 50, 46, 51]⟩ : ByteArray) t104 t105 _ (LaidW.below HLW.out bz_) A1.out).mono ?_); rintro e w10 ⟨rfl, hb⟩; refine ⟨_, rfl, ?_⟩; replace HB := m_ (below_step bz_ hb); (try clear hb); (try clear hb2); (try clear hk); (try clear hi)) | ((with_reducible refine gate_callee (f := 14) rfl ?_); refine gL_ (some 7) Tryd.func14 #[.int .u32 3758096385] ?_; (with_reducible refine (addr_Text.calls 3758096385 t106 _ (LaidW.below HLW.out bz_) A2.out).mono ?_); rintro e w11 ⟨rfl, hb⟩; refine ⟨_, rfl, ?_⟩; replace HB := m_ (below_step bz_ hb); (try clear hb); (try clear hb2); (try clear hk); (try clear hi)) | (go_at_call 23; (with_reducible refine (addr_IsAsked.calls t104 true _ A5.out).mono ?_); rintro e w' ⟨rfl, ⟨nd, rfl⟩⟩) | (go_at_call 21; (with_reducible refine (addr_IsLocal.calls 3758096385 true _ A7.out).mono ?_); rintro e w' ⟨rfl, ⟨nd, rfl⟩⟩) | (go_at_call 15; (with_reducible refine (addr_Bytes.calls t104 t109 _ A9.out).mono ?_); rintro e w12 ⟨v110, rfl, ho0, hb⟩; have HO111 := m_ (Kd.R_lower ho0 (below_size bz_)); replace HB := m_ (below_step bz_ hb); (try clear hb); (try clear hb2); (try clear hk); (try clear hi); (try clear ho0); obtain ⟨Ao13, co13, eo13⟩ := Kd.R_slice HO111.out; subst eo13))
     go_ret
     exact ⟨ew_, bz_⟩
    ·replace c8 := Bool.eq_false_iff.mpr c8
     subst c8
     have H1 : (none) = some r := by rw [if_neg (show ¬ (false = true) by decide)] at H; exact H
     clear H
     have H := H1
     clear H1
     exact absurd H (by simp)
   ·replace c6 := Bool.eq_false_iff.mpr c6
    subst c6
    have H1 : (none) = some r := by rw [if_neg (show ¬ (false = true) by decide)] at H; exact H
    clear H
    have H := H1
    clear H1
    exact absurd H (by simp)
  ·rw [if_neg c4] at H
   exact absurd H (by simp)
 ·rw [if_neg c3] at H
  exact absurd H (by simp)

/-! ### stolonref01_Bytes: function 18 -/
def stolonref01_Bytes.f (a0 : Int) : Option (List Int) := some (([((Int.tdiv a0 16777216) % 4294967296) % 256, ((Int.tdiv a0 65536) % 4294967296) % 256, ((Int.tdiv a0 256) % 4294967296) % 256, (Int.tmod a0 256) % 256] : List Int))
set_option maxHeartbeats 8000000 in
set_option maxRecDepth 100000 in
theorem stolonref01_Bytes.calls (a0 : Int) (r : List Int) (w : World) (h : stolonref01_Bytes.f a0 = some r) :
  Calls Tryd.prog 18 #[.int .u32 a0] w fun e w' => ∃ v0_ : Value, e = .returned (v0_) ∧ Kd.R (Kd.int .u8) 5 w' w.heap.size (fun _ => True) v0_ r ∧ Below w.heap.size w w' := by
 have HB := m_ (Below.refl w.heap.size w)
 have H : (some (([((Int.tdiv a0 16777216) % 4294967296) % 256, ((Int.tdiv a0 65536) % 4294967296) % 256, ((Int.tdiv a0 256) % 4294967296) % 256, (Int.tmod a0 256) % 256] : List Int))) = some r := h
 clear h
 obtain ⟨y112, hy112⟩ : ∃ y_ : List Int, y_ = (([((Int.tdiv a0 16777216) % 4294967296) % 256, ((Int.tdiv a0 65536) % 4294967296) % 256, ((Int.tdiv a0 256) % 4294967296) % 256, (Int.tmod a0 256) % 256] : List Int)) := ⟨_, rfl⟩
 replace H : (some y112) = some r := by first | (rw [hy112]; with_reducible exact H) | (have H2_ := (Option.bind_some _ _).symm.trans H; rw [hy112]; with_reducible exact H2_) | (have H2_ := (Option.bind_some _ _).symm.trans H; with_reducible exact H2_) | with_reducible exact H | (rw [hy112]; exact H) | exact H
 have Ny112 := m_ hy112
 clear hy112
 obtain rfl := Option.some.inj H
 go_enter Tryd.func18, Tryd.ntmps18
 go_wp2_with (first | ((with_reducible refine gate_dst (N := 19) rfl ?_); refine Kd.R_lit (Kd.int .u8) _ 5 ?hg (N := 19) ?hd (xs := ([((Int.tdiv a0 16777216) % 4294967296) % 256, ((Int.tdiv a0 65536) % 4294967296) % 256, ((Int.tdiv a0 256) % 4294967296) % 256, (Int.tmod a0 256) % 256] : List Int)) (inner := [.int .u8 (((Int.tdiv a0 16777216) % 4294967296) % 256), .int .u8 (((Int.tdiv a0 65536) % 4294967296) % 256), .int .u8 (((Int.tdiv a0 256) % 4294967296) % 256), .int .u8 ((Int.tmod a0 256) % 256)]) (ok := fun _ => True) (okp := fun _ => True) ?hr ?hp (fun _ hk => hk) trivial (Below.refl _ _) (Nat.le_refl _) (by simp) ?_; (case hd => rfl); (case hg => rfl); (case hr => first | (go_simp; done) | (go_simp; rfl)); (case hp => exact (Reps.one (show Kd.M (Kd.int .u8) _ _ _ (((Int.tdiv a0 16777216) % 4294967296) % 256) [.int .u8 (((Int.tdiv a0 16777216) % 4294967296) % 256)] from rfl) (Reps.one (show Kd.M (Kd.int .u8) _ _ _ (((Int.tdiv a0 65536) % 4294967296) % 256) [.int .u8 (((Int.tdiv a0 65536) % 4294967296) % 256)] from rfl) (Reps.one (show Kd.M (Kd.int .u8) _ _ _ (((Int.tdiv a0 256) % 4294967296) % 256) [.int .u8 (((Int.tdiv a0 256) % 4294967296) % 256)] from rfl) (Reps.one (show Kd.M (Kd.int .u8) _ _ _ ((Int.tmod a0 256) % 256) [.int .u8 ((Int.tmod a0 256) % 256)] from rfl) (Reps.none _ _)))))); intro v113 w2 ho3 hb hg_ hnew_; clear hg_ hnew_; (first | rw [← Ny112.out] at ho3 | (simp only [Int.reduceToNat] at ho3; rw [← Ny112.out] at ho3)); have HO114 := m_ (Kd.R_lower ho3 (below_size bz_)); replace HB := m_ (below_step bz_ hb); clear hb ho3))
 go_ret
 exact ⟨_, ew_, (Rz_ HO114.out), bz_⟩

end Go.Proofs.YtplkfpfgnccffaaDoor.P

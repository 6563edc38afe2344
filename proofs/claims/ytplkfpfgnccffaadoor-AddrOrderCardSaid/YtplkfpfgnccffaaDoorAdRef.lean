/- The document's own functions of addresses. Plain lemmas. -/
import Derived.Test.YtplkfpfgnccffaaDoorAdText
import Derived.Test.YtplkfpfgnccffaaDoorPx1
import Derived.Test.YtplkfpfgnccffaaDoorPx2
import Derived.Test.YtplkfpfgnccffaaDoorPx3
import Derived.Test.YtplkfpfgnccffaaDoorPx4
import Derived.Test.YtplkfpfgnccffaaDoorPx8
namespace Go.Proofs.YtplkfpfgnccffaaDoor.P
set_option linter.unusedVariables false
set_option linter.unusedSimpArgs false
open Go.RowKit Go.Proofs.YtplkfpfgnccffaaDoorW.PrintWords Go.Proofs.YtplkfpfgnccffaaDoorW.PrintLast Go.Proofs.YtplkfpfgnccffaaDoorW.PrintMore
theorem figures_all : ∀ p : Fin 256, (stolonref01_figures.f (p.val : Int)).map (·.data.toList) = some (dg p.val) := by decide +kernel
theorem figures_ok {p : Nat} (h : p < 256) : ∃ t, stolonref01_figures.f (p : Int) = some t ∧ t.data.toList = dg p ∧ t.size ≤ 3 := by
  have h1 := figures_all ⟨p, h⟩
  obtain ⟨t, ht, hd⟩ := Option.map_eq_some_iff.1 h1
  refine ⟨t, ht, hd, ?_⟩
  have := (dg_facts ⟨p, h⟩).2.2.2
  rw [← hd, Array.length_toList] at this
  exact this
theorem rbytes_ok {a b c d : Nat} (ha : a < 256) (hb : b < 256) (hc : c < 256) (hd : d < 256) : stolonref01_Bytes.f (valA a b c d) = some [(a : Int), b, c, d] := by
  have h0 : 0 ≤ valA a b c d := by unfold valA; omega
  unfold stolonref01_Bytes.f
  rw [Int.tdiv_eq_ediv_of_nonneg h0, Int.tdiv_eq_ediv_of_nonneg h0, Int.tdiv_eq_ediv_of_nonneg h0, Int.tmod_eq_emod_of_nonneg h0]
  have e0 : valA a b c d / 16777216 % 4294967296 % 256 = a := by unfold valA; omega
  have e1 : valA a b c d / 65536 % 4294967296 % 256 = b := by unfold valA; omega
  have e2 : valA a b c d / 256 % 4294967296 % 256 = c := by unfold valA; omega
  have e3 : valA a b c d % 256 % 256 = d := by unfold valA; omega
  rw [e0, e1, e2, e3]
theorem app_data (a b : ByteArray) : (a ++ b).data.toList = a.data.toList ++ b.data.toList := by
  rw [ByteArray.data_append, Array.toList_append]
theorem rtext_ok {a b c d : Nat} (ha : a < 256) (hb : b < 256) (hc : c < 256) (hd : d < 256) : ∃ t, stolonref01_Text.f (valA a b c d) = some t ∧ t.data.toList = textL a b c d := by
  obtain ⟨t0, e0, d0, s0⟩ := figures_ok ha
  obtain ⟨t1, e1, d1, s1⟩ := figures_ok hb
  obtain ⟨t2, e2, d2, s2⟩ := figures_ok hc
  obtain ⟨t3, e3, d3, s3⟩ := figures_ok hd
  have w : ∀ n : Nat, n < 256 → wrap64 (n : Int) = n := fun n hn => by unfold wrap64; omega
  have r0 : rd [(a : Int), b, c, d] 0 = a := rfl
  have r1 : rd [(a : Int), b, c, d] 1 = b := rfl
  have r2 : rd [(a : Int), b, c, d] 2 = c := rfl
  have r3 : rd [(a : Int), b, c, d] 3 = d := rfl
  have hl : (([(a : Int), b, c, d].length : Nat) : Int) = 4 := rfl
  have sd : ((⟨#[46]⟩ : ByteArray)).size = 1 := rfl
  unfold stolonref01_Text.f
  rw [rbytes_ok ha hb hc hd, Option.bind_some, hl, if_pos (by decide), r0, w _ ha, e0, Option.bind_some, if_pos (by omega), if_pos (by decide), r1, w _ hb, e1, Option.bind_some, if_pos (by rw [ByteArray.size_append, sd]; omega), if_pos (by simp only [ByteArray.size_append, sd]; omega), if_pos (by decide), r2, w _ hc, e2, Option.bind_some, if_pos (by simp only [ByteArray.size_append, sd]; omega), if_pos (by simp only [ByteArray.size_append, sd]; omega), if_pos (by decide), r3, w _ hd, e3, Option.bind_some, if_pos (by simp only [ByteArray.size_append, sd]; omega)]
  refine ⟨_, rfl, ?_⟩
  simp only [app_data, d0, d1, d2, d3]
  unfold textL
  simp
theorem bt_drop {s : ByteArray} {i : Nat} {c : UInt8} {u : List UInt8} (h : s.data.toList.drop i = c :: u) : bt s (i : Int) = (c.toNat : Int) ∧ i < s.size ∧ s.data.toList.drop (i + 1) = u := by
  have hs : s.data.toList.length = s.size := Array.length_toList
  have hi : i < s.size := Decidable.byContradiction fun hn => by
    rw [List.drop_of_length_le (by omega)] at h
    cases h
  have h2 := List.drop_eq_getElem_cons (l := s.data.toList) (i := i) (by omega)
  rw [h2] at h
  injection h with h3 h4
  refine ⟨?_, hi, h4⟩
  unfold bt
  rw [dif_pos (by rw [Int.toNat_natCast]; exact hi)]
  rw [← h3]
  rfl
theorem dstep {s : ByteArray} {i k x : Nat} {l : List Int} {c : UInt8} {u : List UInt8} (h : s.data.toList.drop i = c :: u) (h1 : 48 ≤ c.toNat) (h2 : c.toNat ≤ 57) (hx : x ≤ 255) (hs : s.size ≤ 500) : stolonref01_Parse.l0 (k + 1) s l (x : Int) (i : Int) = stolonref01_Parse.l0 k s l ((x * 10 + (c.toNat - 48) : Nat) : Int) ((i + 1 : Nat) : Int) := by
  obtain ⟨b1, b2, -⟩ := bt_drop h
  rw [stolonref01_Parse.l0, if_pos (by omega), if_pos (by omega), b1, if_neg (by omega), if_neg (by omega), if_neg (by omega), if_neg (by omega)]
  have e1 : wrap64 (wrap64 ((x : Int) * 10) + (((c.toNat : Int) - 48) % 256)) = ((x * 10 + (c.toNat - 48) : Nat) : Int) := by unfold wrap64; omega
  have e2 : wrap64 ((i : Int) + 1) = ((i + 1 : Nat) : Int) := by unfold wrap64; omega
  rw [e1, e2]
theorem dgs_run {s : ByteArray} {i p : Nat} {l : List Int} {u : List UInt8} (hp : p < 256) (h : s.data.toList.drop i = dg p ++ u) (hs : s.size ≤ 500) : (∀ k, stolonref01_Parse.l0 (k + (dg p).length) s l 0 (i : Int) = stolonref01_Parse.l0 k s l (p : Int) ((i + (dg p).length : Nat) : Int)) ∧ s.data.toList.drop (i + (dg p).length) = u := by
  have hd : ∀ n, n < 10 → (UInt8.ofNat (48 + n)).toNat = 48 + n := fun n hn => by rw [UInt8.toNat_ofNat']; omega
  by_cases h1 : p < 10
  · have e : dg p = [UInt8.ofNat (48 + p)] := if_pos h1
    rw [e] at h ⊢
    have hh := hd p h1
    refine ⟨fun k => ?_, (bt_drop h).2.2⟩
    have := dstep (k := k) (x := 0) (l := l) h (by omega) (by omega) (by omega) hs
    rw [hh, show 0 * 10 + (48 + p - 48) = p by omega] at this
    exact this
  by_cases h2 : p < 100
  · have e : dg p = [UInt8.ofNat (48 + p / 10), UInt8.ofNat (48 + p % 10)] := (if_neg h1).trans (if_pos h2)
    rw [e] at h ⊢
    have g0 := hd (p / 10) (by omega)
    have g1 := hd (p % 10) (by omega)
    obtain ⟨-, -, h'⟩ := bt_drop h
    refine ⟨fun k => ?_, (bt_drop h').2.2⟩
    have a0 := dstep (k := k + 1) (x := 0) (l := l) h (by omega) (by omega) (by omega) hs
    have a1 := dstep (k := k) (x := p / 10) (l := l) h' (by omega) (by omega) (by omega) hs
    rw [g0, show 0 * 10 + (48 + p / 10 - 48) = p / 10 by omega] at a0
    rw [g1, show p / 10 * 10 + (48 + p % 10 - 48) = p by omega] at a1
    exact a0.trans a1
  · have e : dg p = [UInt8.ofNat (48 + p / 100), UInt8.ofNat (48 + p / 10 % 10), UInt8.ofNat (48 + p % 10)] := (if_neg h1).trans (if_neg h2)
    rw [e] at h ⊢
    have g0 := hd (p / 100) (by omega)
    have g1 := hd (p / 10 % 10) (by omega)
    have g2 := hd (p % 10) (by omega)
    obtain ⟨-, -, h'⟩ := bt_drop h
    obtain ⟨-, -, h''⟩ := bt_drop h'
    refine ⟨fun k => ?_, (bt_drop h'').2.2⟩
    have a0 := dstep (k := k + 2) (x := 0) (l := l) h (by omega) (by omega) (by omega) hs
    have a1 := dstep (k := k + 1) (x := p / 100) (l := l) h' (by omega) (by omega) (by omega) hs
    have a2 := dstep (k := k) (x := p / 10) (l := l) h'' (by omega) (by omega) (by omega) hs
    rw [g0, show 0 * 10 + (48 + p / 100 - 48) = p / 100 by omega] at a0
    rw [g1, show p / 100 * 10 + (48 + p / 10 % 10 - 48) = p / 10 by omega] at a1
    rw [g2, show p / 10 * 10 + (48 + p % 10 - 48) = p by omega] at a2
    exact (a0.trans a1).trans a2
theorem pstep {s : ByteArray} {i k : Nat} {x : Int} {l : List Int} {u : List UInt8} (h : s.data.toList.drop i = 46 :: u) (hl : l.length ≤ 1000) (hs : s.size ≤ 500) : stolonref01_Parse.l0 (k + 1) s l x (i : Int) = stolonref01_Parse.l0 k s (l ++ [x]) 0 ((i + 1 : Nat) : Int) := by
  obtain ⟨b1, b2, -⟩ := bt_drop h
  have e2 : wrap64 ((i : Int) + 1) = ((i + 1 : Nat) : Int) := by unfold wrap64; omega
  rw [stolonref01_Parse.l0, if_pos (by omega), if_pos (by omega), b1, if_pos (by decide), if_pos (by omega), e2]
theorem rl1_some {s : ByteArray} {l : List Int} (hl : l.length = 4) : ∀ (d j k : Nat) (x : Int), j + d = 4 → d < k → 0 ≤ x → x ≤ 4294967295 → ∃ r, stolonref01_Parse.l1 k s l x (j : Int) = some r ∧ (r = (0, 2) ∨ ∃ a b c e : Nat, a < 256 ∧ b < 256 ∧ c < 256 ∧ e < 256 ∧ r = (valA a b c e, 0) ∧ s.data.toList = textL a b c e) := by
  intro d
  induction d with
  | zero =>
    intro j k x hj hk h0 h1
    obtain ⟨k, rfl⟩ : ∃ m, k = m + 1 := ⟨k - 1, by omega⟩
    rw [stolonref01_Parse.l1, if_neg (by omega)]
    obtain ⟨a, b, c, e, ha, hb, hc, he, hx, -⟩ := addr_bytes h0 h1
    obtain ⟨t, ht, htd⟩ := rtext_ok ha hb hc he
    rw [hx, ht, Option.bind_some, ByteArray.toList_eq, ByteArray.toList_eq, htd]
    by_cases hq : textL a b c e = s.data.toList
    · rw [if_pos hq]
      exact ⟨_, rfl, .inr ⟨a, b, c, e, ha, hb, hc, he, rfl, hq.symm⟩⟩
    · rw [if_neg hq]
      exact ⟨_, rfl, .inl rfl⟩
  | succ d ih =>
    intro j k x hj hk h0 h1
    obtain ⟨k, rfl⟩ : ∃ m, k = m + 1 := ⟨k - 1, by omega⟩
    rw [stolonref01_Parse.l1, if_pos (by omega), if_pos (by omega), if_pos (by omega)]
    split
    · exact ⟨_, rfl, .inl rfl⟩
    · rw [show wrap64 ((j : Int) + 1) = ((j + 1 : Nat) : Int) by unfold wrap64; omega]
      exact ih (j + 1) k _ (by omega) (by omega) (by omega) (by omega)
theorem rl0_some {s : ByteArray} (hs : s.size ≤ 500) : ∀ (d i k : Nat) (l : List Int) (x : Int), i + d = s.size → d + 8 ≤ k → l.length + d ≤ 600 → ∃ r, stolonref01_Parse.l0 k s l x (i : Int) = some r ∧ (r = (0, 2) ∨ ∃ a b c e : Nat, a < 256 ∧ b < 256 ∧ c < 256 ∧ e < 256 ∧ r = (valA a b c e, 0) ∧ s.data.toList = textL a b c e) := by
  intro d
  induction d with
  | zero =>
    intro i k l x hi hk hl
    obtain ⟨k, rfl⟩ : ∃ m, k = m + 1 := ⟨k - 1, by omega⟩
    rw [stolonref01_Parse.l0, if_neg (by omega), if_pos (by omega), Option.bind_some]
    split
    · rename_i h4
      exact rl1_some (by omega) 4 0 k 0 (by omega) (by omega) (by omega) (by omega)
    · exact ⟨_, rfl, .inl rfl⟩
  | succ d ih =>
    intro i k l x hi hk hl
    obtain ⟨k, rfl⟩ : ∃ m, k = m + 1 := ⟨k - 1, by omega⟩
    have e2 : wrap64 ((i : Int) + 1) = ((i + 1 : Nat) : Int) := by unfold wrap64; omega
    rw [stolonref01_Parse.l0, if_pos (by omega), if_pos (by omega)]
    split
    · rw [if_pos (by omega), e2]
      exact ih (i + 1) k _ _ (by omega) (by omega) (by rw [List.length_append, List.length_singleton]; omega)
    · split
      · exact ⟨_, rfl, .inl rfl⟩
      · split
        · exact ⟨_, rfl, .inl rfl⟩
        · split
          · exact ⟨_, rfl, .inl rfl⟩
          · rw [e2]
            exact ih (i + 1) k _ _ (by omega) (by omega) (by omega)
theorem rparse_other {s : ByteArray} (hs : s.size ≤ 500) (h : ∀ a b c d : Nat, a < 256 → b < 256 → c < 256 → d < 256 → s.data.toList ≠ textL a b c d) (k : Nat) (hk : 600 ≤ k) : stolonref01_Parse.f k s = some (0, 2) := by
  obtain ⟨r, hr, h1⟩ := rl0_some hs s.size 0 k [] 0 (by omega) (by omega) (by simp; omega)
  unfold stolonref01_Parse.f
  rw [show ((0 : Nat) : Int) = 0 from rfl] at hr
  rw [hr]
  rcases h1 with rfl | ⟨a, b, c, e, ha, hb, hc, he, -, h2⟩
  · rfl
  · exact absurd h2 (h a b c e ha hb hc he)
theorem l1_step {s : ByteArray} {l : List Int} (hl : l.length = 4) {k j x y : Nat} (hj : j < 4) (hy : rd l (j : Int) = y) (h2 : y < 256) (hx : x * 256 < 4294967296) : stolonref01_Parse.l1 (k + 1) s l (x : Int) (j : Int) = stolonref01_Parse.l1 k s l ((x * 256 + y : Nat) : Int) ((j + 1 : Nat) : Int) := by
  rw [stolonref01_Parse.l1, if_pos (by omega), if_pos (by omega), if_pos (by omega), hy, if_neg (by omega), show wrap64 ((j : Int) + 1) = ((j + 1 : Nat) : Int) by unfold wrap64; omega, show ((((x : Int) * 256) % 4294967296) + ((y : Int) % 4294967296)) % 4294967296 = ((x * 256 + y : Nat) : Int) by omega]
theorem rparse_text {s : ByteArray} {a b c d : Nat} (ha : a < 256) (hb : b < 256) (hc : c < 256) (hd : d < 256) (hs : s.data.toList = textL a b c d) (hsz : s.size ≤ 500) (k : Nat) (hk : 100 ≤ k) : stolonref01_Parse.f k s = some (valA a b c d, 0) := by
  have h0 : s.data.toList.drop 0 = dg a ++ 46 :: (dg b ++ 46 :: (dg c ++ 46 :: (dg d ++ []))) := by rw [List.drop_zero, hs, List.append_nil]; rfl
  have hlen : s.data.toList.length = s.size := Array.length_toList
  have n0 := (dg_facts ⟨a, ha⟩).2.2.2
  have n1 := (dg_facts ⟨b, hb⟩).2.2.2
  have n2 := (dg_facts ⟨c, hc⟩).2.2.2
  have n3 := (dg_facts ⟨d, hd⟩).2.2.2
  simp only at n0 n1 n2 n3
  obtain ⟨A0, D0⟩ := dgs_run (l := []) ha h0 hsz
  have P0 := fun (k : Nat) (x : Int) => pstep (k := k) (x := x) (l := []) D0 (by simp) hsz
  obtain ⟨A1, D1⟩ := dgs_run (l := [(a : Int)]) hb (bt_drop D0).2.2 hsz
  have P1 := fun (k : Nat) (x : Int) => pstep (k := k) (x := x) (l := [(a : Int)]) D1 (by simp) hsz
  obtain ⟨A2, D2⟩ := dgs_run (l := [(a : Int), b]) hc (bt_drop D1).2.2 hsz
  have P2 := fun (k : Nat) (x : Int) => pstep (k := k) (x := x) (l := [(a : Int), b]) D2 (by simp) hsz
  obtain ⟨A3, D3⟩ := dgs_run (l := [(a : Int), b, c]) hd (bt_drop D2).2.2 hsz
  have hend : s.size ≤ 0 + (dg a).length + 1 + (dg b).length + 1 + (dg c).length + 1 + (dg d).length := by
    have := congrArg List.length D3
    rw [List.length_drop, hlen, List.length_nil] at this
    omega
  generalize (dg a).length = m0 at *
  generalize (dg b).length = m1 at *
  generalize (dg c).length = m2 at *
  generalize (dg d).length = m3 at *
  obtain ⟨r, rfl⟩ : ∃ r, k = r + 1 + 1 + 1 + 1 + 1 + 1 + m3 + 1 + m2 + 1 + m1 + 1 + m0 := ⟨k - (m0 + 1 + m1 + 1 + m2 + 1 + m3 + 6), by omega⟩
  have q0 : rd [(a : Int), b, c, d] ((0 : Nat) : Int) = a := rfl
  have q1 : rd [(a : Int), b, c, d] ((1 : Nat) : Int) = b := rfl
  have q2 : rd [(a : Int), b, c, d] ((2 : Nat) : Int) = c := rfl
  have q3 : rd [(a : Int), b, c, d] ((3 : Nat) : Int) = d := rfl
  have hl4 : [(a : Int), b, c, d].length = 4 := rfl
  obtain ⟨t, ht, htd⟩ := rtext_ok ha hb hc hd
  have E : stolonref01_Parse.l0 (r + 1 + 1 + 1 + 1 + 1 + 1) s [(a : Int), b, c] (d : Int) ((0 + m0 + 1 + m1 + 1 + m2 + 1 + m3 : Nat) : Int) = some (valA a b c d, 0) := by
    rw [stolonref01_Parse.l0, if_neg (by omega), if_pos (by simp), Option.bind_some]
    rw [show ([(a : Int), b, c] ++ [(d : Int)]) = [(a : Int), b, c, d] from rfl, if_pos (by rw [hl4]; rfl)]
    have e0 := l1_step (s := s) hl4 (k := r + 1 + 1 + 1 + 1) (x := 0) (by decide) q0 ha (by decide)
    rw [show ((0 : Nat) : Int) = 0 from rfl] at e0
    rw [e0, l1_step hl4 (j := 0 + 1) (by decide) q1 hb (by omega), l1_step hl4 (j := 0 + 1 + 1) (by decide) q2 hc (by omega), l1_step hl4 (j := 0 + 1 + 1 + 1) (by decide) q3 hd (by omega)]
    have hv : (((((0 * 256 + a) * 256 + b) * 256 + c) * 256 + d : Nat) : Int) = valA a b c d := by unfold valA; omega
    rw [hv, stolonref01_Parse.l1, if_neg (by omega), ht, Option.bind_some, ByteArray.toList_eq, ByteArray.toList_eq, htd, hs, if_pos rfl]
  unfold stolonref01_Parse.f
  have A0' := A0 (r + 1 + 1 + 1 + 1 + 1 + 1 + m3 + 1 + m2 + 1 + m1 + 1)
  rw [show ((0 : Nat) : Int) = 0 from rfl] at A0'
  rw [A0', P0, List.nil_append, A1, P1, show ([(a : Int)] ++ [(b : Int)]) = [(a : Int), b] from rfl, A2, P2, show ([(a : Int), b] ++ [(c : Int)]) = [(a : Int), b, c] from rfl, A3]
  exact E
theorem parses_same {s : ByteArray} (hs : s.size ≤ 500) (k : Nat) (hk : 600 ≤ k) : addr_Parse.f k s = stolonref01_Parse.f k s ∧ (addr_Parse.f k s = some (0, 2) ∨ ∃ a b c d : Nat, a < 256 ∧ b < 256 ∧ c < 256 ∧ d < 256 ∧ s.data.toList = textL a b c d ∧ addr_Parse.f k s = some (valA a b c d, 0)) := by
  by_cases h : ∃ a b c d : Nat, a < 256 ∧ b < 256 ∧ c < 256 ∧ d < 256 ∧ s.data.toList = textL a b c d
  · obtain ⟨a, b, c, d, ha, hb, hc, hd, he⟩ := h
    have h1 := parse_text ha hb hc hd he k (by omega)
    rw [h1, rparse_text ha hb hc hd he hs k (by omega)]
    exact ⟨rfl, .inr ⟨a, b, c, d, ha, hb, hc, hd, he, rfl⟩⟩
  · have hn : ∀ a b c d : Nat, a < 256 → b < 256 → c < 256 → d < 256 → s.data.toList ≠ textL a b c d := fun a b c d ha hb hc hd he => h ⟨a, b, c, d, ha, hb, hc, hd, he⟩
    have h1 := parse_other hs hn k
    rw [h1, rparse_other hs hn k hk]
    exact ⟨rfl, .inl rfl⟩
theorem shown_ok (k : Nat) (hk : 10 ≤ k) : stolonlaw01_shown.f k = some true := by
  have hp : addr_Parse.f k (⟨#[50, 51, 57, 46, 49, 46, 50, 46, 51]⟩ : ByteArray) = some (valA 239 1 2 3, 0) := parse_text (by omega) (by omega) (by omega) (by omega) (by decide) k (by omega)
  have ht : addr_Text.f 3758096385 = some (textOf 224 0 0 1) := text_ok (a := 224) (b := 0) (c := 0) (d := 1) (by omega) (by omega) (by omega) (by omega)
  have hd := textOf_data (a := 224) (b := 0) (c := 0) (d := 1) (by omega) (by omega) (by omega) (by omega)
  unfold stolonlaw01_shown.f
  rw [hp, Option.bind_some, ht, Option.bind_some, ByteArray.toList_eq]
  rw [show (textOf (224 : Int) 0 0 1).data.toList = [50, 50, 52, 46, 48, 46, 48, 46, 49] from hd.trans (by decide), if_pos rfl, if_pos rfl]
  decide
theorem same_loop (a b : List Int) (hl : a.length ≤ 1000000) (he : a.length = b.length) : ∀ (d i k : Nat), i + d = a.length → d + 1 ≤ k → stolonref01_Same.l0 k a b (i : Int) = some (decide (a.drop i = b.drop i)) := by
  have rg : ∀ (l : List Int) (k : Nat) (hk : k < l.length), rd l (k : Int) = l[k]'hk := fun l k hk => by
    unfold rd
    rw [Int.toNat_natCast, List.getD_eq_getElem?_getD, List.getElem?_eq_getElem hk, Option.getD_some]
  intro d
  induction d with
  | zero =>
    intro i k hi hk
    obtain ⟨k, rfl⟩ : ∃ j, k = j + 1 := ⟨k - 1, by omega⟩
    rw [stolonref01_Same.l0, if_neg (by omega), List.drop_of_length_le (by omega), List.drop_of_length_le (by omega)]
    rfl
  | succ d ih =>
    intro i k hi hk
    obtain ⟨k, rfl⟩ : ∃ j, k = j + 1 := ⟨k - 1, by omega⟩
    have h1 : i < a.length := by omega
    have h2 : i < b.length := by omega
    have := ih (i + 1) k (by omega) (by omega)
    rw [stolonref01_Same.l0, if_pos (by omega), if_pos (by omega), if_pos (by omega), rg a i h1, rg b i h2, show wrap64 ((i : Int) + 1) = ((i + 1 : Nat) : Int) by unfold wrap64; omega, this, List.drop_eq_getElem_cons h1, List.drop_eq_getElem_cons h2]
    by_cases h : a[i]'h1 = b[i]'h2
    · rw [if_pos h]
      congr 1
      rw [decide_eq_decide]
      exact ⟨fun e => by rw [h, e], fun e => (List.cons.inj e).2⟩
    · rw [if_neg h, decide_eq_false (fun e => h (List.cons.inj e).1)]
theorem same_ok (a b : List Int) (hl : a.length ≤ 1000000) (k : Nat) (hk : a.length + 1 ≤ k) : stolonref01_Same.f k a b = some (decide (a = b)) := by
  unfold stolonref01_Same.f
  by_cases h : (a.length : Int) = (b.length : Int)
  · rw [if_pos h]
    have := same_loop a b hl (by omega) a.length 0 k (by omega) hk
    rwa [show ((0 : Nat) : Int) = 0 from rfl, List.drop_zero, List.drop_zero] at this
  · rw [if_neg h, decide_eq_false (fun e => h (by rw [e]))]
theorem u32_of {x : Int} (h : (Lit.int .u32 x).wf = true) : 0 ≤ x ∧ x ≤ 4294967295 := by
  simp [Lit.wf, IntKind.min, IntKind.max, IntKind.signed, IntKind.bits] at h
  omega
theorem u8_of {x : Int} (h : (Lit.int .u8 x).wf = true) : 0 ≤ x ∧ x ≤ 255 := by
  simp [Lit.wf, IntKind.min, IntKind.max, IntKind.signed, IntKind.bits] at h
  omega
end Go.Proofs.YtplkfpfgnccffaaDoor.P

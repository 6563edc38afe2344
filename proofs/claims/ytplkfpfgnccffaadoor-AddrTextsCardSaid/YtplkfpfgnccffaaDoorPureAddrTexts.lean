/- AddrTexts over numbers and lists. -/
import Derived.Test.YtplkfpfgnccffaaDoorStAddrTexts
import Derived.Test.YtplkfpfgnccffaaDoorAdRef
namespace Go.Proofs.YtplkfpfgnccffaaDoor.Pure
set_option linter.unusedVariables false
set_option linter.unusedSimpArgs false
open Go.RowKit Go.Proofs.YtplkfpfgnccffaaDoor.P Go.Proofs.YtplkfpfgnccffaaDoorW.PrintWords Go.Proofs.YtplkfpfgnccffaaDoorW.PrintLast Go.Proofs.YtplkfpfgnccffaaDoorW.PrintMore
theorem dot_count : ∀ l : List UInt8, (dotSplit l).length = l.count 46 + 1
  | [] => rfl
  | c :: l => by
    have ih := dot_count l
    unfold dotSplit
    split
    · rename_i h
      subst h
      rw [List.count_cons_self, List.length_cons, ih]
    · rename_i h
      rw [List.count_cons_of_ne (by simpa using h)]
      cases hd : dotSplit l with
      | nil => exact absurd hd (dot_ne l)
      | cons y r => rw [hd] at ih; exact ih
theorem text_count {a b c d : Nat} (ha : a < 256) (hb : b < 256) (hc : c < 256) (hd : d < 256) : (textL a b c d).count 46 = 3 := by
  have := dot_count (textL a b c d)
  rw [dot_text ha hb hc hd] at this
  simp at this
  omega
theorem text_chars {a b c d : Nat} (ha : a < 256) (hb : b < 256) (hc : c < 256) (hd : d < 256) : ∀ x ∈ textL a b c d, x = 46 ∨ (48 ≤ x.toNat ∧ x.toNat ≤ 57) := by
  intro x hx
  have f0 := (dg_facts ⟨a, ha⟩).2.1
  have f1 := (dg_facts ⟨b, hb⟩).2.1
  have f2 := (dg_facts ⟨c, hc⟩).2.1
  have f3 := (dg_facts ⟨d, hd⟩).2.1
  unfold textL at hx
  simp only [List.mem_append, List.mem_cons] at hx
  rcases hx with h | h | h | h | h | h | h
  · exact .inr (f0 x h)
  · exact .inl h
  · exact .inr (f1 x h)
  · exact .inl h
  · exact .inr (f2 x h)
  · exact .inl h
  · exact .inr (f3 x h)
theorem text_len {a b c d : Nat} (ha : a < 256) (hb : b < 256) (hc : c < 256) (hd : d < 256) : 7 ≤ (textL a b c d).length ∧ (textL a b c d).length ≤ 15 := by
  obtain ⟨-, -, n0, m0⟩ := dg_facts ⟨a, ha⟩
  obtain ⟨-, -, n1, m1⟩ := dg_facts ⟨b, hb⟩
  obtain ⟨-, -, n2, m2⟩ := dg_facts ⟨c, hc⟩
  obtain ⟨-, -, n3, m3⟩ := dg_facts ⟨d, hd⟩
  simp only at m0 m1 m2 m3 n0 n1 n2 n3
  have p0 := List.length_pos_iff.2 n0
  have p1 := List.length_pos_iff.2 n1
  have p2 := List.length_pos_iff.2 n2
  have p3 := List.length_pos_iff.2 n3
  unfold textL
  simp only [List.length_append, List.length_cons]
  omega
theorem texts_loop {s t : ByteArray} (up : Bool) (ht : t.size ≤ 100) : ∀ (u : List UInt8) (i p k : Nat), t.data.toList.drop i = u → (∀ x ∈ u, x = 46 ∨ (48 ≤ x.toNat ∧ x.toNat ≤ 57)) → p + u.length ≤ 1000 →
    stolonlaw01_AddrTexts.l0 (k + u.length) s up t (p : Int) (i : Int) = stolonlaw01_AddrTexts.l0 k s up t ((p + u.count 46 : Nat) : Int) ((i + u.length : Nat) : Int)
  | [], i, p, k, _, _, _ => rfl
  | c :: u, i, p, k, h, hc, hp => by
    obtain ⟨b1, b2, b3⟩ := bt_drop h
    rw [List.length_cons] at hp
    have ew : wrap64 ((i : Int) + 1) = ((i + 1 : Nat) : Int) := by unfold wrap64; omega
    have ep : wrap64 ((p : Int) + 1) = ((p + 1 : Nat) : Int) := by unfold wrap64; omega
    rw [List.length_cons, show k + (u.length + 1) = (k + u.length) + 1 by omega, stolonlaw01_AddrTexts.l0, if_pos (by omega), if_pos (by omega), b1, ew, ep]
    by_cases h46 : c = 46
    · subst h46
      rw [if_pos (by decide), texts_loop up ht u (i + 1) (p + 1) k b3 (fun x hx => hc x (List.mem_cons_of_mem _ hx)) (by omega), List.count_cons_self]
      congr 2 <;> omega
    · have hd := (hc c List.mem_cons_self).resolve_left h46
      have hne : ¬ ((c.toNat : Int) = 46) := fun e => h46 (by
        have : c.toNat = 46 := by omega
        exact UInt8.toNat_inj.1 this)
      rw [if_neg hne, if_neg (by omega), if_neg (by omega), texts_loop up ht u (i + 1) p k b3 (fun x hx => hc x (List.mem_cons_of_mem _ hx)) (by omega), List.count_cons_of_ne (by simpa using h46)]
      congr 2 <;> omega
theorem odd_none {S : List UInt8} {c : UInt8} {S' : List UInt8} (hS : S = c :: S') (hodd : c.toNat < 48 ∨ c.toNat > 57) {a b c0 d : Nat} (ha : a < 256) (hb : b < 256) (hc : c0 < 256) (hd : d < 256) (L : List UInt8) (hL : L.count 46 = 3 + S.count 46) (hm : ∀ x ∈ S, x ∈ L) : L ≠ textL a b c0 d := by
  intro e
  have h3 := text_count ha hb hc hd
  rw [← e, hL] at h3
  have h0 : S.count 46 = 0 := by omega
  have hcm : c ∈ S := by rw [hS]; simp
  rcases text_chars ha hb hc hd c (e ▸ hm c hcm) with h | h
  · subst h
    have := List.count_pos_iff.2 hcm
    omega
  · omega
theorem AddrTexts : stolonlaw01_AddrTexts.Pure := by
  intro x hx
  refine ⟨1016, ?_⟩
  obtain ⟨h0, h1, h2, h3, h4⟩ := hx
  have h0 := u8_of h0
  have h1 := u8_of h1
  have h2 := u8_of h2
  have h3 := u8_of h3
  obtain ⟨fa, fb, fc, fd, s⟩ := x
  simp only at h0 h1 h2 h3 h4 ⊢
  obtain ⟨a, rfl⟩ : ∃ a : Nat, fa = a := ⟨fa.toNat, by omega⟩
  obtain ⟨b, rfl⟩ : ∃ a : Nat, fb = a := ⟨fb.toNat, by omega⟩
  obtain ⟨c, rfl⟩ : ∃ a : Nat, fc = a := ⟨fc.toNat, by omega⟩
  obtain ⟨d, rfl⟩ : ∃ a : Nat, fd = a := ⟨fd.toNat, by omega⟩
  have ha : a < 256 := by omega
  have hb : b < 256 := by omega
  have hc : c < 256 := by omega
  have hd : d < 256 := by omega
  have hT := textOf_data ha hb hc hd
  unfold stolonlaw01_AddrTexts.f
  rw [shown_ok _ (by omega), Option.bind_some]
  by_cases hs : (s.size : Int) > 50
  · rw [if_pos hs]
  have hv : ((((((((((a : Int)) % 4294967296) * 16777216) % 4294967296) + ((((b : Int)) % 4294967296) * 65536) % 4294967296)) % 4294967296) + ((((c : Int)) % 4294967296) * 256) % 4294967296) % 4294967296 + (((d : Int)) % 4294967296)) % 4294967296 = valA a b c d := by unfold valA; omega
  rw [if_neg hs]
  rw [hv, text_ok ha hb hc hd, Option.bind_some]
  clear hv
  generalize textOf (a : Int) b c d = t at hT
  obtain ⟨l7, l15⟩ := text_len ha hb hc hd
  have htl : t.data.toList.length = t.size := Array.length_toList
  have hsl : s.data.toList.length = s.size := Array.length_toList
  have hts : t.size = (textL a b c d).length := by rw [← htl, hT]
  obtain ⟨k, hk⟩ : ∃ k, 1016 = (k + 1) + t.data.toList.length := ⟨1015 - t.data.toList.length, by omega⟩
  have hl := texts_loop (s := s) (t := t) true (by omega) t.data.toList 0 0 (k + 1) (by simp) (by rw [hT]; exact text_chars ha hb hc hd) (by omega)
  rw [show ((0 : Nat) : Int) = 0 from rfl, Nat.zero_add, Nat.zero_add] at hl
  rw [hk, hl, hT, text_count ha hb hc hd, stolonlaw01_AddrTexts.l0, if_neg (by omega), if_pos (by omega)]
  have hk2 : 600 ≤ k := by omega
  have d1 : (t ++ s).data.toList = textL a b c d ++ s.data.toList := by rw [app_data, hT]
  have d2 : (s ++ t).data.toList = s.data.toList ++ textL a b c d := by rw [app_data, hT]
  have z1 : (t ++ s).size ≤ 500 := by rw [ByteArray.size_append]; omega
  have z2 : (s ++ t).size ≤ 500 := by rw [ByteArray.size_append]; omega
  by_cases hz : (s.size : Int) > 0
  · obtain ⟨c0, S', hS⟩ : ∃ c0 S', s.data.toList = c0 :: S' := by
      cases h : s.data.toList with
      | nil => rw [h] at hsl; simp at hsl; omega
      | cons c0 S' => exact ⟨c0, S', rfl⟩
    have hb0 := (bt_drop (s := s) (i := 0) (by rw [List.drop_zero]; exact hS)).1
    rw [show ((0 : Nat) : Int) = 0 from rfl] at hb0
    by_cases hodd : c0.toNat < 48 ∨ c0.toNat > 57
    · have p1 : addr_Parse.f k (t ++ s) = some (0, 2) := parse_other z1 (fun a' b' c' d' ha' hb' hc' hd' => by
        rw [d1]
        exact odd_none hS hodd ha' hb' hc' hd' _ (by rw [List.count_append, text_count ha hb hc hd]) (fun x hx => List.mem_append_right _ hx)) k
      have p2 : addr_Parse.f k (s ++ t) = some (0, 2) := parse_other z2 (fun a' b' c' d' ha' hb' hc' hd' => by
        rw [d2]
        exact odd_none hS hodd ha' hb' hc' hd' _ (by rw [List.count_append, text_count ha hb hc hd]; omega) (fun x hx => List.mem_append_left _ hx)) k
      rw [p1, Option.bind_some, if_pos (by omega), p2, Option.bind_some, if_pos hz, if_pos (by omega), hb0]
      by_cases h48 : (c0.toNat : Int) < 48
      · rw [if_pos h48]
        repeat (first | rw [if_pos (by omega)] | rw [if_pos rfl] | rw [if_neg (by omega)])
        rfl
      · rw [if_neg h48]
        repeat (first | rw [if_pos (by omega)] | rw [if_pos rfl] | rw [if_neg (by omega)])
        rfl
    · obtain ⟨q1, hq1⟩ : ∃ q, addr_Parse.f k (t ++ s) = some q := by
        rcases (parses_same z1 k (by omega)).2 with h | ⟨_, _, _, _, _, _, _, _, _, h⟩
        · exact ⟨_, h⟩
        · exact ⟨_, h⟩
      obtain ⟨q2, hq2⟩ : ∃ q, addr_Parse.f k (s ++ t) = some q := by
        rcases (parses_same z2 k (by omega)).2 with h | ⟨_, _, _, _, _, _, _, _, _, h⟩
        · exact ⟨_, h⟩
        · exact ⟨_, h⟩
      rw [hq1, Option.bind_some, if_pos (by omega), hq2, Option.bind_some, if_pos hz, if_pos (by omega), hb0]
      repeat (first | rw [if_pos (by omega)] | rw [if_pos rfl] | rw [if_neg (by omega)])
  · have hS : s.data.toList = [] := List.length_eq_zero_iff.1 (by omega)
    have p1 : addr_Parse.f k (t ++ s) = some (valA a b c d, 0) := parse_text ha hb hc hd (by rw [d1, hS, List.append_nil]) k (by omega)
    have p2 : addr_Parse.f k (s ++ t) = some (valA a b c d, 0) := parse_text ha hb hc hd (by rw [d2, hS, List.nil_append]) k (by omega)
    rw [p1, Option.bind_some, if_pos (by omega), p2, Option.bind_some, if_neg hz]
    repeat (first | rw [if_pos (by omega)] | rw [if_pos rfl] | rw [if_neg (by omega)])
end Go.Proofs.YtplkfpfgnccffaaDoor.Pure

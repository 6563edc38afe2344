/- Addresses' texts: pieces between points, numbers as they are written. Plain lemmas on lists of bytes. -/
import Derived.Test.YtplkfpfgnccffaaDoorEAddr
import Derived.Lib.SplitLaws
import Derived.Lib.IndexBytes
import Derived.Lib.AtoiTie
import Derived.Lib.ItoaMem
import Derived.Laws.Strings
import Derived.Test.YtplkfpfgnccffaaDoorPx1
namespace Go.Proofs.YtplkfpfgnccffaaDoor.P
set_option linter.unusedVariables false
set_option linter.unusedSimpArgs false
open Go.RowKit Go.Proofs.YtplkfpfgnccffaaDoorW.PrintWords Go.Proofs.YtplkfpfgnccffaaDoorW.PrintLast Go.Proofs.YtplkfpfgnccffaaDoorW.PrintMore
/-- A number of 0 to 255, as it is written. -/
def dg (v : Nat) : List UInt8 := if v < 10 then [UInt8.ofNat (48 + v)] else if v < 100 then [UInt8.ofNat (48 + v / 10), UInt8.ofNat (48 + v % 10)] else [UInt8.ofNat (48 + v / 100), UInt8.ofNat (48 + v / 10 % 10), UInt8.ofNat (48 + v % 10)]
theorem dg_ok {v : Nat} (h : v < 1000) : Lib.decDigits v = dg v := by
  unfold dg
  split
  · rename_i h1
    exact Lib.decDigits_one h1
  · rename_i h1
    split
    · rename_i h2
      exact Lib.decDigits_two h1 h2
    · rename_i h2
      rw [Lib.decDigits, dif_neg h1, Lib.decDigits_two (by omega) (by omega), show v / 10 / 10 = v / 100 by omega]
      rfl
theorem itoa_dg {v : Nat} (h : v < 1000) : Lib.itoa (v : Int) = dg v := by rw [Lib.itoa_nonneg, dg_ok h]
theorem dg_facts : ∀ v : Fin 256, Lib.atoiAll (dg v.val) = .ok (v.val : Int) ∧ (∀ c ∈ dg v.val, 48 ≤ c.toNat ∧ c.toNat ≤ 57) ∧ dg v.val ≠ [] ∧ (dg v.val).length ≤ 3 := by decide +kernel
theorem dg_no46 {v : Nat} (h : v < 256) : (46 : UInt8) ∉ dg v := fun hm => by
  have := ((dg_facts ⟨v, h⟩).2.1 46 hm).1
  revert this
  decide
/-- What stands between points. -/
def dotSplit : List UInt8 → List (List UInt8)
  | [] => [[]]
  | c :: l => if c = 46 then [] :: dotSplit l else match dotSplit l with
    | [] => [[c]]
    | x :: r => (c :: x) :: r
theorem splitK_dot : ∀ l : List UInt8, Lib.splitK [46] 0 (l.count 46) l = dotSplit l
  | [] => rfl
  | c :: l => by
    have ih := splitK_dot l
    by_cases h : c = 46
    · subst h
      rw [List.count_cons_self, Lib.splitK, Lib.index_one, show Lib.indexByte (46 :: l) 46 = 0 from rfl]
      simp only [dotSplit, if_true]
      rw [← ih]
      rfl
    · rw [List.count_cons_of_ne (by simpa using h)]
      simp only [dotSplit, if_neg h]
      rw [← ih]
      cases hk : l.count 46 with
      | zero => rfl
      | succ k =>
        have hm : Lib.indexByte l 46 ≠ -1 := fun e => by
          have := Lib.indexByte_none e
          have hc : 46 ∈ l := List.count_pos_iff.1 (by omega)
          obtain ⟨i, hi⟩ := List.mem_iff_getElem?.1 hc
          exact this i hi
        have hge := Lib.indexByte_ge l 46
        have e1 : Lib.indexByte (c :: l) 46 = Lib.indexByte l 46 + 1 := by
          rw [Lib.indexByte, if_neg (by simpa using h), if_neg (by simpa using hm)]
        rw [Lib.splitK, Lib.splitK, Lib.index_one, Lib.index_one, e1, if_neg (by simp; omega), if_neg (by simpa using hm)]
        obtain ⟨i, hi⟩ : ∃ i : Nat, Lib.indexByte l 46 = i := ⟨(Lib.indexByte l 46).toNat, by omega⟩
        rw [hi, show ((i : Int) + 1).toNat = i + 1 by omega, Int.toNat_natCast]
        simp only [Nat.add_zero, List.take_succ_cons, List.length_cons, List.length_nil]
        rfl
theorem pieces_dot (s : ByteArray) : (piecesB s).map (·.data.toList) = dotSplit s.data.toList := by
  unfold piecesB
  rw [Lib.splitB_data, show Lib.countB s dotB = Lib.count s.data.toList [46] from rfl, Lib.count_one]
  exact splitK_dot _
theorem pieces_len (s : ByteArray) : (piecesB s).length = Lib.countB s dotB + 1 := Lib.splitB_all dotB (by decide) 0 _ s rfl
theorem dot_short : ∀ l : List UInt8, (dotSplit l).length ≤ l.length + 1 ∧ ∀ x ∈ dotSplit l, x.length ≤ l.length
  | [] => ⟨Nat.le_refl _, fun x hx => by rw [List.mem_singleton.1 hx]; exact Nat.le_refl _⟩
  | c :: l => by
    obtain ⟨i1, i2⟩ := dot_short l
    unfold dotSplit
    split
    · refine ⟨by simp; omega, fun x hx => ?_⟩
      rcases List.mem_cons.1 hx with rfl | hx
      · simp
      · have := i2 x hx
        simp; omega
    · split
      · exact ⟨by simp, fun x hx => by rw [List.mem_singleton.1 hx]; simp⟩
      · rename_i y r hr
        rw [hr] at i1 i2
        refine ⟨by simp at i1 ⊢; omega, fun x hx => ?_⟩
        rcases List.mem_cons.1 hx with rfl | hx
        · have := i2 y List.mem_cons_self
          simp; omega
        · have := i2 x (List.mem_cons_of_mem _ hx)
          simp; omega
theorem dot_ne (l : List UInt8) : dotSplit l ≠ [] := by
  cases l with
  | nil => exact fun h => by cases h
  | cons c l =>
    unfold dotSplit
    split
    · exact fun h => by cases h
    · split <;> exact fun h => by cases h
/-- Pieces with points between. -/
def unDot : List (List UInt8) → List UInt8
  | [] => []
  | [x] => x
  | x :: y :: r => x ++ 46 :: unDot (y :: r)
theorem unDot_split : ∀ l : List UInt8, unDot (dotSplit l) = l
  | [] => rfl
  | c :: l => by
    have ih := unDot_split l
    unfold dotSplit
    split
    · rename_i h
      subst h
      cases hd : dotSplit l with
      | nil => exact absurd hd (dot_ne l)
      | cons y r =>
        rw [hd] at ih
        show 46 :: unDot (y :: r) = _
        rw [ih]
    · cases hd : dotSplit l with
      | nil => exact absurd hd (dot_ne l)
      | cons y r =>
        rw [hd] at ih
        simp only
        cases r with
        | nil => show c :: y = c :: l; rw [show y = l from ih]
        | cons z r => show c :: (y ++ 46 :: unDot (z :: r)) = c :: l; rw [show y ++ 46 :: unDot (z :: r) = l from ih]
theorem dot_last : ∀ d : List UInt8, 46 ∉ d → dotSplit d = [d]
  | [], _ => rfl
  | c :: d, h => by
    simp only [List.mem_cons, not_or] at h
    rw [dotSplit, if_neg (Ne.symm h.1), dot_last d h.2]
theorem dot_app : ∀ (a r : List UInt8), 46 ∉ a → dotSplit (a ++ 46 :: r) = a :: dotSplit r
  | [], r, _ => by simp [dotSplit]
  | c :: a, r, h => by
    simp only [List.mem_cons, not_or] at h
    rw [List.cons_append, dotSplit, if_neg (Ne.symm h.1), dot_app a r h.2]
/-- Four numbers with points between. -/
def textL (a b c d : Nat) : List UInt8 := dg a ++ 46 :: (dg b ++ 46 :: (dg c ++ 46 :: dg d))
theorem dot_text {a b c d : Nat} (ha : a < 256) (hb : b < 256) (hc : c < 256) (hd : d < 256) : dotSplit (textL a b c d) = [dg a, dg b, dg c, dg d] := by
  unfold textL
  rw [dot_app _ _ (dg_no46 ha), dot_app _ _ (dg_no46 hb), dot_app _ _ (dg_no46 hc), dot_last _ (dg_no46 hd)]
theorem okPiece_iff {x : ByteArray} {v : Int} : okPiece x = some v ↔ ∃ n : Nat, n < 256 ∧ v = n ∧ x.data.toList = dg n := by
  constructor
  · intro h
    unfold okPiece at h
    split at h
    · rename_i u hu
      split at h
      · rename_i hh
        obtain rfl := Option.some.inj h
        obtain ⟨h0, h1, h2⟩ := hh
        rw [ByteArray.toList_eq, ByteArray.toList_eq] at h2
        refine ⟨u.toNat, by omega, by omega, ?_⟩
        rw [← h2, ← itoa_dg (by omega), show ((u.toNat : Nat) : Int) = u by omega]
        rfl
      · cases h
    · cases h
  · rintro ⟨n, hn, rfl, hx⟩
    unfold okPiece
    rw [hx, (dg_facts ⟨n, hn⟩).1]
    simp only
    rw [if_pos]
    refine ⟨by omega, by omega, ?_⟩
    rw [ByteArray.toList_eq, ByteArray.toList_eq, hx, ← itoa_dg (by omega)]
    rfl
def valA (a b c d : Nat) : Int := (a : Int) * 16777216 + b * 65536 + c * 256 + d
theorem byte_step (x y : Nat) (hx : x * 256 < 4294967296) (hy : y < 256) : Go.bits .or .u32 (((x : Int) * 256) % 4294967296) ((y : Int) % 4294967296) = ((x * 256 + y : Nat) : Int) := by
  rw [show ((x : Int) * 256) % 4294967296 = (x : Int) * 256 by omega, show (y : Int) % 4294967296 = y by omega]
  rw [bits_join .u32 32 (by decide) (fun n h0 h1 => by unfold IntKind.wrap; simp [IntKind.bits, IntKind.signed]; omega) 8 ((x : Int) * 256) y (by omega) (by omega) (by omega) (by omega) (by omega) (by omega)]
  omega
theorem len4 {α : Type} {l : List α} (h : l.length = 4) : ∃ a b c d, l = [a, b, c, d] := by
  rcases l with _ | ⟨a, _ | ⟨b, _ | ⟨c, _ | ⟨d, _ | ⟨e, t⟩⟩⟩⟩⟩
  all_goals first | exact ⟨_, _, _, _, rfl⟩ | (simp at h)
theorem of_step (L : List Int) (hl : L.length = 4) (k x y i : Nat) (hi : i < 4) (hy : rd L (i : Int) = y) (hx : x * 256 < 4294967296) (h2 : y < 256) : addr_Of.l0 (k + 1) (x : Int) L 4 (i : Int) = addr_Of.l0 k ((x * 256 + y : Nat) : Int) L 4 ((i + 1 : Nat) : Int) := by
  rw [addr_Of.l0, if_pos (by omega), if_pos (by omega), if_pos (by omega), hy, byte_step x y hx h2, show wrap64 ((i : Int) + 1) = ((i + 1 : Nat) : Int) by unfold wrap64; omega]
theorem of_ok {a b c d : Nat} (ha : a < 256) (hb : b < 256) (hc : c < 256) (hd : d < 256) (k : Nat) (hk : 5 ≤ k) : addr_Of.f k [(a : Int), b, c, d] = some (valA a b c d, 0) := by
  obtain ⟨k, rfl⟩ : ∃ j, k = j + 1 + 1 + 1 + 1 + 1 := ⟨k - 5, by omega⟩
  obtain ⟨L, hL⟩ : ∃ L, L = [(a : Int), b, c, d] := ⟨_, rfl⟩
  have hl : L.length = 4 := by rw [hL]; rfl
  have r0 : rd L ((0 : Nat) : Int) = a := by rw [hL]; rfl
  have r1 : rd L ((1 : Nat) : Int) = b := by rw [hL]; rfl
  have r2 : rd L ((2 : Nat) : Int) = c := by rw [hL]; rfl
  have r3 : rd L ((3 : Nat) : Int) = d := by rw [hL]; rfl
  rw [← hL]
  unfold addr_Of.f
  have hl' : ((L.length : Nat) : Int) = 4 := by omega
  rw [hl', if_neg (by omega), if_neg (by omega)]
  have e := of_step L hl (k + 1 + 1 + 1 + 1) 0 a 0 (by decide) r0 (by decide) ha
  rw [show ((0 : Nat) : Int) = 0 from rfl] at e
  rw [e, of_step L hl _ _ b 1 (by omega) r1 (by omega) hb, of_step L hl _ _ c 2 (by omega) r2 (by omega) hc, of_step L hl _ _ d 3 (by omega) r3 (by omega) hd, addr_Of.l0, if_neg (by omega)]
  exact congrArg (fun z => some (z, (0 : Int))) (by unfold valA; omega)
theorem parse_text {s : ByteArray} {a b c d : Nat} (ha : a < 256) (hb : b < 256) (hc : c < 256) (hd : d < 256) (hs : s.data.toList = textL a b c d) (k : Nat) (hk : 5 ≤ k) : addr_Parse.f k s = some (valA a b c d, 0) := by
  have hp := pieces_dot s
  rw [hs, dot_text ha hb hc hd] at hp
  have hsz : s.size ≤ 15 := by
    rw [show s.size = s.data.toList.length by rw [Array.length_toList]; rfl, hs]
    have h0 := (dg_facts ⟨a, ha⟩).2.2.2
    have h1 := (dg_facts ⟨b, hb⟩).2.2.2
    have h2 := (dg_facts ⟨c, hc⟩).2.2.2
    have h3 := (dg_facts ⟨d, hd⟩).2.2.2
    unfold textL
    simp only [List.length_append, List.length_cons]
    simp only at h0 h1 h2 h3
    omega
  obtain ⟨d1, d2⟩ := dot_short s.data.toList
  rw [← pieces_dot, List.length_map, show s.data.toList.length = s.size by rw [Array.length_toList]; rfl] at d1
  unfold addr_Parse.f
  rw [if_pos ⟨by omega, pieces_len s, by omega, fun x hx => by
    have := d2 x.data.toList (by rw [← pieces_dot]; exact List.mem_map_of_mem hx)
    rw [show s.data.toList.length = s.size by rw [Array.length_toList]; rfl, show x.data.toList.length = x.size by rw [Array.length_toList]; rfl] at this
    omega⟩]
  obtain ⟨x0, x1, x2, x3, hP⟩ := len4 (show (piecesB s).length = 4 by have := congrArg List.length hp; rw [List.length_map] at this; exact this)
  · rw [hP] at hp ⊢
    simp only [List.map_cons, List.map_nil, List.cons.injEq, and_true] at hp
    obtain ⟨e0, e1, e2, e3⟩ := hp
    have o0 := okPiece_iff.2 ⟨a, ha, rfl, e0⟩
    have o1 := okPiece_iff.2 ⟨b, hb, rfl, e1⟩
    have o2 := okPiece_iff.2 ⟨c, hc, rfl, e2⟩
    have o3 := okPiece_iff.2 ⟨d, hd, rfl, e3⟩
    have hq : parseL [x0, x1, x2, x3] = [(a : Int), b, c, d] := by simp only [parseL, o0, o1, o2, o3]
    rw [hq, if_neg (by simp)]
    exact of_ok ha hb hc hd k hk
theorem parseL_all : ∀ l : List ByteArray, (parseL l).length = l.length → ∀ x ∈ l, ∃ n : Nat, n < 256 ∧ x.data.toList = dg n
  | [], _, x, hx => by cases hx
  | y :: l, h, x, hx => by
    unfold parseL at h
    cases ho : okPiece y with
    | none => rw [ho] at h; simp at h
    | some v =>
      rw [ho] at h
      obtain ⟨n, hn, _, hy⟩ := okPiece_iff.1 ho
      rcases List.mem_cons.1 hx with rfl | hx
      · exact ⟨n, hn, hy⟩
      · exact parseL_all l (by simpa using h) x hx
theorem parse_other {s : ByteArray} (hsz : s.size ≤ 500) (h : ∀ a b c d : Nat, a < 256 → b < 256 → c < 256 → d < 256 → s.data.toList ≠ textL a b c d) (k : Nat) : addr_Parse.f k s = some (0, 2) := by
  have hp := pieces_dot s
  obtain ⟨d1, d2⟩ := dot_short s.data.toList
  rw [← pieces_dot, List.length_map, show s.data.toList.length = s.size by rw [Array.length_toList]; rfl] at d1
  unfold addr_Parse.f
  rw [if_pos ⟨by omega, pieces_len s, by omega, fun x hx => by
    have := d2 x.data.toList (by rw [← pieces_dot]; exact List.mem_map_of_mem hx)
    rw [show s.data.toList.length = s.size by rw [Array.length_toList]; rfl, show x.data.toList.length = x.size by rw [Array.length_toList]; rfl] at this
    omega⟩]
  by_cases hc : (piecesB s).length ≠ 4 ∨ (parseL (piecesB s)).length ≠ 4
  · rw [if_pos hc]
  · have h4 : (piecesB s).length = 4 := Decidable.byContradiction fun e => hc (.inl e)
    have h5 : (parseL (piecesB s)).length = 4 := Decidable.byContradiction fun e => hc (.inr e)
    have hall := parseL_all _ (h5.trans h4.symm)
    have hu := unDot_split s.data.toList
    rw [← hp] at hu
    obtain ⟨x0, x1, x2, x3, hP⟩ := len4 h4
    · rw [hP] at hu hall
      obtain ⟨a, ha, ea⟩ := hall x0 (by simp)
      obtain ⟨b, hb, eb⟩ := hall x1 (by simp)
      obtain ⟨c, hc, ec⟩ := hall x2 (by simp)
      obtain ⟨d, hd, ed⟩ := hall x3 (by simp)
      simp only [List.map_cons, List.map_nil, unDot, ea, eb, ec, ed] at hu
      exact absurd hu.symm (h a b c d ha hb hc hd)
theorem textOf_data {a b c d : Nat} (ha : a < 256) (hb : b < 256) (hc : c < 256) (hd : d < 256) : (textOf a b c d).data.toList = textL a b c d := by
  show Lib.join [Lib.itoa a, Lib.itoa b, Lib.itoa c, Lib.itoa d] [46] = _
  rw [join4, itoa_dg (by omega), itoa_dg (by omega), itoa_dg (by omega), itoa_dg (by omega)]
  rfl
/-- The bytes of an address. -/
theorem addr_bytes {x : Int} (h0 : 0 ≤ x) (h1 : x ≤ 4294967295) : ∃ a b c d : Nat, a < 256 ∧ b < 256 ∧ c < 256 ∧ d < 256 ∧ x = valA a b c d ∧ bytes4 x = [(a : Int), b, c, d] := by
  refine ⟨(x / 16777216 % 256).toNat, (x / 65536 % 256).toNat, (x / 256 % 256).toNat, (x % 256).toNat, by omega, by omega, by omega, by omega, by unfold valA; omega, ?_⟩
  unfold bytes4
  rw [show (((x / 16777216 % 256).toNat : Nat) : Int) = x / 16777216 % 256 by omega, show (((x / 65536 % 256).toNat : Nat) : Int) = x / 65536 % 256 by omega, show (((x / 256 % 256).toNat : Nat) : Int) = x / 256 % 256 by omega, show (((x % 256).toNat : Nat) : Int) = x % 256 by omega]
theorem text_ok {a b c d : Nat} (ha : a < 256) (hb : b < 256) (hc : c < 256) (hd : d < 256) : addr_Text.f (valA a b c d) = some (textOf a b c d) := by
  have p0 : addr_part.f (valA a b c d) 0 = some (partV (valA a b c d) 0) := part_ok _ 0 (by omega)
  have p1 : addr_part.f (valA a b c d) 1 = some (partV (valA a b c d) 1) := part_ok _ 1 (by omega)
  have p2 : addr_part.f (valA a b c d) 2 = some (partV (valA a b c d) 2) := part_ok _ 2 (by omega)
  have p3 : addr_part.f (valA a b c d) 3 = some (partV (valA a b c d) 3) := part_ok _ 3 (by omega)
  have v0 : partV (valA a b c d) 0 = a := by unfold partV valA; simp only [if_true]; omega
  have v1 : partV (valA a b c d) 1 = b := by unfold partV valA; rw [if_neg (by decide), if_pos rfl]; omega
  have v2 : partV (valA a b c d) 2 = c := by unfold partV valA; rw [if_neg (by decide), if_neg (by decide), if_pos rfl]; omega
  have v3 : partV (valA a b c d) 3 = d := by unfold partV valA; rw [if_neg (by decide), if_neg (by decide), if_neg (by decide)]; omega
  unfold addr_Text.f
  rw [p0, Option.bind_some, p1, Option.bind_some, p2, Option.bind_some, p3, Option.bind_some, v0, v1, v2, v3, if_pos ⟨⟨by omega, by omega⟩, ⟨by omega, by omega⟩, ⟨by omega, by omega⟩, by omega, by omega⟩]
theorem valA_inj {a b c d a' b' c' d' : Nat} (ha : a < 256) (hb : b < 256) (hc : c < 256) (hd : d < 256) (ha' : a' < 256) (hb' : b' < 256) (hc' : c' < 256) (hd' : d' < 256) (h : valA a b c d = valA a' b' c' d') : a = a' ∧ b = b' ∧ c = c' ∧ d = d' := by
  unfold valA at h
  omega
theorem bytes_val {a b c d : Nat} (ha : a < 256) (hb : b < 256) (hc : c < 256) (hd : d < 256) : bytes4 (valA a b c d) = [(a : Int), b, c, d] := by
  unfold bytes4 valA
  rw [show ((a : Int) * 16777216 + b * 65536 + c * 256 + d) / 16777216 % 256 = a by omega, show ((a : Int) * 16777216 + b * 65536 + c * 256 + d) / 65536 % 256 = b by omega, show ((a : Int) * 16777216 + b * 65536 + c * 256 + d) / 256 % 256 = c by omega, show ((a : Int) * 16777216 + b * 65536 + c * 256 + d) % 256 = d by omega]
end Go.Proofs.YtplkfpfgnccffaaDoor.P

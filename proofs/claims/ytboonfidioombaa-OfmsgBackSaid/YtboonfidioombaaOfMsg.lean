/- A message's bytes, which messages are right, and what a right message's bytes read as. Plain lemmas on lists. -/
import Derived.Test.YtboonfidioombaaOfNum
namespace Go.Proofs.Ytboonfidioombaa.P
set_option linter.unusedVariables false
set_option linter.unusedSimpArgs false
open Go.RowKit Go.Proofs.YtboonfidioombaaW.PrintWords Go.Proofs.YtboonfidioombaaW.PrintLast Go.Proofs.YtboonfidioombaaW.PrintMore
def inP (i : Int) : Int := if i = -1 then 65535 else i
def innerP (m : Ms) : List Int :=
 if m.f0 = 1 then fourL m.f2.f0 ++ (fourL m.f2.f1 ++ (fourL m.f2.f2 ++ (twoL (inP m.f2.f3) ++ (fourL m.f2.f4 ++ (twoL m.f2.f5.length ++ m.f2.f5.map (·.f0))))))
 else if m.f0 = 2 then fourL m.f2.f0 ++ (fourL m.f2.f1 ++ fourL m.f2.f2)
 else if m.f0 = 7 then [m.f3, if m.f4 = true then 1 else 0]
 else if m.f0 = 8 ∨ m.f0 = 9 then m.f3 :: m.f5
 else []
def encP (m : Ms) : List Int := twoL (7 + (innerP m).length) ++ ([m.f0] ++ (fourL m.f1 ++ innerP m))
def noRule (r : Ru) : Bool := (r.f0 == 0) && ((r.f1 == 0) && ((r.f2 == 0) && ((r.f3 == 0) && ((r.f4 == 0) && ((r.f5.length : Int) == 0)))))
def still (m : Ms) : Bool := (m.f3 == 0) && (!m.f4 && ((m.f5.length : Int) == 0))
def rightM (m : Ms) : Bool :=
 if m.f0 = 1 then rightR m.f2 && still m
 else if m.f0 = 2 then askedB m.f2.f1 && (((m.f2.f3 == 0) && ((m.f2.f4 == 0) && ((m.f2.f5.length : Int) == 0))) && still m)
 else if 3 ≤ m.f0 ∧ m.f0 ≤ 6 then noRule m.f2 && still m
 else if m.f0 = 7 then noRule m.f2 && (((m.f5.length : Int) == 0) && (decide (0 ≤ m.f3) && decide (m.f3 ≤ 63)))
 else if m.f0 = 8 ∨ m.f0 = 9 then noRule m.f2 && (!m.f4 && (decide (64 ≤ m.f3) && (decide (m.f3 ≤ 127) && decide ((m.f5.length : Int) ≤ 1500))))
 else false
structure WM (m : Ms) : Prop where
 kd : 0 ≤ m.f0 ∧ m.f0 ≤ 255
 xid : 0 ≤ m.f1 ∧ m.f1 ≤ 4294967295
 src : 0 ≤ m.f2.f0 ∧ m.f2.f0 ≤ 4294967295
 dst : 0 ≤ m.f2.f1 ∧ m.f2.f1 ≤ 4294967295
 tag : 0 ≤ m.f2.f2 ∧ m.f2.f2 ≤ 4294967295
 push : 0 ≤ m.f2.f4 ∧ m.f2.f4 ≤ 4294967295
 fr : byteL m.f5
theorem len0 {α : Type} {l : List α} (h : ((l.length : Int) == 0) = true) : l = [] := by
 have := beq_iff_eq.1 h
 exact List.length_eq_zero_iff.1 (by omega)
theorem noRule_iff {r : Ru} : noRule r = true ↔ r = ⟨0, 0, 0, 0, 0, []⟩ := by
 obtain ⟨a, b, c, d, e, f⟩ := r
 constructor
 ·intro h
  simp only [noRule, Bool.and_eq_true, beq_iff_eq] at h
  obtain ⟨h0, h1, h2, h3, h4, h5⟩ := h
  have : f = [] := List.length_eq_zero_iff.1 (by omega)
  subst h0 h1 h2 h3 h4 this
  rfl
 ·intro h
  cases h
  rfl
theorem still_iff {m : Ms} : still m = true ↔ m.f3 = 0 ∧ m.f4 = false ∧ m.f5 = [] := by
 constructor
 ·intro h
  simp only [still, Bool.and_eq_true, beq_iff_eq, Bool.not_eq_true'] at h
  exact ⟨h.1, h.2.1, List.length_eq_zero_iff.1 (by omega)⟩
 ·rintro ⟨h0, h1, h2⟩
  unfold still
  rw [h0, h1, h2]
  rfl
inductive Kinds (m : Ms) : Prop where
 | put (h : m.f0 = 1) (hr : rightR m.f2 = true) (hs : m.f3 = 0 ∧ m.f4 = false ∧ m.f5 = [])
 | del (h : m.f0 = 2) (ha : askedB m.f2.f1 = true) (h3 : m.f2.f3 = 0) (h4 : m.f2.f4 = 0) (h5 : m.f2.f5 = []) (hs : m.f3 = 0 ∧ m.f4 = false ∧ m.f5 = [])
 | bare (h : 3 ≤ m.f0 ∧ m.f0 ≤ 6) (hr : m.f2 = ⟨0, 0, 0, 0, 0, []⟩) (hs : m.f3 = 0 ∧ m.f4 = false ∧ m.f5 = [])
 | link (h : m.f0 = 7) (hr : m.f2 = ⟨0, 0, 0, 0, 0, []⟩) (hp : 0 ≤ m.f3 ∧ m.f3 ≤ 63) (hf : m.f5 = [])
 | frame (h : m.f0 = 8 ∨ m.f0 = 9) (hr : m.f2 = ⟨0, 0, 0, 0, 0, []⟩) (hp : 64 ≤ m.f3 ∧ m.f3 ≤ 127) (hu : m.f4 = false) (hl : m.f5.length ≤ 1500)
theorem right_kinds {m : Ms} (h : rightM m = true) : Kinds m := by
 unfold rightM at h
 by_cases h1 : m.f0 = 1
 ·rw [if_pos h1, Bool.and_eq_true, still_iff] at h
  exact .put h1 h.1 h.2
 rw [if_neg h1] at h
 by_cases h2 : m.f0 = 2
 ·rw [if_pos h2] at h
  simp only [Bool.and_eq_true, still_iff, beq_iff_eq] at h
  exact .del h2 h.1 h.2.1.1 h.2.1.2.1 (List.length_eq_zero_iff.1 (by omega)) h.2.2
 rw [if_neg h2] at h
 by_cases h3 : 3 ≤ m.f0 ∧ m.f0 ≤ 6
 ·rw [if_pos h3, Bool.and_eq_true, still_iff, noRule_iff] at h
  exact .bare h3 h.1 h.2
 rw [if_neg h3] at h
 by_cases h7 : m.f0 = 7
 ·rw [if_pos h7] at h
  simp only [Bool.and_eq_true, noRule_iff, beq_iff_eq, decide_eq_true_eq] at h
  exact .link h7 h.1 h.2.2 (List.length_eq_zero_iff.1 (by omega))
 rw [if_neg h7] at h
 by_cases h8 : m.f0 = 8 ∨ m.f0 = 9
 ·rw [if_pos h8] at h
  simp only [Bool.and_eq_true, noRule_iff, Bool.not_eq_true', decide_eq_true_eq] at h
  exact .frame h8 h.1 ⟨h.2.2.1, h.2.2.2.1⟩ h.2.1 (by omega)
 rw [if_neg h8] at h
 cases h
theorem okOuts_bytes : ∀ (last : Int) (os : List Ot), -1 ≤ last → okOuts last os = true → byteL (os.map (·.f0)) ∧ (os.map (·.f0)).map mkOut = os
 | _, [], _, _ => ⟨(fun y h => by cases h), rfl⟩
 | last, o :: os, hl, h => by
  rw [okOuts] at h
  simp only [Bool.and_eq_true, decide_eq_true_eq, beq_iff_eq] at h
  obtain ⟨h1, h2, h3, h4⟩ := h
  obtain ⟨i1, i2⟩ := okOuts_bytes o.f0 os (by omega) h4
  refine ⟨?_, ?_⟩
  ·rw [List.map_cons, byteL_cons]
   exact ⟨by omega, i1⟩
  ·rw [List.map_cons, List.map_cons, i2]
   congr 1
   obtain ⟨p, b⟩ := o
   unfold mkOut
   simp only at h3 ⊢
   rw [h3]
structure RR (r : Ru) : Prop where
 bytes : byteL (r.f5.map (·.f0))
 outs : (r.f5.map (·.f0)).map mkOut = r.f5
 len : r.f5.length ≤ 128
 inn : 0 ≤ inP r.f3 ∧ inP r.f3 ≤ 65535
 back : (if inP r.f3 = 65535 then -1 else inP r.f3) = r.f3
theorem rightR_parts {r : Ru} (h : rightR r = true) : RR r := by
 unfold rightR at h
 simp only [Bool.and_eq_true, decide_eq_true_eq] at h
 obtain ⟨h1, h2, h3, h4⟩ := h
 obtain ⟨i1, i2⟩ := okOuts_bytes (-1) r.f5 (by omega) h3
 have h5 : r.f3 = -1 ∨ (64 ≤ r.f3 ∧ r.f3 ≤ 127) := by
  unfold tagOk at h4
  split at h4
  ·simp only [Bool.and_eq_true, decide_eq_true_eq] at h4
   exact .inr ⟨h4.1, h4.2.1⟩
  ·simp only [Bool.and_eq_true, decide_eq_true_eq] at h4
   exact .inl h4.1
 refine ⟨i1, i2, by omega, ?_, ?_⟩
 ·unfold inP
  rcases h5 with h5 | h5
  ·rw [if_pos h5]; omega
  ·rw [if_neg (by omega)]; omega
 ·unfold inP
  rcases h5 with h5 | h5
  ·rw [if_pos h5, if_pos rfl, h5]
  ·rw [if_neg (show ¬ r.f3 = -1 by omega), if_neg (by omega)]
def toR (m : Ms) (ok : Bool) : ReadR := (m.f0, m.f1, m.f2.f0, m.f2.f1, m.f2.f2, m.f2.f3, m.f2.f4, m.f2.f5, m.f3, m.f4, m.f5, ok)
def ofR (x : ReadR) : Ms := ⟨x.1, x.2.1, ⟨x.2.2.1, x.2.2.2.1, x.2.2.2.2.1, x.2.2.2.2.2.1, x.2.2.2.2.2.2.1, x.2.2.2.2.2.2.2.1⟩, x.2.2.2.2.2.2.2.2.1, x.2.2.2.2.2.2.2.2.2.1, x.2.2.2.2.2.2.2.2.2.2.1⟩
def okR (x : ReadR) : Bool := x.2.2.2.2.2.2.2.2.2.2.2
theorem toR_ofR (x : ReadR) : toR (ofR x) (okR x) = x := rfl
def readL (l : List Int) : ReadR := readK (numP (takeF 1 (takeF 2 l true).2.1 (takeF 2 l true).2.2).1 % 256) (numP (takeF 4 (takeF 1 (takeF 2 l true).2.1 (takeF 2 l true).2.2).2.1 (takeF 1 (takeF 2 l true).2.1 (takeF 2 l true).2.2).2.2).1 % 4294967296) (takeF 4 (takeF 1 (takeF 2 l true).2.1 (takeF 2 l true).2.2).2.1 (takeF 1 (takeF 2 l true).2.1 (takeF 2 l true).2.2).2.2).2.1 (takeF 4 (takeF 1 (takeF 2 l true).2.1 (takeF 2 l true).2.2).2.1 (takeF 1 (takeF 2 l true).2.1 (takeF 2 l true).2.2).2.2).2.2
theorem read_ok (l : List Int) (hl : l.length ≤ 1000000) : ofmsg_read.f l = some (readL l) := by
 unfold ofmsg_read.f readL
 rw [if_pos hl]
theorem readL_app {A : List Int} {k : Int} {C : List Int} (B : List Int) (hA : A.length = 2) (hC : C.length = 4) (hk : 0 ≤ k ∧ k ≤ 255) (hb : byteL C) : readL (A ++ ([k] ++ (C ++ B))) = readK k (numP C) B true := by
 have h1 := (four_num hb hC).2
 unfold readL
 rw [takeF_app _ true hA]
 simp only
 rw [takeF_app (C ++ B) true (show [k].length = 1 from rfl)]
 simp only
 rw [takeF_app B true hC, numP_1 (byteL_cons.2 ⟨hk, fun y h => by cases h⟩)]
 simp only
 rw [Int.emod_eq_of_lt (by omega) (by omega), Int.emod_eq_of_lt (by omega) (by omega)]
theorem readRule_app {A B C : List Int} (D : List Int) (kd xd : Int) (K : Int → Int → Int → Int → List Int → Bool → ReadR) (hA : A.length = 4) (hB : B.length = 4) (hC : C.length = 4) (bA : byteL A) (bB : byteL B) (bC : byteL C) : readRule kd xd (A ++ (B ++ (C ++ D))) true K = K xd (numP A) (numP B) (numP C) D true := by
 have h1 := (four_num bA hA).2
 have h2 := (four_num bB hB).2
 have h3 := (four_num bC hC).2
 unfold readRule
 rw [takeF_app _ true hA]
 simp only
 rw [takeF_app _ true hB]
 simp only
 rw [takeF_app D true hC]
 simp only
 rw [Int.emod_eq_of_lt (by omega) (by omega), Int.emod_eq_of_lt (by omega) (by omega), Int.emod_eq_of_lt (by omega) (by omega)]
theorem readPut_app {A B C : List Int} {n : Nat} (D : List Int) (xd s d g : Int) (hA : A.length = 2) (hB : B.length = 4) (hC : C.length = 2) (bA : byteL A) (bB : byteL B) (hn : numP C = n) : readPut xd s d g (A ++ (B ++ (C ++ D))) true = readPut2 xd s d g (numP A) (numP B) (outsR n D true []) := by
 have h2 := (four_num bB hB).2
 unfold readPut
 rw [takeF_app _ true hA]
 simp only
 rw [takeF_app _ true hB]
 simp only
 rw [takeF_app D true hC]
 simp only
 rw [Int.emod_eq_of_lt (by omega) (by omega), hn, Int.toNat_natCast]
theorem read_enc {m : Ms} (hw : WM m) (hr : rightM m = true) : readL (encP m) = toR m true := by
 unfold encP
 rw [readL_app (innerP m) (twoL_len _) (fourL_len _) hw.kd (byteL_four _), numP_four hw.xid.1 hw.xid.2]
 have hk := right_kinds hr
 obtain ⟨kd, xid, ⟨src, dst, tag, inn, push, outs⟩, port, up, frame⟩ := m
 cases hk with
 | put h hrr hs =>
  obtain ⟨h3, h4, h5⟩ := hs
  simp only at h h3 h4 h5 hrr
  subst h h3 h4 h5
  have hp := rightR_parts hrr
  have hs := hw.src
  have hd := hw.dst
  have ht := hw.tag
  have hpu := hw.push
  have hl := hp.len
  have hi := hp.inn
  simp only at hs hd ht hpu hl hi
  unfold innerP readK
  simp only [if_true]
  rw [readRule_app _ _ _ _ (fourL_len _) (fourL_len _) (fourL_len _) (byteL_four _) (byteL_four _) (byteL_four _), numP_four hs.1 hs.2, numP_four hd.1 hd.2, numP_four ht.1 ht.2]
  have hn : numP (twoL (outs.length : Int)) = ((outs.map (·.f0)).length : Nat) := by
   rw [numP_two (by omega) (by omega), List.length_map]
  rw [readPut_app (outs.map (·.f0)) _ _ _ _ (twoL_len _) (fourL_len _) (twoL_len _) (byteL_two _) (byteL_four _) hn, numP_two hi.1 hi.2, numP_four hpu.1 hpu.2]
  have ho := outsR_app (outs.map (·.f0)) [] [] hp.bytes
  rw [List.append_nil] at ho
  rw [ho, hp.outs, List.nil_append]
  unfold readPut2 toR
  simp only
  rw [hp.back]
  rfl
 | del h ha h3 h4 h5 hs =>
  obtain ⟨h6, h7, h8⟩ := hs
  simp only at h h3 h4 h5 h6 h7 h8
  subst h h3 h4 h5 h6 h7 h8
  have hs := hw.src
  have hd := hw.dst
  have ht := hw.tag
  simp only at hs hd ht
  unfold innerP readK
  simp only [if_true, show ¬ ((2 : Int) = 1) by omega, if_false]
  have := readRule_app [] 2 xid readDel (fourL_len src) (fourL_len dst) (fourL_len tag) (byteL_four _) (byteL_four _) (byteL_four _)
  rw [List.append_nil] at this
  rw [this, numP_four hs.1 hs.2, numP_four hd.1 hd.2, numP_four ht.1 ht.2]
  rfl
 | bare h hrr hs =>
  obtain ⟨h6, h7, h8⟩ := hs
  simp only at h hrr h6 h7 h8
  injection hrr with z0 z1 z2 z3 z4 z5
  subst z0 z1 z2 z3 z4 z5
  subst h6 h7 h8
  unfold innerP readK
  simp only
  rw [if_neg (by omega), if_neg (by omega), if_neg (by omega), if_neg (by omega), if_neg (by omega), if_neg (by omega), if_neg (by omega), if_neg (by omega)]
  rfl
 | link h hrr hp hf =>
  simp only at h hrr hp hf
  injection hrr with z0 z1 z2 z3 z4 z5
  subst z0 z1 z2 z3 z4 z5
  subst h hf
  unfold innerP readK
  simp only [show ¬ ((7 : Int) = 1) by omega, show ¬ ((7 : Int) = 2) by omega, if_true, if_false]
  unfold readLink
  rw [show [port, if up = true then (1 : Int) else 0] = [port] ++ ([if up = true then (1 : Int) else 0] ++ []) from rfl, takeF_app _ true (show [port].length = 1 from rfl)]
  simp only
  rw [takeF_app [] true (show [if up = true then (1 : Int) else 0].length = 1 from rfl), numP_1 (byteL_cons.2 ⟨by omega, fun y h => by cases h⟩), numP_1 (byteL_cons.2 ⟨by split <;> omega, fun y h => by cases h⟩)]
  cases up <;> rfl
 | frame h hrr hp hu hl =>
  simp only at h hrr hp hu hl
  injection hrr with z0 z1 z2 z3 z4 z5
  subst z0 z1 z2 z3 z4 z5
  subst hu
  unfold innerP readK
  simp only
  rw [if_neg (by omega), if_neg (by omega), if_neg (by omega), if_pos h, if_neg (by omega), if_neg (by omega), if_neg (by omega), if_pos h]
  unfold readBytes
  rw [show port :: frame = [port] ++ frame from rfl, takeF_app _ true (show [port].length = 1 from rfl), numP_1 (byteL_cons.2 ⟨by omega, fun y h => by cases h⟩)]
  rfl
end Go.Proofs.Ytboonfidioombaa.P

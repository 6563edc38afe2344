/- For each Go function a Lean function, and the proof that a call comes to what it tells: made by program out of the translation (the kit's print, with texts by hand put in). No condition. -/
import Derived.Test.YtboonfidioombaaSq
import Derived.Test.YtboonfidioombaaPx0
namespace Go.Proofs.Ytboonfidioombaa.P
open Go.RowKit Go.Proofs.Ytboonfidioombaa.HRows Go.Proofs.YtboonfidioombaaW.PrintWords Go.Proofs.YtboonfidioombaaW.PrintLast Go.Proofs.YtboonfidioombaaW.PrintMore
attribute [local go_sem] max2_int min2_int max_two min_two max_three min_three max_four min_four
set_option linter.unusedVariables false
set_option linter.unusedSimpArgs false
structure Two (g1 g4 : Nat) (w w' : World) : Prop where
 os : w'.os = w.os
 tape : w'.tape = w.tape
 output : w'.output = w.output
 size : w.heap.size ≤ w'.heap.size
 block : ∀ k, k < w.heap.size → k ≠ g1 → k ≠ g4 → w'.heap[k]? = w.heap[k]?
theorem Two.refl (g1 g4 : Nat) (w : World) : Two g1 g4 w w := ⟨rfl, rfl, rfl, Nat.le_refl _, fun _ _ _ _ => rfl⟩
theorem Two.step {g1 g4 : Nat} {w w1 w2 : World} (h : Two g1 g4 w w1) (hb : Below w1.heap.size w1 w2) : Two g1 g4 w w2 :=
 ⟨hb.os.trans h.os, hb.tape.trans h.tape, hb.output.trans h.output, Nat.le_trans h.size hb.size, fun k hk h1 h2 => (hb.block k (Nat.lt_of_lt_of_le hk h.size)).trans (h.block k hk h1 h2)⟩
theorem Two.only {g1 g4 g : Nat} {w w1 w2 : World} (h : Two g1 g4 w w1) (ho : Only g w1 w2) (hg : g = g1 ∨ g = g4) : Two g1 g4 w w2 :=
 ⟨ho.os.trans h.os, ho.tape.trans h.tape, ho.output.trans h.output, by rw [ho.size]; exact h.size, fun k hk h1 h2 => (ho.block k (by rcases hg with rfl | rfl <;> assumption)).trans (h.block k hk h1 h2)⟩
theorem Two.trans {g1 g4 : Nat} {w w1 w2 : World} (h : Two g1 g4 w w1) (h' : Two g1 g4 w1 w2) : Two g1 g4 w w2 :=
 ⟨h'.os.trans h.os, h'.tape.trans h.tape, h'.output.trans h.output, Nat.le_trans h.size h'.size, fun k hk h1 h2 => (h'.block k (Nat.lt_of_lt_of_le hk h.size) h1 h2).trans (h.block k hk h1 h2)⟩
theorem Two.below {g1 g4 b : Nat} {w0 w w' : World} (h : Two g1 g4 w w') (hB : Below b w0 w) (hb : b ≤ w.heap.size) (h1 : b ≤ g1) (h4 : b ≤ g4) : Below b w0 w' :=
 ⟨h.os.trans hB.os, h.tape.trans hB.tape, h.output.trans hB.output, Nat.le_trans hB.size h.size, fun k hk => (h.block k (Nat.lt_of_lt_of_le hk hb) (by omega) (by omega)).trans (hB.block k hk)⟩
theorem only_set (w : World) (g j : Nat) (u : Value) : Only g w (w.setCell ⟨g, j, none⟩ u) :=
 ⟨rfl, rfl, rfl, by simp [World.setCell], fun k hk => Below.heap_setCell w ⟨g, j, none⟩ u k hk⟩
/-- The two boxes of the reader: what is left, and whether all went well. -/
structure TS (g1 g4 : Nat) (ok : Nat → Prop) (w : World) (A : Option Addr) (c : Nat) (l : List Int) (b : Bool) : Prop where
 row : w.heap[g1]? = some (.cells #[.slice A l.length c] 27 (0, 0))
 flag : w.heap[g4]? = some (.cells #[.bool b] 4 (0, 0))
 room : l.length ≤ c
 bytes : Kd.F (Kd.int .u8) w ok A l.length l
def takeF (k : Nat) (l : List Int) (b : Bool) : List Int × List Int × Bool := if l.length < k then (List.replicate k 0, l, false) else (l.take k, l.drop k, b)
def TakeOut (g1 g4 : Nat) (ok : Nat → Prop) (w : World) (k : Nat) (x : List Int × List Int × Bool) (e : Ending) (w' : World) : Prop :=
 ∃ A1 c1 A2 c2, e = .returned (.slice A1 k c1) ∧ (Kd.int .u8).C w' A1 k x.1 ∧ k ≤ c1 ∧ TS g1 g4 ok w' A2 c2 x.2.1 x.2.2 ∧ Two g1 g4 w w'
set_option maxHeartbeats 4000000 in
set_option maxRecDepth 100000 in
theorem take_calls (g1 g4 : Nat) (ok : Nat → Prop) (w : World) (A : Option Addr) (c k : Nat) (l : List Int) (b : Bool) (h : TS g1 g4 ok w A c l b) (hne : g1 ≠ g4) (hok : ∀ k, ok k → k ≠ g1 ∧ k ≠ g4) (hk : k ≤ 1000) :
  Calls Try.prog 48 #[.int .i64 k, .pointer (some ⟨g1, 0, none⟩), .pointer (some ⟨g4, 0, none⟩)] w (TakeOut g1 g4 ok w k (takeF k l b)) := by
 have HROW := m_ h.row
 have HOK := m_ h.flag
 have HROOM := m_ h.room
 have HF := m_ h.bytes
 have HNE := m_ hne
 have HKO := m_ hok
 have HK := m_ hk
 have hu27 := Try.underlying27
 have hrow : w.cell? ⟨g1, 0, none⟩ = some (.slice A l.length c) := (blk_cell h.row 0).trans rfl
 have hcok : w.cell? ⟨g4, 0, none⟩ = some (.bool b) := (blk_cell h.flag 0).trans rfl
 have hf1 := blk_frozen h.row 0
 have hf4 := blk_frozen h.flag 0
 clear h hne hok hk
 by_cases hlt : l.length < k
 ·have hd : decide ((l.length : Int) < (k : Int)) = true := decide_eq_true (by omega)
  have hT : takeF k l b = (List.replicate k 0, l, false) := if_pos hlt
  rw [hT]
  clear hT
  go_enter Try.func48, Try.ntmps48
  go_wp2_with ((with_reducible refine gate_dst (N := 11) rfl ?_); refine Stop0.out ?_)
  refine ⟨?_⟩
  have HO1 := m_ (only_set w g4 0 (.bool false))
  have HFL := m_ (blk_put HOK.out 0 (.bool false) (cs' := #[.bool false]) rfl)
  generalize w.setCell ⟨g4, 0, none⟩ (.bool false) = w1 at HO1 HFL ⊢
  clear hrow hcok hf1 hf4 hd hlt
  refine Kd.R_make (Kd.int .u8) (w0 := w1) w1.heap.size 5 (by rfl) (N := 11) (by rfl) 27 (.tmp 10) (.tmp 10) (by rfl) (k : Int) (by rfl) (by rfl) Try.underlying27 (.int .u8 0) 1 info5 rfl (by decide) (by omega) 0 (ok := fun _ => True) (okp := fun _ => False) rfl (fun _ h => h.elim) trivial (by omega) (by have := HK.out; rw [Int.toNat_natCast]; omega) (Below.refl _ _) (Nat.le_refl _) ?_
  intro v1 w2 hR hb hg _
  obtain ⟨A1, c1, rfl⟩ := Kd.R_slice hR
  have h1 := Kd.R_reads' hR
  rw [List.length_replicate, Int.toNat_natCast] at h1
  have HC1 := m_ h1
  have HB := m_ hb
  rw [List.length_replicate, Int.toNat_natCast]
  clear hR hb hg h1
  go_wp2
  go_ret
  have hW := (Two.refl g1 g4 w).only HO1.out (.inr rfl)
  refine ⟨A1, c1, A, c, rfl, ?_, HC1.out.2.1, ⟨?_, ?_, HROOM.out, ?_⟩, hW.step HB.out⟩
  ·exact HC1.out.2.2
  ·exact blk_below (HO1.out.blk HNE.out HROW.out) HB.out
  ·exact blk_below HFL.out HB.out
  ·exact Kd.F_below (Kd.F_step HF.out (fun k hk _ => HO1.out.block k (HKO.out k hk).2)) HB.out
 ·have hd : decide ((l.length : Int) < (k : Int)) = false := decide_eq_false (by omega)
  have hT : takeF k l b = (l.take k, l.drop k, b) := if_neg hlt
  rw [hT]
  obtain ⟨i0, hi0⟩ : ∃ i, Try.prog.info? 5 = some i := ⟨_, rfl⟩
  have hsz : i0.size = 1 := by
   have h := info5
   rw [hi0] at h
   simp at h
   exact h.2.1
  have hcut1 := cut_to (P := Try.prog) 27 5 .i64 Try.underlying27 hi0 A l.length c (k : Int) (by omega) (by omega) HROOM.out
  have hcut2 := cut_from (P := Try.prog) 27 5 .i64 Try.underlying27 hi0 1 hsz A l.length c (k : Int) (by omega) (by omega)
  rw [Int.toNat_natCast] at hcut1 hcut2
  have hcut := Kd.F_cut (m := k) HF.out (by omega) HROOM.out
  have htake := Kd.F_take (m := k) HF.out (by omega)
  rw [show (Kd.int .u8).sz = 1 from rfl] at hcut
  rw [List.length_take, Nat.min_eq_left (by omega)] at htake
  rw [List.length_drop] at hcut
  obtain ⟨A2, hA2⟩ : ∃ A2, A2 = (if c = k then A else A.map (·.add (k * 1))) := ⟨_, rfl⟩
  rw [← hA2] at hcut hcut2
  obtain ⟨c2, hc2⟩ : ∃ c2, c2 = c - k := ⟨_, rfl⟩
  rw [← hc2] at hcut2
  obtain ⟨n2, hn2⟩ : ∃ n2, n2 = l.length - k := ⟨_, rfl⟩
  rw [← hn2] at hcut2 hcut
  have HN2 := m_ hn2
  have HC2 := m_ hc2
  have HCUT := m_ hcut
  have HTAKE := m_ htake
  clear hT hi0 hsz hA2 hc2 hcut htake hn2
  go_enter Try.func48, Try.ntmps48
  go_wp2
  have HLT := m_ hlt
  have HO1 := m_ (only_set w g1 0 (.slice A2 n2 c2))
  have HFL := m_ (blk_put HROW.out 0 (.slice A2 n2 c2) (cs' := #[.slice A2 n2 c2]) rfl)
  generalize w.setCell ⟨g1, 0, none⟩ (.slice A2 n2 c2) = w1 at HO1 HFL ⊢
  go_ret
  have hl := HLT.out
  have hr := HROOM.out
  have hn := HN2.out
  have hc := HC2.out
  have hW := (Two.refl g1 g4 w).only HO1.out (.inl rfl)
  refine ⟨A, c, A2, c2, rfl, ?_, by omega, ⟨?_, ?_, ?_, ?_⟩, hW⟩
  ·exact Kd.F_now (Kd.F_step HTAKE.out (fun k hk _ => HO1.out.block k (HKO.out k hk).1))
  ·rw [show (l.drop k).length = n2 by rw [List.length_drop]; omega]
   exact HFL.out
  ·exact HO1.out.blk (Ne.symm HNE.out) HOK.out
  ·rw [List.length_drop]; omega
  ·rw [show (l.drop k).length = n2 by rw [List.length_drop]; omega]
   exact Kd.F_step HCUT.out (fun k hk _ => HO1.out.block k (HKO.out k hk).1)
def numStep (v x : Int) : Int := bits BinOp.or IntKind.i64 (wrap64 (v * 256)) (wrap64 x)
/-- A number of so many bytes. -/
def numP (bs : List Int) : Int := bs.foldl (fun v x => numStep v x) 0
def NumOut (g1 g4 : Nat) (ok : Nat → Prop) (w : World) (x : List Int × List Int × Bool) (e : Ending) (w' : World) : Prop :=
 ∃ A2 c2, e = .returned (.int .i64 (numP x.1)) ∧ TS g1 g4 ok w' A2 c2 x.2.1 x.2.2 ∧ Two g1 g4 w w'
theorem takeF_len (k : Nat) (l : List Int) (b : Bool) : (takeF k l b).1.length = k := by
 unfold takeF
 split
 ·exact List.length_replicate
 ·simp; omega
theorem takeF_le (k : Nat) (l : List Int) (b : Bool) : (takeF k l b).2.1.length ≤ l.length := by
 unfold takeF
 split
 ·exact Nat.le_refl _
 ·simp
theorem takeF_one (l : List Int) (b : Bool) (h : (takeF 1 l b).2.2 = true) : (takeF 1 l b).2.1.length + 1 ≤ l.length := by
 unfold takeF at h ⊢
 split at h
 ·cases h
 ·rename_i h1
  rw [if_neg h1]
  simp
  omega
set_option maxHeartbeats 4000000 in
set_option maxRecDepth 100000 in
theorem number_calls (g1 g4 g5 : Nat) (ok : Nat → Prop) (w : World) (A : Option Addr) (c k : Nat) (l : List Int) (b : Bool) (h : TS g1 g4 ok w A c l b) (hne : g1 ≠ g4) (hok : ∀ k, ok k → k ≠ g1 ∧ k ≠ g4) (hk : k ≤ 1000) (h5 : w.heap[g5]? = some (.cells #[.func (.func 48) #[] #[.pointer (some ⟨g1, 0, none⟩), .pointer (some ⟨g4, 0, none⟩)]] 55 (0, 0))) :
  Calls Try.prog 49 #[.int .i64 k, .pointer (some ⟨g5, 0, none⟩)] w (NumOut g1 g4 ok w (takeF k l b)) := by
 have HS := m_ h
 have HNE := m_ hne
 have HKO := m_ hok
 have HK := m_ hk
 have hu27 := Try.underlying27
 have HTK := m_ (take_calls g1 g4 ok w A c k l b h hne hok hk)
 have HLN := m_ (takeF_len k l b)
 generalize takeF k l b = x at HTK HLN ⊢
 obtain ⟨bs, l2, b2⟩ := x
 have HLN : Aside0 (bs.length = k) := HLN
 have hfn : w.cell? ⟨g5, 0, none⟩ = some (.func (.func 48) #[] #[.pointer (some ⟨g1, 0, none⟩), .pointer (some ⟨g4, 0, none⟩)]) := (blk_cell h5 0).trans rfl
 clear h hne hok hk h5
 go_enter Try.func49, Try.ntmps49
 go_wp2_with (go_at_call 48; refine Stop0.out ?_)
 refine ⟨?_⟩
 refine HTK.out.mono ?_
 rintro e w2 ⟨A1, c1, A2, c2, rfl, hC, hkc, hT, hW⟩
 have HC := m_ hC
 have HT := m_ hT
 have HW := m_ hW
 have HC : Aside0 ((Kd.int .u8).C w2 A1 k bs) := HC
 have HKC := m_ hkc
 clear hC hkc hT hW HS hfn HTK
 go_wp2
 go_loopg [4, 11] k (fun gg s4 s11 wr => ∃ i : Nat, i ≤ k ∧ k - i ≤ gg ∧ s11 = .int .i64 i ∧ s4 = .int .i64 (numP (bs.take i)) ∧ Aside0 (w2 = wr))
 case atStart => exact ⟨0, Nat.zero_le _, by omega, rfl, rfl, ⟨rfl⟩⟩
 case round =>
  obtain ⟨i, hi, hg, rfl, rfl, HQ⟩ := hrel
  obtain rfl := HQ.out
  have hk := HK.out
  by_cases hlt : i < k
  ·have hlt' : (i : Int) < (k : Int) := by omega
   have hlb : i < bs.length := by have := HLN.out; omega
   obtain ⟨ad, cs, rfl, _, hKx, hc0⟩ := Kd.C_get HC.out (0 : Int) (i : Int) (by omega) (by omega)
   have hx : bs.getD (i : Int).toNat 0 = bs[i]'hlb := by rw [Int.toNat_natCast, List.getD_eq_getElem?_getD, List.getElem?_eq_getElem hlb, Option.getD_some]
   rw [hx] at hKx
   have hcs : cs = [.int .u8 (bs[i]'hlb)] := hKx
   have hcell := hc0 0 _ (by rw [hcs]; rfl)
   rw [Int.toNat_natCast, show (Kd.int .u8).sz = 1 from rfl, Nat.add_zero, Nat.mul_one] at hcell
   have HST := m_ (show numP (bs.take (i + 1)) = numStep (numP (bs.take i)) (bs[i]'hlb) from by rw [List.take_succ_eq_append_getElem hlb]; unfold numP; rw [List.foldl_append]; rfl)
   generalize (bs[i]'hlb) = x at hcell HST
   generalize numP (bs.take i) = v at HST ⊢
   clear hx hKx hcs hc0 HQ
   go_wp2
   go_roundg (k - (i + 1))
   case measure => omega
   case rel =>
    refine ⟨i + 1, by omega, by omega, by go_num, ?_, ⟨rfl⟩⟩
    rw [HST.out]
    rfl
  ·obtain rfl : i = k := by omega
   have hlt' : ¬ ((i : Int) < (i : Int)) := by omega
   rw [List.take_of_length_le (Nat.le_of_eq HLN.out)]
   go_wp2
   go_ret
   exact ⟨A2, c2, rfl, HT.out, HW.out⟩
theorem write_step {P : Program} {ops : Array Oper} {o : Oper} {a : Act} {Q : Exit → Act → World → Prop} {W : World} {K : Act → World → Prop} {X : Prop} (hw : Region.wanted o (yielded ops a.tmps) = true) (hN : o.dst = none) {t : TypeId} {p x : Operand} (ho : o.op = .store t p x) {g o' : Nat} {e : TypeId} {cs cs' : Array Value} {u : Value} (seg : List Value) (haddr : a.eval p = .pointer (some ⟨g, o', none⟩)) (hx : a.eval x = u) (hu : u.cells.toList = seg) (ht : (P.info? t).map (·.size) = some seg.length) (h1 : ∀ q ∈ seg, q.oneCell' = true)
  (hh : W.heap[g]? = some (.cells cs e (0, 0))) (hfit : o' + seg.length ≤ cs.size) (hcs : cs'.toList = cs.toList.take o' ++ seg ++ cs.toList.drop (o' + seg.length))
  (h : ∀ W', W'.heap[g]? = some (.cells cs' e (0, 0)) → Only g W W' → K a W') : if Region.wanted o (yielded ops a.tmps) = true then Oper.wp P o a W K Q else X := by
 rw [if_pos hw]
 unfold Oper.wp
 have hrun : (execOp a.eval o).run P W = .ok .skip (W.setCells g o' seg) := by
  have := run_store_run (P := P) t u seg hh hu ht hfit h1
  simp only [execOp, ho, haddr, hx]
  simp [this]
 rw [hrun]
 show K (a.put o.dst undef) _
 rw [hN]
 obtain ⟨cur', h3, h4, h5⟩ := setCells_row seg o' W cs hh hfit
 obtain ⟨s1, s2, s3, s4⟩ := setCells_same g seg o' W
 have hc : cur' = cs' := Array.toList_inj.1 (h5.trans hcs.symm)
 subst hc
 exact h _ h3 ⟨s1, s2, s3, s4, fun k hk => setCells_far seg _ k hk⟩
abbrev zeroM : Array Value := #[.int .u8 0, .int .u32 0, .int .u32 0, .int .u32 0, .int .u32 0, .int .i64 0, .int .u32 0, .slice none 0 0, .int .i64 0, .bool false, .slice none 0 0]
/-- What is known of the world between two calls of the reader. -/
structure RS (w w1 : World) (ok : Nat → Prop) (g1 g2 g4 g5 : Nat) (A : Option Addr) (c : Nat) (l : List Int) (b : Bool) : Prop where
 ts : TS g1 g4 ok w1 A c l b
 res : w1.heap[g2]? = some (.cells zeroM 29 (0, 0))
 fn : w1.heap[g5]? = some (.cells #[.func (.func 48) #[] #[.pointer (some ⟨g1, 0, none⟩), .pointer (some ⟨g4, 0, none⟩)]] 55 (0, 0))
 bel : Below w.heap.size w w1
 len : l.length ≤ 1000000
/-- The boxes are apart, and new. -/
structure Gs (B : Nat) (g1 g2 g4 g5 : Nat) : Prop where
 n1 : B ≤ g1
 n14 : g1 < g2
 n2 : g2 < g4
 n4 : g4 < g5
theorem RS.size {w w1 : World} {ok : Nat → Prop} {g1 g2 g4 g5 : Nat} {A : Option Addr} {c : Nat} {l : List Int} {b : Bool} (h : RS w w1 ok g1 g2 g4 g5 A c l b) : g1 < w1.heap.size ∧ g2 < w1.heap.size ∧ g4 < w1.heap.size ∧ g5 < w1.heap.size :=
 ⟨blk_lt h.ts.row, blk_lt h.res, blk_lt h.ts.flag, blk_lt h.fn⟩
theorem RS.two {w w1 w2 : World} {ok : Nat → Prop} {g1 g2 g4 g5 : Nat} {A A2 : Option Addr} {c c2 : Nat} {l l2 : List Int} {b b2 : Bool} (h : RS w w1 ok g1 g2 g4 g5 A c l b) (hg : Gs w.heap.size g1 g2 g4 g5) (ht : TS g1 g4 ok w2 A2 c2 l2 b2) (h2 : Two g1 g4 w1 w2) (hl : l2.length ≤ l.length) : RS w w2 ok g1 g2 g4 g5 A2 c2 l2 b2 := by
 have hs := h.size
 have h0 := hg.n1
 have h1 := hg.n14
 have h3 := hg.n2
 have h4 := hg.n4
 exact ⟨ht, (h2.block g2 hs.2.1 (by omega) (by omega)).trans h.res, (h2.block g5 hs.2.2.2 (by omega) (by omega)).trans h.fn, h2.below h.bel h.bel.size (by omega) (by omega), Nat.le_trans hl h.len⟩
theorem RS.only {w w1 w2 : World} {ok : Nat → Prop} {g1 g2 g4 g5 g : Nat} {A : Option Addr} {c : Nat} {l : List Int} {b : Bool} (h : RS w w1 ok g1 g2 g4 g5 A c l b) (hg : Gs w.heap.size g1 g2 g4 g5) (hn : g5 < g) (hok : ∀ k, ok k → k < w.heap.size) (h2 : Only g w1 w2) : RS w w2 ok g1 g2 g4 g5 A c l b := by
 have h0 := hg.n1
 have h1 := hg.n14
 have h3 := hg.n2
 have h4 := hg.n4
 exact ⟨⟨h2.blk (by omega) h.ts.row, h2.blk (by omega) h.ts.flag, h.ts.room, Kd.F_step h.ts.bytes (fun k hk _ => h2.block k (by have := hok k hk; omega))⟩, h2.blk (by omega) h.res, h2.blk (by omega) h.fn, h2.below h.bel (by omega), h.len⟩
theorem RS.below {w w1 w2 : World} {ok : Nat → Prop} {g1 g2 g4 g5 : Nat} {A : Option Addr} {c : Nat} {l : List Int} {b : Bool} (h : RS w w1 ok g1 g2 g4 g5 A c l b) (h2 : Below w1.heap.size w1 w2) : RS w w2 ok g1 g2 g4 g5 A c l b :=
 ⟨⟨blk_below h.ts.row h2, blk_below h.ts.flag h2, h.ts.room, Kd.F_below h.ts.bytes h2⟩, blk_below h.res h2, blk_below h.fn h2, below_step h.bel h2, h.len⟩
theorem RS.setflag {w w1 : World} {ok : Nat → Prop} {g1 g2 g4 g5 : Nat} {A : Option Addr} {c : Nat} {l : List Int} {b : Bool} (h : RS w w1 ok g1 g2 g4 g5 A c l b) (hg : Gs w.heap.size g1 g2 g4 g5) (hok : ∀ k, ok k → k < w.heap.size) (b' : Bool) : RS w (w1.setCell ⟨g4, 0, none⟩ (.bool b')) ok g1 g2 g4 g5 A c l b' := by
 have h0 := hg.n1
 have h1 := hg.n14
 have h3 := hg.n2
 have h4 := hg.n4
 have h2 := only_set w1 g4 0 (.bool b')
 exact ⟨⟨h2.blk (by omega) h.ts.row, blk_put h.ts.flag 0 (.bool b') (cs' := #[.bool b']) rfl, h.ts.room, Kd.F_step h.ts.bytes (fun k hk _ => h2.block k (by have := hok k hk; omega))⟩, h2.blk (by omega) h.res, h2.blk (by omega) h.fn, h2.below h.bel (by omega), h.len⟩
/-- The reader's number, in the bundle. -/
theorem RS.number {w w1 : World} {ok : Nat → Prop} {g1 g2 g4 g5 : Nat} {A : Option Addr} {c : Nat} {l : List Int} {b : Bool} (h : RS w w1 ok g1 g2 g4 g5 A c l b) (hg : Gs w.heap.size g1 g2 g4 g5) (hok : ∀ k, ok k → k < w.heap.size) (k : Nat) (hk : k ≤ 1000) :
  Calls Try.prog 49 #[.int .i64 k, .pointer (some ⟨g5, 0, none⟩)] w1 (fun e w2 => ∃ A2 c2, e = .returned (.int .i64 (numP (takeF k l b).1)) ∧ RS w w2 ok g1 g2 g4 g5 A2 c2 (takeF k l b).2.1 (takeF k l b).2.2 ∧ Two g1 g4 w1 w2) := by
 have h0 := hg.n1
 have h1 := hg.n14
 have h3 := hg.n2
 refine (number_calls g1 g4 g5 ok w1 A c k l b h.ts (by omega) (fun k hk => ⟨by have := hok k hk; omega, by have := hok k hk; omega⟩) hk h.fn).mono ?_
 rintro e w2 ⟨A2, c2, rfl, hT, hW⟩
 exact ⟨A2, c2, rfl, h.two hg hT hW (takeF_le k l b), hW⟩
abbrev ReadR := Int × Int × Int × Int × Int × Int × Int × List (S59) × Int × Bool × List Int × Bool
def rdEnd (l : List Int) (b : Bool) : Bool := if b = true then ((l.length : Int) == 0) else false
def outsR : Nat → List Int → Bool → List (S59) → List (S59) × List Int × Bool
 | 0, l, b, os => (os, l, b)
 | n + 1, l, b, os => if (takeF 1 l b).2.2 = true then outsR n (takeF 1 l b).2.1 (takeF 1 l b).2.2 (os ++ [⟨numP (takeF 1 l b).1, decide (numP (takeF 1 l b).1 ≥ 64)⟩]) else (os, (takeF 1 l b).2.1, (takeF 1 l b).2.2)
def readPut2 (xd s d g i p : Int) (o : List (S59) × List Int × Bool) : ReadR := (1, xd, s, d, g, if i = 65535 then -1 else i, p, o.1, 0, false, [], rdEnd o.2.1 o.2.2)
def readPut (xd s d g : Int) (l : List Int) (b : Bool) : ReadR :=
 readPut2 xd s d g (numP (takeF 2 l b).1) (numP (takeF 4 (takeF 2 l b).2.1 (takeF 2 l b).2.2).1 % 4294967296)
  (outsR (numP (takeF 2 (takeF 4 (takeF 2 l b).2.1 (takeF 2 l b).2.2).2.1 (takeF 4 (takeF 2 l b).2.1 (takeF 2 l b).2.2).2.2).1).toNat (takeF 2 (takeF 4 (takeF 2 l b).2.1 (takeF 2 l b).2.2).2.1 (takeF 4 (takeF 2 l b).2.1 (takeF 2 l b).2.2).2.2).2.1 (takeF 2 (takeF 4 (takeF 2 l b).2.1 (takeF 2 l b).2.2).2.1 (takeF 4 (takeF 2 l b).2.1 (takeF 2 l b).2.2).2.2).2.2 [])
def readDel (xd s d g : Int) (l : List Int) (b : Bool) : ReadR := (2, xd, s, d, g, 0, 0, [], 0, false, [], rdEnd l b)
def readRule (kd xd : Int) (l : List Int) (b : Bool) (k : Int → Int → Int → Int → List Int → Bool → ReadR) : ReadR :=
 k xd (numP (takeF 4 l b).1 % 4294967296) (numP (takeF 4 (takeF 4 l b).2.1 (takeF 4 l b).2.2).1 % 4294967296) (numP (takeF 4 (takeF 4 (takeF 4 l b).2.1 (takeF 4 l b).2.2).2.1 (takeF 4 (takeF 4 l b).2.1 (takeF 4 l b).2.2).2.2).1 % 4294967296)
  (takeF 4 (takeF 4 (takeF 4 l b).2.1 (takeF 4 l b).2.2).2.1 (takeF 4 (takeF 4 l b).2.1 (takeF 4 l b).2.2).2.2).2.1 (takeF 4 (takeF 4 (takeF 4 l b).2.1 (takeF 4 l b).2.2).2.1 (takeF 4 (takeF 4 l b).2.1 (takeF 4 l b).2.2).2.2).2.2
def readLink (xd : Int) (l : List Int) (b : Bool) : ReadR :=
 (7, xd, 0, 0, 0, 0, 0, [], numP (takeF 1 l b).1, numP (takeF 1 (takeF 1 l b).2.1 (takeF 1 l b).2.2).1 == 1, [], rdEnd (takeF 1 (takeF 1 l b).2.1 (takeF 1 l b).2.2).2.1 (if (takeF 1 (takeF 1 l b).2.1 (takeF 1 l b).2.2).2.2 = true then decide (numP (takeF 1 (takeF 1 l b).2.1 (takeF 1 l b).2.2).1 ≤ 1) else false))
def readBytes (kd xd : Int) (l : List Int) (b : Bool) : ReadR := (kd, xd, 0, 0, 0, 0, 0, [], numP (takeF 1 l b).1, false, (takeF 1 l b).2.1, (takeF 1 l b).2.2)
def readK (kd xd : Int) (l : List Int) (b : Bool) : ReadR :=
 if kd = 1 then readRule kd xd l b readPut else if kd = 2 then readRule kd xd l b readDel else if kd = 7 then readLink xd l b else if kd = 8 ∨ kd = 9 then readBytes kd xd l b else (kd, xd, 0, 0, 0, 0, 0, [], 0, false, [], rdEnd l b)
def ofmsg_read.f (l0 : List Int) : Option ReadR := if l0.length ≤ 1000000 then
 some (readK (numP (takeF 1 (takeF 2 l0 true).2.1 (takeF 2 l0 true).2.2).1 % 256) (numP (takeF 4 (takeF 1 (takeF 2 l0 true).2.1 (takeF 2 l0 true).2.2).2.1 (takeF 1 (takeF 2 l0 true).2.1 (takeF 2 l0 true).2.2).2.2).1 % 4294967296) (takeF 4 (takeF 1 (takeF 2 l0 true).2.1 (takeF 2 l0 true).2.2).2.1 (takeF 1 (takeF 2 l0 true).2.1 (takeF 2 l0 true).2.2).2.2).2.1 (takeF 4 (takeF 1 (takeF 2 l0 true).2.1 (takeF 2 l0 true).2.2).2.1 (takeF 1 (takeF 2 l0 true).2.1 (takeF 2 l0 true).2.2).2.2).2.2) else none
set_option maxHeartbeats 4000000 in
set_option maxRecDepth 100000 in
theorem ofmsg_read.calls (P0_ : Nat → Prop) (A0 : Option Addr) (c0 : Nat) (l0 : List Int) (r1 r2 r3 r4 r5 r6 r7 : Int) (r8 : List (S59)) (r9 : Int) (r10 : Bool) (r11 : List Int) (r12 : Bool) (w : World) (hs0 : Kd.V (Kd.int .u8) 5 w w.heap.size (fun k_ => P0_ k_) (.slice A0 l0.length c0) l0) (h : ofmsg_read.f l0 = some (r1, r2, r3, r4, r5, r6, r7, r8, r9, r10, r11, r12)) :
  Calls Try.prog 36 #[.slice A0 l0.length c0] w fun e w' => ∃ v7_ v10_ : Value, e = .returned (.tuple #[.agg #[.int .u8 r1, .int .u32 r2, .int .u32 r3, .int .u32 r4, .int .u32 r5, .int .i64 r6, .int .u32 r7, v7_, .int .i64 r9, .bool r10, v10_], .bool r12]) ∧ Kd.R k59 59 w' w.heap.size (fun k_ => (w.heap.size ≤ k_)) v7_ r8 ∧ Kd.V (Kd.int .u8) 5 w' w.heap.size (fun k_ => (P0_ k_ ∨ w.heap.size ≤ k_) ∧ some k_ ≠ (v7_ : Value).ownBlock) v10_ r11 ∧ Below w.heap.size w w' := by
 unfold ofmsg_read.f at h
 split at h
 case isFalse => cases h
 case isTrue hlen =>
 have HLEN := m_ hlen
 have H := m_ (Option.some.inj h)
 clear hlen h
 have HS0 := m_ hs0
 have hu27 := Try.underlying27
 have hmf : ∀ (fn : Fn) (first cap : Array Value) (w : World), (Instr.makeFunc fn first cap).run Try.prog w = .ok (.func fn first cap) w := fun _ _ _ _ => rfl
 have hsf := fun (a : Addr) (c : Array Value) (w : World) => run_store Try.prog w a (.func (.func 48) #[] c) .plain rfl
 clear hs0
 go_enter Try.func36, Try.ntmps36
 go_wp2_with (go_at_call 48; refine Stop0.out ?_)
 refine ⟨?_⟩
 clear hsf
 have HRS : Aside0 (RS w ((((w.alloc (.cells #[.slice A0 l0.length c0] 27)).alloc (.cells zeroM 29)).alloc (.cells #[.bool true] 4)).alloc (.cells #[.func (.func 48) #[] #[.pointer (some ⟨w.heap.size, 0, none⟩), .pointer (some ⟨w.heap.size + 1 + 1, 0, none⟩)]] 55)) (fun k => P0_ k ∧ k < w.heap.size) w.heap.size (w.heap.size + 1) (w.heap.size + 1 + 1) (w.heap.size + 1 + 1 + 1) A0 c0 l0 true) := by
  have hb := Kd.V_F HS0.out
  have hr := Kd.V_reads' HS0.out
  refine ⟨⟨blk_alloc (blk_alloc (blk_alloc (blk_new w _) _) _) _, ?_, hr.2.1, Kd.F_alloc (Kd.F_alloc (Kd.F_alloc (Kd.F_alloc (Kd.F_bound hb) _) _) _) _⟩, ?_, ?_, below_alloc (below_alloc (below_alloc (below_alloc (Below.refl _ _) _) _) _) _, HLEN.out⟩
  ·have := blk_alloc (blk_new ((w.alloc (.cells #[.slice A0 l0.length c0] 27)).alloc (.cells zeroM 29)) (.cells #[.bool true] 4)) (.cells #[.func (.func 48) #[] #[.pointer (some ⟨w.heap.size, 0, none⟩), .pointer (some ⟨w.heap.size + 1 + 1, 0, none⟩)]] 55)
   rwa [World.size_alloc, World.size_alloc] at this
  ·have := blk_alloc (blk_alloc (blk_new (w.alloc (.cells #[.slice A0 l0.length c0] 27)) (.cells zeroM 29)) (.cells #[.bool true] 4)) (.cells #[.func (.func 48) #[] #[.pointer (some ⟨w.heap.size, 0, none⟩), .pointer (some ⟨w.heap.size + 1 + 1, 0, none⟩)]] 55)
   rwa [World.size_alloc] at this
  ·have := blk_new (((w.alloc (.cells #[.slice A0 l0.length c0] 27)).alloc (.cells zeroM 29)).alloc (.cells #[.bool true] 4)) (.cells #[.func (.func 48) #[] #[.pointer (some ⟨w.heap.size, 0, none⟩), .pointer (some ⟨w.heap.size + 1 + 1, 0, none⟩)]] 55)
   rwa [World.size_alloc, World.size_alloc, World.size_alloc] at this
 generalize ((((w.alloc (.cells #[.slice A0 l0.length c0] 27)).alloc (.cells zeroM 29)).alloc (.cells #[.bool true] 4)).alloc (.cells #[.func (.func 48) #[] #[.pointer (some ⟨w.heap.size, 0, none⟩), .pointer (some ⟨w.heap.size + 1 + 1, 0, none⟩)]] 55)) = w1 at HRS ⊢
 have HOKB : Aside0 (∀ k, (fun k => P0_ k ∧ k < w.heap.size) k → k < w.heap.size) := ⟨fun k hk => hk.2⟩
 have HP : Aside0 (∀ k, (fun k => P0_ k ∧ k < w.heap.size) k → P0_ k) := ⟨fun k hk => hk.1⟩
 generalize (fun k => P0_ k ∧ k < w.heap.size) = ok at HRS HOKB HP
 obtain ⟨g1, hg1⟩ : ∃ g, g = w.heap.size := ⟨_, rfl⟩
 obtain ⟨g2, hg2⟩ : ∃ g, g = w.heap.size + 1 := ⟨_, rfl⟩
 obtain ⟨g4, hg4⟩ : ∃ g, g = w.heap.size + 1 + 1 := ⟨_, rfl⟩
 obtain ⟨g5, hg5⟩ : ∃ g, g = w.heap.size + 1 + 1 + 1 := ⟨_, rfl⟩
 have HG : Aside0 (Gs w.heap.size g1 g2 g4 g5) := ⟨⟨by omega, by omega, by omega, by omega⟩⟩
 rw [← hg5, ← hg4, ← hg2, ← hg1] at HRS ⊢
 clear hg1 hg2 hg4 hg5
 refine (take_calls g1 g4 ok w1 A0 c0 2 l0 true HRS.out.ts (by have := HG.out.n14; have := HG.out.n2; omega) (fun k hk => ⟨by have := HOKB.out k hk; have := HG.out.n1; omega, by have := HOKB.out k hk; have := HG.out.n1; have := HG.out.n14; have := HG.out.n2; omega⟩) (by omega)).mono ?_
 rintro e w2 ⟨A1, c1, A2, c2, rfl, _, _, hT, hW⟩
 have HRS2 := m_ (HRS.out.two HG.out hT hW (takeF_le 2 l0 true))
 clear hT hW HRS
 generalize takeF 2 l0 true = t0 at HRS2 H
 go_wp2_with (go_at_call 49; refine Stop0.out ?_)
 refine ⟨?_⟩
 refine (HRS2.out.number HG.out HOKB.out 1 (by omega)).mono ?_
 rintro e w3 ⟨A3, c3, rfl, hR, _⟩
 have HRS3 := m_ hR
 clear hR HRS2
 generalize takeF 1 t0.2.1 t0.2.2 = t1 at HRS3 H ⊢
 go_wp2_with (go_at_call 49; refine Stop0.out ?_)
 refine ⟨?_⟩
 refine (HRS3.out.number HG.out HOKB.out 4 (by omega)).mono ?_
 rintro e w4 ⟨A4, c4, rfl, hR, _⟩
 have HRS4 := m_ hR
 clear hR HRS3
 generalize takeF 4 t1.2.1 t1.2.2 = t2 at HRS4 H ⊢
 go_wp2_with ((with_reducible refine gate_dst (N := 22) rfl ?_); refine Stop0.out ?_)
 refine ⟨?_⟩
 generalize numP t1.1 % 256 = kd at H ⊢
 generalize numP t2.1 % 4294967296 = xd at H ⊢
 have HM := m_ (blk_new w4 (.cells #[.int .u8 kd, .int .u32 xd, .int .u32 0, .int .u32 0, .int .u32 0, .int .i64 0, .int .u32 0, .slice none 0 0, .int .i64 0, .bool false, .slice none 0 0] 29))
 have HRS5 := m_ (HRS4.out.below (below_alloc (Below.refl _ _) (.cells #[.int .u8 kd, .int .u32 xd, .int .u32 0, .int .u32 0, .int .u32 0, .int .i64 0, .int .u32 0, .slice none 0 0, .int .i64 0, .bool false, .slice none 0 0] 29)))
 have HG7 := m_ HRS4.out.size.2.2.2
 generalize (w4.alloc _) = w5 at HM HRS5 ⊢
 generalize w4.heap.size = g7 at HM HG7 ⊢
 clear HRS4 hmf
 have hk0 := (blk_cell HM.out 0).trans rfl
 have hk0 : w5.cell? ⟨g7, 0, none⟩ = some (.int .u8 kd) := hk0
 generalize t2.2.1 = l2 at HRS5 H
 generalize t2.2.2 = b2 at HRS5 H
 by_cases h1 : kd = 1
 ·subst h1
  have H1 := H.out
  clear H
  unfold readK at H1
  rw [if_pos (by omega)] at H1
  unfold readRule at H1
  go_wp2_with (go_at_call 49; refine Stop0.out ?_)
  refine ⟨?_⟩
  refine (HRS5.out.number HG.out HOKB.out 4 (by omega)).mono ?_
  rintro e w6 ⟨A6, c6, rfl, hR, hW⟩
  have HRS6 := m_ hR
  have HM6 := m_ ((hW.block g7 (blk_lt HM.out) (by have := HG.out.n4; have := HG.out.n2; have := HG.out.n14; have := HG7.out; omega) (by have := HG.out.n4; have := HG7.out; omega)).trans HM.out)
  clear hR hW
  generalize takeF 4 l2 b2 = t3 at HRS6 H1 ⊢
  obtain ⟨v3, l3, b3⟩ := t3
  have HRS6 : Aside0 (RS w w6 ok g1 g2 g4 g5 A6 c6 l3 b3) := HRS6
  dsimp only at H1 ⊢
  have H2 := m_ H1
  clear H1
  go_wp2_with (go_at_call 49; refine Stop0.out ?_)
  refine ⟨?_⟩
  refine (HRS6.out.number HG.out HOKB.out 4 (by omega)).mono ?_
  rintro e w7 ⟨A7, c7, rfl, hR, hW⟩
  have HRS7 := m_ hR
  have HM7 := m_ ((hW.block g7 (blk_lt HM6.out) (by have := HG.out.n4; have := HG.out.n2; have := HG.out.n14; have := HG7.out; omega) (by have := HG.out.n4; have := HG7.out; omega)).trans HM6.out)
  clear hR hW
  have H1 := H2.out
  clear H2
  generalize takeF 4 l3 b3 = t4 at HRS7 H1 ⊢
  obtain ⟨v4, l4, b4⟩ := t4
  have HRS7 : Aside0 (RS w w7 ok g1 g2 g4 g5 A7 c7 l4 b4) := HRS7
  dsimp only at H1 ⊢
  have H2 := m_ H1
  clear H1
  go_wp2_with (go_at_call 49; refine Stop0.out ?_)
  refine ⟨?_⟩
  refine (HRS7.out.number HG.out HOKB.out 4 (by omega)).mono ?_
  rintro e w8 ⟨A8, c8, rfl, hR, hW⟩
  have HRS8 := m_ hR
  have HM8 := m_ ((hW.block g7 (blk_lt HM7.out) (by have := HG.out.n4; have := HG.out.n2; have := HG.out.n14; have := HG7.out; omega) (by have := HG.out.n4; have := HG7.out; omega)).trans HM7.out)
  clear hR hW
  have H1 := H2.out
  clear H2
  generalize takeF 4 l4 b4 = t5 at HRS8 H1 ⊢
  obtain ⟨v5, l5, b5⟩ := t5
  have HRS8 : Aside0 (RS w w8 ok g1 g2 g4 g5 A8 c8 l5 b5) := HRS8
  dsimp only at H1 ⊢
  have H2 := m_ H1
  clear H1
  go_wp2_with (refine blk_write (g := g7) (o' := 2) (cs' := #[.int .u8 1, .int .u32 xd, .int .u32 (numP v3 % 4294967296), .int .u32 (numP v4 % 4294967296), .int .u32 (numP v5 % 4294967296), .int .i64 0, .int .u32 0, .slice none 0 0, .int .i64 0, .bool false, .slice none 0 0]) rfl rfl rfl [.int .u32 (numP v3 % 4294967296), .int .u32 (numP v4 % 4294967296), .int .u32 (numP v5 % 4294967296), .int .i64 0, .int .u32 0, .slice none 0 0] rfl rfl rfl rfl (by simp [Value.oneCell']) HM8.out (by simp) rfl ?_; refine Stop0.out ?_)
  refine ⟨?_⟩
  intro w9 hw9 ho9
  have HM9 := m_ hw9
  have HRS9 := m_ (HRS8.out.only HG.out HG7.out HOKB.out ho9)
  clear hw9 ho9 hk0 HM6 HM7 HM8 HRS6 HRS7 HRS8
  have hk9 : w9.cell? ⟨g7, 0, none⟩ = some (.int .u8 1) := (blk_cell HM9.out 0).trans rfl
  have H1 := H2.out
  unfold readPut at H1
  clear H2
  have H2 := m_ H1
  clear H1
  go_wp2_with (go_at_call 49; refine Stop0.out ?_)
  refine ⟨?_⟩
  refine (HRS9.out.number HG.out HOKB.out 2 (by omega)).mono ?_
  rintro e w10 ⟨A10, c10, rfl, hR, hW⟩
  have HRS10 := m_ hR
  have HM10 := m_ ((hW.block g7 (blk_lt HM9.out) (by have := HG.out.n4; have := HG.out.n2; have := HG.out.n14; have := HG7.out; omega) (by have := HG.out.n4; have := HG7.out; omega)).trans HM9.out)
  clear hR hW
  have H1 := H2.out
  clear H2
  generalize takeF 2 l5 b5 = t6 at HRS10 H1 ⊢
  obtain ⟨v6, l6, b6⟩ := t6
  have HRS10 : Aside0 (RS w w10 ok g1 g2 g4 g5 A10 c10 l6 b6) := HRS10
  dsimp only at H1 ⊢
  have H2 := m_ H1
  clear H1 hk9
  go_wp2_with (go_at_call 49; refine Stop0.out ?_)
  refine ⟨?_⟩
  refine (HRS10.out.number HG.out HOKB.out 4 (by omega)).mono ?_
  rintro e w11 ⟨A11, c11, rfl, hR, hW⟩
  have HRS11 := m_ hR
  have HM11 := m_ ((hW.block g7 (blk_lt HM10.out) (by have := HG.out.n4; have := HG.out.n2; have := HG.out.n14; have := HG7.out; omega) (by have := HG.out.n4; have := HG7.out; omega)).trans HM10.out)
  clear hR hW
  have H1 := H2.out
  clear H2
  generalize takeF 4 l6 b6 = t7 at HRS11 H1 ⊢
  obtain ⟨v7, l7, b7⟩ := t7
  have HRS11 : Aside0 (RS w w11 ok g1 g2 g4 g5 A11 c11 l7 b7) := HRS11
  dsimp only at H1 ⊢
  have H2 := m_ H1
  clear H1
  have hk5 : w11.cell? ⟨g7, 5, none⟩ = some (.int .i64 0) := (blk_cell HM11.out 5).trans rfl
  have hk6 : w11.cell? ⟨g7, 6, none⟩ = some (.int .u32 0) := (blk_cell HM11.out 6).trans rfl
  have hf5 := blk_frozen HM11.out 5
  have hf6 := blk_frozen HM11.out 6
  go_wp2_with ((with_reducible refine gate_dst (N := 49) rfl ?_); refine Stop0.out ?_)
  refine ⟨?_⟩
  have ho_ := only_set w11 g7 5 (.int .i64 (numP v6))
  have HM12 := m_ (blk_put HM11.out 5 (.int .i64 (numP v6)) (cs' := #[.int .u8 1, .int .u32 xd, .int .u32 (numP v3 % 4294967296), .int .u32 (numP v4 % 4294967296), .int .u32 (numP v5 % 4294967296), .int .i64 (numP v6), .int .u32 0, .slice none 0 0, .int .i64 0, .bool false, .slice none 0 0]) rfl)
  have HRS12 := m_ (HRS11.out.only HG.out HG7.out HOKB.out ho_)
  clear ho_
  generalize w11.setCell ⟨g7, 5, none⟩ (.int .i64 (numP v6)) = w12 at HM12 HRS12 ⊢
  have ho_ := only_set w12 g7 6 (.int .u32 (numP v7 % 4294967296))
  have HM13 := m_ (blk_put HM12.out 6 (.int .u32 (numP v7 % 4294967296)) (cs' := #[.int .u8 1, .int .u32 xd, .int .u32 (numP v3 % 4294967296), .int .u32 (numP v4 % 4294967296), .int .u32 (numP v5 % 4294967296), .int .i64 (numP v6), .int .u32 (numP v7 % 4294967296), .slice none 0 0, .int .i64 0, .bool false, .slice none 0 0]) rfl)
  have HRS13 := m_ (HRS12.out.only HG.out HG7.out HOKB.out ho_)
  clear ho_
  generalize w12.setCell ⟨g7, 6, none⟩ (.int .u32 (numP v7 % 4294967296)) = w13 at HM13 HRS13 ⊢
  clear hk5 hk6 hf5 hf6 HM9 HM10 HM11 HM12 HRS9 HRS10 HRS11 HRS12
  have H1 := H2.out
  unfold readPut2 at H1
  obtain ⟨vi, hvi⟩ : ∃ vi, vi = (if numP v6 = 65535 then (-1 : Int) else numP v6) := ⟨_, rfl⟩
  rw [← hvi] at H1
  clear H2
  have H2 := m_ H1
  clear H1
  have hk5 : w13.cell? ⟨g7, 5, none⟩ = some (.int .i64 (numP v6)) := (blk_cell HM13.out 5).trans rfl
  have hf5 := blk_frozen HM13.out 5
  by_cases h65 : numP v6 = 65535
  case' pos =>
   rw [if_pos h65] at hvi
   have HV := m_ hvi
   have hd : (numP v6 == 65535) = true := beq_iff_eq.2 h65
   clear h65 hvi
   go_wp2_with (go_at_call 49; refine Stop0.out ?_)
   refine ⟨?_⟩
   have ho_ := only_set w13 g7 5 (.int .i64 (-1))
   have HM14 := m_ (blk_put HM13.out 5 (.int .i64 (-1)) (cs' := #[.int .u8 1, .int .u32 xd, .int .u32 (numP v3 % 4294967296), .int .u32 (numP v4 % 4294967296), .int .u32 (numP v5 % 4294967296), .int .i64 (-1), .int .u32 (numP v7 % 4294967296), .slice none 0 0, .int .i64 0, .bool false, .slice none 0 0]) rfl)
   have HRS14 := m_ (HRS13.out.only HG.out HG7.out HOKB.out ho_)
   clear ho_
   generalize w13.setCell ⟨g7, 5, none⟩ (.int .i64 (-1)) = w14 at HM14 HRS14 ⊢
   have HM14 : Aside0 (w14.heap[g7]? = some (.cells #[.int .u8 1, .int .u32 xd, .int .u32 (numP v3 % 4294967296), .int .u32 (numP v4 % 4294967296), .int .u32 (numP v5 % 4294967296), .int .i64 vi, .int .u32 (numP v7 % 4294967296), .slice none 0 0, .int .i64 0, .bool false, .slice none 0 0] 29 (0, 0))) := ⟨by rw [HV.out]; exact HM14.out⟩
  case' neg =>
   rw [if_neg h65] at hvi
   have HV := m_ hvi
   have hd : (numP v6 == 65535) = false := beq_eq_false_iff_ne.2 h65
   clear h65 hvi
   go_wp2_with (go_at_call 49; refine Stop0.out ?_)
   refine ⟨?_⟩
   generalize w13 = w14 at HM13 HRS13 hk5 hf5 ⊢
   have HM14 : Aside0 (w14.heap[g7]? = some (.cells #[.int .u8 1, .int .u32 xd, .int .u32 (numP v3 % 4294967296), .int .u32 (numP v4 % 4294967296), .int .u32 (numP v5 % 4294967296), .int .i64 vi, .int .u32 (numP v7 % 4294967296), .slice none 0 0, .int .i64 0, .bool false, .slice none 0 0] 29 (0, 0))) := ⟨by rw [HV.out]; exact HM13.out⟩
   have HRS14 := HRS13
  all_goals
   clear hk5 hf5 hd HM13 HRS13
   refine (HRS14.out.number HG.out HOKB.out 2 (by omega)).mono ?_
   rintro e w15 ⟨A15, c15, rfl, hR, hW⟩
   have HRS15 := m_ hR
   have HM15 := m_ ((hW.block g7 (blk_lt HM14.out) (by have := HG.out.n4; have := HG.out.n2; have := HG.out.n14; have := HG7.out; omega) (by have := HG.out.n4; have := HG7.out; omega)).trans HM14.out)
   clear hR hW
   have H1 := H2.out
   clear H2
   generalize takeF 2 l7 b7 = t8 at HRS15 H1 ⊢
   obtain ⟨v8, l8, b8⟩ := t8
   have HRS15 : Aside0 (RS w w15 ok g1 g2 g4 g5 A15 c15 l8 b8) := HRS15
   dsimp only at H1 ⊢
   have H2 := m_ H1
   clear H1 HM14 HRS14
   have HG15 := m_ (blk_lt HM15.out)
   obtain ⟨os0, hos0⟩ : ∃ o, o = outsR (numP v8).toNat l8 b8 [] := ⟨_, rfl⟩
   have H1 := H2.out
   rw [← hos0] at H1
   have HOS := m_ hos0
   clear H2 hos0
   simp only [Prod.mk.injEq] at H1
   obtain ⟨rfl, rfl, rfl, rfl, rfl, rfl, rfl, rfl, rfl, rfl, rfl, rfl⟩ := H1
   generalize numP v8 = cnt at HOS ⊢
   go_wp2
   clear hu27
   go_loopg [57] cnt.toNat (fun gg s57 wr => ∃ (i : Nat) (l : List Int) (b : Bool) (A : Option Addr) (c : Nat) (Ao : Option Addr) (co : Nat) (os : List (S59)), i ≤ cnt.toNat ∧ cnt.toNat - i ≤ gg ∧ i + l.length ≤ 1000000 ∧ os.length ≤ i ∧ s57 = .int .i64 i ∧ Aside0 (RS w wr ok g1 g2 g4 g5 A c l b) ∧ Aside0 (wr.heap[g7]? = some (.cells #[.int .u8 1, .int .u32 xd, .int .u32 (numP v3 % 4294967296), .int .u32 (numP v4 % 4294967296), .int .u32 (numP v5 % 4294967296), .int .i64 vi, .int .u32 (numP v7 % 4294967296), .slice Ao os.length co, .int .i64 0, .bool false, .slice none 0 0] 29 (0, 0))) ∧ Aside0 (Kd.R k59 59 wr w.heap.size (fun k => g7 < k) (.slice Ao os.length co) os) ∧ Aside0 (os0 = outsR (cnt.toNat - i) l b os))
   case atStart => exact ⟨0, l8, b8, A15, c15, none, 0, [], Nat.zero_le _, by omega, by have := HRS15.out.len; omega, Nat.le_refl _, rfl, HRS15, HM15, ⟨Kd.R_nil _ _ _ _ _⟩, HOS⟩
   case round =>
    obtain ⟨i, l, b, A, c, Ao, co, os, hi, hgg, hil, hol, rfl, HRS5, HM, HO, HS⟩ := hrel
    by_cases hlt : i < cnt.toNat
    ·have hlt' : (i : Int) < cnt := by omega
     have hs := HS.out
     obtain ⟨n, hn⟩ : ∃ n, cnt.toNat - i = n + 1 := ⟨cnt.toNat - i - 1, by omega⟩
     rw [hn, outsR] at hs
     have HN := m_ hn
     have HS2 := m_ hs
     clear hs HS hn
     go_wp2_with (go_at_call 49; refine Stop0.out ?_)
     refine ⟨?_⟩
     refine (HRS5.out.number HG.out HOKB.out 1 (by omega)).mono ?_
     rintro e w16 ⟨A16, c16, rfl, hR, hW⟩
     have HRS16 := m_ hR
     have HM16 := m_ ((hW.block g7 (blk_lt HM.out) (by have := HG.out.n4; have := HG.out.n2; have := HG.out.n14; have := HG7.out; omega) (by have := HG.out.n4; have := HG7.out; omega)).trans HM.out)
     have HO16 := m_ (Kd.R_step HO.out (fun k hk hl => hW.block k hl (by have := HG.out.n4; have := HG.out.n2; have := HG.out.n14; have := HG7.out; omega) (by have := HG.out.n4; have := HG7.out; omega)))
     clear hR hW
     have HT1 := m_ (takeF_one l b)
     generalize takeF 1 l b = t9 at HRS16 HS2 HT1 ⊢
     obtain ⟨v9, l9, b9⟩ := t9
     have HRS16 : Aside0 (RS w w16 ok g1 g2 g4 g5 A16 c16 l9 b9) := HRS16
     have hs := HS2.out
     dsimp only at hs ⊢
     clear HS2 HRS5 HM HO
     have HRS5 := HRS16
     have HM := HM16
     have HO := HO16
     clear HRS16 HM16 HO16
     cases b9 with
     | false =>
      obtain rfl : os0 = (os, l9, false) := hs
      have hfl : w16.cell? ⟨g4, 0, none⟩ = some (.bool false) := (blk_cell HRS5.out.ts.flag 0).trans rfl
      have hkz := (blk_cell HM.out 0).trans rfl
      go_wp2
      refine start_ (n := 9) (S := fun W => W.cell? ⟨g7, 0, none⟩ = some (.int .u8 1) ∧ W.cell? ⟨g7, 1, none⟩ = some (.int .u32 xd) ∧ W.cell? ⟨g7, 2, none⟩ = some (.int .u32 (numP v3 % 4294967296)) ∧ W.cell? ⟨g7, 3, none⟩ = some (.int .u32 (numP v4 % 4294967296)) ∧ W.cell? ⟨g7, 4, none⟩ = some (.int .u32 (numP v5 % 4294967296)) ∧ W.cell? ⟨g7, 5, none⟩ = some (.int .i64 vi) ∧ W.cell? ⟨g7, 6, none⟩ = some (.int .u32 (numP v7 % 4294967296)) ∧ W.cell? ⟨g7, 7, none⟩ = some (.slice Ao os.length co) ∧ W.cell? ⟨g7, 8, none⟩ = some (.int .i64 0) ∧ W.cell? ⟨g7, 9, none⟩ = some (.bool false) ∧ W.cell? ⟨g7, 10, none⟩ = some (.slice none 0 0) ∧ W.cell? ⟨g4, 0, none⟩ = some (.bool false) ∧ W.cell? ⟨g1, 0, none⟩ = some (.slice A16 l9.length c16)) (ds := []) (bs_ 9 0) (by kernel_rfl) rfl rfl ⟨(blk_cell (blk_drew HM.out) 0).trans rfl, (blk_cell (blk_drew HM.out) 1).trans rfl, (blk_cell (blk_drew HM.out) 2).trans rfl, (blk_cell (blk_drew HM.out) 3).trans rfl, (blk_cell (blk_drew HM.out) 4).trans rfl, (blk_cell (blk_drew HM.out) 5).trans rfl, (blk_cell (blk_drew HM.out) 6).trans rfl, (blk_cell (blk_drew HM.out) 7).trans rfl, (blk_cell (blk_drew HM.out) 8).trans rfl, (blk_cell (blk_drew HM.out) 9).trans rfl, (blk_cell (blk_drew HM.out) 10).trans rfl, (blk_cell (blk_drew HRS5.out.ts.flag) 0).trans rfl, (blk_cell (blk_drew HRS5.out.ts.row) 0).trans rfl⟩ (fun hHeld => ?_)
      refine tk_ 0 108 ?_
      refine tk_ 1 109 ?_
      refine pk_ 2 110 ?_
      refine pk_ 3 111 ?_
      refine pk_ 4 112 ?_
      refine pk_ 5 113 ?_
      refine pk_ 6 114 ?_
      refine one_ (i := 7) (N := none) (bs_ 9 255) rfl rfl (by kernel_rfl) (by decide) (fun K hK => ?_)
      refine write_step (by rfl) rfl rfl [.int .u8 1, .int .u32 xd, .int .u32 (numP v3 % 4294967296), .int .u32 (numP v4 % 4294967296), .int .u32 (numP v5 % 4294967296), .int .i64 vi, .int .u32 (numP v7 % 4294967296), .slice Ao os.length co, .int .i64 0, .bool false, .slice none 0 0] (g := g2) (o' := 0) (cs' := #[.int .u8 1, .int .u32 xd, .int .u32 (numP v3 % 4294967296), .int .u32 (numP v4 % 4294967296), .int .u32 (numP v5 % 4294967296), .int .i64 vi, .int .u32 (numP v7 % 4294967296), .slice Ao os.length co, .int .i64 0, .bool false, .slice none 0 0]) rfl rfl rfl rfl (by simp [Value.oneCell']) (blk_drew HRS5.out.res) (by simp) rfl ?_
      intro w7 hw7 ho7
      have HM7 := m_ (ho7.blk (by have := HG.out.n2; have := HG.out.n4; have := HG7.out; omega) (blk_drew HM.out))
      have HF7 := m_ (ho7.blk (by have := HG.out.n2; have := HG.out.n14; omega) (blk_drew HRS5.out.ts.flag))
      have HR7 := m_ (ho7.blk (by have := HG.out.n2; have := HG.out.n14; omega) (blk_drew HRS5.out.ts.row))
      have HW7 := m_ hw7
      have HO7 := m_ ho7
      have HB7 := m_ (ho7.below (below_drew1 HRS5.out.bel) (by have := HG.out.n1; have := HG.out.n14; omega))
      clear hw7 ho7
      refine hK.out _ _ ⟨(blk_cell HM7.out 0).trans rfl, (blk_cell HM7.out 1).trans rfl, (blk_cell HM7.out 2).trans rfl, (blk_cell HM7.out 3).trans rfl, (blk_cell HM7.out 4).trans rfl, (blk_cell HM7.out 5).trans rfl, (blk_cell HM7.out 6).trans rfl, (blk_cell HM7.out 7).trans rfl, (blk_cell HM7.out 8).trans rfl, (blk_cell HM7.out 9).trans rfl, (blk_cell HM7.out 10).trans rfl, (blk_cell HF7.out 0).trans rfl, (blk_cell HR7.out 0).trans rfl⟩ (fun _ => ?_)
      clear hK K
      refine pk_ 8 3 ?_
      refine done_ (by kernel_rfl) ?_
      go_wp2
      refine bodyPost_ret (results_ct rfl _ _ g2 29 #[.int .u8 1, .int .u32 xd, .int .u32 (numP v3 % 4294967296), .int .u32 (numP v4 % 4294967296), .int .u32 (numP v5 % 4294967296), .int .i64 vi, .int .u32 (numP v7 % 4294967296), .slice Ao os.length co, .int .i64 0, .bool false, .slice none 0 0] (0, 0) _ rfl HW7.out Try.underlying29 rfl (by kernel_rfl)) rfl ?_
      refine ⟨_, _, rfl, ?_, Kd.V_nil _ _ _ _ _, HB7.out⟩
      exact Kd.R_mono (Kd.R_step (Kd.R_drew HO.out) (fun k hk _ => HO7.out.block k (by have := HG.out.n2; have := HG.out.n4; have := HG7.out; omega))) (fun k hk => by have := HG.out.n1; have := HG.out.n14; have := HG.out.n2; have := HG.out.n4; have := HG7.out; omega)
     | true =>
      have hl9 : l9.length + 1 ≤ l.length := HT1.out rfl
      have HS := m_ (show os0 = outsR n l9 true (os ++ [⟨numP v9, decide (numP v9 ≥ 64)⟩]) from hs)
      clear hs
      have hfl : w16.cell? ⟨g4, 0, none⟩ = some (.bool true) := (blk_cell HRS5.out.ts.flag 0).trans rfl
      have hk7 := (blk_cell HM.out 7).trans rfl
      have hf7 := blk_frozen HM.out 7
      go_wp2_with ((with_reducible refine gate_builtin (b := .append) (xs := #[.tmp 65, .tmp 70]) rfl ?_); refine Stop0.out ?_)
      refine ⟨?_⟩
      refine Kd.R_append k59 (w0 := w) w.heap.size rfl (.tmp 65) (.tmp 70) 24 59 (.agg #[(.int .i64 0), (.bool false)]) 16 rfl Try.underlying24 info59 rfl (by decide) (by omega) (.slice Ao os.length co) os (⟨numP v9, decide (numP v9 ≥ 64)⟩ : S59) [.int .i64 (numP v9), .bool (decide (numP v9 ≥ 64))] (fun k => g7 < k) (fun _ => False) rfl rfl ?aP (fun _ hk => hk.elim) ?aF ?aO ?aB ?aS ?aL ?_
      case aP => exact k59_mkM _ _ _ (⟨numP v9, decide (numP v9 ≥ 64)⟩ : S59)
      case aF => exact fun k hk => Nat.lt_of_lt_of_le (blk_lt HM.out) hk
      case aO => exact HO.out
      case aB => exact HRS5.out.bel
      case aS => exact HRS5.out.bel.size
      case aL => omega
      intro v1 w17 hR hb hg hat
      obtain ⟨os2, hos2⟩ : ∃ o, o = os ++ [(⟨numP v9, decide (numP v9 ≥ 64)⟩ : S59)] := ⟨_, rfl⟩
      have hs := HS.out
      have HOL := m_ (show os2.length = os.length + 1 by rw [hos2, List.length_append]; rfl)
      rw [← hos2] at hR hs
      obtain ⟨Ao2, co2, rfl⟩ := Kd.R_slice hR
      have hrow : ∀ k, (Value.slice Ao os.length co).ownBlock = some k → g7 < k := HO.out.1
      have keep : ∀ g, g ≤ g7 → g < w16.heap.size → w17.heap[g]? = w16.heap[g]? := fun g hle hlt => hg.block g hlt (fun e => by have := hrow g e.symm; omega)
      have hsz := HRS5.out.size
      have h0 := HG.out.n1
      have h1 := HG.out.n14
      have h3 := HG.out.n2
      have h4 := HG.out.n4
      have h7 := HG7.out
      have HM17 := m_ ((keep g7 (Nat.le_refl _) (blk_lt HM.out)).trans HM.out)
      have HRS17 : Aside0 (RS w w17 ok g1 g2 g4 g5 A16 c16 l9 true) := ⟨⟨⟨(keep g1 (by omega) hsz.1).trans HRS5.out.ts.row, (keep g4 (by omega) hsz.2.2.1).trans HRS5.out.ts.flag, HRS5.out.ts.room, Kd.F_step HRS5.out.ts.bytes (fun k hk hl => keep k (by have := HOKB.out k hk; omega) hl)⟩, (keep g2 (by omega) hsz.2.1).trans HRS5.out.res, (keep g5 (by omega) hsz.2.2.2).trans HRS5.out.fn, hb, HRS5.out.len⟩⟩
      have HS := m_ hs
      have ho_ := only_set w17 g7 7 (.slice Ao2 os2.length co2)
      have HO18 := m_ (Kd.R_step hR (fun k hk _ => ho_.block k (by have : g7 < k := hk; omega)))
      have HM18 := m_ (blk_put HM17.out 7 (.slice Ao2 os2.length co2) (cs' := #[.int .u8 1, .int .u32 xd, .int .u32 (numP v3 % 4294967296), .int .u32 (numP v4 % 4294967296), .int .u32 (numP v5 % 4294967296), .int .i64 vi, .int .u32 (numP v7 % 4294967296), .slice Ao2 os2.length co2, .int .i64 0, .bool false, .slice none 0 0]) rfl)
      have HRS18 := m_ (HRS17.out.only HG.out HG7.out HOKB.out ho_)
      have hk7 := (blk_cell HM17.out 7).trans rfl
      have hf7 := blk_frozen HM17.out 7
      clear hR hs hb hg hat hrow keep hsz h0 h1 h3 h4 h7 ho_ hos2 hfl
      go_wp2
      generalize w17.setCell ⟨g7, 7, none⟩ (.slice Ao2 os2.length co2) = w18 at HO18 HM18 HRS18 ⊢
      go_roundg (cnt.toNat - (i + 1))
      case measure => omega
      case rel => exact ⟨i + 1, l9, true, A16, c16, Ao2, co2, os2, by omega, Nat.le_refl _, by omega, by have := HOL.out; omega, by go_num, HRS18, HM18, HO18, ⟨by rw [show cnt.toNat - (i + 1) = n by have := HN.out; omega]; exact HS.out⟩⟩
    ·have hlt' : ¬ ((i : Int) < cnt) := by omega
     have hs := HS.out
     rw [show cnt.toNat - i = 0 by omega] at hs
     obtain rfl : os0 = (os, l, b) := hs
     clear hlt HS
     have hkz := (blk_cell HM.out 0).trans rfl
     go_wp2
     cases b with
     | true =>
      refine start_ (n := 9) (S := fun W => W.cell? ⟨g7, 0, none⟩ = some (.int .u8 1) ∧ W.cell? ⟨g7, 1, none⟩ = some (.int .u32 xd) ∧ W.cell? ⟨g7, 2, none⟩ = some (.int .u32 (numP v3 % 4294967296)) ∧ W.cell? ⟨g7, 3, none⟩ = some (.int .u32 (numP v4 % 4294967296)) ∧ W.cell? ⟨g7, 4, none⟩ = some (.int .u32 (numP v5 % 4294967296)) ∧ W.cell? ⟨g7, 5, none⟩ = some (.int .i64 vi) ∧ W.cell? ⟨g7, 6, none⟩ = some (.int .u32 (numP v7 % 4294967296)) ∧ W.cell? ⟨g7, 7, none⟩ = some (.slice Ao os.length co) ∧ W.cell? ⟨g7, 8, none⟩ = some (.int .i64 0) ∧ W.cell? ⟨g7, 9, none⟩ = some (.bool false) ∧ W.cell? ⟨g7, 10, none⟩ = some (.slice none 0 0) ∧ W.cell? ⟨g4, 0, none⟩ = some (.bool true) ∧ W.cell? ⟨g1, 0, none⟩ = some (.slice A l.length c)) (ds := []) (bs_ 9 0) (by kernel_rfl) rfl rfl ⟨(blk_cell (blk_drew HM.out) 0).trans rfl, (blk_cell (blk_drew HM.out) 1).trans rfl, (blk_cell (blk_drew HM.out) 2).trans rfl, (blk_cell (blk_drew HM.out) 3).trans rfl, (blk_cell (blk_drew HM.out) 4).trans rfl, (blk_cell (blk_drew HM.out) 5).trans rfl, (blk_cell (blk_drew HM.out) 6).trans rfl, (blk_cell (blk_drew HM.out) 7).trans rfl, (blk_cell (blk_drew HM.out) 8).trans rfl, (blk_cell (blk_drew HM.out) 9).trans rfl, (blk_cell (blk_drew HM.out) 10).trans rfl, (blk_cell (blk_drew HRS5.out.ts.flag) 0).trans rfl, (blk_cell (blk_drew HRS5.out.ts.row) 0).trans rfl⟩ (fun hHeld => ?_)
      refine tk_ 0 108 ?_
      refine tk_ 1 109 ?_
      refine pk_ 2 110 ?_
      refine tk_ 3 111 ?_
      refine pk_ 4 112 ?_
      refine pk_ 5 113 ?_
      refine pk_ 6 114 ?_
      refine one_ (i := 7) (N := none) (bs_ 9 255) rfl rfl (by kernel_rfl) (by decide) (fun K hK => ?_)
      refine write_step (by rfl) rfl rfl [.int .u8 1, .int .u32 xd, .int .u32 (numP v3 % 4294967296), .int .u32 (numP v4 % 4294967296), .int .u32 (numP v5 % 4294967296), .int .i64 vi, .int .u32 (numP v7 % 4294967296), .slice Ao os.length co, .int .i64 0, .bool false, .slice none 0 0] (g := g2) (o' := 0) (cs' := #[.int .u8 1, .int .u32 xd, .int .u32 (numP v3 % 4294967296), .int .u32 (numP v4 % 4294967296), .int .u32 (numP v5 % 4294967296), .int .i64 vi, .int .u32 (numP v7 % 4294967296), .slice Ao os.length co, .int .i64 0, .bool false, .slice none 0 0]) rfl rfl rfl rfl (by simp [Value.oneCell']) (blk_drew HRS5.out.res) (by simp) rfl ?_
      intro w7 hw7 ho7
      have HM7 := m_ (ho7.blk (by have := HG.out.n2; have := HG.out.n4; have := HG7.out; omega) (blk_drew HM.out))
      have HF7 := m_ (ho7.blk (by have := HG.out.n2; have := HG.out.n14; omega) (blk_drew HRS5.out.ts.flag))
      have HR7 := m_ (ho7.blk (by have := HG.out.n2; have := HG.out.n14; omega) (blk_drew HRS5.out.ts.row))
      have HW7 := m_ hw7
      have HO7 := m_ ho7
      have HB7 := m_ (ho7.below (below_drew1 HRS5.out.bel) (by have := HG.out.n1; have := HG.out.n14; omega))
      clear hw7 ho7
      refine hK.out _ _ ⟨(blk_cell HM7.out 0).trans rfl, (blk_cell HM7.out 1).trans rfl, (blk_cell HM7.out 2).trans rfl, (blk_cell HM7.out 3).trans rfl, (blk_cell HM7.out 4).trans rfl, (blk_cell HM7.out 5).trans rfl, (blk_cell HM7.out 6).trans rfl, (blk_cell HM7.out 7).trans rfl, (blk_cell HM7.out 8).trans rfl, (blk_cell HM7.out 9).trans rfl, (blk_cell HM7.out 10).trans rfl, (blk_cell HF7.out 0).trans rfl, (blk_cell HR7.out 0).trans rfl⟩ (fun _ => ?_)
      clear hK K
      refine pk_ 8 3 ?_
      refine done_ (by kernel_rfl) ?_
      go_wp2
      refine bodyPost_ret (results_ct rfl _ _ g2 29 #[.int .u8 1, .int .u32 xd, .int .u32 (numP v3 % 4294967296), .int .u32 (numP v4 % 4294967296), .int .u32 (numP v5 % 4294967296), .int .i64 vi, .int .u32 (numP v7 % 4294967296), .slice Ao os.length co, .int .i64 0, .bool false, .slice none 0 0] (0, 0) _ rfl HW7.out Try.underlying29 rfl (by kernel_rfl)) rfl ?_
      refine ⟨_, _, rfl, ?_, Kd.V_nil _ _ _ _ _, HB7.out⟩
      exact Kd.R_mono (Kd.R_step (Kd.R_drew HO.out) (fun k hk _ => HO7.out.block k (by have := HG.out.n2; have := HG.out.n4; have := HG7.out; omega))) (fun k hk => by have := HG.out.n1; have := HG.out.n14; have := HG.out.n2; have := HG.out.n4; have := HG7.out; omega)
     | false =>
      refine start_ (n := 9) (S := fun W => W.cell? ⟨g7, 0, none⟩ = some (.int .u8 1) ∧ W.cell? ⟨g7, 1, none⟩ = some (.int .u32 xd) ∧ W.cell? ⟨g7, 2, none⟩ = some (.int .u32 (numP v3 % 4294967296)) ∧ W.cell? ⟨g7, 3, none⟩ = some (.int .u32 (numP v4 % 4294967296)) ∧ W.cell? ⟨g7, 4, none⟩ = some (.int .u32 (numP v5 % 4294967296)) ∧ W.cell? ⟨g7, 5, none⟩ = some (.int .i64 vi) ∧ W.cell? ⟨g7, 6, none⟩ = some (.int .u32 (numP v7 % 4294967296)) ∧ W.cell? ⟨g7, 7, none⟩ = some (.slice Ao os.length co) ∧ W.cell? ⟨g7, 8, none⟩ = some (.int .i64 0) ∧ W.cell? ⟨g7, 9, none⟩ = some (.bool false) ∧ W.cell? ⟨g7, 10, none⟩ = some (.slice none 0 0) ∧ W.cell? ⟨g4, 0, none⟩ = some (.bool false) ∧ W.cell? ⟨g1, 0, none⟩ = some (.slice A l.length c)) (ds := []) (bs_ 9 0) (by kernel_rfl) rfl rfl ⟨(blk_cell (blk_drew HM.out) 0).trans rfl, (blk_cell (blk_drew HM.out) 1).trans rfl, (blk_cell (blk_drew HM.out) 2).trans rfl, (blk_cell (blk_drew HM.out) 3).trans rfl, (blk_cell (blk_drew HM.out) 4).trans rfl, (blk_cell (blk_drew HM.out) 5).trans rfl, (blk_cell (blk_drew HM.out) 6).trans rfl, (blk_cell (blk_drew HM.out) 7).trans rfl, (blk_cell (blk_drew HM.out) 8).trans rfl, (blk_cell (blk_drew HM.out) 9).trans rfl, (blk_cell (blk_drew HM.out) 10).trans rfl, (blk_cell (blk_drew HRS5.out.ts.flag) 0).trans rfl, (blk_cell (blk_drew HRS5.out.ts.row) 0).trans rfl⟩ (fun hHeld => ?_)
      refine tk_ 0 108 ?_
      refine tk_ 1 109 ?_
      refine pk_ 2 110 ?_
      refine pk_ 3 111 ?_
      refine pk_ 4 112 ?_
      refine pk_ 5 113 ?_
      refine pk_ 6 114 ?_
      refine one_ (i := 7) (N := none) (bs_ 9 255) rfl rfl (by kernel_rfl) (by decide) (fun K hK => ?_)
      refine write_step (by rfl) rfl rfl [.int .u8 1, .int .u32 xd, .int .u32 (numP v3 % 4294967296), .int .u32 (numP v4 % 4294967296), .int .u32 (numP v5 % 4294967296), .int .i64 vi, .int .u32 (numP v7 % 4294967296), .slice Ao os.length co, .int .i64 0, .bool false, .slice none 0 0] (g := g2) (o' := 0) (cs' := #[.int .u8 1, .int .u32 xd, .int .u32 (numP v3 % 4294967296), .int .u32 (numP v4 % 4294967296), .int .u32 (numP v5 % 4294967296), .int .i64 vi, .int .u32 (numP v7 % 4294967296), .slice Ao os.length co, .int .i64 0, .bool false, .slice none 0 0]) rfl rfl rfl rfl (by simp [Value.oneCell']) (blk_drew HRS5.out.res) (by simp) rfl ?_
      intro w7 hw7 ho7
      have HM7 := m_ (ho7.blk (by have := HG.out.n2; have := HG.out.n4; have := HG7.out; omega) (blk_drew HM.out))
      have HF7 := m_ (ho7.blk (by have := HG.out.n2; have := HG.out.n14; omega) (blk_drew HRS5.out.ts.flag))
      have HR7 := m_ (ho7.blk (by have := HG.out.n2; have := HG.out.n14; omega) (blk_drew HRS5.out.ts.row))
      have HW7 := m_ hw7
      have HO7 := m_ ho7
      have HB7 := m_ (ho7.below (below_drew1 HRS5.out.bel) (by have := HG.out.n1; have := HG.out.n14; omega))
      clear hw7 ho7
      refine hK.out _ _ ⟨(blk_cell HM7.out 0).trans rfl, (blk_cell HM7.out 1).trans rfl, (blk_cell HM7.out 2).trans rfl, (blk_cell HM7.out 3).trans rfl, (blk_cell HM7.out 4).trans rfl, (blk_cell HM7.out 5).trans rfl, (blk_cell HM7.out 6).trans rfl, (blk_cell HM7.out 7).trans rfl, (blk_cell HM7.out 8).trans rfl, (blk_cell HM7.out 9).trans rfl, (blk_cell HM7.out 10).trans rfl, (blk_cell HF7.out 0).trans rfl, (blk_cell HR7.out 0).trans rfl⟩ (fun _ => ?_)
      clear hK K
      refine pk_ 8 3 ?_
      refine done_ (by kernel_rfl) ?_
      go_wp2
      refine bodyPost_ret (results_ct rfl _ _ g2 29 #[.int .u8 1, .int .u32 xd, .int .u32 (numP v3 % 4294967296), .int .u32 (numP v4 % 4294967296), .int .u32 (numP v5 % 4294967296), .int .i64 vi, .int .u32 (numP v7 % 4294967296), .slice Ao os.length co, .int .i64 0, .bool false, .slice none 0 0] (0, 0) _ rfl HW7.out Try.underlying29 rfl (by kernel_rfl)) rfl ?_
      refine ⟨_, _, rfl, ?_, Kd.V_nil _ _ _ _ _, HB7.out⟩
      exact Kd.R_mono (Kd.R_step (Kd.R_drew HO.out) (fun k hk _ => HO7.out.block k (by have := HG.out.n2; have := HG.out.n4; have := HG7.out; omega))) (fun k hk => by have := HG.out.n1; have := HG.out.n14; have := HG.out.n2; have := HG.out.n4; have := HG7.out; omega)
 by_cases h2 : kd = 2
 ·subst h2
  have H1 := H.out
  clear H
  unfold readK at H1
  rw [if_neg (by omega), if_pos (by omega)] at H1
  unfold readRule at H1
  go_wp2_with (go_at_call 49; refine Stop0.out ?_)
  refine ⟨?_⟩
  refine (HRS5.out.number HG.out HOKB.out 4 (by omega)).mono ?_
  rintro e w6 ⟨A6, c6, rfl, hR, hW⟩
  have HRS6 := m_ hR
  have HM6 := m_ ((hW.block g7 (blk_lt HM.out) (by have := HG.out.n4; have := HG.out.n2; have := HG.out.n14; have := HG7.out; omega) (by have := HG.out.n4; have := HG7.out; omega)).trans HM.out)
  clear hR hW
  generalize takeF 4 l2 b2 = t3 at HRS6 H1 ⊢
  obtain ⟨v3, l3, b3⟩ := t3
  have HRS6 : Aside0 (RS w w6 ok g1 g2 g4 g5 A6 c6 l3 b3) := HRS6
  dsimp only at H1 ⊢
  have H2 := m_ H1
  clear H1
  go_wp2_with (go_at_call 49; refine Stop0.out ?_)
  refine ⟨?_⟩
  refine (HRS6.out.number HG.out HOKB.out 4 (by omega)).mono ?_
  rintro e w7 ⟨A7, c7, rfl, hR, hW⟩
  have HRS7 := m_ hR
  have HM7 := m_ ((hW.block g7 (blk_lt HM6.out) (by have := HG.out.n4; have := HG.out.n2; have := HG.out.n14; have := HG7.out; omega) (by have := HG.out.n4; have := HG7.out; omega)).trans HM6.out)
  clear hR hW
  have H1 := H2.out
  clear H2
  generalize takeF 4 l3 b3 = t4 at HRS7 H1 ⊢
  obtain ⟨v4, l4, b4⟩ := t4
  have HRS7 : Aside0 (RS w w7 ok g1 g2 g4 g5 A7 c7 l4 b4) := HRS7
  dsimp only at H1 ⊢
  have H2 := m_ H1
  clear H1
  go_wp2_with (go_at_call 49; refine Stop0.out ?_)
  refine ⟨?_⟩
  refine (HRS7.out.number HG.out HOKB.out 4 (by omega)).mono ?_
  rintro e w8 ⟨A8, c8, rfl, hR, hW⟩
  have HRS8 := m_ hR
  have HM8 := m_ ((hW.block g7 (blk_lt HM7.out) (by have := HG.out.n4; have := HG.out.n2; have := HG.out.n14; have := HG7.out; omega) (by have := HG.out.n4; have := HG7.out; omega)).trans HM7.out)
  clear hR hW
  have H1 := H2.out
  clear H2
  generalize takeF 4 l4 b4 = t5 at HRS8 H1 ⊢
  obtain ⟨v5, l5, b5⟩ := t5
  have HRS8 : Aside0 (RS w w8 ok g1 g2 g4 g5 A8 c8 l5 b5) := HRS8
  dsimp only at H1 ⊢
  have H2 := m_ H1
  clear H1
  go_wp2_with (refine blk_write (g := g7) (o' := 2) (cs' := #[.int .u8 2, .int .u32 xd, .int .u32 (numP v3 % 4294967296), .int .u32 (numP v4 % 4294967296), .int .u32 (numP v5 % 4294967296), .int .i64 0, .int .u32 0, .slice none 0 0, .int .i64 0, .bool false, .slice none 0 0]) rfl rfl rfl [.int .u32 (numP v3 % 4294967296), .int .u32 (numP v4 % 4294967296), .int .u32 (numP v5 % 4294967296), .int .i64 0, .int .u32 0, .slice none 0 0] rfl rfl rfl rfl (by simp [Value.oneCell']) HM8.out (by simp) rfl ?_; refine Stop0.out ?_)
  refine ⟨?_⟩
  intro w9 hw9 ho9
  have HM9 := m_ hw9
  have HRS9 := m_ (HRS8.out.only HG.out HG7.out HOKB.out ho9)
  clear hw9 ho9 hk0 HM6 HM7 HM8 HRS6 HRS7 HRS8
  have hk9 : w9.cell? ⟨g7, 0, none⟩ = some (.int .u8 2) := (blk_cell HM9.out 0).trans rfl
  have H1 := H2.out
  unfold readDel at H1
  simp only [Prod.mk.injEq] at H1
  obtain ⟨rfl, rfl, rfl, rfl, rfl, rfl, rfl, rfl, rfl, rfl, rfl, rfl⟩ := H1
  clear H2
  go_wp2
  have HM := HM9
  have HRS5 := HRS9
  cases b5 with
  | true =>
   refine start_ (n := 9) (S := fun W => W.cell? ⟨g7, 0, none⟩ = some (.int .u8 2) ∧ W.cell? ⟨g7, 1, none⟩ = some (.int .u32 xd) ∧ W.cell? ⟨g7, 2, none⟩ = some (.int .u32 (numP v3 % 4294967296)) ∧ W.cell? ⟨g7, 3, none⟩ = some (.int .u32 (numP v4 % 4294967296)) ∧ W.cell? ⟨g7, 4, none⟩ = some (.int .u32 (numP v5 % 4294967296)) ∧ W.cell? ⟨g7, 5, none⟩ = some (.int .i64 0) ∧ W.cell? ⟨g7, 6, none⟩ = some (.int .u32 0) ∧ W.cell? ⟨g7, 7, none⟩ = some (.slice none 0 0) ∧ W.cell? ⟨g7, 8, none⟩ = some (.int .i64 0) ∧ W.cell? ⟨g7, 9, none⟩ = some (.bool false) ∧ W.cell? ⟨g7, 10, none⟩ = some (.slice none 0 0) ∧ W.cell? ⟨g4, 0, none⟩ = some (.bool true) ∧ W.cell? ⟨g1, 0, none⟩ = some (.slice A8 l5.length c8)) (ds := []) (bs_ 9 0) (by kernel_rfl) rfl rfl ⟨(blk_cell (blk_drew HM.out) 0).trans rfl, (blk_cell (blk_drew HM.out) 1).trans rfl, (blk_cell (blk_drew HM.out) 2).trans rfl, (blk_cell (blk_drew HM.out) 3).trans rfl, (blk_cell (blk_drew HM.out) 4).trans rfl, (blk_cell (blk_drew HM.out) 5).trans rfl, (blk_cell (blk_drew HM.out) 6).trans rfl, (blk_cell (blk_drew HM.out) 7).trans rfl, (blk_cell (blk_drew HM.out) 8).trans rfl, (blk_cell (blk_drew HM.out) 9).trans rfl, (blk_cell (blk_drew HM.out) 10).trans rfl, (blk_cell (blk_drew HRS5.out.ts.flag) 0).trans rfl, (blk_cell (blk_drew HRS5.out.ts.row) 0).trans rfl⟩ (fun hHeld => ?_)
   refine tk_ 0 108 ?_
   refine tk_ 1 109 ?_
   refine pk_ 2 110 ?_
   refine tk_ 3 111 ?_
   refine pk_ 4 112 ?_
   refine pk_ 5 113 ?_
   refine pk_ 6 114 ?_
   refine one_ (i := 7) (N := none) (bs_ 9 255) rfl rfl (by kernel_rfl) (by decide) (fun K hK => ?_)
   refine write_step (by rfl) rfl rfl [.int .u8 2, .int .u32 xd, .int .u32 (numP v3 % 4294967296), .int .u32 (numP v4 % 4294967296), .int .u32 (numP v5 % 4294967296), .int .i64 0, .int .u32 0, .slice none 0 0, .int .i64 0, .bool false, .slice none 0 0] (g := g2) (o' := 0) (cs' := #[.int .u8 2, .int .u32 xd, .int .u32 (numP v3 % 4294967296), .int .u32 (numP v4 % 4294967296), .int .u32 (numP v5 % 4294967296), .int .i64 0, .int .u32 0, .slice none 0 0, .int .i64 0, .bool false, .slice none 0 0]) rfl rfl rfl rfl (by simp [Value.oneCell']) (blk_drew HRS5.out.res) (by simp) rfl ?_
   intro w7 hw7 ho7
   have HM7 := m_ (ho7.blk (by have := HG.out.n2; have := HG.out.n4; have := HG7.out; omega) (blk_drew HM.out))
   have HF7 := m_ (ho7.blk (by have := HG.out.n2; have := HG.out.n14; omega) (blk_drew HRS5.out.ts.flag))
   have HR7 := m_ (ho7.blk (by have := HG.out.n2; have := HG.out.n14; omega) (blk_drew HRS5.out.ts.row))
   have HW7 := m_ hw7
   have HO7 := m_ ho7
   have HB7 := m_ (ho7.below (below_drew1 HRS5.out.bel) (by have := HG.out.n1; have := HG.out.n14; omega))
   clear hw7 ho7
   refine hK.out _ _ ⟨(blk_cell HM7.out 0).trans rfl, (blk_cell HM7.out 1).trans rfl, (blk_cell HM7.out 2).trans rfl, (blk_cell HM7.out 3).trans rfl, (blk_cell HM7.out 4).trans rfl, (blk_cell HM7.out 5).trans rfl, (blk_cell HM7.out 6).trans rfl, (blk_cell HM7.out 7).trans rfl, (blk_cell HM7.out 8).trans rfl, (blk_cell HM7.out 9).trans rfl, (blk_cell HM7.out 10).trans rfl, (blk_cell HF7.out 0).trans rfl, (blk_cell HR7.out 0).trans rfl⟩ (fun _ => ?_)
   clear hK K
   refine pk_ 8 3 ?_
   refine done_ (by kernel_rfl) ?_
   go_wp2
   refine bodyPost_ret (results_ct rfl _ _ g2 29 #[.int .u8 2, .int .u32 xd, .int .u32 (numP v3 % 4294967296), .int .u32 (numP v4 % 4294967296), .int .u32 (numP v5 % 4294967296), .int .i64 0, .int .u32 0, .slice none 0 0, .int .i64 0, .bool false, .slice none 0 0] (0, 0) _ rfl HW7.out Try.underlying29 rfl (by kernel_rfl)) rfl ?_
   exact ⟨_, _, rfl, Kd.R_nil _ _ _ _ _, Kd.V_nil _ _ _ _ _, HB7.out⟩
  | false =>
   refine start_ (n := 9) (S := fun W => W.cell? ⟨g7, 0, none⟩ = some (.int .u8 2) ∧ W.cell? ⟨g7, 1, none⟩ = some (.int .u32 xd) ∧ W.cell? ⟨g7, 2, none⟩ = some (.int .u32 (numP v3 % 4294967296)) ∧ W.cell? ⟨g7, 3, none⟩ = some (.int .u32 (numP v4 % 4294967296)) ∧ W.cell? ⟨g7, 4, none⟩ = some (.int .u32 (numP v5 % 4294967296)) ∧ W.cell? ⟨g7, 5, none⟩ = some (.int .i64 0) ∧ W.cell? ⟨g7, 6, none⟩ = some (.int .u32 0) ∧ W.cell? ⟨g7, 7, none⟩ = some (.slice none 0 0) ∧ W.cell? ⟨g7, 8, none⟩ = some (.int .i64 0) ∧ W.cell? ⟨g7, 9, none⟩ = some (.bool false) ∧ W.cell? ⟨g7, 10, none⟩ = some (.slice none 0 0) ∧ W.cell? ⟨g4, 0, none⟩ = some (.bool false) ∧ W.cell? ⟨g1, 0, none⟩ = some (.slice A8 l5.length c8)) (ds := []) (bs_ 9 0) (by kernel_rfl) rfl rfl ⟨(blk_cell (blk_drew HM.out) 0).trans rfl, (blk_cell (blk_drew HM.out) 1).trans rfl, (blk_cell (blk_drew HM.out) 2).trans rfl, (blk_cell (blk_drew HM.out) 3).trans rfl, (blk_cell (blk_drew HM.out) 4).trans rfl, (blk_cell (blk_drew HM.out) 5).trans rfl, (blk_cell (blk_drew HM.out) 6).trans rfl, (blk_cell (blk_drew HM.out) 7).trans rfl, (blk_cell (blk_drew HM.out) 8).trans rfl, (blk_cell (blk_drew HM.out) 9).trans rfl, (blk_cell (blk_drew HM.out) 10).trans rfl, (blk_cell (blk_drew HRS5.out.ts.flag) 0).trans rfl, (blk_cell (blk_drew HRS5.out.ts.row) 0).trans rfl⟩ (fun hHeld => ?_)
   refine tk_ 0 108 ?_
   refine tk_ 1 109 ?_
   refine pk_ 2 110 ?_
   refine pk_ 3 111 ?_
   refine pk_ 4 112 ?_
   refine pk_ 5 113 ?_
   refine pk_ 6 114 ?_
   refine one_ (i := 7) (N := none) (bs_ 9 255) rfl rfl (by kernel_rfl) (by decide) (fun K hK => ?_)
   refine write_step (by rfl) rfl rfl [.int .u8 2, .int .u32 xd, .int .u32 (numP v3 % 4294967296), .int .u32 (numP v4 % 4294967296), .int .u32 (numP v5 % 4294967296), .int .i64 0, .int .u32 0, .slice none 0 0, .int .i64 0, .bool false, .slice none 0 0] (g := g2) (o' := 0) (cs' := #[.int .u8 2, .int .u32 xd, .int .u32 (numP v3 % 4294967296), .int .u32 (numP v4 % 4294967296), .int .u32 (numP v5 % 4294967296), .int .i64 0, .int .u32 0, .slice none 0 0, .int .i64 0, .bool false, .slice none 0 0]) rfl rfl rfl rfl (by simp [Value.oneCell']) (blk_drew HRS5.out.res) (by simp) rfl ?_
   intro w7 hw7 ho7
   have HM7 := m_ (ho7.blk (by have := HG.out.n2; have := HG.out.n4; have := HG7.out; omega) (blk_drew HM.out))
   have HF7 := m_ (ho7.blk (by have := HG.out.n2; have := HG.out.n14; omega) (blk_drew HRS5.out.ts.flag))
   have HR7 := m_ (ho7.blk (by have := HG.out.n2; have := HG.out.n14; omega) (blk_drew HRS5.out.ts.row))
   have HW7 := m_ hw7
   have HO7 := m_ ho7
   have HB7 := m_ (ho7.below (below_drew1 HRS5.out.bel) (by have := HG.out.n1; have := HG.out.n14; omega))
   clear hw7 ho7
   refine hK.out _ _ ⟨(blk_cell HM7.out 0).trans rfl, (blk_cell HM7.out 1).trans rfl, (blk_cell HM7.out 2).trans rfl, (blk_cell HM7.out 3).trans rfl, (blk_cell HM7.out 4).trans rfl, (blk_cell HM7.out 5).trans rfl, (blk_cell HM7.out 6).trans rfl, (blk_cell HM7.out 7).trans rfl, (blk_cell HM7.out 8).trans rfl, (blk_cell HM7.out 9).trans rfl, (blk_cell HM7.out 10).trans rfl, (blk_cell HF7.out 0).trans rfl, (blk_cell HR7.out 0).trans rfl⟩ (fun _ => ?_)
   clear hK K
   refine pk_ 8 3 ?_
   refine done_ (by kernel_rfl) ?_
   go_wp2
   refine bodyPost_ret (results_ct rfl _ _ g2 29 #[.int .u8 2, .int .u32 xd, .int .u32 (numP v3 % 4294967296), .int .u32 (numP v4 % 4294967296), .int .u32 (numP v5 % 4294967296), .int .i64 0, .int .u32 0, .slice none 0 0, .int .i64 0, .bool false, .slice none 0 0] (0, 0) _ rfl HW7.out Try.underlying29 rfl (by kernel_rfl)) rfl ?_
   exact ⟨_, _, rfl, Kd.R_nil _ _ _ _ _, Kd.V_nil _ _ _ _ _, HB7.out⟩
 by_cases h7 : kd = 7
 ·subst h7
  go_wp2_with (go_at_call 49; refine Stop0.out ?_)
  refine ⟨?_⟩
  refine (HRS5.out.number HG.out HOKB.out 1 (by omega)).mono ?_
  rintro e w6 ⟨A6, c6, rfl, hR, hW⟩
  have HRS6 := m_ hR
  have HM6 := m_ ((hW.block g7 (blk_lt HM.out) (by have := HG.out.n4; have := HG.out.n2; have := HG.out.n14; have := HG7.out; omega) (by have := HG.out.n4; have := HG7.out; omega)).trans HM.out)
  clear hR hW
  have H1 := H.out
  unfold readK at H1
  rw [if_neg (by omega), if_neg (by omega), if_pos (by omega)] at H1
  unfold readLink at H1
  generalize takeF 1 l2 b2 = t3 at HRS6 H1 ⊢
  clear H
  obtain ⟨v3, l3, b3⟩ := t3
  have HRS6 : Aside0 (RS w w6 ok g1 g2 g4 g5 A6 c6 l3 b3) := HRS6
  dsimp only at H1 ⊢
  have H2 := m_ H1
  clear H1
  have hk6 : w6.cell? ⟨g7, 8, none⟩ = some (.int .i64 0) := (blk_cell HM6.out 8).trans rfl
  have hf6 := blk_frozen HM6.out 8
  go_wp2_with (go_at_call 49; refine Stop0.out ?_)
  refine ⟨?_⟩
  have ho_ := only_set w6 g7 8 (.int .i64 (numP v3))
  have HM7 := m_ (blk_put HM6.out 8 (.int .i64 (numP v3)) (cs' := #[.int .u8 7, .int .u32 xd, .int .u32 0, .int .u32 0, .int .u32 0, .int .i64 0, .int .u32 0, .slice none 0 0, .int .i64 (numP v3), .bool false, .slice none 0 0]) rfl)
  have HRS7 := m_ (HRS6.out.only HG.out HG7.out HOKB.out ho_)
  clear ho_
  generalize w6.setCell ⟨g7, 8, none⟩ (.int .i64 (numP v3)) = w7 at HM7 HRS7 ⊢
  clear hk6 hf6
  refine (HRS7.out.number HG.out HOKB.out 1 (by omega)).mono ?_
  rintro e w8 ⟨A8, c8, rfl, hR, hW⟩
  have HRS8 := m_ hR
  have HM8 := m_ ((hW.block g7 (blk_lt HM7.out) (by have := HG.out.n4; have := HG.out.n2; have := HG.out.n14; have := HG7.out; omega) (by have := HG.out.n4; have := HG7.out; omega)).trans HM7.out)
  clear hR hW
  have H1 := H2.out
  generalize takeF 1 l3 b3 = t4 at HRS8 H1 ⊢
  clear H2
  obtain ⟨v4, l4, b4⟩ := t4
  have HRS8 : Aside0 (RS w w8 ok g1 g2 g4 g5 A8 c8 l4 b4) := HRS8
  dsimp only at H1 ⊢
  obtain ⟨b5, hb5⟩ : ∃ b5, b5 = (if b4 = true then decide (numP v4 ≤ 1) else false) := ⟨_, rfl⟩
  rw [← hb5] at H1
  have HB5 := m_ hb5
  clear hb5
  simp only [Prod.mk.injEq] at H1
  obtain ⟨rfl, rfl, rfl, rfl, rfl, rfl, rfl, rfl, rfl, rfl, rfl, rfl⟩ := H1
  have hk8 : w8.cell? ⟨g7, 9, none⟩ = some (.bool false) := (blk_cell HM8.out 9).trans rfl
  have hf8 := blk_frozen HM8.out 9
  have hfo8 := blk_frozen HRS8.out.ts.flag 0
  have hne : ¬ (g4 = g7) := by have := HG.out.n4; have := HG7.out; omega
  cases b4 with
  | true =>
   have ho8 : w8.cell? ⟨g4, 0, none⟩ = some (.bool true) := (blk_cell HRS8.out.ts.flag 0).trans rfl
   go_wp2_with ((with_reducible refine gate_dst (N := 98) rfl ?_); refine Stop0.out ?_)
   refine ⟨?_⟩
   have ho_ := only_set w8 g7 9 (.bool (numP v4 == 1))
   have HM9 := m_ (blk_put HM8.out 9 (.bool (numP v4 == 1)) (cs' := #[.int .u8 7, .int .u32 xd, .int .u32 0, .int .u32 0, .int .u32 0, .int .i64 0, .int .u32 0, .slice none 0 0, .int .i64 (numP v3), .bool (numP v4 == 1), .slice none 0 0]) rfl)
   have HRS9 := m_ (HRS8.out.only HG.out HG7.out HOKB.out ho_)
   clear ho_
   generalize w8.setCell ⟨g7, 9, none⟩ (.bool (numP v4 == 1)) = w9 at HM9 HRS9 ⊢
   have hb : b5 = decide (numP v4 ≤ 1) := by have h := HB5.out; simpa using h
   clear HB5
   rw [← hb]
   have HMA := m_ ((only_set w9 g4 0 (.bool b5)).blk (by have := HG.out.n4; have := HG7.out; omega) HM9.out)
   have HRSA := m_ (HRS9.out.setflag HG.out HOKB.out b5)
   generalize w9.setCell ⟨g4, 0, none⟩ (.bool b5) = w10 at HMA HRSA ⊢
   clear hk8 hf8 hfo8 hne ho8 hk0 HM6 HM7 HM8 HRS6 HRS7 HRS8 HM9 HRS9
   have HM := HMA
   have HRS5 := HRSA
   have hk10 : w10.cell? ⟨g7, 0, none⟩ = some (.int .u8 7) := (blk_cell HMA.out 0).trans rfl
   clear HMA HRSA hb
   cases b5 with
   | true =>
    go_wp2
    refine start_ (n := 9) (S := fun W => W.cell? ⟨g7, 0, none⟩ = some (.int .u8 7) ∧ W.cell? ⟨g7, 1, none⟩ = some (.int .u32 xd) ∧ W.cell? ⟨g7, 2, none⟩ = some (.int .u32 0) ∧ W.cell? ⟨g7, 3, none⟩ = some (.int .u32 0) ∧ W.cell? ⟨g7, 4, none⟩ = some (.int .u32 0) ∧ W.cell? ⟨g7, 5, none⟩ = some (.int .i64 0) ∧ W.cell? ⟨g7, 6, none⟩ = some (.int .u32 0) ∧ W.cell? ⟨g7, 7, none⟩ = some (.slice none 0 0) ∧ W.cell? ⟨g7, 8, none⟩ = some (.int .i64 (numP v3)) ∧ W.cell? ⟨g7, 9, none⟩ = some (.bool (numP v4 == 1)) ∧ W.cell? ⟨g7, 10, none⟩ = some (.slice none 0 0) ∧ W.cell? ⟨g4, 0, none⟩ = some (.bool true) ∧ W.cell? ⟨g1, 0, none⟩ = some (.slice A8 l4.length c8)) (ds := []) (bs_ 9 0) (by kernel_rfl) rfl rfl ⟨(blk_cell (blk_drew HM.out) 0).trans rfl, (blk_cell (blk_drew HM.out) 1).trans rfl, (blk_cell (blk_drew HM.out) 2).trans rfl, (blk_cell (blk_drew HM.out) 3).trans rfl, (blk_cell (blk_drew HM.out) 4).trans rfl, (blk_cell (blk_drew HM.out) 5).trans rfl, (blk_cell (blk_drew HM.out) 6).trans rfl, (blk_cell (blk_drew HM.out) 7).trans rfl, (blk_cell (blk_drew HM.out) 8).trans rfl, (blk_cell (blk_drew HM.out) 9).trans rfl, (blk_cell (blk_drew HM.out) 10).trans rfl, (blk_cell (blk_drew HRS5.out.ts.flag) 0).trans rfl, (blk_cell (blk_drew HRS5.out.ts.row) 0).trans rfl⟩ (fun hHeld => ?_)
    refine tk_ 0 108 ?_
    refine tk_ 1 109 ?_
    refine pk_ 2 110 ?_
    refine tk_ 3 111 ?_
    refine pk_ 4 112 ?_
    refine pk_ 5 113 ?_
    refine pk_ 6 114 ?_
    refine one_ (i := 7) (N := none) (bs_ 9 255) rfl rfl (by kernel_rfl) (by decide) (fun K hK => ?_)
    refine write_step (by rfl) rfl rfl [.int .u8 7, .int .u32 xd, .int .u32 0, .int .u32 0, .int .u32 0, .int .i64 0, .int .u32 0, .slice none 0 0, .int .i64 (numP v3), .bool (numP v4 == 1), .slice none 0 0] (g := g2) (o' := 0) (cs' := #[.int .u8 7, .int .u32 xd, .int .u32 0, .int .u32 0, .int .u32 0, .int .i64 0, .int .u32 0, .slice none 0 0, .int .i64 (numP v3), .bool (numP v4 == 1), .slice none 0 0]) rfl rfl rfl rfl (by simp [Value.oneCell']) (blk_drew HRS5.out.res) (by simp) rfl ?_
    intro w7 hw7 ho7
    have HM7 := m_ (ho7.blk (by have := HG.out.n2; have := HG.out.n4; have := HG7.out; omega) (blk_drew HM.out))
    have HF7 := m_ (ho7.blk (by have := HG.out.n2; have := HG.out.n14; omega) (blk_drew HRS5.out.ts.flag))
    have HR7 := m_ (ho7.blk (by have := HG.out.n2; have := HG.out.n14; omega) (blk_drew HRS5.out.ts.row))
    have HW7 := m_ hw7
    have HO7 := m_ ho7
    have HB7 := m_ (ho7.below (below_drew1 HRS5.out.bel) (by have := HG.out.n1; have := HG.out.n14; omega))
    clear hw7 ho7
    refine hK.out _ _ ⟨(blk_cell HM7.out 0).trans rfl, (blk_cell HM7.out 1).trans rfl, (blk_cell HM7.out 2).trans rfl, (blk_cell HM7.out 3).trans rfl, (blk_cell HM7.out 4).trans rfl, (blk_cell HM7.out 5).trans rfl, (blk_cell HM7.out 6).trans rfl, (blk_cell HM7.out 7).trans rfl, (blk_cell HM7.out 8).trans rfl, (blk_cell HM7.out 9).trans rfl, (blk_cell HM7.out 10).trans rfl, (blk_cell HF7.out 0).trans rfl, (blk_cell HR7.out 0).trans rfl⟩ (fun _ => ?_)
    clear hK K
    refine pk_ 8 3 ?_
    refine done_ (by kernel_rfl) ?_
    go_wp2
    refine bodyPost_ret (results_ct rfl _ _ g2 29 #[.int .u8 7, .int .u32 xd, .int .u32 0, .int .u32 0, .int .u32 0, .int .i64 0, .int .u32 0, .slice none 0 0, .int .i64 (numP v3), .bool (numP v4 == 1), .slice none 0 0] (0, 0) _ rfl HW7.out Try.underlying29 rfl (by kernel_rfl)) rfl ?_
    exact ⟨_, _, rfl, Kd.R_nil _ _ _ _ _, Kd.V_nil _ _ _ _ _, HB7.out⟩
   | false =>
    go_wp2
    refine start_ (n := 9) (S := fun W => W.cell? ⟨g7, 0, none⟩ = some (.int .u8 7) ∧ W.cell? ⟨g7, 1, none⟩ = some (.int .u32 xd) ∧ W.cell? ⟨g7, 2, none⟩ = some (.int .u32 0) ∧ W.cell? ⟨g7, 3, none⟩ = some (.int .u32 0) ∧ W.cell? ⟨g7, 4, none⟩ = some (.int .u32 0) ∧ W.cell? ⟨g7, 5, none⟩ = some (.int .i64 0) ∧ W.cell? ⟨g7, 6, none⟩ = some (.int .u32 0) ∧ W.cell? ⟨g7, 7, none⟩ = some (.slice none 0 0) ∧ W.cell? ⟨g7, 8, none⟩ = some (.int .i64 (numP v3)) ∧ W.cell? ⟨g7, 9, none⟩ = some (.bool (numP v4 == 1)) ∧ W.cell? ⟨g7, 10, none⟩ = some (.slice none 0 0) ∧ W.cell? ⟨g4, 0, none⟩ = some (.bool false) ∧ W.cell? ⟨g1, 0, none⟩ = some (.slice A8 l4.length c8)) (ds := []) (bs_ 9 0) (by kernel_rfl) rfl rfl ⟨(blk_cell (blk_drew HM.out) 0).trans rfl, (blk_cell (blk_drew HM.out) 1).trans rfl, (blk_cell (blk_drew HM.out) 2).trans rfl, (blk_cell (blk_drew HM.out) 3).trans rfl, (blk_cell (blk_drew HM.out) 4).trans rfl, (blk_cell (blk_drew HM.out) 5).trans rfl, (blk_cell (blk_drew HM.out) 6).trans rfl, (blk_cell (blk_drew HM.out) 7).trans rfl, (blk_cell (blk_drew HM.out) 8).trans rfl, (blk_cell (blk_drew HM.out) 9).trans rfl, (blk_cell (blk_drew HM.out) 10).trans rfl, (blk_cell (blk_drew HRS5.out.ts.flag) 0).trans rfl, (blk_cell (blk_drew HRS5.out.ts.row) 0).trans rfl⟩ (fun hHeld => ?_)
    refine tk_ 0 108 ?_
    refine tk_ 1 109 ?_
    refine pk_ 2 110 ?_
    refine pk_ 3 111 ?_
    refine pk_ 4 112 ?_
    refine pk_ 5 113 ?_
    refine pk_ 6 114 ?_
    refine one_ (i := 7) (N := none) (bs_ 9 255) rfl rfl (by kernel_rfl) (by decide) (fun K hK => ?_)
    refine write_step (by rfl) rfl rfl [.int .u8 7, .int .u32 xd, .int .u32 0, .int .u32 0, .int .u32 0, .int .i64 0, .int .u32 0, .slice none 0 0, .int .i64 (numP v3), .bool (numP v4 == 1), .slice none 0 0] (g := g2) (o' := 0) (cs' := #[.int .u8 7, .int .u32 xd, .int .u32 0, .int .u32 0, .int .u32 0, .int .i64 0, .int .u32 0, .slice none 0 0, .int .i64 (numP v3), .bool (numP v4 == 1), .slice none 0 0]) rfl rfl rfl rfl (by simp [Value.oneCell']) (blk_drew HRS5.out.res) (by simp) rfl ?_
    intro w7 hw7 ho7
    have HM7 := m_ (ho7.blk (by have := HG.out.n2; have := HG.out.n4; have := HG7.out; omega) (blk_drew HM.out))
    have HF7 := m_ (ho7.blk (by have := HG.out.n2; have := HG.out.n14; omega) (blk_drew HRS5.out.ts.flag))
    have HR7 := m_ (ho7.blk (by have := HG.out.n2; have := HG.out.n14; omega) (blk_drew HRS5.out.ts.row))
    have HW7 := m_ hw7
    have HO7 := m_ ho7
    have HB7 := m_ (ho7.below (below_drew1 HRS5.out.bel) (by have := HG.out.n1; have := HG.out.n14; omega))
    clear hw7 ho7
    refine hK.out _ _ ⟨(blk_cell HM7.out 0).trans rfl, (blk_cell HM7.out 1).trans rfl, (blk_cell HM7.out 2).trans rfl, (blk_cell HM7.out 3).trans rfl, (blk_cell HM7.out 4).trans rfl, (blk_cell HM7.out 5).trans rfl, (blk_cell HM7.out 6).trans rfl, (blk_cell HM7.out 7).trans rfl, (blk_cell HM7.out 8).trans rfl, (blk_cell HM7.out 9).trans rfl, (blk_cell HM7.out 10).trans rfl, (blk_cell HF7.out 0).trans rfl, (blk_cell HR7.out 0).trans rfl⟩ (fun _ => ?_)
    clear hK K
    refine pk_ 8 3 ?_
    refine done_ (by kernel_rfl) ?_
    go_wp2
    refine bodyPost_ret (results_ct rfl _ _ g2 29 #[.int .u8 7, .int .u32 xd, .int .u32 0, .int .u32 0, .int .u32 0, .int .i64 0, .int .u32 0, .slice none 0 0, .int .i64 (numP v3), .bool (numP v4 == 1), .slice none 0 0] (0, 0) _ rfl HW7.out Try.underlying29 rfl (by kernel_rfl)) rfl ?_
    exact ⟨_, _, rfl, Kd.R_nil _ _ _ _ _, Kd.V_nil _ _ _ _ _, HB7.out⟩
  | false =>
   have ho8 : w8.cell? ⟨g4, 0, none⟩ = some (.bool false) := (blk_cell HRS8.out.ts.flag 0).trans rfl
   go_wp2_with ((with_reducible refine gate_dst (N := 98) rfl ?_); refine Stop0.out ?_)
   refine ⟨?_⟩
   have ho_ := only_set w8 g7 9 (.bool (numP v4 == 1))
   have HM9 := m_ (blk_put HM8.out 9 (.bool (numP v4 == 1)) (cs' := #[.int .u8 7, .int .u32 xd, .int .u32 0, .int .u32 0, .int .u32 0, .int .i64 0, .int .u32 0, .slice none 0 0, .int .i64 (numP v3), .bool (numP v4 == 1), .slice none 0 0]) rfl)
   have HRS9 := m_ (HRS8.out.only HG.out HG7.out HOKB.out ho_)
   clear ho_
   generalize w8.setCell ⟨g7, 9, none⟩ (.bool (numP v4 == 1)) = w9 at HM9 HRS9 ⊢
   have hb : b5 = false := by have h := HB5.out; simpa using h
   clear HB5
   subst hb
   have HMA := m_ ((only_set w9 g4 0 (.bool false)).blk (by have := HG.out.n4; have := HG7.out; omega) HM9.out)
   have HRSA := m_ (HRS9.out.setflag HG.out HOKB.out false)
   generalize w9.setCell ⟨g4, 0, none⟩ (.bool false) = w10 at HMA HRSA ⊢
   clear hk8 hf8 hfo8 hne ho8 hk0 HM6 HM7 HM8 HRS6 HRS7 HRS8 HM9 HRS9
   have HM := HMA
   have HRS5 := HRSA
   have hk10 : w10.cell? ⟨g7, 0, none⟩ = some (.int .u8 7) := (blk_cell HMA.out 0).trans rfl
   clear HMA HRSA
   go_wp2
   refine start_ (n := 9) (S := fun W => W.cell? ⟨g7, 0, none⟩ = some (.int .u8 7) ∧ W.cell? ⟨g7, 1, none⟩ = some (.int .u32 xd) ∧ W.cell? ⟨g7, 2, none⟩ = some (.int .u32 0) ∧ W.cell? ⟨g7, 3, none⟩ = some (.int .u32 0) ∧ W.cell? ⟨g7, 4, none⟩ = some (.int .u32 0) ∧ W.cell? ⟨g7, 5, none⟩ = some (.int .i64 0) ∧ W.cell? ⟨g7, 6, none⟩ = some (.int .u32 0) ∧ W.cell? ⟨g7, 7, none⟩ = some (.slice none 0 0) ∧ W.cell? ⟨g7, 8, none⟩ = some (.int .i64 (numP v3)) ∧ W.cell? ⟨g7, 9, none⟩ = some (.bool (numP v4 == 1)) ∧ W.cell? ⟨g7, 10, none⟩ = some (.slice none 0 0) ∧ W.cell? ⟨g4, 0, none⟩ = some (.bool false) ∧ W.cell? ⟨g1, 0, none⟩ = some (.slice A8 l4.length c8)) (ds := []) (bs_ 9 0) (by kernel_rfl) rfl rfl ⟨(blk_cell (blk_drew HM.out) 0).trans rfl, (blk_cell (blk_drew HM.out) 1).trans rfl, (blk_cell (blk_drew HM.out) 2).trans rfl, (blk_cell (blk_drew HM.out) 3).trans rfl, (blk_cell (blk_drew HM.out) 4).trans rfl, (blk_cell (blk_drew HM.out) 5).trans rfl, (blk_cell (blk_drew HM.out) 6).trans rfl, (blk_cell (blk_drew HM.out) 7).trans rfl, (blk_cell (blk_drew HM.out) 8).trans rfl, (blk_cell (blk_drew HM.out) 9).trans rfl, (blk_cell (blk_drew HM.out) 10).trans rfl, (blk_cell (blk_drew HRS5.out.ts.flag) 0).trans rfl, (blk_cell (blk_drew HRS5.out.ts.row) 0).trans rfl⟩ (fun hHeld => ?_)
   refine tk_ 0 108 ?_
   refine tk_ 1 109 ?_
   refine pk_ 2 110 ?_
   refine pk_ 3 111 ?_
   refine pk_ 4 112 ?_
   refine pk_ 5 113 ?_
   refine pk_ 6 114 ?_
   refine one_ (i := 7) (N := none) (bs_ 9 255) rfl rfl (by kernel_rfl) (by decide) (fun K hK => ?_)
   refine write_step (by rfl) rfl rfl [.int .u8 7, .int .u32 xd, .int .u32 0, .int .u32 0, .int .u32 0, .int .i64 0, .int .u32 0, .slice none 0 0, .int .i64 (numP v3), .bool (numP v4 == 1), .slice none 0 0] (g := g2) (o' := 0) (cs' := #[.int .u8 7, .int .u32 xd, .int .u32 0, .int .u32 0, .int .u32 0, .int .i64 0, .int .u32 0, .slice none 0 0, .int .i64 (numP v3), .bool (numP v4 == 1), .slice none 0 0]) rfl rfl rfl rfl (by simp [Value.oneCell']) (blk_drew HRS5.out.res) (by simp) rfl ?_
   intro w7 hw7 ho7
   have HM7 := m_ (ho7.blk (by have := HG.out.n2; have := HG.out.n4; have := HG7.out; omega) (blk_drew HM.out))
   have HF7 := m_ (ho7.blk (by have := HG.out.n2; have := HG.out.n14; omega) (blk_drew HRS5.out.ts.flag))
   have HR7 := m_ (ho7.blk (by have := HG.out.n2; have := HG.out.n14; omega) (blk_drew HRS5.out.ts.row))
   have HW7 := m_ hw7
   have HO7 := m_ ho7
   have HB7 := m_ (ho7.below (below_drew1 HRS5.out.bel) (by have := HG.out.n1; have := HG.out.n14; omega))
   clear hw7 ho7
   refine hK.out _ _ ⟨(blk_cell HM7.out 0).trans rfl, (blk_cell HM7.out 1).trans rfl, (blk_cell HM7.out 2).trans rfl, (blk_cell HM7.out 3).trans rfl, (blk_cell HM7.out 4).trans rfl, (blk_cell HM7.out 5).trans rfl, (blk_cell HM7.out 6).trans rfl, (blk_cell HM7.out 7).trans rfl, (blk_cell HM7.out 8).trans rfl, (blk_cell HM7.out 9).trans rfl, (blk_cell HM7.out 10).trans rfl, (blk_cell HF7.out 0).trans rfl, (blk_cell HR7.out 0).trans rfl⟩ (fun _ => ?_)
   clear hK K
   refine pk_ 8 3 ?_
   refine done_ (by kernel_rfl) ?_
   go_wp2
   refine bodyPost_ret (results_ct rfl _ _ g2 29 #[.int .u8 7, .int .u32 xd, .int .u32 0, .int .u32 0, .int .u32 0, .int .i64 0, .int .u32 0, .slice none 0 0, .int .i64 (numP v3), .bool (numP v4 == 1), .slice none 0 0] (0, 0) _ rfl HW7.out Try.underlying29 rfl (by kernel_rfl)) rfl ?_
   exact ⟨_, _, rfl, Kd.R_nil _ _ _ _ _, Kd.V_nil _ _ _ _ _, HB7.out⟩
 by_cases h8 : kd = 8
 ·subst h8
  go_wp2_with (go_at_call 49; refine Stop0.out ?_)
  refine ⟨?_⟩
  refine (HRS5.out.number HG.out HOKB.out 1 (by omega)).mono ?_
  rintro e w6 ⟨A6, c6, rfl, hR, hW⟩
  have HRS6 := m_ hR
  have HM6 := m_ ((hW.block g7 (blk_lt HM.out) (by have := HG.out.n4; have := HG.out.n2; have := HG.out.n14; have := HG7.out; omega) (by have := HG.out.n4; have := HG7.out; omega)).trans HM.out)
  clear hR hW
  have H1 := H.out
  unfold readK at H1
  rw [if_neg (by omega), if_neg (by omega), if_neg (by omega), if_pos (by omega)] at H1
  unfold readBytes at H1
  generalize takeF 1 l2 b2 = t3 at HRS6 H1 ⊢
  clear H
  obtain ⟨v3, l3, b3⟩ := t3
  have HRS6 : Aside0 (RS w w6 ok g1 g2 g4 g5 A6 c6 l3 b3) := HRS6
  dsimp only at H1 ⊢
  simp only [Prod.mk.injEq] at H1
  obtain ⟨rfl, rfl, rfl, rfl, rfl, rfl, rfl, rfl, rfl, rfl, rfl, rfl⟩ := H1
  have hk6 : w6.cell? ⟨g7, 8, none⟩ = some (.int .i64 0) := (blk_cell HM6.out 8).trans rfl
  have hf6 := blk_frozen HM6.out 8
  go_wp2_with ((with_reducible refine gate_dst (N := 96) rfl ?_); refine Stop0.out ?_)
  refine ⟨?_⟩
  have ho_ := only_set w6 g7 8 (.int .i64 (numP v3))
  have HM7 := m_ (blk_put HM6.out 8 (.int .i64 (numP v3)) (cs' := #[.int .u8 8, .int .u32 xd, .int .u32 0, .int .u32 0, .int .u32 0, .int .i64 0, .int .u32 0, .slice none 0 0, .int .i64 (numP v3), .bool false, .slice none 0 0]) rfl)
  have HRS7 := m_ (HRS6.out.only HG.out HG7.out HOKB.out ho_)
  clear ho_
  generalize w6.setCell ⟨g7, 8, none⟩ (.int .i64 (numP v3)) = w7 at HM7 HRS7 ⊢
  clear hk6 hf6
  have hr7 : w7.cell? ⟨g1, 0, none⟩ = some (.slice A6 l3.length c6) := (blk_cell HRS7.out.ts.row 0).trans rfl
  have hk7 : w7.cell? ⟨g7, 10, none⟩ = some (.slice none 0 0) := (blk_cell HM7.out 10).trans rfl
  have hf7 := blk_frozen HM7.out 10
  go_wp2_with ((with_reducible refine gate_dst (N := 99) rfl ?_); refine Stop0.out ?_)
  refine ⟨?_⟩
  have ho_ := only_set w7 g7 10 (.slice A6 l3.length c6)
  have HM8 := m_ (blk_put HM7.out 10 (.slice A6 l3.length c6) (cs' := #[.int .u8 8, .int .u32 xd, .int .u32 0, .int .u32 0, .int .u32 0, .int .i64 0, .int .u32 0, .slice none 0 0, .int .i64 (numP v3), .bool false, .slice A6 l3.length c6]) rfl)
  have HRS8 := m_ (HRS7.out.only HG.out HG7.out HOKB.out ho_)
  clear ho_
  generalize w7.setCell ⟨g7, 10, none⟩ (.slice A6 l3.length c6) = w8 at HM8 HRS8 ⊢
  clear hr7 hk7 hf7
  have HM := HM8
  have HRS5 := HRS8
  have hk8 : w8.cell? ⟨g7, 0, none⟩ = some (.int .u8 8) := (blk_cell HM8.out 0).trans rfl
  clear HM6 HM7 HRS6 HRS7 hk0
  go_wp2
  refine start_ (n := 4) (S := fun W => W.cell? ⟨g7, 0, none⟩ = some (.int .u8 8) ∧ W.cell? ⟨g7, 1, none⟩ = some (.int .u32 xd) ∧ W.cell? ⟨g7, 2, none⟩ = some (.int .u32 0) ∧ W.cell? ⟨g7, 3, none⟩ = some (.int .u32 0) ∧ W.cell? ⟨g7, 4, none⟩ = some (.int .u32 0) ∧ W.cell? ⟨g7, 5, none⟩ = some (.int .i64 0) ∧ W.cell? ⟨g7, 6, none⟩ = some (.int .u32 0) ∧ W.cell? ⟨g7, 7, none⟩ = some (.slice none 0 0) ∧ W.cell? ⟨g7, 8, none⟩ = some (.int .i64 (numP v3)) ∧ W.cell? ⟨g7, 9, none⟩ = some (.bool false) ∧ W.cell? ⟨g7, 10, none⟩ = some (.slice A6 l3.length c6) ∧ W.cell? ⟨g4, 0, none⟩ = some (.bool b3) ∧ W.cell? ⟨g1, 0, none⟩ = some (.slice A6 l3.length c6)) (ds := []) (bs_ 4 0) (by kernel_rfl) rfl rfl ⟨(blk_cell (blk_drew HM.out) 0).trans rfl, (blk_cell (blk_drew HM.out) 1).trans rfl, (blk_cell (blk_drew HM.out) 2).trans rfl, (blk_cell (blk_drew HM.out) 3).trans rfl, (blk_cell (blk_drew HM.out) 4).trans rfl, (blk_cell (blk_drew HM.out) 5).trans rfl, (blk_cell (blk_drew HM.out) 6).trans rfl, (blk_cell (blk_drew HM.out) 7).trans rfl, (blk_cell (blk_drew HM.out) 8).trans rfl, (blk_cell (blk_drew HM.out) 9).trans rfl, (blk_cell (blk_drew HM.out) 10).trans rfl, (blk_cell (blk_drew HRS5.out.ts.flag) 0).trans rfl, (blk_cell (blk_drew HRS5.out.ts.row) 0).trans rfl⟩ (fun hHeld => ?_)
  refine tk_ 0 106 ?_
  refine tk_ 1 107 ?_
  refine one_ (i := 2) (N := none) (bs_ 4 7) rfl rfl (by kernel_rfl) (by decide) (fun K hK => ?_)
  refine write_step (by rfl) rfl rfl [.int .u8 8, .int .u32 xd, .int .u32 0, .int .u32 0, .int .u32 0, .int .i64 0, .int .u32 0, .slice none 0 0, .int .i64 (numP v3), .bool false, .slice A6 l3.length c6] (g := g2) (o' := 0) (cs' := #[.int .u8 8, .int .u32 xd, .int .u32 0, .int .u32 0, .int .u32 0, .int .i64 0, .int .u32 0, .slice none 0 0, .int .i64 (numP v3), .bool false, .slice A6 l3.length c6]) rfl rfl rfl rfl (by simp [Value.oneCell']) (blk_drew HRS5.out.res) (by simp) rfl ?_
  intro w7 hw7 ho7
  have HM7 := m_ (ho7.blk (by have := HG.out.n2; have := HG.out.n4; have := HG7.out; omega) (blk_drew HM.out))
  have HF7 := m_ (ho7.blk (by have := HG.out.n2; have := HG.out.n14; omega) (blk_drew HRS5.out.ts.flag))
  have HR7 := m_ (ho7.blk (by have := HG.out.n2; have := HG.out.n14; omega) (blk_drew HRS5.out.ts.row))
  have HW7 := m_ hw7
  have HO7 := m_ ho7
  have HB7 := m_ (ho7.below (below_drew1 HRS5.out.bel) (by have := HG.out.n1; have := HG.out.n14; omega))
  clear hw7 ho7
  refine hK.out _ _ ⟨(blk_cell HM7.out 0).trans rfl, (blk_cell HM7.out 1).trans rfl, (blk_cell HM7.out 2).trans rfl, (blk_cell HM7.out 3).trans rfl, (blk_cell HM7.out 4).trans rfl, (blk_cell HM7.out 5).trans rfl, (blk_cell HM7.out 6).trans rfl, (blk_cell HM7.out 7).trans rfl, (blk_cell HM7.out 8).trans rfl, (blk_cell HM7.out 9).trans rfl, (blk_cell HM7.out 10).trans rfl, (blk_cell HF7.out 0).trans rfl, (blk_cell HR7.out 0).trans rfl⟩ (fun _ => ?_)
  clear hK K
  refine pk_ 3 3 ?_
  refine done_ (by kernel_rfl) ?_
  go_wp2
  refine bodyPost_ret (results_ct rfl _ _ g2 29 #[.int .u8 8, .int .u32 xd, .int .u32 0, .int .u32 0, .int .u32 0, .int .i64 0, .int .u32 0, .slice none 0 0, .int .i64 (numP v3), .bool false, .slice A6 l3.length c6] (0, 0) _ rfl HW7.out Try.underlying29 rfl (by kernel_rfl)) rfl ?_
  refine ⟨_, _, rfl, Kd.R_nil _ _ _ _ _, ⟨A6, c6, rfl, HRS5.out.ts.room, ?_⟩, HB7.out⟩
  exact Kd.F_mono (Kd.F_step (Kd.F_drew HRS5.out.ts.bytes) (fun k hk _ => HO7.out.block k (by have := HOKB.out k hk; have := HG.out.n1; have := HG.out.n14; omega))) (fun k hk => ⟨.inl (HP.out k hk), by simp [Value.ownBlock]⟩)
 by_cases h9 : kd = 9
 ·subst h9
  go_wp2_with (go_at_call 49; refine Stop0.out ?_)
  refine ⟨?_⟩
  refine (HRS5.out.number HG.out HOKB.out 1 (by omega)).mono ?_
  rintro e w6 ⟨A6, c6, rfl, hR, hW⟩
  have HRS6 := m_ hR
  have HM6 := m_ ((hW.block g7 (blk_lt HM.out) (by have := HG.out.n4; have := HG.out.n2; have := HG.out.n14; have := HG7.out; omega) (by have := HG.out.n4; have := HG7.out; omega)).trans HM.out)
  clear hR hW
  have H1 := H.out
  unfold readK at H1
  rw [if_neg (by omega), if_neg (by omega), if_neg (by omega), if_pos (by omega)] at H1
  unfold readBytes at H1
  generalize takeF 1 l2 b2 = t3 at HRS6 H1 ⊢
  clear H
  obtain ⟨v3, l3, b3⟩ := t3
  have HRS6 : Aside0 (RS w w6 ok g1 g2 g4 g5 A6 c6 l3 b3) := HRS6
  dsimp only at H1 ⊢
  simp only [Prod.mk.injEq] at H1
  obtain ⟨rfl, rfl, rfl, rfl, rfl, rfl, rfl, rfl, rfl, rfl, rfl, rfl⟩ := H1
  have hk6 : w6.cell? ⟨g7, 8, none⟩ = some (.int .i64 0) := (blk_cell HM6.out 8).trans rfl
  have hf6 := blk_frozen HM6.out 8
  go_wp2_with ((with_reducible refine gate_dst (N := 96) rfl ?_); refine Stop0.out ?_)
  refine ⟨?_⟩
  have ho_ := only_set w6 g7 8 (.int .i64 (numP v3))
  have HM7 := m_ (blk_put HM6.out 8 (.int .i64 (numP v3)) (cs' := #[.int .u8 9, .int .u32 xd, .int .u32 0, .int .u32 0, .int .u32 0, .int .i64 0, .int .u32 0, .slice none 0 0, .int .i64 (numP v3), .bool false, .slice none 0 0]) rfl)
  have HRS7 := m_ (HRS6.out.only HG.out HG7.out HOKB.out ho_)
  clear ho_
  generalize w6.setCell ⟨g7, 8, none⟩ (.int .i64 (numP v3)) = w7 at HM7 HRS7 ⊢
  clear hk6 hf6
  have hr7 : w7.cell? ⟨g1, 0, none⟩ = some (.slice A6 l3.length c6) := (blk_cell HRS7.out.ts.row 0).trans rfl
  have hk7 : w7.cell? ⟨g7, 10, none⟩ = some (.slice none 0 0) := (blk_cell HM7.out 10).trans rfl
  have hf7 := blk_frozen HM7.out 10
  go_wp2_with ((with_reducible refine gate_dst (N := 99) rfl ?_); refine Stop0.out ?_)
  refine ⟨?_⟩
  have ho_ := only_set w7 g7 10 (.slice A6 l3.length c6)
  have HM8 := m_ (blk_put HM7.out 10 (.slice A6 l3.length c6) (cs' := #[.int .u8 9, .int .u32 xd, .int .u32 0, .int .u32 0, .int .u32 0, .int .i64 0, .int .u32 0, .slice none 0 0, .int .i64 (numP v3), .bool false, .slice A6 l3.length c6]) rfl)
  have HRS8 := m_ (HRS7.out.only HG.out HG7.out HOKB.out ho_)
  clear ho_
  generalize w7.setCell ⟨g7, 10, none⟩ (.slice A6 l3.length c6) = w8 at HM8 HRS8 ⊢
  clear hr7 hk7 hf7
  have HM := HM8
  have HRS5 := HRS8
  have hk8 : w8.cell? ⟨g7, 0, none⟩ = some (.int .u8 9) := (blk_cell HM8.out 0).trans rfl
  clear HM6 HM7 HRS6 HRS7 hk0
  go_wp2
  refine start_ (n := 4) (S := fun W => W.cell? ⟨g7, 0, none⟩ = some (.int .u8 9) ∧ W.cell? ⟨g7, 1, none⟩ = some (.int .u32 xd) ∧ W.cell? ⟨g7, 2, none⟩ = some (.int .u32 0) ∧ W.cell? ⟨g7, 3, none⟩ = some (.int .u32 0) ∧ W.cell? ⟨g7, 4, none⟩ = some (.int .u32 0) ∧ W.cell? ⟨g7, 5, none⟩ = some (.int .i64 0) ∧ W.cell? ⟨g7, 6, none⟩ = some (.int .u32 0) ∧ W.cell? ⟨g7, 7, none⟩ = some (.slice none 0 0) ∧ W.cell? ⟨g7, 8, none⟩ = some (.int .i64 (numP v3)) ∧ W.cell? ⟨g7, 9, none⟩ = some (.bool false) ∧ W.cell? ⟨g7, 10, none⟩ = some (.slice A6 l3.length c6) ∧ W.cell? ⟨g4, 0, none⟩ = some (.bool b3) ∧ W.cell? ⟨g1, 0, none⟩ = some (.slice A6 l3.length c6)) (ds := []) (bs_ 4 0) (by kernel_rfl) rfl rfl ⟨(blk_cell (blk_drew HM.out) 0).trans rfl, (blk_cell (blk_drew HM.out) 1).trans rfl, (blk_cell (blk_drew HM.out) 2).trans rfl, (blk_cell (blk_drew HM.out) 3).trans rfl, (blk_cell (blk_drew HM.out) 4).trans rfl, (blk_cell (blk_drew HM.out) 5).trans rfl, (blk_cell (blk_drew HM.out) 6).trans rfl, (blk_cell (blk_drew HM.out) 7).trans rfl, (blk_cell (blk_drew HM.out) 8).trans rfl, (blk_cell (blk_drew HM.out) 9).trans rfl, (blk_cell (blk_drew HM.out) 10).trans rfl, (blk_cell (blk_drew HRS5.out.ts.flag) 0).trans rfl, (blk_cell (blk_drew HRS5.out.ts.row) 0).trans rfl⟩ (fun hHeld => ?_)
  refine tk_ 0 106 ?_
  refine tk_ 1 107 ?_
  refine one_ (i := 2) (N := none) (bs_ 4 7) rfl rfl (by kernel_rfl) (by decide) (fun K hK => ?_)
  refine write_step (by rfl) rfl rfl [.int .u8 9, .int .u32 xd, .int .u32 0, .int .u32 0, .int .u32 0, .int .i64 0, .int .u32 0, .slice none 0 0, .int .i64 (numP v3), .bool false, .slice A6 l3.length c6] (g := g2) (o' := 0) (cs' := #[.int .u8 9, .int .u32 xd, .int .u32 0, .int .u32 0, .int .u32 0, .int .i64 0, .int .u32 0, .slice none 0 0, .int .i64 (numP v3), .bool false, .slice A6 l3.length c6]) rfl rfl rfl rfl (by simp [Value.oneCell']) (blk_drew HRS5.out.res) (by simp) rfl ?_
  intro w7 hw7 ho7
  have HM7 := m_ (ho7.blk (by have := HG.out.n2; have := HG.out.n4; have := HG7.out; omega) (blk_drew HM.out))
  have HF7 := m_ (ho7.blk (by have := HG.out.n2; have := HG.out.n14; omega) (blk_drew HRS5.out.ts.flag))
  have HR7 := m_ (ho7.blk (by have := HG.out.n2; have := HG.out.n14; omega) (blk_drew HRS5.out.ts.row))
  have HW7 := m_ hw7
  have HO7 := m_ ho7
  have HB7 := m_ (ho7.below (below_drew1 HRS5.out.bel) (by have := HG.out.n1; have := HG.out.n14; omega))
  clear hw7 ho7
  refine hK.out _ _ ⟨(blk_cell HM7.out 0).trans rfl, (blk_cell HM7.out 1).trans rfl, (blk_cell HM7.out 2).trans rfl, (blk_cell HM7.out 3).trans rfl, (blk_cell HM7.out 4).trans rfl, (blk_cell HM7.out 5).trans rfl, (blk_cell HM7.out 6).trans rfl, (blk_cell HM7.out 7).trans rfl, (blk_cell HM7.out 8).trans rfl, (blk_cell HM7.out 9).trans rfl, (blk_cell HM7.out 10).trans rfl, (blk_cell HF7.out 0).trans rfl, (blk_cell HR7.out 0).trans rfl⟩ (fun _ => ?_)
  clear hK K
  refine pk_ 3 3 ?_
  refine done_ (by kernel_rfl) ?_
  go_wp2
  refine bodyPost_ret (results_ct rfl _ _ g2 29 #[.int .u8 9, .int .u32 xd, .int .u32 0, .int .u32 0, .int .u32 0, .int .i64 0, .int .u32 0, .slice none 0 0, .int .i64 (numP v3), .bool false, .slice A6 l3.length c6] (0, 0) _ rfl HW7.out Try.underlying29 rfl (by kernel_rfl)) rfl ?_
  refine ⟨_, _, rfl, Kd.R_nil _ _ _ _ _, ⟨A6, c6, rfl, HRS5.out.ts.room, ?_⟩, HB7.out⟩
  exact Kd.F_mono (Kd.F_step (Kd.F_drew HRS5.out.ts.bytes) (fun k hk _ => HO7.out.block k (by have := HOKB.out k hk; have := HG.out.n1; have := HG.out.n14; omega))) (fun k hk => ⟨.inl (HP.out k hk), by simp [Value.ownBlock]⟩)
 have h1' : (kd == 1) = false := beq_eq_false_iff_ne.2 h1
 have h2' : (kd == 2) = false := beq_eq_false_iff_ne.2 h2
 have h7' : (kd == 7) = false := beq_eq_false_iff_ne.2 h7
 have h8' : (kd == 8) = false := beq_eq_false_iff_ne.2 h8
 have h9' : (kd == 9) = false := beq_eq_false_iff_ne.2 h9
 have H1 := H.out
 unfold readK at H1
 rw [if_neg h1, if_neg h2, if_neg h7, if_neg (fun h => h.elim h8 h9)] at H1
 simp only [Prod.mk.injEq] at H1
 obtain ⟨rfl, rfl, rfl, rfl, rfl, rfl, rfl, rfl, rfl, rfl, rfl, rfl⟩ := H1
 clear h1 h2 h7 h8 h9 H
 go_wp2
 cases b2 with
 | true =>
  refine start_ (n := 9) (S := fun W => W.cell? ⟨g7, 0, none⟩ = some (.int .u8 kd) ∧ W.cell? ⟨g7, 1, none⟩ = some (.int .u32 xd) ∧ W.cell? ⟨g7, 2, none⟩ = some (.int .u32 0) ∧ W.cell? ⟨g7, 3, none⟩ = some (.int .u32 0) ∧ W.cell? ⟨g7, 4, none⟩ = some (.int .u32 0) ∧ W.cell? ⟨g7, 5, none⟩ = some (.int .i64 0) ∧ W.cell? ⟨g7, 6, none⟩ = some (.int .u32 0) ∧ W.cell? ⟨g7, 7, none⟩ = some (.slice none 0 0) ∧ W.cell? ⟨g7, 8, none⟩ = some (.int .i64 0) ∧ W.cell? ⟨g7, 9, none⟩ = some (.bool false) ∧ W.cell? ⟨g7, 10, none⟩ = some (.slice none 0 0) ∧ W.cell? ⟨g4, 0, none⟩ = some (.bool true) ∧ W.cell? ⟨g1, 0, none⟩ = some (.slice A4 l2.length c4)) (ds := []) (bs_ 9 0) (by kernel_rfl) rfl rfl ⟨(blk_cell (blk_drew HM.out) 0).trans rfl, (blk_cell (blk_drew HM.out) 1).trans rfl, (blk_cell (blk_drew HM.out) 2).trans rfl, (blk_cell (blk_drew HM.out) 3).trans rfl, (blk_cell (blk_drew HM.out) 4).trans rfl, (blk_cell (blk_drew HM.out) 5).trans rfl, (blk_cell (blk_drew HM.out) 6).trans rfl, (blk_cell (blk_drew HM.out) 7).trans rfl, (blk_cell (blk_drew HM.out) 8).trans rfl, (blk_cell (blk_drew HM.out) 9).trans rfl, (blk_cell (blk_drew HM.out) 10).trans rfl, (blk_cell (blk_drew HRS5.out.ts.flag) 0).trans rfl, (blk_cell (blk_drew HRS5.out.ts.row) 0).trans rfl⟩ (fun hHeld => ?_)
  refine tk_ 0 108 ?_
  refine tk_ 1 109 ?_
  refine pk_ 2 110 ?_
  refine tk_ 3 111 ?_
  refine pk_ 4 112 ?_
  refine pk_ 5 113 ?_
  refine pk_ 6 114 ?_
  refine one_ (i := 7) (N := none) (bs_ 9 255) rfl rfl (by kernel_rfl) (by decide) (fun K hK => ?_)
  refine write_step (by rfl) rfl rfl [.int .u8 kd, .int .u32 xd, .int .u32 0, .int .u32 0, .int .u32 0, .int .i64 0, .int .u32 0, .slice none 0 0, .int .i64 0, .bool false, .slice none 0 0] (g := g2) (o' := 0) (cs' := #[.int .u8 kd, .int .u32 xd, .int .u32 0, .int .u32 0, .int .u32 0, .int .i64 0, .int .u32 0, .slice none 0 0, .int .i64 0, .bool false, .slice none 0 0]) rfl rfl rfl rfl (by simp [Value.oneCell']) (blk_drew HRS5.out.res) (by simp) rfl ?_
  intro w7 hw7 ho7
  have HM7 := m_ (ho7.blk (by have := HG.out.n2; have := HG.out.n4; have := HG7.out; omega) (blk_drew HM.out))
  have HF7 := m_ (ho7.blk (by have := HG.out.n2; have := HG.out.n14; omega) (blk_drew HRS5.out.ts.flag))
  have HR7 := m_ (ho7.blk (by have := HG.out.n2; have := HG.out.n14; omega) (blk_drew HRS5.out.ts.row))
  have HW7 := m_ hw7
  have HO7 := m_ ho7
  have HB7 := m_ (ho7.below (below_drew1 HRS5.out.bel) (by have := HG.out.n1; have := HG.out.n14; omega))
  clear hw7 ho7
  refine hK.out _ _ ⟨(blk_cell HM7.out 0).trans rfl, (blk_cell HM7.out 1).trans rfl, (blk_cell HM7.out 2).trans rfl, (blk_cell HM7.out 3).trans rfl, (blk_cell HM7.out 4).trans rfl, (blk_cell HM7.out 5).trans rfl, (blk_cell HM7.out 6).trans rfl, (blk_cell HM7.out 7).trans rfl, (blk_cell HM7.out 8).trans rfl, (blk_cell HM7.out 9).trans rfl, (blk_cell HM7.out 10).trans rfl, (blk_cell HF7.out 0).trans rfl, (blk_cell HR7.out 0).trans rfl⟩ (fun _ => ?_)
  clear hK K
  refine pk_ 8 3 ?_
  refine done_ (by kernel_rfl) ?_
  go_wp2
  refine bodyPost_ret (results_ct rfl _ _ g2 29 #[.int .u8 kd, .int .u32 xd, .int .u32 0, .int .u32 0, .int .u32 0, .int .i64 0, .int .u32 0, .slice none 0 0, .int .i64 0, .bool false, .slice none 0 0] (0, 0) _ rfl HW7.out Try.underlying29 rfl (by kernel_rfl)) rfl ?_
  exact ⟨_, _, rfl, Kd.R_nil _ _ _ _ _, Kd.V_nil _ _ _ _ _, HB7.out⟩
 | false =>
  refine start_ (n := 9) (S := fun W => W.cell? ⟨g7, 0, none⟩ = some (.int .u8 kd) ∧ W.cell? ⟨g7, 1, none⟩ = some (.int .u32 xd) ∧ W.cell? ⟨g7, 2, none⟩ = some (.int .u32 0) ∧ W.cell? ⟨g7, 3, none⟩ = some (.int .u32 0) ∧ W.cell? ⟨g7, 4, none⟩ = some (.int .u32 0) ∧ W.cell? ⟨g7, 5, none⟩ = some (.int .i64 0) ∧ W.cell? ⟨g7, 6, none⟩ = some (.int .u32 0) ∧ W.cell? ⟨g7, 7, none⟩ = some (.slice none 0 0) ∧ W.cell? ⟨g7, 8, none⟩ = some (.int .i64 0) ∧ W.cell? ⟨g7, 9, none⟩ = some (.bool false) ∧ W.cell? ⟨g7, 10, none⟩ = some (.slice none 0 0) ∧ W.cell? ⟨g4, 0, none⟩ = some (.bool false) ∧ W.cell? ⟨g1, 0, none⟩ = some (.slice A4 l2.length c4)) (ds := []) (bs_ 9 0) (by kernel_rfl) rfl rfl ⟨(blk_cell (blk_drew HM.out) 0).trans rfl, (blk_cell (blk_drew HM.out) 1).trans rfl, (blk_cell (blk_drew HM.out) 2).trans rfl, (blk_cell (blk_drew HM.out) 3).trans rfl, (blk_cell (blk_drew HM.out) 4).trans rfl, (blk_cell (blk_drew HM.out) 5).trans rfl, (blk_cell (blk_drew HM.out) 6).trans rfl, (blk_cell (blk_drew HM.out) 7).trans rfl, (blk_cell (blk_drew HM.out) 8).trans rfl, (blk_cell (blk_drew HM.out) 9).trans rfl, (blk_cell (blk_drew HM.out) 10).trans rfl, (blk_cell (blk_drew HRS5.out.ts.flag) 0).trans rfl, (blk_cell (blk_drew HRS5.out.ts.row) 0).trans rfl⟩ (fun hHeld => ?_)
  refine tk_ 0 108 ?_
  refine tk_ 1 109 ?_
  refine pk_ 2 110 ?_
  refine pk_ 3 111 ?_
  refine pk_ 4 112 ?_
  refine pk_ 5 113 ?_
  refine pk_ 6 114 ?_
  refine one_ (i := 7) (N := none) (bs_ 9 255) rfl rfl (by kernel_rfl) (by decide) (fun K hK => ?_)
  refine write_step (by rfl) rfl rfl [.int .u8 kd, .int .u32 xd, .int .u32 0, .int .u32 0, .int .u32 0, .int .i64 0, .int .u32 0, .slice none 0 0, .int .i64 0, .bool false, .slice none 0 0] (g := g2) (o' := 0) (cs' := #[.int .u8 kd, .int .u32 xd, .int .u32 0, .int .u32 0, .int .u32 0, .int .i64 0, .int .u32 0, .slice none 0 0, .int .i64 0, .bool false, .slice none 0 0]) rfl rfl rfl rfl (by simp [Value.oneCell']) (blk_drew HRS5.out.res) (by simp) rfl ?_
  intro w7 hw7 ho7
  have HM7 := m_ (ho7.blk (by have := HG.out.n2; have := HG.out.n4; have := HG7.out; omega) (blk_drew HM.out))
  have HF7 := m_ (ho7.blk (by have := HG.out.n2; have := HG.out.n14; omega) (blk_drew HRS5.out.ts.flag))
  have HR7 := m_ (ho7.blk (by have := HG.out.n2; have := HG.out.n14; omega) (blk_drew HRS5.out.ts.row))
  have HW7 := m_ hw7
  have HO7 := m_ ho7
  have HB7 := m_ (ho7.below (below_drew1 HRS5.out.bel) (by have := HG.out.n1; have := HG.out.n14; omega))
  clear hw7 ho7
  refine hK.out _ _ ⟨(blk_cell HM7.out 0).trans rfl, (blk_cell HM7.out 1).trans rfl, (blk_cell HM7.out 2).trans rfl, (blk_cell HM7.out 3).trans rfl, (blk_cell HM7.out 4).trans rfl, (blk_cell HM7.out 5).trans rfl, (blk_cell HM7.out 6).trans rfl, (blk_cell HM7.out 7).trans rfl, (blk_cell HM7.out 8).trans rfl, (blk_cell HM7.out 9).trans rfl, (blk_cell HM7.out 10).trans rfl, (blk_cell HF7.out 0).trans rfl, (blk_cell HR7.out 0).trans rfl⟩ (fun _ => ?_)
  clear hK K
  refine pk_ 8 3 ?_
  refine done_ (by kernel_rfl) ?_
  go_wp2
  refine bodyPost_ret (results_ct rfl _ _ g2 29 #[.int .u8 kd, .int .u32 xd, .int .u32 0, .int .u32 0, .int .u32 0, .int .i64 0, .int .u32 0, .slice none 0 0, .int .i64 0, .bool false, .slice none 0 0] (0, 0) _ rfl HW7.out Try.underlying29 rfl (by kernel_rfl)) rfl ?_
  exact ⟨_, _, rfl, Kd.R_nil _ _ _ _ _, Kd.V_nil _ _ _ _ _, HB7.out⟩
end Go.Proofs.Ytboonfidioombaa.P

/- For each Go function a Lean function, and the proof that a call comes to what it tells: made by program out of the translation (the kit's print, with texts by hand put in). No condition. -/
import Derived.Test.YtkcphjdjhlikhaaSq
import Derived.Test.YtkcphjdjhlikhaaPx0
namespace Go.Proofs.Ytkcphjdjhlikhaa.P
open Go.RowKit Go.Proofs.Ytkcphjdjhlikhaa.HRows Go.Proofs.YtkcphjdjhlikhaaW.PrintWords Go.Proofs.YtkcphjdjhlikhaaW.PrintLast Go.Proofs.YtkcphjdjhlikhaaW.PrintMore
attribute [local go_sem] max2_int min2_int max_two min_two max_three min_three max_four min_four   -- for this text's walks alone
set_option linter.unusedVariables false
set_option linter.unusedSimpArgs false

/-! ### bits_Mul32: function 66 -/
def bits_Mul32.f (a0 : Int) (a1 : Int) : Option (Int × Int) := some (((IntKind.u64.wrap ((IntKind.u64.wrap (a0)) * (IntKind.u64.wrap (a1)))) / 4294967296) % 4294967296, (IntKind.u64.wrap ((IntKind.u64.wrap (a0)) * (IntKind.u64.wrap (a1)))) % 4294967296)
set_option maxHeartbeats 8000000 in
set_option maxRecDepth 100000 in
theorem bits_Mul32.calls (a0 : Int) (a1 : Int) (r1 : Int) (r2 : Int) (w : World) (h : bits_Mul32.f a0 a1 = some (r1, r2)) :
  Calls Try.prog 66 #[.int .u32 a0, .int .u32 a1] w fun e w' => e = .returned (.tuple #[.int .u32 r1, .int .u32 r2]) ∧ Drawn0 w w' := by
 have H : (some (((IntKind.u64.wrap ((IntKind.u64.wrap (a0)) * (IntKind.u64.wrap (a1)))) / 4294967296) % 4294967296, (IntKind.u64.wrap ((IntKind.u64.wrap (a0)) * (IntKind.u64.wrap (a1)))) % 4294967296)) = some (r1, r2) := h
 clear h
 simp only [Option.some.injEq, Prod.mk.injEq] at H
 obtain ⟨rfl, rfl⟩ := H
 go_enter Try.func66, Try.ntmps66
 go_wp2
 go_ret2
 exact ⟨(by first | rfl | (simp; done) | (simp [*]; done)), (by repeat (first | exact Drawn0.refl _ | apply Drawn0.step))⟩

/-! ### bits_Mul64: function 67 -/
def bits_Mul64.f (a0 : Int) (a1 : Int) : Option (Int × Int) := some (IntKind.u64.wrap ((IntKind.u64.wrap ((IntKind.u64.wrap ((a0 / 4294967296) * (a1 / 4294967296))) + ((IntKind.u64.wrap ((IntKind.u64.wrap ((a0 / 4294967296) * (Go.bits .and .u64 a1 4294967295))) + ((IntKind.u64.wrap ((Go.bits .and .u64 a0 4294967295) * (Go.bits .and .u64 a1 4294967295))) / 4294967296))) / 4294967296))) + ((IntKind.u64.wrap ((Go.bits .and .u64 (IntKind.u64.wrap ((IntKind.u64.wrap ((a0 / 4294967296) * (Go.bits .and .u64 a1 4294967295))) + ((IntKind.u64.wrap ((Go.bits .and .u64 a0 4294967295) * (Go.bits .and .u64 a1 4294967295))) / 4294967296))) 4294967295) + (IntKind.u64.wrap ((Go.bits .and .u64 a0 4294967295) * (a1 / 4294967296))))) / 4294967296)), IntKind.u64.wrap (a0 * a1))
set_option maxHeartbeats 8000000 in
set_option maxRecDepth 100000 in
theorem bits_Mul64.calls (a0 : Int) (a1 : Int) (r1 : Int) (r2 : Int) (w : World) (h : bits_Mul64.f a0 a1 = some (r1, r2)) :
  Calls Try.prog 67 #[.int .u64 a0, .int .u64 a1] w fun e w' => e = .returned (.tuple #[.int .u64 r1, .int .u64 r2]) ∧ Drawn0 w w' := by
 have H : (some (IntKind.u64.wrap ((IntKind.u64.wrap ((IntKind.u64.wrap ((a0 / 4294967296) * (a1 / 4294967296))) + ((IntKind.u64.wrap ((IntKind.u64.wrap ((a0 / 4294967296) * (Go.bits .and .u64 a1 4294967295))) + ((IntKind.u64.wrap ((Go.bits .and .u64 a0 4294967295) * (Go.bits .and .u64 a1 4294967295))) / 4294967296))) / 4294967296))) + ((IntKind.u64.wrap ((Go.bits .and .u64 (IntKind.u64.wrap ((IntKind.u64.wrap ((a0 / 4294967296) * (Go.bits .and .u64 a1 4294967295))) + ((IntKind.u64.wrap ((Go.bits .and .u64 a0 4294967295) * (Go.bits .and .u64 a1 4294967295))) / 4294967296))) 4294967295) + (IntKind.u64.wrap ((Go.bits .and .u64 a0 4294967295) * (a1 / 4294967296))))) / 4294967296)), IntKind.u64.wrap (a0 * a1))) = some (r1, r2) := h
 clear h
 simp only [Option.some.injEq, Prod.mk.injEq] at H
 obtain ⟨rfl, rfl⟩ := H
 go_enter Try.func67, Try.ntmps67
 go_wp2
 go_ret2
 exact ⟨(by first | rfl | (simp; done) | (simp [*]; done)), (by repeat (first | exact Drawn0.refl _ | apply Drawn0.step))⟩

/-! ### bits_Mul: function 50 -/
def bits_Mul.f (a0 : Int) (a1 : Int) : Option (Int × Int) := (bits_Mul64.f a0 a1).bind fun bt101 => (some (bt101.1, bt101.2))
set_option maxHeartbeats 8000000 in
set_option maxRecDepth 100000 in
theorem bits_Mul.calls (a0 : Int) (a1 : Int) (r1 : Int) (r2 : Int) (w : World) (h : bits_Mul.f a0 a1 = some (r1, r2)) :
  Calls Try.prog 50 #[.int .u64 a0, .int .u64 a1] w fun e w' => e = .returned (.tuple #[.int .u64 r1, .int .u64 r2]) ∧ Drawn0 w w' := by
 have H : ((bits_Mul64.f a0 a1).bind fun bt101 => (some (bt101.1, bt101.2))) = some (r1, r2) := h
 clear h
 replace H := Option.bind_eq_some_iff.mp H
 obtain ⟨⟨t101, t102⟩, A30, H⟩ := H
 replace H : (some (t101, t102)) = some (r1, r2) := H
 have A3 := m_ A30
 clear A30
 simp only [Option.some.injEq, Prod.mk.injEq] at H
 obtain ⟨rfl, rfl⟩ := H
 go_enter Try.func50, Try.ntmps50
 go_wp2_with (first | ((with_reducible refine gate_callee (f := 67) rfl ?_); refine gL_ (some 25) Try.func67 #[.int .u64 a0, .int .u64 a1] ?_; (with_reducible refine (bits_Mul64.calls a0 a1 t101 t102 _ A3.out).mono ?_); rintro e w' ⟨rfl, ⟨nd, rfl⟩⟩; refine ⟨_, rfl, ?_⟩))
 go_ret2
 exact ⟨(by first | rfl | (simp; done) | (simp [*]; done)), (by repeat (first | exact Drawn0.refl _ | apply Drawn0.step))⟩

/-! ### slices_Repeat_int_int: function 41, by hand (slices.Repeat.int.lean.tpl) -/
def slices_Repeat_int_int.f (l0 : List Int) (a1 : Int) : Option (List Int) := if l0.length = 1 ∧ 0 ≤ a1 ∧ a1 ≤ 1000 then some (List.replicate a1.toNat (l0.getD 0 0)) else none
/-- The new row, n of its cells laid. -/
def repV (n m : Nat) (x : Int) : Array Value := (List.replicate n (Value.int .i64 x) ++ List.replicate (m - n) (Value.int .i64 0)).toArray
theorem repV_size (n m : Nat) (x : Int) (h : n ≤ m) : (repV n m x).size = m := by unfold repV; simp; omega
theorem repV_cell {n m : Nat} {x : Int} {W : World} {g : Nat} {t : TypeId} (h : W.heap[g]? = some (.cells (repV n m x) t (0, 0))) (j : Nat) (hj : j < n) : W.cell? ⟨g, j, none⟩ = some (.int .i64 x) := by
 rw [blk_cell h j]
 unfold repV
 rw [List.getElem?_toArray, List.getElem?_append_left (by simpa using hj), List.getElem?_replicate, if_pos hj]
theorem repV_put (n m k : Nat) (x : Int) (h : n + k ≤ m) : (repV (n + k) m x).toList = (repV n m x).toList.take n ++ List.replicate k (Value.int .i64 x) ++ (repV n m x).toList.drop (n + (List.replicate k (Value.int .i64 x)).length) := by
 unfold repV
 simp only [List.length_replicate]
 rw [List.take_append_of_le_length (by simp), List.take_of_length_le (by simp), List.drop_append, List.length_replicate, List.drop_of_length_le (by simp), List.nil_append, List.drop_replicate, ← List.replicate_append_replicate]
 congr 2
 omega
theorem copy_K {P : Program} {W : World} {ops : Array Oper} {o : Oper} {a : Act} {Q : Exit → Act → World → Prop} {K : Act → World → Prop} {X : Prop} (hw : Region.wanted o (yielded ops a.tmps) = true) (N : Tmp) (hN : o.dst = some N) (d s : Operand) (dT sT : TypeId)
 (ho : o.op = .call { callee := .builtin .copy, args := #[d, s], argTypes := #[dT, sT] }) (elem : TypeId) (sz : Nat) (hu : P.underlying dT = some (.slice elem)) (hs : (P.info? elem).map (·.size) = some sz)
 (dp sp : Option Addr) (dLen dCap sLen sCap : Nat) (hd : a.eval d = .slice dp dLen dCap) (hx : a.eval s = .slice sp sLen sCap)
 (g off : Nat) (cur : Array Value) (t : TypeId) (hg : W.heap[g]? = some (.cells cur t (0, 0))) (cs : List Value) (hn : cs.length = Nat.min sLen dLen * sz)
 (hpos : 0 < Nat.min sLen dLen → dp = some ⟨g, off, none⟩ ∧ ∃ ad, sp = some ad ∧ ∀ j v, cs[j]? = some v → W.cell? (ad.add j) = some v)
 (hfit : off + cs.length ≤ cur.size) (h1 : ∀ v ∈ cs, v.oneCell' = true) (cur' : Array Value) (hcur : cur'.toList = cur.toList.take off ++ cs ++ cur.toList.drop (off + cs.length))
 (h : ∀ W', W'.heap[g]? = some (.cells cur' t (0, 0)) → Only g W W' → K (a.put (some N) (goInt (Nat.min sLen dLen))) W') : if Region.wanted o (yielded ops a.tmps) = true then Oper.wp P o a W K Q else X := by
 rw [if_pos hw]
 obtain ⟨W', hr, h2, h3⟩ := copy_rows_run (P := P) d s dT sT ho elem sz hu hs dp sp dLen dCap sLen sCap hd hx g off cur t hg cs hn hpos hfit h1 cur' hcur
 unfold Oper.wp
 rw [hr]
 show K (a.put o.dst _) W'
 rw [hN]
 exact h W' h2 h3
theorem mul_one_ : ∀ m : Fin 1001, bits_Mul.f 1 (m.val : Int) = some (0, (m.val : Int)) := by decide +kernel
set_option maxHeartbeats 4000000 in
set_option maxRecDepth 100000 in
theorem slices_Repeat_int_int.calls (A0 : Option Addr) (c0 : Nat) (l0 : List Int) (a1 : Int) (r : List Int) (w : World) (hr0 : Kd.C (Kd.int .i64) w A0 l0.length l0) (hc0 : l0.length ≤ c0) (h : slices_Repeat_int_int.f l0 a1 = some r) :
  Calls Try.prog 41 #[.slice A0 l0.length c0, .int .i64 a1] w fun e w' => ∃ v0_ : Value, e = .returned (v0_) ∧ Kd.R (Kd.int .i64) 3 w' w.heap.size (fun _ => True) v0_ r ∧ Below w.heap.size w w' := by
 unfold slices_Repeat_int_int.f at h
 split at h
 case isFalse => cases h
 case isTrue hb =>
 obtain ⟨h1, h2, h3⟩ := hb
 obtain rfl := Option.some.inj h
 clear h
 match l0, h1 with
 | [x], _ =>
 obtain ⟨m, rfl⟩ : ∃ m : Nat, a1 = m := ⟨a1.toNat, by omega⟩
 obtain ⟨ad, rfl, e0⟩ : ∃ ad, A0 = some ad ∧ w.cell? ad = some (.int .i64 x) := by
  obtain ⟨ad, c, e, _, hK, hc⟩ := Kd.C_get hr0 0 0 (by decide) (by simp)
  obtain rfl : c = [.int .i64 x] := hK
  have hc0 := hc 0 _ rfl
  exact ⟨ad, e, (by rwa [show ad.add ((0 : Int).toNat * (Kd.int .i64).sz + 0) = ad from rfl] at hc0)⟩
 have HM := m_ (show m ≤ 1000 by omega)
 have HC := m_ e0
 clear hr0 e0 h2 h3
 rw [Int.toNat_natCast, List.getD_cons_zero]
 go_enter Try.func41, Try.ntmps41
 have hneg : decide ((m : Int) < 0) = false := decide_eq_false (by omega)
 have hmw : IntKind.u64.wrap (m : Int) = m := by
  have := HM.out
  rw [IntKind.wrap_u64]
  omega
 go_wp2_with (go_at_call 50; refine Stop0.out ?_)
 refine ⟨?_⟩
 refine (bits_Mul.calls 1 m 0 m w (mul_one_ ⟨m, by have := HM.out; omega⟩)).mono ?_
 rintro e w1 ⟨rfl, ⟨nd, rfl⟩⟩
 have HB := m_ (pw_below_drewN (Below.refl w.heap.size w) nd)
 clear hneg hmw
 have hp : decide ((0 : Int) > 0) = false := rfl
 have hp2 : decide ((m : Int) > 9223372036854775807) = false := decide_eq_false (by have := HM.out; omega)
 have hw2 : wrap64 (m : Int) = m := by have := HM.out; unfold wrap64; omega
 obtain ⟨i0, hi0, hz0⟩ := Option.map_eq_some_iff.1 info3
 simp only [Prod.mk.injEq] at hz0
 obtain ⟨hz, hsz, hby⟩ := hz0
 have hmk : ∀ W : World, (Instr.makeSlice 25 (.int .i64 (m : Int)) (.int .i64 (m : Int))).run Try.prog W = .ok (.slice (some ⟨W.heap.size, 0, none⟩) m m) (W.alloc (.cells (repV 0 m 0) 3)) := by
  intro W
  have hl2 := HM.out
  have := run_make W 25 3 i0 _ Try.underlying25 hi0 hz .i64 .i64 (m : Int) (m : Int) (by omega) (by omega) (by rw [hby]; omega) (by omega)
  rw [hsz, show ((m : Int)).toNat = m from by omega, Nat.mul_one] at this
  rw [this, show madeCells (Value.int .i64 0).cells m = repV 0 m 0 from Array.toList_inj.1 (by rw [show (Value.int .i64 0).cells = #[Value.int .i64 0] from rfl, toList_madeCells_one]; rfl)]
 go_wp2_with ((with_reducible refine gate_builtin (b := .copy) (xs := #[.tmp 31, .tmp 32]) rfl ?_); refine Stop0.out ?_)
 refine ⟨?_⟩
 have hw1 : (w.drewN nd).cell? ad = some (.int .i64 x) := HC.out
 have hblk : ((w.drewN nd).alloc (.cells (repV 0 m 0) 3)).heap[w.heap.size]? = some (.cells (repV 0 m 0) 3 (0, 0)) := blk_new (w.drewN nd) (.cells (repV 0 m 0) 3)
 have hbel := below_alloc HB.out (.cells (repV 0 m 0) 3)
 have had : ((w.drewN nd).alloc (.cells (repV 0 m 0) 3)).cell? ad = some (.int .i64 x) := (World.cell?_alloc_some _ _ _ (by rw [hw1]; rfl)).trans hw1
 have hgw : w.heap.size ≤ w.heap.size := Nat.le_refl _
 generalize (w.drewN nd).alloc (.cells (repV 0 m 0) 3) = w2 at hblk hbel had ⊢
 have HG := m_ hgw
 have HB2 := m_ hbel
 clear hw1 hmk HB HC hgw hbel
 have h00 : repV 0 m x = repV 0 m 0 := by unfold repV; simp
 rw [← h00] at hblk
 have hn1 : Nat.min 1 m ≤ 1 := Nat.min_le_left 1 m
 have hn2 : Nat.min 1 m ≤ m := Nat.min_le_right 1 m
 have hn3 : 0 < Nat.min 1 m ∨ m = 0 := by
  cases m with
  | zero => exact .inr rfl
  | succ m => exact .inl (Nat.lt_min.2 ⟨by omega, by omega⟩)
 have hgi : goInt (Nat.min 1 m) = .int .i64 (Nat.min 1 m : Nat) := rfl
 refine wpList_copy_rows rfl (.tmp 31) (.tmp 32) 25 25 rfl 3 1 Try.underlying25 (by rw [hi0]; exact congrArg some hsz) (some ⟨w.heap.size, 0, none⟩) (some ad) m m 1 c0 rfl rfl w.heap.size 0 (repV 0 m x) 3 hblk (List.replicate (Nat.min 1 m) (.int .i64 x)) (by simp) ?c1 (by rw [repV_size _ _ _ (Nat.zero_le _), List.length_replicate, Nat.zero_add]; exact Nat.min_le_right _ _) (by intro v hv; rw [List.eq_of_mem_replicate hv]; rfl) (repV (Nat.min 1 m) m x) ?c2 ?_
 case c1 =>
  intro h
  refine ⟨rfl, ad, rfl, fun j v hj => ?_⟩
  have hj2 := List.getElem?_eq_some_iff.1 hj
  obtain ⟨hj3, hj4⟩ := hj2
  rw [List.length_replicate] at hj3
  obtain rfl : j = 0 := by omega
  rw [List.getElem_replicate] at hj4
  rw [← hj4]
  exact had
 case c2 =>
  have := repV_put 0 m (Nat.min 1 m) x (by omega)
  rw [Nat.zero_add] at this
  exact this
 intro w3 hblk3 on
 have HI := m_ (And.intro hi0 hsz)
 have HK3 := m_ hblk3
 have HB3 := m_ (on.below HB2.out HG.out)
 have HM1 := m_ (And.intro hn2 hn3)
 clear hblk had on hblk3 HB2 hp hp2 hw2 h00
 rw [hgi]
 clear hn1 hn2 hn3
 generalize Nat.min 1 m = n0 at HK3 HM1 ⊢
 clear hi0 hz hsz hby hgi
 go_wp2
 go_loopg [8] m (fun q s8 wr => ∃ n : Nat, (n ≤ m ∧ (0 < n ∨ m = 0)) ∧ m - n ≤ q ∧ s8 = .int .i64 n ∧ Aside0 (wr.heap[w.heap.size]? = some (.cells (repV n m x) 3 (0, 0))) ∧ Aside0 (Below w.heap.size w wr))
 case atStart => exact ⟨n0, HM1.out, by omega, rfl, HK3, HB3⟩
 case round =>
  obtain ⟨n, hn, hq, rfl, HK, HB⟩ := hrel
  have hm := HM.out
  by_cases hlt : n < m
  ·have hlt' : (n : Int) < (m : Int) := by omega
   have hcf := cut_from (P := Try.prog) 25 3 .i64 Try.underlying25 HI.out.1 1 HI.out.2 (some ⟨w.heap.size, 0, none⟩) m m (n : Int) (by omega) (by omega)
   have hct := cut_to (P := Try.prog) 25 3 .i64 Try.underlying25 HI.out.1 (some ⟨w.heap.size, 0, none⟩) m m (n : Int) (by omega) (by omega) (Nat.le_refl _)
   rw [Int.toNat_natCast, if_neg (by omega), Nat.mul_one] at hcf
   rw [Int.toNat_natCast] at hct
   have hng : ¬ ((m : Int) < (n : Int)) := by omega
   go_upto_region 9 with (fail)
   (try simp only [Act.put, List.setIfInBounds_toArray, List.set_cons_zero, List.set_cons_succ])
   refine start_ (n := 10) (S := fun _ => True) (ds := []) (bs_ 10 0) (by kernel_rfl) rfl rfl trivial (fun hHeld => ?_)
   refine pk_ 0 38 ?_
   refine pk_ 1 39 ?_
   refine pk_ 2 40 ?_
   refine pk_ 3 41 (v := .slice (some ((⟨w.heap.size, 0, none⟩ : Addr).add n)) (m - n) (m - n)) (hy := Or.inl ⟨by rfl, by intro w'; go_simp⟩) ?_
   refine pk_ 4 42 ?_
   refine pk_ 5 43 ?_
   refine pk_ 6 44 (v := .slice (some ⟨w.heap.size, 0, none⟩) n m) (hy := Or.inl ⟨by rfl, by intro w'; go_simp⟩) ?_
   refine one_ (i := 7) (N := some 45) (bs_ 10 (0 + 2 ^ 0 + 2 ^ 1 + 2 ^ 2 + 2 ^ 3 + 2 ^ 4 + 2 ^ 5 + 2 ^ 6 + 2 ^ 7)) rfl rfl (by kernel_rfl) (by decide) (fun K hK => ?_)
   obtain ⟨k, hk⟩ : ∃ k, Nat.min n (m - n) = k := ⟨_, rfl⟩
   have hk1 : k ≤ n ∧ k ≤ m - n ∧ 0 < k := by
    rw [← hk]
    exact ⟨Nat.min_le_left _ _, Nat.min_le_right _ _, Nat.lt_min.2 ⟨by omega, by omega⟩⟩
   have hadd : ((⟨w.heap.size, 0, none⟩ : Addr).add n) = ⟨w.heap.size, n, none⟩ := by unfold Addr.add; split <;> simp_all
   refine copy_K (by rfl) 45 rfl (.tmp 41) (.tmp 44) 25 25 rfl 3 1 Try.underlying25 (by rw [HI.out.1]; exact congrArg some HI.out.2) (some ((⟨w.heap.size, 0, none⟩ : Addr).add n)) (some ⟨w.heap.size, 0, none⟩) (m - n) (m - n) n m rfl rfl w.heap.size n (repV n m x) 3 (blk_drew HK.out) (List.replicate k (.int .i64 x)) (by rw [hk]; simp) (by
    rw [hk, hadd]
    intro _
    refine ⟨rfl, _, rfl, fun j v hj => ?_⟩
    obtain ⟨hj3, hj4⟩ := List.getElem?_eq_some_iff.1 hj
    rw [List.length_replicate] at hj3
    rw [List.getElem_replicate] at hj4
    rw [← hj4, show ((⟨w.heap.size, 0, none⟩ : Addr).add j) = ⟨w.heap.size, j, none⟩ from by unfold Addr.add; split <;> simp_all]
    exact repV_cell (blk_drew HK.out) j (by omega)) (by rw [repV_size _ _ _ hn.1, List.length_replicate]; omega) (by intro v hv; rw [List.eq_of_mem_replicate hv]; rfl) (repV (n + k) m x) (repV_put n m k x (by omega)) ?_
   intro W' h2 h3
   rw [hk]
   refine hK.out _ _ trivial (fun hHeld => ?_)
   clear hK K
   have HK2 := m_ h2
   have HB2 := m_ (h3.below (below_drew1 HB.out) (Nat.le_refl _))
   have HN := m_ hk1
   clear h2 h3 hk hk1 hadd hcf hct hng
   rw [show goInt (k : Nat) = .int .i64 (k : Nat) from rfl]
   have hsum : IntKind.i64.wrap ((n : Int) + (k : Int)) = (n : Int) + (k : Int) := by have := HN.out; rw [IntKind.wrap_i64]; omega
   refine pk_ 8 46 (v := .int .i64 ((n : Int) + (k : Int))) (hy := Or.inl ⟨by rfl, by intro w'; go_simp⟩) ?_
   refine pk_ 9 8 ?_
   refine done_ (by kernel_rfl) ?_
   (try simp only [Exit.inBlock, Exit.then])
   go_wp2
   go_roundg (m - (n + k))
   case measure => have := HN.out; omega
   case rel => exact ⟨n + k, (by have := HN.out; omega), by omega, by go_num, HK2, HB2⟩
  ·obtain rfl : n = m := by omega
   have hlt' : ¬ ((n : Int) < (n : Int)) := by omega
   go_wp2
   go_ret
   refine ⟨_, rfl, ?_, HB.out⟩
   have hin : (encs (Value.int .i64) (List.replicate n x)) = (repV n n x).toList.take ((List.replicate n x).length * 1) := by
    unfold repV encs
    simp
   rw [show (Value.slice (some ⟨w.heap.size, 0, none⟩) n n) = .slice (some ⟨w.heap.size, 0, none⟩) (List.replicate n x).length n from by rw [List.length_replicate]]
   exact Kd.R_of_own (enc := Value.int .i64) ⟨by simp [encs], .inr ⟨w.heap.size, n, repV n n x, rfl, Nat.le_refl _, HK.out, by simp, by have := HM.out; simp only [maxLen]; omega, by rw [repV_size _ _ _ (Nat.le_refl _), Nat.mul_one], hin.symm⟩⟩ (fun _ _ => trivial)

end Go.Proofs.Ytkcphjdjhlikhaa.P

/- For each Go function a Lean function, and the proof that a call comes to what it tells: made by program out of the translation (the kit's print, with texts by hand put in). No condition. -/
import Derived.Test.YtboonfidioombaaSq
import Derived.Test.YtboonfidioombaaPx0
import Derived.Test.YtboonfidioombaaPx15
import Derived.Test.YtboonfidioombaaPx27
namespace Go.Proofs.Ytboonfidioombaa.P
open Go.RowKit Go.Proofs.Ytboonfidioombaa.HRows Go.Proofs.YtboonfidioombaaW.PrintWords Go.Proofs.YtboonfidioombaaW.PrintLast Go.Proofs.YtboonfidioombaaW.PrintMore
attribute [local go_sem] max2_int min2_int max_two min_two max_three min_three max_four min_four
set_option linter.unusedVariables false
set_option linter.unusedSimpArgs false
def vstep (v x : Int) : Int := (((v * 256) % 4294967296) + (x % 4294967296)) % 4294967296
/-- The number of n bytes from i on. -/
def valP (l : List Int) (i n : Nat) : Int := ((l.drop i).take n).foldl vstep 0
theorem val_loop (l : List Int) (a b : Int) (e : Nat) (he : wrap64 (a + b) = e) (hl : e ≤ l.length) (h3 : l.length ≤ 1000000) : ∀ (n i k : Nat) (v : Int), i + n = e → n < k → stolonref16_value.l0 k l a b v i = some (((l.drop i).take n).foldl vstep v) := by
  intro n
  induction n with
  | zero =>
    intro i k v hi hk
    obtain ⟨k, rfl⟩ : ∃ j, k = j + 1 := ⟨k - 1, by omega⟩
    rw [stolonref16_value.l0, he, if_neg (by omega)]
    rfl
  | succ n ih =>
    intro i k v hi hk
    obtain ⟨k, rfl⟩ : ∃ j, k = j + 1 := ⟨k - 1, by omega⟩
    have hlt : i < l.length := by omega
    have := ih (i + 1) k (vstep v (l[i]'hlt)) (by omega) (by omega)
    rw [Int.natCast_add] at this
    have hr : rd l (i : Int) = l[i]'hlt := by
      unfold rd
      rw [Int.toNat_natCast, List.getD_eq_getElem?_getD, List.getElem?_eq_getElem hlt, Option.getD_some]
    have hw : wrap64 ((i : Int) + 1) = (i : Int) + ((1 : Nat) : Int) := by unfold wrap64; omega
    rw [stolonref16_value.l0, he, if_pos (by omega), if_pos (by omega), if_pos (by omega), hr, hw, List.drop_eq_getElem_cons hlt]
    exact this
theorem val_ok (l : List Int) (i n k : Nat) (h : i + n ≤ l.length) (h3 : l.length ≤ 1000000) (hk : n < k) : stolonref16_value.f k l i n = some (valP l i n) := by
  unfold stolonref16_value.f valP
  exact val_loop l i n (i + n) (by unfold wrap64; omega) (by omega) h3 n i k 0 (by omega) hk
theorem val_range (l : List Int) (i n : Nat) : 0 ≤ valP l i n ∧ valP l i n ≤ 4294967295 := by
  unfold valP
  generalize (l.drop i).take n = m
  have key : ∀ (m : List Int) (v : Int), (0 ≤ v ∧ v ≤ 4294967295) → 0 ≤ m.foldl vstep v ∧ m.foldl vstep v ≤ 4294967295 := by
    intro m
    induction m with
    | nil => exact fun v h => h
    | cons x m ih => exact fun v h => ih _ (by unfold vstep; omega)
  exact key m 0 (by omega)
theorem val_wrap (l : List Int) (i n : Nat) : wrap64 (valP l i n) = valP l i n := by
  have := val_range l i n
  unfold wrap64
  omega
def outsP (l : List Int) : List (S59) := l.map (fun x => ⟨wrap64 x, decide (x ≥ 64)⟩)
abbrev SeemsR := Int × Int × Int × Int × Int × Int × Int × List (S59) × Int × Bool × List Int × Bool
def seemsR (l : List Int) : SeemsR :=
  if rd l 2 = 1 ∨ rd l 2 = 2 then
    if l.length < 19 ∨ (rd l 2 = 1 ∧ l.length < 27) then (rd l 2, valP l 3 4, 0, 0, 0, 0, 0, [], 0, false, [], false)
    else if rd l 2 = 1 then (rd l 2, valP l 3 4, valP l 7 4, valP l 11 4, valP l 15 4, if valP l 19 2 = 65535 then -1 else valP l 19 2, valP l 21 4, outsP (l.drop 27), 0, false, [], true)
    else (rd l 2, valP l 3 4, valP l 7 4, valP l 11 4, valP l 15 4, 0, 0, [], 0, false, [], true)
  else if rd l 2 = 7 then
    if l.length < 9 then (rd l 2, valP l 3 4, 0, 0, 0, 0, 0, [], 0, false, [], false)
    else (rd l 2, valP l 3 4, 0, 0, 0, 0, 0, [], wrap64 (rd l 7), rd l 8 == 1, [], true)
  else if rd l 2 = 8 ∨ rd l 2 = 9 then
    if l.length < 8 then (rd l 2, valP l 3 4, 0, 0, 0, 0, 0, [], 0, false, [], false)
    else (rd l 2, valP l 3 4, 0, 0, 0, 0, 0, [], wrap64 (rd l 7), false, l.drop 8, true)
  else (rd l 2, valP l 3 4, 0, 0, 0, 0, 0, [], 0, false, [], true)
def stolonref16_seems.f (l : List Int) : Option SeemsR := if 7 ≤ l.length ∧ l.length ≤ 1000000 then some (seemsR l) else none
def stolonref16_seems.T1 : Bool × List (List Nat × List Nat) := (true, [([], []), ([0], [0]), ([1], [1]), ([], []), ([3], [3]), ([2, 4], [2, 4]), ([], []), ([6, 5, 4, 0, 1, 2, 3, 4, 5, 6], [5, 6])])
def stolonref16_seems.B1 : List Nat := [0, 1, 3, 0, 8, 31, 0, 127]
theorem stolonref16_seems.tab1 : rtab .any (opsOf Try.f39 1) = stolonref16_seems.T1 := by kernel_rfl
theorem stolonref16_seems.bits1 : waitsOk stolonref16_seems.T1.2 stolonref16_seems.B1 = true := by kernel_rfl
def stolonref16_seems.T16 : Bool × List (List Nat × List Nat) := (true, [([], []), ([0], [0]), ([1], [1]), ([], []), ([], []), ([3, 4], [3, 4]), ([5], [5]), ([6], [6]), ([], []), ([], []), ([8, 9], [8, 9]), ([10], [10]), ([11], [11]), ([7, 12], [7, 12]), ([13], [13]), ([2, 14], [2, 14]), ([0, 1, 2, 3, 4, 5, 6, 7, 8, 9, 10, 11, 12, 13, 14, 15], []), ([16, 0, 1, 2, 3, 4, 5, 6, 7, 8, 9, 10, 11, 12, 13, 14, 15], [16]), ([17, 15, 15, 0, 1, 2, 3, 4, 5, 6, 7, 8, 9, 10, 11, 12, 13, 14, 15], [15, 17])])
def stolonref16_seems.B16 : List Nat := [0, 1, 3, 0, 0, 24, 56, 120, 0, 0, 768, 1792, 3840, 8184, 16376, 32767, 65535, 131071, 262143]
theorem stolonref16_seems.tab16 : rtab .any (opsOf Try.f39 16) = stolonref16_seems.T16 := by kernel_rfl
theorem stolonref16_seems.bits16 : waitsOk stolonref16_seems.T16.2 stolonref16_seems.B16 = true := by kernel_rfl
/-- The two boxes of what is made: the result's, and the message's; and the bytes. -/
structure SM (w W : World) (g2 g4 : Nat) (ok : Nat → Prop) (A : Option Addr) (c : Nat) (l : List Int) (cs : Array Value) : Prop where
  res : W.heap[g2]? = some (.cells #[.int .u8 0, .int .u32 0, .int .u32 0, .int .u32 0, .int .u32 0, .int .i64 0, .int .u32 0, .slice none 0 0, .int .i64 0, .bool false, .slice none 0 0] 29 (0, 0))
  msg : W.heap[g4]? = some (.cells cs 29 (0, 0))
  row : Kd.V (Kd.int .u8) 5 W w.heap.size ok (.slice A l.length c) l
  bel : Below w.heap.size w W
structure SG (w : World) (g2 g4 : Nat) (ok P : Nat → Prop) : Prop where
  h2 : w.heap.size ≤ g2
  h4 : w.heap.size ≤ g4
  ne : g2 ≠ g4
  k2 : ∀ k, ok k → k ≠ g2
  k4 : ∀ k, ok k → k ≠ g4
  kp : ∀ k, ok k → P k
  kb : ∀ k, ok k → k < w.heap.size
theorem SM.drewN {w W : World} {g2 g4 : Nat} {ok : Nat → Prop} {A : Option Addr} {c : Nat} {l : List Int} {cs : Array Value} (h : SM w W g2 g4 ok A c l cs) (n : Nat) : SM w (W.drewN n) g2 g4 ok A c l cs := ⟨blk_drewN h.res n, blk_drewN h.msg n, Kd.V_drewN h.row n, pw_below_drewN h.bel n⟩
theorem SM.drew {w W : World} {g2 g4 : Nat} {ok : Nat → Prop} {A : Option Addr} {c : Nat} {l : List Int} {cs : Array Value} (h : SM w W g2 g4 ok A c l cs) : SM w W.drew g2 g4 ok A c l cs := ⟨blk_drew h.res, blk_drew h.msg, Kd.V_drew h.row, below_drew1 h.bel⟩
theorem SM.set {w W : World} {g2 g4 : Nat} {ok P : Nat → Prop} {A : Option Addr} {c : Nat} {l : List Int} {cs : Array Value} (h : SM w W g2 g4 ok A c l cs) (hg : SG w g2 g4 ok P) (j : Nat) (u : Value) (cs' : Array Value) (e : cs.setIfInBounds j u = cs') : SM w (W.setCell ⟨g4, j, none⟩ u) g2 g4 ok A c l cs' :=
  ⟨blk_away h.res hg.ne u, blk_put h.msg j u e, Kd.V_far h.row (fun k hk => hg.k4 k hk) u, below_set h.bel hg.h4⟩
theorem SM.at_ {w W : World} {g2 g4 : Nat} {ok : Nat → Prop} {ad : Addr} {c : Nat} {l : List Int} {cs : Array Value} (h : SM w W g2 g4 ok (some ad) c l cs) (i : Nat) (h0 : 0 < i) (hi : i < l.length) : W.cell? ⟨ad.block, ad.off + i, none⟩ = some (.int .u8 (rd l i)) := by
  obtain ⟨ad', e, hx⟩ := Kd.at_int (Kd.V_reads' h.row).2.2 (i : Int) (by omega) (by omega)
  cases e
  rw [Int.toNat_natCast] at hx
  unfold Go.Addr.add at hx
  rw [if_neg (by omega)] at hx
  exact hx
set_option maxHeartbeats 8000000 in
set_option maxRecDepth 100000 in
theorem stolonref16_seems.calls (P0_ : Nat → Prop) (A0 : Option Addr) (c0 : Nat) (l0 : List Int) (r1 r2 r3 r4 r5 r6 r7 : Int) (r8 : List (S59)) (r9 : Int) (r10 : Bool) (r11 : List Int) (r12 : Bool) (w : World) (hs0 : Kd.V (Kd.int .u8) 5 w w.heap.size (fun k_ => P0_ k_) (.slice A0 l0.length c0) l0) (h : stolonref16_seems.f l0 = some (r1, r2, r3, r4, r5, r6, r7, r8, r9, r10, r11, r12)) :
    Calls Try.prog 39 #[.slice A0 l0.length c0] w fun e w' => ∃ v7_ v10_ : Value, e = .returned (.tuple #[.agg #[.int .u8 r1, .int .u32 r2, .int .u32 r3, .int .u32 r4, .int .u32 r5, .int .i64 r6, .int .u32 r7, v7_, .int .i64 r9, .bool r10, v10_], .bool r12]) ∧ Kd.R k59 59 w' w.heap.size (fun k_ => (w.heap.size ≤ k_)) v7_ r8 ∧ Kd.V (Kd.int .u8) 5 w' w.heap.size (fun k_ => (P0_ k_ ∨ w.heap.size ≤ k_) ∧ some k_ ≠ (v7_ : Value).ownBlock) v10_ r11 ∧ Below w.heap.size w w' := by
  unfold stolonref16_seems.f at h
  split at h
  case isFalse => cases h
  case isTrue hlen =>
  have HLEN := m_ hlen
  have H := m_ (Option.some.inj h)
  have hu29 := Try.underlying29
  have hu59 := Try.underlying59
  have HO0 := m_ (show Kd.V (Kd.int .u8) 5 w w.heap.size (fun k_ => (P0_ k_ ∧ k_ < w.heap.size)) (.slice A0 l0.length c0) l0 from Kd.V_old hs0 (Below.refl _ _))
  have HB := m_ (Below.refl w.heap.size w)
  clear hlen h hs0
  have c2b0 : decide (2 < (l0.length : Int)) = true := decide_eq_true (by have := HLEN.out; omega)
  have c2b1 : decide (2 < l0.length) = true := decide_eq_true (by have := HLEN.out; omega)
  obtain ⟨t497, ht497⟩ : ∃ t, valP l0 3 4 = t := ⟨_, rfl⟩
  have A3 := m_ (show stolonref16_value.f 10 l0 3 4 = some t497 from (val_ok l0 3 4 10 (by have := HLEN.out; omega) HLEN.out.2 (by omega)).trans (congrArg some ht497))
  have HX := m_ ht497
  clear ht497
  go_enter Try.func39, Try.ntmps39
  try go_wp2_with (first | ((with_reducible refine gate_dst (N := 2) rfl ?_); (try (refine gate_guard (by rfl) ?_; dsimp only)); refine bx_ 2 29 #[.int .u8 0, .int .u32 0, .int .u32 0, .int .u32 0, .int .u32 0, .int .i64 0, .int .u32 0, .slice none 0 0, .int .i64 0, .bool false, .slice none 0 0] ?_; intro gb495 hg w5 hbox hb; have BK495 := m_ (hbox); have GW495 := m_ ((gw_ : w.heap.size ≤ gb495)); have GE495 := m_ ((gw_ : w.heap.size ≤ gb495)); replace HO0 := m_ (Kd.V_below (Kd.V_elderB (Vz_ HO0.out) gb495 (Nat.le_of_eq hg.symm)) hb); replace HB := m_ (below_step bz_ hb); clear hb hbox hg))
  replace HO0 := m_ (Kd.V_drew HO0.out)
  replace BK495 := m_ (blk_drew BK495.out)
  replace HB := m_ (below_drew1 HB.out)
  have p496 : 0 ≤ (2 : Int) := (by omega)
  have q496 : 2 < (l0.length : Int) := od_
  obtain ⟨ad496, e496, hx496_0⟩ := Kd.at_int (Kd.V_reads' HO0.out).2.2 2 p496 q496
  cases e496
  (try simp only [show (2 : Int).toNat = 2 from rfl, Nat.reduceMul, Nat.reduceEqDiff, Go.Addr.add, ↓reduceIte] at hx496_0)
  have qi496 : (2 < l0.length) = True := eq_true (by omega)
  (try rw [show ((2 : Int)).toNat = 2 from rfl] at hx496_0)
  replace p496 := eq_true p496
  replace q496 := eq_true q496
  refine start_ (n := 8) (S := fun w' => w'.cell? ⟨ad496.block, ad496.off + 2, none⟩ = some (.int .u8 (rd l0 2))) (ds := []) (bs_ 8 0) (by kernel_rfl) rfl rfl (hx496_0) (fun hHeld => ?_); refine with_tabW stolonref16_seems.tab1 stolonref16_seems.bits1 (fun HT_ HW_ => ?_)
  generalize w5.drew = w6 at HO0 BK495 HB hx496_0 hHeld ⊢
  refine pz_ 0 6 ?_
  refine pz_ 1 7 ?_
  refine pz_ 3 9 ?_
  refine tz_ 2 8 ?_
  refine join_ (σ := Nat) 1 (bs_ 8 127) (fun s_ => [(10, .int .u32 t497), (4, .pointer (some ⟨s_, 0, none⟩)), (11, .agg #[.int .u8 (rd l0 2), .int .u32 t497, .int .u32 0, .int .u32 0, .int .u32 0, .int .i64 0, .int .u32 0, .slice none 0 0, .int .i64 0, .bool false, .slice none 0 0])]) (fun s_ w' => (w'.cell? ⟨ad496.block, ad496.off + 2, none⟩ = some (.int .u8 (rd l0 2))) ∧ (Kd.V (Kd.int .u8) 5 w' w.heap.size (fun k_ => (P0_ k_ ∧ k_ < w.heap.size) ∧ k_ ≠ gb495 ∧ k_ ≠ s_) (.slice (some ad496) l0.length c0) l0) ∧ (w'.heap[gb495]? = some (.cells #[.int .u8 0, .int .u32 0, .int .u32 0, .int .u32 0, .int .u32 0, .int .i64 0, .int .u32 0, .slice none 0 0, .int .i64 0, .bool false, .slice none 0 0] 29 (0, 0))) ∧ (w'.heap[s_]? = some (.cells #[.int .u8 0, .int .u32 0, .int .u32 0, .int .u32 0, .int .u32 0, .int .i64 0, .int .u32 0, .slice none 0 0, .int .i64 0, .bool false, .slice none 0 0] 29 (0, 0))) ∧ (w.heap.size ≤ s_) ∧ (w.heap.size ≤ s_) ∧ (gb495 ≠ s_) ∧ (s_ ≠ gb495) ∧ (Below w.heap.size w w')) ?_ ?_
  rotate_left
  ·intro hCont
   refine two_ (i := 4) (j := 6) (Ni := some 10) (Nj := some 4) (bs_ 8 31) (bs_ 8 79) rfl rfl rfl rfl (two_of HT_.out (by kernel_rfl)) (by decide) (by decide) (fun K hK => ?_) (fun K hK => ?_)
   ·skip
    refine gz_ Try.func38 #[.slice (some ad496) l0.length c0, .int .i64 3, .int .i64 4] ?_
    with_reducible refine (stolonref16_value.calls 10 _ _ l0 3 4 t497 _ ?side1 ?side2 A3.out).mono ?_
    (case side1 => exact Cd_ (Kd.V_reads' HO0.out).2.2)
    (case side2 => exact (Kd.V_reads' HO0.out).2.1)
    rintro e w' ⟨rfl, ⟨nd, rfl⟩⟩
    refine ⟨_, rfl, ?_⟩
    refine hK.out _ _ (hHeld) (fun hHeld => ?_)
    clear hK K
    refine nz_ (some 10) ?_
    refine pz_ 5 11 ?_
    refine oz_ 6 (some 4) (fun K hK => ?_)
    refine box_step ?hg (N := 4) ?hd (cs := #[.int .u8 0, .int .u32 0, .int .u32 0, .int .u32 0, .int .u32 0, .int .i64 0, .int .u32 0, .slice none 0 0, .int .i64 0, .bool false, .slice none 0 0]) (t := 29) ?hr ?_; (case hd => rfl); (case hg => rfl); (case hr => first | (go_simp; done) | (go_simp; rfl))
    intro gb498 hg w7 hbox hb
    have HS0_ := (hb.cell (World.block_lt_of_cell? _ _ (hHeld))).trans (hHeld)
    have BK498 := m_ (hbox)
    have GW498 := m_ ((gw_ : w.heap.size ≤ gb498))
    have GE498 := m_ ((gw_ : w.heap.size ≤ gb498))
    have NB495_498 := m_ ((gl_ : gb495 ≠ gb498))
    have NB498_495 := m_ ((gr_ : gb498 ≠ gb495))
    replace HO0 := m_ (Kd.V_below (Kd.V_elderB (Vz_ HO0.out) gb498 (Nat.le_of_eq hg.symm)) hb)
    replace BK495 := m_ (kl_ gb495 hb)
    replace HB := m_ (below_step bz_ hb)
    clear hb hbox hg
    refine hK.out _ _ (HS0_) (fun hHeld => ?_)
    clear hK K
    refine nz_ (some 4) ?_
    exact norm_ (by simp only [putAll, Act.put, List.setIfInBounds_toArray, List.set_cons_zero, List.set_cons_succ]) (hCont (gb498) _ ⟨hHeld, (Vy_ (Kd.V_mono HO0.out (fun _ hk => ⟨hk.1.1, ⟨hk.1.2, hk.2⟩⟩))), kz_, kz_, GW498.out, GE498.out, NB495_498.out, NB498_495.out, bz_⟩)
   ·skip
    refine box_step ?hg (N := 4) ?hd (cs := #[.int .u8 0, .int .u32 0, .int .u32 0, .int .u32 0, .int .u32 0, .int .i64 0, .int .u32 0, .slice none 0 0, .int .i64 0, .bool false, .slice none 0 0]) (t := 29) ?hr ?_; (case hd => rfl); (case hg => rfl); (case hr => first | (go_simp; done) | (go_simp; rfl))
    intro gb498 hg w7 hbox hb
    have HS0_ := (hb.cell (World.block_lt_of_cell? _ _ (hHeld))).trans (hHeld)
    have BK498 := m_ (hbox)
    have GW498 := m_ ((gw_ : w.heap.size ≤ gb498))
    have GE498 := m_ ((gw_ : w.heap.size ≤ gb498))
    have NB495_498 := m_ ((gl_ : gb495 ≠ gb498))
    have NB498_495 := m_ ((gr_ : gb498 ≠ gb495))
    replace HO0 := m_ (Kd.V_below (Kd.V_elderB (Vz_ HO0.out) gb498 (Nat.le_of_eq hg.symm)) hb)
    replace BK495 := m_ (kl_ gb495 hb)
    replace HB := m_ (below_step bz_ hb)
    clear hb hbox hg
    refine hK.out _ _ (HS0_) (fun hHeld => ?_)
    clear hK K
    refine nz_ (some 4) ?_
    refine oz_ 4 (some 10) (fun K hK => ?_)
    refine gz_ Try.func38 #[.slice (some ad496) l0.length c0, .int .i64 3, .int .i64 4] ?_
    with_reducible refine (stolonref16_value.calls 10 _ _ l0 3 4 t497 _ ?side1 ?side2 A3.out).mono ?_
    (case side1 => exact Cd_ (Kd.V_reads' HO0.out).2.2)
    (case side2 => exact (Kd.V_reads' HO0.out).2.1)
    rintro e w' ⟨rfl, ⟨nd, rfl⟩⟩
    refine ⟨_, rfl, ?_⟩
    refine hK.out _ _ (hHeld) (fun hHeld => ?_)
    clear hK K
    refine nz_ (some 10) ?_
    refine pz_ 5 11 ?_
    exact norm_ (by simp only [putAll, Act.put, List.setIfInBounds_toArray, List.set_cons_zero, List.set_cons_succ]) (hCont (gb498) _ ⟨hHeld, (Vy_ (Kd.V_mono HO0.out (fun _ hk => ⟨hk.1.1, ⟨hk.1.2, hk.2⟩⟩))), kz_, kz_, GW498.out, GE498.out, NB495_498.out, NB498_495.out, bz_⟩)
  rintro gb498 w8 ⟨hS_, h0_, h1_, h2_, h3_, h4_, h5_, h6_, h7_⟩
  have n0_ : Aside0 (Kd.V (Kd.int .u8) 5 w8 w.heap.size (fun k_ => (P0_ k_ ∧ k_ < w.heap.size) ∧ k_ ≠ gb495 ∧ k_ ≠ gb498) (.slice (some ad496) l0.length c0) l0) := ⟨h0_⟩
  have n1_ : Aside0 (w8.heap[gb495]? = some (.cells #[.int .u8 0, .int .u32 0, .int .u32 0, .int .u32 0, .int .u32 0, .int .i64 0, .int .u32 0, .slice none 0 0, .int .i64 0, .bool false, .slice none 0 0] 29 (0, 0))) := ⟨h1_⟩
  have n2_ : Aside0 (w8.heap[gb498]? = some (.cells #[.int .u8 0, .int .u32 0, .int .u32 0, .int .u32 0, .int .u32 0, .int .i64 0, .int .u32 0, .slice none 0 0, .int .i64 0, .bool false, .slice none 0 0] 29 (0, 0))) := ⟨h2_⟩
  have n3_ : Aside0 (w.heap.size ≤ gb498) := ⟨h3_⟩
  have n4_ : Aside0 (w.heap.size ≤ gb498) := ⟨h4_⟩
  have n5_ : Aside0 (gb495 ≠ gb498) := ⟨h5_⟩
  have n6_ : Aside0 (gb498 ≠ gb495) := ⟨h6_⟩
  have n7_ : Aside0 (Below w.heap.size w w8) := ⟨h7_⟩
  clear HO0 BK495 HB h0_ h1_ h2_ h3_ h4_ h5_ h6_ h7_
  have HO0 := n0_
  have BK495 := n1_
  have BK498 := n2_
  have GW498 := n3_
  have GE498 := n4_
  have NB495_498 := n5_
  have NB498_495 := n6_
  have HB := n7_
  clear n0_ n1_ n2_ n3_ n4_ n5_ n6_ n7_
  have hHeld : w8.cell? ⟨ad496.block, ad496.off + 2, none⟩ = some (.int .u8 (rd l0 2)) := hS_
  refine norm_ (a' := ?_) ?_ ?_
  rotate_left
  ·simp only [putAll, Act.put, List.setIfInBounds_toArray, List.set_cons_zero, List.set_cons_succ]
   rfl
  refine oz_ 7 none (fun K hK => ?_)
  refine write_step (by rfl) rfl rfl [.int .u8 (rd l0 2), .int .u32 t497, .int .u32 0, .int .u32 0, .int .u32 0, .int .i64 0, .int .u32 0, .slice none 0 0, .int .i64 0, .bool false, .slice none 0 0] (g := gb498) (o' := 0) (cs' := #[.int .u8 (rd l0 2), .int .u32 t497, .int .u32 0, .int .u32 0, .int .u32 0, .int .i64 0, .int .u32 0, .slice none 0 0, .int .i64 0, .bool false, .slice none 0 0]) rfl rfl rfl rfl (by simp [Value.oneCell']) BK498.out (by simp) rfl ?_
  intro w9 hw9 ho9
  have HG : Aside0 (SG w gb495 gb498 (fun k_ => (P0_ k_ ∧ k_ < w.heap.size) ∧ k_ ≠ gb495 ∧ k_ ≠ gb498) P0_) := ⟨⟨GW495.out, GW498.out, NB495_498.out, fun k hk => hk.2.1, fun k hk => hk.2.2, fun k hk => hk.1.1, fun k hk => hk.1.2⟩⟩
  have HS9 : Aside0 (SM w w9 gb495 gb498 (fun k_ => (P0_ k_ ∧ k_ < w.heap.size) ∧ k_ ≠ gb495 ∧ k_ ≠ gb498) (some ad496) c0 l0 #[.int .u8 (rd l0 2), .int .u32 t497, .int .u32 0, .int .u32 0, .int .u32 0, .int .i64 0, .int .u32 0, .slice none 0 0, .int .i64 0, .bool false, .slice none 0 0]) := ⟨⟨ho9.blk NB495_498.out BK495.out, hw9, Kd.V_map HO0.out (fun _ hf => Kd.F_step hf (fun k hk _ => ho9.block k hk.2.2)), ho9.below HB.out GW498.out⟩⟩
  have hne9 : ad496.block ≠ gb498 := (V_at HO0.out (by have := HLEN.out; omega) (by decide)).2.2
  have hS9 : w9.cell? ⟨ad496.block, ad496.off + 2, none⟩ = some (.int .u8 (rd l0 2)) := by
    rw [← hHeld]
    unfold World.cell?
    dsimp only
    rw [ho9.block _ hne9]
  refine hK.out _ _ hS9 (fun hq_ => ?_)
  clear hK K
  refine dz_ ?_
  clear hq_ hx496_0 hHeld HT_ HW_ hw9 ho9 hne9 hS9 hS_ HO0 BK495 BK498 GW495 GW498 GE498 GE495 NB495_498 NB498_495 HB
  generalize (fun k_ => (P0_ k_ ∧ k_ < w.heap.size) ∧ k_ ≠ gb495 ∧ k_ ≠ gb498) = ok at HG HS9
  generalize hkd : rd l0 2 = kd at HS9
  have HKD := m_ hkd
  clear hkd
  by_cases h1 : kd = 1
  · subst h1
    have hx := HS9.out.at_ 2 (by omega) (by have := HLEN.out; omega)
    rw [show ((2 : Nat) : Int) = 2 from rfl, HKD.out] at hx
    by_cases h19 : l0.length < 19
    · have d19 : decide ((l0.length : Int) < 19) = true := decide_eq_true (by omega)
      have H1 := H.out
      unfold seemsR at H1
      rw [HKD.out, HX.out] at H1
      rw [if_pos (by omega), if_pos (by omega)] at H1
      simp only [Prod.mk.injEq] at H1
      obtain ⟨rfl, rfl, rfl, rfl, rfl, rfl, rfl, rfl, rfl, rfl, rfl, rfl⟩ := H1
      clear H
      have k0_ := (blk_cell HS9.out.msg 0).trans rfl
      have k1_ := (blk_cell HS9.out.msg 1).trans rfl
      have k2_ := (blk_cell HS9.out.msg 2).trans rfl
      have k3_ := (blk_cell HS9.out.msg 3).trans rfl
      have k4_ := (blk_cell HS9.out.msg 4).trans rfl
      have k5_ := (blk_cell HS9.out.msg 5).trans rfl
      have k6_ := (blk_cell HS9.out.msg 6).trans rfl
      have k7_ := (blk_cell HS9.out.msg 7).trans rfl
      have k8_ := (blk_cell HS9.out.msg 8).trans rfl
      have k9_ := (blk_cell HS9.out.msg 9).trans rfl
      have k10_ := (blk_cell HS9.out.msg 10).trans rfl
      go_wp2_with (refine blk_write (g := gb495) (o' := 0) (cs' := #[.int .u8 1, .int .u32 t497, .int .u32 0, .int .u32 0, .int .u32 0, .int .i64 0, .int .u32 0, .slice none 0 0, .int .i64 0, .bool false, .slice none 0 0]) rfl rfl rfl [.int .u8 1, .int .u32 t497, .int .u32 0, .int .u32 0, .int .u32 0, .int .i64 0, .int .u32 0, .slice none 0 0, .int .i64 0, .bool false, .slice none 0 0] rfl rfl rfl rfl (by simp [Value.oneCell']) HS9.out.res (by simp) rfl ?_; refine Stop0.out ?_)
      refine ⟨?_⟩
      intro wz hwz hoz
      have HWZ := m_ hwz
      have HOZ := m_ hoz
      have HBZ := m_ (hoz.below HS9.out.bel HG.out.h2)
      clear hwz hoz k0_ k1_ k2_ k3_ k4_ k5_ k6_ k7_ k8_ k9_ k10_
      go_wp2
      refine bodyPost_ret (results_ct rfl _ _ gb495 29 #[.int .u8 1, .int .u32 t497, .int .u32 0, .int .u32 0, .int .u32 0, .int .i64 0, .int .u32 0, .slice none 0 0, .int .i64 0, .bool false, .slice none 0 0] (0, 0) _ rfl HWZ.out Try.underlying29 rfl (by kernel_rfl)) rfl ?_
      refine ⟨_, _, rfl, Kd.R_nil _ _ _ _ _, Kd.V_nil _ _ _ _ _, HBZ.out⟩
    have d19 : decide ((l0.length : Int) < 19) = false := decide_eq_false (by omega)
    by_cases h27 : l0.length < 27
    · have d27 : decide ((l0.length : Int) < 27) = true := decide_eq_true (by omega)
      have H1 := H.out
      unfold seemsR at H1
      rw [HKD.out, HX.out] at H1
      rw [if_pos (by omega), if_pos (by omega)] at H1
      simp only [Prod.mk.injEq] at H1
      obtain ⟨rfl, rfl, rfl, rfl, rfl, rfl, rfl, rfl, rfl, rfl, rfl, rfl⟩ := H1
      clear H
      have k0_ := (blk_cell HS9.out.msg 0).trans rfl
      have k1_ := (blk_cell HS9.out.msg 1).trans rfl
      have k2_ := (blk_cell HS9.out.msg 2).trans rfl
      have k3_ := (blk_cell HS9.out.msg 3).trans rfl
      have k4_ := (blk_cell HS9.out.msg 4).trans rfl
      have k5_ := (blk_cell HS9.out.msg 5).trans rfl
      have k6_ := (blk_cell HS9.out.msg 6).trans rfl
      have k7_ := (blk_cell HS9.out.msg 7).trans rfl
      have k8_ := (blk_cell HS9.out.msg 8).trans rfl
      have k9_ := (blk_cell HS9.out.msg 9).trans rfl
      have k10_ := (blk_cell HS9.out.msg 10).trans rfl
      go_wp2_with (refine blk_write (g := gb495) (o' := 0) (cs' := #[.int .u8 1, .int .u32 t497, .int .u32 0, .int .u32 0, .int .u32 0, .int .i64 0, .int .u32 0, .slice none 0 0, .int .i64 0, .bool false, .slice none 0 0]) rfl rfl rfl [.int .u8 1, .int .u32 t497, .int .u32 0, .int .u32 0, .int .u32 0, .int .i64 0, .int .u32 0, .slice none 0 0, .int .i64 0, .bool false, .slice none 0 0] rfl rfl rfl rfl (by simp [Value.oneCell']) HS9.out.res (by simp) rfl ?_; refine Stop0.out ?_)
      refine ⟨?_⟩
      intro wz hwz hoz
      have HWZ := m_ hwz
      have HOZ := m_ hoz
      have HBZ := m_ (hoz.below HS9.out.bel HG.out.h2)
      clear hwz hoz k0_ k1_ k2_ k3_ k4_ k5_ k6_ k7_ k8_ k9_ k10_
      go_wp2
      refine bodyPost_ret (results_ct rfl _ _ gb495 29 #[.int .u8 1, .int .u32 t497, .int .u32 0, .int .u32 0, .int .u32 0, .int .i64 0, .int .u32 0, .slice none 0 0, .int .i64 0, .bool false, .slice none 0 0] (0, 0) _ rfl HWZ.out Try.underlying29 rfl (by kernel_rfl)) rfl ?_
      refine ⟨_, _, rfl, Kd.R_nil _ _ _ _ _, Kd.V_nil _ _ _ _ _, HBZ.out⟩
    have d27 : decide ((l0.length : Int) < 27) = false := decide_eq_false (by omega)
    obtain ⟨t7, ht7⟩ : ∃ t, valP l0 7 4 = t := ⟨_, rfl⟩
    have HT7 := m_ ht7
    have A7 := m_ (show stolonref16_value.f 10 l0 7 4 = some t7 from (val_ok l0 7 4 10 (by omega) HLEN.out.2 (by omega)).trans (congrArg some ht7))
    clear ht7
    go_wp2_with (go_at_call 38; refine Stop0.out ?_)
    refine ⟨?_⟩
    refine (stolonref16_value.calls 10 _ _ l0 7 4 t7 _ (Kd.V_reads' HS9.out.row).2.2 (Kd.V_reads' HS9.out.row).2.1 A7.out).mono ?_
    rintro e w' ⟨rfl, ⟨nd, rfl⟩⟩
    have HS10 := m_ (HS9.out.drewN nd)
    generalize World.drewN _ nd = w10 at HS10 ⊢
    clear hx
    have hc2 := (blk_cell HS10.out.msg 2).trans rfl
    have hf2 := blk_frozen HS10.out.msg 2
    obtain ⟨t11, ht11⟩ : ∃ t, valP l0 11 4 = t := ⟨_, rfl⟩
    have HT11 := m_ ht11
    have A11 := m_ (show stolonref16_value.f 10 l0 11 4 = some t11 from (val_ok l0 11 4 10 (by omega) HLEN.out.2 (by omega)).trans (congrArg some ht11))
    clear ht11
    go_wp2_with (go_at_call 38; refine Stop0.out ?_)
    refine ⟨?_⟩
    have HS11 := m_ (HS10.out.set HG.out 2 (.int .u32 t7) (#[.int .u8 1, .int .u32 t497, .int .u32 t7, .int .u32 0, .int .u32 0, .int .i64 0, .int .u32 0, .slice none 0 0, .int .i64 0, .bool false, .slice none 0 0]) rfl)
    generalize World.setCell _ ⟨gb498, 2, none⟩ (.int .u32 t7) = w11 at HS11 ⊢
    clear hc2 hf2 HS10
    refine (stolonref16_value.calls 10 _ _ l0 11 4 t11 _ (Kd.V_reads' HS11.out.row).2.2 (Kd.V_reads' HS11.out.row).2.1 A11.out).mono ?_
    rintro e w' ⟨rfl, ⟨nd, rfl⟩⟩
    have HS12 := m_ (HS11.out.drewN nd)
    generalize World.drewN _ nd = w12 at HS12 ⊢
    have hc3 := (blk_cell HS12.out.msg 3).trans rfl
    have hf3 := blk_frozen HS12.out.msg 3
    obtain ⟨t15, ht15⟩ : ∃ t, valP l0 15 4 = t := ⟨_, rfl⟩
    have HT15 := m_ ht15
    have A15 := m_ (show stolonref16_value.f 10 l0 15 4 = some t15 from (val_ok l0 15 4 10 (by omega) HLEN.out.2 (by omega)).trans (congrArg some ht15))
    clear ht15
    go_wp2_with (go_at_call 38; refine Stop0.out ?_)
    refine ⟨?_⟩
    have HS13 := m_ (HS12.out.set HG.out 3 (.int .u32 t11) (#[.int .u8 1, .int .u32 t497, .int .u32 t7, .int .u32 t11, .int .u32 0, .int .i64 0, .int .u32 0, .slice none 0 0, .int .i64 0, .bool false, .slice none 0 0]) rfl)
    generalize World.setCell _ ⟨gb498, 3, none⟩ (.int .u32 t11) = w13 at HS13 ⊢
    clear hc3 hf3 HS12
    refine (stolonref16_value.calls 10 _ _ l0 15 4 t15 _ (Kd.V_reads' HS13.out.row).2.2 (Kd.V_reads' HS13.out.row).2.1 A15.out).mono ?_
    rintro e w' ⟨rfl, ⟨nd, rfl⟩⟩
    have HS14 := m_ (HS13.out.drewN nd)
    generalize World.drewN _ nd = w14 at HS14 ⊢
    have hc4 := (blk_cell HS14.out.msg 4).trans rfl
    have hf4 := blk_frozen HS14.out.msg 4
    go_wp2_with ((with_reducible refine gate_dst (N := 50) rfl ?_); refine Stop0.out ?_)
    refine ⟨?_⟩
    have HS15 := m_ (HS14.out.set HG.out 4 (.int .u32 t15) (#[.int .u8 1, .int .u32 t497, .int .u32 t7, .int .u32 t11, .int .u32 t15, .int .i64 0, .int .u32 0, .slice none 0 0, .int .i64 0, .bool false, .slice none 0 0]) rfl)
    generalize World.setCell _ ⟨gb498, 4, none⟩ (.int .u32 t15) = w15 at HS15 ⊢
    clear hc4 hf4 HS14
    have hx := HS15.out.at_ 2 (by omega) (by have := HLEN.out; omega)
    rw [show ((2 : Nat) : Int) = 2 from rfl, HKD.out] at hx
    obtain ⟨t19, ht19⟩ : ∃ t, valP l0 19 2 = t := ⟨_, rfl⟩
    have HT19 := m_ ht19
    have A19 := m_ (show stolonref16_value.f 10 l0 19 2 = some t19 from (val_ok l0 19 2 10 (by omega) HLEN.out.2 (by omega)).trans (congrArg some ht19))
    clear ht19
    go_wp2_with (go_at_call 38; refine Stop0.out ?_)
    refine ⟨?_⟩
    refine (stolonref16_value.calls 10 _ _ l0 19 2 t19 _ (Kd.V_reads' HS15.out.row).2.2 (Kd.V_reads' HS15.out.row).2.1 A19.out).mono ?_
    rintro e w' ⟨rfl, ⟨nd, rfl⟩⟩
    have HS16 := m_ (HS15.out.drewN nd)
    generalize World.drewN _ nd = w16 at HS16 ⊢
    clear hx
    have hw19 : wrap64 t19 = t19 := by rw [← HT19.out]; exact val_wrap l0 19 2
    have hc5 := (blk_cell HS16.out.msg 5).trans rfl
    have hf5 := blk_frozen HS16.out.msg 5
    go_wp2_with ((with_reducible refine gate_dst (N := 59) rfl ?_); refine Stop0.out ?_)
    refine ⟨?_⟩
    rw [hw19]
    have HS17 := m_ (HS16.out.set HG.out 5 (.int .i64 t19) (#[.int .u8 1, .int .u32 t497, .int .u32 t7, .int .u32 t11, .int .u32 t15, .int .i64 t19, .int .u32 0, .slice none 0 0, .int .i64 0, .bool false, .slice none 0 0]) rfl)
    generalize World.setCell _ ⟨gb498, 5, none⟩ (.int .i64 t19) = w17 at HS17 ⊢
    clear hc5 hf5 HS16
    have hc5 := (blk_cell HS17.out.msg 5).trans rfl
    have hf5 := blk_frozen HS17.out.msg 5
    clear hw19
    obtain ⟨vi, hvi⟩ : ∃ vi, vi = (if t19 = 65535 then (-1 : Int) else t19) := ⟨_, rfl⟩
    by_cases h65 : t19 = 65535
    case' pos =>
      rw [if_pos h65] at hvi
      have HV := m_ hvi
      have hd : (t19 == 65535) = true := beq_iff_eq.2 h65
      have HVI := m_ (show (if t19 = 65535 then (-1 : Int) else t19) = vi by rw [if_pos h65, hvi])
      clear h65 hvi
      obtain ⟨t21, ht21⟩ : ∃ t, valP l0 21 4 = t := ⟨_, rfl⟩
      have HT21 := m_ ht21
      have A21 := m_ (show stolonref16_value.f 10 l0 21 4 = some t21 from (val_ok l0 21 4 10 (by omega) HLEN.out.2 (by omega)).trans (congrArg some ht21))
      clear ht21
      go_wp2_with (go_at_call 38; refine Stop0.out ?_)
      refine ⟨?_⟩
      have HS18 := m_ (HS17.out.set HG.out 5 (.int .i64 (-1)) (#[.int .u8 1, .int .u32 t497, .int .u32 t7, .int .u32 t11, .int .u32 t15, .int .i64 (-1), .int .u32 0, .slice none 0 0, .int .i64 0, .bool false, .slice none 0 0]) rfl)
      generalize World.setCell _ ⟨gb498, 5, none⟩ (.int .i64 (-1)) = w18 at HS18 ⊢
      rw [← HV.out] at HS18
    case' neg =>
      rw [if_neg h65] at hvi
      have HV := m_ hvi
      have hd : (t19 == 65535) = false := beq_eq_false_iff_ne.2 h65
      have HVI := m_ (show (if t19 = 65535 then (-1 : Int) else t19) = vi by rw [if_neg h65, hvi])
      clear h65 hvi
      obtain ⟨t21, ht21⟩ : ∃ t, valP l0 21 4 = t := ⟨_, rfl⟩
      have HT21 := m_ ht21
      have A21 := m_ (show stolonref16_value.f 10 l0 21 4 = some t21 from (val_ok l0 21 4 10 (by omega) HLEN.out.2 (by omega)).trans (congrArg some ht21))
      clear ht21
      go_wp2_with (go_at_call 38; refine Stop0.out ?_)
      refine ⟨?_⟩
      rw [← HV.out] at HS17
      have HS18 := HS17
      generalize w17 = w18 at HS18 ⊢
    all_goals
      clear hd hc5 hf5 HS17 HV
      refine (stolonref16_value.calls 10 _ _ l0 21 4 t21 _ (Kd.V_reads' HS18.out.row).2.2 (Kd.V_reads' HS18.out.row).2.1 A21.out).mono ?_
      rintro e w' ⟨rfl, ⟨nd, rfl⟩⟩
      have HS19 := m_ (HS18.out.drewN nd)
      generalize World.drewN _ nd = w19 at HS19 ⊢
      have hc6 := (blk_cell HS19.out.msg 6).trans rfl
      have hf6 := blk_frozen HS19.out.msg 6
      have H1 := H.out
      unfold seemsR at H1
      rw [HKD.out, HX.out, HT7.out, HT11.out, HT15.out, HT19.out, HT21.out, HVI.out] at H1
      rw [if_pos (by omega), if_neg (by omega), if_pos rfl] at H1
      simp only [Prod.mk.injEq] at H1
      obtain ⟨rfl, rfl, rfl, rfl, rfl, rfl, rfl, rfl, rfl, rfl, rfl, rfl⟩ := H1
      clear H
      go_wp2
      have HS20 := m_ (HS19.out.set HG.out 6 (.int .u32 t21) (#[.int .u8 1, .int .u32 t497, .int .u32 t7, .int .u32 t11, .int .u32 t15, .int .i64 vi, .int .u32 t21, .slice none 0 0, .int .i64 0, .bool false, .slice none 0 0]) rfl)
      generalize World.setCell _ ⟨gb498, 6, none⟩ (.int .u32 t21) = w20 at HS20 ⊢
      clear hc6 hf6 HS19 HS18
      go_loopg [5] (l0.length - 27) (fun gg s5 wr => ∃ (i : Nat) (Ao : Option Addr) (co : Nat) (os : List (S59)), 27 ≤ i ∧ i ≤ l0.length ∧ l0.length - i ≤ gg ∧ s5 = .int .i64 i ∧ Aside0 (os ++ outsP (l0.drop i) = outsP (l0.drop 27)) ∧ Aside0 (os.length ≤ i) ∧ Aside0 (SM w wr gb495 gb498 ok (some ad496) c0 l0 #[.int .u8 1, .int .u32 t497, .int .u32 t7, .int .u32 t11, .int .u32 t15, .int .i64 vi, .int .u32 t21, .slice Ao os.length co, .int .i64 0, .bool false, .slice none 0 0]) ∧ Aside0 (Kd.R k59 59 wr w.heap.size (fun k => w.heap.size ≤ k) (.slice Ao os.length co) os))
      case atStart => exact ⟨27, none, 0, [], Nat.le_refl _, by omega, by omega, rfl, ⟨rfl⟩, ⟨Nat.zero_le _⟩, HS20, ⟨Kd.R_nil _ _ _ _ _⟩⟩
      case round =>
        obtain ⟨i, Ao, co, os, hi0, hi, hgg, rfl, HA, HOL, HS, HO⟩ := hrel
        by_cases hlt : i < l0.length
        · have hlt' : (i : Int) < (l0.length : Int) := by omega
          go_wp2
          have HS2 := m_ HS.out.drew
          have HO2 := m_ (Kd.R_drew HO.out)
          have HLT := m_ (And.intro hlt hgg)
          have p508 : (0 ≤ (i : Int)) = True := eq_true (by omega)
          have q508 : ((i : Int) < (l0.length : Int)) = True := eq_true (by omega)
          have hx508 : wr.drew.cell? (ad496.add i) = some (.int .u8 (rd l0 (i : Int))) := by
            obtain ⟨ad508, e508, hx508⟩ := Kd.at_int (Kd.V_reads' HS2.out.row).2.2 (i : Int) (by omega) (by omega)
            obtain rfl : ad496 = ad508 := by injection e508
            exact hx508
          refine start_ (n := 19) (S := fun W => W.cell? ⟨gb498, 0, none⟩ = some (.int .u8 1) ∧ W.cell? ⟨gb498, 1, none⟩ = some (.int .u32 t497) ∧ W.cell? ⟨gb498, 2, none⟩ = some (.int .u32 t7) ∧ W.cell? ⟨gb498, 3, none⟩ = some (.int .u32 t11) ∧ W.cell? ⟨gb498, 4, none⟩ = some (.int .u32 t15) ∧ W.cell? ⟨gb498, 5, none⟩ = some (.int .i64 vi) ∧ W.cell? ⟨gb498, 6, none⟩ = some (.int .u32 t21) ∧ W.cell? ⟨gb498, 7, none⟩ = some (.slice Ao os.length co) ∧ W.cell? ⟨gb498, 8, none⟩ = some (.int .i64 0) ∧ W.cell? ⟨gb498, 9, none⟩ = some (.bool false) ∧ W.cell? ⟨gb498, 10, none⟩ = some (.slice none 0 0) ∧ W.cell? (ad496.add i) = some (.int .u8 (rd l0 (i : Int)))) (ds := [15, 18]) (bs_ 19 0) (by kernel_rfl) rfl rfl ⟨bc_ HS2.out.msg 0, bc_ HS2.out.msg 1, bc_ HS2.out.msg 2, bc_ HS2.out.msg 3, bc_ HS2.out.msg 4, bc_ HS2.out.msg 5, bc_ HS2.out.msg 6, bc_ HS2.out.msg 7, bc_ HS2.out.msg 8, bc_ HS2.out.msg 9, bc_ HS2.out.msg 10, hx508⟩ (fun hHeld => ?_); refine with_tabW stolonref16_seems.tab16 stolonref16_seems.bits16 (fun HT_ HW_ => ?_)
          clear hx508 HS HO
          generalize wr.drew = w52 at HS2 HO2 hHeld ⊢
          refine pz_ 0 74 ?_
          refine pz_ 1 75 ?_
          refine pz_ 3 77 ?_
          refine pz_ 4 78 ?_
          refine pz_ 5 79 ?_
          refine pz_ 8 82 ?_
          refine pz_ 9 83 ?_
          refine pz_ 10 84 ?_
          refine tz_ 2 76 ?_
          refine tz_ 6 80 ?_
          refine pz_ 7 81 ?_
          refine tz_ 11 85 ?_
          refine pz_ 12 86 ?_
          refine pz_ 13 87 ?_
          refine oz_ 14 (some 88) (fun K hK => ?_)
          refine value_ (w1 := ?_) (v := ?_) (by rfl) rfl ?_ ?_
          rotate_left 2
          · go_simp
            constructor
            · rfl
            · rfl
          refine hK.out _ _ ⟨bc_ (blk_alloc HS2.out.msg _) 0, bc_ (blk_alloc HS2.out.msg _) 1, bc_ (blk_alloc HS2.out.msg _) 2, bc_ (blk_alloc HS2.out.msg _) 3, bc_ (blk_alloc HS2.out.msg _) 4, bc_ (blk_alloc HS2.out.msg _) 5, bc_ (blk_alloc HS2.out.msg _) 6, bc_ (blk_alloc HS2.out.msg _) 7, bc_ (blk_alloc HS2.out.msg _) 8, bc_ (blk_alloc HS2.out.msg _) 9, bc_ (blk_alloc HS2.out.msg _) 10, (World.cell?_alloc_lt _ _ _ (World.block_lt_of_cell? _ _ hHeld.2.2.2.2.2.2.2.2.2.2.2)).trans hHeld.2.2.2.2.2.2.2.2.2.2.2⟩ (fun hHeld => ?_)
          clear hK K
          refine nz_ (some 88) ?_
          refine last_ (i := 15) (N := some 89) (bs_ 19 65535) rfl rfl (one_of HT_.out (by kernel_rfl)) (by decide) (fun K hK => ?_)
          refine Kd.R_append_step k59 (w0 := w) w.heap.size (by rfl) (.tmp 76) (.tmp 88) 24 59 (.agg #[(.int .i64 0), (.bool false)]) 16 rfl Try.underlying24 info59 rfl (by decide) (by omega) (.slice Ao os.length co) os (⟨wrap64 (rd l0 (i : Int)), decide ((rd l0 (i : Int)) ≥ 64)⟩ : S59) [.int .i64 (wrap64 (rd l0 (i : Int))), .bool (decide ((rd l0 (i : Int)) ≥ 64))] (fun k_ => (w.heap.size ≤ k_)) (fun _ => False) rfl rfl ?aP (fun _ hk => hk.elim) ?aF ?aO ?aB ?aS ?aL ?_
          (case aP => exact k59_mkM _ _ _ (⟨wrap64 (rd l0 (i : Int)), decide ((rd l0 (i : Int)) ≥ 64)⟩ : S59))
          (case aB => exact HS2.out.bel)
          (case aF => exact fun k hk => Nat.le_trans HS2.out.bel.size hk)
          (case aO => exact HO2.out)
          (case aS => exact HS2.out.bel.size)
          (case aL => have := HOL.out; have := HLEN.out; omega)
          intro v511 w53 ho hb hg hat
          obtain ⟨os2, hos2⟩ : ∃ o, o = os ++ [(⟨wrap64 (rd l0 (i : Int)), decide ((rd l0 (i : Int)) ≥ 64)⟩ : S59)] := ⟨_, rfl⟩
          have hA2 : os2 ++ outsP (l0.drop (i + 1)) = outsP (l0.drop 27) := by
            have hr : rd l0 (i : Int) = l0[i]'hlt := by
              unfold rd
              rw [Int.toNat_natCast, List.getD_eq_getElem?_getD, List.getElem?_eq_getElem hlt, Option.getD_some]
            rw [← HA.out, hos2, List.append_assoc, List.drop_eq_getElem_cons hlt, hr]
            rfl
          have HA2 := m_ hA2
          have HOL2 := m_ (show os2.length ≤ i + 1 by have := HOL.out; rw [hos2, List.length_append]; simp only [List.length_singleton]; omega)
          rw [← hos2] at ho
          have HS3 : Aside0 (SM w w53 gb495 gb498 ok (some ad496) c0 l0 #[.int .u8 1, .int .u32 t497, .int .u32 t7, .int .u32 t11, .int .u32 t15, .int .i64 vi, .int .u32 t21, .slice Ao os.length co, .int .i64 0, .bool false, .slice none 0 0]) := ⟨⟨blk_grown (g := gb495) HS2.out.res hg (Kd.R_ne HO2.out HS2.out.res (by decide)), blk_grown (g := gb498) HS2.out.msg hg (Kd.R_ne HO2.out HS2.out.msg (by decide)), Kd.V_map HS2.out.row (fun _ hf => Kd.F_step hf (fun k hk _ => (hb.block k (HG.out.kb k hk)).trans (HS2.out.bel.block k (HG.out.kb k hk)).symm)), hb⟩⟩
          obtain ⟨Ao2, co2, rfl⟩ := Kd.R_slice ho
          have HO3 := m_ ho
          clear hA2 hos2 HA HOL ho hb hg hat HO2 HS2
          refine hK.out _ _ ?_
          clear hK K
          refine nz_ (some 89) ?_
          refine pz_ 16 90 ?_
          refine pz_ 17 91 ?_
          refine last_ (i := 18) (N := none) (bs_ 19 524287) rfl rfl (one_of HT_.out (by kernel_rfl)) (by decide) (fun K hK => ?_)
          have hs55 : w53.cell? ⟨gb498, 7, none⟩ = some (.slice Ao os.length co) := (blk_cell HS3.out.msg 7).trans rfl
          have hfs55 := blk_frozen HS3.out.msg 7
          refine skip_ (w1 := ?_) (by rfl) rfl ?_ ?_
          rotate_left
          · go_simp
            rfl
          refine hK.out _ _ ?_
          clear hK K
          refine dz_ ?_
          have HS4 := m_ (HS3.out.set HG.out 7 (.slice Ao2 os2.length co2) (#[.int .u8 1, .int .u32 t497, .int .u32 t7, .int .u32 t11, .int .u32 t15, .int .i64 vi, .int .u32 t21, .slice Ao2 os2.length co2, .int .i64 0, .bool false, .slice none 0 0]) rfl)
          have HO4 := m_ (Kd.R_mono (Kd.R_step (w1 := w53.setCell ⟨gb498, 7, none⟩ (.slice Ao2 os2.length co2)) (Kd.R_types HO3.out HS3.out.msg (by decide)) (fun k hk _ => (only_set w53 gb498 7 (.slice Ao2 os2.length co2)).block k hk.2)) (fun k hk => hk.1))
          generalize World.setCell _ ⟨gb498, 7, none⟩ (.slice Ao2 os2.length co2) = w54 at HS4 HO4 ⊢
          clear hs55 hfs55 HS3 HO3 HT_ HW_ hHeld
          go_wp2
          go_roundg (l0.length - (i + 1))
          case measure => have := HLT.out; omega
          case rel => exact ⟨i + 1, Ao2, co2, os2, by omega, by have := HLT.out; omega, Nat.le_refl _, by have := HLEN.out; have := HLT.out; rw [show wrap64 ((i : Int) + 1) = ((i + 1 : Nat) : Int) by unfold wrap64; omega], HA2, HOL2, HS4, HO4⟩
        · have hlt' : ¬ ((i : Int) < (l0.length : Int)) := by omega
          have hx := HS.out.at_ 2 (by omega) (by have := HLEN.out; omega)
          rw [show ((2 : Nat) : Int) = 2 from rfl, HKD.out] at hx
          have hos : os = outsP (l0.drop 27) := by
            have h_ := HA.out
            rw [List.drop_of_length_le (by omega)] at h_
            rw [← h_]
            exact (List.append_nil os).symm
          have HOS := m_ hos
          clear hos HA HOL
          have k0_ := (blk_cell HS.out.msg 0).trans rfl
          have k1_ := (blk_cell HS.out.msg 1).trans rfl
          have k2_ := (blk_cell HS.out.msg 2).trans rfl
          have k3_ := (blk_cell HS.out.msg 3).trans rfl
          have k4_ := (blk_cell HS.out.msg 4).trans rfl
          have k5_ := (blk_cell HS.out.msg 5).trans rfl
          have k6_ := (blk_cell HS.out.msg 6).trans rfl
          have k7_ := (blk_cell HS.out.msg 7).trans rfl
          have k8_ := (blk_cell HS.out.msg 8).trans rfl
          have k9_ := (blk_cell HS.out.msg 9).trans rfl
          have k10_ := (blk_cell HS.out.msg 10).trans rfl
          go_wp2_with (refine blk_write (g := gb495) (o' := 0) (cs' := #[.int .u8 1, .int .u32 t497, .int .u32 t7, .int .u32 t11, .int .u32 t15, .int .i64 vi, .int .u32 t21, .slice Ao os.length co, .int .i64 0, .bool false, .slice none 0 0]) rfl rfl rfl [.int .u8 1, .int .u32 t497, .int .u32 t7, .int .u32 t11, .int .u32 t15, .int .i64 vi, .int .u32 t21, .slice Ao os.length co, .int .i64 0, .bool false, .slice none 0 0] rfl rfl rfl rfl (by simp [Value.oneCell']) HS.out.res (by simp) rfl ?_; refine Stop0.out ?_)
          refine ⟨?_⟩
          intro wz hwz hoz
          have HWZ := m_ hwz
          have HOZ := m_ hoz
          have HBZ := m_ (hoz.below HS.out.bel HG.out.h2)
          clear hwz hoz k0_ k1_ k2_ k3_ k4_ k5_ k6_ k7_ k8_ k9_ k10_
          go_wp2
          refine bodyPost_ret (results_ct rfl _ _ gb495 29 #[.int .u8 1, .int .u32 t497, .int .u32 t7, .int .u32 t11, .int .u32 t15, .int .i64 vi, .int .u32 t21, .slice Ao os.length co, .int .i64 0, .bool false, .slice none 0 0] (0, 0) _ rfl HWZ.out Try.underlying29 rfl (by kernel_rfl)) rfl ?_
          refine ⟨_, _, rfl, (by rw [← HOS.out]; exact Kd.R_mono (Kd.R_step (Kd.R_types HO.out HS.out.res (by decide)) (fun k hk _ => HOZ.out.block k hk.2)) (fun k hk => hk.1)), Kd.V_nil _ _ _ _ _, HBZ.out⟩
  by_cases h2 : kd = 2
  · subst h2
    have hx := HS9.out.at_ 2 (by omega) (by have := HLEN.out; omega)
    rw [show ((2 : Nat) : Int) = 2 from rfl, HKD.out] at hx
    by_cases h19 : l0.length < 19
    · have d19 : decide ((l0.length : Int) < 19) = true := decide_eq_true (by omega)
      have H1 := H.out
      unfold seemsR at H1
      rw [HKD.out, HX.out] at H1
      rw [if_pos (by omega), if_pos (by omega)] at H1
      simp only [Prod.mk.injEq] at H1
      obtain ⟨rfl, rfl, rfl, rfl, rfl, rfl, rfl, rfl, rfl, rfl, rfl, rfl⟩ := H1
      clear H
      have k0_ := (blk_cell HS9.out.msg 0).trans rfl
      have k1_ := (blk_cell HS9.out.msg 1).trans rfl
      have k2_ := (blk_cell HS9.out.msg 2).trans rfl
      have k3_ := (blk_cell HS9.out.msg 3).trans rfl
      have k4_ := (blk_cell HS9.out.msg 4).trans rfl
      have k5_ := (blk_cell HS9.out.msg 5).trans rfl
      have k6_ := (blk_cell HS9.out.msg 6).trans rfl
      have k7_ := (blk_cell HS9.out.msg 7).trans rfl
      have k8_ := (blk_cell HS9.out.msg 8).trans rfl
      have k9_ := (blk_cell HS9.out.msg 9).trans rfl
      have k10_ := (blk_cell HS9.out.msg 10).trans rfl
      go_wp2_with (refine blk_write (g := gb495) (o' := 0) (cs' := #[.int .u8 2, .int .u32 t497, .int .u32 0, .int .u32 0, .int .u32 0, .int .i64 0, .int .u32 0, .slice none 0 0, .int .i64 0, .bool false, .slice none 0 0]) rfl rfl rfl [.int .u8 2, .int .u32 t497, .int .u32 0, .int .u32 0, .int .u32 0, .int .i64 0, .int .u32 0, .slice none 0 0, .int .i64 0, .bool false, .slice none 0 0] rfl rfl rfl rfl (by simp [Value.oneCell']) HS9.out.res (by simp) rfl ?_; refine Stop0.out ?_)
      refine ⟨?_⟩
      intro wz hwz hoz
      have HWZ := m_ hwz
      have HOZ := m_ hoz
      have HBZ := m_ (hoz.below HS9.out.bel HG.out.h2)
      clear hwz hoz k0_ k1_ k2_ k3_ k4_ k5_ k6_ k7_ k8_ k9_ k10_
      go_wp2
      refine bodyPost_ret (results_ct rfl _ _ gb495 29 #[.int .u8 2, .int .u32 t497, .int .u32 0, .int .u32 0, .int .u32 0, .int .i64 0, .int .u32 0, .slice none 0 0, .int .i64 0, .bool false, .slice none 0 0] (0, 0) _ rfl HWZ.out Try.underlying29 rfl (by kernel_rfl)) rfl ?_
      refine ⟨_, _, rfl, Kd.R_nil _ _ _ _ _, Kd.V_nil _ _ _ _ _, HBZ.out⟩
    have d19 : decide ((l0.length : Int) < 19) = false := decide_eq_false (by omega)
    obtain ⟨t7, ht7⟩ : ∃ t, valP l0 7 4 = t := ⟨_, rfl⟩
    have HT7 := m_ ht7
    have A7 := m_ (show stolonref16_value.f 10 l0 7 4 = some t7 from (val_ok l0 7 4 10 (by omega) HLEN.out.2 (by omega)).trans (congrArg some ht7))
    clear ht7
    go_wp2_with (go_at_call 38; refine Stop0.out ?_)
    refine ⟨?_⟩
    refine (stolonref16_value.calls 10 _ _ l0 7 4 t7 _ (Kd.V_reads' HS9.out.row).2.2 (Kd.V_reads' HS9.out.row).2.1 A7.out).mono ?_
    rintro e w' ⟨rfl, ⟨nd, rfl⟩⟩
    have HS10 := m_ (HS9.out.drewN nd)
    generalize World.drewN _ nd = w10 at HS10 ⊢
    clear hx
    have hc2 := (blk_cell HS10.out.msg 2).trans rfl
    have hf2 := blk_frozen HS10.out.msg 2
    obtain ⟨t11, ht11⟩ : ∃ t, valP l0 11 4 = t := ⟨_, rfl⟩
    have HT11 := m_ ht11
    have A11 := m_ (show stolonref16_value.f 10 l0 11 4 = some t11 from (val_ok l0 11 4 10 (by omega) HLEN.out.2 (by omega)).trans (congrArg some ht11))
    clear ht11
    go_wp2_with (go_at_call 38; refine Stop0.out ?_)
    refine ⟨?_⟩
    have HS11 := m_ (HS10.out.set HG.out 2 (.int .u32 t7) (#[.int .u8 2, .int .u32 t497, .int .u32 t7, .int .u32 0, .int .u32 0, .int .i64 0, .int .u32 0, .slice none 0 0, .int .i64 0, .bool false, .slice none 0 0]) rfl)
    generalize World.setCell _ ⟨gb498, 2, none⟩ (.int .u32 t7) = w11 at HS11 ⊢
    clear hc2 hf2 HS10
    refine (stolonref16_value.calls 10 _ _ l0 11 4 t11 _ (Kd.V_reads' HS11.out.row).2.2 (Kd.V_reads' HS11.out.row).2.1 A11.out).mono ?_
    rintro e w' ⟨rfl, ⟨nd, rfl⟩⟩
    have HS12 := m_ (HS11.out.drewN nd)
    generalize World.drewN _ nd = w12 at HS12 ⊢
    have hc3 := (blk_cell HS12.out.msg 3).trans rfl
    have hf3 := blk_frozen HS12.out.msg 3
    obtain ⟨t15, ht15⟩ : ∃ t, valP l0 15 4 = t := ⟨_, rfl⟩
    have HT15 := m_ ht15
    have A15 := m_ (show stolonref16_value.f 10 l0 15 4 = some t15 from (val_ok l0 15 4 10 (by omega) HLEN.out.2 (by omega)).trans (congrArg some ht15))
    clear ht15
    go_wp2_with (go_at_call 38; refine Stop0.out ?_)
    refine ⟨?_⟩
    have HS13 := m_ (HS12.out.set HG.out 3 (.int .u32 t11) (#[.int .u8 2, .int .u32 t497, .int .u32 t7, .int .u32 t11, .int .u32 0, .int .i64 0, .int .u32 0, .slice none 0 0, .int .i64 0, .bool false, .slice none 0 0]) rfl)
    generalize World.setCell _ ⟨gb498, 3, none⟩ (.int .u32 t11) = w13 at HS13 ⊢
    clear hc3 hf3 HS12
    refine (stolonref16_value.calls 10 _ _ l0 15 4 t15 _ (Kd.V_reads' HS13.out.row).2.2 (Kd.V_reads' HS13.out.row).2.1 A15.out).mono ?_
    rintro e w' ⟨rfl, ⟨nd, rfl⟩⟩
    have HS14 := m_ (HS13.out.drewN nd)
    generalize World.drewN _ nd = w14 at HS14 ⊢
    have hc4 := (blk_cell HS14.out.msg 4).trans rfl
    have hf4 := blk_frozen HS14.out.msg 4
    go_wp2_with ((with_reducible refine gate_dst (N := 50) rfl ?_); refine Stop0.out ?_)
    refine ⟨?_⟩
    have HS15 := m_ (HS14.out.set HG.out 4 (.int .u32 t15) (#[.int .u8 2, .int .u32 t497, .int .u32 t7, .int .u32 t11, .int .u32 t15, .int .i64 0, .int .u32 0, .slice none 0 0, .int .i64 0, .bool false, .slice none 0 0]) rfl)
    generalize World.setCell _ ⟨gb498, 4, none⟩ (.int .u32 t15) = w15 at HS15 ⊢
    clear hc4 hf4 HS14
    have hx := HS15.out.at_ 2 (by omega) (by have := HLEN.out; omega)
    rw [show ((2 : Nat) : Int) = 2 from rfl, HKD.out] at hx
    have H1 := H.out
    unfold seemsR at H1
    rw [HKD.out, HX.out, HT7.out, HT11.out, HT15.out] at H1
    rw [if_pos (by omega), if_neg (by omega), if_neg (by omega)] at H1
    simp only [Prod.mk.injEq] at H1
    obtain ⟨rfl, rfl, rfl, rfl, rfl, rfl, rfl, rfl, rfl, rfl, rfl, rfl⟩ := H1
    clear H
    have k0_ := (blk_cell HS15.out.msg 0).trans rfl
    have k1_ := (blk_cell HS15.out.msg 1).trans rfl
    have k2_ := (blk_cell HS15.out.msg 2).trans rfl
    have k3_ := (blk_cell HS15.out.msg 3).trans rfl
    have k4_ := (blk_cell HS15.out.msg 4).trans rfl
    have k5_ := (blk_cell HS15.out.msg 5).trans rfl
    have k6_ := (blk_cell HS15.out.msg 6).trans rfl
    have k7_ := (blk_cell HS15.out.msg 7).trans rfl
    have k8_ := (blk_cell HS15.out.msg 8).trans rfl
    have k9_ := (blk_cell HS15.out.msg 9).trans rfl
    have k10_ := (blk_cell HS15.out.msg 10).trans rfl
    go_wp2_with (refine blk_write (g := gb495) (o' := 0) (cs' := #[.int .u8 2, .int .u32 t497, .int .u32 t7, .int .u32 t11, .int .u32 t15, .int .i64 0, .int .u32 0, .slice none 0 0, .int .i64 0, .bool false, .slice none 0 0]) rfl rfl rfl [.int .u8 2, .int .u32 t497, .int .u32 t7, .int .u32 t11, .int .u32 t15, .int .i64 0, .int .u32 0, .slice none 0 0, .int .i64 0, .bool false, .slice none 0 0] rfl rfl rfl rfl (by simp [Value.oneCell']) HS15.out.res (by simp) rfl ?_; refine Stop0.out ?_)
    refine ⟨?_⟩
    intro wz hwz hoz
    have HWZ := m_ hwz
    have HOZ := m_ hoz
    have HBZ := m_ (hoz.below HS15.out.bel HG.out.h2)
    clear hwz hoz k0_ k1_ k2_ k3_ k4_ k5_ k6_ k7_ k8_ k9_ k10_
    go_wp2
    refine bodyPost_ret (results_ct rfl _ _ gb495 29 #[.int .u8 2, .int .u32 t497, .int .u32 t7, .int .u32 t11, .int .u32 t15, .int .i64 0, .int .u32 0, .slice none 0 0, .int .i64 0, .bool false, .slice none 0 0] (0, 0) _ rfl HWZ.out Try.underlying29 rfl (by kernel_rfl)) rfl ?_
    refine ⟨_, _, rfl, Kd.R_nil _ _ _ _ _, Kd.V_nil _ _ _ _ _, HBZ.out⟩
  by_cases h7 : kd = 7
  · subst h7
    have hx := HS9.out.at_ 2 (by omega) (by have := HLEN.out; omega)
    rw [show ((2 : Nat) : Int) = 2 from rfl, HKD.out] at hx
    by_cases h9 : l0.length < 9
    · have d9 : decide ((l0.length : Int) < 9) = true := decide_eq_true (by omega)
      have H1 := H.out
      unfold seemsR at H1
      rw [HKD.out, HX.out] at H1
      rw [if_neg (by omega), if_pos (by omega), if_pos (by omega)] at H1
      simp only [Prod.mk.injEq] at H1
      obtain ⟨rfl, rfl, rfl, rfl, rfl, rfl, rfl, rfl, rfl, rfl, rfl, rfl⟩ := H1
      clear H
      have k0_ := (blk_cell HS9.out.msg 0).trans rfl
      have k1_ := (blk_cell HS9.out.msg 1).trans rfl
      have k2_ := (blk_cell HS9.out.msg 2).trans rfl
      have k3_ := (blk_cell HS9.out.msg 3).trans rfl
      have k4_ := (blk_cell HS9.out.msg 4).trans rfl
      have k5_ := (blk_cell HS9.out.msg 5).trans rfl
      have k6_ := (blk_cell HS9.out.msg 6).trans rfl
      have k7_ := (blk_cell HS9.out.msg 7).trans rfl
      have k8_ := (blk_cell HS9.out.msg 8).trans rfl
      have k9_ := (blk_cell HS9.out.msg 9).trans rfl
      have k10_ := (blk_cell HS9.out.msg 10).trans rfl
      go_wp2_with (refine blk_write (g := gb495) (o' := 0) (cs' := #[.int .u8 7, .int .u32 t497, .int .u32 0, .int .u32 0, .int .u32 0, .int .i64 0, .int .u32 0, .slice none 0 0, .int .i64 0, .bool false, .slice none 0 0]) rfl rfl rfl [.int .u8 7, .int .u32 t497, .int .u32 0, .int .u32 0, .int .u32 0, .int .i64 0, .int .u32 0, .slice none 0 0, .int .i64 0, .bool false, .slice none 0 0] rfl rfl rfl rfl (by simp [Value.oneCell']) HS9.out.res (by simp) rfl ?_; refine Stop0.out ?_)
      refine ⟨?_⟩
      intro wz hwz hoz
      have HWZ := m_ hwz
      have HOZ := m_ hoz
      have HBZ := m_ (hoz.below HS9.out.bel HG.out.h2)
      clear hwz hoz k0_ k1_ k2_ k3_ k4_ k5_ k6_ k7_ k8_ k9_ k10_
      go_wp2
      refine bodyPost_ret (results_ct rfl _ _ gb495 29 #[.int .u8 7, .int .u32 t497, .int .u32 0, .int .u32 0, .int .u32 0, .int .i64 0, .int .u32 0, .slice none 0 0, .int .i64 0, .bool false, .slice none 0 0] (0, 0) _ rfl HWZ.out Try.underlying29 rfl (by kernel_rfl)) rfl ?_
      refine ⟨_, _, rfl, Kd.R_nil _ _ _ _ _, Kd.V_nil _ _ _ _ _, HBZ.out⟩
    have d9 : decide ((l0.length : Int) < 9) = false := decide_eq_false (by omega)
    have q7 : (7 < l0.length) = True := eq_true (by omega)
    have q8 : (8 < l0.length) = True := eq_true (by omega)
    have r7 : (7 < (l0.length : Int)) = True := eq_true (by omega)
    have r8 : (8 < (l0.length : Int)) = True := eq_true (by omega)
    have hx7 := HS9.out.at_ 7 (by omega) (by have := HLEN.out; omega)
    rw [show ((7 : Nat) : Int) = 7 from rfl] at hx7
    have H1 := H.out
    unfold seemsR at H1
    rw [HKD.out, HX.out] at H1
    rw [if_neg (by omega), if_pos (by omega), if_neg (by omega)] at H1
    simp only [Prod.mk.injEq] at H1
    obtain ⟨rfl, rfl, rfl, rfl, rfl, rfl, rfl, rfl, rfl, rfl, rfl, rfl⟩ := H1
    clear H
    have hc8 := (blk_cell HS9.out.msg 8).trans rfl
    have hf8 := blk_frozen HS9.out.msg 8
    go_wp2_with ((with_reducible refine gate_dst (N := 106) rfl ?_); refine Stop0.out ?_)
    refine ⟨?_⟩
    have HS10 := m_ (HS9.out.set HG.out 8 (.int .i64 (wrap64 (rd l0 7))) (#[.int .u8 7, .int .u32 t497, .int .u32 0, .int .u32 0, .int .u32 0, .int .i64 0, .int .u32 0, .slice none 0 0, .int .i64 (wrap64 (rd l0 7)), .bool false, .slice none 0 0]) rfl)
    generalize World.setCell _ ⟨gb498, 8, none⟩ (.int .i64 (wrap64 (rd l0 7))) = w10 at HS10 ⊢
    clear hc8 hf8 HS9 hx hx7
    have hx8 := HS10.out.at_ 8 (by omega) (by have := HLEN.out; omega)
    rw [show ((8 : Nat) : Int) = 8 from rfl] at hx8
    have hc9 := (blk_cell HS10.out.msg 9).trans rfl
    have hf9 := blk_frozen HS10.out.msg 9
    go_wp2_with ((with_reducible refine gate_dst (N := 111) rfl ?_); refine Stop0.out ?_)
    refine ⟨?_⟩
    have HS11 := m_ (HS10.out.set HG.out 9 (.bool (rd l0 8 == 1)) (#[.int .u8 7, .int .u32 t497, .int .u32 0, .int .u32 0, .int .u32 0, .int .i64 0, .int .u32 0, .slice none 0 0, .int .i64 (wrap64 (rd l0 7)), .bool (rd l0 8 == 1), .slice none 0 0]) rfl)
    generalize World.setCell _ ⟨gb498, 9, none⟩ (.bool (rd l0 8 == 1)) = w11 at HS11 ⊢
    clear hc9 hf9 HS10 hx8
    have hx := HS11.out.at_ 2 (by omega) (by have := HLEN.out; omega)
    rw [show ((2 : Nat) : Int) = 2 from rfl, HKD.out] at hx
    have k0_ := (blk_cell HS11.out.msg 0).trans rfl
    have k1_ := (blk_cell HS11.out.msg 1).trans rfl
    have k2_ := (blk_cell HS11.out.msg 2).trans rfl
    have k3_ := (blk_cell HS11.out.msg 3).trans rfl
    have k4_ := (blk_cell HS11.out.msg 4).trans rfl
    have k5_ := (blk_cell HS11.out.msg 5).trans rfl
    have k6_ := (blk_cell HS11.out.msg 6).trans rfl
    have k7_ := (blk_cell HS11.out.msg 7).trans rfl
    have k8_ := (blk_cell HS11.out.msg 8).trans rfl
    have k9_ := (blk_cell HS11.out.msg 9).trans rfl
    have k10_ := (blk_cell HS11.out.msg 10).trans rfl
    go_wp2_with (refine blk_write (g := gb495) (o' := 0) (cs' := #[.int .u8 7, .int .u32 t497, .int .u32 0, .int .u32 0, .int .u32 0, .int .i64 0, .int .u32 0, .slice none 0 0, .int .i64 (wrap64 (rd l0 7)), .bool (rd l0 8 == 1), .slice none 0 0]) rfl rfl rfl [.int .u8 7, .int .u32 t497, .int .u32 0, .int .u32 0, .int .u32 0, .int .i64 0, .int .u32 0, .slice none 0 0, .int .i64 (wrap64 (rd l0 7)), .bool (rd l0 8 == 1), .slice none 0 0] rfl rfl rfl rfl (by simp [Value.oneCell']) HS11.out.res (by simp) rfl ?_; refine Stop0.out ?_)
    refine ⟨?_⟩
    intro wz hwz hoz
    have HWZ := m_ hwz
    have HOZ := m_ hoz
    have HBZ := m_ (hoz.below HS11.out.bel HG.out.h2)
    clear hwz hoz k0_ k1_ k2_ k3_ k4_ k5_ k6_ k7_ k8_ k9_ k10_
    go_wp2
    refine bodyPost_ret (results_ct rfl _ _ gb495 29 #[.int .u8 7, .int .u32 t497, .int .u32 0, .int .u32 0, .int .u32 0, .int .i64 0, .int .u32 0, .slice none 0 0, .int .i64 (wrap64 (rd l0 7)), .bool (rd l0 8 == 1), .slice none 0 0] (0, 0) _ rfl HWZ.out Try.underlying29 rfl (by kernel_rfl)) rfl ?_
    refine ⟨_, _, rfl, Kd.R_nil _ _ _ _ _, Kd.V_nil _ _ _ _ _, HBZ.out⟩
  by_cases h8 : kd = 8
  · subst h8
    have hx := HS9.out.at_ 2 (by omega) (by have := HLEN.out; omega)
    rw [show ((2 : Nat) : Int) = 2 from rfl, HKD.out] at hx
    by_cases h8 : l0.length < 8
    · have d8 : decide ((l0.length : Int) < 8) = true := decide_eq_true (by omega)
      have H1 := H.out
      unfold seemsR at H1
      rw [HKD.out, HX.out] at H1
      rw [if_neg (by omega), if_neg (by omega), if_pos (by omega), if_pos (by omega)] at H1
      simp only [Prod.mk.injEq] at H1
      obtain ⟨rfl, rfl, rfl, rfl, rfl, rfl, rfl, rfl, rfl, rfl, rfl, rfl⟩ := H1
      clear H
      have k0_ := (blk_cell HS9.out.msg 0).trans rfl
      have k1_ := (blk_cell HS9.out.msg 1).trans rfl
      have k2_ := (blk_cell HS9.out.msg 2).trans rfl
      have k3_ := (blk_cell HS9.out.msg 3).trans rfl
      have k4_ := (blk_cell HS9.out.msg 4).trans rfl
      have k5_ := (blk_cell HS9.out.msg 5).trans rfl
      have k6_ := (blk_cell HS9.out.msg 6).trans rfl
      have k7_ := (blk_cell HS9.out.msg 7).trans rfl
      have k8_ := (blk_cell HS9.out.msg 8).trans rfl
      have k9_ := (blk_cell HS9.out.msg 9).trans rfl
      have k10_ := (blk_cell HS9.out.msg 10).trans rfl
      go_wp2_with (refine blk_write (g := gb495) (o' := 0) (cs' := #[.int .u8 8, .int .u32 t497, .int .u32 0, .int .u32 0, .int .u32 0, .int .i64 0, .int .u32 0, .slice none 0 0, .int .i64 0, .bool false, .slice none 0 0]) rfl rfl rfl [.int .u8 8, .int .u32 t497, .int .u32 0, .int .u32 0, .int .u32 0, .int .i64 0, .int .u32 0, .slice none 0 0, .int .i64 0, .bool false, .slice none 0 0] rfl rfl rfl rfl (by simp [Value.oneCell']) HS9.out.res (by simp) rfl ?_; refine Stop0.out ?_)
      refine ⟨?_⟩
      intro wz hwz hoz
      have HWZ := m_ hwz
      have HOZ := m_ hoz
      have HBZ := m_ (hoz.below HS9.out.bel HG.out.h2)
      clear hwz hoz k0_ k1_ k2_ k3_ k4_ k5_ k6_ k7_ k8_ k9_ k10_
      go_wp2
      refine bodyPost_ret (results_ct rfl _ _ gb495 29 #[.int .u8 8, .int .u32 t497, .int .u32 0, .int .u32 0, .int .u32 0, .int .i64 0, .int .u32 0, .slice none 0 0, .int .i64 0, .bool false, .slice none 0 0] (0, 0) _ rfl HWZ.out Try.underlying29 rfl (by kernel_rfl)) rfl ?_
      refine ⟨_, _, rfl, Kd.R_nil _ _ _ _ _, Kd.V_nil _ _ _ _ _, HBZ.out⟩
    have d8 : decide ((l0.length : Int) < 8) = false := decide_eq_false (by omega)
    have q7 : (7 < l0.length) = True := eq_true (by omega)
    have r7 : (7 < (l0.length : Int)) = True := eq_true (by omega)
    have hx7 := HS9.out.at_ 7 (by omega) (by have := HLEN.out; omega)
    rw [show ((7 : Nat) : Int) = 7 from rfl] at hx7
    have H1 := H.out
    unfold seemsR at H1
    rw [HKD.out, HX.out] at H1
    rw [if_neg (by omega), if_neg (by omega), if_pos (by omega), if_neg (by omega)] at H1
    simp only [Prod.mk.injEq] at H1
    obtain ⟨rfl, rfl, rfl, rfl, rfl, rfl, rfl, rfl, rfl, rfl, rfl, rfl⟩ := H1
    clear H
    have hc8 := (blk_cell HS9.out.msg 8).trans rfl
    have hf8 := blk_frozen HS9.out.msg 8
    obtain ⟨i0, hi0⟩ : ∃ i, Try.prog.info? 5 = some i := ⟨_, rfl⟩
    have hsz : i0.size = 1 := by
      have h := info5
      rw [hi0] at h
      simp at h
      exact h.2.1
    have hcut2 := cut_from (P := Try.prog) 27 5 .i64 Try.underlying27 hi0 1 hsz (some ad496) l0.length c0 (8 : Int) (by omega) (by omega)
    have hcut := Kd.F_cut (m := 8) (Kd.V_F HS9.out.row) (by omega) (Kd.V_reads' HS9.out.row).2.1
    rw [show (Kd.int .u8).sz = 1 from rfl] at hcut
    rw [show (8 : Int).toNat = 8 from rfl] at hcut2
    obtain ⟨A2, hA2⟩ : ∃ A2, A2 = (if c0 = 8 then some ad496 else (some ad496 : Option Addr).map (·.add (8 * 1))) := ⟨_, rfl⟩
    rw [← hA2] at hcut hcut2
    obtain ⟨c2, hc2⟩ : ∃ c2, c2 = c0 - 8 := ⟨_, rfl⟩
    rw [← hc2] at hcut2
    obtain ⟨n2, hn2⟩ : ∃ n2, n2 = l0.length - 8 := ⟨_, rfl⟩
    rw [← hn2] at hcut2
    have HN2 := m_ hn2
    have HC2 := m_ hc2
    have HCUT := m_ hcut
    have HCC := m_ (Kd.V_reads' HS9.out.row).2.1
    have HA2 := m_ hA2
    clear hi0 hsz hA2 hc2 hcut hn2
    go_wp2_with ((with_reducible refine gate_dst (N := 130) rfl ?_); refine Stop0.out ?_)
    refine ⟨?_⟩
    have HS10 := m_ (HS9.out.set HG.out 8 (.int .i64 (wrap64 (rd l0 7))) (#[.int .u8 8, .int .u32 t497, .int .u32 0, .int .u32 0, .int .u32 0, .int .i64 0, .int .u32 0, .slice none 0 0, .int .i64 (wrap64 (rd l0 7)), .bool false, .slice none 0 0]) rfl)
    generalize World.setCell _ ⟨gb498, 8, none⟩ (.int .i64 (wrap64 (rd l0 7))) = w10 at HS10 ⊢
    clear hc8 hf8 HS9 hx hx7
    have hc10 := (blk_cell HS10.out.msg 10).trans rfl
    have hf10 := blk_frozen HS10.out.msg 10
    go_wp2_with ((with_reducible refine gate_dst (N := 132) rfl ?_); refine Stop0.out ?_)
    refine ⟨?_⟩
    have HS11 := m_ (HS10.out.set HG.out 10 (.slice A2 n2 c2) (#[.int .u8 8, .int .u32 t497, .int .u32 0, .int .u32 0, .int .u32 0, .int .i64 0, .int .u32 0, .slice none 0 0, .int .i64 (wrap64 (rd l0 7)), .bool false, .slice A2 n2 c2]) rfl)
    generalize World.setCell _ ⟨gb498, 10, none⟩ (.slice A2 n2 c2) = w11 at HS11 ⊢
    clear hc10 hf10 HS10 HCUT
    have k0_ := (blk_cell HS11.out.msg 0).trans rfl
    have k1_ := (blk_cell HS11.out.msg 1).trans rfl
    have k2_ := (blk_cell HS11.out.msg 2).trans rfl
    have k3_ := (blk_cell HS11.out.msg 3).trans rfl
    have k4_ := (blk_cell HS11.out.msg 4).trans rfl
    have k5_ := (blk_cell HS11.out.msg 5).trans rfl
    have k6_ := (blk_cell HS11.out.msg 6).trans rfl
    have k7_ := (blk_cell HS11.out.msg 7).trans rfl
    have k8_ := (blk_cell HS11.out.msg 8).trans rfl
    have k9_ := (blk_cell HS11.out.msg 9).trans rfl
    have k10_ := (blk_cell HS11.out.msg 10).trans rfl
    go_wp2_with (refine blk_write (g := gb495) (o' := 0) (cs' := #[.int .u8 8, .int .u32 t497, .int .u32 0, .int .u32 0, .int .u32 0, .int .i64 0, .int .u32 0, .slice none 0 0, .int .i64 (wrap64 (rd l0 7)), .bool false, .slice A2 n2 c2]) rfl rfl rfl [.int .u8 8, .int .u32 t497, .int .u32 0, .int .u32 0, .int .u32 0, .int .i64 0, .int .u32 0, .slice none 0 0, .int .i64 (wrap64 (rd l0 7)), .bool false, .slice A2 n2 c2] rfl rfl rfl rfl (by simp [Value.oneCell']) HS11.out.res (by simp) rfl ?_; refine Stop0.out ?_)
    refine ⟨?_⟩
    intro wz hwz hoz
    have HWZ := m_ hwz
    have HOZ := m_ hoz
    have HBZ := m_ (hoz.below HS11.out.bel HG.out.h2)
    clear hwz hoz k0_ k1_ k2_ k3_ k4_ k5_ k6_ k7_ k8_ k9_ k10_
    go_wp2
    refine bodyPost_ret (results_ct rfl _ _ gb495 29 #[.int .u8 8, .int .u32 t497, .int .u32 0, .int .u32 0, .int .u32 0, .int .i64 0, .int .u32 0, .slice none 0 0, .int .i64 (wrap64 (rd l0 7)), .bool false, .slice A2 n2 c2] (0, 0) _ rfl HWZ.out Try.underlying29 rfl (by kernel_rfl)) rfl ?_
    refine ⟨_, _, rfl, Kd.R_nil _ _ _ _ _, (by
      have h_ := Kd.F_cut (m := 8) (Kd.V_F HS11.out.row) (by omega) HCC.out
      rw [show (Kd.int .u8).sz = 1 from rfl, ← HA2.out] at h_
      have h2_ := Kd.V_mk (e := 5) (base := w.heap.size) (c := c2) (by rw [List.length_drop]; have := HC2.out; have := HCC.out; omega) (Kd.F_step h_ (fun k hk _ => HOZ.out.block k (HG.out.k2 k hk)))
      rw [show (l0.drop 8).length = n2 by rw [List.length_drop]; exact HN2.out.symm] at h2_
      exact Kd.V_mono h2_ (fun k hk => ⟨.inl (HG.out.kp k hk), by simp [Value.ownBlock]⟩)), HBZ.out⟩
  by_cases h9 : kd = 9
  · subst h9
    have hx := HS9.out.at_ 2 (by omega) (by have := HLEN.out; omega)
    rw [show ((2 : Nat) : Int) = 2 from rfl, HKD.out] at hx
    by_cases h8 : l0.length < 8
    · have d8 : decide ((l0.length : Int) < 8) = true := decide_eq_true (by omega)
      have H1 := H.out
      unfold seemsR at H1
      rw [HKD.out, HX.out] at H1
      rw [if_neg (by omega), if_neg (by omega), if_pos (by omega), if_pos (by omega)] at H1
      simp only [Prod.mk.injEq] at H1
      obtain ⟨rfl, rfl, rfl, rfl, rfl, rfl, rfl, rfl, rfl, rfl, rfl, rfl⟩ := H1
      clear H
      have k0_ := (blk_cell HS9.out.msg 0).trans rfl
      have k1_ := (blk_cell HS9.out.msg 1).trans rfl
      have k2_ := (blk_cell HS9.out.msg 2).trans rfl
      have k3_ := (blk_cell HS9.out.msg 3).trans rfl
      have k4_ := (blk_cell HS9.out.msg 4).trans rfl
      have k5_ := (blk_cell HS9.out.msg 5).trans rfl
      have k6_ := (blk_cell HS9.out.msg 6).trans rfl
      have k7_ := (blk_cell HS9.out.msg 7).trans rfl
      have k8_ := (blk_cell HS9.out.msg 8).trans rfl
      have k9_ := (blk_cell HS9.out.msg 9).trans rfl
      have k10_ := (blk_cell HS9.out.msg 10).trans rfl
      go_wp2_with (refine blk_write (g := gb495) (o' := 0) (cs' := #[.int .u8 9, .int .u32 t497, .int .u32 0, .int .u32 0, .int .u32 0, .int .i64 0, .int .u32 0, .slice none 0 0, .int .i64 0, .bool false, .slice none 0 0]) rfl rfl rfl [.int .u8 9, .int .u32 t497, .int .u32 0, .int .u32 0, .int .u32 0, .int .i64 0, .int .u32 0, .slice none 0 0, .int .i64 0, .bool false, .slice none 0 0] rfl rfl rfl rfl (by simp [Value.oneCell']) HS9.out.res (by simp) rfl ?_; refine Stop0.out ?_)
      refine ⟨?_⟩
      intro wz hwz hoz
      have HWZ := m_ hwz
      have HOZ := m_ hoz
      have HBZ := m_ (hoz.below HS9.out.bel HG.out.h2)
      clear hwz hoz k0_ k1_ k2_ k3_ k4_ k5_ k6_ k7_ k8_ k9_ k10_
      go_wp2
      refine bodyPost_ret (results_ct rfl _ _ gb495 29 #[.int .u8 9, .int .u32 t497, .int .u32 0, .int .u32 0, .int .u32 0, .int .i64 0, .int .u32 0, .slice none 0 0, .int .i64 0, .bool false, .slice none 0 0] (0, 0) _ rfl HWZ.out Try.underlying29 rfl (by kernel_rfl)) rfl ?_
      refine ⟨_, _, rfl, Kd.R_nil _ _ _ _ _, Kd.V_nil _ _ _ _ _, HBZ.out⟩
    have d8 : decide ((l0.length : Int) < 8) = false := decide_eq_false (by omega)
    have q7 : (7 < l0.length) = True := eq_true (by omega)
    have r7 : (7 < (l0.length : Int)) = True := eq_true (by omega)
    have hx7 := HS9.out.at_ 7 (by omega) (by have := HLEN.out; omega)
    rw [show ((7 : Nat) : Int) = 7 from rfl] at hx7
    have H1 := H.out
    unfold seemsR at H1
    rw [HKD.out, HX.out] at H1
    rw [if_neg (by omega), if_neg (by omega), if_pos (by omega), if_neg (by omega)] at H1
    simp only [Prod.mk.injEq] at H1
    obtain ⟨rfl, rfl, rfl, rfl, rfl, rfl, rfl, rfl, rfl, rfl, rfl, rfl⟩ := H1
    clear H
    have hc8 := (blk_cell HS9.out.msg 8).trans rfl
    have hf8 := blk_frozen HS9.out.msg 8
    obtain ⟨i0, hi0⟩ : ∃ i, Try.prog.info? 5 = some i := ⟨_, rfl⟩
    have hsz : i0.size = 1 := by
      have h := info5
      rw [hi0] at h
      simp at h
      exact h.2.1
    have hcut2 := cut_from (P := Try.prog) 27 5 .i64 Try.underlying27 hi0 1 hsz (some ad496) l0.length c0 (8 : Int) (by omega) (by omega)
    have hcut := Kd.F_cut (m := 8) (Kd.V_F HS9.out.row) (by omega) (Kd.V_reads' HS9.out.row).2.1
    rw [show (Kd.int .u8).sz = 1 from rfl] at hcut
    rw [show (8 : Int).toNat = 8 from rfl] at hcut2
    obtain ⟨A2, hA2⟩ : ∃ A2, A2 = (if c0 = 8 then some ad496 else (some ad496 : Option Addr).map (·.add (8 * 1))) := ⟨_, rfl⟩
    rw [← hA2] at hcut hcut2
    obtain ⟨c2, hc2⟩ : ∃ c2, c2 = c0 - 8 := ⟨_, rfl⟩
    rw [← hc2] at hcut2
    obtain ⟨n2, hn2⟩ : ∃ n2, n2 = l0.length - 8 := ⟨_, rfl⟩
    rw [← hn2] at hcut2
    have HN2 := m_ hn2
    have HC2 := m_ hc2
    have HCUT := m_ hcut
    have HCC := m_ (Kd.V_reads' HS9.out.row).2.1
    have HA2 := m_ hA2
    clear hi0 hsz hA2 hc2 hcut hn2
    go_wp2_with ((with_reducible refine gate_dst (N := 130) rfl ?_); refine Stop0.out ?_)
    refine ⟨?_⟩
    have HS10 := m_ (HS9.out.set HG.out 8 (.int .i64 (wrap64 (rd l0 7))) (#[.int .u8 9, .int .u32 t497, .int .u32 0, .int .u32 0, .int .u32 0, .int .i64 0, .int .u32 0, .slice none 0 0, .int .i64 (wrap64 (rd l0 7)), .bool false, .slice none 0 0]) rfl)
    generalize World.setCell _ ⟨gb498, 8, none⟩ (.int .i64 (wrap64 (rd l0 7))) = w10 at HS10 ⊢
    clear hc8 hf8 HS9 hx hx7
    have hc10 := (blk_cell HS10.out.msg 10).trans rfl
    have hf10 := blk_frozen HS10.out.msg 10
    go_wp2_with ((with_reducible refine gate_dst (N := 132) rfl ?_); refine Stop0.out ?_)
    refine ⟨?_⟩
    have HS11 := m_ (HS10.out.set HG.out 10 (.slice A2 n2 c2) (#[.int .u8 9, .int .u32 t497, .int .u32 0, .int .u32 0, .int .u32 0, .int .i64 0, .int .u32 0, .slice none 0 0, .int .i64 (wrap64 (rd l0 7)), .bool false, .slice A2 n2 c2]) rfl)
    generalize World.setCell _ ⟨gb498, 10, none⟩ (.slice A2 n2 c2) = w11 at HS11 ⊢
    clear hc10 hf10 HS10 HCUT
    have k0_ := (blk_cell HS11.out.msg 0).trans rfl
    have k1_ := (blk_cell HS11.out.msg 1).trans rfl
    have k2_ := (blk_cell HS11.out.msg 2).trans rfl
    have k3_ := (blk_cell HS11.out.msg 3).trans rfl
    have k4_ := (blk_cell HS11.out.msg 4).trans rfl
    have k5_ := (blk_cell HS11.out.msg 5).trans rfl
    have k6_ := (blk_cell HS11.out.msg 6).trans rfl
    have k7_ := (blk_cell HS11.out.msg 7).trans rfl
    have k8_ := (blk_cell HS11.out.msg 8).trans rfl
    have k9_ := (blk_cell HS11.out.msg 9).trans rfl
    have k10_ := (blk_cell HS11.out.msg 10).trans rfl
    go_wp2_with (refine blk_write (g := gb495) (o' := 0) (cs' := #[.int .u8 9, .int .u32 t497, .int .u32 0, .int .u32 0, .int .u32 0, .int .i64 0, .int .u32 0, .slice none 0 0, .int .i64 (wrap64 (rd l0 7)), .bool false, .slice A2 n2 c2]) rfl rfl rfl [.int .u8 9, .int .u32 t497, .int .u32 0, .int .u32 0, .int .u32 0, .int .i64 0, .int .u32 0, .slice none 0 0, .int .i64 (wrap64 (rd l0 7)), .bool false, .slice A2 n2 c2] rfl rfl rfl rfl (by simp [Value.oneCell']) HS11.out.res (by simp) rfl ?_; refine Stop0.out ?_)
    refine ⟨?_⟩
    intro wz hwz hoz
    have HWZ := m_ hwz
    have HOZ := m_ hoz
    have HBZ := m_ (hoz.below HS11.out.bel HG.out.h2)
    clear hwz hoz k0_ k1_ k2_ k3_ k4_ k5_ k6_ k7_ k8_ k9_ k10_
    go_wp2
    refine bodyPost_ret (results_ct rfl _ _ gb495 29 #[.int .u8 9, .int .u32 t497, .int .u32 0, .int .u32 0, .int .u32 0, .int .i64 0, .int .u32 0, .slice none 0 0, .int .i64 (wrap64 (rd l0 7)), .bool false, .slice A2 n2 c2] (0, 0) _ rfl HWZ.out Try.underlying29 rfl (by kernel_rfl)) rfl ?_
    refine ⟨_, _, rfl, Kd.R_nil _ _ _ _ _, (by
      have h_ := Kd.F_cut (m := 8) (Kd.V_F HS11.out.row) (by omega) HCC.out
      rw [show (Kd.int .u8).sz = 1 from rfl, ← HA2.out] at h_
      have h2_ := Kd.V_mk (e := 5) (base := w.heap.size) (c := c2) (by rw [List.length_drop]; have := HC2.out; have := HCC.out; omega) (Kd.F_step h_ (fun k hk _ => HOZ.out.block k (HG.out.k2 k hk)))
      rw [show (l0.drop 8).length = n2 by rw [List.length_drop]; exact HN2.out.symm] at h2_
      exact Kd.V_mono h2_ (fun k hk => ⟨.inl (HG.out.kp k hk), by simp [Value.ownBlock]⟩)), HBZ.out⟩
  have hx := HS9.out.at_ 2 (by omega) (by have := HLEN.out; omega)
  rw [show ((2 : Nat) : Int) = 2 from rfl, HKD.out] at hx
  have h1' : (kd == 1) = false := beq_eq_false_iff_ne.2 h1
  have h2' : (kd == 2) = false := beq_eq_false_iff_ne.2 h2
  have h7' : (kd == 7) = false := beq_eq_false_iff_ne.2 h7
  have h8' : (kd == 8) = false := beq_eq_false_iff_ne.2 h8
  have h9' : (kd == 9) = false := beq_eq_false_iff_ne.2 h9
  have H1 := H.out
  unfold seemsR at H1
  rw [HKD.out, HX.out] at H1
  rw [if_neg (fun h => h.elim h1 h2), if_neg h7, if_neg (fun h => h.elim h8 h9)] at H1
  simp only [Prod.mk.injEq] at H1
  obtain ⟨rfl, rfl, rfl, rfl, rfl, rfl, rfl, rfl, rfl, rfl, rfl, rfl⟩ := H1
  clear H h1 h2 h7 h8 h9
  have k0_ := (blk_cell HS9.out.msg 0).trans rfl
  have k1_ := (blk_cell HS9.out.msg 1).trans rfl
  have k2_ := (blk_cell HS9.out.msg 2).trans rfl
  have k3_ := (blk_cell HS9.out.msg 3).trans rfl
  have k4_ := (blk_cell HS9.out.msg 4).trans rfl
  have k5_ := (blk_cell HS9.out.msg 5).trans rfl
  have k6_ := (blk_cell HS9.out.msg 6).trans rfl
  have k7_ := (blk_cell HS9.out.msg 7).trans rfl
  have k8_ := (blk_cell HS9.out.msg 8).trans rfl
  have k9_ := (blk_cell HS9.out.msg 9).trans rfl
  have k10_ := (blk_cell HS9.out.msg 10).trans rfl
  go_wp2_with (refine blk_write (g := gb495) (o' := 0) (cs' := #[.int .u8 kd, .int .u32 t497, .int .u32 0, .int .u32 0, .int .u32 0, .int .i64 0, .int .u32 0, .slice none 0 0, .int .i64 0, .bool false, .slice none 0 0]) rfl rfl rfl [.int .u8 kd, .int .u32 t497, .int .u32 0, .int .u32 0, .int .u32 0, .int .i64 0, .int .u32 0, .slice none 0 0, .int .i64 0, .bool false, .slice none 0 0] rfl rfl rfl rfl (by simp [Value.oneCell']) HS9.out.res (by simp) rfl ?_; refine Stop0.out ?_)
  refine ⟨?_⟩
  intro wz hwz hoz
  have HWZ := m_ hwz
  have HOZ := m_ hoz
  have HBZ := m_ (hoz.below HS9.out.bel HG.out.h2)
  clear hwz hoz k0_ k1_ k2_ k3_ k4_ k5_ k6_ k7_ k8_ k9_ k10_
  go_wp2
  refine bodyPost_ret (results_ct rfl _ _ gb495 29 #[.int .u8 kd, .int .u32 t497, .int .u32 0, .int .u32 0, .int .u32 0, .int .i64 0, .int .u32 0, .slice none 0 0, .int .i64 0, .bool false, .slice none 0 0] (0, 0) _ rfl HWZ.out Try.underlying29 rfl (by kernel_rfl)) rfl ?_
  refine ⟨_, _, rfl, Kd.R_nil _ _ _ _ _, Kd.V_nil _ _ _ _ _, HBZ.out⟩
end Go.Proofs.Ytboonfidioombaa.P

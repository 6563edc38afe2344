/- For each Go function a Lean function, and the proof that a call comes to what it tells: made by program out of the translation (the kit's print, with texts by hand put in). No condition. -/
import Derived.Test.YticjabdkjjbegaaPx0
import Derived.Test.YticjabdkjjbegaaPx3
namespace Go.Proofs.Yticjabdkjjbegaa.P
open Go.RowKit Go.Proofs.Yticjabdkjjbegaa.HRows Go.Proofs.YticjabdkjjbegaaW.PrintWords Go.Proofs.YticjabdkjjbegaaW.PrintLast Go.Proofs.YticjabdkjjbegaaW.PrintMore
attribute [local go_sem] max2_int min2_int max_two min_two max_three min_three max_four min_four   -- for this text's walks alone
set_option linter.unusedVariables false
set_option linter.unusedSimpArgs false

/-! ### graph_Nodes: function 13, by hand (graph.Nodes.lean.tpl) -/
theorem int_at {w : World} {A : Option Addr} {l : List Int} (hr : Kd.C (Kd.int .i64) w A l.length l) (k : Nat) (hlt : k < l.length) : ∃ ad, A = some ad ∧ w.cell? (ad.add k) = some (.int .i64 (l[k]'hlt)) := by
  obtain ⟨ad, c1, rfl, hc1, hK, hcell⟩ := ReadsRow.get_ hr 0 (k : Int) (by omega) (by omega)
  refine ⟨ad, rfl, ?_⟩
  have hK' : c1 = [.int .i64 (l.getD (k : Int).toNat 0)] := hK
  have := hcell 0 (.int .i64 (l.getD (k : Int).toNat 0)) (by rw [hK']; rfl)
  simpa [List.getD_eq_getElem?_getD, List.getElem?_eq_getElem hlt, Kd.int, Kd.scalar] using this
set_option maxHeartbeats 1000000 in
theorem indexInt_calls (v : Int) (A : Option Addr) (c : Nat) (l : List Int) (w : World) (hr : Kd.C (Kd.int .i64) w A l.length l) :
    Calls Try.prog 41 #[.slice A l.length c, .int .i64 v] w fun e w' => e = .returned (.int .i64 (idxF (fun x => x == v) l)) ∧ w = w' := by
  have hl : l.length ≤ 9223372036854775807 := hr.2.1
  have HR := Aside0.mk hr
  clear hr
  go_enter Try.func41, Try.ntmps41
  go_wp2
  go_loopg [5, 8] l.length (fun gg _ s8 wr => ∃ kk : Nat, kk ≤ l.length ∧ l.length - kk ≤ gg ∧ s8 = .int .i64 kk ∧ Aside0 (w = wr) ∧ Aside0 (∀ j (h : j < l.length), j < kk → (l[j]'h == v) = false))
  case atStart => exact ⟨0, Nat.zero_le _, by omega, rfl, ⟨rfl⟩, ⟨fun j _ hj => absurd hj (Nat.not_lt_zero _)⟩⟩
  case round =>
    obtain ⟨kk, hkk, hg, rfl, HB, HA⟩ := hrel
    obtain rfl := HB.out
    by_cases hlt : kk < l.length
    · have hlt' : (kk : Int) < (l.length : Int) := by omega
      obtain ⟨ad, rfl, hcell1⟩ := int_at HR.out kk hlt
      generalize hx : l[kk]'hlt = x at hcell1
      have HX := Aside0.mk hx
      clear hx
      by_cases hq : v = x
      · subst hq
        have hd2 : (v == v) = true := by simp
        go_wp2
        go_ret
        refine ⟨?_, rfl⟩
        rw [idxF_hit _ l kk hlt (by rw [HX.out]; simp) HA.out]
        rfl
      · have hd : decide (v = x) = false := by simpa using hq
        have HQ := Aside0.mk hq
        have hd2 : (v == x) = false := beq_eq_false_iff_ne.mpr hq
        have hd3 : (v != x) = true := bne_iff_ne.mpr hq
        clear hq
        go_wp2
        go_roundg (l.length - (kk + 1))
        case measure => omega
        case rel =>
          refine ⟨kk + 1, by omega, by omega, by go_num, ⟨rfl⟩, ⟨fun j h hj => ?_⟩⟩
          by_cases e : j = kk
          · subst e
            rw [HX.out]
            simpa using fun h => HQ.out h.symm
          · exact HA.out j h (by omega)
    · have hlt' : ¬ (kk : Int) < (l.length : Int) := by omega
      have : kk = l.length := by omega
      subst this
      go_wp2
      go_ret
      refine ⟨?_, rfl⟩
      rw [idxF_miss _ l (fun j h => HA.out j h h)]
      rfl
set_option maxHeartbeats 1000000 in
theorem containsInt_calls (v : Int) (A : Option Addr) (c : Nat) (l : List Int) (w : World) (hr : Kd.C (Kd.int .i64) w A l.length l) :
    Calls Try.prog 27 #[.slice A l.length c, .int .i64 v] w fun e w' => e = .returned (.bool (l.any (fun x => x == v))) ∧ w = w' := by
  rw [← idxF_nonneg]
  have HR := Aside0.mk hr
  clear hr
  go_enter Try.func27, Try.ntmps27
  go_wp2_with (go_at_call 41; refine (indexInt_calls v A c l _ HR.out).mono ?_; rintro e w' ⟨rfl, rfl⟩)
  go_ret
  exact ⟨rfl, rfl⟩
def graph_Nodes.f (a0_0 : Int) (l0_1 : List (S41)) (l1 : List Int) (a2 : Int) : Option (List Int) := if okG a0_0 l0_1 = true then some (markedTo (spreadF a0_0 l0_1 (fun i => l1.any (fun x => x == (i : Int))) a2) 32) else none
set_option maxHeartbeats 1000000 in
theorem nodes1_calls (gb : Nat) (A : Option Addr) (c : Nat) (l : List Int) (i : Int) (W : World) (hB : W.heap[gb]? = some (.cells #[.slice A l.length c] 25 (0, 0))) (hr : Kd.C (Kd.int .i64) W A l.length l) :
    Calls Try.prog 26 #[.int .i64 i, .pointer (some ⟨gb, 0, none⟩)] W fun e W' => e = .returned (.bool (l.any (fun x => x == i))) ∧ Below W.heap.size W W' := by
  have cB : W.cell? ⟨gb, 0, none⟩ = some (.slice A l.length c) := blk_cell hB 0
  have HR := Aside0.mk hr
  clear hB hr
  go_enter Try.func26, Try.ntmps26
  go_wp2_with (go_at_call 27; refine (containsInt_calls i A c l _ HR.out).mono ?_; rintro e w' ⟨rfl, rfl⟩)
  go_ret
  exact ⟨rfl, Below.refl _ _⟩
set_option maxHeartbeats 4000000 in
set_option maxRecDepth 100000 in
theorem graph_Nodes.calls (a0_0 : Int) (A0_1 : Option Addr) (c0_1 : Nat) (l0_1 : List (S41)) (A1 : Option Addr) (c1 : Nat) (l1 : List Int) (a2 : Int) (r : List Int) (w : World) (hr0_1 : Kd.C k41 w A0_1 l0_1.length l0_1) (hc0_1 : l0_1.length ≤ c0_1) (hr1 : Kd.C (Kd.int .i64) w A1 l1.length l1) (hc1 : l1.length ≤ c1) (h : graph_Nodes.f a0_0 l0_1 l1 a2 = some r) :
    Calls Try.prog 13 #[.agg #[.int .i64 a0_0, .slice A0_1 l0_1.length c0_1], .slice A1 l1.length c1, .int .i64 a2] w fun e w' => ∃ v0_ : Value, e = .returned (v0_) ∧ Kd.R (Kd.int .i64) 3 w' w.heap.size (fun _ => True) v0_ r ∧ Below w.heap.size w w' := by
  unfold graph_Nodes.f at h
  split at h
  case isFalse => cases h
  case isTrue hok =>
  obtain rfl := Option.some.inj h
  clear h
  obtain ⟨hn, hlen, hOK⟩ := okG_open hok
  have HOK := Aside0.mk hOK
  have HR := Aside0.mk hr0_1
  have HR1 := Aside0.mk hr1
  have hu2 := Try.underlying24
  have hmf : ∀ (fn : Fn) (first cap : Array Value) (w : World), (Instr.makeFunc fn first cap).run Try.prog w = .ok (.func fn first cap) w := fun _ _ _ _ => rfl
  have eg : ∀ args w, (callFunc 26 args).run Try.prog w = .ok (.enter 26 args) w := fun _ _ => rfl
  have HEG := Aside0.mk eg
  clear hr0_1 hc0_1 hr1 hc1 hok hOK eg
  go_enter Try.func13, Try.ntmps13
  go_wp2_with (go_at_call 25; refine Stop0.out ?_)
  refine ⟨?_⟩
  have HB := Aside0.mk (blk_new (w.alloc (.cells #[.int .i64 a0_0, .slice A0_1 l0_1.length c0_1] 24)) (.cells #[.slice A1 l1.length c1] 25))
  have HBW := Aside0.mk (below_alloc (below_alloc (Below.refl w.heap.size w) (.cells #[.int .i64 a0_0, .slice A0_1 l0_1.length c0_1] 24)) (.cells #[.slice A1 l1.length c1] 25))
  rw [World.size_alloc] at HB
  generalize (World.alloc _ _) = w1 at HB HBW ⊢
  refine (spread_calls 26 #[.pointer (some ⟨w.heap.size + 1, 0, none⟩)] (fun i => l1.any (fun x => x == (i : Int))) a0_0 a2 A0_1 c0_1 l0_1 w1 HEG.out (Kd.C_below HR.out HBW.out) HOK.out hn (by omega) (fun i W hb _ => nodes1_calls (w.heap.size + 1) A1 c1 l1 i W (blk_below HB.out hb) (Kd.C_below (Kd.C_below HR1.out HBW.out) hb))).mono ?_
  rintro e w2 ⟨rfl, hb⟩
  have HB2 := Aside0.mk (below_then HBW.out HBW.out.size hb)
  clear hb
  have HL := Aside0.mk (spreadF_len a0_0 l0_1 (fun i => l1.any (fun x => x == (i : Int))) a2)
  generalize hm : spreadF a0_0 l0_1 (fun i => l1.any (fun x => x == (i : Int))) a2 = m at HL ⊢
  have HMm := Aside0.mk hm
  clear hm
  go_wp2_with (go_at_call 28; refine Stop0.out ?_)
  refine ⟨?_⟩
  refine (rows_calls m HL.out w2).mono ?_
  rintro e w3 ⟨v, rfl, hR, hb⟩
  have HR3 := Aside0.mk (And.intro (Kd.R_lower hR HB2.out.size) (below_then HB2.out HB2.out.size hb))
  clear hR hb
  go_wp2
  go_ret
  refine ⟨_, rfl, ?_, HR3.out.2⟩
  rw [HMm.out]
  exact HR3.out.1

/-! ### cmp_isNaN_int: function 45 -/
def cmp_isNaN_int.f (a0 : Int) : Option (Bool) := some (a0 != a0)
set_option maxHeartbeats 8000000 in
set_option maxRecDepth 100000 in
theorem cmp_isNaN_int.calls (a0 : Int) (r : Bool) (w : World) (h : cmp_isNaN_int.f a0 = some r) :
    Calls Try.prog 45 #[.int .i64 a0] w fun e w' => e = .returned (.bool r) ∧ Drawn0 w w' := by
  have H : (some (a0 != a0)) = some r := h
  clear h
  obtain rfl := Option.some.inj H
  go_enter Try.func45, Try.ntmps45
  go_wp2
  go_ret
  exact ⟨by first | rfl | (simp; done) | (simp [*]; done), by repeat (first | exact Drawn0.refl _ | apply Drawn0.step)⟩

/-! ### cmp_Less_int: function 42 -/
def cmp_Less_int.f (a0 : Int) (a1 : Int) : Option (Bool) := (cmp_isNaN_int.f a0).bind fun t102 => (if t102 = true then ((cmp_isNaN_int.f a1).bind fun t103 => (if t103 = true then (some (decide (a0 < a1))) else (some true))) else (some (decide (a0 < a1))))
set_option maxHeartbeats 8000000 in
set_option maxRecDepth 100000 in
theorem cmp_Less_int.calls (a0 : Int) (a1 : Int) (r : Bool) (w : World) (h : cmp_Less_int.f a0 a1 = some r) :
    Calls Try.prog 42 #[.int .i64 a0, .int .i64 a1] w fun e w' => e = .returned (.bool r) ∧ Drawn0 w w' := by
  have H : ((cmp_isNaN_int.f a0).bind fun t102 => (if t102 = true then ((cmp_isNaN_int.f a1).bind fun t103 => (if t103 = true then (some (decide (a0 < a1))) else (some true))) else (some (decide (a0 < a1))))) = some r := h
  clear h
  replace H := Option.bind_eq_some_iff.mp H
  obtain ⟨t102, A30, H⟩ := H
  replace H : (if t102 = true then ((cmp_isNaN_int.f a1).bind fun t103 => (if t103 = true then (some (decide (a0 < a1))) else (some true))) else (some (decide (a0 < a1)))) = some r := H
  have A3 := Aside0.mk A30
  clear A30
  by_cases c4 : t102 = true
  · subst c4
    have H1 : ((cmp_isNaN_int.f a1).bind fun t103 => (if t103 = true then (some (decide (a0 < a1))) else (some true))) = some r := by rw [if_pos rfl] at H; exact H
    clear H
    have H := H1
    clear H1
    replace H := Option.bind_eq_some_iff.mp H
    obtain ⟨t103, A50, H⟩ := H
    replace H : (if t103 = true then (some (decide (a0 < a1))) else (some true)) = some r := H
    have A5 := Aside0.mk A50
    clear A50
    by_cases c6 : t103 = true
    · subst c6
      have H1 : (some (decide (a0 < a1))) = some r := by rw [if_pos rfl] at H; exact H
      clear H
      have H := H1
      clear H1
      obtain rfl := Option.some.inj H
      go_enter Try.func42, Try.ntmps42
      go_wp2_with (first | ((with_reducible refine gate_callee (f := 45) rfl ?_); refine goesL_ (some 6) rfl rfl Try.func45 (by kernel_rfl) rfl #[.int .i64 a0] rfl (by (try simp only [List.map_toArray, List.map_cons, List.map_nil]); first | done | rfl | (simp only [List.length_drop, List.length_take]; rfl)) ?_; (with_reducible refine (cmp_isNaN_int.calls a0 true _ A3.out).mono ?_); rintro e w' ⟨rfl, ⟨nd, rfl⟩⟩; refine ⟨_, rfl, ?_⟩) | (go_at_call 45; (with_reducible refine (cmp_isNaN_int.calls a1 true _ A5.out).mono ?_); rintro e w' ⟨rfl, ⟨nd, rfl⟩⟩))
      go_ret
      exact ⟨by first | rfl | (simp; done) | (simp [*]; done), by repeat (first | exact Drawn0.refl _ | apply Drawn0.step)⟩
    · replace c6 := Bool.eq_false_iff.mpr c6
      subst c6
      have H1 : (some true) = some r := by rw [if_neg (show ¬ (false = true) by decide)] at H; exact H
      clear H
      have H := H1
      clear H1
      obtain rfl := Option.some.inj H
      go_enter Try.func42, Try.ntmps42
      go_wp2_with (first | ((with_reducible refine gate_callee (f := 45) rfl ?_); refine goesL_ (some 6) rfl rfl Try.func45 (by kernel_rfl) rfl #[.int .i64 a0] rfl (by (try simp only [List.map_toArray, List.map_cons, List.map_nil]); first | done | rfl | (simp only [List.length_drop, List.length_take]; rfl)) ?_; (with_reducible refine (cmp_isNaN_int.calls a0 true _ A3.out).mono ?_); rintro e w' ⟨rfl, ⟨nd, rfl⟩⟩; refine ⟨_, rfl, ?_⟩) | (go_at_call 45; (with_reducible refine (cmp_isNaN_int.calls a1 false _ A5.out).mono ?_); rintro e w' ⟨rfl, ⟨nd, rfl⟩⟩))
      go_ret
      exact ⟨by first | rfl | (simp; done) | (simp [*]; done), by repeat (first | exact Drawn0.refl _ | apply Drawn0.step)⟩
  · replace c4 := Bool.eq_false_iff.mpr c4
    subst c4
    have H1 : (some (decide (a0 < a1))) = some r := by rw [if_neg (show ¬ (false = true) by decide)] at H; exact H
    clear H
    have H := H1
    clear H1
    obtain rfl := Option.some.inj H
    go_enter Try.func42, Try.ntmps42
    go_wp2_with (first | ((with_reducible refine gate_callee (f := 45) rfl ?_); refine goesL_ (some 6) rfl rfl Try.func45 (by kernel_rfl) rfl #[.int .i64 a0] rfl (by (try simp only [List.map_toArray, List.map_cons, List.map_nil]); first | done | rfl | (simp only [List.length_drop, List.length_take]; rfl)) ?_; (with_reducible refine (cmp_isNaN_int.calls a0 false _ A3.out).mono ?_); rintro e w' ⟨rfl, ⟨nd, rfl⟩⟩; refine ⟨_, rfl, ?_⟩))
    go_ret
    exact ⟨by first | rfl | (simp; done) | (simp [*]; done), by repeat (first | exact Drawn0.refl _ | apply Drawn0.step)⟩

/-! ### slices_IsSorted_int_int: function 31 -/
def slices_IsSorted_int_int.l0 : Nat → List Int → Int → Option (Bool)
  | 0, _, _ => none
  | k + 1, x0, x3 => if x3 > 0 then (if 0 ≤ x3 then (if x3 < (x0.length : Int) then (if 0 ≤ (wrap64 (x3 - 1)) then (if (wrap64 (x3 - 1)) < (x0.length : Int) then ((cmp_Less_int.f (rd x0 x3) (rd x0 (wrap64 (x3 - 1)))).bind fun t106 => (if t106 = true then (some false) else (slices_IsSorted_int_int.l0 k x0 (wrap64 (x3 - 1))))) else (none)) else (none)) else (none)) else (none)) else (some true)
def slices_IsSorted_int_int.f (k : Nat) (l0 : List Int) : Option (Bool) := slices_IsSorted_int_int.l0 k l0 (wrap64 ((l0.length : Int) - 1))
theorem slices_IsSorted_int_int.mono_l : ∀ k, (∀ y0 y1, LeO (slices_IsSorted_int_int.l0 k y0 y1) (slices_IsSorted_int_int.l0 (k + 1) y0 y1))
  | 0 => fun _ _ r h => by simp [slices_IsSorted_int_int.l0] at h
  | k + 1 => by
    have ih0 := slices_IsSorted_int_int.mono_l k
    · intro y0 y1
      unfold slices_IsSorted_int_int.l0
      repeat' first
      | (with_reducible exact ih0 _ _)
      | (with_reducible exact LeO.refl _)
      | (with_reducible exact LeO.none _)
      | (with_reducible refine LeO.ite ?_ ?_)
      | (with_reducible refine LeO.bind ?_ (fun _ => ?_))
      | exact ih0 _ _
      | exact LeO.none _
      | refine LeO.ite ?_ ?_
      | refine LeO.bind ?_ (fun _ => ?_)
theorem slices_IsSorted_int_int.mono : ∀ a0 k, LeO (slices_IsSorted_int_int.f k a0) (slices_IsSorted_int_int.f (k + 1) a0) := by
  intro a0 k
  have ih0 := slices_IsSorted_int_int.mono_l k
  unfold slices_IsSorted_int_int.f
  repeat' first
      | (with_reducible exact ih0 _ _)
      | (with_reducible exact LeO.refl _)
      | (with_reducible exact LeO.none _)
      | (with_reducible refine LeO.ite ?_ ?_)
      | (with_reducible refine LeO.bind ?_ (fun _ => ?_))
      | exact ih0 _ _
      | exact LeO.none _
      | refine LeO.ite ?_ ?_
      | refine LeO.bind ?_ (fun _ => ?_)
set_option maxHeartbeats 8000000 in
set_option maxRecDepth 100000 in
theorem slices_IsSorted_int_int.calls (k : Nat) (A0 : Option Addr) (c0 : Nat) (l0 : List Int) (r : Bool) (w : World) (hr0 : Kd.C (Kd.int .i64) w A0 l0.length l0) (hc0 : l0.length ≤ c0) (h : slices_IsSorted_int_int.f k l0 = some r) :
    Calls Try.prog 31 #[.slice A0 l0.length c0] w fun e w' => e = .returned (.bool r) ∧ Drawn0 w w' := by
  have HR0 := Aside0.mk hr0
  have HC0 := Aside0.mk hc0
  clear hr0 hc0
  have H : (slices_IsSorted_int_int.l0 k l0 (wrap64 ((l0.length : Int) - 1))) = some r := h
  clear h
  have H' := Aside0.mk H
  clear H
  go_enter Try.func31, Try.ntmps31
  go_wp2
  repeat (go_quiet (fail); try go_wp2)
  go_loopg [3] k (fun kq v3 w' => ∃ (x3_1 : Int), v3 = .int .i64 x3_1 ∧ Aside0 (slices_IsSorted_int_int.l0 kq l0 x3_1 = some r) ∧ Aside0 (kq ≤ k) ∧ Drawn0 w w')
  case atStart => exact ⟨(wrap64 ((l0.length : Int) - 1)), (by first | rfl | (simp; done) | (simp [*]; done)), H', ⟨Nat.le_refl _⟩, by repeat (first | exact Drawn0.refl _ | apply Drawn0.step)⟩
  case round =>
    clear H'
    obtain ⟨x3_1, rfl, HA, HK1, ⟨m1, rfl⟩⟩ := hrel
    cases gk with
    | zero => exact absurd HA.out (by simp [slices_IsSorted_int_int.l0])
    | succ k1 =>
      have H := HA.out
      clear HA
      simp only [slices_IsSorted_int_int.l0] at H
      by_cases c2 : x3_1 > 0
      · rw [if_pos c2] at H
        have c2b0 : decide (0 < x3_1) = true := decide_eq_true c2
        clear c2
        by_cases c3 : 0 ≤ x3_1
        · rw [if_pos c3] at H
          have c3b0 : decide (0 ≤ x3_1) = true := decide_eq_true c3
          clear c3
          by_cases c4 : x3_1 < (l0.length : Int)
          · rw [if_pos c4] at H
            have c4b0 : decide (x3_1 < (l0.length : Int)) = true := decide_eq_true c4
            clear c4
            obtain ⟨ji5, hji5⟩ : ∃ j_ : Int, (wrap64 (x3_1 - 1)) = j_ := ⟨_, rfl⟩
            replace H : (if 0 ≤ (ji5) then (if (ji5) < (l0.length : Int) then ((cmp_Less_int.f (rd l0 x3_1) (rd l0 (ji5))).bind fun t106 => (if t106 = true then (some false) else (slices_IsSorted_int_int.l0 k1 l0 ji5))) else (none)) else (none)) = some r := by first | (rw [hji5] at H; exact H) | (simp only [hji5] at H ⊢; exact H)
            have hji5w : (IntKind.i64.wrap (x3_1 - 1)) = ji5 := (i64_w _).trans hji5
            by_cases c6 : 0 ≤ (ji5)
            · rw [if_pos c6] at H
              have c6b0 : decide (0 ≤ (ji5)) = true := decide_eq_true c6
              clear c6
              by_cases c7 : (ji5) < (l0.length : Int)
              · rw [if_pos c7] at H
                have c7b0 : decide ((ji5) < (l0.length : Int)) = true := decide_eq_true c7
                clear c7
                replace H := Option.bind_eq_some_iff.mp H
                obtain ⟨t106, A80, H⟩ := H
                replace H : (if t106 = true then (some false) else (slices_IsSorted_int_int.l0 k1 l0 ji5)) = some r := H
                have A8 := Aside0.mk A80
                clear A80
                by_cases c9 : t106 = true
                · subst c9
                  have H1 : (some false) = some r := by rw [if_pos rfl] at H; exact H
                  clear H
                  have H := H1
                  clear H1
                  obtain rfl := Option.some.inj H
                  have p104 : 0 ≤ (x3_1 : Int) := of_decide_eq_true (by first | (with_reducible assumption) | assumption)
                  have q104 : x3_1 < (l0.length : Int) := of_decide_eq_true (by first | (with_reducible assumption) | assumption)
                  obtain ⟨ad104, e104, hx104_0⟩ := Kd.at_int HR0.out x3_1 p104 q104
                  cases e104
                  replace p104 := eq_true p104
                  replace q104 := eq_true q104
                  have p105 : 0 ≤ ((ji5) : Int) := of_decide_eq_true (by first | (with_reducible assumption) | assumption)
                  have q105 : (ji5) < (l0.length : Int) := of_decide_eq_true (by first | (with_reducible assumption) | assumption)
                  obtain ⟨ad105, e105, hx105_0⟩ := Kd.at_int HR0.out (ji5) p105 q105
                  obtain rfl : ad104 = ad105 := (by injection e105)
                  replace p105 := eq_true p105
                  replace q105 := eq_true q105
                  go_wp2_with (first | (go_at_call 42; (with_reducible refine (cmp_Less_int.calls (rd l0 x3_1) (rd l0 (ji5)) true _ A8.out).mono ?_); rintro e w' ⟨rfl, ⟨nd, rfl⟩⟩; (try first | exact ⟨rfl, _, World.drewN_drewN _ _ _⟩ | exact ⟨rfl, _, Eq.trans (World.drewN_drewN _ _ _) (congrArg (World.drewN _) (Nat.add_assoc _ _ _))⟩)))
                  repeat (go_quiet (first | (go_at_call 42; (with_reducible refine (cmp_Less_int.calls (rd l0 x3_1) (rd l0 (ji5)) true _ A8.out).mono ?_); rintro e w' ⟨rfl, ⟨nd, rfl⟩⟩; (try first | exact ⟨rfl, _, World.drewN_drewN _ _ _⟩ | exact ⟨rfl, _, Eq.trans (World.drewN_drewN _ _ _) (congrArg (World.drewN _) (Nat.add_assoc _ _ _))⟩))); try go_wp2_with (first | (go_at_call 42; (with_reducible refine (cmp_Less_int.calls (rd l0 x3_1) (rd l0 (ji5)) true _ A8.out).mono ?_); rintro e w' ⟨rfl, ⟨nd, rfl⟩⟩; (try first | exact ⟨rfl, _, World.drewN_drewN _ _ _⟩ | exact ⟨rfl, _, Eq.trans (World.drewN_drewN _ _ _) (congrArg (World.drewN _) (Nat.add_assoc _ _ _))⟩))))
                  go_ret
                  exact ⟨by first | rfl | (simp; done) | (simp only [← hji5] <;> (first | rfl | simp)) | (simp [*]; done), by repeat (first | exact Drawn0.refl _ | apply Drawn0.step)⟩
                · replace c9 := Bool.eq_false_iff.mpr c9
                  subst c9
                  have H1 : (slices_IsSorted_int_int.l0 k1 l0 ji5) = some r := by rw [if_neg (show ¬ (false = true) by decide)] at H; exact H
                  clear H
                  have H := H1
                  clear H1
                  have H' := Aside0.mk H
                  clear H
                  have p104 : 0 ≤ (x3_1 : Int) := of_decide_eq_true (by first | (with_reducible assumption) | assumption)
                  have q104 : x3_1 < (l0.length : Int) := of_decide_eq_true (by first | (with_reducible assumption) | assumption)
                  obtain ⟨ad104, e104, hx104_0⟩ := Kd.at_int HR0.out x3_1 p104 q104
                  cases e104
                  replace p104 := eq_true p104
                  replace q104 := eq_true q104
                  have p105 : 0 ≤ ((ji5) : Int) := of_decide_eq_true (by first | (with_reducible assumption) | assumption)
                  have q105 : (ji5) < (l0.length : Int) := of_decide_eq_true (by first | (with_reducible assumption) | assumption)
                  obtain ⟨ad105, e105, hx105_0⟩ := Kd.at_int HR0.out (ji5) p105 q105
                  obtain rfl : ad104 = ad105 := (by injection e105)
                  replace p105 := eq_true p105
                  replace q105 := eq_true q105
                  go_wp2_with (first | (go_at_call 42; (with_reducible refine (cmp_Less_int.calls (rd l0 x3_1) (rd l0 (ji5)) false _ A8.out).mono ?_); rintro e w' ⟨rfl, ⟨nd, rfl⟩⟩; (try first | exact ⟨rfl, _, World.drewN_drewN _ _ _⟩ | exact ⟨rfl, _, Eq.trans (World.drewN_drewN _ _ _) (congrArg (World.drewN _) (Nat.add_assoc _ _ _))⟩)))
                  repeat (go_quiet (first | (go_at_call 42; (with_reducible refine (cmp_Less_int.calls (rd l0 x3_1) (rd l0 (ji5)) false _ A8.out).mono ?_); rintro e w' ⟨rfl, ⟨nd, rfl⟩⟩; (try first | exact ⟨rfl, _, World.drewN_drewN _ _ _⟩ | exact ⟨rfl, _, Eq.trans (World.drewN_drewN _ _ _) (congrArg (World.drewN _) (Nat.add_assoc _ _ _))⟩))); try go_wp2_with (first | (go_at_call 42; (with_reducible refine (cmp_Less_int.calls (rd l0 x3_1) (rd l0 (ji5)) false _ A8.out).mono ?_); rintro e w' ⟨rfl, ⟨nd, rfl⟩⟩; (try first | exact ⟨rfl, _, World.drewN_drewN _ _ _⟩ | exact ⟨rfl, _, Eq.trans (World.drewN_drewN _ _ _) (congrArg (World.drewN _) (Nat.add_assoc _ _ _))⟩))))
                  go_roundg k1
                  case measure => have := HK1.out; omega
                  case rel => exact ⟨(ji5), (by first | rfl | (simp; done) | (simp only [← hji5] <;> (first | rfl | simp)) | (simp [*]; done)), H', ⟨by have := HK1.out; omega⟩, by repeat (first | exact Drawn0.refl _ | apply Drawn0.step)⟩
              · rw [if_neg c7] at H
                exact absurd H (by simp)
            · rw [if_neg c6] at H
              exact absurd H (by simp)
          · rw [if_neg c4] at H
            exact absurd H (by simp)
        · rw [if_neg c3] at H
          exact absurd H (by simp)
      · rw [if_neg c2] at H
        have c2b0 : decide (0 < x3_1) = false := decide_eq_false c2
        clear c2
        obtain rfl := Option.some.inj H
        go_wp2
        repeat (go_quiet (fail); try go_wp2)
        go_ret
        exact ⟨by first | rfl | (simp; done) | (simp [*]; done), by repeat (first | exact Drawn0.refl _ | apply Drawn0.step)⟩

-- NOT PRINTED: function 32 (slices_Compact_int_int)

/-! ### slices_Clone_int_int: function 33, by hand (slices.Clone.int.lean.tpl) -/
def slices_Clone_int_int.f (l0 : List (Int)) : Option (List (Int)) := if (l0.length : Int) ≤ 1000000 then some l0 else none
set_option maxHeartbeats 4000000 in
set_option maxRecDepth 100000 in
theorem slices_Clone_int_int.calls (A0 : Option Addr) (c0 : Nat) (l0 : List (Int)) (r : List (Int)) (w : World) (hr0 : Kd.C (Kd.int .i64) w A0 l0.length l0) (hc0 : l0.length ≤ c0) (h : slices_Clone_int_int.f l0 = some r) :
    Calls Try.prog 33 #[.slice A0 l0.length c0] w fun e w' => ∃ v0_ : Value, e = .returned (v0_) ∧ Kd.R (Kd.int .i64) 3 w' w.heap.size (fun _ => True) v0_ r ∧ Below w.heap.size w w' := by
  unfold slices_Clone_int_int.f at h
  split at h
  case isFalse => cases h
  case isTrue hb =>
  obtain rfl := Option.some.inj h
  clear h
  cases A0 with
  | none =>
    have h0 : l0 = [] := by
      rcases Nat.eq_zero_or_pos l0.length with h | h
      · exact List.eq_nil_of_length_eq_zero h
      · obtain ⟨ad, h1, _⟩ := hr0.2.2 h
        cases h1
    subst h0
    clear hr0 hb
    have heq : ∀ (n c : Nat) (W : World), (binOp .eql 25 (.slice none n c) (.slice none 0 0)).run Try.prog W = .ok (.bool true) W := fun _ _ _ => rfl
    go_enter Try.func33, Try.ntmps33
    go_wp2
    go_ret
    exact ⟨_, rfl, Kd.R_nil _ _ _ _ _, Below.refl _ _⟩
  | some ad =>
    have HR0 := Aside0.mk hr0
    have HL := Aside0.mk hb
    have HB := Aside0.mk (Below.refl w.heap.size w)
    clear hr0 hb hc0
    have heq : ∀ (n c : Nat) (W : World), (binOp .eql 25 (.slice (some ad) n c) (.slice none 0 0)).run Try.prog W = .ok (.bool false) W := fun _ _ _ => rfl
    go_enter Try.func33, Try.ntmps33
    go_wp2_with (first
      | ((with_reducible refine gate_dst (N := 5) rfl ?_); (try (refine gate_guard (by rfl) ?_; dsimp only)); refine Kd.R_lit (Kd.int .i64) _ 3 ?hg (N := 5) ?hd (xs := ([] : List (Int))) (inner := []) (ok := fun _ => True) (okp := fun _ => True) ?hr ?hp (fun _ hk => hk) trivial (Below.refl _ _) (Nat.le_refl _) (by simp) ?_; (case hd => rfl); (case hg => rfl); (case hr => first | (go_simp; done) | (go_simp; rfl)); (case hp => exact (Reps.none _ _)); intro v1 w1 ho hb hg_ hnew_; clear hg_ hnew_; have HO := Aside0.mk ho; have HB1 := Aside0.mk hb; clear ho hb)
      | ((with_reducible refine gate_builtin (b := .append) (xs := #[.tmp 5, .tmp 6]) rfl ?_); (try (refine gate_guard (by rfl) ?_; dsimp only)); at_builtin; refine Kd.R_append_rows (Kd.int .i64) (w0 := w) w.heap.size rfl (.tmp 5) (.tmp 6) 25 3 (.int .i64 0) 8 rfl Try.underlying25 info3 rfl (by decide) (by omega) v1 [] l0 _ _ _ (fun _ => True) (fun _ => False) rfl rfl HO.out (Kd.C_below HR0.out HB1.out) (fun _ _ h => h) (fun _ h => h.elim) (fun _ _ => trivial) HB1.out HB1.out.size (by simp; have := HL.out; omega) ?_; intro v2 w2 ho2 hb2 hg2 hat2; have HO2 := Aside0.mk ho2; have HB2 := Aside0.mk hb2; clear ho2 hb2 hg2 hat2))
    go_ret
    exact ⟨v2, rfl, HO2.out, HB2.out⟩

/-! ### slices_ContainsFunc_int_int: function 34, by hand (slices.ContainsFunc.int.lean.tpl) -/
set_option maxHeartbeats 1000000 in
theorem cfInt.calls (g : Nat) (lb : Array Value) (p : Int → Bool) (A : Option Addr) (c : Nat) (l : List Int) (w : World) (eg : ∀ args w, (callFunc g args).run Try.prog w = .ok (.enter g args) w)
    (hr : Kd.C (Kd.int .i64) w A l.length l) (hp : ∀ x W, Below w.heap.size w W → x ∈ l → Calls Try.prog g (#[.int .i64 x] ++ lb) W fun e W' => e = .returned (.bool (p x)) ∧ Below W.heap.size W W') :
    Calls Try.prog 34 #[.slice A l.length c, .func (.func g) #[] lb] w fun e w' => e = .returned (.bool (l.any p)) ∧ Below w.heap.size w w' := by
  rw [← idxF_nonneg p l]
  have HE := Aside0.mk eg
  have HR := Aside0.mk hr
  have HP := Aside0.mk hp
  clear eg hr hp
  go_enter Try.func34, Try.ntmps34
  go_wp2_with (go_at_call 43; refine (ixInt.calls g lb p A c l _ HE.out HR.out HP.out).mono ?_; rintro e w' ⟨rfl, hb⟩; have HB := Aside0.mk hb; clear hb)
  go_ret
  exact ⟨rfl, HB.out⟩

/-! ### graph_Tree: function 15, by hand (graph.Tree.lean.tpl) -/
theorem rd_at (l : List Int) (k : Nat) (hk : k < l.length) : rd l (k : Int) = l[k]'hk := by
  unfold rd
  rw [Int.toNat_natCast, List.getD_eq_getElem?_getD, List.getElem?_eq_getElem hk, Option.getD_some]
theorem adj_pairwise {α : Type} {R : α → α → Prop} (ht : ∀ a b c, R a b → R b c → R a c) : ∀ (l : List α), (∀ j (h : j + 1 < l.length), R (l[j]'(by omega)) (l[j + 1]'h)) → l.Pairwise R
  | [], _ => List.Pairwise.nil
  | [x], _ => List.pairwise_singleton _ _
  | x :: y :: l, h => by
    have ih := adj_pairwise ht (y :: l) (fun j hj => h (j + 1) (by simp only [List.length_cons] at hj ⊢; omega))
    have hxy : R x y := h 0 (by simp)
    refine List.Pairwise.cons (fun z hz => ?_) ih
    rcases List.mem_cons.1 hz with rfl | hz
    · exact hxy
    · exact ht _ _ _ hxy (List.rel_of_pairwise_cons ih hz)
theorem pairwise_adj {α : Type} {R : α → α → Prop} {l : List α} (h : l.Pairwise R) (j : Nat) (hj : j + 1 < l.length) : R (l[j]'(by omega)) (l[j + 1]'hj) :=
  List.pairwise_iff_getElem.1 h j (j + 1) (by omega) hj (by omega)
theorem less_int (a b : Int) : cmp_Less_int.f a b = some (decide (a < b)) := by
  have h : ∀ x : Int, cmp_isNaN_int.f x = some false := fun x => by unfold cmp_isNaN_int.f; simp
  unfold cmp_Less_int.f
  rw [h a]
  rfl
theorem sorted_loop (l : List Int) (hl : l.length ≤ 1000000) : ∀ (i k : Nat), i < k → i < l.length → ∃ b, slices_IsSorted_int_int.l0 k l (i : Int) = some b ∧ (b = true ↔ ∀ j, j < i → rd l (j : Int) ≤ rd l ((j + 1 : Nat) : Int)) := by
  intro i
  induction i with
  | zero =>
    intro k hk _
    obtain ⟨k, rfl⟩ : ∃ k', k = k' + 1 := ⟨k - 1, by omega⟩
    exact ⟨true, by rw [slices_IsSorted_int_int.l0, if_neg (by simp)], by simp⟩
  | succ i ih =>
    intro k hk hi
    obtain ⟨k, rfl⟩ : ∃ k', k = k' + 1 := ⟨k - 1, by omega⟩
    have hw : wrap64 (((i + 1 : Nat) : Int) - 1) = (i : Int) := by unfold wrap64; omega
    rw [slices_IsSorted_int_int.l0, if_pos (by omega), if_pos (by omega), if_pos (by omega), hw, if_pos (by omega), if_pos (by omega), less_int]
    simp only [Option.bind_some, decide_eq_true_eq]
    by_cases h : rd l ((i + 1 : Nat) : Int) < rd l (i : Int)
    · rw [if_pos h]
      refine ⟨false, rfl, ⟨fun h2 => (by cases h2), fun h2 => ?_⟩⟩
      have := h2 i (by omega)
      omega
    · rw [if_neg h]
      obtain ⟨b, hb, hiff⟩ := ih k (by omega) (by omega)
      refine ⟨b, hb, hiff.trans ⟨fun h2 j hj => ?_, fun h2 j hj => h2 j (by omega)⟩⟩
      by_cases e : j = i
      · subst e; omega
      · exact h2 j (by omega)
theorem sorted_f (l : List Int) (hl : l.length ≤ 1000000) : slices_IsSorted_int_int.f (l.length + 1) l = some (decide (l.Pairwise (· ≤ ·))) := by
  unfold slices_IsSorted_int_int.f
  rcases Nat.eq_zero_or_pos l.length with h0 | h0
  · obtain rfl := List.eq_nil_of_length_eq_zero h0
    have hw : wrap64 ((([] : List Int).length : Int) - 1) = -1 := by rw [List.length_nil]; unfold wrap64; omega
    rw [hw, slices_IsSorted_int_int.l0, if_neg (by omega)]
    simp
  · have hw : wrap64 ((l.length : Int) - 1) = ((l.length - 1 : Nat) : Int) := by unfold wrap64; omega
    rw [hw]
    obtain ⟨b, hb, hiff⟩ := sorted_loop l hl (l.length - 1) (l.length + 1) (by omega) (by omega)
    rw [hb]
    congr 1
    rw [Bool.eq_iff_iff, decide_eq_true_eq, hiff]
    constructor
    · intro h
      refine adj_pairwise (R := fun (a b : Int) => a ≤ b) (fun a b c h1 h2 => Int.le_trans h1 h2) l (fun j hj => ?_)
      have := h j (by omega)
      rwa [rd_at l j (by omega), rd_at l (j + 1) hj] at this
    · intro h j hj
      rw [rd_at l j (by omega), rd_at l (j + 1) (by omega)]
      exact pairwise_adj h j (by omega)
theorem compact_rise (l : List Int) : (decide (l.Pairwise (· ≤ ·)) && decide (((Lib.compact l).length : Int) = (l.length : Int))) = decide (l.Pairwise (· < ·)) := by
  have hk : (Lib.compact l).length = l.length ↔ ∀ j, j < l.length → Lib.keeps l.toArray j = true := by
    unfold Lib.compact Lib.compactUpTo
    rw [List.length_map]
    have h1 : ((List.range l.length).filter (Lib.keeps l.toArray)).length = l.length ↔ ((List.range l.length).filter (Lib.keeps l.toArray)).length = (List.range l.length).length := by rw [List.length_range]
    rw [h1, List.length_filter_eq_length_iff]
    simp
  rw [Bool.eq_iff_iff, Bool.and_eq_true, decide_eq_true_eq, decide_eq_true_eq, decide_eq_true_eq, Int.natCast_inj, hk]
  constructor
  · rintro ⟨h1, h2⟩
    refine adj_pairwise (R := fun (a b : Int) => a < b) (fun a b c h1 h2 => Int.lt_trans h1 h2) l (fun j hj => ?_)
    have h3 := pairwise_adj h1 j hj
    have h4 := h2 (j + 1) hj
    unfold Lib.keeps at h4
    rw [decide_eq_true_eq] at h4
    rcases h4 with h4 | h4
    · omega
    · rw [Nat.add_sub_cancel, getElem!_pos l.toArray (j + 1) (by simpa using hj), getElem!_pos l.toArray j (by simp; omega)] at h4
      simp only [List.getElem_toArray] at h4
      omega
  · intro h
    refine ⟨h.imp (fun h => by omega), fun j hj => ?_⟩
    unfold Lib.keeps
    rw [decide_eq_true_eq]
    rcases Nat.eq_zero_or_pos j with h0 | h0
    · exact .inl h0
    · right
      obtain ⟨i, rfl⟩ : ∃ i, j = i + 1 := ⟨j - 1, by omega⟩
      have h3 := pairwise_adj h i hj
      rw [Nat.add_sub_cancel, getElem!_pos l.toArray (i + 1) (by simpa using hj), getElem!_pos l.toArray i (by simp; omega)]
      simp only [List.getElem_toArray]
      omega
def nodesF (n : Int) (ls : List (S41)) (l : List Int) (a : Int) : List Int := markedTo (spreadF n ls (fun i => l.any (fun x => x == (i : Int))) a) 32
def apartF (ls : List (S41)) (ns : List Int) (i : Int) : Bool := !(ns.any (fun x => x == (rd_T41 ls i).f0))
def treeF (n : Int) (ls : List (S41)) (l : List Int) (a : Int) : Bool := decide (l.Pairwise (· < ·)) && (decide ((nodesF n ls l a).length = l.length + 1) && !(l.any (apartF ls (nodesF n ls l a))))
def graph_Tree.f (a0_0 : Int) (l0_1 : List (S41)) (l1 : List Int) (a2 : Int) : Option Bool := if okG a0_0 l0_1 = true ∧ l1.length ≤ 1000000 ∧ (∀ i, i ∈ l1 → 0 ≤ i ∧ i < (l0_1.length : Int)) then some (treeF a0_0 l0_1 l1 a2) else none
set_option maxHeartbeats 1000000 in
theorem tree1_calls (n : Int) (gb nb : Nat) (A : Option Addr) (c : Nat) (ls : List (S41)) (vn : Value) (ns : List Int) (okn : Nat → Prop) (bn : Nat) (i : Int) (W : World) (hB : W.heap[gb]? = some (.cells #[.int .i64 n, .slice A ls.length c] 24 (0, 0))) (hN : W.heap[nb]? = some (.cells #[vn] 25 (0, 0))) (hr : Kd.C k41 W A ls.length ls) (hn : Kd.R (Kd.int .i64) 3 W bn okn vn ns) (h0 : 0 ≤ i) (hi : i < (ls.length : Int)) :
    Calls Try.prog 30 #[.int .i64 i, .pointer (some ⟨nb, 0, none⟩), .pointer (some ⟨gb, 0, none⟩)] W fun e W' => e = .returned (.bool (apartF ls ns i)) ∧ Below W.heap.size W W' := by
  obtain ⟨An, cn, rfl, hcn, hCn⟩ := Kd.R_reads hn
  have HC := Aside0.mk hCn
  obtain ⟨ad, rfl, e0, e1, e2, e3⟩ := at_T41 hr i h0 hi
  have HA : Aside0 (apartF ls ns i = !(ns.any (fun x => x == (rd_T41 ls i).f0))) := ⟨rfl⟩
  generalize rd_T41 ls i = l at e0 e1 e2 e3 HA
  have cB : W.cell? ⟨gb, 1, none⟩ = some (.slice (some ad) ls.length c) := blk_cell hB 1
  have cN : W.cell? ⟨nb, 0, none⟩ = some (.slice An ns.length cn) := blk_cell hN 0
  have hu := Try.underlying41
  have hu2 := Try.underlying24
  clear hB hN hr hn hCn e1 e2 e3
  have hd0 : decide (0 ≤ i) = true := decide_eq_true h0
  have hd1 : decide (i < (ls.length : Int)) = true := decide_eq_true hi
  replace h0 := eq_true h0
  replace hi := eq_true hi
  go_enter Try.func30, Try.ntmps30
  go_wp2
  go_quiet ((go_at_call 27; exact Calls.quiet_of_same ((containsInt_calls l.f0 An cn ns _ (Kd.C_below HC.out (pw_below_drewN (Below.refl _ _) _))).mono fun _ _ h => ⟨h.1, h.2.symm⟩)))
  go_wp2
  go_ret
  refine ⟨?_, ?_⟩
  · rw [HA.out]; rfl
  · exact pw_below_drewN (Below.refl _ _) _
set_option maxHeartbeats 4000000 in
set_option maxRecDepth 100000 in
theorem graph_Tree.calls (a0_0 : Int) (A0_1 : Option Addr) (c0_1 : Nat) (l0_1 : List (S41)) (A1 : Option Addr) (c1 : Nat) (l1 : List Int) (a2 : Int) (r : Bool) (w : World) (hr0_1 : Kd.C k41 w A0_1 l0_1.length l0_1) (hc0_1 : l0_1.length ≤ c0_1) (hr1 : Kd.C (Kd.int .i64) w A1 l1.length l1) (hc1 : l1.length ≤ c1) (h : graph_Tree.f a0_0 l0_1 l1 a2 = some r) :
    Calls Try.prog 15 #[.agg #[.int .i64 a0_0, .slice A0_1 l0_1.length c0_1], .slice A1 l1.length c1, .int .i64 a2] w fun e w' => e = .returned (.bool r) ∧ Below w.heap.size w w' := by
  unfold graph_Tree.f at h
  split at h
  case isFalse => cases h
  case isTrue hok =>
  obtain rfl := Option.some.inj h
  clear h
  obtain ⟨hok, hl1, hrange⟩ := hok
  have HRG := Aside0.mk hrange
  have HR := Aside0.mk hr0_1
  have HR1 := Aside0.mk hr1
  have HC0 := Aside0.mk hc0_1
  have HC1 := Aside0.mk hc1
  have HL1 := Aside0.mk hl1
  have HN := Aside0.mk (show graph_Nodes.f a0_0 l0_1 l1 a2 = some (nodesF a0_0 l0_1 l1 a2) by unfold graph_Nodes.f nodesF; rw [if_pos hok])
  have HT : Aside0 (treeF a0_0 l0_1 l1 a2 = (decide (l1.Pairwise (· < ·)) && (decide ((nodesF a0_0 l0_1 l1 a2).length = l1.length + 1) && !(l1.any (apartF l0_1 (nodesF a0_0 l0_1 l1 a2)))))) := ⟨rfl⟩
  have HNL : Aside0 ((nodesF a0_0 l0_1 l1 a2).length ≤ 32) := ⟨markedTo_length _ _⟩
  generalize nodesF a0_0 l0_1 l1 a2 = ns at HN HT HNL
  have hu2 := Try.underlying24
  have hmf : ∀ (fn : Fn) (first cap : Array Value) (w : World), (Instr.makeFunc fn first cap).run Try.prog w = .ok (.func fn first cap) w := fun _ _ _ _ => rfl
  have HEG : Aside0 (∀ args w, (callFunc 30 args).run Try.prog w = .ok (.enter 30 args) w) := ⟨fun _ _ => rfl⟩
  clear hr0_1 hc0_1 hok hr1 hc1 hrange hl1
  go_enter Try.func15, Try.ntmps15
  go_wp2_with (go_at_call 13; refine Stop0.out ?_)
  refine ⟨?_⟩
  have HB := Aside0.mk (blk_new w (.cells #[.int .i64 a0_0, .slice A0_1 l0_1.length c0_1] 24))
  have HBW := Aside0.mk (below_alloc (Below.refl w.heap.size w) (.cells #[.int .i64 a0_0, .slice A0_1 l0_1.length c0_1] 24))
  generalize (w.alloc _) = w1 at HB HBW ⊢
  refine (graph_Nodes.calls a0_0 A0_1 c0_1 l0_1 A1 c1 l1 a2 ns w1 (Kd.C_below HR.out HBW.out) HC0.out (Kd.C_below HR1.out HBW.out) HC1.out HN.out).mono ?_
  rintro e w2 ⟨vn, rfl, hRn, hb⟩
  have HB2 := Aside0.mk (blk_below HB.out hb)
  have HBW2 := Aside0.mk (below_then HBW.out HBW.out.size hb)
  have HRn := Aside0.mk hRn
  obtain ⟨An, cn, rfl, hcn, hCn⟩ := Kd.R_reads hRn
  clear hb hRn hcn hCn HB HBW
  go_wp2_with (go_at_call 31; refine Stop0.out ?_)
  refine ⟨?_⟩
  have HN3 := Aside0.mk (blk_new w2 (.cells #[.slice An ns.length cn] 25))
  have HB3 := Aside0.mk (blk_alloc HB2.out (.cells #[.slice An ns.length cn] 25))
  have HBW3 := Aside0.mk (below_alloc HBW2.out (.cells #[.slice An ns.length cn] 25))
  have HRn3 := Aside0.mk (Kd.R_alloc HRn.out (.cells #[.slice An ns.length cn] 25))
  generalize (w2.alloc _) = w3 at HN3 HB3 HBW3 HRn3 ⊢
  clear HRn HB2 HBW2
  generalize w2.heap.size = b2 at HN3 ⊢
  refine (slices_IsSorted_int_int.calls (l1.length + 1) A1 c1 l1 (decide (l1.Pairwise (· ≤ ·))) w3 (Kd.C_below HR1.out HBW3.out) HC1.out (sorted_f l1 HL1.out)).mono ?_
  rintro e w4 ⟨rfl, hdr⟩
  have hb := hdr.below
  have HN4 := Aside0.mk (blk_below HN3.out hb)
  have HB4 := Aside0.mk (blk_below HB3.out hb)
  have HBW4 := Aside0.mk (below_then HBW3.out HBW3.out.size hb)
  have HRn4 := Aside0.mk (Kd.R_below HRn3.out hb)
  clear hb hdr HN3 HB3 HBW3 HRn3
  have HCR := Aside0.mk (compact_rise l1)
  cases hs : decide (l1.Pairwise (· ≤ ·)) with
  | false =>
    have HS := Aside0.mk hs
    clear hs
    go_wp2
    go_ret
    refine ⟨?_, HBW4.out⟩
    rw [HT.out, ← HCR.out, HS.out]
    rfl
  | true =>
    have HS := Aside0.mk hs
    clear hs
    go_wp2_with (go_at_call 33; refine Stop0.out ?_)
    refine ⟨?_⟩
    refine (slices_Clone_int_int.calls A1 c1 l1 l1 w4 (Kd.C_below HR1.out HBW4.out) HC1.out (by unfold slices_Clone_int_int.f; rw [if_pos (by have := HL1.out; omega)])).mono ?_
    rintro e w5 ⟨v5, rfl, hR5, hb⟩
    have HR5 := Aside0.mk hR5
    have HB5 := Aside0.mk hb
    clear hR5 hb
    go_wp2_with (go_at_call 32; refine Stop0.out ?_)
    refine ⟨?_⟩
    refine (compactInt_calls v5 l1 _ _ w5 HR5.out).mono ?_
    rintro e w6 ⟨v6, rfl, hR6, hg6, _⟩
    have hb : Below w4.heap.size w4 w6 := pw_below_grown HB5.out _ HB5.out.size hg6 (fun k hk => Kd.R_base HR5.out k hk)
    have HN6 := Aside0.mk (blk_below HN4.out hb)
    have HB6 := Aside0.mk (blk_below HB4.out hb)
    have HBW6 := Aside0.mk (below_then HBW4.out HBW4.out.size hb)
    have HRn6 := Aside0.mk (Kd.R_below HRn4.out hb)
    obtain ⟨A6, c6, rfl⟩ := Kd.R_slice hR6
    clear hb hR6 hg6 HN4 HB4 HBW4 HRn4 HB5 HR5
    by_cases hq : ((Lib.compact l1).length : Int) = (l1.length : Int)
    · have hq1 : (((Lib.compact l1).length : Int) == (l1.length : Int)) = true := beq_iff_eq.mpr hq
      have hq2 : (((Lib.compact l1).length : Int) != (l1.length : Int)) = false := bne_eq_false_iff_eq.mpr hq
      have hq3 : ((Lib.compact l1).length == l1.length) = true := beq_iff_eq.mpr (by omega)
      have HRI : Aside0 (decide (l1.Pairwise (· < ·)) = true) := ⟨by rw [← HCR.out, HS.out, decide_eq_true hq]; rfl⟩
      clear hq
      generalize (Lib.compact l1).length = nl at hq1 hq2 hq3 ⊢
      have c7 : w6.cell? ⟨b2, 0, none⟩ = some (.slice An ns.length cn) := blk_cell HN6.out 0
      have hb1 := HL1.out
      have hb2 := HNL.out
      by_cases hm : (ns.length : Int) = (l1.length : Int) + 1
      · have hm1 : ((ns.length : Int) == (l1.length : Int) + 1) = true := beq_iff_eq.mpr hm
        have hm2 : ((ns.length : Int) != (l1.length : Int) + 1) = false := bne_eq_false_iff_eq.mpr hm
        have hm3 : (ns.length == l1.length + 1) = true := beq_iff_eq.mpr (by omega)
        have HM : Aside0 (decide (ns.length = l1.length + 1) = true) := ⟨decide_eq_true (by omega)⟩
        clear hm
        go_wp2_with (go_at_call 34; refine Stop0.out ?_)
        refine ⟨?_⟩
        clear hq1 hq2 hq3 hm1 hm2 hm3
        refine (cfInt.calls 30 #[.pointer (some ⟨b2, 0, none⟩), .pointer (some ⟨w.heap.size, 0, none⟩)] (apartF l0_1 ns) A1 c1 l1 w6 HEG.out (Kd.C_below HR1.out HBW6.out) (fun x W hb hx => tree1_calls a0_0 w.heap.size b2 A0_1 c0_1 l0_1 _ ns _ _ x W (blk_below HB6.out hb) (blk_below HN6.out hb) (Kd.C_below (Kd.C_below HR.out HBW6.out) hb) (Kd.R_below HRn6.out hb) (HRG.out x hx).1 (HRG.out x hx).2)).mono ?_
        rintro e w7 ⟨rfl, hb⟩
        have HBW7 := Aside0.mk (below_then HBW6.out HBW6.out.size hb)
        clear hb c7
        go_wp2
        go_ret
        refine ⟨?_, HBW7.out⟩
        rw [HT.out, HRI.out, HM.out]
        rfl
      · have hm1 : ((ns.length : Int) == (l1.length : Int) + 1) = false := beq_eq_false_iff_ne.mpr hm
        have hm2 : ((ns.length : Int) != (l1.length : Int) + 1) = true := bne_iff_ne.mpr hm
        have hm3 : (ns.length == l1.length + 1) = false := beq_eq_false_iff_ne.mpr (by omega)
        have HM : Aside0 (decide (ns.length = l1.length + 1) = false) := ⟨decide_eq_false (by omega)⟩
        clear hm
        go_wp2
        go_ret
        refine ⟨?_, HBW6.out⟩
        rw [HT.out, HRI.out, HM.out]
        rfl
    · have hq1 : (((Lib.compact l1).length : Int) == (l1.length : Int)) = false := beq_eq_false_iff_ne.mpr hq
      have hq2 : (((Lib.compact l1).length : Int) != (l1.length : Int)) = true := bne_iff_ne.mpr hq
      have hq3 : ((Lib.compact l1).length == l1.length) = false := beq_eq_false_iff_ne.mpr (by omega)
      have HRI : Aside0 (decide (l1.Pairwise (· < ·)) = false) := ⟨by rw [← HCR.out, HS.out, decide_eq_false hq]; rfl⟩
      clear hq
      generalize (Lib.compact l1).length = nl at hq1 hq2 hq3 ⊢
      go_wp2
      go_ret
      refine ⟨?_, HBW6.out⟩
      rw [HT.out, HRI.out]
      rfl

/-! ### graph_Cost: function 17 -/
def graph_Cost.l0 : Nat → Int → List Int → Int → Int → Int → List (S41) → Option (Int)
  | 0, _, _, _, _, _, _ => none
  | k + 1, x5, x8, x9, x10, x122000, x122001 => if x10 < x9 then (if 0 ≤ x10 then (if x10 < (x8.length : Int) then (if 0 ≤ (rd x8 x10) then (if (rd x8 x10) < (x122001.length : Int) then (graph_Cost.l0 k (wrap64 (x5 + ((rd_T41 x122001 (rd x8 x10)).f2))) x8 x9 (wrap64 (x10 + 1)) x122000 x122001) else (none)) else (none)) else (none)) else (none)) else (some x5)
def graph_Cost.f (k : Nat) (a0_0 : Int) (l0_1 : List (S41)) (l1 : List Int) : Option (Int) := graph_Cost.l0 k 0 l1 (l1.length : Int) 0 a0_0 l0_1
theorem graph_Cost.mono_l : ∀ k, (∀ y0 y1 y2 y3 y4 y5, LeO (graph_Cost.l0 k y0 y1 y2 y3 y4 y5) (graph_Cost.l0 (k + 1) y0 y1 y2 y3 y4 y5))
  | 0 => fun _ _ _ _ _ _ r h => by simp [graph_Cost.l0] at h
  | k + 1 => by
    have ih0 := graph_Cost.mono_l k
    · intro y0 y1 y2 y3 y4 y5
      unfold graph_Cost.l0
      repeat' first
      | (with_reducible exact ih0 _ _ _ _ _ _)
      | (with_reducible exact LeO.refl _)
      | (with_reducible exact LeO.none _)
      | (with_reducible refine LeO.ite ?_ ?_)
      | (with_reducible refine LeO.bind ?_ (fun _ => ?_))
      | exact ih0 _ _ _ _ _ _
      | exact LeO.none _
      | refine LeO.ite ?_ ?_
      | refine LeO.bind ?_ (fun _ => ?_)
theorem graph_Cost.mono : ∀ a0 a1 a2 k, LeO (graph_Cost.f k a0 a1 a2) (graph_Cost.f (k + 1) a0 a1 a2) := by
  intro a0 a1 a2 k
  have ih0 := graph_Cost.mono_l k
  unfold graph_Cost.f
  repeat' first
      | (with_reducible exact ih0 _ _ _ _ _ _)
      | (with_reducible exact LeO.refl _)
      | (with_reducible exact LeO.none _)
      | (with_reducible refine LeO.ite ?_ ?_)
      | (with_reducible refine LeO.bind ?_ (fun _ => ?_))
      | exact ih0 _ _ _ _ _ _
      | exact LeO.none _
      | refine LeO.ite ?_ ?_
      | refine LeO.bind ?_ (fun _ => ?_)
set_option maxHeartbeats 8000000 in
set_option maxRecDepth 100000 in
theorem graph_Cost.calls (k : Nat) (a0_0 : Int) (A0_1 : Option Addr) (c0_1 : Nat) (l0_1 : List (S41)) (A1 : Option Addr) (c1 : Nat) (l1 : List Int) (r : Int) (w : World) (hr0_1 : Kd.C k41 w A0_1 l0_1.length l0_1) (hc0_1 : l0_1.length ≤ c0_1) (hr1 : Kd.C (Kd.int .i64) w A1 l1.length l1) (hc1 : l1.length ≤ c1) (h : graph_Cost.f k a0_0 l0_1 l1 = some r) :
    Calls Try.prog 17 #[.agg #[.int .i64 a0_0, .slice A0_1 l0_1.length c0_1], .slice A1 l1.length c1] w fun e w' => e = .returned (.int .i64 r) ∧ Below w.heap.size w w' := by
  have hu24 := Try.underlying24
  have HR0_1 := Aside0.mk hr0_1
  have HC0_1 := Aside0.mk hc0_1
  clear hr0_1 hc0_1
  have HR1 := Aside0.mk hr1
  have HC1 := Aside0.mk hc1
  clear hr1 hc1
  have HB := Aside0.mk (Below.refl w.heap.size w)
  have H : (graph_Cost.l0 k 0 l1 (l1.length : Int) 0 a0_0 l0_1) = some r := h
  clear h
  have H' := Aside0.mk H
  clear H
  go_enter Try.func17, Try.ntmps17
  go_wp2_with (first | ((with_reducible refine gate_dst (N := 2) rfl ?_); refine box_event ?hg (N := 2) ?hd (cs := #[.int .i64 a0_0, .slice A0_1 l0_1.length c0_1]) (t := 24) ?hr ?_; (case hd => rfl); (case hg => rfl); (case hr => first | (go_simp; done) | (go_simp; rfl)); intro gb121 hg w3 hbox hb; have n0_ := Aside0.mk (below_step (by repeat (first | (with_reducible first | exact HB.out | apply below_alloc | apply pw_below_drewN | apply below_drew1) | exact HB.out)) hb); have n1_ := Aside0.mk (hbox); have n2_ := Aside0.mk ((by rw [hg]; exact (below_size (by repeat (first | (with_reducible first | exact HB.out | apply below_alloc | apply pw_below_drewN | apply below_drew1) | exact HB.out))) : w.heap.size ≤ gb121)); have n3_ := Aside0.mk ((by rw [hg]; exact (below_size (by repeat (first | (with_reducible first | exact HB.out | apply below_alloc | apply pw_below_drewN | apply below_drew1) | exact HB.out))) : w.heap.size ≤ gb121)); clear HB; have HB := n0_; have BK121 := n1_; have GW121 := n2_; have GE121 := n3_; clear n0_ n1_ n2_ n3_; clear hb hbox hg))
  go_loopg [5, 10] k (fun kq v5 v10 w' => ∃ (x5_1 : Int) (x10_1 : Int), v5 = .int .i64 x5_1 ∧ v10 = .int .i64 x10_1 ∧ Aside0 (graph_Cost.l0 kq x5_1 l1 (l1.length : Int) x10_1 a0_0 l0_1 = some r) ∧ Aside0 (kq ≤ k) ∧ Aside0 (w'.heap[gb121]? = some (.cells #[.int .i64 a0_0, (.slice A0_1 l0_1.length c0_1)] 24 (0, 0))) ∧ Aside0 (Below w.heap.size w w'))
  case atStart => exact ⟨(0), (0), (by first | rfl | (simp; done) | (simp [*]; done)), (by first | rfl | (simp; done) | (simp [*]; done)), H', ⟨Nat.le_refl _⟩, ⟨by (with_reducible repeat (first | refine blk_drewN ?_ _ | refine blk_drew ?_ | refine blk_alloc ?_ _)); exact BK121.out⟩, ⟨by repeat (first | (with_reducible first | exact HB.out | apply below_alloc | apply pw_below_drewN | apply below_drew1 | refine below_set ?_ GE121.out) | exact HB.out)⟩⟩
  case round =>
    clear H'
    try clear c1
    try clear p2
    obtain ⟨x5_1, x10_1, rfl, rfl, HA, HK1, BK121, HB⟩ := hrel
    cases gk with
    | zero => exact absurd HA.out (by simp [graph_Cost.l0])
    | succ k1 =>
      have H := HA.out
      clear HA
      simp only [graph_Cost.l0] at H
      by_cases c4 : x10_1 < (l1.length : Int)
      · rw [if_pos c4] at H
        have c4b0 : decide (x10_1 < (l1.length : Int)) = true := decide_eq_true c4
        clear c4
        by_cases c5 : 0 ≤ x10_1
        · rw [if_pos c5] at H
          have c5b0 : decide (0 ≤ x10_1) = true := decide_eq_true c5
          clear c5
          by_cases c6 : x10_1 < (l1.length : Int)
          · rw [if_pos c6] at H
            have c6b0 : decide (x10_1 < (l1.length : Int)) = true := decide_eq_true c6
            clear c6
            by_cases c7 : 0 ≤ (rd l1 x10_1)
            · rw [if_pos c7] at H
              have c7b0 : decide (0 ≤ (rd l1 x10_1)) = true := decide_eq_true c7
              clear c7
              by_cases c8 : (rd l1 x10_1) < (l0_1.length : Int)
              · rw [if_pos c8] at H
                have c8b0 : decide ((rd l1 x10_1) < (l0_1.length : Int)) = true := decide_eq_true c8
                clear c8
                have H' := Aside0.mk H
                clear H
                have p122 : 0 ≤ (x10_1 : Int) := of_decide_eq_true (by first | (with_reducible assumption) | assumption)
                have q122 : x10_1 < (l1.length : Int) := of_decide_eq_true (by first | (with_reducible assumption) | assumption)
                obtain ⟨ad122, e122, hx122_0⟩ := Kd.at_int HR1.out x10_1 p122 q122
                cases e122
                replace hx122_0 := (HB.out.cell (World.block_lt_of_cell? w _ hx122_0)).trans hx122_0
                replace p122 := eq_true p122
                replace q122 := eq_true q122
                have hcz9_0 : wr.cell? ⟨gb121, 0, none⟩ = some (.int .i64 a0_0) := (blk_cell BK121.out 0).trans rfl
                have hcz9_1 : wr.cell? ⟨gb121, 1, none⟩ = some (.slice A0_1 l0_1.length c0_1) := (blk_cell BK121.out 1).trans rfl
                have hfz9_0 := blk_frozen BK121.out 0
                have hfz9_1 := blk_frozen BK121.out 1
                have p123 : 0 ≤ ((rd l1 x10_1) : Int) := of_decide_eq_true (by first | (with_reducible assumption) | assumption)
                have q123 : (rd l1 x10_1) < (l0_1.length : Int) := of_decide_eq_true (by first | (with_reducible assumption) | assumption)
                obtain ⟨ad123, e123, hx123_0, hx123_1, hx123_2, hx123_3⟩ := at_T41 HR0_1.out (rd l1 x10_1) p123 q123
                cases e123
                replace hx123_0 := (HB.out.cell (World.block_lt_of_cell? w _ hx123_0)).trans hx123_0
                replace hx123_1 := (HB.out.cell (World.block_lt_of_cell? w _ hx123_1)).trans hx123_1
                replace hx123_2 := (HB.out.cell (World.block_lt_of_cell? w _ hx123_2)).trans hx123_2
                replace hx123_3 := (HB.out.cell (World.block_lt_of_cell? w _ hx123_3)).trans hx123_3
                replace p123 := eq_true p123
                replace q123 := eq_true q123
                go_wp2
                go_roundg k1
                case measure => have := HK1.out; omega
                case rel => exact ⟨(wrap64 (x5_1 + ((rd_T41 l0_1 (rd l1 x10_1)).f2))), (wrap64 (x10_1 + 1)), (by first | rfl | (simp; done) | (simp [*]; done)), (by first | rfl | (simp; done) | (simp [*]; done)), H', ⟨by have := HK1.out; omega⟩, ⟨by (with_reducible repeat (first | refine blk_drewN ?_ _ | refine blk_drew ?_ | refine blk_alloc ?_ _)); exact BK121.out⟩, ⟨by repeat (first | (with_reducible first | exact HB.out | apply below_alloc | apply pw_below_drewN | apply below_drew1 | refine below_set ?_ GE121.out) | exact HB.out)⟩⟩
              · rw [if_neg c8] at H
                exact absurd H (by simp)
            · rw [if_neg c7] at H
              exact absurd H (by simp)
          · rw [if_neg c6] at H
            exact absurd H (by simp)
        · rw [if_neg c5] at H
          exact absurd H (by simp)
      · rw [if_neg c4] at H
        have c4b0 : decide (x10_1 < (l1.length : Int)) = false := decide_eq_false c4
        clear c4
        obtain rfl := Option.some.inj H
        go_wp2
        go_ret
        exact ⟨by first | rfl | (simp [errW_none, errW_some] <;> rfl) | (simp [*, errW_none, errW_some] <;> rfl), by repeat (first | (with_reducible first | exact HB.out | apply below_alloc | apply pw_below_drewN | apply below_drew1 | refine below_set ?_ GE121.out) | exact HB.out)⟩

end Go.Proofs.Yticjabdkjjbegaa.P

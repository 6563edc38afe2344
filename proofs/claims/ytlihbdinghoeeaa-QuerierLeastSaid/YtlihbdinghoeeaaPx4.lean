/- For each Go function a Lean function, and the proof that a call comes to what it tells: made by program out of the translation (the kit's print, with texts by hand put in). No condition. -/
import Derived.Test.YtlihbdinghoeeaaPx0
import Derived.Test.YtlihbdinghoeeaaPx3
namespace Go.Proofs.Ytlihbdinghoeeaa.P
open Go.RowKit Go.Proofs.YtlihbdinghoeeaaW.PrintWords Go.Proofs.YtlihbdinghoeeaaW.PrintLast Go.Proofs.YtlihbdinghoeeaaW.PrintMore
attribute [local go_sem] max2_int min2_int max_two min_two max_three min_three max_four min_four   -- for this text's walks alone
set_option linter.unusedVariables false
set_option linter.unusedSimpArgs false

/-! ### querier_May: function 12, by hand (querier.May.lean.tpl) -/
def oddT (n : Int) : Bool := decide (n < 1) || decide (1000000 < n)
theorem oddT_true {n : Int} (h : n < 1 ∨ 1000000 < n) : oddT n = true := by simp [oddT, h]
theorem oddT_false {n : Int} (h1 : ¬ n < 1) (h2 : ¬ 1000000 < n) : oddT n = false := by simp [oddT, h1, h2]
theorem qMay1.calls (n : Int) (w : World) : Calls Try.prog 21 #[.int .i64 n] w fun e w' => e = .returned (.bool (oddT n)) ∧ Below w.heap.size w w' := by
  by_cases h1 : n < 1
  · rw [oddT_true (.inl h1)]
    go_enter Try.func21, Try.ntmps21
    go_wp2
    go_ret
    exact ⟨rfl, Below.refl _ _⟩
  · by_cases h2 : 1000000 < n
    · rw [oddT_true (.inr h2)]
      go_enter Try.func21, Try.ntmps21
      go_wp2
      go_ret
      exact ⟨rfl, Below.refl _ _⟩
    · rw [oddT_false h1 h2]
      go_enter Try.func21, Try.ntmps21
      go_wp2
      go_ret
      exact ⟨rfl, Below.refl _ _⟩
def mayB (a b c d : Int) : Bool := !([a, b, d].any oddT) && (decide (1 ≤ c) && decide (c ≤ 100))
def querier_May.f (a0_0 a0_1 a0_2 a0_3 : Int) : Option Bool := some (mayB a0_0 a0_1 a0_2 a0_3)
theorem lit3_reads (w : World) (g : Nat) (a b c : Int) (hg : w.heap[g]? = some (.cells #[.int .i64 a, .int .i64 b, .int .i64 c] 3 (0, 0))) : Kd.C (Kd.int .i64) w (some ⟨g, 0, none⟩) 3 [a, b, c] := by
  refine ⟨rfl, by omega, fun _ => ⟨_, rfl, fun j p hp => ⟨[.int .i64 p], rfl, rfl, fun i u hu => ?_⟩⟩⟩
  have hi : i = 0 := by
    have := (List.getElem?_eq_some_iff.1 hu).1
    simp at this
    exact this
  subst hi
  simp at hu
  subst hu
  rw [add_plain]
  have hc := (blk_cell hg j)
  simp only [Kd.int, Kd.scalar, Nat.mul_one, Nat.add_zero]
  rw [hc]
  match j, hp with
  | 0, hp => simp at hp; subst hp; rfl
  | 1, hp => simp at hp; subst hp; rfl
  | 2, hp => simp at hp; subst hp; rfl
  | j + 3, hp => simp at hp
set_option maxHeartbeats 2000000 in
theorem querier_May.calls (a0_0 : Int) (a0_1 : Int) (a0_2 : Int) (a0_3 : Int) (r : Bool) (w : World) (h : querier_May.f a0_0 a0_1 a0_2 a0_3 = some r) :
    Calls Try.prog 12 #[.agg #[.int .i64 a0_0, .int .i64 a0_1, .int .i64 a0_2, .int .i64 a0_3]] w fun e w' => e = .returned (.bool r) ∧ Below w.heap.size w w' := by
  obtain rfl := Option.some.inj h
  clear h
  have HE := Aside0.mk (show ∀ args w, (callFunc 21 args).run Try.prog w = .ok (.enter 21 args) w from fun args w => enters_ Try.func21 (by kernel_rfl) rfl args w)
  have hu := Try.underlying23
  have hg : ((w.alloc (.cells #[.int .i64 a0_0, .int .i64 a0_1, .int .i64 a0_2, .int .i64 a0_3] 23)).alloc (.cells #[.int .i64 a0_0, .int .i64 a0_1, .int .i64 a0_3] 3)).heap[w.heap.size + 1]? = some (.cells #[.int .i64 a0_0, .int .i64 a0_1, .int .i64 a0_3] 3 (0, 0)) := by
    simpa using heap_alloc_new (w.alloc (.cells #[.int .i64 a0_0, .int .i64 a0_1, .int .i64 a0_2, .int .i64 a0_3] 23)) (.cells #[.int .i64 a0_0, .int .i64 a0_1, .int .i64 a0_3] 3)
  have HG := Aside0.mk hg
  clear hg
  have hcell : ((w.alloc (.cells #[.int .i64 a0_0, .int .i64 a0_1, .int .i64 a0_2, .int .i64 a0_3] 23)).alloc (.cells #[.int .i64 a0_0, .int .i64 a0_1, .int .i64 a0_3] 3)).cell? ⟨w.heap.size, 2, none⟩ = some (.int .i64 a0_2) := by simp
  have HL := Aside0.mk hcell
  clear hcell
  have HBW : Aside0 (Below w.heap.size w ((w.alloc (.cells #[.int .i64 a0_0, .int .i64 a0_1, .int .i64 a0_2, .int .i64 a0_3] 23)).alloc (.cells #[.int .i64 a0_0, .int .i64 a0_1, .int .i64 a0_3] 3))) := ⟨below_alloc (below_alloc (Below.refl _ _) _) _⟩
  cases hA : [a0_0, a0_1, a0_3].any oddT with
  | true =>
    have hx : mayB a0_0 a0_1 a0_2 a0_3 = false := by unfold mayB; rw [hA]; rfl
    rw [hx]
    clear hx
    have HA := Aside0.mk hA
    clear hA
    go_enter Try.func12, Try.ntmps12
    go_wp2_with fail
    refine (cfInt.calls 21 #[] oddT _ _ [a0_0, a0_1, a0_3] _ HE.out (lit3_reads _ _ _ _ _ HG.out) (fun x W _ _ => qMay1.calls x W)).mono ?_
    rintro e w1 ⟨rfl, hb⟩
    rw [HA.out]
    have HB := Aside0.mk (below_step HBW.out hb)
    clear hb
    go_wp2
    go_ret
    exact ⟨rfl, HB.out⟩
  | false =>
    have hx : mayB a0_0 a0_1 a0_2 a0_3 = (decide (1 ≤ a0_2) && decide (a0_2 ≤ 100)) := by unfold mayB; rw [hA]; rfl
    rw [hx]
    clear hx
    have HA := Aside0.mk hA
    clear hA
    by_cases h1 : 1 ≤ a0_2
    all_goals
      go_enter Try.func12, Try.ntmps12
      go_wp2_with fail
      refine (cfInt.calls 21 #[] oddT _ _ [a0_0, a0_1, a0_3] _ HE.out (lit3_reads _ _ _ _ _ HG.out) (fun x W _ _ => qMay1.calls x W)).mono ?_
      rintro e w1 ⟨rfl, hb⟩
      rw [HA.out]
      have hcell := (hb.cell (p := ⟨w.heap.size, 2, none⟩) (by simp; omega)).trans HL.out
      have HB := Aside0.mk (below_step HBW.out hb)
      clear hb
      go_wp2
      go_ret
      exact ⟨by first | rfl | (simp; omega), HB.out⟩

end Go.Proofs.Ytlihbdinghoeeaa.P

/- For each Go function a Lean function, and the proof that a call comes to what it tells: made by program out of the translation (the kit's print, with texts by hand put in). No condition. -/
import Derived.Test.YtlihbdinghoeeaaPx0
namespace Go.Proofs.Ytlihbdinghoeeaa.P
open Go.RowKit Go.Proofs.YtlihbdinghoeeaaW.PrintWords Go.Proofs.YtlihbdinghoeeaaW.PrintLast Go.Proofs.YtlihbdinghoeeaaW.PrintMore
attribute [local go_sem] max2_int min2_int max_two min_two max_three min_three max_four min_four   -- for this text's walks alone
set_option linter.unusedVariables false
set_option linter.unusedSimpArgs false

/-! ### slices_IndexFunc_int_int: function 25, by hand (slices.IndexFunc.int.lean.tpl) -/
/-- The place of the first number of which p holds; -1: there is none. -/
def idxF (p : Int → Bool) (l : List Int) : Int := if l.any p then (l.findIdx p : Int) else -1
theorem idxF_hit (p : Int → Bool) (l : List Int) (k : Nat) (hk : k < l.length) (h1 : p (l[k]'hk) = true) (h0 : ∀ j (h : j < l.length), j < k → p (l[j]'h) = false) : idxF p l = (k : Int) := by
  have hany : l.any p = true := List.any_eq_true.2 ⟨_, List.getElem_mem hk, h1⟩
  have hf : l.findIdx p = k := by
    rcases Nat.lt_trichotomy (l.findIdx p) k with h | h | h
    · have hlt : l.findIdx p < l.length := by omega
      have := List.findIdx_getElem (w := hlt) (p := p)
      rw [h0 _ hlt h] at this
      cases this
    · exact h
    · have := List.not_of_lt_findIdx h
      rw [h1] at this
      simp at this
  unfold idxF
  rw [if_pos hany, hf]
theorem idxF_miss (p : Int → Bool) (l : List Int) (h0 : ∀ j (h : j < l.length), p (l[j]'h) = false) : idxF p l = -1 := by
  have hany : ¬ l.any p = true := by
    intro h
    obtain ⟨x, hx, hp⟩ := List.any_eq_true.1 h
    obtain ⟨j, hj, rfl⟩ := List.getElem_of_mem hx
    rw [h0 j hj] at hp
    cases hp
  unfold idxF
  rw [if_neg hany]
theorem idxF_nonneg (p : Int → Bool) (l : List Int) : decide (idxF p l ≥ 0) = l.any p := by
  unfold idxF
  cases h : l.any p with
  | true => simp
  | false => simp
set_option maxHeartbeats 1000000 in
/-- Whatever function is handed over that answers p and leaves what was there. -/
theorem ixInt.calls (g : Nat) (lb : Array Value) (p : Int → Bool) (A : Option Addr) (c : Nat) (l : List Int) (w : World) (eg : ∀ args w, (callFunc g args).run Try.prog w = .ok (.enter g args) w)
    (hr : Kd.C (Kd.int .i64) w A l.length l) (hp : ∀ x W, Below w.heap.size w W → x ∈ l → Calls Try.prog g (#[.int .i64 x] ++ lb) W fun e W' => e = .returned (.bool (p x)) ∧ Below W.heap.size W W') :
    Calls Try.prog 25 #[.slice A l.length c, .func (.func g) #[] lb] w fun e w' => e = .returned (.int .i64 (idxF p l)) ∧ Below w.heap.size w w' := by
  have hl : l.length ≤ 9223372036854775807 := hr.2.1
  have HR := Aside0.mk hr
  have HP := Aside0.mk hp
  clear hr hp
  go_enter Try.func25, Try.ntmps25
  go_wp2
  go_loopg [5, 8] l.length (fun gg _ s8 wr => ∃ kk : Nat, kk ≤ l.length ∧ l.length - kk ≤ gg ∧ s8 = .int .i64 kk ∧ Aside0 (Below w.heap.size w wr) ∧ Aside0 (∀ j (h : j < l.length), j < kk → p (l[j]'h) = false))
  case atStart => exact ⟨0, Nat.zero_le _, by omega, rfl, ⟨Below.refl _ _⟩, ⟨fun j _ hj => absurd hj (Nat.not_lt_zero _)⟩⟩
  case round =>
    obtain ⟨kk, hkk, hg, rfl, HB, HA⟩ := hrel
    by_cases hlt : kk < l.length
    · have hlt' : (kk : Int) < (l.length : Int) := by omega
      have hw0 : w.heap.size ≤ wr.heap.size := HB.out.size
      obtain ⟨ad, c1, rfl, hc1, hK, hcell⟩ := ReadsRow.get_ (Kd.C_below HR.out HB.out) 0 (kk : Int) (by omega) (by omega)
      have hcell1 : wr.cell? (ad.add kk) = some (.int .i64 (l[kk]'hlt)) := by
        have hK' : c1 = [.int .i64 (l.getD (kk : Int).toNat 0)] := hK
        have := hcell 0 (.int .i64 (l.getD (kk : Int).toNat 0)) (by rw [hK']; rfl)
        simpa [List.getD_eq_getElem?_getD, List.getElem?_eq_getElem hlt, Kd.int, Kd.scalar] using this
      clear hcell hK hc1
      have hcall := HP.out (l[kk]'hlt) wr HB.out (List.getElem_mem hlt)
      generalize hx : l[kk]'hlt = x at hcell1 hcall
      have HX := Aside0.mk hx
      clear hx
      have HC := Aside0.mk hcall
      clear hcall
      cases hq : p x with
      | true =>
        have HQ := Aside0.mk hq
        clear hq
        go_wp2_with fail
        refine HC.out.mono ?_
        rintro e w' ⟨rfl, hb⟩
        rw [HQ.out]
        have HB2 := Aside0.mk (below_then HB.out hw0 hb)
        clear hb
        go_wp2
        go_ret
        refine ⟨?_, HB2.out⟩
        rw [idxF_hit p l kk hlt (by rw [HX.out]; exact HQ.out) HA.out]
        rfl
      | false =>
        have HQ := Aside0.mk hq
        clear hq
        go_wp2_with fail
        refine HC.out.mono ?_
        rintro e w' ⟨rfl, hb⟩
        rw [HQ.out]
        have HB2 := Aside0.mk (below_then HB.out hw0 hb)
        clear hb
        go_wp2
        go_roundg (l.length - (kk + 1))
        case measure => omega
        case rel =>
          refine ⟨kk + 1, by omega, by omega, by go_num, HB2, ⟨fun j h hj => ?_⟩⟩
          by_cases e : j = kk
          · subst e
            rw [HX.out]
            exact HQ.out
          · exact HA.out j h (by omega)
    · have hlt' : ¬ (kk : Int) < (l.length : Int) := by omega
      have : kk = l.length := by omega
      subst this
      go_wp2
      go_ret
      refine ⟨?_, HB.out⟩
      rw [idxF_miss p l (fun j h => HA.out j h h)]
      rfl

end Go.Proofs.Ytlihbdinghoeeaa.P

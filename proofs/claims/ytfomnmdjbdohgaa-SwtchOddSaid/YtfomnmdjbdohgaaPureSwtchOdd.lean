/- SwtchOdd over numbers and lists. -/
import Derived.Test.YtfomnmdjbdohgaaStSwtchOdd
import Derived.Test.YtfomnmdjbdohgaaSwAll
namespace Go.Proofs.Ytfomnmdjbdohgaa.Pure
set_option linter.unusedVariables false
set_option linter.unusedSimpArgs false
open Go.RowKit Go.Proofs.Ytfomnmdjbdohgaa.P Go.Proofs.YtfomnmdjbdohgaaW.PrintWords Go.Proofs.YtfomnmdjbdohgaaW.PrintLast Go.Proofs.YtfomnmdjbdohgaaW.PrintMore
theorem odd_end {lim : Int} {r : List Ru} {m : Ms} (h : SwOk lim r) (hm : MOk m) (b : Bool) (hb : b = false → rightM m = false ∨ (m.f0 = 4 ∨ m.f0 = 5 ∨ m.f0 = 7 ∨ m.f0 = 8)) (k : Nat) (hk : 4000 ≤ k) : stolonlaw17_SwtchOdd.j2 (k + 1) true b lim r m.f0 m.f1 m.f2.f0 m.f2.f1 m.f2.f2 m.f2.f3 m.f2.f4 m.f2.f5 m.f3 m.f4 m.f5 = some true := by
  rw [stolonlaw17_SwtchOdd.j2]
  cases b with
  | true => rfl
  | false =>
    rw [if_neg (by simp), hear_ok hm h k hk, fbs, if_pos rfl, odd_step _ (hb rfl), sw_same h k hk]
    rfl
theorem odd_mid {lim : Int} {r : List Ru} {m : Ms} (h : SwOk lim r) (hm : MOk m) (b : Bool) (hb : b = true → (m.f0 = 4 ∨ m.f0 = 5 ∨ m.f0 = 7 ∨ m.f0 = 8)) (k : Nat) (hk : 4000 ≤ k) : stolonlaw17_SwtchOdd.j1 (k + 1 + 1) true b lim r m.f0 m.f1 m.f2.f0 m.f2.f1 m.f2.f2 m.f2.f3 m.f2.f4 m.f2.f5 m.f3 m.f4 m.f5 = some true := by
  have ho := hm.outs
  rw [stolonlaw17_SwtchOdd.j1, rright16_ok m hm.push (by omega) (k + 1) (by omega), fbs]
  cases hr : rightM m with
  | true =>
    rw [if_pos rfl]
    exact odd_end h hm _ (fun e => .inr (hb (by cases b <;> simp_all))) k hk
  | false =>
    rw [if_neg (by simp)]
    exact odd_end h hm _ (fun _ => .inl hr) k hk
theorem SwtchOdd : stolonlaw17_SwtchOdd.Pure := by
  intro x m hx hm
  refine ⟨9999 + 1 + 1 + 1, ?_⟩
  unfold stolonlaw17_SwtchOdd.f
  obtain ⟨b, h1, h2⟩ := start_ok hx.2 (9999 + 1 + 1 + 1) (by omega)
  rw [shown17_ok _ (by omega), fbs, h1, fbs]
  cases b with
  | false => rw [if_neg (by simp), stolonlaw17_SwtchOdd.j0]; rfl
  | true =>
    obtain ⟨h3, h4, -⟩ := h2 rfl
    obtain ⟨c, h5, h6⟩ := sw_right x.f0 x.f1 h3 h4 (9999 + 1 + 1 + 1) (by omega)
    rw [if_pos rfl, h5, fbs]
    cases c with
    | false => rw [if_neg (by simp), stolonlaw17_SwtchOdd.j0]; rfl
    | true =>
      have hs := h6.1 rfl
      obtain ⟨d, h7, h8⟩ := few17_ok [m] (by simp) (fun y hy => by rw [List.mem_singleton.1 hy]; exact hm) (9999 + 1 + 1 + 1) (by omega)
      rw [if_pos rfl]
      rw [show ([⟨m.f0, m.f1, ⟨m.f2.f0, m.f2.f1, m.f2.f2, m.f2.f3, m.f2.f4, m.f2.f5⟩, m.f3, m.f4, m.f5⟩] : List Ms) = [m] from rfl, h7, fbs]
      cases d with
      | false => rw [stolonlaw17_SwtchOdd.j0]; rfl
      | true =>
        have hmo := (h8 rfl).2 m (List.mem_singleton.2 rfl)
        rw [stolonlaw17_SwtchOdd.j0, if_neg (by simp)]
        by_cases k4 : m.f0 = 4
        · rw [if_pos k4]; exact odd_mid hs hmo _ (fun _ => .inl k4) 9999 (by omega)
        rw [if_neg k4]
        by_cases k5 : m.f0 = 5
        · rw [if_pos k5]; exact odd_mid hs hmo _ (fun _ => .inr (.inl k5)) 9999 (by omega)
        rw [if_neg k5]
        by_cases k7 : m.f0 = 7
        · rw [if_pos k7]; exact odd_mid hs hmo _ (fun _ => .inr (.inr (.inl k7))) 9999 (by omega)
        rw [if_neg k7]
        exact odd_mid hs hmo _ (fun e => .inr (.inr (.inr (eq_of_beq e)))) 9999 (by omega)
end Go.Proofs.Ytfomnmdjbdohgaa.Pure

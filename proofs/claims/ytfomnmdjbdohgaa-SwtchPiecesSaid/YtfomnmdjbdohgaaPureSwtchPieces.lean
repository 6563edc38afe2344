/- SwtchPieces over numbers and lists. -/
import Derived.Test.YtfomnmdjbdohgaaStSwtchPieces
import Derived.Test.YtfomnmdjbdohgaaSwAll
namespace Go.Proofs.Ytfomnmdjbdohgaa.Pure
set_option linter.unusedVariables false
set_option linter.unusedSimpArgs false
open Go.RowKit Go.Proofs.Ytfomnmdjbdohgaa.P Go.Proofs.YtfomnmdjbdohgaaW.PrintWords Go.Proofs.YtfomnmdjbdohgaaW.PrintLast Go.Proofs.YtfomnmdjbdohgaaW.PrintMore
theorem step_shift (lim : Int) (m : Ms) (r : List Ru) (b o : List Ms) : swStep lim m (r, b, o) = ((swStep lim m (r, [], [])).1, b ++ (swStep lim m (r, [], [])).2.1, o ++ (swStep lim m (r, [], [])).2.2) := by
  unfold swStep
  repeat' split
  all_goals simp
theorem all_shift (lim : Int) : ∀ (l : List Ms) (r : List Ru) (b o : List Ms), swAll lim l (r, b, o) = ((swAll lim l (r, [], [])).1, b ++ (swAll lim l (r, [], [])).2.1, o ++ (swAll lim l (r, [], [])).2.2)
  | [], r, b, o => by simp [swAll]
  | m :: t, r, b, o => by
    have e : ∀ st, swAll lim (m :: t) st = swAll lim t (swStep lim m st) := fun _ => rfl
    rw [e, e, step_shift lim m r b o]
    generalize swStep lim m (r, [], []) = q
    obtain ⟨q1, q2, q3⟩ := q
    simp only
    rw [all_shift lim t q1 (b ++ q2) (o ++ q3), all_shift lim t q1 q2 q3]
    simp
theorem pieces {lim : Int} {r : List Ru} {l : List Ms} {cut : Int} (h : SwOk lim r) (hl : l.length ≤ 3000) (hm : ∀ m ∈ l, MOk m) : stolonlaw17_SwtchPieces.j0 (19999 + 1) l cut true false lim r = some true := by
  rw [stolonlaw17_SwtchPieces.j0, if_neg (by simp), swtch_ok hm h (by omega) 19999 (by omega), fbs]
  obtain ⟨n, hn⟩ : ∃ n, mn (mx cut 0) (l.length : Int) = n := ⟨_, rfl⟩
  have hn0 : 0 ≤ n ∧ n ≤ (l.length : Int) := by
    rw [← hn]
    unfold mn mx
    split <;> split <;> omega
  rw [hn, if_pos hn0.1, if_pos hn0.2]
  have hm1 : ∀ m ∈ l.take n.toNat, MOk m := fun m hx => hm m (List.mem_of_mem_take hx)
  have hm2 : ∀ m ∈ l.drop n.toNat, MOk m := fun m hx => hm m (List.mem_of_mem_drop hx)
  have hz1 : (l.take n.toNat).length ≤ 3000 := by rw [List.length_take]; omega
  have hz2 : (l.drop n.toNat).length ≤ 3000 := by rw [List.length_drop]; omega
  have hb := (all_ok 19999 (by omega) (l.take n.toNat) (r, [], []) hm1 h (by simp only [List.length_nil]; omega) (by simp only [List.length_nil]; omega)).2
  have ha := (all_ok 19999 (by omega) l (r, [], []) hm h (by simp only [List.length_nil]; omega) (by simp only [List.length_nil]; omega)).2
  have hq : swAll lim l (r, [], []) = swAll lim (l.drop n.toNat) (swAll lim (l.take n.toNat) (r, [], [])) := by rw [← swAll_app, List.take_append_drop]
  rw [swtch_ok hm1 h (by omega) 19999 (by omega), fbs]
  have hs1 := all_lens lim (l.take n.toNat) (r, [], [])
  have hsm := all_small (lim := lim) (r := r) hm
  have hsl := all_lens lim l (r, [], [])
  generalize swAll lim (l.take n.toNat) (r, [], []) = q at hb hq hs1 ⊢
  obtain ⟨q1, q2, q3⟩ := q
  simp only [List.length_nil, Nat.zero_add] at hb hs1 hsl ⊢
  rw [swtch_ok hm2 hb (by omega) 19999 (by omega), fbs]
  have hs2 := all_lens lim (l.drop n.toNat) (q1, [], [])
  rw [all_shift lim (l.drop n.toNat) q1 q2 q3] at hq
  generalize swAll lim (l.drop n.toNat) (q1, [], []) = p at hq hs2 ⊢
  obtain ⟨p1, p2, p3⟩ := p
  simp only [List.length_nil, Nat.zero_add] at hq hs2 ⊢
  rw [hq] at ha hsm hsl ⊢
  simp only at ha hsm hsl ⊢
  rw [if_pos trivial, sw_same ha 19999 (by omega), fbs, if_pos rfl, fbs, if_pos (by simp only [List.length_nil]; omega), fbs, List.nil_append, if_pos (by omega), msgs_refl _ (by omega) hsm.1 19999 (by omega), fbs, if_pos rfl, fbs, if_pos (by simp only [List.length_nil]; omega), fbs, List.nil_append, if_pos (by omega), msgs_refl _ (by omega) hsm.2 19999 (by omega), fbs]
theorem SwtchPieces : stolonlaw17_SwtchPieces.Pure := by
  intro x l cut hx hl _
  refine ⟨19999 + 1, ?_⟩
  unfold stolonlaw17_SwtchPieces.f
  obtain ⟨b, h1, h2⟩ := start_ok hx.2 (19999 + 1) (by omega)
  rw [shown17_ok _ (by omega), fbs, h1, fbs]
  cases b with
  | false => rw [if_neg (by simp), stolonlaw17_SwtchPieces.j0]; rfl
  | true =>
    obtain ⟨h3, h4, -⟩ := h2 rfl
    obtain ⟨c, h5, h6⟩ := sw_right x.f0 x.f1 h3 h4 (19999 + 1) (by omega)
    rw [if_pos rfl, h5, fbs]
    cases c with
    | false => rw [if_neg (by simp), stolonlaw17_SwtchPieces.j0]; rfl
    | true =>
      have hs := h6.1 rfl
      obtain ⟨d, h7, h8⟩ := few17_ok l hl.1 hl.2.2 (19999 + 1) (by omega)
      rw [if_pos rfl, h7, fbs]
      cases d with
      | false => rw [stolonlaw17_SwtchPieces.j0]; rfl
      | true => exact pieces hs (h8 rfl).1 (h8 rfl).2
end Go.Proofs.Ytfomnmdjbdohgaa.Pure

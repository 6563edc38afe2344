/- SwtchRoom over numbers and lists. -/
import Derived.Test.YtfomnmdjbdohgaaStSwtchRoom
import Derived.Test.YtfomnmdjbdohgaaSwAll
namespace Go.Proofs.Ytfomnmdjbdohgaa.Pure
set_option linter.unusedVariables false
set_option linter.unusedSimpArgs false
open Go.RowKit Go.Proofs.Ytfomnmdjbdohgaa.P Go.Proofs.YtfomnmdjbdohgaaW.PrintWords Go.Proofs.YtfomnmdjbdohgaaW.PrintLast Go.Proofs.YtfomnmdjbdohgaaW.PrintMore
theorem room_put {lim : Int} {r : List Ru} {x : Ru} (h : SwOk lim r) (hx : rightR x = true) (xid : Int) :
    swStep lim ⟨1, xid, x, 0, false, []⟩ (r, [], []) = (if placeB r (keyR x) = true then (putP r x, [], []) else if (r.length : Int) ≥ lim then (r, [bare32 5 xid], []) else (putP r x, [], [])) := by
  have hr : rightM ⟨1, xid, x, 0, false, []⟩ = true := by
    unfold rightM
    rw [if_pos rfl, hx]
    rfl
  unfold swStep
  rw [if_pos hr, if_pos rfl]
  unfold putR
  simp only
  rw [if_pos hx]
  split
  · simp
  · split
    · simp
    · simp
theorem room_has (x2 : Int) (b0 : List Ms) (had : Bool) (L : Int) (l0 : List Ru) (x : Ru) (L1 : Int) (r : List Ru) (hs : ∀ y ∈ r, smallR y) (hl : r.length ≤ 1000000) : ∀ (d i k : Nat) (has : Bool), i + d = r.length → d + 5010 ≤ k →
    ∃ k1, 5000 ≤ k1 ∧ stolonlaw17_SwtchRoom.l1 k x2 true b0 had has (i : Int) L l0 x.f0 x.f1 x.f2 x.f3 x.f4 x.f5 L1 r = stolonlaw17_SwtchRoom.l1 (k1 + 1) x2 true b0 had (has || (r.drop i).any (fun y => sameB y x)) (r.length : Int) L l0 x.f0 x.f1 x.f2 x.f3 x.f4 x.f5 L1 r := by
  intro d
  induction d with
  | zero =>
    intro i k has hi hk
    obtain ⟨k, rfl⟩ : ∃ j, k = j + 1 := ⟨k - 1, by omega⟩
    refine ⟨k, by omega, ?_⟩
    rw [List.drop_of_length_le (by omega), List.any_nil, Bool.or_false, show (i : Int) = (r.length : Int) from by omega]
  | succ d ih =>
    intro i k has hi hk
    obtain ⟨k, rfl⟩ : ∃ j, k = j + 1 := ⟨k - 1, by omega⟩
    have h1 : i < r.length := by omega
    have h2 := hs _ (List.getElem_mem h1)
    rw [stolonlaw17_SwtchRoom.l1, if_pos (by omega), List.drop_eq_getElem_cons h1, List.any_cons]
    cases has with
    | true =>
      rw [if_pos rfl, fw64 (by omega)]
      obtain ⟨k1, h3, h4⟩ := ih (i + 1) k true (by omega) (by omega)
      rw [Int.natCast_add, Int.natCast_one] at h4
      exact ⟨k1, h3, by rw [h4]; simp⟩
    | false =>
      rw [if_neg (by simp), if_pos (by omega), rd_ru r i h1, rsame_ok _ _ (by have := h2.1; omega) k (by have := h2.1; omega), fbs, fw64 (by omega)]
      obtain ⟨k1, h3, h4⟩ := ih (i + 1) k (sameB r[i] x) (by omega) (by omega)
      rw [Int.natCast_add, Int.natCast_one] at h4
      exact ⟨k1, h3, by rw [h4]; simp⟩
theorem room_had (x2 : Int) (b0 : List Ms) (L : Int) (x : Ru) (l0 : List Ru) (L1 : Int) (r : List Ru) (hl : l0.length ≤ 1000000) : ∀ (d i k : Nat) (had : Bool), i + d = l0.length → d + 8020 ≤ k →
    ∃ k1, 8010 ≤ k1 ∧ stolonlaw17_SwtchRoom.l0 k x2 true b0 had false (i : Int) L l0 x.f0 x.f1 x.f2 x.f3 x.f4 x.f5 L1 r = stolonlaw17_SwtchRoom.l1 k1 x2 true b0 (had || (l0.drop i).any (fun y => decide (keyR y = keyR x))) false 0 L l0 x.f0 x.f1 x.f2 x.f3 x.f4 x.f5 L1 r := by
  intro d
  induction d with
  | zero =>
    intro i k had hi hk
    obtain ⟨k, rfl⟩ : ∃ j, k = j + 1 := ⟨k - 1, by omega⟩
    refine ⟨k, by omega, ?_⟩
    rw [stolonlaw17_SwtchRoom.l0, if_neg (by omega), List.drop_of_length_le (by omega), List.any_nil, Bool.or_false]
  | succ d ih =>
    intro i k had hi hk
    obtain ⟨k, rfl⟩ : ∃ j, k = j + 1 := ⟨k - 1, by omega⟩
    have h1 : i < l0.length := by omega
    rw [stolonlaw17_SwtchRoom.l0, if_pos (by omega), List.drop_eq_getElem_cons h1, List.any_cons]
    cases had with
    | true =>
      rw [if_pos rfl, fw64 (by omega)]
      obtain ⟨k1, h3, h4⟩ := ih (i + 1) k true (by omega) (by omega)
      rw [Int.natCast_add, Int.natCast_one] at h4
      exact ⟨k1, h3, by rw [h4]; simp⟩
    | false =>
      have key : ∀ b : Bool, b = decide (keyR l0[i] = keyR x) → ∃ k1, 8010 ≤ k1 ∧ stolonlaw17_SwtchRoom.l0 k x2 true b0 b false ((i : Int) + 1) L l0 x.f0 x.f1 x.f2 x.f3 x.f4 x.f5 L1 r = stolonlaw17_SwtchRoom.l1 k1 x2 true b0 (false || (decide (keyR l0[i] = keyR x) || (l0.drop (i + 1)).any (fun y => decide (keyR y = keyR x)))) false 0 L l0 x.f0 x.f1 x.f2 x.f3 x.f4 x.f5 L1 r := by
        intro b hb
        obtain ⟨k1, h3, h4⟩ := ih (i + 1) k b (by omega) (by omega)
        rw [Int.natCast_add, Int.natCast_one] at h4
        refine ⟨k1, h3, ?_⟩

        rw [h4, hb]
        simp
      rw [if_neg (by simp), if_pos (by omega), rd_ru l0 i h1, fw64 (by omega)]
      have hk3 : keyR l0[i] = keyR x ↔ l0[i].f0 = x.f0 ∧ l0[i].f1 = x.f1 ∧ l0[i].f2 = x.f2 := by unfold keyR; simp
      by_cases e0 : l0[i].f0 = x.f0
      · rw [if_pos e0]
        by_cases e1 : l0[i].f1 = x.f1
        · rw [if_pos e1]
          refine key _ ?_
          rw [Bool.eq_iff_iff, beq_iff_eq, decide_eq_true_eq, hk3]
          simp [e0, e1]
        · rw [if_neg e1]
          refine key _ ?_
          symm
          rw [decide_eq_false_iff_not, hk3]
          simp [e1]
      · rw [if_neg e0]
        refine key _ ?_
        symm
        rw [decide_eq_false_iff_not, hk3]
        simp [e0]
theorem any_key {l : List Ru} {x : Ru} (h : riseK l = true) : l.any (fun y => decide (keyR y = keyR x)) = placeB l (keyR x) := by
  rw [Bool.eq_iff_iff, placeB_iff h, List.any_eq_true]
  constructor
  · rintro ⟨y, hy, e⟩; exact ⟨y, hy, of_decide_eq_true e⟩
  · rintro ⟨y, hy, e⟩; exact ⟨y, hy, decide_eq_true e⟩
theorem put_any {l : List Ru} {x : Ru} (h : riseK l = true) : (putP l x).any (fun y => sameB y x) = true := by
  rw [List.any_eq_true]
  exact ⟨x, (mem_putP h x).2 (.inl rfl), sameB_refl x⟩
theorem room_j {lim : Int} {r : List Ru} {x : Ru} (h : SwOk lim r) (hx : rightR x = true) (hp : 0 ≤ x.f4) (xid : Int) : stolonlaw17_SwtchRoom.j0 (19999 + 1) xid true false lim r x.f0 x.f1 x.f2 x.f3 x.f4 x.f5 = some true := by
  have hlen := h.len
  have hlim := h.lim
  have ho := rightR_outs hx
  have hmo : MOk ⟨1, xid, x, 0, false, []⟩ := ⟨hp, by simp only; omega, by simp, rfl⟩
  have hs := h.step (st := (r, [], [])) hmo
  rw [stolonlaw17_SwtchRoom.j0, if_neg (by simp), hear_ok (m := ⟨1, xid, x, 0, false, []⟩) hmo h 19999 (by omega), fbs]
  have hst := room_put h hx xid
  generalize hq : swStep lim ⟨1, xid, x, 0, false, []⟩ (r, [], []) = q at hs hst ⊢
  simp only
  have hlq := hs.len
  obtain ⟨k1, h1, h2⟩ := room_had xid q.2.1 lim x r lim q.1 (by omega) r.length 0 19999 false (by omega) (by omega)
  rw [show ((0 : Nat) : Int) = 0 from rfl] at h2
  rw [h2, List.drop_zero, any_key h.rise, Bool.false_or]
  obtain ⟨k2, h3, h4⟩ := room_has xid q.2.1 (placeB r (keyR x)) lim r x lim q.1 hs.small (by omega) q.1.length 0 k1 false (by omega) (by omega)
  rw [show ((0 : Nat) : Int) = 0 from rfl] at h4
  rw [h4, stolonlaw17_SwtchRoom.l1, if_neg (by omega), List.drop_zero, Bool.false_or]
  cases hb : placeB r (keyR x) with
  | true =>
    rw [hb, if_pos rfl] at hst
    subst hst
    rw [if_pos rfl, if_pos rfl, if_pos (by simp)]
    exact congrArg some (put_any h.rise)
  | false =>
    rw [hb, if_neg (by simp)] at hst
    rw [if_neg (by simp)]
    by_cases hc : (r.length : Int) ≥ lim
    · rw [if_pos hc] at hst
      subst hst
      rw [if_pos hc, if_pos rfl, if_pos (by simp), if_pos (by simp), if_pos (by rfl), if_pos (by rfl), sw_same h k2 (by omega)]
      rfl
    · rw [if_neg hc] at hst
      subst hst
      rw [if_neg hc, if_pos rfl, if_pos (by simp)]
      exact congrArg some (put_any h.rise)
theorem rright_any (r : Ru) (hp : 0 ≤ r.f4) (hl : r.f5.length ≤ 9000000000000) (k : Nat) (hk : 5000 ≤ k) : ∃ b, stolonref15_Right.f k r.f0 r.f1 r.f2 r.f3 r.f4 r.f5 = some b ∧ (b = true → rightR r = true) := by
  by_cases h : r.f5.length ≤ 1000
  · exact ⟨_, rright_ok r hp (by omega) k (by omega), id⟩
  · refine ⟨false, ?_, by simp⟩
    obtain ⟨k, rfl⟩ : ∃ j, k = j + 1 := ⟨k - 1, by omega⟩
    unfold stolonref15_Right.f
    rw [asked_ok, fbs, show decide ((r.f5.length : Int) > 128) = true from decide_eq_true (by omega)]
    split <;> (rw [stolonref15_Right.j0]; rfl)
theorem SwtchRoom : stolonlaw17_SwtchRoom.Pure := by
  intro x r xid hx hr hxid
  refine ⟨19999 + 1, ?_⟩
  unfold stolonlaw17_SwtchRoom.f
  obtain ⟨b, h1, h2⟩ := start_ok hx.2 (19999 + 1) (by omega)
  rw [shown17_ok _ (by omega), fbs, h1, fbs]
  cases b with
  | false => rw [if_neg (by simp), stolonlaw17_SwtchRoom.j0]; rfl
  | true =>
    obtain ⟨h3, h4, -⟩ := h2 rfl
    obtain ⟨c, h5, h6⟩ := sw_right x.f0 x.f1 h3 h4 (19999 + 1) (by omega)
    rw [if_pos rfl, h5, fbs]
    cases c with
    | false => rw [if_neg (by simp), stolonlaw17_SwtchRoom.j0]; rfl
    | true =>
      have hs := h6.1 rfl
      have hp := (wf_u32 hr.2.2.2.2.1).1
      have hrr : ∃ b, stolonref15_Right.f (19999 + 1) r.f0 r.f1 r.f2 r.f3 r.f4 r.f5 = some b ∧ (b = true → rightR r = true) := rright_any r hp (by have := hr.2.2.2.2.2.1; omega) (19999 + 1) (by omega)
      obtain ⟨d, h7, h8⟩ := hrr
      rw [if_pos rfl, h7, fbs]
      cases d with
      | false => rw [stolonlaw17_SwtchRoom.j0]; rfl
      | true => exact room_j hs (h8 rfl) hp xid
end Go.Proofs.Ytfomnmdjbdohgaa.Pure

/- What a switch does with messages, as a plain fold; and what each law of switches starts from. -/
import Derived.Test.YtfomnmdjbdohgaaSwMsg
import Derived.Test.YtfomnmdjbdohgaaFlStart
import Derived.Test.YtfomnmdjbdohgaaPx13
import Derived.Test.YtfomnmdjbdohgaaPx14
import Derived.Test.YtfomnmdjbdohgaaPx17
import Derived.Test.YtfomnmdjbdohgaaPx21
import Derived.Test.YtfomnmdjbdohgaaPx22
import Derived.Test.YtfomnmdjbdohgaaPx27
namespace Go.Proofs.Ytfomnmdjbdohgaa.P
set_option linter.unusedVariables false
set_option linter.unusedSimpArgs false
open Go.RowKit Go.Proofs.Ytfomnmdjbdohgaa.Pure Go.Proofs.YtfomnmdjbdohgaaW.PrintWords Go.Proofs.YtfomnmdjbdohgaaW.PrintLast Go.Proofs.YtfomnmdjbdohgaaW.PrintMore
abbrev SwS := List Ru × List Ms × List Ms
def swStep (lim : Int) (m : Ms) (st : SwS) : SwS :=
  if rightM m = true then
    (if m.f0 = 1 then ((putR st.1 m.f2 lim).1, st.2.1 ++ (if (putR st.1 m.f2 lim).2 = 7 then [bare32 5 m.f1] else []), st.2.2)
     else if m.f0 = 2 then (delP st.1 (m.f2.f0, m.f2.f1, m.f2.f2), st.2)
     else if m.f0 = 6 then ([], st.2) else if m.f0 = 3 then (st.1, st.2.1 ++ [bare32 4 m.f1], st.2.2) else if m.f0 = 9 then (st.1, st.2.1, st.2.2 ++ [m]) else st)
  else st
def swAll (lim : Int) (l : List Ms) (st : SwS) : SwS := l.foldl (fun st m => swStep lim m st) st
theorem swAll_app (lim : Int) (a b : List Ms) (st : SwS) : swAll lim (a ++ b) st = swAll lim b (swAll lim a st) := List.foldl_append ..
structure SwOk (lim : Int) (r : List Ru) : Prop where
  rise : riseK r = true
  all : ∀ x ∈ r, rightR x = true
  small : ∀ x ∈ r, smallR x
  len : (r.length : Int) ≤ lim
  lim : 0 ≤ lim ∧ lim ≤ 1000
structure MOk (m : Ms) : Prop where
  push : 0 ≤ m.f2.f4
  outs : m.f2.f5.length ≤ 3000
  frame : m.f5.length ≤ 3000
  kind : (Lit.int .u8 m.f0).wf = true
theorem rightR_outs {r : Ru} (h : rightR r = true) : r.f5.length ≤ 128 := by
  unfold rightR at h
  simp only [Bool.and_eq_true, decide_eq_true_eq] at h
  omega
theorem rightM_rule {m : Ms} (h : rightM m = true) (h1 : m.f0 = 1) : rightR m.f2 = true := by
  unfold rightM at h
  rw [if_pos h1, Bool.and_eq_true] at h
  exact h.1
theorem SwOk.put {lim : Int} {r : List Ru} {x : Ru} (h : SwOk lim r) (hx : rightR x = true) (hp : 0 ≤ x.f4) : SwOk lim (putR r x lim).1 := by
  have hs : smallR x := ⟨by have := rightR_outs hx; omega, hp⟩
  unfold putR
  rw [if_pos hx]
  have hl := len_putP x h.rise
  have hall : ∀ y ∈ putP r x, rightR y = true := fun y hy => by
    rcases (mem_putP h.rise y).1 hy with rfl | ⟨hy, _⟩
    · exact hx
    · exact h.all y hy
  split
  · rename_i hb
    rw [if_pos hb] at hl
    exact ⟨putP_rise x h.rise, hall, smallR_put h.rise h.small hs, by rw [hl]; exact h.len, h.lim⟩
  · rename_i hb
    rw [if_neg hb] at hl
    split
    · exact h
    · exact ⟨putP_rise x h.rise, hall, smallR_put h.rise h.small hs, by rw [hl]; omega, h.lim⟩
theorem SwOk.del {lim : Int} {r : List Ru} (key : Key) (h : SwOk lim r) : SwOk lim (delP r key) :=
  ⟨delP_rise key h.rise, fun y hy => h.all y ((mem_delP h.rise y).1 hy).1, smallR_del h.rise h.small, by have := len_delP key h.rise; have := h.len; omega, h.lim⟩
theorem SwOk.nil {lim : Int} (h : 0 ≤ lim ∧ lim ≤ 1000) : SwOk lim [] := ⟨(by unfold riseK; simp), (fun _ h => (by cases h)), (fun _ h => (by cases h)), (by simpa using h.1), h⟩
theorem SwOk.step {lim : Int} {st : SwS} {m : Ms} (h : SwOk lim st.1) (hm : MOk m) : SwOk lim (swStep lim m st).1 := by
  unfold swStep
  split
  · rename_i hr
    split
    · rename_i h1
      exact h.put (rightM_rule hr h1) hm.push
    · split
      · exact h.del _
      · split
        · exact .nil h.lim
        · split
          · exact h
          · split <;> exact h
  · exact h
theorem step_len (lim : Int) (m : Ms) (st : SwS) : (swStep lim m st).2.1.length ≤ st.2.1.length + 1 ∧ (swStep lim m st).2.2.length ≤ st.2.2.length + 1 := by
  unfold swStep
  repeat' split
  all_goals simp
theorem step_ok {lim : Int} {st : SwS} {m : Ms} (h : SwOk lim st.1) (hm : MOk m) (k : Nat) (hk : 4000 ≤ k) : stepSw k lim m st = some (swStep lim m st) := by
  unfold stepSw swStep
  have ho := hm.outs
  have hlen := h.len
  have hlim := h.lim
  rw [mright_ok m (by omega) k (by omega), fbs]
  cases hr : rightM m with
  | false => rw [if_neg (by simp), if_neg (by simp)]
  | true =>
    rw [if_pos rfl, if_pos rfl]
    unfold doesSw
    by_cases h1 : m.f0 = 1
    · rw [if_pos h1, if_pos h1, put_ok st.1 m.f2 lim h.rise (by omega) (by omega) k (by omega), fbs]
    rw [if_neg h1, if_neg h1]
    by_cases h2 : m.f0 = 2
    · rw [if_pos h2, if_pos h2, del_ok st.1 _ _ _ h.rise (by omega), fbs]
    rw [if_neg h2, if_neg h2]
    by_cases h3 : m.f0 = 6
    · rw [if_pos h3, if_pos h3]
    rw [if_neg h3, if_neg h3]
    by_cases h4 : m.f0 = 3
    · rw [if_pos h4, if_pos h4]
    rw [if_neg h4, if_neg h4]
    by_cases h5 : m.f0 = 9
    · rw [if_pos h5, if_pos h5]
    rw [if_neg h5, if_neg h5]
theorem all_ok {lim : Int} (k : Nat) (hk : 4000 ≤ k) : ∀ (l : List Ms) (st : SwS), (∀ m ∈ l, MOk m) → SwOk lim st.1 → st.2.1.length + l.length ≤ 100000000 → st.2.2.length + l.length ≤ 100000000 → allSw k lim l st = some (swAll lim l st) ∧ SwOk lim (swAll lim l st).1
  | [], st, _, h, _, _ => ⟨rfl, h⟩
  | m :: t, st, hm, h, h1, h2 => by
    simp only [List.length_cons] at h1 h2
    have hl := step_len lim m st
    have hm0 := hm m (List.mem_cons_self ..)
    have := all_ok k hk t (swStep lim m st) (fun x hx => hm x (List.mem_cons_of_mem _ hx)) (h.step hm0) (by omega) (by omega)
    refine ⟨?_, this.2⟩
    unfold allSw
    rw [if_pos ⟨hm0.kind, by omega, by omega⟩, step_ok h hm0 k hk, fbs]
    exact this.1
theorem swtch_ok {lim : Int} {r : List Ru} {l : List Ms} (hm : ∀ m ∈ l, MOk m) (h : SwOk lim r) (hl : l.length ≤ 1000000) (k : Nat) (hk : 4000 ≤ k) : swtch_All.f k lim r l = some (lim, (swAll lim l (r, [], [])).1, (swAll lim l (r, [], [])).2.1, (swAll lim l (r, [], [])).2.2) := by
  unfold swtch_All.f
  rw [if_pos (by omega), (all_ok k hk l (r, [], []) hm h (by simpa using (by omega)) (by simpa using (by omega))).1]
  rfl
theorem all_lens (lim : Int) : ∀ (l : List Ms) (st : SwS), (swAll lim l st).2.1.length ≤ st.2.1.length + l.length ∧ (swAll lim l st).2.2.length ≤ st.2.2.length + l.length
  | [], st => ⟨Nat.le_refl _, Nat.le_refl _⟩
  | m :: t, st => by
    have h1 := all_lens lim t (swStep lim m st)
    have h2 := step_len lim m st
    simp only [List.length_cons]
    have h3 : swAll lim (m :: t) st = swAll lim t (swStep lim m st) := rfl
    rw [h3]
    omega
theorem all_mem (lim : Int) : ∀ (l : List Ms) (st : SwS), (∀ x ∈ (swAll lim l st).2.1, x ∈ st.2.1 ∨ x.f2.f5 = [] ∧ x.f5 = []) ∧ (∀ x ∈ (swAll lim l st).2.2, x ∈ st.2.2 ∨ x ∈ l)
  | [], st => ⟨fun _ h => .inl h, fun _ h => .inl h⟩
  | m :: t, st => by
    have h1 := all_mem lim t (swStep lim m st)
    have h3 : swAll lim (m :: t) st = swAll lim t (swStep lim m st) := rfl
    rw [h3]
    have h2 : (∀ x ∈ (swStep lim m st).2.1, x ∈ st.2.1 ∨ x.f2.f5 = [] ∧ x.f5 = []) ∧ (∀ x ∈ (swStep lim m st).2.2, x ∈ st.2.2 ∨ x = m) := by
      unfold swStep
      repeat' split
      all_goals refine ⟨fun x hx => ?_, fun x hx => ?_⟩
      all_goals first
        | exact .inl hx
        | exact (List.mem_append.1 hx).imp id (fun h => (by first | exact List.mem_singleton.1 h | (cases h; done) | (have := List.mem_singleton.1 h; subst this; exact ⟨rfl, rfl⟩)))
    refine ⟨fun x hx => ?_, fun x hx => ?_⟩
    · rcases h1.1 x hx with h | h
      · exact h2.1 x h
      · exact .inr h
    · rcases h1.2 x hx with h | h
      · rcases h2.2 x h with h | rfl
        · exact .inl h
        · exact .inr (List.mem_cons_self ..)
      · exact .inr (List.mem_cons_of_mem _ h)
theorem all_small {lim : Int} {l : List Ms} {r : List Ru} (hm : ∀ m ∈ l, MOk m) : (∀ x ∈ (swAll lim l (r, [], [])).2.1, x.f2.f5.length ≤ 4000 ∧ x.f5.length ≤ 4000) ∧ (∀ x ∈ (swAll lim l (r, [], [])).2.2, x.f2.f5.length ≤ 4000 ∧ x.f5.length ≤ 4000) := by
  obtain ⟨h1, h2⟩ := all_mem lim l (r, [], [])
  refine ⟨fun x hx => ?_, fun x hx => ?_⟩
  · rcases h1 x hx with h | h
    · cases h
    · rw [h.1, h.2]; exact ⟨Nat.zero_le _, Nat.zero_le _⟩
  · rcases h2 x hx with h | h
    · cases h
    · have := (hm x h).outs
      have := (hm x h).frame
      omega
theorem sw_same {lim : Int} {r : List Ru} (h : SwOk lim r) (k : Nat) (hk : 4000 ≤ k) : stolonref17_Same.f k lim r lim r = some true := by
  unfold stolonref17_Same.f
  have := h.len
  have := h.lim
  rw [if_pos rfl, rows_refl r (by omega) h.small k (by omega)]
  rfl
theorem sw_right (lim : Int) (l : List Ru) (hl : l.length ≤ 2000) (hs : ∀ r ∈ l, smallR r) (k : Nat) (hk : 5000 ≤ k) : ∃ b, stolonref17_Right.f k lim l = some b ∧ (b = true ↔ SwOk lim l) := by
  unfold stolonref17_Right.f
  rw [rtable_ok l (by omega) hs k (by omega), fbs]
  cases ht : tabB none l with
  | false =>
    rw [if_neg (by simp)]
    refine ⟨false, rfl, by simp, fun h => ?_⟩
    rw [(tabB_none l).2 ⟨h.all, h.rise⟩] at ht
    cases ht
  | true =>
    rw [if_pos rfl]
    obtain ⟨h1, h2⟩ := (tabB_none l).1 ht
    by_cases h3 : lim ≥ 0
    · rw [if_pos h3]
      by_cases h4 : lim ≤ 1000
      · rw [if_pos h4]
        refine ⟨_, rfl, fun h => ?_, fun h => ?_⟩
        · exact ⟨h2, h1, hs, of_decide_eq_true h, h3, h4⟩
        · exact decide_eq_true h.len
      · rw [if_neg h4]
        exact ⟨false, rfl, by simp, fun h => absurd h.lim.2 h4⟩
    · rw [if_neg h3]
      exact ⟨false, rfl, by simp, fun h => absurd h.lim.1 h3⟩
theorem few17_loop (l : List Ms) (hm : l.length ≤ 9000000000000) (hw : ∀ m ∈ l, m.f2.f5.length ≤ 9000000000000 ∧ m.f5.length ≤ 140737488351232) : ∀ (d i k : Nat) (x : Int), i + d = l.length → 3002 ≤ k + x → 0 ≤ x → x ≤ 3000 →
    ∃ b, stolonlaw17_few.l0 k l x (i : Int) = some b ∧ (b = true → (d : Int) + x ≤ 3000 ∧ ∀ m ∈ l.drop i, m.f2.f5.length ≤ 3000 ∧ m.f5.length ≤ 3000) := by
  intro d
  induction d with
  | zero =>
    intro i k x hi hk h0 h1
    obtain ⟨k, rfl⟩ : ∃ j, k = j + 1 := ⟨k - 1, by omega⟩
    rw [stolonlaw17_few.l0, if_neg (by omega)]
    exact ⟨true, rfl, fun _ => ⟨by omega, by rw [List.drop_of_length_le (by omega)]; intro m hm; cases hm⟩⟩
  | succ d ih =>
    intro i k x hi hk h0 h1
    obtain ⟨k, rfl⟩ : ∃ j, k = j + 1 := ⟨k - 1, by omega⟩
    have h2 : i < l.length := by omega
    have h3 := hw _ (List.getElem_mem h2)
    rw [stolonlaw17_few.l0, if_pos (by omega), if_pos (by omega), rd_ms l i h2, fw64 (x := x + 1) (by omega), fw64 (x := x + 1 + _) (by omega), fw64 (x := x + 1 + _ + _) (by omega)]
    by_cases h4 : x + 1 + (l[i].f5.length : Int) + (l[i].f2.f5.length : Int) > 3000
    · rw [if_pos h4]
      exact ⟨false, rfl, by simp⟩
    · rw [if_neg h4, fw64 (by omega)]
      obtain ⟨b, h5, h6⟩ := ih (i + 1) k (x + 1 + (l[i].f5.length : Int) + (l[i].f2.f5.length : Int)) (by omega) (by omega) (by omega) (by omega)
      rw [Int.natCast_add] at h5
      refine ⟨b, h5, fun hb => ?_⟩
      obtain ⟨h7, h8⟩ := h6 hb
      refine ⟨by omega, ?_⟩
      rw [List.drop_eq_getElem_cons h2]
      intro m hm
      rcases List.mem_cons.1 hm with rfl | hm
      · omega
      · exact h8 m hm
theorem wf_ms {m : Ms} (h : wf32 m) : (0 ≤ m.f2.f4 ∧ (Lit.int .u8 m.f0).wf = true) ∧ m.f2.f5.length ≤ 9000000000000 ∧ m.f5.length ≤ 140737488351232 :=
  ⟨⟨(wf_u32 h.2.2.1.2.2.2.2.1).1, h.1⟩, by have := h.2.2.1.2.2.2.2.2.1; omega, by have := h.2.2.2.2.2.1; omega⟩
theorem few17_ok (l : List Ms) (hm : l.length * 104 ≤ 140737488351232) (hw : ∀ m ∈ l, wf32 m) (k : Nat) (hk : 3010 ≤ k) : ∃ b, stolonlaw17_few.f k l = some b ∧ (b = true → l.length ≤ 3000 ∧ ∀ m ∈ l, MOk m) := by
  unfold stolonlaw17_few.f
  obtain ⟨b, h1, h2⟩ := few17_loop l (by omega) (fun m hx => (wf_ms (hw m hx)).2) l.length 0 k 0 (by omega) (by omega) (by omega) (by omega)
  refine ⟨b, h1, fun hb => ?_⟩
  obtain ⟨h3, h4⟩ := h2 hb
  refine ⟨by omega, fun m hx => ?_⟩
  have h5 := h4 m (by rw [List.drop_zero]; exact hx)
  have h6 := (wf_ms (hw m hx)).1
  exact ⟨h6.1, h5.1, h5.2, h6.2⟩
theorem hear_ok {lim : Int} {r : List Ru} {m : Ms} (hm : MOk m) (h : SwOk lim r) (k : Nat) (hk : 4000 ≤ k) : swtch_Hear.f k lim r m.f0 m.f1 m.f2.f0 m.f2.f1 m.f2.f2 m.f2.f3 m.f2.f4 m.f2.f5 m.f3 m.f4 m.f5 = some (lim, (swStep lim m (r, [], [])).1, (swStep lim m (r, [], [])).2.1, (swStep lim m (r, [], [])).2.2) := by
  unfold swtch_Hear.f
  have := swtch_ok (l := [m]) (fun x hx => by rw [List.mem_singleton.1 hx]; exact hm) h (by simp) k hk
  rw [show ([⟨m.f0, m.f1, ⟨m.f2.f0, m.f2.f1, m.f2.f2, m.f2.f3, m.f2.f4, m.f2.f5⟩, m.f3, m.f4, m.f5⟩] : List Ms) = [m] from rfl, this, fbs]
  rfl
theorem odd_step {lim : Int} {m : Ms} (st : SwS) (h : rightM m = false ∨ (m.f0 = 4 ∨ m.f0 = 5 ∨ m.f0 = 7 ∨ m.f0 = 8)) : swStep lim m st = st := by
  unfold swStep
  rcases h with h | h
  · rw [if_neg (by rw [h]; simp)]
  · split
    · rw [if_neg (by omega), if_neg (by omega), if_neg (by omega), if_neg (by omega), if_neg (by omega)]
    · rfl
theorem shown17_ok (k : Nat) (hk : 100 ≤ k) : stolonlaw17_shown.f k = some true := by
  have h : stolonlaw17_shown.f 100 = some true := by decide +kernel
  exact at_rounds (fun k => stolonlaw17_shown.mono k) hk h
end Go.Proofs.Ytfomnmdjbdohgaa.P

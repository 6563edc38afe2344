/- Rows of rules whose keys rise: where a key stands, what it is to lay a rule, or to take one away. Plain lemmas on lists. -/
import Derived.Test.YtfomnmdjbdohgaaPx6
import Derived.Test.YtfomnmdjbdohgaaPx7
import Derived.Test.YtfomnmdjbdohgaaFlFun
namespace Go.Proofs.Ytfomnmdjbdohgaa.P
set_option linter.unusedVariables false
set_option linter.unusedSimpArgs false
open Go.RowKit Go.Proofs.YtfomnmdjbdohgaaW.PrintWords Go.Proofs.YtfomnmdjbdohgaaW.PrintLast Go.Proofs.YtfomnmdjbdohgaaW.PrintMore
abbrev Key := Int × Int × Int
theorem riseK_iff {l : List Ru} : riseK l = true ↔ l.Pairwise (fun r s => ltK (keyR r) (keyR s) = true) := by unfold riseK; rw [decide_eq_true_eq]
structure Part (l : List Ru) (key : Key) (A M B : List Ru) : Prop where
 eq : l = A ++ (M ++ B)
 lo : ∀ x ∈ A, ltK (keyR x) key = true
 hi : ∀ x ∈ B, ltK key (keyR x) = true
 mid : M = [] ∨ ∃ x, M = [x] ∧ keyR x = key
theorem part_of (key : Key) : ∀ (l : List Ru), riseK l = true → ∃ A M B, Part l key A M B ∧ placeK l key = A.length
 | [], _ => ⟨[], [], [], ⟨rfl, by simp, by simp, .inl rfl⟩, rfl⟩
 | x :: t, h => by
  have hp := List.pairwise_cons.1 (riseK_iff.1 h)
  by_cases h1 : ltK (keyR x) key = true
  ·obtain ⟨A, M, B, hP, hl⟩ := part_of key t (riseK_iff.2 hp.2)
   refine ⟨x :: A, M, B, ⟨by rw [hP.eq]; rfl, ?_, hP.hi, hP.mid⟩, ?_⟩
   ·intro y hy
    rcases List.mem_cons.1 hy with rfl | hy
    ·exact h1
    ·exact hP.lo y hy
   ·unfold placeK at hl ⊢
    rw [List.findIdx_cons, h1]
    simp [hl]
  ·have h1' : ltK (keyR x) key = false := by simpa using h1
   have hz : placeK (x :: t) key = 0 := by
    unfold placeK
    rw [List.findIdx_cons, h1']
    simp
   by_cases h2 : ltK key (keyR x) = true
   ·refine ⟨[], [], x :: t, ⟨rfl, by simp, ?_, .inl rfl⟩, hz⟩
    intro y hy
    rcases List.mem_cons.1 hy with rfl | hy
    ·exact h2
    ·exact ltK_trans h2 (hp.1 y hy)
   ·have h2' : ltK key (keyR x) = false := by simpa using h2
    have hk := ltK_eq h1' h2'
    refine ⟨[], [x], t, ⟨rfl, by simp, ?_, .inr ⟨x, rfl, hk⟩⟩, hz⟩
    intro y hy
    rw [← hk]
    exact hp.1 y hy
theorem ordK_self (k : Key) : ordK k k = 0 := by unfold ordK; rw [ltK_irrefl]; simp
theorem ltK_asymm {a b : Key} (h : ltK a b = true) : ltK b a = false := by
 cases h2 : ltK b a with
 | false => rfl
 | true =>
  have := ltK_trans h h2
  rw [ltK_irrefl] at this
  cases this
theorem rd_ru (l : List Ru) (k : Nat) (hk : k < l.length) : rd_T29 l (k : Int) = l[k]'hk := rd_rule l k hk
theorem part_at {l : List Ru} {key : Key} {A M B : List Ru} (h : Part l key A M B) (hp : placeK l key = A.length) : placeB l key = !M.isEmpty := by
 have he := h.eq
 have key2 : ∀ (x : Ru) (t : List Ru), M ++ B = x :: t → placeB l key = (ordK (keyR x) key == 0) := by
  intro x t hx
  rw [hx] at he
  have hlt : A.length < l.length := by rw [he]; simp
  unfold placeB
  rw [hp, rd_ru l A.length hlt, decide_eq_true hlt, Bool.true_and]
  have : l[A.length]'hlt = x := by
   subst he
   simp
  rw [this]
 rcases h.mid with rfl | ⟨x, rfl, hk⟩
 ·rcases B with _ | ⟨y, B⟩
  ·have : ¬ (A.length < l.length) := by rw [he]; simp
   unfold placeB
   rw [hp, decide_eq_false this]
   rfl
  ·rw [key2 y B rfl]
   have h2 := h.hi y List.mem_cons_self
   unfold ordK
   rw [ltK_asymm h2, h2]
   rfl
 ·rw [key2 x B rfl, hk, ordK_self]
  rfl
def putP (l : List Ru) (r : Ru) : List Ru := if placeB l (keyR r) = true then l.set (placeK l (keyR r)) r else l.take (placeK l (keyR r)) ++ r :: l.drop (placeK l (keyR r))
def delP (l : List Ru) (key : Key) : List Ru := if placeB l key = true then l.eraseIdx (placeK l key) else l
theorem putP_part {l : List Ru} {r : Ru} {A M B : List Ru} (h : Part l (keyR r) A M B) (hp : placeK l (keyR r) = A.length) : putP l r = A ++ r :: B := by
 unfold putP
 rw [part_at h hp, hp]
 have he := h.eq
 rcases h.mid with rfl | ⟨x, rfl, hk⟩
 ·subst he
  simp
 ·subst he
  simp
theorem delP_part {l : List Ru} {key : Key} {A M B : List Ru} (h : Part l key A M B) (hp : placeK l key = A.length) : delP l key = A ++ B := by
 unfold delP
 rw [part_at h hp, hp]
 have he := h.eq
 rcases h.mid with rfl | ⟨x, rfl, hk⟩
 ·subst he
  simp
 ·subst he
  simp [List.eraseIdx_append_of_length_le]
theorem part_rise {l : List Ru} {r : Ru} {A M B : List Ru} (hs : riseK l = true) (h : Part l (keyR r) A M B) : riseK (A ++ r :: B) = true := by
 have h1 := riseK_iff.1 hs
 rw [h.eq] at h1
 rw [riseK_iff]
 obtain ⟨hA, hMB, hAB⟩ := List.pairwise_append.1 h1
 obtain ⟨_, hB, _⟩ := List.pairwise_append.1 hMB
 refine List.pairwise_append.2 ⟨hA, List.pairwise_cons.2 ⟨fun y hy => h.hi y hy, hB⟩, fun a ha b hb => ?_⟩
 rcases List.mem_cons.1 hb with rfl | hb
 ·exact h.lo a ha
 ·exact hAB a ha b (List.mem_append_right _ hb)
theorem part_rise2 {l : List Ru} {key : Key} {A M B : List Ru} (hs : riseK l = true) (h : Part l key A M B) : riseK (A ++ B) = true := by
 have h1 := riseK_iff.1 hs
 rw [h.eq] at h1
 rw [riseK_iff]
 obtain ⟨hA, hMB, hAB⟩ := List.pairwise_append.1 h1
 obtain ⟨_, hB, _⟩ := List.pairwise_append.1 hMB
 exact List.pairwise_append.2 ⟨hA, hB, fun a ha b hb => hAB a ha b (List.mem_append_right _ hb)⟩
theorem putP_rise {l : List Ru} (r : Ru) (hs : riseK l = true) : riseK (putP l r) = true := by
 obtain ⟨A, M, B, h, hp⟩ := part_of (keyR r) l hs
 rw [putP_part h hp]
 exact part_rise hs h
theorem delP_rise {l : List Ru} (key : Key) (hs : riseK l = true) : riseK (delP l key) = true := by
 obtain ⟨A, M, B, h, hp⟩ := part_of key l hs
 rw [delP_part h hp]
 exact part_rise2 hs h
theorem ltK_ne {a b : Key} (h : ltK a b = true) : a ≠ b := fun e => by rw [e, ltK_irrefl] at h; cases h
theorem mem_putP {l : List Ru} {r : Ru} (hs : riseK l = true) (x : Ru) : x ∈ putP l r ↔ x = r ∨ (x ∈ l ∧ keyR x ≠ keyR r) := by
 obtain ⟨A, M, B, h, hp⟩ := part_of (keyR r) l hs
 rw [putP_part h hp, h.eq]
 simp only [List.mem_append, List.mem_cons]
 constructor
 ·rintro (hx | rfl | hx)
  ·exact .inr ⟨.inl hx, ltK_ne (h.lo x hx)⟩
  ·exact .inl rfl
  ·exact .inr ⟨.inr (.inr hx), (ltK_ne (h.hi x hx)).symm⟩
 ·rintro (rfl | ⟨hx | hx | hx, hne⟩)
  ·exact .inr (.inl rfl)
  ·exact .inl hx
  ·rcases h.mid with rfl | ⟨y, rfl, hk⟩
   ·cases hx
   ·rw [List.mem_singleton.1 hx] at hne
    exact absurd hk hne
  ·exact .inr (.inr hx)
theorem mem_delP {l : List Ru} {key : Key} (hs : riseK l = true) (x : Ru) : x ∈ delP l key ↔ x ∈ l ∧ keyR x ≠ key := by
 obtain ⟨A, M, B, h, hp⟩ := part_of key l hs
 rw [delP_part h hp, h.eq]
 simp only [List.mem_append]
 constructor
 ·rintro (hx | hx)
  ·exact ⟨.inl hx, ltK_ne (h.lo x hx)⟩
  ·exact ⟨.inr (.inr hx), (ltK_ne (h.hi x hx)).symm⟩
 ·rintro ⟨hx | hx | hx, hne⟩
  ·exact .inl hx
  ·rcases h.mid with rfl | ⟨y, rfl, hk⟩
   ·cases hx
   ·rw [List.mem_singleton.1 hx] at hne
    exact absurd hk hne
  ·exact .inr hx
theorem placeB_iff {l : List Ru} {key : Key} (hs : riseK l = true) : placeB l key = true ↔ ∃ x ∈ l, keyR x = key := by
 obtain ⟨A, M, B, h, hp⟩ := part_of key l hs
 rw [part_at h hp, h.eq]
 constructor
 ·intro hM
  rcases h.mid with rfl | ⟨x, rfl, hk⟩
  ·cases hM
  ·exact ⟨x, by simp, hk⟩
 ·rintro ⟨x, hx, hk⟩
  simp only [List.mem_append] at hx
  rcases hx with hx | hx | hx
  ·exact absurd hk (ltK_ne (h.lo x hx))
  ·rcases h.mid with rfl | ⟨y, rfl, _⟩
   ·cases hx
   ·rfl
  ·exact absurd hk.symm (ltK_ne (h.hi x hx))
theorem len_putP {l : List Ru} (r : Ru) (hs : riseK l = true) : (putP l r).length = if placeB l (keyR r) = true then l.length else l.length + 1 := by
 obtain ⟨A, M, B, h, hp⟩ := part_of (keyR r) l hs
 rw [putP_part h hp, part_at h hp, h.eq]
 rcases h.mid with rfl | ⟨x, rfl, _⟩
 ·simp; omega
 ·simp
theorem len_delP {l : List Ru} (key : Key) (hs : riseK l = true) : (delP l key).length ≤ l.length := by
 unfold delP
 split
 ·rw [List.length_eraseIdx]; split <;> omega
 ·exact Nat.le_refl _
end Go.Proofs.Ytfomnmdjbdohgaa.P

/- Readings opened to kinds: what a claim's argument reads as gives the printed functions' own facts on it. Plain lemmas over any program. -/
import Derived.Test.YtkcphjdjhlikhaaWWords
import Derived.SizedLaws
import Derived.ChangeSlices
import Derived.ProofKit
import Derived.OpenShut
namespace Go.Proofs.Ytkcphjdjhlikhaa.HOpen
open Go.ChangeShapes Go.WideShapes Go.RowKit Go.Proofs.YtkcphjdjhlikhaaW.PrintWords

section
variable {P : Program}

theorem add_of_add (a : Addr) (i j : Nat) : (a.add i).add j = a.add (i + j) := by
  unfold Addr.add
  by_cases hi : i = 0 <;> by_cases hj : j = 0 <;> simp [hi, hj, Nat.add_assoc]

/-- A reading of this type is a value of this kind. -/
def Opens {α : Type} (P : Program) (t : TypeId) (d : Kd α) (wf : α → Prop) : Prop :=
  ∀ (H : Type) (enc : TypeId × Value → H) (w : World) (n : Nat) (cs : List Value) (x : DataW H × List MemPlace),
    DataW.trod enc P w 0 (fun _ => true) true n t cs = some x → (∀ z ∈ DataW.weights P t x.1, z ≤ reachBytes) → ∃ v, d.K w v cs ∧ wf v

theorem opens_int {t : TypeId} {k : IntKind} (ht : P.underlying t = some (.int k)) : Opens P t (Kd.int k) (fun n => (Lit.int k n).wf = true) := by
  intro H enc w n cs x h _
  obtain ⟨m, rfl, rfl, hw⟩ := DataW.trod_int ht h
  exact ⟨m, rfl, hw⟩

theorem opens_bool {t : TypeId} (ht : P.underlying t = some .bool) : Opens P t Kd.bool (fun _ => True) := by
  intro H enc w n cs x h _
  obtain ⟨m, rfl, rfl⟩ := DataW.trod_bool ht h
  exact ⟨m, rfl, trivial⟩

theorem opens_string {t : TypeId} (ht : P.underlying t = some .string) : Opens P t Kd.string (fun s => s.size ≤ 140737488351232) := by
  intro H enc w n cs x h hz
  obtain ⟨s, rfl, rfl, hs⟩ := DataW.trod_string ht h
  refine ⟨s, rfl, ?_⟩
  have := hz s.data.toList.length (by simp [DataW.weights])
  rw [Array.length_toList] at this
  exact this

theorem exists_list {α : Type} (Q : Nat → α → Prop) : ∀ n, (∀ i, i < n → ∃ v, Q i v) → ∃ xs : List α, xs.length = n ∧ ∀ i v, xs[i]? = some v → Q i v := by
  intro n
  induction n with
  | zero => exact fun _ => ⟨[], rfl, fun i v h => by simp at h⟩
  | succ n ih =>
    intro h
    obtain ⟨xs, hl, hx⟩ := ih (fun i hi => h i (by omega))
    obtain ⟨v, hv⟩ := h n (by omega)
    refine ⟨xs ++ [v], by simp [hl], fun i u hu => ?_⟩
    rcases Nat.lt_or_ge i xs.length with hi | hi
    · rw [List.getElem?_append_left hi] at hu
      exact hx i u hu
    · have hi' : i = xs.length := by
        have := (List.getElem?_eq_some_iff.1 hu).1
        simp at this
        omega
      subst hi'
      simp at hu
      subst hu
      rw [hl]
      exact hv

theorem weights_all_mem {H : Type} {e : TypeId} : ∀ {l : List (DataW H)} {d : DataW H}, d ∈ l → ∀ z ∈ DataW.weights P e d, z ∈ DataW.weightsAll P e l := by
  intro l
  induction l with
  | nil => intro d h; cases h
  | cons y l ih =>
    intro d h z hz
    rw [DataW.weightsAll]
    rcases List.mem_cons.1 h with rfl | h
    · exact List.mem_append_left _ hz
    · exact List.mem_append_right _ (ih h z hz)

theorem opens_slice {t e : TypeId} {α : Type} {d : Kd α} {wf : α → Prop} (ht : P.underlying t = some (.slice e)) (hc : P.cellsOf e = d.sz) (h : Opens P e d wf) :
    Opens P t (Kd.slice e d) (fun xs => xs.length * P.bytesOf e ≤ 140737488351232 ∧ xs.length ≤ maxLen ∧ ∀ x ∈ xs, wf x) := by
  intro H enc w n cs x hx hz
  rcases DataW.trod_slice ht hx with ⟨rfl, rfl⟩ | ⟨a, len, cap, elems, rest, m, rfl, rfl, rfl, _, hlc, hcm, hel, hel2, hr, _⟩
  · refine ⟨[], ⟨none, 0, rfl, Nat.le_refl _, ?_⟩, by simp, by simp [maxLen], by simp⟩
    exact ⟨rfl, by simp, fun h0 => by simp at h0⟩
  · have hW : ∀ z ∈ (elems.length + rest.length) * P.bytesOf e :: (DataW.weightsAll P e (elems.map (·.1)) ++ DataW.weightsAll P e (rest.map (·.1))), z ≤ reachBytes := by
      intro z hz'
      refine hz z ?_
      simpa [DataW.weights, ht] using hz'
    have key : ∀ i, i < len → ∃ v : α, (∃ c : List Value, c.length = d.sz ∧ d.K w v c ∧ ∀ j u, c[j]? = some u → w.cell? (a.add (i * d.sz + j)) = some u) ∧ wf v := by
      intro i hi
      have hb := hel2 i hi
      have hi' : i < elems.length := by omega
      rw [List.getElem?_eq_getElem hi', Option.bind_eq_some_iff] at hb
      obtain ⟨c, hcell, htr⟩ := hb
      obtain ⟨v, hK, hwf⟩ := h H enc w m c _ htr (fun z hz' => hW z (List.mem_cons_of_mem _ (List.mem_append_left _ (weights_all_mem (List.mem_map_of_mem (List.getElem_mem hi')) z hz'))))
      unfold World.cells? at hcell
      rw [if_pos (Nat.zero_le _)] at hcell
      have hlen := mapM_some_length hcell
      rw [List.length_range] at hlen
      refine ⟨v, ⟨c, by omega, hK, fun j u hu => ?_⟩, hwf⟩
      have hj : j < P.cellsOf e := by
        have := (List.getElem?_eq_some_iff.1 hu).1
        omega
      have hg := mapM_some_get hcell j j (by simp [hj])
      rw [hu, add_of_add, hc] at hg
      exact hg
    obtain ⟨xs, hl, hxs⟩ := exists_list _ len key
    subst hl
    refine ⟨xs, ⟨some a, cap, rfl, hlc, ?_⟩, ?_, ?_, ?_⟩
    · refine ⟨rfl, by simp only [maxLen] at hcm; omega, fun _ => ⟨a, rfl, fun j p hp => ?_⟩⟩
      obtain ⟨⟨c, h1, h2, h3⟩, _⟩ := hxs j p hp
      exact ⟨c, h1, h2, h3⟩
    · have := hW _ List.mem_cons_self
      have h2 : xs.length * P.bytesOf e ≤ (elems.length + rest.length) * P.bytesOf e := Nat.mul_le_mul_right _ (by omega)
      exact Nat.le_trans h2 this
    · omega
    · intro x hx
      obtain ⟨i, hi, rfl⟩ := List.getElem_of_mem hx
      exact (hxs i _ (List.getElem?_eq_getElem hi)).2

/-- The fields of a struct, one behind the other. -/
def Segs {H : Type} (enc : TypeId × Value → H) (P : Program) (w : World) (n : Nat) : List TypeId → List Value → List (DataW H × List MemPlace) → Prop
  | [], cs, ys => cs = [] ∧ ys = []
  | t :: ts, cs, y :: ys => DataW.trod enc P w 0 (fun _ => true) true n t (cs.take (P.cellsOf t)) = some y ∧ Segs enc P w n ts (cs.drop (P.cellsOf t)) ys
  | _ :: _, _, [] => False

def OpensL {α : Type} (P : Program) (ts : List TypeId) (d : Kd α) (wf : α → Prop) : Prop :=
  ∀ (H : Type) (enc : TypeId × Value → H) (w : World) (n : Nat) (cs : List Value) (ys : List (DataW H × List MemPlace)),
    Segs enc P w n ts cs ys → (∀ z ∈ DataW.weightsEach P ts (ys.map (·.1)), z ≤ reachBytes) → ∃ v, d.K w v cs ∧ wf v

theorem opensL_one {t : TypeId} {α : Type} {d : Kd α} {wf : α → Prop} (h : Opens P t d wf) : OpensL P [t] d wf := by
  intro H enc w n cs ys hs hz
  cases ys with
  | nil => exact hs.elim
  | cons y ys =>
    obtain ⟨h1, h2, rfl⟩ := hs
    have ht : cs.take (P.cellsOf t) = cs := by
      have := List.take_append_drop (P.cellsOf t) cs
      rw [h2, List.append_nil] at this
      exact this
    rw [ht] at h1
    exact h H enc w n cs y h1 (fun z hz' => hz z (by simp only [List.map_cons, List.map_nil, DataW.weightsEach]; exact List.mem_append_left _ hz'))

theorem opensL_cons {t : TypeId} {ts : List TypeId} {α β : Type} {d : Kd α} {d2 : Kd β} {wf : α → Prop} {wf2 : β → Prop} (h : Opens P t d wf) (h2 : OpensL P ts d2 wf2) :
    OpensL P (t :: ts) (Kd.pair d d2) (fun v => wf v.1 ∧ wf2 v.2) := by
  intro H enc w n cs ys hs hz
  cases ys with
  | nil => exact hs.elim
  | cons y ys =>
    obtain ⟨h1, h3⟩ := hs
    obtain ⟨v, hv, hw⟩ := h H enc w n _ y h1 (fun z hz' => hz z (by simp only [List.map_cons, DataW.weightsEach]; exact List.mem_append_left _ hz'))
    obtain ⟨u, hu, hw2⟩ := h2 H enc w n _ ys h3 (fun z hz' => hz z (by simp only [List.map_cons, DataW.weightsEach]; exact List.mem_append_right _ hz'))
    exact ⟨(v, u), ⟨_, _, (List.take_append_drop (P.cellsOf t) cs).symm, hv, hu⟩, hw, hw2⟩

theorem opensL_iso {ts : List TypeId} {α β : Type} {d : Kd α} {wf : α → Prop} (f : β → α) (hf : ∀ a, ∃ b, f b = a) (h : OpensL P ts d wf) : OpensL P ts (Kd.iso d f) (fun b => wf (f b)) := by
  intro H enc w n cs ys hs hz
  obtain ⟨v, hv, hw⟩ := h H enc w n cs ys hs hz
  obtain ⟨b, rfl⟩ := hf v
  exact ⟨b, hv, hw⟩

/-- The fields lie one behind the other from this place on. -/
def offs (P : Program) : Nat → List Field → Option Nat
  | o, [] => some o
  | o, f :: fs => if f.offset = o then offs P (o + P.cellsOf f.type) fs else none

theorem segs_of {H : Type} {enc : TypeId × Value → H} {w : World} {n : Nat} {cs : List Value} : ∀ (l : List Field) (o e : Nat) (xs : List (DataW H × List MemPlace)),
    (∀ (i : Nat) (f : Field), l[i]? = some f → DataW.trod enc P w 0 (fun _ => true) true n f.type ((cs.drop f.offset).take (P.cellsOf f.type)) = xs[i]?) → xs.length = l.length → offs P o l = some e → cs.length = e →
    Segs enc P w n (l.map (·.type)) (cs.drop o) xs := by
  intro l
  induction l with
  | nil =>
    intro o e xs _ hl ho he
    have ho' : o = e := Option.some.inj ho
    subst ho'
    refine ⟨by rw [← he]; simp, List.eq_nil_of_length_eq_zero hl⟩
  | cons f l ih =>
    intro o e xs hg hl ho he
    cases xs with
    | nil => simp at hl
    | cons x xs =>
      unfold offs at ho
      split at ho
      · rename_i hfo
        refine ⟨?_, ?_⟩
        · have := hg 0 f rfl
          rw [hfo] at this
          exact this
        · have := ih (o + P.cellsOf f.type) e xs (fun i g hi => hg (i + 1) g (by simpa using hi)) (by simpa using hl) ho he
          rw [List.drop_drop]
          exact this
      · cases ho

theorem opens_struct {t : TypeId} {fs : Array Field} {α : Type} {d : Kd α} {wf : α → Prop} (ht : P.underlying t = some (.struct fs)) (hoff : offs P 0 fs.toList = some (P.cellsOf t))
    (h : OpensL P (fs.toList.map (·.type)) d wf) : Opens P t d wf := by
  intro H enc w n cs x hx hz
  obtain ⟨xs, m, rfl, rfl, hl, hxl, hg⟩ := DataW.trod_struct ht hx
  have hs := segs_of (P := P) (enc := enc) (w := w) (n := m) (cs := cs) fs.toList 0 _ xs (fun i f hi => hg i f (by simpa using hi)) (by simpa using hxl) hoff hl
  rw [List.drop_zero] at hs
  refine h H enc w m cs xs hs (fun z hz' => hz z ?_)
  simpa [DataW.weights, ht] using hz'

theorem weights_of_each {H : Type} {ts : List TypeId} {ds : List (DataW H)} (h : (DataW.weightsEach P ts ds).all (· ≤ reachBytes) = true) {j : Nat} {t : TypeId} {d : DataW H} (ht : ts[j]? = some t) (hd : ds[j]? = some d) :
    ∀ z ∈ DataW.weights P t d, z ≤ reachBytes := by
  intro z hz
  have := List.all_eq_true.1 h _ (DataW.weights_mem_each ht hd z hz)
  simpa using this

/-- A struct among the arguments. -/
theorem arg_struct {H : Type} {enc : TypeId × Value → H} {W : World} {r : Reach} {b0 : Nat} {t : TypeId} {fs : Array Field} {v : Value} {dt : DataW H} {p : List MemPlace} {α : Type} {d : Kd α} {wf : α → Prop} {ts : List TypeId} {ds : List (DataW H)} {j : Nat}
    (ht : P.underlying t = some (.struct fs)) (ho : Opens P t d wf) (hv : Value.okWide P W r b0 t v) (h : DataW.Trod enc P W 0 (fun _ => true) true t v dt p)
    (hsz : (DataW.weightsEach P ts ds).all (· ≤ reachBytes) = true) (hj : ts[j]? = some t) (hd : ds[j]? = some dt) :
    ∃ cs x, v = .agg cs ∧ d.K W x cs.toList ∧ wf x := by
  obtain ⟨cs, rfl, _⟩ := okWide_struct ht hv
  obtain ⟨n, hn⟩ := h
  obtain ⟨x, hx, hw⟩ := ho H enc W n _ _ hn (weights_of_each hsz hj hd)
  exact ⟨cs, x, rfl, hx, hw⟩

/-- A slice among the arguments. -/
theorem arg_slice {H : Type} {enc : TypeId × Value → H} {W : World} {r : Reach} {b0 : Nat} {t e : TypeId} {v : Value} {dt : DataW H} {p : List MemPlace} {α : Type} {d : Kd α} {wf : List α → Prop} {ts : List TypeId} {ds : List (DataW H)} {j : Nat}
    (ht : P.underlying t = some (.slice e)) (ho : Opens P t (Kd.slice e d) wf) (hv : Value.okWide P W r b0 t v) (h : DataW.Trod enc P W 0 (fun _ => true) true t v dt p)
    (hsz : (DataW.weightsEach P ts ds).all (· ≤ reachBytes) = true) (hj : ts[j]? = some t) (hd : ds[j]? = some dt) :
    ∃ A c x, v = .slice A x.length c ∧ x.length ≤ c ∧ d.C W A x.length x ∧ wf x := by
  obtain ⟨a, len, cap, rfl⟩ := okWide_slice ht hv
  obtain ⟨n, hn⟩ := h
  obtain ⟨x, ⟨A, c, hx, hl, hc⟩, hw⟩ := ho H enc W n _ _ hn (weights_of_each hsz hj hd)
  simp [Value.cells] at hx
  obtain ⟨rfl, rfl, rfl⟩ := hx
  exact ⟨_, _, x, rfl, hl, hc, hw⟩
end
end Go.Proofs.Ytkcphjdjhlikhaa.HOpen

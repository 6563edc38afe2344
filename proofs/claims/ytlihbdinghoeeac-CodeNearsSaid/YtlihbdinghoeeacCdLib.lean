/- Plain lemmas on the codes' values: they rise; the nearest one below; the printed functions' answers. -/
import Derived.Test.YtlihbdinghoeeacPx2
import Derived.Test.YtlihbdinghoeeacPx4
import Derived.Test.YtlihbdinghoeeacPx5
import Derived.Test.YtlihbdinghoeeacPx6
import Derived.Test.YtlihbdinghoeeacPx7
import Derived.Test.YtlihbdinghoeeacPx8
namespace Go.Proofs.Ytlihbdinghoeeac.P
set_option linter.unusedVariables false
open Go.RowKit Go.Proofs.YtlihbdinghoeeacW.PrintWords Go.Proofs.YtlihbdinghoeeacW.PrintLast Go.Proofs.YtlihbdinghoeeacW.PrintMore Go.Proofs.Ytlihbdinghoeeac.CdTable Go.Proofs.Ytlihbdinghoeeac.CdValues

theorem bs {α β : Type} (a : α) (f : α → Option β) : (some a).bind f = f a := by
  have h := Option.bind_some a f
  exact h
theorem w64 {x : Int} (h : -9223372036854775808 ≤ x ∧ x ≤ 9223372036854775807) : wrap64 x = x := by unfold wrap64; omega
theorem wf_u8 {x : Int} (h : (Lit.int .u8 x).wf = true) : 0 ≤ x ∧ x ≤ 255 := by
  simp [Lit.wf, IntKind.min, IntKind.max, IntKind.signed, IntKind.bits] at h
  exact h
theorem wf_u16 {x : Int} (h : (Lit.int .u16 x).wf = true) : 0 ≤ x ∧ x ≤ 65535 := by
  simp [Lit.wf, IntKind.min, IntKind.max, IntKind.signed, IntKind.bits] at h
  exact h

/-! ### the values rise -/
theorem step_all : ∀ c : Fin 255, cval c.val < cval (c.val + 1) := by decide +kernel
theorem rise : ∀ (d a : Nat), a + d + 1 < 256 → cval a < cval (a + d + 1) := by
  intro d
  induction d with
  | zero => exact fun a h => step_all ⟨a, by omega⟩
  | succ d ih =>
    intro a h
    have h1 := ih a (by omega)
    have h2 := step_all ⟨a + d + 1, by omega⟩
    exact Int.lt_trans h1 h2
theorem val_lt {a b : Nat} (h : a < b) (hb : b < 256) : cval a < cval b := by
  have := rise (b - a - 1) a (by omega)
  rwa [show a + (b - a - 1) + 1 = b by omega] at this
theorem val_le {a b : Nat} (h : a ≤ b) (hb : b < 256) : cval a ≤ cval b := by
  rcases Nat.lt_or_eq_of_le h with h | rfl
  · have := val_lt h hb; omega
  · omega
theorem val_inj {a b : Nat} (ha : a < 256) (hb : b < 256) (h : cval a = cval b) : a = b := by
  rcases Nat.lt_trichotomy a b with h1 | h1 | h1
  · have := val_lt h1 hb; omega
  · exact h1
  · have := val_lt h1 ha; omega
theorem val_0 : cval 0 = 0 := by decide
theorem val_255 : cval 255 = 31744 := by decide +kernel
theorem val_range {c : Nat} (h : c < 256) : 0 ≤ cval c ∧ cval c ≤ 31744 := by
  have h1 := val_le (Nat.zero_le c) h
  have h2 := val_le (show c ≤ 255 by omega) (by omega)
  rw [val_0] at h1
  rw [val_255] at h2
  exact ⟨h1, h2⟩

/-! ### the nearest one below -/
def IsNear (n : Int) (m : Nat) : Prop := m < 256 ∧ (n < 0 → m = 0) ∧ (0 ≤ n → cval m ≤ n) ∧ ∀ c, c < 256 → cval c ≤ n → c ≤ m
theorem near_unique {n : Int} {m m' : Nat} (h : IsNear n m) (h' : IsNear n m') : m = m' := by
  obtain ⟨h1, h2, h3, h4⟩ := h
  obtain ⟨g1, g2, g3, g4⟩ := h'
  by_cases hn : n < 0
  · rw [h2 hn, g2 hn]
  · have := h4 m' g1 (g3 (by omega))
    have := g4 m h1 (h3 (by omega))
    omega
theorem value_ok {c : Nat} (h : c < 256) : code_Value.f (c : Int) = some (cval c) := by
  unfold code_Value.f
  rw [if_pos (by omega), Int.toNat_natCast]
theorem u64_small {x : Int} (h : 0 ≤ x ∧ x < 1000000) : IntKind.u64.wrap x = x := by
  have : IntKind.u64.wrap x = x % 18446744073709551616 := by
    unfold IntKind.wrap
    simp [IntKind.signed, IntKind.bits]
  rw [this]
  omega
theorem cmp_ok (a b : Int) : cmp_Less_int.f a b = some (decide (a < b)) := by
  unfold cmp_Less_int.f cmp_isNaN_int.f
  simp
theorem isnan_ok (a : Int) : slices_isNaN_int.f a = some false := by unfold slices_isNaN_int.f; simp
theorem rd_vals {c : Nat} (h : c < 256) : rd vals (c : Int) = cval c := by
  unfold rd
  rw [Int.toNat_natCast]
  exact vals_at c h
theorem bs_loop (x : Int) : ∀ (d k i j : Nat), j - i ≤ d → i ≤ j → j ≤ 256 → d + 2 ≤ k → (∀ c, c < i → cval c < x) → (∀ c, j ≤ c → c < 256 → x ≤ cval c) →
    ∃ m, m ≤ 256 ∧ (∀ c, c < m → cval c < x) ∧ (∀ c, m ≤ c → c < 256 → x ≤ cval c) ∧ slices_BinarySearch_int_int.l0 k vals x 256 (i : Int) (j : Int) = some ((m : Int), decide (m < 256 ∧ cval m = x)) := by
  intro d
  induction d with
  | zero =>
    intro k i j hd hij hj hk h1 h2
    obtain ⟨k, rfl⟩ : ∃ q, k = q + 1 := ⟨k - 1, by omega⟩
    have : i = j := by omega
    subst this
    refine ⟨i, hj, h1, h2, ?_⟩
    rw [slices_BinarySearch_int_int.l0, if_neg (by omega), vals_length]
    by_cases hi : i < 256
    · rw [if_pos (by omega), if_pos (by omega), if_pos (by omega), rd_vals hi, isnan_ok]
      by_cases he : cval i = x
      · rw [if_pos he, decide_eq_true ⟨hi, he⟩]
      · rw [if_neg he, decide_eq_false (fun h => he h.2)]
        simp
    · rw [if_neg (by omega), decide_eq_false (fun h => hi h.1)]
  | succ d ih =>
    intro k i j hd hij hj hk h1 h2
    by_cases hij2 : i = j
    · exact ih k i j (by omega) hij hj (by omega) h1 h2
    · obtain ⟨k, rfl⟩ : ∃ q, k = q + 1 := ⟨k - 1, by omega⟩
      have e1 : wrap64 (IntKind.u64.wrap (wrap64 ((i : Int) + (j : Int))) / 2) = (((i + j) / 2 : Nat) : Int) := by
        rw [w64 (x := (i : Int) + (j : Int)) (by omega), u64_small (by omega), w64 (by omega)]
        omega
      have hm : (i + j) / 2 < 256 := by omega
      rw [slices_BinarySearch_int_int.l0, if_pos (by omega), e1, vals_length, if_pos (by omega), if_pos (by omega), cmp_ok, rd_vals hm]
      simp only [bs, decide_eq_true_eq]
      by_cases hc : cval ((i + j) / 2) < x
      · rw [if_pos hc, w64 (by omega), show (((i + j) / 2 : Nat) : Int) + 1 = (((i + j) / 2 + 1 : Nat) : Int) by omega]
        refine ih k ((i + j) / 2 + 1) j (by omega) (by omega) hj (by omega) (fun c hc2 => ?_) h2
        have := val_le (show c ≤ (i + j) / 2 by omega) hm
        omega
      · rw [if_neg hc]
        refine ih k i ((i + j) / 2) (by omega) (by omega) (by omega) (by omega) h1 (fun c hc2 hc3 => ?_)
        have := val_le hc2 hc3
        omega
theorem near_ok (n : Int) : ∃ m, IsNear n m ∧ ∀ k, 300 ≤ k → code_Near.f k n = some (m : Int) := by
  obtain ⟨m, hm, h1, h2, h3⟩ := bs_loop n 256 300 0 256 (by omega) (by omega) (by omega) (by omega) (fun c hc => absurd hc (by omega)) (fun c hc hc2 => absurd hc (by omega))
  have hf : ∀ k, 300 ≤ k → slices_BinarySearch_int_int.f k vals n = some ((m : Int), decide (m < 256 ∧ cval m = n)) := by
    intro k hk
    refine at_rounds (slices_BinarySearch_int_int.mono _ _) hk ?_
    unfold slices_BinarySearch_int_int.f
    rw [vals_length]
    exact h3
  by_cases hfound : m < 256 ∧ cval m = n
  · refine ⟨m, ⟨hfound.1, fun hn => ?_, fun _ => by omega, fun c hc hle => ?_⟩, fun k hk => ?_⟩
    · have := val_range hfound.1; omega
    · rcases Nat.lt_or_ge m c with h | h
      · have := val_lt h hc; omega
      · exact h
    · unfold code_Near.f
      rw [hf k hk]
      simp only [bs]
      rw [if_pos (decide_eq_true hfound), mx, if_neg (by omega)]
      exact congrArg some (by omega)
  · refine ⟨m - 1, ⟨by omega, fun hn => ?_, fun hn => ?_, fun c hc hle => ?_⟩, fun k hk => ?_⟩
    · rcases Nat.eq_zero_or_pos m with h | h
      · omega
      · have := h1 0 h; rw [val_0] at this; omega
    · rcases Nat.eq_zero_or_pos m with h | h
      · subst h
        rw [show 0 - 1 = 0 from rfl, val_0]
        exact hn
      · have := h1 (m - 1) (by omega); omega
    · rcases Nat.lt_or_ge c m with h | h
      · omega
      · have g1 := h2 c h hc
        have g2 : cval c = n := by omega
        rcases Nat.lt_or_eq_of_le h with h3 | h3
        · have := val_lt h3 hc
          have := h2 m (Nat.le_refl _) (by omega)
          omega
        · subst h3; exact absurd ⟨hc, g2⟩ hfound
    · unfold code_Near.f
      rw [hf k hk]
      simp only [bs]
      rw [if_neg (by simpa using hfound), w64 (by omega)]
      rcases Nat.eq_zero_or_pos m with h | h
      · subst h
        rw [mx, if_pos (by omega)]
        rfl
      · rw [mx, if_neg (by omega)]
        exact congrArg some (by omega)

/-! ### the reference's -/
theorem refval_all : ∀ c : Fin 256, stolonref03_Value.f 40 (c.val : Int) = some (cval c.val) := by decide +kernel
theorem refval {c : Nat} (h : c < 256) (k : Nat) (hk : 40 ≤ k) : stolonref03_Value.f k (c : Int) = some (cval c) := at_rounds (stolonref03_Value.mono _) hk (refval_all ⟨c, h⟩)
theorem mod256 {c : Nat} (h : c < 256) : (c : Int) % 256 = (c : Int) := by omega
theorem refnear_loop (x : Int) : ∀ (t k i best : Nat), 256 - i = t → i ≤ 256 → t + 50 ≤ k → best < 256 → (∀ c, c < i → cval c ≤ x → c ≤ best) → (best = 0 ∨ cval best ≤ x) →
    ∃ m : Nat, stolonref03_Near.l0 k x (best : Int) (i : Int) = some (m : Int) ∧ IsNear x m := by
  intro t
  induction t with
  | zero =>
    intro k i best ht hi hk hb h1 h2
    obtain ⟨k, rfl⟩ : ∃ q, k = q + 1 := ⟨k - 1, by omega⟩
    refine ⟨best, by rw [stolonref03_Near.l0, if_neg (by omega), mod256 hb], hb, fun hn => ?_, fun hn => ?_, fun c hc hle => h1 c (by omega) hle⟩
    · rcases h2 with h2 | h2
      · exact h2
      · have := val_range hb; omega
    · rcases h2 with h2 | h2
      · rw [h2, val_0]; exact hn
      · exact h2
  | succ t ih =>
    intro k i best ht hi hk hb h1 h2
    obtain ⟨k, rfl⟩ : ∃ q, k = q + 1 := ⟨k - 1, by omega⟩
    have hi2 : i < 256 := by omega
    have e2 : wrap64 ((i : Int) + 1) = ((i + 1 : Nat) : Int) := by rw [w64 (by omega)]; omega
    rw [stolonref03_Near.l0, if_pos (by omega), mod256 hi2, refval hi2 k (by omega)]
    simp only [bs]
    by_cases hc : cval i ≤ x
    · rw [if_pos hc, e2]
      refine ih k (i + 1) i (by omega) (by omega) (by omega) hi2 (fun c hc2 _ => by omega) (.inr hc)
    · rw [if_neg hc, e2]
      refine ih k (i + 1) best (by omega) (by omega) (by omega) hb (fun c hc2 hle => ?_) h2
      rcases Nat.lt_or_eq_of_le (show c ≤ i by omega) with h | h
      · exact h1 c h hle
      · subst h; exact absurd hle hc
theorem refnear_ok {n : Int} {m : Nat} (h : IsNear n m) (k : Nat) (hk : 400 ≤ k) : stolonref03_Near.f k n = some (m : Int) := by
  obtain ⟨m', h1, h2⟩ := refnear_loop n 256 k 0 0 (by omega) (by omega) (by omega) (by omega) (fun c hc => absurd hc (by omega)) (.inl rfl)
  rw [near_unique h h2]
  exact h1
/-- A number's code and errno. -/
theorem code_hit {n : Int} {m : Nat} (h : IsNear n m) (hv : cval m = n) (k : Nat) (hn : code_Near.f k n = some (m : Int)) : code_Code.f k n = some ((m : Int), 0) := by
  unfold code_Code.f
  rw [hn]
  simp only [bs]
  rw [value_ok h.1]
  simp only [bs]
  rw [if_pos hv]
theorem code_miss {n : Int} {m : Nat} (h : IsNear n m) (hv : ¬ cval m = n) (k : Nat) (hn : code_Near.f k n = some (m : Int)) : code_Code.f k n = some (0, 1) := by
  unfold code_Code.f
  rw [hn]
  simp only [bs]
  rw [value_ok h.1]
  simp only [bs]
  rw [if_neg hv]
theorem exact_ok {n : Int} {m : Nat} (h : IsNear n m) (k : Nat) (hn : code_Near.f k n = some (m : Int)) : code_Exact.f k n = some (decide (cval m = n)) := by
  unfold code_Exact.f
  by_cases hv : cval m = n
  · rw [code_hit h hv k hn]; simp [hv]
  · rw [code_miss h hv k hn]; simp [hv]
theorem near_of_val {c : Nat} (hc : c < 256) : IsNear (cval c) c := ⟨hc, fun h => by have := val_range hc; omega, fun _ => Int.le_refl _, fun c' hc' hle => by
  rcases Nat.lt_or_ge c c' with h | h
  · have := val_lt h hc'; omega
  · exact h⟩
theorem near_val {c : Nat} (hc : c < 256) (k : Nat) (hk : 300 ≤ k) : code_Near.f k (cval c) = some (c : Int) := by
  obtain ⟨m, h1, h2⟩ := near_ok (cval c)
  have := near_unique (near_of_val hc) h1
  rw [h2 k hk, ← this]
theorem refcode_loop (x : Int) : ∀ (t k i : Nat), 256 - i = t → i ≤ 256 → t + 50 ≤ k → (∀ c, c < i → cval c ≠ x) →
    (∃ c, c < 256 ∧ cval c = x ∧ stolonref03_Code.l0 k x (i : Int) = some ((c : Int), 0)) ∨ ((∀ c, c < 256 → cval c ≠ x) ∧ stolonref03_Code.l0 k x (i : Int) = some (0, 1)) := by
  intro t
  induction t with
  | zero =>
    intro k i ht hi hk h1
    obtain ⟨k, rfl⟩ : ∃ q, k = q + 1 := ⟨k - 1, by omega⟩
    exact .inr ⟨fun c hc => h1 c (by omega), by rw [stolonref03_Code.l0, if_neg (by omega)]⟩
  | succ t ih =>
    intro k i ht hi hk h1
    obtain ⟨k, rfl⟩ : ∃ q, k = q + 1 := ⟨k - 1, by omega⟩
    have hi2 : i < 256 := by omega
    have e2 : wrap64 ((i : Int) + 1) = ((i + 1 : Nat) : Int) := by rw [w64 (by omega)]; omega
    rw [stolonref03_Code.l0, if_pos (by omega), mod256 hi2, refval hi2 k (by omega)]
    simp only [bs]
    by_cases hc : cval i = x
    · exact .inl ⟨i, hi2, hc, by rw [if_pos hc]⟩
    · rw [if_neg hc, e2]
      refine ih k (i + 1) (by omega) (by omega) (by omega) (fun c hc2 => ?_)
      rcases Nat.lt_or_eq_of_le (show c ≤ i by omega) with h | h
      · exact h1 c h
      · subst h; exact hc
theorem shown_60 : stolonlaw03_shown.f 60 = some true := by decide +kernel
theorem shown_ok (k : Nat) (hk : 60 ≤ k) : stolonlaw03_shown.f k = some true := at_rounds stolonlaw03_shown.mono hk shown_60
end Go.Proofs.Ytlihbdinghoeeac.P

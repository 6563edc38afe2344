/- For each Go function a Lean function, and the proof that a call comes to what it tells: made by program out of the translation (the kit's print, with texts by hand put in). No condition. -/
import Derived.Test.YtboonfidioombaaSq
import Derived.Test.YtboonfidioombaaPx0
namespace Go.Proofs.Ytboonfidioombaa.P
open Go.RowKit Go.Proofs.Ytboonfidioombaa.HRows Go.Proofs.YtboonfidioombaaW.PrintWords Go.Proofs.YtboonfidioombaaW.PrintLast Go.Proofs.YtboonfidioombaaW.PrintMore
attribute [local go_sem] max2_int min2_int max_two min_two max_three min_three max_four min_four
set_option linter.unusedVariables false
set_option linter.unusedSimpArgs false
def slices_Clone_byte_byte.f (l0 : List (Int)) : Option (List (Int)) := if (l0.length : Int) ≤ 1000000 then some l0 else none
set_option maxHeartbeats 4000000 in
set_option maxRecDepth 100000 in
theorem slices_Clone_byte_byte.calls (A0 : Option Addr) (c0 : Nat) (l0 : List (Int)) (r : List (Int)) (w : World) (hr0 : Kd.C (Kd.int .u8) w A0 l0.length l0) (hc0 : l0.length ≤ c0) (h : slices_Clone_byte_byte.f l0 = some r) :
  Calls Try.prog 37 #[.slice A0 l0.length c0] w fun e w' => ∃ v0_ : Value, e = .returned (v0_) ∧ Kd.R (Kd.int .u8) 5 w' w.heap.size (fun _ => True) v0_ r ∧ Below w.heap.size w w' := by
 unfold slices_Clone_byte_byte.f at h
 split at h
 case isFalse => cases h
 case isTrue hb =>
 obtain rfl := Option.some.inj h
 clear h
 cases A0 with
 | none =>
  have h0 : l0 = [] := by
   rcases Nat.eq_zero_or_pos l0.length with h | h
   ·exact List.eq_nil_of_length_eq_zero h
   ·obtain ⟨ad, h1, _⟩ := hr0.2.2 h
    cases h1
  subst h0
  clear hr0 hb
  have heq : ∀ (n c : Nat) (W : World), (binOp .eql 27 (.slice none n c) (.slice none 0 0)).run Try.prog W = .ok (.bool true) W := fun _ _ _ => rfl
  go_enter Try.func37, Try.ntmps37
  go_wp2
  go_ret
  exact ⟨_, rfl, Kd.R_nil _ _ _ _ _, Below.refl _ _⟩
 | some ad =>
  have HR0 := m_ hr0
  have HL := m_ hb
  have HB := m_ (Below.refl w.heap.size w)
  clear hr0 hb hc0
  have heq : ∀ (n c : Nat) (W : World), (binOp .eql 27 (.slice (some ad) n c) (.slice none 0 0)).run Try.prog W = .ok (.bool false) W := fun _ _ _ => rfl
  go_enter Try.func37, Try.ntmps37
  go_wp2_with (first
   | ((with_reducible refine gate_dst (N := 5) rfl ?_); (try (refine gate_guard (by rfl) ?_; dsimp only)); refine Kd.R_lit (Kd.int .u8) _ 5 ?hg (N := 5) ?hd (xs := ([] : List (Int))) (inner := []) (ok := fun _ => True) (okp := fun _ => True) ?hr ?hp (fun _ hk => hk) trivial (Below.refl _ _) (Nat.le_refl _) (by simp) ?_; (case hd => rfl); (case hg => rfl); (case hr => first | (go_simp; done) | (go_simp; rfl)); (case hp => exact (Reps.none _ _)); intro v1 w1 ho hb hg_ hnew_; clear hg_ hnew_; have HO := m_ ho; have HB1 := m_ hb; clear ho hb)
   | ((with_reducible refine gate_builtin (b := .append) (xs := #[.tmp 5, .tmp 6]) rfl ?_); (try (refine gate_guard (by rfl) ?_; dsimp only)); at_builtin; refine Kd.R_append_rows (Kd.int .u8) (w0 := w) w.heap.size rfl (.tmp 5) (.tmp 6) 27 5 (.int .u8 0) 1 rfl Try.underlying27 info5 rfl (by decide) (by omega) v1 [] l0 _ _ _ (fun _ => True) (fun _ => False) rfl rfl HO.out (Kd.C_below HR0.out HB1.out) (fun _ _ h => h) (fun _ h => h.elim) (fun _ _ => trivial) HB1.out HB1.out.size (by simp; have := HL.out; omega) ?_; intro v2 w2 ho2 hb2 hg2 hat2; have HO2 := m_ ho2; have HB2 := m_ hb2; clear ho2 hb2 hg2 hat2))
  go_ret
  exact ⟨v2, rfl, HO2.out, HB2.out⟩
end Go.Proofs.Ytboonfidioombaa.P

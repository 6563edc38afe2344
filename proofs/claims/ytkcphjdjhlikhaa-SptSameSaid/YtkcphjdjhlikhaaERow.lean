/- What the library's words for a row of whole numbers (a row that is laid anew) say of the row in the print's words; slices.Compact over whole numbers, out of the library's contract. No condition. -/
import Derived.Test.YtkcphjdjhlikhaaProg
import Derived.Test.YtkcphjdjhlikhaaHRows
import Derived.Sort.Row
import Derived.Shelf.Slices.CompactI
namespace Go.Proofs.Ytkcphjdjhlikhaa.P
open Go.RowKit Go.Proofs.Ytkcphjdjhlikhaa.HRows Go.Proofs.YtkcphjdjhlikhaaW.PrintWords Go.Proofs.YtkcphjdjhlikhaaW.PrintLast Go.Proofs.YtkcphjdjhlikhaaW.PrintMore
set_option linter.unusedVariables false
open Go.Sort in
theorem holds_of_R {e : Nat} {W : World} {base : Nat} {ok : Nat → Prop} {g n cap : Nat} {xs : List Int} (h : (Kd.int .i64).R e W base ok (.slice (some ⟨g, 0, none⟩) n cap) xs) : Holds (Value.int .i64) W g 0 xs.toArray := by
  intro j hj
  have hn := (Kd.R_reads' h).1
  have hj' : j < xs.length := by simpa using hj
  have h2 := Kd.R_celln (0 : Int) h (j : Int) (by omega) (by omega)
  rw [Int.toNat_natCast] at h2
  rw [Nat.zero_add]
  refine ⟨?_, h2.2⟩
  rw [h2.1]
  show some (Value.int .i64 (xs.getD (j : Int).toNat 0)) = _
  rw [Int.toNat_natCast, List.getD_eq_getElem?_getD, List.getElem?_eq_getElem hj', getElem!_pos xs.toArray j hj]
  rfl
open Go.Sort in
theorem R_putRow {e : Nat} {W : World} {base : Nat} {ok : Nat → Prop} {g n cap : Nat} {xs ys : List Int} (h : (Kd.int .i64).R e W base ok (.slice (some ⟨g, 0, none⟩) n cap) xs) (hl : ys.length = xs.length) :
    (Kd.int .i64).R e (putRow (Value.int .i64) W g 0 ys.toArray) base ok (.slice (some ⟨g, 0, none⟩) n cap) ys ∧ W.grownBy (putRow (Value.int .i64) W g 0 ys.toArray) (some g) := by
  have key : ∀ k, k ≤ xs.length → (Kd.int .i64).R e (putRow (Value.int .i64) W g 0 (ys.take k ++ xs.drop k).toArray) base ok (.slice (some ⟨g, 0, none⟩) n cap) (ys.take k ++ xs.drop k) ∧ W.grownBy (putRow (Value.int .i64) W g 0 (ys.take k ++ xs.drop k).toArray) (some g) := by
    intro k
    induction k with
    | zero =>
      intro _
      rw [List.take_zero, List.nil_append, List.drop_zero, putRow_self _ _ _ _ _ (holds_of_R h)]
      exact ⟨h, ⟨rfl, rfl, rfl, Nat.le_refl _, fun _ _ _ => rfl⟩⟩
    | succ k ih =>
      intro hk
      obtain ⟨h1, h2⟩ := ih (by omega)
      have hky : k < ys.length := by omega
      have hs : (ys.take k ++ xs.drop k).set k (ys[k]'hky) = ys.take (k + 1) ++ xs.drop (k + 1) := by
        rw [List.set_append_right _ _ (by rw [List.length_take]; omega), List.length_take, Nat.min_eq_left (by omega), Nat.sub_self, List.drop_eq_getElem_cons (by omega : k < xs.length), List.set_cons_zero, List.take_succ_eq_append_getElem hky, List.append_assoc]
        rfl
      have h3 := Kd.R_putg h1 (k : Int) (ys[k]'hky)
      rw [Int.toNat_natCast, hs] at h3
      have h4 := putRow_set (Value.int .i64) W g 0 (ys.take k ++ xs.drop k).toArray k (ys[k]'hky) (by simp; omega)
      rw [Nat.zero_add, List.setIfInBounds_toArray, hs] at h4
      rw [h4] at h3
      exact ⟨h3.1, World.grownBy.trans h2 h3.2⟩
  have := key xs.length (Nat.le_refl _)
  rwa [List.take_of_length_le (by omega), List.drop_length, List.append_nil] at this
/-- The numbers of this program for those of the library's text. -/
def compact_ren : Go.Shelf.Ren := ⟨fun | 20 => 39 | n => n, fun | 22 => 25 | 3 => 3 | 4 => 4 | 0 => 0 | n => n, fun n => n⟩
theorem compact_lays : Lays2.n20 Try.prog compact_ren := { mixed := rfl, f20 := Eq.trans Try.func39 (congrArg some (by kernel_rfl)), t0 := Try.underlying0, a0 := Try.isAgg0, z0 := Try.sizeOf0, v0 := Try.zeroValue0, t3 := Try.underlying3, a3 := Try.isAgg3, z3 := Try.sizeOf3, v3 := Try.zeroValue3, t4 := Try.underlying4, a4 := Try.isAgg4, z4 := Try.sizeOf4, v4 := Try.zeroValue4, t22 := Try.underlying25, a22 := Try.isAgg25, z22 := Try.sizeOf25, v22 := Try.zeroValue25, i3 := by kernel_rfl }
theorem compact_len (xs : List Int) : (Lib.compact xs).length ≤ xs.length := by
  unfold Lib.compact Lib.compactUpTo
  rw [List.length_map]
  exact Nat.le_trans (List.length_filter_le _ _) (by simp)
open Go.Sort in
theorem compactInt_calls (v : Value) (xs : List Int) (ok : Nat → Prop) (base : Nat) (W : World) (h : (Kd.int .i64).R 3 W base ok v xs) :
    Calls Try.prog 39 #[v] W fun e W' => ∃ v', e = .returned v' ∧ (Kd.int .i64).R 3 W' base ok v' (Lib.compact xs) ∧ W.grownBy W' v.ownBlock ∧ v'.ownBlock = v.ownBlock := by
  rcases Nat.eq_zero_or_pos xs.length with h0 | h0
  · obtain rfl := List.eq_nil_of_length_eq_zero h0
    obtain ⟨A, c, rfl⟩ := Kd.R_slice h
    refine (Any.slices_Compact_int_empty compact_lays A c W).mono ?_
    rintro e w' ⟨rfl, rfl⟩
    exact ⟨_, rfl, h, ⟨rfl, rfl, rfl, Nat.le_refl _, fun _ _ _ => rfl⟩, rfl⟩
  · obtain ⟨g, cap, rfl, hg, hg2, hcells⟩ := Kd.R_form h h0
    have hc := (Kd.R_reads' h).2.1
    have hm : xs.length ≤ 9223372036854775807 := (Kd.R_reads' h).2.2.2.1
    refine (Any.slices_Compact_int compact_lays g 0 cap xs W (holds_of_R h) hm hc).mono ?_
    rintro e w' ⟨rfl, q, rfl⟩
    have hk : (Lib.compact xs ++ List.replicate (xs.length - (Lib.compact xs).length) 0).length = xs.length := by
      have := compact_len xs
      simp
      omega
    have h1 : (Kd.int .i64).R 3 (Sort.ahead W q) base ok (.slice (some ⟨g, 0, none⟩) xs.length cap) xs := Kd.R_drewN h q
    obtain ⟨h2, h3⟩ := R_putRow h1 hk
    have h4 := Kd.R_take (m := (Lib.compact xs).length) h2 (by rw [hk]; exact compact_len xs)
    rw [List.take_left] at h4
    exact ⟨_, rfl, h4, ⟨h3.os, h3.tape, h3.output, h3.size, h3.block⟩, rfl⟩
end Go.Proofs.Ytkcphjdjhlikhaa.P

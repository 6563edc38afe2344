/- The table's values: made at the call, by the Once; a code's value. -/
import Derived.Test.YtlihbdinghoeeacECdTable
namespace Go.Proofs.Ytlihbdinghoeeac.CdValues
open Go.RowKit Go.Proofs.YtlihbdinghoeeacW.PrintWords Go.Proofs.Ytlihbdinghoeeac.CdTable
set_option linter.unusedVariables false
set_option linter.unusedSimpArgs false

set_option maxRecDepth 100000 in
set_option maxHeartbeats 4000000 in
theorem values_calls (b base : Nat) (w : World) (hb : base ≤ b) (hbase : base ≤ w.heap.size) (hB : w.heap[b]? = some (tableRow (.slice none 0 0) 0 0)) :
    Calls Try.prog 17 #[.pointer (some ⟨b, 0, none⟩)] w fun e w' => ∃ v, e = .returned v ∧ (Kd.int .i64).R 3 w' base (fun k => k ≠ b) v vals ∧ Below base w w' := by
  have hlt : b < w.heap.size := blk_lt hB
  have hmf : ∀ (fn : Fn) (first cap : Array Value) (w : World), (Instr.makeFunc fn first cap).run Try.prog w = .ok (.func fn first cap) w := fun _ _ _ _ => rfl
  have eg : ∀ args w, (callFunc 20 args).run Try.prog w = .ok (.enter 20 args) w := fun _ _ => rfl
  have hB1 : (w.alloc (.cells #[.pointer (some ⟨b, 0, none⟩)] 38)).heap[b]? = some (tableRow (.slice none 0 0) 0 0) := blk_alloc hB _
  have hP1 : (w.alloc (.cells #[.pointer (some ⟨b, 0, none⟩)] 38)).heap[w.heap.size]? = some (.cells #[.pointer (some ⟨b, 0, none⟩)] 38 (0, 0)) := blk_new _ _
  have hne : ¬ b = w.heap.size := by omega
  have HD := CdOnce.do_first b 0 20 #[.pointer (some ⟨w.heap.size, 0, none⟩)] (fun w' => ∃ v, w'.heap[b]? = some (tableRow v 0 1) ∧ w'.heap[w.heap.size]? = some (.cells #[.pointer (some ⟨b, 0, none⟩)] 38 (0, 0)) ∧ (Kd.int .i64).R 3 w' base (fun k => k ≠ b ∧ k ≠ w.heap.size) v vals ∧ Below base w w')
    (w.alloc (.cells #[.pointer (some ⟨b, 0, none⟩)] 38)) eg ((blk_cell hB1 0).trans rfl) ((blk_cell hB1 1).trans rfl) (blk_frozen hB1 0) (blk_frozen hB1 1) (by
      refine (fill_calls b w.heap.size base _ hne hb hbase (Nat.le_trans hbase (((Below.refl base w).alloc hbase _).setCell hb _).size) (blk_put hB1 1 _ rfl) (blk_far hP1 (Ne.symm hne) _)).mono ?_
      rintro e w' ⟨rfl, v, h1, h2, h3, h4⟩
      exact ⟨rfl, ⟨v, h1, h2, h3, Below.trans (((Below.refl base w).alloc hbase _).setCell hb _) h4⟩, (blk_cell h1 0).trans rfl, (blk_cell h1 1).trans rfl, blk_frozen h1 0, blk_frozen h1 1⟩)
  have HD2 : Calls Try.prog 19 #[.pointer (some ⟨b, 0, none⟩), .func (.func 20) #[] #[.pointer (some ⟨w.heap.size, 0, none⟩)]] (w.alloc (.cells #[.pointer (some ⟨b, 0, none⟩)] 38)) fun e w' => e = .returned (.tuple #[]) ∧ ∃ v, w'.heap[b]? = some (tableRow v 1 0) ∧ w'.heap[w.heap.size]? = some (.cells #[.pointer (some ⟨b, 0, none⟩)] 38 (0, 0)) ∧ (Kd.int .i64).R 3 w' base (fun k => k ≠ b ∧ k ≠ w.heap.size) v vals ∧ Below base w w' := by
    refine HD.mono ?_
    rintro e w' ⟨rfl, w1, ⟨v, h1, h2, h3, h4⟩, rfl⟩
    refine ⟨rfl, v, ?_, ?_, ?_, ?_⟩
    · exact blk_put (blk_put (blk_drew h1) 0 (.int .u32 1) rfl) 1 (.int .i32 0) rfl
    · exact blk_far (blk_far (blk_drew h2) (Ne.symm hne) _) (Ne.symm hne) _
    · exact Kd.R_far (Kd.R_far (Kd.R_drew h3) (fun k hk => hk.1) _) (fun k hk => hk.1) _
    · exact ((below_drew1 h4).setCell hb _).setCell hb _
  have HD' := Aside0.mk HD2
  clear HD HD2 hB1 hP1
  go_enter Try.func17, Try.ntmps17
  go_wp2_with (go_at_call 19; refine HD'.out.mono ?_; rintro e w' ⟨rfl, v, h1, h2, h3, h4⟩; have c0 : w'.cell? ⟨w.heap.size, 0, none⟩ = some (.pointer (some ⟨b, 0, none⟩)) := (blk_cell h2 0).trans rfl; have c3 : w'.cell? ⟨b, 3, none⟩ = some v := (blk_cell h1 3).trans rfl; have H3 := Aside0.mk h3; have H4 := Aside0.mk h4; clear h1 h2 h3 h4)
  go_ret
  exact ⟨v, rfl, Kd.R_mono H3.out (fun k hk => hk.1), H4.out⟩

theorem vals_at (c : Nat) (hc : c < 256) : vals.getD c 0 = cval c := by
  unfold vals
  simp [List.getD_eq_getElem?_getD, hc]
theorem vals_cell {w : World} {A : Option Addr} (hC : (Kd.int .i64).C w A vals.length vals) (c : Nat) (hc : c < 256) : ∃ ad, A = some ad ∧ w.cell? (ad.add c) = some (.int .i64 (cval c)) := by
  obtain ⟨ad, c1, hA, hc1, hK, hcell⟩ := ReadsRow.get_ hC 0 (c : Int) (by omega) (by rw [vals_length]; omega)
  refine ⟨ad, hA, ?_⟩
  have hK' : c1 = [.int .i64 (vals.getD (c : Int).toNat 0)] := hK
  have := hcell 0 (.int .i64 (vals.getD (c : Int).toNat 0)) (by rw [hK']; rfl)
  rw [Int.toNat_natCast, vals_at c hc] at this
  simpa [Kd.int, Kd.scalar] using this

set_option maxRecDepth 100000 in
set_option maxHeartbeats 4000000 in
/-- A code's value. -/
theorem value_calls (c : Nat) (hc : c < 256) (w : World) : Calls Try.prog 12 #[.int .u8 c] w fun e w' => e = .returned (.int .i64 (cval c)) ∧ Below w.heap.size w w' := by
  have hV := values_calls w.heap.size w.heap.size (w.alloc (tableRow (.slice none 0 0) 0 0)) (Nat.le_refl _) (by simp) (blk_new _ _)
  have HV := Aside0.mk hV
  clear hV
  go_enter Try.func12, Try.ntmps12
  go_wp2_with (go_at_call 17; refine HV.out.mono ?_; rintro e w' ⟨v, rfl, h1, h2⟩; obtain ⟨A1, c1, hv, hle, hC⟩ := Kd.R_reads h1; obtain ⟨ad, hA, hcell⟩ := vals_cell hC c hc; rw [vals_length] at hv; subst hv; subst hA; have H2 := Aside0.mk h2; have hlt : (c : Int) < 256 := (by omega); clear h1 h2 hC hle)
  go_ret
  exact ⟨rfl, Below.trans (below_alloc (Below.refl _ _) _) H2.out⟩
end Go.Proofs.Ytlihbdinghoeeac.CdValues

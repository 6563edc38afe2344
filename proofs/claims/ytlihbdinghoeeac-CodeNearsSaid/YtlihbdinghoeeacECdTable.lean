/- The table of all values: code.of, the function that fills the table, values, whatever Once has to do. -/
import Derived.Test.YtlihbdinghoeeacECdOnce
import Derived.Deep.RegionLaw
import Derived.WalkKit
import Derived.Deep.LoopGhost
namespace Go.Proofs.Ytlihbdinghoeeac.CdTable
open Go.RowKit Go.Proofs.YtlihbdinghoeeacW.PrintWords
set_option linter.unusedVariables false
set_option linter.unusedSimpArgs false

/-- A code's value. -/
def cval (c : Nat) : Int := if c < 128 then c else (((c % 16 + 16) * 2 ^ (c / 16 % 8 + 3) : Nat) : Int)
theorem and15 : ∀ c : Fin 256, bits .or .i64 (bits .and .i64 (c.val : Int) 15) 16 = ((c.val % 16 + 16 : Nat) : Int) := by decide +kernel
theorem and7 : ∀ c : Fin 256, bits .and .i64 ((c.val : Int) / 16) 7 = ((c.val / 16 % 8 : Nat) : Int) := by decide +kernel
theorem shl_val : ∀ c : Fin 256, ¬ c.val < 128 → 0 ≤ wrap64 (((c.val / 16 % 8 : Nat) : Int) + 3) ∧ wrap64 (((c.val / 16 % 8 : Nat) : Int) + 3) ≤ 64 ∧ IntKind.i64.wrap (((c.val % 16 + 16 : Nat) : Int) * 2 ^ (wrap64 (((c.val / 16 % 8 : Nat) : Int) + 3)).toNat) = cval c.val := by decide +kernel
theorem shift_of (c : Nat) (hc : c < 256) (h : ¬ c < 128) (w : World) : (Op.shift .shl .i64 (bits .or .i64 (bits .and .i64 (c : Int) 15) 16) .i64 (wrap64 (bits .and .i64 ((c : Int) / 16) 7 + 3))).run Try.prog w = .ok (.int .i64 (cval c)) w := by
  rw [and15 ⟨c, hc⟩, and7 ⟨c, hc⟩]
  obtain ⟨h0, h1, h2⟩ := shl_val ⟨c, hc⟩ h
  rw [shift_shl .i64 .i64 _ _ h0 h1, h2]
  rfl
set_option maxRecDepth 100000 in
set_option maxHeartbeats 1600000 in
theorem of_calls (c : Nat) (hc : c < 256) (w : World) : Calls Try.prog 21 #[.int .i64 c] w fun e w' => e = .returned (.int .i64 (cval c)) ∧ w' = w := by
  by_cases h : (c : Int) < 128
  · go_enter Try.func21, Try.ntmps21
    go_wp2
    go_ret
    exact ⟨by rw [cval, if_pos (by omega)]; rfl, rfl⟩
  · have hsh := shift_of c hc (by omega)
    go_enter Try.func21, Try.ntmps21
    go_wp2
    go_ret
    exact ⟨rfl, rfl⟩
section
variable {ops : Array Oper} {o : Oper} {a : Act} {Q : Exit → Act → World → Prop} {K : Act → World → Prop}
theorem step_of (c : Nat) (hc : c < 256) {w : World} {E : Prop} (hg : o.guard = none) (x : Operand) (t : TypeId) (ho : o.op = .call { callee := .value (.func 21), args := #[x], argTypes := #[t] }) (hx : a.eval x = .int .i64 c) (h : K (a.put o.dst (.int .i64 (cval c))) w) :
    if Region.wanted o (yielded ops a.tmps) = true then Oper.wp Try.prog o a w K Q else E := by
  rw [if_pos (by simp [Region.wanted, hg])]
  unfold Oper.wp
  have : (execOp a.eval o).run Try.prog w = .ok (.enter 21 #[.int .i64 c]) w := by
    have eg : ∀ args w, (callFunc 21 args).run Try.prog w = .ok (.enter 21 args) w := fun _ _ => rfl
    have hm : (#[x] : Array Operand).map a.eval = #[.int .i64 c] := by simp [hx]
    simp only [execOp, ho, resolve, invoke, hm]
    exact eg _ w
  rw [this, Oper.upon_enter]
  refine (of_calls c hc w).mono ?_
  rintro e w' ⟨rfl, rfl⟩
  exact h
theorem step_app (base : Nat) {w wr W : World} {ok : Nat → Prop} (v : Value) (xs : List Int) (x : Int) {E : Prop} (hW : W = wr.drew.alloc (.cells [.int .i64 x].toArray 3)) (hg : o.guard = none) (ho : o.op = .call { callee := .builtin .append, args := #[.tmp 9, .tmp 12], argTypes := #[51, 51] })
    (hs : a.eval (.tmp 9) = v) (hx : a.eval (.tmp 12) = .slice (some ⟨wr.heap.size, 0, none⟩) 1 1) (hfresh : ∀ k, wr.heap.size ≤ k → ok k) (HO : (Kd.int .i64).R 3 wr base ok v xs) (HB : Below base w wr) (hbase : base ≤ wr.heap.size) (hl : xs.length < 1000)
    (h : ∀ v1 w1, (Kd.int .i64).R 3 w1 base ok v1 (xs ++ [x]) → Below base w w1 → wr.grownBy w1 v.ownBlock → K (a.put o.dst v1) w1) :
    if Region.wanted o (yielded ops a.tmps) = true then Oper.wp Try.prog o a W K Q else E := by
  subst hW
  have hw : Region.wanted o (yielded ops a.tmps) = true := by simp [Region.wanted, hg]
  have := Kd.R_append_step (P := Try.prog) (ops := ops) (o := o) (a := a) (Q := Q) (Kc := K) (Kd.int .i64) (w0 := w) (W := wr.drew) base hw (.tmp 9) (.tmp 12) 51 3 (.int .i64 0) 8 ho Try.underlying51 (by kernel_rfl) rfl (by decide) (by decide) v xs x [.int .i64 x] ok (fun _ => False) hs hx rfl (fun _ h => h.elim) hfresh (Kd.R_drew HO) (below_drew1 HB) hbase (by omega) (fun v1 w1 h1 h2 h3 _ => h v1 w1 h1 h2 (World.grownBy.trans (grown_of_below (below_drew1 (Below.refl _ _)) _) h3))
  rw [if_pos hw] at this ⊢
  exact this
end
def vals : List Int := (List.range 256).map cval
theorem vals_length : vals.length = 256 := by unfold vals; simp
theorem vals_take (k : Nat) (h : k < 256) : vals.take (k + 1) = vals.take k ++ [cval k] := by
  rw [List.take_succ_eq_append_getElem (by rw [vals_length]; exact h)]
  congr 2
  unfold vals
  simp
def tableRow (v : Value) (d m : Int) : Obj := .cells #[.int .u32 d, .int .i32 m, .int .u32 0, v] 53 (0, 0)
theorem round_end {b gp base kk n c1 : Nat} {A1 : Option Addr} {v : Value} {w w1 : World} (hpb : ¬ b = gp) (hb : base ≤ b) (hn : n = kk + 1) (hk : kk < 256) (N1 : (Kd.int .i64).R 3 w1 base (fun k => k ≠ b ∧ k ≠ gp) (.slice A1 (vals.take kk ++ [cval kk]).length c1) (vals.take kk ++ [cval kk])) (N2 : Below base w w1)
    (N3 : w1.heap[b]? = some (tableRow v 0 1)) (N4 : w1.heap[gp]? = some (.cells #[.pointer (some ⟨b, 0, none⟩)] 38 (0, 0))) :
    Below base w (w1.setCell ⟨b, 3, none⟩ (.slice A1 n c1)) ∧ (w1.setCell ⟨b, 3, none⟩ (.slice A1 n c1)).heap[b]? = some (tableRow (.slice A1 n c1) 0 1) ∧ (w1.setCell ⟨b, 3, none⟩ (.slice A1 n c1)).heap[gp]? = some (.cells #[.pointer (some ⟨b, 0, none⟩)] 38 (0, 0)) ∧
      (Kd.int .i64).R 3 (w1.setCell ⟨b, 3, none⟩ (.slice A1 n c1)) base (fun k => k ≠ b ∧ k ≠ gp) (.slice A1 n c1) (vals.take (kk + 1)) := by
  have hl : (vals.take kk ++ [cval kk]).length = n := by simp [vals_length]; omega
  rw [hl, ← vals_take kk hk] at N1
  exact ⟨N2.setCell hb _, blk_put N3 3 _ rfl, blk_far N4 (Ne.symm hpb) _, Kd.R_far N1 (fun k hk => hk.1) _⟩
set_option maxRecDepth 100000 in
set_option maxHeartbeats 8000000 in
theorem fill_calls (b gp base : Nat) (w : World) (hpb : ¬ b = gp) (hb : base ≤ b) (hg : base ≤ gp) (hbase : base ≤ w.heap.size) (hB : w.heap[b]? = some (tableRow (.slice none 0 0) 0 1)) (hP : w.heap[gp]? = some (.cells #[.pointer (some ⟨b, 0, none⟩)] 38 (0, 0))) :
    Calls Try.prog 20 #[.pointer (some ⟨gp, 0, none⟩)] w fun e w' => e = .returned (.tuple #[]) ∧
      ∃ v, w'.heap[b]? = some (tableRow v 0 1) ∧ w'.heap[gp]? = some (.cells #[.pointer (some ⟨b, 0, none⟩)] 38 (0, 0)) ∧ (Kd.int .i64).R 3 w' base (fun k => k ≠ b ∧ k ≠ gp) v vals ∧ Below base w w' := by
  have HB := Aside0.mk hB
  have HP := Aside0.mk hP
  clear hB hP
  go_enter Try.func20, Try.ntmps20
  go_wp2
  go_loopg [1, 2] 256 (fun gg s1 s2 wr => ∃ kk : Nat, kk ≤ 256 ∧ 256 - kk ≤ gg ∧ s2 = .int .i64 kk ∧ Aside0 (Below base w wr) ∧ ∃ v, Aside0 (wr.heap[b]? = some (tableRow v 0 1)) ∧ Aside0 (wr.heap[gp]? = some (.cells #[.pointer (some ⟨b, 0, none⟩)] 38 (0, 0))) ∧ Aside0 ((Kd.int .i64).R 3 wr base (fun k => k ≠ b ∧ k ≠ gp) v (vals.take kk)))
  case atStart => exact ⟨0, Nat.zero_le _, by omega, rfl, ⟨Below.refl _ _⟩, _, HB, HP, ⟨Kd.R_nil _ _ _ _ _⟩⟩
  case round =>
    obtain ⟨kk, hkk, hgg, rfl, HL, v, HBr, HPr, HRr⟩ := hrel
    by_cases hlt : kk < 256
    · have hlt' : (kk : Int) < 256 := by omega
      have c0 : wr.cell? ⟨gp, 0, none⟩ = some (.pointer (some ⟨b, 0, none⟩)) := (blk_cell HPr.out 0).trans rfl
      have c3 : wr.cell? ⟨b, 3, none⟩ = some v := (blk_cell HBr.out 3).trans rfl
      have f3 : wr.frozen? ⟨b, 3, none⟩ = false := blk_frozen HBr.out 3
      have g0 : ∀ o, (wr.alloc o).cell? ⟨gp, 0, none⟩ = some (.pointer (some ⟨b, 0, none⟩)) := fun o => (blk_cell (blk_alloc HPr.out o) 0).trans rfl
      have g3 : ∀ o, (wr.alloc o).cell? ⟨b, 3, none⟩ = some v := fun o => (blk_cell (blk_alloc HBr.out o) 3).trans rfl
      go_wp2_with fail
      have hsz : base ≤ wr.heap.size := Nat.le_trans hbase (HL.out.size)
      have hfr : ∀ k, wr.heap.size ≤ k → k ≠ b ∧ k ≠ gp := fun k hk => by
        have h1 := blk_lt HBr.out
        have h2 := blk_lt HPr.out
        omega
      have HT := Aside0.mk (vals_take kk hlt)
      go_region_law (first
        | (refine step_of kk hlt rfl (.tmp 10) 3 rfl (by simp [Act.eval, Act.put]) ?_)
        | (refine step_app base v (vals.take kk) (cval kk) rfl rfl rfl (by simp [Act.eval, Act.put]) (by simp [Act.eval, Act.put]) hfr HRr.out HL.out hsz (by rw [List.length_take, vals_length]; omega) ?_
           intro v1 w1 r1 r2 r3
           obtain ⟨A1, c1, rfl⟩ := Kd.R_slice r1
           have N1 := Aside0.mk r1
           have N2 := Aside0.mk r2
           have N3 := Aside0.mk (blk_grown HBr.out r3 (Kd.R_ne HRr.out HBr.out (by decide)))
           have N4 := Aside0.mk (blk_grown HPr.out r3 (Kd.R_ne HRr.out HPr.out (by decide)))
           have l0 : w1.cell? ⟨b, 3, none⟩ = some v := (blk_cell N3.out 3).trans rfl
           have l1 : w1.frozen? ⟨b, 3, none⟩ = false := blk_frozen N3.out 3
           have l2 : w1.cell? ⟨gp, 0, none⟩ = some (.pointer (some ⟨b, 0, none⟩)) := (blk_cell N4.out 0).trans rfl
           clear r1 r2 r3))
      all_goals
        have hend := round_end hpb hb (n := min kk vals.length + 1) (by rw [vals_length]; omega) hlt N1.out N2.out N3.out N4.out
        have HE := Aside0.mk hend
        clear hend l0 l1 l2
        go_wp2
        go_roundg (256 - (kk + 1))
        case measure => omega
        case rel => exact ⟨kk + 1, by omega, by omega, by go_num, ⟨HE.out.1⟩, _, ⟨HE.out.2.1⟩, ⟨HE.out.2.2.1⟩, ⟨HE.out.2.2.2⟩⟩
    · have : kk = 256 := by omega
      subst this
      go_wp2
      go_end0
      refine ⟨rfl, v, HBr.out, HPr.out, ?_, HL.out⟩
      have hr := HRr.out
      rw [List.take_of_length_le (by rw [vals_length]; omega)] at hr
      exact hr
end Go.Proofs.Ytlihbdinghoeeac.CdTable

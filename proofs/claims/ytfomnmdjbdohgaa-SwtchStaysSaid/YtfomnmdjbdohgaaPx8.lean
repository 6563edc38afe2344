/- For each Go function a Lean function, and the proof that a call comes to what it tells: made by program out of the translation (the kit's print, with texts by hand put in). No condition. -/
import Derived.Test.YtfomnmdjbdohgaaSq
import Derived.Test.YtfomnmdjbdohgaaPx0
import Derived.Test.YtfomnmdjbdohgaaPx1
import Derived.Test.YtfomnmdjbdohgaaPx7
namespace Go.Proofs.Ytfomnmdjbdohgaa.P
open Go.RowKit Go.Proofs.Ytfomnmdjbdohgaa.HRows Go.Proofs.YtfomnmdjbdohgaaW.PrintWords Go.Proofs.YtfomnmdjbdohgaaW.PrintLast Go.Proofs.YtfomnmdjbdohgaaW.PrintMore
attribute [local go_sem] max2_int min2_int max_two min_two max_three min_three max_four min_four
set_option linter.unusedVariables false
set_option linter.unusedSimpArgs false
attribute [local go_sem high] eqA74
set_option maxHeartbeats 8000000 in
set_option maxRecDepth 100000 in
theorem swtch_goes.calls (gw : Nat) (lim : Int) (vR vB vO : Value) (a0 a1 a2 a3 a4 a5 a6 : Int) (A7 : Option Addr) (c7 : Nat) (l7 : List S74) (a8 : Int) (a9 : Bool) (A10 : Option Addr) (c10 : Nat) (l10 : List Int) (lO : List S32) (okO P : Nat → Prop) (w0 w : World) (hW : w.heap[gw]? = some (.cells #[.int .i64 lim, vR, vB, vO] 68 (0, 0))) (hN : Kd.N k32 32 w w0.heap.size okO vO lO) (hgO : ∀ k, okO k → k ≠ gw) (hfr : ∀ k, w.heap.size ≤ k → okO k) (hB : Below w0.heap.size w0 w) (hl : lO.length < 1000000000)
  (h7 : Kd.F k74 w P A7 l7.length l7) (hc7 : l7.length ≤ c7) (h10 : Kd.F (Kd.int .u8) w P A10 l10.length l10) (hc10 : l10.length ≤ c10) (hP : ∀ k, P k → okO k ∧ k < w0.heap.size) :
  Calls Try.prog 41 #[.pointer (some ⟨gw, 0, none⟩), .agg #[.int .u8 a0, .int .u32 a1, .int .u32 a2, .int .u32 a3, .int .u32 a4, .int .i64 a5, .int .u32 a6, .slice A7 l7.length c7, .int .i64 a8, .bool a9, .slice A10 l10.length c10]] w fun e w' => e = .returned (.tuple #[]) ∧ ∃ vO', w'.heap[gw]? = some (.cells #[.int .i64 lim, vR, vB, vO'] 68 (0, 0)) ∧ Kd.N k32 32 w' w0.heap.size okO vO' (lO ++ [(⟨a0, a1, ⟨a2, a3, a4, a5, a6, l7⟩, a8, a9, l10⟩ : S32)]) ∧ Kept w w' (fun k => k = gw ∨ some k = vO.ownBlock) ∧ (vO'.ownBlock = vO.ownBlock ∨ ∃ b, vO'.ownBlock = some b ∧ w.heap.size ≤ b) ∧ (w'.os = w.os ∧ w'.tape = w.tape ∧ w'.output = w.output) := by
 have hu32 := Try.underlying32
 have hu68 := Try.underlying68
 have HW := m_ hW
 have HN := m_ hN
 have HB := m_ hB
 have HG := m_ hgO
 have HF := m_ hfr
 have HL := m_ hl
 have H7 := m_ h7
 have HC7 := m_ hc7
 have H10 := m_ h10
 have HC10 := m_ hc10
 have HP := m_ hP
 clear hW hN hB hgO hfr hl h7 hc7 h10 hc10 hP
 have HS := m_ (Below.refl w.heap.size w)
 go_enter Try.func41, Try.ntmps41
 go_upto_region 1 with (first | ((with_reducible refine gate_dst (N := 3) rfl ?_); refine bx_ 3 32 #[.int .u8 a0, .int .u32 a1, .int .u32 a2, .int .u32 a3, .int .u32 a4, .int .i64 a5, .int .u32 a6, .slice A7 l7.length c7, .int .i64 a8, .bool a9, .slice A10 l10.length c10] ?_; intro gm hg w1 hbox hb; have BM := m_ (hbox); have GM := m_ (Nat.le_of_eq hg.symm); replace HW := m_ (blk_below HW.out hb); replace HS := m_ hb; clear hb hbox hg))
 (try simp only [Act.put, List.setIfInBounds_toArray, List.set_cons_zero, List.set_cons_succ])
 refine start_ (n := 11) (S := fun W => W.cell? ⟨gw, 3, none⟩ = some vO ∧ W.cell? ⟨gm, 0, none⟩ = some (.int .u8 a0) ∧ W.cell? ⟨gm, 1, none⟩ = some (.int .u32 a1) ∧ W.cell? ⟨gm, 2, none⟩ = some (.int .u32 a2) ∧ W.cell? ⟨gm, 3, none⟩ = some (.int .u32 a3) ∧ W.cell? ⟨gm, 4, none⟩ = some (.int .u32 a4) ∧ W.cell? ⟨gm, 5, none⟩ = some (.int .i64 a5) ∧ W.cell? ⟨gm, 6, none⟩ = some (.int .u32 a6) ∧ W.cell? ⟨gm, 7, none⟩ = some (.slice A7 l7.length c7) ∧ W.cell? ⟨gm, 8, none⟩ = some (.int .i64 a8) ∧ W.cell? ⟨gm, 9, none⟩ = some (.bool a9) ∧ W.cell? ⟨gm, 10, none⟩ = some (.slice A10 l10.length c10)) (ds := [7, 10]) (bs_ 11 0) (by kernel_rfl) rfl rfl ⟨bc_ (blk_drew HW.out) 3, bc_ (blk_drew BM.out) 0, bc_ (blk_drew BM.out) 1, bc_ (blk_drew BM.out) 2, bc_ (blk_drew BM.out) 3, bc_ (blk_drew BM.out) 4, bc_ (blk_drew BM.out) 5, bc_ (blk_drew BM.out) 6, bc_ (blk_drew BM.out) 7, bc_ (blk_drew BM.out) 8, bc_ (blk_drew BM.out) 9, bc_ (blk_drew BM.out) 10⟩ (fun hHeld => ?_)
 replace HW := m_ (blk_drew HW.out)
 replace BM := m_ (blk_drew BM.out)
 replace HS := m_ (below_drew1 HS.out)
 generalize w1.drew = w2 at HW BM HS hHeld ⊢
 refine pk_ 0 4 ?_
 refine pk_ 1 5 ?_
 refine pk_ 2 6 ?_
 refine pk_ 3 7 ?_
 refine tk_ 4 8 ?_
 refine tk_ 5 9 ?_
 refine one_ (i := 6) (N := some 10) (bs_ 11 (0 + 2 ^ 0 + 2 ^ 1 + 2 ^ 2 + 2 ^ 3 + 2 ^ 4 + 2 ^ 5 + 2 ^ 6)) rfl rfl (by kernel_rfl) (by decide) (fun K hK => ?_)
 refine value_ (w1 := ?_) (v := ?_) (by rfl) rfl ?_ ?_
 rotate_left 2
 · go_simp
   constructor
   · rfl
   · rfl
 refine hK.out _ _ ⟨bc_ (blk_alloc HW.out _) 3, bc_ (blk_alloc BM.out _) 0, bc_ (blk_alloc BM.out _) 1, bc_ (blk_alloc BM.out _) 2, bc_ (blk_alloc BM.out _) 3, bc_ (blk_alloc BM.out _) 4, bc_ (blk_alloc BM.out _) 5, bc_ (blk_alloc BM.out _) 6, bc_ (blk_alloc BM.out _) 7, bc_ (blk_alloc BM.out _) 8, bc_ (blk_alloc BM.out _) 9, bc_ (blk_alloc BM.out _) 10⟩ (fun hHeld => ?_)
 clear hK K
 refine nz_ (some 10) ?_
 refine last_ (i := 7) (N := some 11) (bs_ 11 (0 + 2 ^ 0 + 2 ^ 1 + 2 ^ 2 + 2 ^ 3 + 2 ^ 4 + 2 ^ 5 + 2 ^ 6 + 2 ^ 7)) rfl rfl (by kernel_rfl) (by decide) (fun K hK => ?_)
 have HN2 := m_ (Kd.N_below HN.out HS.out)
 have HF2 := m_ (fun k (hk : w2.heap.size ≤ k) => HF.out k (Nat.le_trans HS.out.size hk))
 refine Kd.N_append_step k32 (w0 := w0) w0.heap.size (by rfl) (.tmp 8) (.tmp 10) 33 32 (.agg #[(.int .u8 0), (.int .u32 0), (.int .u32 0), (.int .u32 0), (.int .u32 0), (.int .i64 0), (.int .u32 0), (.slice none 0 0), (.int .i64 0), (.bool false), (.slice none 0 0)]) 104 rfl Try.underlying33 info32 rfl (by decide) (by omega) vO lO (⟨a0, a1, ⟨a2, a3, a4, a5, a6, l7⟩, a8, a9, l10⟩ : S32) [.int .u8 a0, .int .u32 a1, .int .u32 a2, .int .u32 a3, .int .u32 a4, .int .i64 a5, .int .u32 a6, .slice A7 l7.length c7, .int .i64 a8, .bool a9, .slice A10 l10.length c10] okO P rfl rfl ?aP ?aK ?aF ?aO ?aB ?aS ?aL ?_
 (case aP => exact k32_mkF w2 _ (⟨a0, a1, ⟨a2, a3, a4, a5, a6, l7⟩, a8, a9, l10⟩ : S32) HC7.out (Kd.F_below H7.out HS.out) HC10.out (Kd.F_below H10.out HS.out))
 (case aK => exact fun k hk => ⟨(HP.out k hk).1, fun e => Nat.lt_irrefl _ (Nat.lt_of_lt_of_le (HP.out k hk).2 (Kd.N_base HN.out k e.symm))⟩)
 (case aB => exact below_then HB.out HB.out.size HS.out)
 (case aF => exact HF2.out)
 (case aO => exact HN2.out)
 (case aS => exact Nat.le_trans HB.out.size HS.out.size)
 (case aL => have := HL.out; omega)
 intro v1 w3 ho hb hg hat
 obtain ⟨An, cn, rfl⟩ := Kd.V_slice (Kd.N_V (base' := 0) ho)
 refine hK.out _ _ ?_
 clear hK K
 refine nz_ (some 11) ?_
 have hown : ∀ k, vO.ownBlock = some k → okO k := HN.out.1
 replace HW := m_ (blk_grown (g := gw) HW.out hg (fun e => HG.out gw (hown gw e.symm) rfl))
 refine pk_ 8 12 ?_
 refine pk_ 9 13 ?_
 refine last_ (i := 10) (N := none) (bs_ 11 (0 + 2 ^ 0 + 2 ^ 1 + 2 ^ 2 + 2 ^ 3 + 2 ^ 4 + 2 ^ 5 + 2 ^ 6 + 2 ^ 7 + 2 ^ 8 + 2 ^ 9 + 2 ^ 10)) rfl rfl (by kernel_rfl) (by decide) (fun K hK => ?_)
 refine sw_write (by rfl) rfl rfl [.slice An (lO ++ [(⟨a0, a1, ⟨a2, a3, a4, a5, a6, l7⟩, a8, a9, l10⟩ : S32)]).length cn] (g := gw) (o' := 3) (cs' := #[.int .i64 lim, vR, vB, .slice An (lO ++ [(⟨a0, a1, ⟨a2, a3, a4, a5, a6, l7⟩, a8, a9, l10⟩ : S32)]).length cn]) rfl rfl rfl rfl (by simp [Value.oneCell']) HW.out (by simp) rfl ?_
 intro w4 hblk on
 refine hK.out _ _ ?_
 clear hK K
 refine done_ (by kernel_rfl) ?_
 (try simp only [Exit.inBlock, Exit.then])
 refine ⟨rfl, .tuple #[], results_none rfl _ _ _, ?_⟩
 refine ⟨rfl, _, hblk, Kd.N_step ho (fun k hk _ => on.block k (HG.out k hk)), ?_, ?_, ?_⟩
 · refine ⟨Nat.le_trans HS.out.size (Nat.le_trans hg.size (Nat.le_of_eq on.size.symm)), fun i hi hn => ?_⟩
   rw [on.block i (fun e => hn (.inl e)), hg.block i (Nat.lt_of_lt_of_le hi HS.out.size) (fun e => hn (.inr e)), HS.out.block i hi]
 · rcases hat with h | ⟨b, h, h2⟩
   · exact .inl h
   · exact .inr ⟨b, h, Nat.le_trans HS.out.size h2⟩
 · exact ⟨on.os.trans (hg.os.trans HS.out.os), on.tape.trans (hg.tape.trans HS.out.tape), on.output.trans (hg.output.trans HS.out.output)⟩
def api_Out.l0 : Nat → List (S74) → List (S74) → Int → Int → Option (Bool)
  | 0, _, _, _, _ => none
  | k + 1, x0, x1, x12, x13 => if x13 < x12 then (if 0 ≤ x13 then (if x13 < (x0.length : Int) then (if x13 < (x1.length : Int) then (if (!(((rd_T74 x0 x13).f0) == ((rd_T74 x1 x13).f0)) || (!(((rd_T74 x0 x13).f1) == ((rd_T74 x1 x13).f1)))) = true then (some false) else (api_Out.l0 k x0 x1 x12 (wrap64 (x13 + 1)))) else (none)) else (none)) else (none)) else (some true)
def api_Out.f (k : Nat) (l0 : List (S74)) (l1 : List (S74)) : Option (Bool) := if (l0.length : Int) = (l1.length : Int) then (api_Out.l0 k l0 l1 (l0.length : Int) 0) else (some false)
theorem api_Out.mono_l : ∀ k, (∀ y0 y1 y2 y3, LeO (api_Out.l0 k y0 y1 y2 y3) (api_Out.l0 (k + 1) y0 y1 y2 y3))
  | 0 => fun _ _ _ _ r h => by simp [api_Out.l0] at h
  | k + 1 => by
    have ih0 := api_Out.mono_l k
    · intro y0 y1 y2 y3
      unfold api_Out.l0
      repeat' first
      | (with_reducible exact ih0 _ _ _ _)
      | (with_reducible exact LeO.refl _)
      | (with_reducible exact LeO.none _)
      | (with_reducible refine LeO.ite ?_ ?_)
      | (with_reducible refine LeO.bind ?_ (fun _ => ?_))
      | exact ih0 _ _ _ _
      | exact LeO.none _
      | refine LeO.ite ?_ ?_
      | refine LeO.bind ?_ (fun _ => ?_)
theorem api_Out.mono : ∀ a0 a1 k, LeO (api_Out.f k a0 a1) (api_Out.f (k + 1) a0 a1) := by
  intro a0 a1 k
  have ih0 := api_Out.mono_l k
  unfold api_Out.f
  repeat' first
      | (with_reducible exact ih0 _ _ _ _)
      | (with_reducible exact LeO.refl _)
      | (with_reducible exact LeO.none _)
      | (with_reducible refine LeO.ite ?_ ?_)
      | (with_reducible refine LeO.bind ?_ (fun _ => ?_))
      | exact ih0 _ _ _ _
      | exact LeO.none _
      | refine LeO.ite ?_ ?_
      | refine LeO.bind ?_ (fun _ => ?_)
set_option maxHeartbeats 8000000 in
set_option maxRecDepth 100000 in
theorem api_Out.calls (k : Nat) (A0 : Option Addr) (c0 : Nat) (l0 : List (S74)) (A1 : Option Addr) (c1 : Nat) (l1 : List (S74)) (r : Bool) (w : World) (hr0 : Kd.C k74 w A0 l0.length l0) (hc0 : l0.length ≤ c0) (hr1 : Kd.C k74 w A1 l1.length l1) (hc1 : l1.length ≤ c1) (h : api_Out.f k l0 l1 = some r) :
    Calls Try.prog 70 #[.slice A0 l0.length c0, .slice A1 l1.length c1] w fun e w' => e = .returned (.bool r) ∧ Drawn0 w w' := by
  have hu74 := Try.underlying74
  have HR0 := m_ hr0
  have HC0 := m_ hc0
  clear hr0 hc0
  have HR1 := m_ hr1
  have HC1 := m_ hc1
  clear hr1 hc1
  have H : (if (l0.length : Int) = (l1.length : Int) then (api_Out.l0 k l0 l1 (l0.length : Int) 0) else (some false)) = some r := h
  clear h
  by_cases c3 : (l0.length : Int) = (l1.length : Int)
  · rw [if_pos c3] at H
    have c3b0 : ((l0.length : Int) == (l1.length : Int)) = true := beq_iff_eq.mpr c3
    have c3b1 : ((l0.length : Int) != (l1.length : Int)) = false := bne_eq_false_iff_eq.mpr c3
    have c3b2 : (l0.length == l1.length) = true := by first | simpa using c3 | (simp at c3 ⊢; omega)
    clear c3
    have H' := m_ H
    clear H
    go_enter Try.func70, Try.ntmps70
    go_wp2
    repeat (go_quiet (fail); try go_wp2)
    go_loopg [13] k (fun kq v13 w' => ∃ (x13_1 : Int), v13 = .int .i64 x13_1 ∧ Aside0 (api_Out.l0 kq l0 l1 (l0.length : Int) x13_1 = some r) ∧ Aside0 (kq ≤ k) ∧ Drawn0 w w')
    case atStart => exact ⟨(0), (by first | rfl | (simp; done) | (simp [*]; done)), H', ⟨Nat.le_refl _⟩, by repeat (first | exact Drawn0.refl _ | apply Drawn0.step)⟩
    case round =>
      clear H'
      try clear c1
      try clear p2
      try clear c3
      try clear c3b0
      try clear c3b1
      try clear c3b2
      obtain ⟨x13_1, rfl, HA, HK1, ⟨m1, rfl⟩⟩ := hrel
      cases gk with
      | zero => exact absurd HA.out (by simp [api_Out.l0])
      | succ k1 =>
        have H := HA.out
        clear HA
        simp only [api_Out.l0] at H
        by_cases c4 : x13_1 < (l0.length : Int)
        · rw [if_pos c4] at H
          have c4b0 : decide (x13_1 < (l0.length : Int)) = true := decide_eq_true c4
          clear c4
          by_cases c5 : 0 ≤ x13_1
          · rw [if_pos c5] at H
            have c5b0 : decide (0 ≤ x13_1) = true := decide_eq_true c5
            clear c5
            by_cases c6 : x13_1 < (l0.length : Int)
            · rw [if_pos c6] at H
              have c6b0 : decide (x13_1 < (l0.length : Int)) = true := decide_eq_true c6
              clear c6
              by_cases c7 : x13_1 < (l1.length : Int)
              · rw [if_pos c7] at H
                have c7b0 : decide (x13_1 < (l1.length : Int)) = true := decide_eq_true c7
                clear c7
                by_cases c8 : (!(((rd_T74 l0 x13_1).f0) == ((rd_T74 l1 x13_1).f0)) || (!(((rd_T74 l0 x13_1).f1) == ((rd_T74 l1 x13_1).f1)))) = true
                · rw [if_pos c8] at H
                  have c8b0 : (!(((rd_T74 l0 x13_1).f0) == ((rd_T74 l1 x13_1).f0)) || (!(((rd_T74 l0 x13_1).f1) == ((rd_T74 l1 x13_1).f1)))) = true := c8
                  clear c8
                  obtain rfl := Option.some.inj H
                  have p133 : 0 ≤ (x13_1 : Int) := od_
                  have q133 : x13_1 < (l0.length : Int) := od_
                  obtain ⟨ad133, e133, hx133_0, hx133_1⟩ := at_T74 HR0.out x13_1 p133 q133
                  cases e133
                  replace p133 := eq_true p133
                  replace q133 := eq_true q133
                  have p134 : 0 ≤ (x13_1 : Int) := od_
                  have q134 : x13_1 < (l1.length : Int) := od_
                  obtain ⟨ad134, e134, hx134_0, hx134_1⟩ := at_T74 HR1.out x13_1 p134 q134
                  cases e134
                  replace p134 := eq_true p134
                  replace q134 := eq_true q134
                  go_wp2
                  repeat (go_quiet (fail); try go_wp2)
                  go_ret
                  exact ⟨(by first | rfl | (simp; done) | (simp [*]; done)), (by repeat (first | exact Drawn0.refl _ | apply Drawn0.step))⟩
                · rw [if_neg c8] at H
                  have c8b0 : (!(((rd_T74 l0 x13_1).f0) == ((rd_T74 l1 x13_1).f0)) || (!(((rd_T74 l0 x13_1).f1) == ((rd_T74 l1 x13_1).f1)))) = false := by simpa using c8
                  clear c8
                  have H' := m_ H
                  clear H
                  have p133 : 0 ≤ (x13_1 : Int) := od_
                  have q133 : x13_1 < (l0.length : Int) := od_
                  obtain ⟨ad133, e133, hx133_0, hx133_1⟩ := at_T74 HR0.out x13_1 p133 q133
                  cases e133
                  replace p133 := eq_true p133
                  replace q133 := eq_true q133
                  have p134 : 0 ≤ (x13_1 : Int) := od_
                  have q134 : x13_1 < (l1.length : Int) := od_
                  obtain ⟨ad134, e134, hx134_0, hx134_1⟩ := at_T74 HR1.out x13_1 p134 q134
                  cases e134
                  replace p134 := eq_true p134
                  replace q134 := eq_true q134
                  go_wp2
                  repeat (go_quiet (fail); try go_wp2)
                  go_roundg k1
                  case measure => have := HK1.out; omega
                  case rel => exact ⟨(wrap64 (x13_1 + 1)), (by first | rfl | (simp; done) | (simp [*]; done)), H', ⟨by have := HK1.out; omega⟩, by repeat (first | exact Drawn0.refl _ | apply Drawn0.step)⟩
              · rw [if_neg c7] at H
                exact absurd H (by simp)
            · rw [if_neg c6] at H
              exact absurd H (by simp)
          · rw [if_neg c5] at H
            exact absurd H (by simp)
        · rw [if_neg c4] at H
          have c4b0 : decide (x13_1 < (l0.length : Int)) = false := decide_eq_false c4
          clear c4
          obtain rfl := Option.some.inj H
          go_wp2
          repeat (go_quiet (fail); try go_wp2)
          go_ret
          exact ⟨(by first | rfl | (simp; done) | (simp [*]; done)), (by repeat (first | exact Drawn0.refl _ | apply Drawn0.step))⟩
  · rw [if_neg c3] at H
    have c3b0 : ((l0.length : Int) == (l1.length : Int)) = false := beq_eq_false_iff_ne.mpr c3
    have c3b1 : ((l0.length : Int) != (l1.length : Int)) = true := bne_iff_ne.mpr c3
    have c3b2 : (l0.length == l1.length) = false := by first | simpa using c3 | (simp at c3 ⊢; omega)
    obtain rfl := Option.some.inj H
    go_enter Try.func70, Try.ntmps70
    go_wp2
    repeat (go_quiet (fail); try go_wp2)
    go_ret
    exact ⟨(by first | rfl | (simp; done) | (simp [*]; done)), (by repeat (first | exact Drawn0.refl _ | apply Drawn0.step))⟩
end Go.Proofs.Ytfomnmdjbdohgaa.P

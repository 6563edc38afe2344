/- For each Go function a Lean function, and the proof that a call comes to what it tells: made by program out of the translation (the kit's print, with texts by hand put in). No condition. -/
import Derived.Test.YtkcphjdjhlikhaaSq
import Derived.Test.YtkcphjdjhlikhaaPx0
import Derived.Test.YtkcphjdjhlikhaaPx4
namespace Go.Proofs.Ytkcphjdjhlikhaa.P
open Go.RowKit Go.Proofs.Ytkcphjdjhlikhaa.HRows Go.Proofs.YtkcphjdjhlikhaaW.PrintWords Go.Proofs.YtkcphjdjhlikhaaW.PrintLast Go.Proofs.YtkcphjdjhlikhaaW.PrintMore
attribute [local go_sem] max2_int min2_int max_two min_two max_three min_three max_four min_four   -- for this text's walks alone
set_option linter.unusedVariables false
set_option linter.unusedSimpArgs false

/-! ### heap_sink: function 53 -/
mutual
def heap_sink.l0 : Nat → List (S76) → Int → Option ((List (S76)))
 | 0, _, _ => none
 | k + 1, x0, x2 => heap_sink.l1 k x0 x2 x2 0 (wrap64 ((wrap64 (2 * x2)) + 1)) (wrap64 ((wrap64 (2 * x2)) + 2))
def heap_sink.l1 : Nat → List (S76) → Int → Int → Int → Int → Int → Option ((List (S76)))
 | 0, _, _, _, _, _, _ => none
 | k + 1, x0, x2, x3, x14, x852, x853 => if x14 < 2 then (if x14 = 0 then (if x852 < (x0.length : Int) then (if 0 ≤ x852 then (if 0 ≤ x3 then (if x3 < (x0.length : Int) then ((heap_Less.f k ((rd_T76 x0 x852).f0) ((rd_T76 x0 x852).f1) ((rd_T76 x0 x3).f0) ((rd_T76 x0 x3).f1)).bind fun t162 => (if t162 = true then (heap_sink.l1 k x0 x2 x852 (wrap64 (x14 + 1)) x852 x853) else (heap_sink.l1 k x0 x2 x3 (wrap64 (x14 + 1)) x852 x853))) else (none)) else (none)) else (none)) else (heap_sink.l1 k x0 x2 x3 (wrap64 (x14 + 1)) x852 x853)) else (if x14 = 1 then (if x853 < (x0.length : Int) then (if 0 ≤ x853 then (if 0 ≤ x3 then (if x3 < (x0.length : Int) then ((heap_Less.f k ((rd_T76 x0 x853).f0) ((rd_T76 x0 x853).f1) ((rd_T76 x0 x3).f0) ((rd_T76 x0 x3).f1)).bind fun t165 => (if t165 = true then (heap_sink.l1 k x0 x2 x853 (wrap64 (x14 + 1)) x852 x853) else (heap_sink.l1 k x0 x2 x3 (wrap64 (x14 + 1)) x852 x853))) else (none)) else (none)) else (none)) else (heap_sink.l1 k x0 x2 x3 (wrap64 (x14 + 1)) x852 x853)) else (none))) else (if x3 = x2 then (some x0) else (if 0 ≤ x3 then (if x3 < (x0.length : Int) then (if 0 ≤ x2 then (if x2 < (x0.length : Int) then (heap_sink.l0 k ((x0.set (x2 : Int).toNat (⟨(rd_T76 x0 x3).f0, (rd_T76 x0 x3).f1⟩ : S76)).set (x3 : Int).toNat (⟨(rd_T76 x0 x2).f0, (rd_T76 x0 x2).f1⟩ : S76)) x3) else (none)) else (none)) else (none)) else (none)))
end
def heap_sink.f (k : Nat) (l0 : List (S76)) : Option ((List (S76))) := heap_sink.l0 k l0 0
theorem heap_sink.mono_l : ∀ k, (∀ y0 y1, LeO (heap_sink.l0 k y0 y1) (heap_sink.l0 (k + 1) y0 y1)) ∧ (∀ y0 y1 y2 y3 y4 y5, LeO (heap_sink.l1 k y0 y1 y2 y3 y4 y5) (heap_sink.l1 (k + 1) y0 y1 y2 y3 y4 y5))
 | 0 => ⟨fun _ _ r h => by simp [heap_sink.l0] at h, fun _ _ _ _ _ _ r h => by simp [heap_sink.l1] at h⟩
 | k + 1 => by
  obtain ⟨ih0, ih1⟩ := heap_sink.mono_l k
  refine ⟨?_, ?_⟩
  ·intro y0 y1
   unfold heap_sink.l0
   repeat' first
   | (with_reducible exact ih0 _ _)
   | (with_reducible exact ih1 _ _ _ _ _ _)
   | (with_reducible exact heap_Less.mono _ _ _ _ _)
   | (with_reducible exact LeO.refl _)
   | (with_reducible exact LeO.none _)
   | (with_reducible refine LeO.ite ?_ ?_)
   | (with_reducible refine LeO.bind ?_ (fun _ => ?_))
   | exact ih0 _ _
   | exact ih1 _ _ _ _ _ _
   | exact heap_Less.mono _ _ _ _ _
   | exact LeO.none _
   | refine LeO.ite ?_ ?_
   | refine LeO.bind ?_ (fun _ => ?_)
  ·intro y0 y1 y2 y3 y4 y5
   unfold heap_sink.l1
   repeat' first
   | (with_reducible exact ih0 _ _)
   | (with_reducible exact ih1 _ _ _ _ _ _)
   | (with_reducible exact heap_Less.mono _ _ _ _ _)
   | (with_reducible exact LeO.refl _)
   | (with_reducible exact LeO.none _)
   | (with_reducible refine LeO.ite ?_ ?_)
   | (with_reducible refine LeO.bind ?_ (fun _ => ?_))
   | exact ih0 _ _
   | exact ih1 _ _ _ _ _ _
   | exact heap_Less.mono _ _ _ _ _
   | exact LeO.none _
   | refine LeO.ite ?_ ?_
   | refine LeO.bind ?_ (fun _ => ?_)
theorem heap_sink.mono : ∀ a0 k, LeO (heap_sink.f k a0) (heap_sink.f (k + 1) a0) := by
 intro a0 k
 obtain ⟨ih0, ih1⟩ := heap_sink.mono_l k
 unfold heap_sink.f
 repeat' first
   | (with_reducible exact ih0 _ _)
   | (with_reducible exact ih1 _ _ _ _ _ _)
   | (with_reducible exact heap_Less.mono _ _ _ _ _)
   | (with_reducible exact LeO.refl _)
   | (with_reducible exact LeO.none _)
   | (with_reducible refine LeO.ite ?_ ?_)
   | (with_reducible refine LeO.bind ?_ (fun _ => ?_))
   | exact ih0 _ _
   | exact ih1 _ _ _ _ _ _
   | exact heap_Less.mono _ _ _ _ _
   | exact LeO.none _
   | refine LeO.ite ?_ ?_
   | refine LeO.bind ?_ (fun _ => ?_)
def heap_sink.T5 : Bool × List (List Nat × List Nat) := (true, [([], []), ([], []), ([1], [1]), ([0, 2], [0, 2]), ([3], [3]), ([4], [4]), ([4], [4]), ([5, 6, 4], [4, 5, 6]), ([7, 4], [4, 7]), ([4], [4]), ([4], [4]), ([9, 10, 4], [4, 9, 10]), ([11, 4], [4, 11]), ([8, 12, 4, 4], [4, 8, 12]), ([4, 13], [4, 13])])
def heap_sink.B5 : List Nat := [0, 0, 2, 7, 15, 31, 31, 127, 255, 31, 31, 1567, 3615, 8191, 16383]
theorem heap_sink.tab5 : rtab .any (opsOf Try.f53 5) = heap_sink.T5 := by kernel_rfl
theorem heap_sink.bits5 : waitsOk heap_sink.T5.2 heap_sink.B5 = true := by kernel_rfl
def heap_sink.T9 : Bool × List (List Nat × List Nat) := (true, [([], []), ([], []), ([], []), ([], []), ([], []), ([], []), ([4, 5], [4, 5]), ([6], [6]), ([], []), ([], []), ([8, 9], [8, 9]), ([10], [10]), ([0, 1, 0, 1, 4, 5, 6, 7, 11], [0, 1]), ([12, 7, 0, 1, 4, 5, 6, 7, 11], [7, 12]), ([2, 3, 0, 1, 2, 3, 4, 5, 6, 7, 8, 9, 10, 11, 12, 13], [2, 3]), ([14, 11, 13, 0, 1, 2, 3, 4, 5, 6, 7, 8, 9, 10, 11, 12, 13], [11, 14])])
def heap_sink.B9 : List Nat := [0, 0, 0, 0, 0, 0, 48, 112, 0, 0, 768, 1792, 4083, 8179, 16383, 32767]
theorem heap_sink.tab9 : rtab .any (opsOf Try.f53 9) = heap_sink.T9 := by kernel_rfl
theorem heap_sink.bits9 : waitsOk heap_sink.T9.2 heap_sink.B9 = true := by kernel_rfl
set_option maxHeartbeats 8000000 in
set_option maxRecDepth 100000 in
theorem heap_sink.calls (k : Nat) (P0_ : Nat → Prop) (u9000_ : Value) (l0 : List (S76)) (r : List (S76)) (w0 w : World) (hB : Below w0.heap.size w0 w) (ho0 : Kd.R k76 76 w w0.heap.size P0_ u9000_ l0) (h : heap_sink.f k l0 = some r) :
  Calls Try.prog 53 #[u9000_] w fun e w' => e = .returned (.tuple #[]) ∧ Kd.R k76 76 w' w0.heap.size (fun k_ => (P0_ k_ ∨ w.heap.size ≤ k_)) u9000_ r ∧ Below w0.heap.size w0 w' ∧ Kept w w' (fun k_ => P0_ k_) := by
 have hix109_0 : ∀ (x0 x1 : Value) (i_ : Int) (W : World), (i_ == 0) = true → (Instr.index 109 (.agg #[x0, x1]) (.int .i64 i_)).run Try.prog W = .ok x0 W := fun x0 x1 i_ W h_ => by obtain rfl := eq_of_beq h_; rfl
 have hix109_1 : ∀ (x0 x1 : Value) (i_ : Int) (W : World), (i_ == 1) = true → (Instr.index 109 (.agg #[x0, x1]) (.int .i64 i_)).run Try.prog W = .ok x1 W := fun x0 x1 i_ W h_ => by obtain rfl := eq_of_beq h_; rfl
 have hu76 := Try.underlying76
 have HO0 := m_ (show Kd.R k76 76 w w0.heap.size (fun k_ => (P0_ k_ ∨ w.heap.size ≤ k_)) u9000_ l0 from Kd.R_mono ho0 (fun k_ hk => (.inl hk)))
 have HK := m_ (Kept.refl w (fun k_ => P0_ k_))
 have HW0 := m_ hB.size
 have HB := m_ hB
 clear hB
 have H : (heap_sink.l0 k l0 0) = some r := h
 clear h
 have H' := m_ H
 clear H
 go_enter Try.func53, Try.ntmps53
 go_wp2
 go_step3
 go_wp2
 go_step3
 go_wp2
 go_loopg [2] k (fun kq v2 w' => ∃ (x0_1 : List (S76)) (x2_1 : Int), v2 = .int .i64 x2_1 ∧ Aside0 (heap_sink.l0 kq x0_1 x2_1 = some r) ∧ Aside0 (kq ≤ k) ∧ Aside0 (Kd.R k76 76 w' w0.heap.size (fun k_ => (P0_ k_ ∨ w.heap.size ≤ k_)) u9000_ x0_1) ∧ Aside0 (Kept w w' (fun k_ => P0_ k_)) ∧ Aside0 (Below w0.heap.size w0 w'))
 case atStart => exact ⟨(l0), (0), (by first | rfl | (simp; done) | (simp [*]; done)), H', ⟨Nat.le_refl _⟩, ⟨Rz_ HO0.out⟩, ⟨by repeat (first | (with_reducible first | exact HK.out | apply Kept.alloc | apply Kept.drewN | apply Kept.drew) | exact HK.out)⟩, ⟨bz_⟩⟩
 case round =>
  clear H'
  obtain ⟨x0_1, x2_1, rfl, HA, HK1, HO_0, HK, HB⟩ := hrel
  cases gk with
  | zero => exact absurd HA.out (by simp [heap_sink.l0])
  | succ k1 =>
   have H := HA.out
   clear HA
   simp only [heap_sink.l0] at H
   have H' := m_ H
   clear H
   go_wp2
   go_loopg [3, 14] k1 (fun kq v3 v14 w' => ∃ (x3_2 : Int) (x14_2 : Int), v3 = .int .i64 x3_2 ∧ v14 = .int .i64 x14_2 ∧ Aside0 (heap_sink.l1 kq x0_1 x2_1 x3_2 x14_2 (wrap64 ((wrap64 (2 * x2_1)) + 1)) (wrap64 ((wrap64 (2 * x2_1)) + 2)) = some r) ∧ Aside0 (kq ≤ k1) ∧ Aside0 (Kd.R k76 76 w' w0.heap.size (fun k_ => (P0_ k_ ∨ w.heap.size ≤ k_)) u9000_ x0_1) ∧ Aside0 (Kept w w' (fun k_ => P0_ k_)) ∧ Aside0 (Below w0.heap.size w0 w'))
   case atStart => exact ⟨(x2_1), (0), (by first | rfl | (simp; done) | (simp [*]; done)), (by first | rfl | (simp; done) | (simp [*]; done)), H', ⟨Nat.le_refl _⟩, ⟨Rz_ HO_0.out⟩, ⟨by repeat (first | (with_reducible first | exact HK.out | apply Kept.alloc | apply Kept.drewN | apply Kept.drew) | exact HK.out)⟩, ⟨bz_⟩⟩
   case round =>
    clear H'
    obtain ⟨x3_2, x14_2, rfl, rfl, HA, HK2, HO_0, HK, HB⟩ := hrel
    cases gk with
    | zero => exact absurd HA.out (by simp [heap_sink.l1])
    | succ k2 =>
     have H := HA.out
     clear HA
     simp only [heap_sink.l1] at H
     by_cases c2 : x14_2 < 2
     ·rw [if_pos c2] at H
      have c2b0 : decide (x14_2 < 2) = true := decide_eq_true c2
      clear c2
      by_cases c3 : x14_2 = 0
      ·rw [if_pos c3] at H
       have c3b0 : (x14_2 == 0) = true := beq_iff_eq.mpr c3
       have c3b1 : (x14_2 != 0) = false := bne_eq_false_iff_eq.mpr c3
       clear c3
       by_cases c4 : (wrap64 ((wrap64 (2 * x2_1)) + 1)) < (x0_1.length : Int)
       ·rw [if_pos c4] at H
        have c4b0 : decide ((wrap64 ((wrap64 (2 * x2_1)) + 1)) < (x0_1.length : Int)) = true := decide_eq_true c4
        clear c4
        obtain ⟨ji5, hji5⟩ : ∃ j_ : Int, (wrap64 ((wrap64 (2 * x2_1)) + 1)) = j_ := ⟨_, rfl⟩
        replace H : (if 0 ≤ (ji5) then (if 0 ≤ x3_2 then (if x3_2 < (x0_1.length : Int) then ((heap_Less.f k2 ((rd_T76 x0_1 (ji5)).f0) ((rd_T76 x0_1 (ji5)).f1) ((rd_T76 x0_1 x3_2).f0) ((rd_T76 x0_1 x3_2).f1)).bind fun t162 => (if t162 = true then (heap_sink.l1 k2 x0_1 x2_1 (ji5) (wrap64 (x14_2 + 1)) (ji5) (wrap64 ((wrap64 (2 * x2_1)) + 2))) else (heap_sink.l1 k2 x0_1 x2_1 x3_2 (wrap64 (x14_2 + 1)) (ji5) (wrap64 ((wrap64 (2 * x2_1)) + 2))))) else (none)) else (none)) else (none)) = some r := by first | (rw [hji5] at H; exact H) | (simp only [hji5] at H ⊢; exact H)
        (try rw [hji5] at c4b0)
        have hji5w : (IntKind.i64.wrap ((wrap64 (2 * x2_1)) + 1)) = ji5 := (i64_w _).trans hji5
        by_cases c6 : 0 ≤ (ji5)
        ·rw [if_pos c6] at H
         have c6b0 : decide (0 ≤ (ji5)) = true := decide_eq_true c6
         clear c6
         by_cases c7 : 0 ≤ x3_2
         ·rw [if_pos c7] at H
          have c7b0 : decide (0 ≤ x3_2) = true := decide_eq_true c7
          clear c7
          by_cases c8 : x3_2 < (x0_1.length : Int)
          ·rw [if_pos c8] at H
           have c8b0 : decide (x3_2 < (x0_1.length : Int)) = true := decide_eq_true c8
           clear c8
           replace H := Option.bind_eq_some_iff.mp H
           obtain ⟨t162, A90, H⟩ := H
           replace H : (if t162 = true then (heap_sink.l1 k2 x0_1 x2_1 (ji5) (wrap64 (x14_2 + 1)) (ji5) (wrap64 ((wrap64 (2 * x2_1)) + 2))) else (heap_sink.l1 k2 x0_1 x2_1 x3_2 (wrap64 (x14_2 + 1)) (ji5) (wrap64 ((wrap64 (2 * x2_1)) + 2)))) = some r := H
           have A9 := m_ A90
           clear A90
           by_cases c10 : t162 = true
           ·subst c10
            have H1 : (heap_sink.l1 k2 x0_1 x2_1 (ji5) (wrap64 (x14_2 + 1)) (ji5) (wrap64 ((wrap64 (2 * x2_1)) + 2))) = some r := by rw [if_pos rfl] at H; exact H
            clear H
            have H := H1
            clear H1
            have H' := m_ H
            clear H
            try go_wp2
            replace HO_0 := m_ (Kd.R_drew HO_0.out)
            replace HK := m_ (Kept.drew HK.out)
            replace HB := m_ (below_drew1 HB.out)
            obtain ⟨Ao12, co12, eo12⟩ := Kd.R_slice HO_0.out
            (first | subst eo12 | (injection eo12 with f1_ f2_ f3_; have f4_ := f1_.symm; have f5_ := f3_.symm; clear f1_ f2_ f3_; subst f4_; subst f5_))
            have p160 : 0 ≤ ((ji5) : Int) := od_
            have q160 : (ji5) < (x0_1.length : Int) := od_
            obtain ⟨ad160, e160, hx160_0, hx160_1⟩ := at_T76 (Kd.R_reads' HO_0.out).2.2 (ji5) p160 q160
            cases e160
            replace p160 := eq_true p160
            replace q160 := eq_true q160
            have p161 : 0 ≤ (x3_2 : Int) := od_
            have q161 : x3_2 < (x0_1.length : Int) := od_
            obtain ⟨ad161, e161, hx161_0, hx161_1⟩ := at_T76 (Kd.R_reads' HO_0.out).2.2 x3_2 p161 q161
            obtain rfl : ad160 = ad161 := (by injection e161)
            replace p161 := eq_true p161
            replace q161 := eq_true q161
            refine start_ (n := 15) (S := fun w' => w'.cell? (ad160.add (((ji5)).toNat * 2)) = some (.int .i64 ((rd_T76 x0_1 (ji5)).f0)) ∧ w'.cell? ⟨(ad160.add (((ji5)).toNat * 2)).block, (ad160.add (((ji5)).toNat * 2)).off + 1, none⟩ = some (.int .i64 ((rd_T76 x0_1 (ji5)).f1)) ∧ w'.cell? (ad160.add ((x3_2).toNat * 2)) = some (.int .i64 ((rd_T76 x0_1 x3_2).f0)) ∧ w'.cell? ⟨(ad160.add ((x3_2).toNat * 2)).block, (ad160.add ((x3_2).toNat * 2)).off + 1, none⟩ = some (.int .i64 ((rd_T76 x0_1 x3_2).f1))) (ds := []) (bs_ 15 0) (by kernel_rfl) rfl rfl ⟨hx160_0, hx160_1, hx161_0, hx161_1⟩ (fun hHeld => ?_); refine with_tabW heap_sink.tab5 heap_sink.bits5 (fun HT_ HW_ => ?_)
            generalize wr.drew = w11 at HO_0 HK HB hx160_0 hx160_1 hx161_0 hx161_1 hHeld ⊢
            refine pz_ 0 17 ?_
            refine pz_ 1 18 ?_
            refine pz_ 2 19 ?_
            refine pz_ 3 20 ?_
            refine pz_ 4 21 ?_
            refine pz_ 5 22 ?_
            refine pz_ 6 23 ?_
            refine pz_ 7 24 ?_
            refine pz_ 9 26 ?_
            refine pz_ 10 27 ?_
            refine pz_ 11 28 ?_
            refine tz_ 8 25 ?_
            refine tz_ 12 29 ?_
            refine oz_ 13 (some 30) (fun K hK => ?_)
            refine goes_ Try.func68 (by kernel_rfl) rfl #[.agg #[.int .i64 ((rd_T76 x0_1 (ji5)).f0), .int .i64 ((rd_T76 x0_1 (ji5)).f1)], .agg #[.int .i64 ((rd_T76 x0_1 x3_2).f0), .int .i64 ((rd_T76 x0_1 x3_2).f1)]] (by rfl) rfl rfl (by (try simp only [List.map_toArray, List.map_cons, List.map_nil]); first | done | (simp only [hji5]; rfl) | rfl | (simp only [List.length_drop, List.length_take]; rfl)) ?_
            with_reducible refine (heap_Less.calls k2 ((rd_T76 x0_1 (ji5)).f0) ((rd_T76 x0_1 (ji5)).f1) ((rd_T76 x0_1 x3_2).f0) ((rd_T76 x0_1 x3_2).f1) true _ A9.out).mono ?_
            rintro e w13 ⟨rfl, hb⟩
            have HS0_ := (hb.cell (World.block_lt_of_cell? _ _ (hHeld.1))).trans (hHeld.1)
            have HS1_ := (hb.cell (World.block_lt_of_cell? _ _ (hHeld.2.1))).trans (hHeld.2.1)
            have HS2_ := (hb.cell (World.block_lt_of_cell? _ _ (hHeld.2.2.1))).trans (hHeld.2.2.1)
            have HS3_ := (hb.cell (World.block_lt_of_cell? _ _ (hHeld.2.2.2))).trans (hHeld.2.2.2)
            refine ⟨_, rfl, ?_⟩
            replace HO_0 := m_ (Kd.R_below (Rz_ HO_0.out) hb)
            replace HK := m_ (Kept.below (S := (fun k_ => P0_ k_)) (by repeat (first | (with_reducible first | exact HK.out | apply Kept.alloc | apply Kept.drewN | apply Kept.drew) | exact HK.out)) hb)
            replace HB := m_ (below_step bz_ hb)
            (try clear hb)
            (try clear hb2)
            (try clear hk)
            (try clear hi)
            refine hK.out _ _ ⟨HS0_, HS1_, HS2_, HS3_⟩ (fun hHeld => ?_)
            clear hK K
            refine nz_ (some 30) ?_
            refine pz_ 14 31 ?_
            refine dz_ ?_
            try go_wp2
            subst hji5
            go_roundg k2
            case measure => have := HK1.out; have := HK2.out; omega
            case rel => exact ⟨(((wrap64 ((wrap64 (2 * x2_1)) + 1)))), (wrap64 (x14_2 + 1)), (by first | rfl | (simp; done) | (simp only [← hji5] <;> (first | rfl | simp)) | (simp [*]; done)), (by first | rfl | (simp; done) | (simp [*]; done)), H', ⟨by have := HK1.out; have := HK2.out; omega⟩, ⟨Rz_ HO_0.out⟩, ⟨by repeat (first | (with_reducible first | exact HK.out | apply Kept.alloc | apply Kept.drewN | apply Kept.drew) | exact HK.out)⟩, ⟨bz_⟩⟩
           ·replace c10 := Bool.eq_false_iff.mpr c10
            subst c10
            have H1 : (heap_sink.l1 k2 x0_1 x2_1 x3_2 (wrap64 (x14_2 + 1)) (ji5) (wrap64 ((wrap64 (2 * x2_1)) + 2))) = some r := by rw [if_neg (show ¬ (false = true) by decide)] at H; exact H
            clear H
            have H := H1
            clear H1
            have H' := m_ H
            clear H
            try go_wp2
            replace HO_0 := m_ (Kd.R_drew HO_0.out)
            replace HK := m_ (Kept.drew HK.out)
            replace HB := m_ (below_drew1 HB.out)
            obtain ⟨Ao15, co15, eo15⟩ := Kd.R_slice HO_0.out
            (first | subst eo15 | (injection eo15 with f1_ f2_ f3_; have f4_ := f1_.symm; have f5_ := f3_.symm; clear f1_ f2_ f3_; subst f4_; subst f5_))
            have p160 : 0 ≤ ((ji5) : Int) := od_
            have q160 : (ji5) < (x0_1.length : Int) := od_
            obtain ⟨ad160, e160, hx160_0, hx160_1⟩ := at_T76 (Kd.R_reads' HO_0.out).2.2 (ji5) p160 q160
            cases e160
            replace p160 := eq_true p160
            replace q160 := eq_true q160
            have p161 : 0 ≤ (x3_2 : Int) := od_
            have q161 : x3_2 < (x0_1.length : Int) := od_
            obtain ⟨ad161, e161, hx161_0, hx161_1⟩ := at_T76 (Kd.R_reads' HO_0.out).2.2 x3_2 p161 q161
            obtain rfl : ad160 = ad161 := (by injection e161)
            replace p161 := eq_true p161
            replace q161 := eq_true q161
            refine start_ (n := 15) (S := fun w' => w'.cell? (ad160.add (((ji5)).toNat * 2)) = some (.int .i64 ((rd_T76 x0_1 (ji5)).f0)) ∧ w'.cell? ⟨(ad160.add (((ji5)).toNat * 2)).block, (ad160.add (((ji5)).toNat * 2)).off + 1, none⟩ = some (.int .i64 ((rd_T76 x0_1 (ji5)).f1)) ∧ w'.cell? (ad160.add ((x3_2).toNat * 2)) = some (.int .i64 ((rd_T76 x0_1 x3_2).f0)) ∧ w'.cell? ⟨(ad160.add ((x3_2).toNat * 2)).block, (ad160.add ((x3_2).toNat * 2)).off + 1, none⟩ = some (.int .i64 ((rd_T76 x0_1 x3_2).f1))) (ds := []) (bs_ 15 0) (by kernel_rfl) rfl rfl ⟨hx160_0, hx160_1, hx161_0, hx161_1⟩ (fun hHeld => ?_); refine with_tabW heap_sink.tab5 heap_sink.bits5 (fun HT_ HW_ => ?_)
            generalize wr.drew = w14 at HO_0 HK HB hx160_0 hx160_1 hx161_0 hx161_1 hHeld ⊢
            refine pz_ 0 17 ?_
            refine pz_ 1 18 ?_
            refine pz_ 2 19 ?_
            refine pz_ 3 20 ?_
            refine pz_ 4 21 ?_
            refine pz_ 5 22 ?_
            refine pz_ 6 23 ?_
            refine pz_ 7 24 ?_
            refine pz_ 9 26 ?_
            refine pz_ 10 27 ?_
            refine pz_ 11 28 ?_
            refine tz_ 8 25 ?_
            refine tz_ 12 29 ?_
            refine oz_ 13 (some 30) (fun K hK => ?_)
            refine goes_ Try.func68 (by kernel_rfl) rfl #[.agg #[.int .i64 ((rd_T76 x0_1 (ji5)).f0), .int .i64 ((rd_T76 x0_1 (ji5)).f1)], .agg #[.int .i64 ((rd_T76 x0_1 x3_2).f0), .int .i64 ((rd_T76 x0_1 x3_2).f1)]] (by rfl) rfl rfl (by (try simp only [List.map_toArray, List.map_cons, List.map_nil]); first | done | (simp only [hji5]; rfl) | rfl | (simp only [List.length_drop, List.length_take]; rfl)) ?_
            with_reducible refine (heap_Less.calls k2 ((rd_T76 x0_1 (ji5)).f0) ((rd_T76 x0_1 (ji5)).f1) ((rd_T76 x0_1 x3_2).f0) ((rd_T76 x0_1 x3_2).f1) false _ A9.out).mono ?_
            rintro e w16 ⟨rfl, hb⟩
            have HS0_ := (hb.cell (World.block_lt_of_cell? _ _ (hHeld.1))).trans (hHeld.1)
            have HS1_ := (hb.cell (World.block_lt_of_cell? _ _ (hHeld.2.1))).trans (hHeld.2.1)
            have HS2_ := (hb.cell (World.block_lt_of_cell? _ _ (hHeld.2.2.1))).trans (hHeld.2.2.1)
            have HS3_ := (hb.cell (World.block_lt_of_cell? _ _ (hHeld.2.2.2))).trans (hHeld.2.2.2)
            refine ⟨_, rfl, ?_⟩
            replace HO_0 := m_ (Kd.R_below (Rz_ HO_0.out) hb)
            replace HK := m_ (Kept.below (S := (fun k_ => P0_ k_)) (by repeat (first | (with_reducible first | exact HK.out | apply Kept.alloc | apply Kept.drewN | apply Kept.drew) | exact HK.out)) hb)
            replace HB := m_ (below_step bz_ hb)
            (try clear hb)
            (try clear hb2)
            (try clear hk)
            (try clear hi)
            refine hK.out _ _ ⟨HS0_, HS1_, HS2_, HS3_⟩ (fun hHeld => ?_)
            clear hK K
            refine nz_ (some 30) ?_
            refine pz_ 14 31 ?_
            refine dz_ ?_
            try go_wp2
            subst hji5
            go_roundg k2
            case measure => have := HK1.out; have := HK2.out; omega
            case rel => exact ⟨(x3_2), (wrap64 (x14_2 + 1)), (by first | rfl | (simp; done) | (simp [*]; done)), (by first | rfl | (simp; done) | (simp [*]; done)), H', ⟨by have := HK1.out; have := HK2.out; omega⟩, ⟨Rz_ HO_0.out⟩, ⟨by repeat (first | (with_reducible first | exact HK.out | apply Kept.alloc | apply Kept.drewN | apply Kept.drew) | exact HK.out)⟩, ⟨bz_⟩⟩
          ·rw [if_neg c8] at H
           exact absurd H (by simp)
         ·rw [if_neg c7] at H
          exact absurd H (by simp)
        ·rw [if_neg c6] at H
         exact absurd H (by simp)
       ·rw [if_neg c4] at H
        have c4b0 : decide ((wrap64 ((wrap64 (2 * x2_1)) + 1)) < (x0_1.length : Int)) = false := decide_eq_false c4
        clear c4
        have H' := m_ H
        clear H
        try go_wp2
        replace HO_0 := m_ (Kd.R_drew HO_0.out)
        replace HK := m_ (Kept.drew HK.out)
        replace HB := m_ (below_drew1 HB.out)
        obtain ⟨Ao18, co18, eo18⟩ := Kd.R_slice HO_0.out
        (first | subst eo18 | (injection eo18 with f1_ f2_ f3_; have f4_ := f1_.symm; have f5_ := f3_.symm; clear f1_ f2_ f3_; subst f4_; subst f5_))
        refine start_ (n := 15) (S := fun w' => True) (ds := []) (bs_ 15 0) (by kernel_rfl) rfl rfl trivial (fun hHeld => ?_); refine with_tabW heap_sink.tab5 heap_sink.bits5 (fun HT_ HW_ => ?_)
        generalize wr.drew = w17 at HO_0 HK HB hHeld ⊢
        refine pz_ 0 17 ?_
        refine pz_ 1 18 ?_
        refine pz_ 2 19 ?_
        refine pz_ 3 20 ?_
        refine pz_ 4 21 ?_
        refine pz_ 5 22 ?_
        refine pz_ 6 23 ?_
        refine pz_ 7 24 ?_
        refine pz_ 8 25 ?_
        refine pz_ 9 26 ?_
        refine pz_ 10 27 ?_
        refine pz_ 11 28 ?_
        refine pz_ 12 29 ?_
        refine pz_ 13 30 ?_
        refine pz_ 14 31 ?_
        refine dz_ ?_
        try go_wp2
        go_roundg k2
        case measure => have := HK1.out; have := HK2.out; omega
        case rel => exact ⟨(x3_2), (wrap64 (x14_2 + 1)), (by first | rfl | (simp; done) | (simp [*]; done)), (by first | rfl | (simp; done) | (simp [*]; done)), H', ⟨by have := HK1.out; have := HK2.out; omega⟩, ⟨Rz_ HO_0.out⟩, ⟨by repeat (first | (with_reducible first | exact HK.out | apply Kept.alloc | apply Kept.drewN | apply Kept.drew) | exact HK.out)⟩, ⟨bz_⟩⟩
      ·rw [if_neg c3] at H
       have c3b0 : (x14_2 == 0) = false := beq_eq_false_iff_ne.mpr c3
       have c3b1 : (x14_2 != 0) = true := bne_iff_ne.mpr c3
       by_cases c19 : x14_2 = 1
       ·rw [if_pos c19] at H
        have c19b0 : (x14_2 == 1) = true := beq_iff_eq.mpr c19
        have c19b1 : (x14_2 != 1) = false := bne_eq_false_iff_eq.mpr c19
        clear c19
        by_cases c20 : (wrap64 ((wrap64 (2 * x2_1)) + 2)) < (x0_1.length : Int)
        ·rw [if_pos c20] at H
         have c20b0 : decide ((wrap64 ((wrap64 (2 * x2_1)) + 2)) < (x0_1.length : Int)) = true := decide_eq_true c20
         clear c20
         obtain ⟨ji21, hji21⟩ : ∃ j_ : Int, (wrap64 ((wrap64 (2 * x2_1)) + 2)) = j_ := ⟨_, rfl⟩
         replace H : (if 0 ≤ (ji21) then (if 0 ≤ x3_2 then (if x3_2 < (x0_1.length : Int) then ((heap_Less.f k2 ((rd_T76 x0_1 (ji21)).f0) ((rd_T76 x0_1 (ji21)).f1) ((rd_T76 x0_1 x3_2).f0) ((rd_T76 x0_1 x3_2).f1)).bind fun t165 => (if t165 = true then (heap_sink.l1 k2 x0_1 x2_1 (ji21) (wrap64 (x14_2 + 1)) (wrap64 ((wrap64 (2 * x2_1)) + 1)) (ji21)) else (heap_sink.l1 k2 x0_1 x2_1 x3_2 (wrap64 (x14_2 + 1)) (wrap64 ((wrap64 (2 * x2_1)) + 1)) (ji21)))) else (none)) else (none)) else (none)) = some r := by first | (rw [hji21] at H; exact H) | (simp only [hji21] at H ⊢; exact H)
         (try rw [hji21] at c20b0)
         have hji21w : (IntKind.i64.wrap ((wrap64 (2 * x2_1)) + 2)) = ji21 := (i64_w _).trans hji21
         by_cases c22 : 0 ≤ (ji21)
         ·rw [if_pos c22] at H
          have c22b0 : decide (0 ≤ (ji21)) = true := decide_eq_true c22
          clear c22
          by_cases c23 : 0 ≤ x3_2
          ·rw [if_pos c23] at H
           have c23b0 : decide (0 ≤ x3_2) = true := decide_eq_true c23
           clear c23
           by_cases c24 : x3_2 < (x0_1.length : Int)
           ·rw [if_pos c24] at H
            have c24b0 : decide (x3_2 < (x0_1.length : Int)) = true := decide_eq_true c24
            clear c24
            replace H := Option.bind_eq_some_iff.mp H
            obtain ⟨t165, A250, H⟩ := H
            replace H : (if t165 = true then (heap_sink.l1 k2 x0_1 x2_1 (ji21) (wrap64 (x14_2 + 1)) (wrap64 ((wrap64 (2 * x2_1)) + 1)) (ji21)) else (heap_sink.l1 k2 x0_1 x2_1 x3_2 (wrap64 (x14_2 + 1)) (wrap64 ((wrap64 (2 * x2_1)) + 1)) (ji21))) = some r := H
            have A25 := m_ A250
            clear A250
            by_cases c26 : t165 = true
            ·subst c26
             have H1 : (heap_sink.l1 k2 x0_1 x2_1 (ji21) (wrap64 (x14_2 + 1)) (wrap64 ((wrap64 (2 * x2_1)) + 1)) (ji21)) = some r := by rw [if_pos rfl] at H; exact H
             clear H
             have H := H1
             clear H1
             have H' := m_ H
             clear H
             try go_wp2
             replace HO_0 := m_ (Kd.R_drew HO_0.out)
             replace HK := m_ (Kept.drew HK.out)
             replace HB := m_ (below_drew1 HB.out)
             obtain ⟨Ao28, co28, eo28⟩ := Kd.R_slice HO_0.out
             (first | subst eo28 | (injection eo28 with f1_ f2_ f3_; have f4_ := f1_.symm; have f5_ := f3_.symm; clear f1_ f2_ f3_; subst f4_; subst f5_))
             have p163 : 0 ≤ ((ji21) : Int) := od_
             have q163 : (ji21) < (x0_1.length : Int) := od_
             obtain ⟨ad163, e163, hx163_0, hx163_1⟩ := at_T76 (Kd.R_reads' HO_0.out).2.2 (ji21) p163 q163
             cases e163
             replace p163 := eq_true p163
             replace q163 := eq_true q163
             have p164 : 0 ≤ (x3_2 : Int) := od_
             have q164 : x3_2 < (x0_1.length : Int) := od_
             obtain ⟨ad164, e164, hx164_0, hx164_1⟩ := at_T76 (Kd.R_reads' HO_0.out).2.2 x3_2 p164 q164
             obtain rfl : ad163 = ad164 := (by injection e164)
             replace p164 := eq_true p164
             replace q164 := eq_true q164
             refine start_ (n := 15) (S := fun w' => w'.cell? (ad163.add (((ji21)).toNat * 2)) = some (.int .i64 ((rd_T76 x0_1 (ji21)).f0)) ∧ w'.cell? ⟨(ad163.add (((ji21)).toNat * 2)).block, (ad163.add (((ji21)).toNat * 2)).off + 1, none⟩ = some (.int .i64 ((rd_T76 x0_1 (ji21)).f1)) ∧ w'.cell? (ad163.add ((x3_2).toNat * 2)) = some (.int .i64 ((rd_T76 x0_1 x3_2).f0)) ∧ w'.cell? ⟨(ad163.add ((x3_2).toNat * 2)).block, (ad163.add ((x3_2).toNat * 2)).off + 1, none⟩ = some (.int .i64 ((rd_T76 x0_1 x3_2).f1))) (ds := []) (bs_ 15 0) (by kernel_rfl) rfl rfl ⟨hx163_0, hx163_1, hx164_0, hx164_1⟩ (fun hHeld => ?_); refine with_tabW heap_sink.tab5 heap_sink.bits5 (fun HT_ HW_ => ?_)
             generalize wr.drew = w27 at HO_0 HK HB hx163_0 hx163_1 hx164_0 hx164_1 hHeld ⊢
             refine pz_ 0 17 ?_
             refine pz_ 1 18 ?_
             refine pz_ 2 19 ?_
             refine pz_ 3 20 ?_
             refine pz_ 4 21 ?_
             refine pz_ 5 22 ?_
             refine pz_ 6 23 ?_
             refine pz_ 7 24 ?_
             refine pz_ 9 26 ?_
             refine pz_ 10 27 ?_
             refine pz_ 11 28 ?_
             refine tz_ 8 25 ?_
             refine tz_ 12 29 ?_
             refine oz_ 13 (some 30) (fun K hK => ?_)
             refine goes_ Try.func68 (by kernel_rfl) rfl #[.agg #[.int .i64 ((rd_T76 x0_1 (ji21)).f0), .int .i64 ((rd_T76 x0_1 (ji21)).f1)], .agg #[.int .i64 ((rd_T76 x0_1 x3_2).f0), .int .i64 ((rd_T76 x0_1 x3_2).f1)]] (by rfl) rfl rfl (by (try simp only [List.map_toArray, List.map_cons, List.map_nil]); first | done | (simp only [hji21]; rfl) | rfl | (simp only [List.length_drop, List.length_take]; rfl)) ?_
             with_reducible refine (heap_Less.calls k2 ((rd_T76 x0_1 (ji21)).f0) ((rd_T76 x0_1 (ji21)).f1) ((rd_T76 x0_1 x3_2).f0) ((rd_T76 x0_1 x3_2).f1) true _ A25.out).mono ?_
             rintro e w29 ⟨rfl, hb⟩
             have HS0_ := (hb.cell (World.block_lt_of_cell? _ _ (hHeld.1))).trans (hHeld.1)
             have HS1_ := (hb.cell (World.block_lt_of_cell? _ _ (hHeld.2.1))).trans (hHeld.2.1)
             have HS2_ := (hb.cell (World.block_lt_of_cell? _ _ (hHeld.2.2.1))).trans (hHeld.2.2.1)
             have HS3_ := (hb.cell (World.block_lt_of_cell? _ _ (hHeld.2.2.2))).trans (hHeld.2.2.2)
             refine ⟨_, rfl, ?_⟩
             replace HO_0 := m_ (Kd.R_below (Rz_ HO_0.out) hb)
             replace HK := m_ (Kept.below (S := (fun k_ => P0_ k_)) (by repeat (first | (with_reducible first | exact HK.out | apply Kept.alloc | apply Kept.drewN | apply Kept.drew) | exact HK.out)) hb)
             replace HB := m_ (below_step bz_ hb)
             (try clear hb)
             (try clear hb2)
             (try clear hk)
             (try clear hi)
             refine hK.out _ _ ⟨HS0_, HS1_, HS2_, HS3_⟩ (fun hHeld => ?_)
             clear hK K
             refine nz_ (some 30) ?_
             refine pz_ 14 31 ?_
             refine dz_ ?_
             try go_wp2
             subst hji21
             go_roundg k2
             case measure => have := HK1.out; have := HK2.out; omega
             case rel => exact ⟨(((wrap64 ((wrap64 (2 * x2_1)) + 2)))), (wrap64 (x14_2 + 1)), (by first | rfl | (simp; done) | (simp only [← hji21] <;> (first | rfl | simp)) | (simp [*]; done)), (by first | rfl | (simp; done) | (simp [*]; done)), H', ⟨by have := HK1.out; have := HK2.out; omega⟩, ⟨Rz_ HO_0.out⟩, ⟨by repeat (first | (with_reducible first | exact HK.out | apply Kept.alloc | apply Kept.drewN | apply Kept.drew) | exact HK.out)⟩, ⟨bz_⟩⟩
            ·replace c26 := Bool.eq_false_iff.mpr c26
             subst c26
             have H1 : (heap_sink.l1 k2 x0_1 x2_1 x3_2 (wrap64 (x14_2 + 1)) (wrap64 ((wrap64 (2 * x2_1)) + 1)) (ji21)) = some r := by rw [if_neg (show ¬ (false = true) by decide)] at H; exact H
             clear H
             have H := H1
             clear H1
             have H' := m_ H
             clear H
             try go_wp2
             replace HO_0 := m_ (Kd.R_drew HO_0.out)
             replace HK := m_ (Kept.drew HK.out)
             replace HB := m_ (below_drew1 HB.out)
             obtain ⟨Ao31, co31, eo31⟩ := Kd.R_slice HO_0.out
             (first | subst eo31 | (injection eo31 with f1_ f2_ f3_; have f4_ := f1_.symm; have f5_ := f3_.symm; clear f1_ f2_ f3_; subst f4_; subst f5_))
             have p163 : 0 ≤ ((ji21) : Int) := od_
             have q163 : (ji21) < (x0_1.length : Int) := od_
             obtain ⟨ad163, e163, hx163_0, hx163_1⟩ := at_T76 (Kd.R_reads' HO_0.out).2.2 (ji21) p163 q163
             cases e163
             replace p163 := eq_true p163
             replace q163 := eq_true q163
             have p164 : 0 ≤ (x3_2 : Int) := od_
             have q164 : x3_2 < (x0_1.length : Int) := od_
             obtain ⟨ad164, e164, hx164_0, hx164_1⟩ := at_T76 (Kd.R_reads' HO_0.out).2.2 x3_2 p164 q164
             obtain rfl : ad163 = ad164 := (by injection e164)
             replace p164 := eq_true p164
             replace q164 := eq_true q164
             refine start_ (n := 15) (S := fun w' => w'.cell? (ad163.add (((ji21)).toNat * 2)) = some (.int .i64 ((rd_T76 x0_1 (ji21)).f0)) ∧ w'.cell? ⟨(ad163.add (((ji21)).toNat * 2)).block, (ad163.add (((ji21)).toNat * 2)).off + 1, none⟩ = some (.int .i64 ((rd_T76 x0_1 (ji21)).f1)) ∧ w'.cell? (ad163.add ((x3_2).toNat * 2)) = some (.int .i64 ((rd_T76 x0_1 x3_2).f0)) ∧ w'.cell? ⟨(ad163.add ((x3_2).toNat * 2)).block, (ad163.add ((x3_2).toNat * 2)).off + 1, none⟩ = some (.int .i64 ((rd_T76 x0_1 x3_2).f1))) (ds := []) (bs_ 15 0) (by kernel_rfl) rfl rfl ⟨hx163_0, hx163_1, hx164_0, hx164_1⟩ (fun hHeld => ?_); refine with_tabW heap_sink.tab5 heap_sink.bits5 (fun HT_ HW_ => ?_)
             generalize wr.drew = w30 at HO_0 HK HB hx163_0 hx163_1 hx164_0 hx164_1 hHeld ⊢
             refine pz_ 0 17 ?_
             refine pz_ 1 18 ?_
             refine pz_ 2 19 ?_
             refine pz_ 3 20 ?_
             refine pz_ 4 21 ?_
             refine pz_ 5 22 ?_
             refine pz_ 6 23 ?_
             refine pz_ 7 24 ?_
             refine pz_ 9 26 ?_
             refine pz_ 10 27 ?_
             refine pz_ 11 28 ?_
             refine tz_ 8 25 ?_
             refine tz_ 12 29 ?_
             refine oz_ 13 (some 30) (fun K hK => ?_)
             refine goes_ Try.func68 (by kernel_rfl) rfl #[.agg #[.int .i64 ((rd_T76 x0_1 (ji21)).f0), .int .i64 ((rd_T76 x0_1 (ji21)).f1)], .agg #[.int .i64 ((rd_T76 x0_1 x3_2).f0), .int .i64 ((rd_T76 x0_1 x3_2).f1)]] (by rfl) rfl rfl (by (try simp only [List.map_toArray, List.map_cons, List.map_nil]); first | done | (simp only [hji21]; rfl) | rfl | (simp only [List.length_drop, List.length_take]; rfl)) ?_
             with_reducible refine (heap_Less.calls k2 ((rd_T76 x0_1 (ji21)).f0) ((rd_T76 x0_1 (ji21)).f1) ((rd_T76 x0_1 x3_2).f0) ((rd_T76 x0_1 x3_2).f1) false _ A25.out).mono ?_
             rintro e w32 ⟨rfl, hb⟩
             have HS0_ := (hb.cell (World.block_lt_of_cell? _ _ (hHeld.1))).trans (hHeld.1)
             have HS1_ := (hb.cell (World.block_lt_of_cell? _ _ (hHeld.2.1))).trans (hHeld.2.1)
             have HS2_ := (hb.cell (World.block_lt_of_cell? _ _ (hHeld.2.2.1))).trans (hHeld.2.2.1)
             have HS3_ := (hb.cell (World.block_lt_of_cell? _ _ (hHeld.2.2.2))).trans (hHeld.2.2.2)
             refine ⟨_, rfl, ?_⟩
             replace HO_0 := m_ (Kd.R_below (Rz_ HO_0.out) hb)
             replace HK := m_ (Kept.below (S := (fun k_ => P0_ k_)) (by repeat (first | (with_reducible first | exact HK.out | apply Kept.alloc | apply Kept.drewN | apply Kept.drew) | exact HK.out)) hb)
             replace HB := m_ (below_step bz_ hb)
             (try clear hb)
             (try clear hb2)
             (try clear hk)
             (try clear hi)
             refine hK.out _ _ ⟨HS0_, HS1_, HS2_, HS3_⟩ (fun hHeld => ?_)
             clear hK K
             refine nz_ (some 30) ?_
             refine pz_ 14 31 ?_
             refine dz_ ?_
             try go_wp2
             subst hji21
             go_roundg k2
             case measure => have := HK1.out; have := HK2.out; omega
             case rel => exact ⟨(x3_2), (wrap64 (x14_2 + 1)), (by first | rfl | (simp; done) | (simp [*]; done)), (by first | rfl | (simp; done) | (simp [*]; done)), H', ⟨by have := HK1.out; have := HK2.out; omega⟩, ⟨Rz_ HO_0.out⟩, ⟨by repeat (first | (with_reducible first | exact HK.out | apply Kept.alloc | apply Kept.drewN | apply Kept.drew) | exact HK.out)⟩, ⟨bz_⟩⟩
           ·rw [if_neg c24] at H
            exact absurd H (by simp)
          ·rw [if_neg c23] at H
           exact absurd H (by simp)
         ·rw [if_neg c22] at H
          exact absurd H (by simp)
        ·rw [if_neg c20] at H
         have c20b0 : decide ((wrap64 ((wrap64 (2 * x2_1)) + 2)) < (x0_1.length : Int)) = false := decide_eq_false c20
         clear c20
         have H' := m_ H
         clear H
         try go_wp2
         replace HO_0 := m_ (Kd.R_drew HO_0.out)
         replace HK := m_ (Kept.drew HK.out)
         replace HB := m_ (below_drew1 HB.out)
         obtain ⟨Ao34, co34, eo34⟩ := Kd.R_slice HO_0.out
         (first | subst eo34 | (injection eo34 with f1_ f2_ f3_; have f4_ := f1_.symm; have f5_ := f3_.symm; clear f1_ f2_ f3_; subst f4_; subst f5_))
         refine start_ (n := 15) (S := fun w' => True) (ds := []) (bs_ 15 0) (by kernel_rfl) rfl rfl trivial (fun hHeld => ?_); refine with_tabW heap_sink.tab5 heap_sink.bits5 (fun HT_ HW_ => ?_)
         generalize wr.drew = w33 at HO_0 HK HB hHeld ⊢
         refine pz_ 0 17 ?_
         refine pz_ 1 18 ?_
         refine pz_ 2 19 ?_
         refine pz_ 3 20 ?_
         refine pz_ 4 21 ?_
         refine pz_ 5 22 ?_
         refine pz_ 6 23 ?_
         refine pz_ 7 24 ?_
         refine pz_ 8 25 ?_
         refine pz_ 9 26 ?_
         refine pz_ 10 27 ?_
         refine pz_ 11 28 ?_
         refine pz_ 12 29 ?_
         refine pz_ 13 30 ?_
         refine pz_ 14 31 ?_
         refine dz_ ?_
         try go_wp2
         go_roundg k2
         case measure => have := HK1.out; have := HK2.out; omega
         case rel => exact ⟨(x3_2), (wrap64 (x14_2 + 1)), (by first | rfl | (simp; done) | (simp [*]; done)), (by first | rfl | (simp; done) | (simp [*]; done)), H', ⟨by have := HK1.out; have := HK2.out; omega⟩, ⟨Rz_ HO_0.out⟩, ⟨by repeat (first | (with_reducible first | exact HK.out | apply Kept.alloc | apply Kept.drewN | apply Kept.drew) | exact HK.out)⟩, ⟨bz_⟩⟩
       ·rw [if_neg c19] at H
        exact absurd H (by simp)
     ·rw [if_neg c2] at H
      have c2b0 : decide (x14_2 < 2) = false := decide_eq_false c2
      clear c2
      by_cases c35 : x3_2 = x2_1
      ·rw [if_pos c35] at H
       have c35b0 : (x3_2 == x2_1) = true := beq_iff_eq.mpr c35
       have c35b1 : (x3_2 != x2_1) = false := bne_eq_false_iff_eq.mpr c35
       clear c35
       obtain rfl := Option.some.inj H
       go_wp2
       first | go_end0 | ((try simp only [Exit.inBlock, Exit.then]); refine bodyPost_ret (results_none rfl _ _ _) rfl ?_)
       exact ⟨ew_, (Rz_ HO_0.out), bz_, (by repeat (first | (with_reducible first | exact HK.out | apply Kept.alloc | apply Kept.drewN | apply Kept.drew) | exact HK.out))⟩
      ·rw [if_neg c35] at H
       have c35b0 : (x3_2 == x2_1) = false := beq_eq_false_iff_ne.mpr c35
       have c35b1 : (x3_2 != x2_1) = true := bne_iff_ne.mpr c35
       by_cases c36 : 0 ≤ x3_2
       ·rw [if_pos c36] at H
        have c36b0 : decide (0 ≤ x3_2) = true := decide_eq_true c36
        clear c36
        by_cases c37 : x3_2 < (x0_1.length : Int)
        ·rw [if_pos c37] at H
         have c37b0 : decide (x3_2 < (x0_1.length : Int)) = true := decide_eq_true c37
         clear c37
         by_cases c38 : 0 ≤ x2_1
         ·rw [if_pos c38] at H
          have c38b0 : decide (0 ≤ x2_1) = true := decide_eq_true c38
          clear c38
          by_cases c39 : x2_1 < (x0_1.length : Int)
          ·rw [if_pos c39] at H
           have c39b0 : decide (x2_1 < (x0_1.length : Int)) = true := decide_eq_true c39
           clear c39
           obtain ⟨y168, hy168⟩ : ∃ y_ : List (S76), y_ = (x0_1.set (x2_1 : Int).toNat (⟨(rd_T76 x0_1 x3_2).f0, (rd_T76 x0_1 x3_2).f1⟩ : S76)) := ⟨_, rfl⟩
           replace H : (heap_sink.l0 k2 (y168.set (x3_2 : Int).toNat (⟨(rd_T76 x0_1 x2_1).f0, (rd_T76 x0_1 x2_1).f1⟩ : S76)) x3_2) = some r := by first | (rw [hy168]; with_reducible exact H) | (have H2_ := (Option.bind_some _ _).symm.trans H; rw [hy168]; with_reducible exact H2_) | (have H2_ := (Option.bind_some _ _).symm.trans H; with_reducible exact H2_) | with_reducible exact H | (rw [hy168]; exact H) | exact H
           have Ny168 := m_ hy168
           clear hy168
           obtain ⟨y169, hy169⟩ : ∃ y_ : List (S76), y_ = (y168.set (x3_2 : Int).toNat (⟨(rd_T76 x0_1 x2_1).f0, (rd_T76 x0_1 x2_1).f1⟩ : S76)) := ⟨_, rfl⟩
           replace H : (heap_sink.l0 k2 y169 x3_2) = some r := by first | (rw [hy169]; with_reducible exact H) | (have H2_ := (Option.bind_some _ _).symm.trans H; rw [hy169]; with_reducible exact H2_) | (have H2_ := (Option.bind_some _ _).symm.trans H; with_reducible exact H2_) | with_reducible exact H | (rw [hy169]; exact H) | exact H
           have Ny169 := m_ hy169
           clear hy169
           have H' := m_ H
           clear H
           try go_wp2
           replace HO_0 := m_ (Kd.R_drew HO_0.out)
           replace HK := m_ (Kept.drew HK.out)
           replace HB := m_ (below_drew1 HB.out)
           obtain ⟨Ao43, co43, eo43⟩ := Kd.R_slice HO_0.out
           (first | subst eo43 | (injection eo43 with f1_ f2_ f3_; have f4_ := f1_.symm; have f5_ := f3_.symm; clear f1_ f2_ f3_; subst f4_; subst f5_))
           have p166 : 0 ≤ (x3_2 : Int) := od_
           have q166 : x3_2 < (x0_1.length : Int) := od_
           obtain ⟨ad166, e166, hx166_0, hx166_1⟩ := at_T76 (Kd.R_reads' HO_0.out).2.2 x3_2 p166 q166
           cases e166
           replace p166 := eq_true p166
           replace q166 := eq_true q166
           have p167 : 0 ≤ (x2_1 : Int) := od_
           have q167 : x2_1 < (x0_1.length : Int) := od_
           obtain ⟨ad167, e167, hx167_0, hx167_1⟩ := at_T76 (Kd.R_reads' HO_0.out).2.2 x2_1 p167 q167
           obtain rfl : ad166 = ad167 := (by injection e167)
           replace p167 := eq_true p167
           replace q167 := eq_true q167
           have p40 : 0 ≤ (x2_1 : Int) := od_
           have q40 : (x2_1 : Int) < ((x0_1.length : Int) : Int) := od_
           obtain ⟨go40, co40, eo40, gb40, gl40, cl40, HG40⟩ := Kd.R_form HO_0.out (by omega)
           (first | cases eo40 | (injection eo40 with ea_ en_ ec_; (first | subst ea_ | (injection ea_ with ea_; subst ea_)); subst ec_; clear en_))
           have GB40 := m_ gb40
           have GG40 := m_ HG40
           clear gb40 gl40 HG40
           have HMgo40 := m_ (show (P0_ go40 ∨ w.heap.size ≤ go40) from (HO_0.out.1 _ rfl))
           (first | simp only [add_plain] at hx166_0 | skip)
           (first | simp only [add_plain] at hx166_1 | skip)
           (first | simp only [add_plain] at hx167_0 | skip)
           (first | simp only [add_plain] at hx167_1 | skip)
           obtain ⟨ce40, hcl40, hM40, hcc40, hfr40⟩ := Kd.R_elem HO_0.out z76 (x2_1 : Int) p40 q40
           obtain rfl := k76_openM hM40
           have hx40_0 : World.cell? _ ⟨go40, (x2_1 : Int).toNat * 2, none⟩ = some (.int .i64 ((rd_T76 x0_1 x2_1).f0)) := hcc40 0 _ rfl
           have hx40_1 : World.cell? _ ⟨go40, (x2_1 : Int).toNat * 2 + 1, none⟩ = some (.int .i64 ((rd_T76 x0_1 x2_1).f1)) := hcc40 1 _ rfl
           have hf40_0 : World.frozen? _ ⟨go40, (x2_1 : Int).toNat * 2, none⟩ = false := hfr40 0
           have hf40_1 : World.frozen? _ ⟨go40, (x2_1 : Int).toNat * 2 + 1, none⟩ = false := hfr40 1
           clear hcl40 hcc40 hfr40 hM40
           replace p40 := eq_true p40
           replace q40 := eq_true q40
           obtain ⟨ce44, hcl44, hM44, hcc44, hfr44⟩ := Kd.R_elem HO_0.out z76 (x2_1 : Int) od_ (by have h_ : (x2_1 : Int) < ((x0_1.length : Int) : Int) := od_; first | exact h_ | (have e_ := (Kd.R_reads' HO_0.out).1; omega) | simpa using h_)
           obtain rfl := k76_openM hM44
           have HP44 := (Kd.R_seg HO_0.out (x2_1 : Int) od_ (by have h_ : (x2_1 : Int) < ((x0_1.length : Int) : Int) := od_; first | exact h_ | (have e_ := (Kd.R_reads' HO_0.out).1; omega) | simpa using h_) (seg := [.int .i64 ((rd_T76 x0_1 x3_2).f0), .int .i64 ((rd_T76 x0_1 x3_2).f1)]) (j := 0) hcl44 hcc44 (show 2 ≤ 2 from by decide) (x' := (⟨(rd_T76 x0_1 x3_2).f0, (rd_T76 x0_1 x3_2).f1⟩ : S76)) (k76_mkM _ _ _ (⟨(rd_T76 x0_1 x3_2).f0, (rd_T76 x0_1 x3_2).f1⟩ : S76) ) (fun _ hk => hk)).1
           rw [← Ny168.out] at HP44
           have HQ44 := m_ HP44
           clear hcl44 hcc44 hfr44 hM44 HP44
           have p41 : 0 ≤ (x3_2 : Int) := od_
           have q41 : (x3_2 : Int) < ((x0_1.length : Int) : Int) := od_
           obtain ⟨ce41, hcl41, hM41, hcc41, hfr41⟩ := Kd.R_elem HQ44.out z76 (x3_2 : Int) p41 q41
           obtain rfl := k76_openM hM41
           have hx41_0 : World.cell? _ ⟨go40, (x3_2 : Int).toNat * 2, none⟩ = some (.int .i64 ((rd_T76 y168 x3_2).f0)) := hcc41 0 _ rfl
           have hx41_1 : World.cell? _ ⟨go40, (x3_2 : Int).toNat * 2 + 1, none⟩ = some (.int .i64 ((rd_T76 y168 x3_2).f1)) := hcc41 1 _ rfl
           have hf41_0 : World.frozen? _ ⟨go40, (x3_2 : Int).toNat * 2, none⟩ = false := hfr41 0
           have hf41_1 : World.frozen? _ ⟨go40, (x3_2 : Int).toNat * 2 + 1, none⟩ = false := hfr41 1
           clear hcl41 hcc41 hfr41 hM41
           (try simp only [World.setCells, Nat.add_zero, show k76.sz = 2 from rfl] at hx41_0 hf41_0 hx41_1 hf41_1)
           (try simp only [World.frozen?_setCell] at hf41_0 hf41_1)
           (try rw [World.cell?_setCell_other (by intro e_; injection e_; omega)] at hx41_0)
           have hcd1_ : ∀ (W : World) (m : Nat) (p : Addr) (v : Value) (q : Addr), ((W.drewN m).setCell p v).cell? q = (W.setCell p v).cell? q := fun _ _ _ _ _ => rfl
           have hcd2_ : ∀ (W : World) (m : Nat) (p : Addr) (v : Value) (p2 : Addr) (v2 : Value) (q : Addr), (((W.drewN m).setCell p v).setCell p2 v2).cell? q = ((W.setCell p v).setCell p2 v2).cell? q := fun _ _ _ _ _ _ _ => rfl
           replace p41 := eq_true p41
           replace q41 := eq_true q41
           obtain ⟨ce45, hcl45, hM45, hcc45, hfr45⟩ := Kd.R_elem HQ44.out z76 (x3_2 : Int) od_ (by have h_ : (x3_2 : Int) < ((x0_1.length : Int) : Int) := od_; first | exact h_ | (have e_ := (Kd.R_reads' HO_0.out).1; omega) | simpa using h_)
           obtain rfl := k76_openM hM45
           have HP45 := (Kd.R_seg HQ44.out (x3_2 : Int) od_ (by have h_ : (x3_2 : Int) < ((x0_1.length : Int) : Int) := od_; first | exact h_ | (have e_ := (Kd.R_reads' HO_0.out).1; omega) | simpa using h_) (seg := [.int .i64 ((rd_T76 x0_1 x2_1).f0), .int .i64 ((rd_T76 x0_1 x2_1).f1)]) (j := 0) hcl45 hcc45 (show 2 ≤ 2 from by decide) (x' := (⟨(rd_T76 x0_1 x2_1).f0, (rd_T76 x0_1 x2_1).f1⟩ : S76)) (k76_mkM _ _ _ (⟨(rd_T76 x0_1 x2_1).f0, (rd_T76 x0_1 x2_1).f1⟩ : S76) ) (fun _ hk => hk)).1
           rw [← Ny169.out] at HP45
           have HQ45 := m_ HP45
           clear hcl45 hcc45 hfr45 hM45 HP45
           refine start_ (n := 16) (S := fun w' => w'.cell? ⟨go40, ((x3_2).toNat * 2), none⟩ = some (.int .i64 ((rd_T76 x0_1 x3_2).f0)) ∧ w'.cell? ⟨go40, ((x3_2).toNat * 2) + 1, none⟩ = some (.int .i64 ((rd_T76 x0_1 x3_2).f1)) ∧ w'.cell? ⟨go40, ((x2_1).toNat * 2), none⟩ = some (.int .i64 ((rd_T76 x0_1 x2_1).f0)) ∧ w'.cell? ⟨go40, ((x2_1).toNat * 2) + 1, none⟩ = some (.int .i64 ((rd_T76 x0_1 x2_1).f1))) (ds := [13, 15]) (bs_ 16 0) (by kernel_rfl) rfl rfl ⟨hx166_0, hx166_1, hx167_0, hx167_1⟩ (fun hHeld => ?_); refine with_tabW heap_sink.tab9 heap_sink.bits9 (fun HT_ HW_ => ?_)
           generalize wr.drew = w42 at HO_0 HK HB GG40 HQ44 HQ45 hf40_0 hf40_1 hf41_0 hf41_1 hx166_0 hx166_1 hx167_0 hx167_1 hx40_0 hx40_1 hx41_0 hx41_1 hHeld ⊢
           refine pz_ 0 37 ?_
           refine pz_ 1 38 ?_
           refine pz_ 2 39 ?_
           refine pz_ 3 40 ?_
           refine pz_ 4 41 ?_
           refine pz_ 5 42 ?_
           refine pz_ 6 43 ?_
           refine pz_ 8 45 ?_
           refine pz_ 9 46 ?_
           refine pz_ 10 47 ?_
           refine tz_ 7 44 ?_
           refine tz_ 11 48 ?_
           refine pz_ 12 49 ?_
           refine last_ (i := 13) (N := none) (bs_ 16 16383) rfl rfl (one_of HT_.out (by kernel_rfl)) (by decide) (fun K hK => ?_)
           refine skip_ (w1 := ?_) (by rfl) rfl ?_ ?_
           rotate_left
           ·go_simp
            rfl
           refine hK.out _ _ ?_
           clear hK K
           refine pz_ 14 50 ?_
           refine last_ (i := 15) (N := none) (bs_ 16 65535) rfl rfl (one_of HT_.out (by kernel_rfl)) (by decide) (fun K hK => ?_)
           refine skip_ (w1 := ?_) (by rfl) rfl ?_ ?_
           rotate_left
           ·go_simp
            rfl
           refine hK.out _ _ ?_
           clear hK K
           refine dz_ ?_
           try go_wp2
           go_roundg k2
           case measure => have := HK1.out; have := HK2.out; omega
           case rel => exact ⟨(y169), (x3_2), (by first | rfl | (simp; done) | (simp [*]; done)), H', ⟨by have := HK1.out; have := HK2.out; omega⟩, ⟨Rz_ HQ45.out⟩, ⟨by repeat (first | (with_reducible first | exact HK.out | apply Kept.alloc | apply Kept.drewN | apply Kept.drew | refine Kept.setCell ?_ HMgo40.out _ | refine Kept.setCell ?_ HMgo40.out _ | refine Kept.setCell ?_ HMgo40.out _ | refine Kept.setCell ?_ HMgo40.out _) | exact HK.out)⟩, ⟨by repeat (first | (with_reducible first | exact HB.out | apply below_alloc | apply pw_below_drewN | apply below_drew1 | refine below_set ?_ GB40.out | refine below_set ?_ GB40.out | refine below_set ?_ GB40.out | refine below_set ?_ GB40.out) | exact HB.out)⟩⟩
          ·rw [if_neg c39] at H
           exact absurd H (by simp)
         ·rw [if_neg c38] at H
          exact absurd H (by simp)
        ·rw [if_neg c37] at H
         exact absurd H (by simp)
       ·rw [if_neg c36] at H
        exact absurd H (by simp)

end Go.Proofs.Ytkcphjdjhlikhaa.P

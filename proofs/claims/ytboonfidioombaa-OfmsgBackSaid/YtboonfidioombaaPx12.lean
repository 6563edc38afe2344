/- For each Go function a Lean function, and the proof that a call comes to what it tells: made by program out of the translation (the kit's print, with texts by hand put in). No condition. -/
import Derived.Test.YtboonfidioombaaSq
import Derived.Test.YtboonfidioombaaPx0
import Derived.Test.YtboonfidioombaaPx10
import Derived.Test.YtboonfidioombaaPx11
namespace Go.Proofs.Ytboonfidioombaa.P
open Go.RowKit Go.Proofs.Ytboonfidioombaa.HRows Go.Proofs.YtboonfidioombaaW.PrintWords Go.Proofs.YtboonfidioombaaW.PrintLast Go.Proofs.YtboonfidioombaaW.PrintMore
attribute [local go_sem] max2_int min2_int max_two min_two max_three min_three max_four min_four
set_option linter.unusedVariables false
set_option linter.unusedSimpArgs false
def ofmsg_inner.j0 : Nat → List Int → Int → Int → Int → Int → Int → Int → Int → List (S59) → Int → Bool → List Int → Option (List Int)
 | 0, _, _, _, _, _, _, _, _, _, _, _, _ => none
 | k + 1, x3, x165000, x165001, x165002, x165003, x165004, x165005, x165006, x165007, x165008, x165009, x165010 => (addr_Bytes.f x165002).bind fun t186 => ((addr_Bytes.f x165003).bind fun t189 => ((ofmsg_four.f x165004).bind fun t192 => ((slices_Concat_byte_byte.f (([t186, t189, t192, x3] : List (List Int)))).bind fun t198 => (some t198))))
def ofmsg_inner.f (k : Nat) (a0_0 : Int) (a0_1 : Int) (a0_2 : Int) (a0_3 : Int) (a0_4 : Int) (a0_5 : Int) (a0_6 : Int) (l0_7 : List (S59)) (a0_8 : Int) (a0_9 : Bool) (l0_10 : List Int) : Option (List Int) := if a0_0 = 1 then ((ofmsg_ruled.f k a0_2 a0_3 a0_4 a0_5 a0_6 l0_7).bind fun t165 => (ofmsg_inner.j0 k t165 a0_0 a0_1 a0_2 a0_3 a0_4 a0_5 a0_6 l0_7 a0_8 a0_9 l0_10)) else (if a0_0 = 2 then (ofmsg_inner.j0 k ([] : List Int) a0_0 a0_1 a0_2 a0_3 a0_4 a0_5 a0_6 l0_7 a0_8 a0_9 l0_10) else (if a0_0 = 7 then (if a0_9 = true then (some (([(a0_8) % 256, 1] : List Int))) else (some (([(a0_8) % 256, 0] : List Int)))) else (if a0_0 = 8 then ((some (([(a0_8) % 256] : List Int) : List Int)).bind fun y174 => (if y174.length + l0_10.length < 140737488355328 then (some (y174 ++ l0_10)) else (none))) else (if a0_0 = 9 then ((some (([(a0_8) % 256] : List Int) : List Int)).bind fun y180 => (if y180.length + l0_10.length < 140737488355328 then (some (y180 ++ l0_10)) else (none))) else (some ([] : List Int))))))
theorem ofmsg_inner.mono_l : ∀ k, (∀ y0 y1 y2 y3 y4 y5 y6 y7 y8 y9 y10 y11, LeO (ofmsg_inner.j0 k y0 y1 y2 y3 y4 y5 y6 y7 y8 y9 y10 y11) (ofmsg_inner.j0 (k + 1) y0 y1 y2 y3 y4 y5 y6 y7 y8 y9 y10 y11))
 | 0 => fun _ _ _ _ _ _ _ _ _ _ _ _ r h => by simp [ofmsg_inner.j0] at h
 | k + 1 => by
  have ih0 := ofmsg_inner.mono_l k
  ·intro y0 y1 y2 y3 y4 y5 y6 y7 y8 y9 y10 y11
   unfold ofmsg_inner.j0
   repeat' first
   | (with_reducible exact ih0 _ _ _ _ _ _ _ _ _ _ _ _)
   | (with_reducible exact ofmsg_ruled.mono _ _ _ _ _ _ _)
   | (with_reducible exact LeO.refl _)
   | (with_reducible exact LeO.none _)
   | (with_reducible refine LeO.ite ?_ ?_)
   | (with_reducible refine LeO.bind ?_ (fun _ => ?_))
   | exact ih0 _ _ _ _ _ _ _ _ _ _ _ _
   | exact ofmsg_ruled.mono _ _ _ _ _ _ _
   | exact LeO.none _
   | refine LeO.ite ?_ ?_
   | refine LeO.bind ?_ (fun _ => ?_)
theorem ofmsg_inner.mono : ∀ a0 a1 a2 a3 a4 a5 a6 a7 a8 a9 a10 k, LeO (ofmsg_inner.f k a0 a1 a2 a3 a4 a5 a6 a7 a8 a9 a10) (ofmsg_inner.f (k + 1) a0 a1 a2 a3 a4 a5 a6 a7 a8 a9 a10) := by
 intro a0 a1 a2 a3 a4 a5 a6 a7 a8 a9 a10 k
 have ih0 := ofmsg_inner.mono_l k
 unfold ofmsg_inner.f
 repeat' first
   | (with_reducible exact ih0 _ _ _ _ _ _ _ _ _ _ _ _)
   | (with_reducible exact ofmsg_ruled.mono _ _ _ _ _ _ _)
   | (with_reducible exact LeO.refl _)
   | (with_reducible exact LeO.none _)
   | (with_reducible refine LeO.ite ?_ ?_)
   | (with_reducible refine LeO.bind ?_ (fun _ => ?_))
   | exact ih0 _ _ _ _ _ _ _ _ _ _ _ _
   | exact ofmsg_ruled.mono _ _ _ _ _ _ _
   | exact LeO.none _
   | refine LeO.ite ?_ ?_
   | refine LeO.bind ?_ (fun _ => ?_)
def ofmsg_inner.T9 : Bool × List (List Nat × List Nat) := (true, [([], []), ([0], [0]), ([1], [1]), ([2], [2]), ([], []), ([4], [4]), ([5], [5]), ([6, 3], [6]), ([], []), ([8], [8]), ([9], [9]), ([10, 7], [10]), ([], []), ([3, 7, 11, 12], [3, 7, 11, 12]), ([13, 11], [13]), ([14, 14, 0, 1, 2, 3, 4, 5, 6, 7, 8, 9, 10, 11, 12, 13, 14], [14])])
def ofmsg_inner.B9 : List Nat := [0, 1, 3, 7, 0, 16, 48, 127, 0, 256, 768, 2047, 0, 8191, 16383, 32767]
theorem ofmsg_inner.tab9 : rtab .any (opsOf Try.f24 9) = ofmsg_inner.T9 := by kernel_rfl
theorem ofmsg_inner.bits9 : waitsOk ofmsg_inner.T9.2 ofmsg_inner.B9 = true := by kernel_rfl
set_option maxHeartbeats 8000000 in
set_option maxRecDepth 100000 in
theorem ofmsg_inner.calls (k : Nat) (a0_0 : Int) (a0_1 : Int) (a0_2 : Int) (a0_3 : Int) (a0_4 : Int) (a0_5 : Int) (a0_6 : Int) (A0_7 : Option Addr) (c0_7 : Nat) (l0_7 : List (S59)) (a0_8 : Int) (a0_9 : Bool) (A0_10 : Option Addr) (c0_10 : Nat) (l0_10 : List Int) (r : List Int) (w : World) (hr0_7 : Kd.C k59 w A0_7 l0_7.length l0_7) (hc0_7 : l0_7.length ≤ c0_7) (hr0_10 : Kd.C (Kd.int .u8) w A0_10 l0_10.length l0_10) (hc0_10 : l0_10.length ≤ c0_10) (h : ofmsg_inner.f k a0_0 a0_1 a0_2 a0_3 a0_4 a0_5 a0_6 l0_7 a0_8 a0_9 l0_10 = some r) :
  Calls Try.prog 24 #[.agg #[.int .u8 a0_0, .int .u32 a0_1, .int .u32 a0_2, .int .u32 a0_3, .int .u32 a0_4, .int .i64 a0_5, .int .u32 a0_6, .slice A0_7 l0_7.length c0_7, .int .i64 a0_8, .bool a0_9, .slice A0_10 l0_10.length c0_10]] w fun e w' => ∃ v0_ : Value, e = .returned (v0_) ∧ Kd.R (Kd.int .u8) 5 w' w.heap.size (fun _ => True) v0_ r ∧ Below w.heap.size w w' := by
 have hu29 := Try.underlying29
 have hu26 := Try.underlying26
 have HR0_7 := m_ hr0_7
 have HC0_7 := m_ hc0_7
 clear hr0_7 hc0_7
 have HR0_10 := m_ hr0_10
 have HC0_10 := m_ hc0_10
 clear hr0_10 hc0_10
 have HB := m_ (Below.refl w.heap.size w)
 have H : (if a0_0 = 1 then ((ofmsg_ruled.f k a0_2 a0_3 a0_4 a0_5 a0_6 l0_7).bind fun t165 => (ofmsg_inner.j0 k t165 a0_0 a0_1 a0_2 a0_3 a0_4 a0_5 a0_6 l0_7 a0_8 a0_9 l0_10)) else (if a0_0 = 2 then (ofmsg_inner.j0 k ([] : List Int) a0_0 a0_1 a0_2 a0_3 a0_4 a0_5 a0_6 l0_7 a0_8 a0_9 l0_10) else (if a0_0 = 7 then (if a0_9 = true then (some (([(a0_8) % 256, 1] : List Int))) else (some (([(a0_8) % 256, 0] : List Int)))) else (if a0_0 = 8 then ((some (([(a0_8) % 256] : List Int) : List Int)).bind fun y174 => (if y174.length + l0_10.length < 140737488355328 then (some (y174 ++ l0_10)) else (none))) else (if a0_0 = 9 then ((some (([(a0_8) % 256] : List Int) : List Int)).bind fun y180 => (if y180.length + l0_10.length < 140737488355328 then (some (y180 ++ l0_10)) else (none))) else (some ([] : List Int))))))) = some r := h
 clear h
 have HC2 := m_ H
 clear H
 go_enter Try.func24, Try.ntmps24
 go_upto_block 2 with (first | ((with_reducible refine gate_dst (N := 1) rfl ?_); refine bx_ 1 29 #[.int .u8 a0_0, .int .u32 a0_1, .int .u32 a0_2, .int .u32 a0_3, .int .u32 a0_4, .int .i64 a0_5, .int .u32 a0_6, .slice A0_7 l0_7.length c0_7, .int .i64 a0_8, .bool a0_9, .slice A0_10 l0_10.length c0_10] ?_; intro gb164 hg w3 hbox hb; have BK164 := m_ (hbox); have GW164 := m_ ((gw_ : w.heap.size ≤ gb164)); have GE164 := m_ ((gw_ : w.heap.size ≤ gb164)); replace HB := m_ (below_step bz_ hb); clear hb hbox hg; have hcz4 := cz11_ BK164.out))
 (try simp only [Act.put, List.setIfInBounds_toArray, List.set_cons_zero, List.set_cons_succ])
 go_cut [3] (fun v3 wc => ∃ (kq : Nat) (x3_1 : List Int), Aside0 (ofmsg_inner.j0 kq x3_1 a0_0 a0_1 a0_2 a0_3 a0_4 a0_5 a0_6 l0_7 a0_8 a0_9 l0_10 = some r) ∧ Aside0 (kq ≤ k) ∧ Aside0 (Kd.R (Kd.int .u8) 5 wc w.heap.size (fun _ => True) v3 x3_1) ∧ Aside0 (wc.heap[gb164]? = some (.cells #[.int .u8 a0_0, .int .u32 a0_1, .int .u32 a0_2, .int .u32 a0_3, .int .u32 a0_4, .int .i64 a0_5, .int .u32 a0_6, (.slice A0_7 l0_7.length c0_7), .int .i64 a0_8, .bool a0_9, (.slice A0_10 l0_10.length c0_10)] 29 (0, 0))) ∧ Aside0 (Below w.heap.size w wc))
 case first =>
  have H := HC2.out
  clear HC2
  by_cases c5 : a0_0 = 1
  ·rw [if_pos c5] at H
   have c5b0 : (a0_0 == 1) = true := beq_iff_eq.mpr c5
   have c5b1 : (a0_0 != 1) = false := bne_eq_false_iff_eq.mpr c5
   clear c5
   (first | rw [c5b0] | (simp only [i64_w, i32_w]; rw [c5b0]) | skip)
   replace H := Option.bind_eq_some_iff.mp H
   obtain ⟨t165, A60, H⟩ := H
   replace H : (ofmsg_inner.j0 k t165 a0_0 a0_1 a0_2 a0_3 a0_4 a0_5 a0_6 l0_7 a0_8 a0_9 l0_10) = some r := H
   have A6 := m_ A60
   clear A60
   have H' := m_ H
   clear H
   have hcz7 := cz11_ BK164.out
   go_wp2_with (first | ((with_reducible refine gate_callee (f := 40) rfl ?_); refine gL_ (some 18) Try.func40 #[.agg #[.int .u32 a0_2, .int .u32 a0_3, .int .u32 a0_4, .int .i64 a0_5, .int .u32 a0_6, .slice A0_7 l0_7.length c0_7]] ?_; (with_reducible refine (ofmsg_ruled.calls k a0_2 a0_3 a0_4 a0_5 a0_6 _ _ l0_7 t165 _ ?side1 ?side2 A6.out).mono ?_); (case side1 => exact Cd_ (Kd.C_below HR0_7.out HB.out)); (case side2 => exact HC0_7.out); rintro e w8 ⟨v166, rfl, ho0, hb⟩; refine ⟨_, rfl, ?_⟩; have HO167 := m_ (Kd.R_lower ho0 (below_size bz_)); replace BK164 := m_ (kl_ gb164 hb); replace HB := m_ (below_step bz_ hb); (try clear hb); (try clear hb2); (try clear hk); (try clear hi); (try clear ho0)))
   go_meet
   case rel => exact ⟨_, (t165), H', ⟨by first | omega | exact Nat.le_refl _⟩, ⟨Rz_ HO167.out⟩, ⟨kz_⟩, ⟨bz_⟩⟩
  ·rw [if_neg c5] at H
   have c5b0 : (a0_0 == 1) = false := beq_eq_false_iff_ne.mpr c5
   have c5b1 : (a0_0 != 1) = true := bne_iff_ne.mpr c5
   (first | rw [c5b0] | (simp only [i64_w, i32_w]; rw [c5b0]) | skip)
   by_cases c9 : a0_0 = 2
   ·rw [if_pos c9] at H
    have c9b0 : (a0_0 == 2) = true := beq_iff_eq.mpr c9
    have c9b1 : (a0_0 != 2) = false := bne_eq_false_iff_eq.mpr c9
    clear c9
    have H' := m_ H
    clear H
    go_wp2
    go_meet
    case rel => exact ⟨_, (([] : List Int)), H', ⟨by first | omega | exact Nat.le_refl _⟩, ⟨by first | exact Kd.R_nil _ _ _ _ _ | exact Kd.N_nil _ _ _ _ _ | exact Kd.V_nil _ _ _ _ _ | exact Kd.Q_nil _ _ _ _ _ | exact Kd.S_nil _ _ _ _ _⟩, ⟨kz_⟩, ⟨bz_⟩⟩
   ·rw [if_neg c9] at H
    have c9b0 : (a0_0 == 2) = false := beq_eq_false_iff_ne.mpr c9
    have c9b1 : (a0_0 != 2) = true := bne_iff_ne.mpr c9
    by_cases c10 : a0_0 = 7
    ·rw [if_pos c10] at H
     have c10b0 : (a0_0 == 7) = true := beq_iff_eq.mpr c10
     have c10b1 : (a0_0 != 7) = false := bne_eq_false_iff_eq.mpr c10
     clear c10
     by_cases c11 : a0_9 = true
     ·subst c11
      have H1 : (some (([(a0_8) % 256, 1] : List Int))) = some r := by rw [if_pos rfl] at H; exact H
      clear H
      have H := H1
      clear H1
      obtain ⟨y168, hy168⟩ : ∃ y_ : List Int, y_ = (([(a0_8) % 256, 1] : List Int)) := ⟨_, rfl⟩
      replace H : (some y168) = some r := by first | (rw [hy168]; with_reducible exact H) | (have H2_ := (Option.bind_some _ _).symm.trans H; rw [hy168]; with_reducible exact H2_) | (have H2_ := (Option.bind_some _ _).symm.trans H; with_reducible exact H2_) | with_reducible exact H | (rw [hy168]; exact H) | exact H
      have Ny168 := m_ hy168
      clear hy168
      obtain rfl := Option.some.inj H
      have hcz12 := cz11_ BK164.out
      go_wp2_with (first | ((with_reducible refine gate_dst (N := 40) rfl ?_); refine Kd.R_lit (Kd.int .u8) _ 5 ?hg (N := 40) ?hd (xs := ([(a0_8) % 256, 1] : List Int)) (inner := [.int .u8 ((a0_8) % 256), .int .u8 1]) (ok := fun _ => True) (okp := fun _ => True) ?hr ?hp (fun _ hk => hk) trivial (Below.refl _ _) (Nat.le_refl _) (by simp) ?_; (case hd => rfl); (case hg => rfl); (case hr => first | (go_simp; done) | (go_simp; rfl)); (case hp => exact (Reps.one (show Kd.M (Kd.int .u8) _ _ _ ((a0_8) % 256) [.int .u8 ((a0_8) % 256)] from rfl) (Reps.one (show Kd.M (Kd.int .u8) _ _ _ 1 [.int .u8 1] from rfl) (Reps.none _ _)))); intro v169 w13 ho14 hb hg_ hnew_; clear hg_ hnew_; (first | rw [← Ny168.out] at ho14 | (simp only [Int.reduceToNat] at ho14; rw [← Ny168.out] at ho14)); have HO170 := m_ (Kd.R_lower ho14 (below_size bz_)); replace BK164 := m_ (kl_ gb164 hb); replace HB := m_ (below_step bz_ hb); clear hb ho14))
      go_ret
      exact ⟨_, ew_, (Rz_ HO170.out), bz_⟩
     ·replace c11 := Bool.eq_false_iff.mpr c11
      subst c11
      have H1 : (some (([(a0_8) % 256, 0] : List Int))) = some r := by rw [if_neg (show ¬ (false = true) by decide)] at H; exact H
      clear H
      have H := H1
      clear H1
      obtain ⟨y171, hy171⟩ : ∃ y_ : List Int, y_ = (([(a0_8) % 256, 0] : List Int)) := ⟨_, rfl⟩
      replace H : (some y171) = some r := by first | (rw [hy171]; with_reducible exact H) | (have H2_ := (Option.bind_some _ _).symm.trans H; rw [hy171]; with_reducible exact H2_) | (have H2_ := (Option.bind_some _ _).symm.trans H; with_reducible exact H2_) | with_reducible exact H | (rw [hy171]; exact H) | exact H
      have Ny171 := m_ hy171
      clear hy171
      obtain rfl := Option.some.inj H
      have hcz15 := cz11_ BK164.out
      go_wp2_with (first | ((with_reducible refine gate_dst (N := 40) rfl ?_); refine Kd.R_lit (Kd.int .u8) _ 5 ?hg (N := 40) ?hd (xs := ([(a0_8) % 256, 0] : List Int)) (inner := [.int .u8 ((a0_8) % 256), .int .u8 0]) (ok := fun _ => True) (okp := fun _ => True) ?hr ?hp (fun _ hk => hk) trivial (Below.refl _ _) (Nat.le_refl _) (by simp) ?_; (case hd => rfl); (case hg => rfl); (case hr => first | (go_simp; done) | (go_simp; rfl)); (case hp => exact (Reps.one (show Kd.M (Kd.int .u8) _ _ _ ((a0_8) % 256) [.int .u8 ((a0_8) % 256)] from rfl) (Reps.one (show Kd.M (Kd.int .u8) _ _ _ 0 [.int .u8 0] from rfl) (Reps.none _ _)))); intro v172 w16 ho17 hb hg_ hnew_; clear hg_ hnew_; (first | rw [← Ny171.out] at ho17 | (simp only [Int.reduceToNat] at ho17; rw [← Ny171.out] at ho17)); have HO173 := m_ (Kd.R_lower ho17 (below_size bz_)); replace BK164 := m_ (kl_ gb164 hb); replace HB := m_ (below_step bz_ hb); clear hb ho17))
      go_ret
      exact ⟨_, ew_, (Rz_ HO173.out), bz_⟩
    ·rw [if_neg c10] at H
     have c10b0 : (a0_0 == 7) = false := beq_eq_false_iff_ne.mpr c10
     have c10b1 : (a0_0 != 7) = true := bne_iff_ne.mpr c10
     by_cases c18 : a0_0 = 8
     ·rw [if_pos c18] at H
      have c18b0 : (a0_0 == 8) = true := beq_iff_eq.mpr c18
      have c18b1 : (a0_0 != 8) = false := bne_eq_false_iff_eq.mpr c18
      clear c18
      obtain ⟨y174, hy174⟩ : ∃ y_ : List Int, y_ = (([(a0_8) % 256] : List Int)) := ⟨_, rfl⟩
      replace H : (if y174.length + l0_10.length < 140737488355328 then (some (y174 ++ l0_10)) else (none)) = some r := by first | (rw [hy174]; with_reducible exact H) | (have H2_ := (Option.bind_some _ _).symm.trans H; rw [hy174]; with_reducible exact H2_) | (have H2_ := (Option.bind_some _ _).symm.trans H; with_reducible exact H2_) | with_reducible exact H | (rw [hy174]; exact H) | exact H
      have Ny174 := m_ hy174
      clear hy174
      by_cases c19 : y174.length + l0_10.length < 140737488355328
      ·rw [if_pos c19] at H
       have LMc19 := m_ c19
       clear c19
       obtain ⟨y177, hy177⟩ : ∃ y_ : List Int, y_ = (y174 ++ l0_10) := ⟨_, rfl⟩
       replace H : (some y177) = some r := by first | (rw [hy177]; with_reducible exact H) | (have H2_ := (Option.bind_some _ _).symm.trans H; rw [hy177]; with_reducible exact H2_) | (have H2_ := (Option.bind_some _ _).symm.trans H; with_reducible exact H2_) | with_reducible exact H | (rw [hy177]; exact H) | exact H
       have Ny177 := m_ hy177
       clear hy177
       obtain rfl := Option.some.inj H
       have hcz20 := cz11_ BK164.out
       go_wp2_with (first | ((with_reducible refine gate_dst (N := 44) rfl ?_); refine Kd.R_lit (Kd.int .u8) _ 5 ?hg (N := 44) ?hd (xs := ([(a0_8) % 256] : List Int)) (inner := [.int .u8 ((a0_8) % 256)]) (ok := fun _ => True) (okp := fun _ => True) ?hr ?hp (fun _ hk => hk) trivial (Below.refl _ _) (Nat.le_refl _) (by simp) ?_; (case hd => rfl); (case hg => rfl); (case hr => first | (go_simp; done) | (go_simp; rfl)); (case hp => exact (Reps.one (show Kd.M (Kd.int .u8) _ _ _ ((a0_8) % 256) [.int .u8 ((a0_8) % 256)] from rfl) (Reps.none _ _))); intro v175 w21 ho22 hb hg_ hnew_; clear hg_ hnew_; (first | rw [← Ny174.out] at ho22 | (simp only [Int.reduceToNat] at ho22; rw [← Ny174.out] at ho22)); have HO176 := m_ (Kd.R_lower ho22 (below_size bz_)); replace BK164 := m_ (kl_ gb164 hb); replace HB := m_ (below_step bz_ hb); clear hb ho22; have hcz23 := cz11_ BK164.out) | ((with_reducible refine gate_builtin (b := .append) (xs := #[.tmp 44, .tmp 46]) rfl ?_); at_builtin; refine Kd.R_append_rows (Kd.int .u8) (w0 := w) w.heap.size rfl (.tmp 44) (.tmp 46) 27 5 (.int .u8 0) 1 rfl Try.underlying27 info5 rfl (by decide) (by omega) v175 y174 l0_10 _ _ _ (fun _ => True) (fun _ => False) rfl rfl ?aO ?aR (fun _ _ h => h) (fun _ h => h.elim) ?aF ?aB ?aS ?aL ?_; (case aR => exact Cd_ (Kd.C_below HR0_10.out HB.out)); (case aB => exact bz_); (case aF => exact (fun _ _ => trivial)); (case aO => exact (Rz_ HO176.out)); (case aS => exact (below_size bz_)); (case aL => have := LMc19.out; omega); intro v178 w24 ho hb hg hat; rw [← Ny177.out] at ho; have HO179 := m_ (ho); replace BK164 := m_ (blk_grown (g := gb164) (o := .cells #[.int .u8 a0_0, .int .u32 a0_1, .int .u32 a0_2, .int .u32 a0_3, .int .u32 a0_4, .int .i64 a0_5, .int .u32 a0_6, .slice A0_7 l0_7.length c0_7, .int .i64 a0_8, .bool a0_9, .slice A0_10 l0_10.length c0_10] 29 (0, 0)) kz_ hg (Kd.R_ne HO176.out BK164.out (by decide))); replace HB := m_ (hb); clear HO176 ho hb hg hat))
       go_ret
       exact ⟨_, ew_, (Rz_ HO179.out), bz_⟩
      ·rw [if_neg c19] at H
       exact absurd H (by simp)
     ·rw [if_neg c18] at H
      have c18b0 : (a0_0 == 8) = false := beq_eq_false_iff_ne.mpr c18
      have c18b1 : (a0_0 != 8) = true := bne_iff_ne.mpr c18
      by_cases c25 : a0_0 = 9
      ·rw [if_pos c25] at H
       have c25b0 : (a0_0 == 9) = true := beq_iff_eq.mpr c25
       have c25b1 : (a0_0 != 9) = false := bne_eq_false_iff_eq.mpr c25
       clear c25
       obtain ⟨y180, hy180⟩ : ∃ y_ : List Int, y_ = (([(a0_8) % 256] : List Int)) := ⟨_, rfl⟩
       replace H : (if y180.length + l0_10.length < 140737488355328 then (some (y180 ++ l0_10)) else (none)) = some r := by first | (rw [hy180]; with_reducible exact H) | (have H2_ := (Option.bind_some _ _).symm.trans H; rw [hy180]; with_reducible exact H2_) | (have H2_ := (Option.bind_some _ _).symm.trans H; with_reducible exact H2_) | with_reducible exact H | (rw [hy180]; exact H) | exact H
       have Ny180 := m_ hy180
       clear hy180
       by_cases c26 : y180.length + l0_10.length < 140737488355328
       ·rw [if_pos c26] at H
        have LMc26 := m_ c26
        clear c26
        obtain ⟨y183, hy183⟩ : ∃ y_ : List Int, y_ = (y180 ++ l0_10) := ⟨_, rfl⟩
        replace H : (some y183) = some r := by first | (rw [hy183]; with_reducible exact H) | (have H2_ := (Option.bind_some _ _).symm.trans H; rw [hy183]; with_reducible exact H2_) | (have H2_ := (Option.bind_some _ _).symm.trans H; with_reducible exact H2_) | with_reducible exact H | (rw [hy183]; exact H) | exact H
        have Ny183 := m_ hy183
        clear hy183
        obtain rfl := Option.some.inj H
        have hcz27 := cz11_ BK164.out
        go_wp2_with (first | ((with_reducible refine gate_dst (N := 44) rfl ?_); refine Kd.R_lit (Kd.int .u8) _ 5 ?hg (N := 44) ?hd (xs := ([(a0_8) % 256] : List Int)) (inner := [.int .u8 ((a0_8) % 256)]) (ok := fun _ => True) (okp := fun _ => True) ?hr ?hp (fun _ hk => hk) trivial (Below.refl _ _) (Nat.le_refl _) (by simp) ?_; (case hd => rfl); (case hg => rfl); (case hr => first | (go_simp; done) | (go_simp; rfl)); (case hp => exact (Reps.one (show Kd.M (Kd.int .u8) _ _ _ ((a0_8) % 256) [.int .u8 ((a0_8) % 256)] from rfl) (Reps.none _ _))); intro v181 w28 ho29 hb hg_ hnew_; clear hg_ hnew_; (first | rw [← Ny180.out] at ho29 | (simp only [Int.reduceToNat] at ho29; rw [← Ny180.out] at ho29)); have HO182 := m_ (Kd.R_lower ho29 (below_size bz_)); replace BK164 := m_ (kl_ gb164 hb); replace HB := m_ (below_step bz_ hb); clear hb ho29; have hcz30 := cz11_ BK164.out) | ((with_reducible refine gate_builtin (b := .append) (xs := #[.tmp 44, .tmp 46]) rfl ?_); at_builtin; refine Kd.R_append_rows (Kd.int .u8) (w0 := w) w.heap.size rfl (.tmp 44) (.tmp 46) 27 5 (.int .u8 0) 1 rfl Try.underlying27 info5 rfl (by decide) (by omega) v181 y180 l0_10 _ _ _ (fun _ => True) (fun _ => False) rfl rfl ?aO ?aR (fun _ _ h => h) (fun _ h => h.elim) ?aF ?aB ?aS ?aL ?_; (case aR => exact Cd_ (Kd.C_below HR0_10.out HB.out)); (case aB => exact bz_); (case aF => exact (fun _ _ => trivial)); (case aO => exact (Rz_ HO182.out)); (case aS => exact (below_size bz_)); (case aL => have := LMc26.out; omega); intro v184 w31 ho hb hg hat; rw [← Ny183.out] at ho; have HO185 := m_ (ho); replace BK164 := m_ (blk_grown (g := gb164) (o := .cells #[.int .u8 a0_0, .int .u32 a0_1, .int .u32 a0_2, .int .u32 a0_3, .int .u32 a0_4, .int .i64 a0_5, .int .u32 a0_6, .slice A0_7 l0_7.length c0_7, .int .i64 a0_8, .bool a0_9, .slice A0_10 l0_10.length c0_10] 29 (0, 0)) kz_ hg (Kd.R_ne HO182.out BK164.out (by decide))); replace HB := m_ (hb); clear HO182 ho hb hg hat))
        go_ret
        exact ⟨_, ew_, (Rz_ HO185.out), bz_⟩
       ·rw [if_neg c26] at H
        exact absurd H (by simp)
      ·rw [if_neg c25] at H
       have c25b0 : (a0_0 == 9) = false := beq_eq_false_iff_ne.mpr c25
       have c25b1 : (a0_0 != 9) = true := bne_iff_ne.mpr c25
       obtain rfl := Option.some.inj H
       go_wp2
       go_ret
       exact ⟨_, ew_, (by first | exact Kd.R_nil _ _ _ _ _ | exact Kd.N_nil _ _ _ _ _ | exact Kd.V_nil _ _ _ _ _ | exact Kd.Q_nil _ _ _ _ _ | exact Kd.S_nil _ _ _ _ _), bz_⟩
 case rest =>
  clear HC2
  try clear c1
  try clear c2
  try clear p2
  try clear c4
  try clear c5
  try clear c5b0
  try clear c5b1
  try clear c9
  try clear c9b0
  try clear c9b1
  try clear c10
  try clear c10b0
  try clear c10b1
  try clear c11
  try clear c18
  try clear c18b0
  try clear c18b1
  try clear c19
  try clear c24
  try clear c25
  try clear c25b0
  try clear c25b1
  try clear c26
  (try clear hcz12)
  (try clear hcz15)
  (try clear hcz20)
  (try clear hcz23)
  (try clear hcz27)
  (try clear hcz30)
  (try clear hcz4)
  (try clear hcz7)
  obtain ⟨kq, x3_1, HA, HJ1, HO_3, BK164, HB⟩ := hcut
  cases kq with
  | zero => exact absurd HA.out (by simp [ofmsg_inner.j0])
  | succ kj1 =>
   have H := HA.out
   clear HA
   simp only [ofmsg_inner.j0] at H
   replace H := Option.bind_eq_some_iff.mp H
   obtain ⟨t186, A320, H⟩ := H
   replace H : ((addr_Bytes.f a0_3).bind fun t189 => ((ofmsg_four.f a0_4).bind fun t192 => ((slices_Concat_byte_byte.f (([t186, t189, t192, x3_1] : List (List Int)))).bind fun t198 => (some t198)))) = some r := H
   have A32 := m_ A320
   clear A320
   replace H := Option.bind_eq_some_iff.mp H
   obtain ⟨t189, A330, H⟩ := H
   replace H : ((ofmsg_four.f a0_4).bind fun t192 => ((slices_Concat_byte_byte.f (([t186, t189, t192, x3_1] : List (List Int)))).bind fun t198 => (some t198))) = some r := H
   have A33 := m_ A330
   clear A330
   replace H := Option.bind_eq_some_iff.mp H
   obtain ⟨t192, A340, H⟩ := H
   replace H : ((slices_Concat_byte_byte.f (([t186, t189, t192, x3_1] : List (List Int)))).bind fun t198 => (some t198)) = some r := H
   have A34 := m_ A340
   clear A340
   obtain ⟨y195, hy195⟩ : ∃ y_ : List (List Int), y_ = (([t186, t189, t192, x3_1] : List (List Int))) := ⟨_, rfl⟩
   replace H : ((slices_Concat_byte_byte.f y195).bind fun t198 => (some t198)) = some r := by first | (rw [hy195]; with_reducible exact H) | (have H2_ := (Option.bind_some _ _).symm.trans H; rw [hy195]; with_reducible exact H2_) | (have H2_ := (Option.bind_some _ _).symm.trans H; with_reducible exact H2_) | with_reducible exact H | (rw [hy195]; exact H) | exact H
   have Ny195 := m_ hy195
   clear hy195
   replace H := Option.bind_eq_some_iff.mp H
   obtain ⟨t198, A350, H⟩ := H
   replace H : (some t198) = some r := H
   have A35 := m_ A350
   clear A350
   obtain rfl := Option.some.inj H
   try go_wp2
   replace HO_3 := m_ (Kd.R_drew HO_3.out)
   replace BK164 := m_ (blk_drew BK164.out)
   replace HB := m_ (below_drew1 HB.out)
   refine start_ (n := 16) (S := fun w' => w'.cell? ⟨gb164, 0, none⟩ = some (.int .u8 a0_0) ∧ w'.cell? ⟨gb164, 1, none⟩ = some (.int .u32 a0_1) ∧ w'.cell? ⟨gb164, 2, none⟩ = some (.int .u32 a0_2) ∧ w'.cell? ⟨gb164, 3, none⟩ = some (.int .u32 a0_3) ∧ w'.cell? ⟨gb164, 4, none⟩ = some (.int .u32 a0_4) ∧ w'.cell? ⟨gb164, 5, none⟩ = some (.int .i64 a0_5) ∧ w'.cell? ⟨gb164, 6, none⟩ = some (.int .u32 a0_6) ∧ w'.cell? ⟨gb164, 7, none⟩ = some (.slice A0_7 l0_7.length c0_7) ∧ w'.cell? ⟨gb164, 8, none⟩ = some (.int .i64 a0_8) ∧ w'.cell? ⟨gb164, 9, none⟩ = some (.bool a0_9) ∧ w'.cell? ⟨gb164, 10, none⟩ = some (.slice A0_10 l0_10.length c0_10)) (ds := []) (bs_ 16 0) (by kernel_rfl) rfl rfl ⟨(blk_cell BK164.out 0).trans rfl, (blk_cell BK164.out 1).trans rfl, (blk_cell BK164.out 2).trans rfl, (blk_cell BK164.out 3).trans rfl, (blk_cell BK164.out 4).trans rfl, (blk_cell BK164.out 5).trans rfl, (blk_cell BK164.out 6).trans rfl, (blk_cell BK164.out 7).trans rfl, (blk_cell BK164.out 8).trans rfl, (blk_cell BK164.out 9).trans rfl, (blk_cell BK164.out 10).trans rfl⟩ (fun hHeld => ?_); refine with_tabW ofmsg_inner.tab9 ofmsg_inner.bits9 (fun HT_ HW_ => ?_)
   generalize wc.drew = w36 at HO_3 BK164 HB hHeld ⊢
   refine pz_ 0 19 ?_
   refine pz_ 1 20 ?_
   refine pz_ 4 23 ?_
   refine pz_ 5 24 ?_
   refine pz_ 8 27 ?_
   refine pz_ 9 28 ?_
   refine pz_ 12 31 ?_
   refine tz_ 2 21 ?_
   refine tz_ 6 25 ?_
   refine tz_ 10 29 ?_
   refine oz_ 3 (some 22) (fun K hK => ?_)
   refine gz_ Try.func41 #[.int .u32 a0_2] ?_
   with_reducible refine (addr_Bytes.calls a0_2 t186 _ A32.out).mono ?_
   rintro e w37 ⟨v187, rfl, ho0, hb⟩
   refine ⟨_, rfl, ?_⟩
   have HO188 := m_ (Kd.R_lower (Kd.R_new' ho0 (Kd.R_lt (Rz_ HO_3.out))) (below_size bz_))
   replace HO_3 := m_ (Kd.R_elder' (Rz_ HO_3.out) (Kd.R_base ho0) hb)
   replace BK164 := m_ (kl_ gb164 hb)
   replace HB := m_ (below_step bz_ hb)
   (try clear hb)
   (try clear hb2)
   (try clear hk)
   (try clear hi)
   (try clear ho0)
   refine hK.out _ _ ⟨(blk_cell BK164.out 0).trans rfl, (blk_cell BK164.out 1).trans rfl, (blk_cell BK164.out 2).trans rfl, (blk_cell BK164.out 3).trans rfl, (blk_cell BK164.out 4).trans rfl, (blk_cell BK164.out 5).trans rfl, (blk_cell BK164.out 6).trans rfl, (blk_cell BK164.out 7).trans rfl, (blk_cell BK164.out 8).trans rfl, (blk_cell BK164.out 9).trans rfl, (blk_cell BK164.out 10).trans rfl⟩ (fun hHeld => ?_)
   clear hK K
   refine nz_ (some 22) ?_
   refine oz_ 7 (some 26) (fun K hK => ?_)
   refine gz_ Try.func41 #[.int .u32 a0_3] ?_
   with_reducible refine (addr_Bytes.calls a0_3 t189 _ A33.out).mono ?_
   rintro e w38 ⟨v190, rfl, ho0, hb⟩
   refine ⟨_, rfl, ?_⟩
   have HO191 := m_ (Kd.R_lower (Kd.R_new' (Kd.R_new' ho0 (Kd.R_lt (Rz_ HO_3.out))) (Kd.R_lt (Rz_ HO188.out))) (below_size bz_))
   replace HO_3 := m_ (Kd.R_elder' (Rz_ HO_3.out) (Kd.R_base ho0) hb)
   replace HO188 := m_ (Kd.R_elder' (Rz_ HO188.out) (Kd.R_base ho0) hb)
   replace BK164 := m_ (kl_ gb164 hb)
   replace HB := m_ (below_step bz_ hb)
   (try clear hb)
   (try clear hb2)
   (try clear hk)
   (try clear hi)
   (try clear ho0)
   refine hK.out _ _ ⟨(blk_cell BK164.out 0).trans rfl, (blk_cell BK164.out 1).trans rfl, (blk_cell BK164.out 2).trans rfl, (blk_cell BK164.out 3).trans rfl, (blk_cell BK164.out 4).trans rfl, (blk_cell BK164.out 5).trans rfl, (blk_cell BK164.out 6).trans rfl, (blk_cell BK164.out 7).trans rfl, (blk_cell BK164.out 8).trans rfl, (blk_cell BK164.out 9).trans rfl, (blk_cell BK164.out 10).trans rfl⟩ (fun hHeld => ?_)
   clear hK K
   refine nz_ (some 26) ?_
   refine oz_ 11 (some 30) (fun K hK => ?_)
   refine gz_ Try.func27 #[.int .u32 a0_4] ?_
   with_reducible refine (ofmsg_four.calls a0_4 t192 _ A34.out).mono ?_
   rintro e w39 ⟨v193, rfl, ho0, hb⟩
   refine ⟨_, rfl, ?_⟩
   have HO194 := m_ (Kd.R_lower (Kd.R_new' (Kd.R_new' (Kd.R_new' ho0 (Kd.R_lt (Rz_ HO_3.out))) (Kd.R_lt (Rz_ HO188.out))) (Kd.R_lt (Rz_ HO191.out))) (below_size bz_))
   replace HO_3 := m_ (Kd.R_elder' (Rz_ HO_3.out) (Kd.R_base ho0) hb)
   replace HO188 := m_ (Kd.R_elder' (Rz_ HO188.out) (Kd.R_base ho0) hb)
   replace HO191 := m_ (Kd.R_elder' (Rz_ HO191.out) (Kd.R_base ho0) hb)
   replace BK164 := m_ (kl_ gb164 hb)
   replace HB := m_ (below_step bz_ hb)
   (try clear hb)
   (try clear hb2)
   (try clear hk)
   (try clear hi)
   (try clear ho0)
   obtain ⟨Ao40, co40, eo40⟩ := Kd.R_slice HO188.out
   (first | subst eo40 | (injection eo40 with f1_ f2_ f3_; have f4_ := f1_.symm; have f5_ := f3_.symm; clear f1_ f2_ f3_; subst f4_; subst f5_))
   obtain ⟨Ao41, co41, eo41⟩ := Kd.R_slice HO191.out
   (first | subst eo41 | (injection eo41 with f1_ f2_ f3_; have f4_ := f1_.symm; have f5_ := f3_.symm; clear f1_ f2_ f3_; subst f4_; subst f5_))
   obtain ⟨Ao42, co42, eo42⟩ := Kd.R_slice HO194.out
   (first | subst eo42 | (injection eo42 with f1_ f2_ f3_; have f4_ := f1_.symm; have f5_ := f3_.symm; clear f1_ f2_ f3_; subst f4_; subst f5_))
   obtain ⟨Ao43, co43, eo43⟩ := Kd.R_slice HO_3.out
   (first | subst eo43 | (injection eo43 with f1_ f2_ f3_; have f4_ := f1_.symm; have f5_ := f3_.symm; clear f1_ f2_ f3_; subst f4_; subst f5_))
   refine hK.out _ _ ⟨(blk_cell BK164.out 0).trans rfl, (blk_cell BK164.out 1).trans rfl, (blk_cell BK164.out 2).trans rfl, (blk_cell BK164.out 3).trans rfl, (blk_cell BK164.out 4).trans rfl, (blk_cell BK164.out 5).trans rfl, (blk_cell BK164.out 6).trans rfl, (blk_cell BK164.out 7).trans rfl, (blk_cell BK164.out 8).trans rfl, (blk_cell BK164.out 9).trans rfl, (blk_cell BK164.out 10).trans rfl⟩ (fun hHeld => ?_)
   clear hK K
   refine nz_ (some 30) ?_
   refine oz_ 13 (some 32) (fun K hK => ?_)
   refine Kd.N_lit_step (Kd.slice 5 (Kd.int .u8)) _ 27 ?hg (N' := 32) ?hd (xs := ([t186, t189, t192, x3_1] : List (List Int))) (inner := [.slice Ao40 t186.length co40, .slice Ao41 t189.length co41, .slice Ao42 t192.length co42, .slice Ao43 x3_1.length co43]) (ok := (fun k_ => k_ ≠ gb164)) (okp := (fun k_ => k_ ≠ gb164)) ?hr ?hp (fun _ hk => hk) ((show ∀ k_, w39.heap.size ≤ k_ → (fun k_ => k_ ≠ gb164) k_ from fun k_ hk => Kd.freshB (g := gb164) (o := .cells #[.int .u8 a0_0, .int .u32 a0_1, .int .u32 a0_2, .int .u32 a0_3, .int .u32 a0_4, .int .i64 a0_5, .int .u32 a0_6, .slice A0_7 l0_7.length c0_7, .int .i64 a0_8, .bool a0_9, .slice A0_10 l0_10.length c0_10] 29 (0, 0)) kz_ k_ hk) _ (Nat.le_refl _)) (Below.refl _ _) (Nat.le_refl _) (by simp) ?_; (case hd => rfl); (case hg => rfl); (case hr => first | (go_simp; done) | (go_simp; rfl)); (case hp => exact (Reps.one (show Kd.FK (Kd.slice 5 (Kd.int .u8)) _ _ t186 [.slice Ao40 t186.length co40] from (Kd.FK_slice_mk (Kd.R_reads' (Kd.R_mono (ok' := (fun k_ => k_ ≠ gb164)) (Kd.R_types (HO188.out) BK164.out (by decide)) (fun k_ hk => hk.2))).2.1 (Kd.R_F (Kd.R_mono (ok' := (fun k_ => k_ ≠ gb164)) (Kd.R_types (HO188.out) BK164.out (by decide)) (fun k_ hk => hk.2))))) (Reps.one (show Kd.FK (Kd.slice 5 (Kd.int .u8)) _ _ t189 [.slice Ao41 t189.length co41] from (Kd.FK_slice_mk (Kd.R_reads' (Kd.R_mono (ok' := (fun k_ => k_ ≠ gb164)) (Kd.R_types (HO191.out) BK164.out (by decide)) (fun k_ hk => hk.2))).2.1 (Kd.R_F (Kd.R_mono (ok' := (fun k_ => k_ ≠ gb164)) (Kd.R_types (HO191.out) BK164.out (by decide)) (fun k_ hk => hk.2))))) (Reps.one (show Kd.FK (Kd.slice 5 (Kd.int .u8)) _ _ t192 [.slice Ao42 t192.length co42] from (Kd.FK_slice_mk (Kd.R_reads' (Kd.R_mono (ok' := (fun k_ => k_ ≠ gb164)) (Kd.R_types (HO194.out) BK164.out (by decide)) (fun k_ hk => hk.2))).2.1 (Kd.R_F (Kd.R_mono (ok' := (fun k_ => k_ ≠ gb164)) (Kd.R_types (HO194.out) BK164.out (by decide)) (fun k_ hk => hk.2))))) (Reps.one (show Kd.FK (Kd.slice 5 (Kd.int .u8)) _ _ x3_1 [.slice Ao43 x3_1.length co43] from (Kd.FK_slice_mk (Kd.R_reads' (Kd.R_mono (ok' := (fun k_ => k_ ≠ gb164)) (Kd.R_types (HO_3.out) BK164.out (by decide)) (fun k_ hk => hk.2))).2.1 (Kd.R_F (Kd.R_mono (ok' := (fun k_ => k_ ≠ gb164)) (Kd.R_types (HO_3.out) BK164.out (by decide)) (fun k_ hk => hk.2))))) (Reps.none _ _))))))
   intro v196 w44 ho45 hb hg_ hnew_
   clear hg_ hnew_
   (first | rw [← Ny195.out] at ho45 | (simp only [Int.reduceToNat] at ho45; rw [← Ny195.out] at ho45))
   have HO197 := m_ (Kd.N_lower ho45 (below_size bz_))
   replace BK164 := m_ (kl_ gb164 hb)
   replace HB := m_ (below_step bz_ hb)
   clear HO188 HO191 HO194 HO_3 hb ho45
   obtain ⟨Ao46, co46, eo46⟩ := Kd.N_slice HO197.out
   (first | subst eo46 | (injection eo46 with f1_ f2_ f3_; have f4_ := f1_.symm; have f5_ := f3_.symm; clear f1_ f2_ f3_; subst f4_; subst f5_))
   refine hK.out _ _ ⟨(blk_cell BK164.out 0).trans rfl, (blk_cell BK164.out 1).trans rfl, (blk_cell BK164.out 2).trans rfl, (blk_cell BK164.out 3).trans rfl, (blk_cell BK164.out 4).trans rfl, (blk_cell BK164.out 5).trans rfl, (blk_cell BK164.out 6).trans rfl, (blk_cell BK164.out 7).trans rfl, (blk_cell BK164.out 8).trans rfl, (blk_cell BK164.out 9).trans rfl, (blk_cell BK164.out 10).trans rfl⟩ (fun hHeld => ?_)
   clear hK K
   refine nz_ (some 32) ?_
   refine oz_ 14 (some 33) (fun K hK => ?_)
   refine gz_ Try.func25 #[.slice Ao46 y195.length co46] ?_
   with_reducible refine (slices_Concat_byte_byte.calls _ _ y195 t198 _ ?side1 ?side2 A35.out).mono ?_
   (case side1 => exact Cd_ (Kd.N_reads' HO197.out).2.2)
   (case side2 => exact (Kd.N_reads' HO197.out).2.1)
   rintro e w47 ⟨v199, rfl, ho0, hb⟩
   refine ⟨_, rfl, ?_⟩
   have HO200 := m_ (Kd.R_lower ho0 (below_size bz_))
   replace HO197 := m_ (Kd.N_elder' (Nz_ HO197.out) (Kd.R_base ho0) hb)
   replace BK164 := m_ (kl_ gb164 hb)
   replace HB := m_ (below_step bz_ hb)
   (try clear hb)
   (try clear hb2)
   (try clear hk)
   (try clear hi)
   (try clear ho0)
   refine hK.out _ _ ⟨(blk_cell BK164.out 0).trans rfl, (blk_cell BK164.out 1).trans rfl, (blk_cell BK164.out 2).trans rfl, (blk_cell BK164.out 3).trans rfl, (blk_cell BK164.out 4).trans rfl, (blk_cell BK164.out 5).trans rfl, (blk_cell BK164.out 6).trans rfl, (blk_cell BK164.out 7).trans rfl, (blk_cell BK164.out 8).trans rfl, (blk_cell BK164.out 9).trans rfl, (blk_cell BK164.out 10).trans rfl⟩ (fun hHeld => ?_)
   clear hK K
   refine nz_ (some 33) ?_
   refine pz_ 15 2 ?_
   refine dz_ ?_
   try go_wp2
   go_ret
   exact ⟨_, ew_, (Rz_ HO200.out), bz_⟩
end Go.Proofs.Ytboonfidioombaa.P

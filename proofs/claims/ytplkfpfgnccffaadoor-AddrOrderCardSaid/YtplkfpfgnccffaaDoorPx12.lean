/- For each Go function a Lean function, and the proof that a call comes to what it tells: made by program out of the translation (the kit's print, with texts by hand put in). No condition. -/
import Derived.Test.YtplkfpfgnccffaaDoorSq
import Derived.Test.YtplkfpfgnccffaaDoorPx0
import Derived.Test.YtplkfpfgnccffaaDoorPx1
import Derived.Test.YtplkfpfgnccffaaDoorPx10
namespace Go.Proofs.YtplkfpfgnccffaaDoor.P
open Go.RowKit Go.Proofs.YtplkfpfgnccffaaDoor.HRows Go.Proofs.YtplkfpfgnccffaaDoorW.PrintWords Go.Proofs.YtplkfpfgnccffaaDoorW.PrintLast Go.Proofs.YtplkfpfgnccffaaDoorW.PrintMore
attribute [local go_sem] max2_int min2_int max_two min_two max_three min_three max_four min_four   -- for this text's walks alone
set_option linter.unusedVariables false
set_option linter.unusedSimpArgs false

/-! ### stolonlaw01_AddrOrder: function 8 -/
mutual
def stolonlaw01_AddrOrder.j0 : Nat → Int → Int → Int → Bool → Bool → Option (Bool)
 | 0, _, _, _, _, _ => none
 | k + 1, x0, x1, x2, x7, x34 => if x34 = true then (some false) else ((addr_Less.f x0 x1).bind fun t213 => (if t213 = true then ((addr_Less.f x1 x2).bind fun t214 => (stolonlaw01_AddrOrder.j1 k x0 x1 x2 x7 t214)) else (stolonlaw01_AddrOrder.j1 k x0 x1 x2 x7 false)))
def stolonlaw01_AddrOrder.j1 : Nat → Int → Int → Int → Bool → Bool → Option (Bool)
 | 0, _, _, _, _, _ => none
 | k + 1, x0, x1, x2, x7, x10 => if x7 = true then (if x10 = true then ((addr_IsGroup.f x0).bind fun t215 => (if t215 = true then ((addr_IsGroup.f x2).bind fun t216 => (if t216 = true then ((addr_IsGroup.f x1).bind fun t217 => (if t217 = true then ((addr_IsLocal.f x0).bind fun t218 => (if t218 = true then ((addr_IsGroup.f x0).bind fun t219 => (if t219 = true then ((addr_IsAsked.f x0).bind fun t220 => (if t220 = true then (some false) else ((addr_IsGroup.f x0).bind fun t221 => (if t221 = true then ((addr_IsLocal.f x0).bind fun t222 => ((addr_IsAsked.f x0).bind fun t223 => (some (t222 != t223)))) else (some true))))) else (some false))) else ((addr_IsGroup.f x0).bind fun t224 => (if t224 = true then ((addr_IsLocal.f x0).bind fun t225 => ((addr_IsAsked.f x0).bind fun t226 => (some (t225 != t226)))) else (some true))))) else (some false))) else ((addr_IsLocal.f x0).bind fun t227 => (if t227 = true then ((addr_IsGroup.f x0).bind fun t228 => (if t228 = true then ((addr_IsAsked.f x0).bind fun t229 => (if t229 = true then (some false) else ((addr_IsGroup.f x0).bind fun t230 => (if t230 = true then ((addr_IsLocal.f x0).bind fun t231 => ((addr_IsAsked.f x0).bind fun t232 => (some (t231 != t232)))) else (some true))))) else (some false))) else ((addr_IsGroup.f x0).bind fun t233 => (if t233 = true then ((addr_IsLocal.f x0).bind fun t234 => ((addr_IsAsked.f x0).bind fun t235 => (some (t234 != t235)))) else (some true))))))) else ((addr_IsLocal.f x0).bind fun t236 => (if t236 = true then ((addr_IsGroup.f x0).bind fun t237 => (if t237 = true then ((addr_IsAsked.f x0).bind fun t238 => (if t238 = true then (some false) else ((addr_IsGroup.f x0).bind fun t239 => (if t239 = true then ((addr_IsLocal.f x0).bind fun t240 => ((addr_IsAsked.f x0).bind fun t241 => (some (t240 != t241)))) else (some true))))) else (some false))) else ((addr_IsGroup.f x0).bind fun t242 => (if t242 = true then ((addr_IsLocal.f x0).bind fun t243 => ((addr_IsAsked.f x0).bind fun t244 => (some (t243 != t244)))) else (some true))))))) else ((addr_IsLocal.f x0).bind fun t245 => (if t245 = true then ((addr_IsGroup.f x0).bind fun t246 => (if t246 = true then ((addr_IsAsked.f x0).bind fun t247 => (if t247 = true then (some false) else ((addr_IsGroup.f x0).bind fun t248 => (if t248 = true then ((addr_IsLocal.f x0).bind fun t249 => ((addr_IsAsked.f x0).bind fun t250 => (some (t249 != t250)))) else (some true))))) else (some false))) else ((addr_IsGroup.f x0).bind fun t251 => (if t251 = true then ((addr_IsLocal.f x0).bind fun t252 => ((addr_IsAsked.f x0).bind fun t253 => (some (t252 != t253)))) else (some true)))))) else (some false)
end
def stolonlaw01_AddrOrder.f (k : Nat) (a0 : Int) (a1 : Int) (a2 : Int) : Option (Bool) := (stolonlaw01_shown.f k).bind fun t205 => ((addr_Bytes.f a0).bind fun t206 => ((addr_Bytes.f a2).bind fun t209 => (if (t206.length : Int) = 4 then (if (t209.length : Int) = 4 then ((addr_Less.f a0 a2).bind fun t212 => (stolonlaw01_AddrOrder.j0 k a0 a1 a2 t205 (t212 != (Op.bytesLess ((strOfNums t206).toList) ((strOfNums t209).toList))))) else (stolonlaw01_AddrOrder.j0 k a0 a1 a2 t205 true)) else (stolonlaw01_AddrOrder.j0 k a0 a1 a2 t205 true))))
theorem stolonlaw01_AddrOrder.mono_l : ∀ k, (∀ y0 y1 y2 y3 y4, LeO (stolonlaw01_AddrOrder.j0 k y0 y1 y2 y3 y4) (stolonlaw01_AddrOrder.j0 (k + 1) y0 y1 y2 y3 y4)) ∧ (∀ y0 y1 y2 y3 y4, LeO (stolonlaw01_AddrOrder.j1 k y0 y1 y2 y3 y4) (stolonlaw01_AddrOrder.j1 (k + 1) y0 y1 y2 y3 y4))
 | 0 => ⟨fun _ _ _ _ _ r h => by simp [stolonlaw01_AddrOrder.j0] at h, fun _ _ _ _ _ r h => by simp [stolonlaw01_AddrOrder.j1] at h⟩
 | k + 1 => by
  obtain ⟨ih0, ih1⟩ := stolonlaw01_AddrOrder.mono_l k
  refine ⟨?_, ?_⟩
  ·intro y0 y1 y2 y3 y4
   unfold stolonlaw01_AddrOrder.j0
   repeat' first
   | (with_reducible exact ih0 _ _ _ _ _)
   | (with_reducible exact ih1 _ _ _ _ _)
   | (with_reducible exact stolonlaw01_shown.mono _)
   | (with_reducible exact LeO.refl _)
   | (with_reducible exact LeO.none _)
   | (with_reducible refine LeO.ite ?_ ?_)
   | (with_reducible refine LeO.bind ?_ (fun _ => ?_))
   | exact ih0 _ _ _ _ _
   | exact ih1 _ _ _ _ _
   | exact stolonlaw01_shown.mono _
   | exact LeO.none _
   | refine LeO.ite ?_ ?_
   | refine LeO.bind ?_ (fun _ => ?_)
  ·intro y0 y1 y2 y3 y4
   unfold stolonlaw01_AddrOrder.j1
   repeat' first
   | (with_reducible exact ih0 _ _ _ _ _)
   | (with_reducible exact ih1 _ _ _ _ _)
   | (with_reducible exact stolonlaw01_shown.mono _)
   | (with_reducible exact LeO.refl _)
   | (with_reducible exact LeO.none _)
   | (with_reducible refine LeO.ite ?_ ?_)
   | (with_reducible refine LeO.bind ?_ (fun _ => ?_))
   | exact ih0 _ _ _ _ _
   | exact ih1 _ _ _ _ _
   | exact stolonlaw01_shown.mono _
   | exact LeO.none _
   | refine LeO.ite ?_ ?_
   | refine LeO.bind ?_ (fun _ => ?_)
theorem stolonlaw01_AddrOrder.mono : ∀ a0 a1 a2 k, LeO (stolonlaw01_AddrOrder.f k a0 a1 a2) (stolonlaw01_AddrOrder.f (k + 1) a0 a1 a2) := by
 intro a0 a1 a2 k
 obtain ⟨ih0, ih1⟩ := stolonlaw01_AddrOrder.mono_l k
 unfold stolonlaw01_AddrOrder.f
 repeat' first
   | (with_reducible exact ih0 _ _ _ _ _)
   | (with_reducible exact ih1 _ _ _ _ _)
   | (with_reducible exact stolonlaw01_shown.mono _)
   | (with_reducible exact LeO.refl _)
   | (with_reducible exact LeO.none _)
   | (with_reducible refine LeO.ite ?_ ?_)
   | (with_reducible refine LeO.bind ?_ (fun _ => ?_))
   | exact ih0 _ _ _ _ _
   | exact ih1 _ _ _ _ _
   | exact stolonlaw01_shown.mono _
   | exact LeO.none _
   | refine LeO.ite ?_ ?_
   | refine LeO.bind ?_ (fun _ => ?_)
set_option maxHeartbeats 8000000 in
set_option maxRecDepth 100000 in
theorem stolonlaw01_AddrOrder.calls (k : Nat) (a0 : Int) (a1 : Int) (a2 : Int) (r : Bool) (w : World) (hTrue : Aside0 (r = true)) (hL : LaidW w) (h : stolonlaw01_AddrOrder.f k a0 a1 a2 = some r) :
  Calls Tryd.prog 8 #[.int .u32 a0, .int .u32 a1, .int .u32 a2] w fun e w' => e = .returned (.bool r) ∧ Below w.heap.size w w' := by
 have HLW := m_ hL
 clear hL
 have HB := m_ (Below.refl w.heap.size w)
 have H : ((stolonlaw01_shown.f k).bind fun t205 => ((addr_Bytes.f a0).bind fun t206 => ((addr_Bytes.f a2).bind fun t209 => (if (t206.length : Int) = 4 then (if (t209.length : Int) = 4 then ((addr_Less.f a0 a2).bind fun t212 => (stolonlaw01_AddrOrder.j0 k a0 a1 a2 t205 (t212 != (Op.bytesLess ((strOfNums t206).toList) ((strOfNums t209).toList))))) else (stolonlaw01_AddrOrder.j0 k a0 a1 a2 t205 true)) else (stolonlaw01_AddrOrder.j0 k a0 a1 a2 t205 true))))) = some r := h
 clear h
 replace H := Option.bind_eq_some_iff.mp H
 obtain ⟨t205, A40, H⟩ := H
 replace H : ((addr_Bytes.f a0).bind fun t206 => ((addr_Bytes.f a2).bind fun t209 => (if (t206.length : Int) = 4 then (if (t209.length : Int) = 4 then ((addr_Less.f a0 a2).bind fun t212 => (stolonlaw01_AddrOrder.j0 k a0 a1 a2 t205 (t212 != (Op.bytesLess ((strOfNums t206).toList) ((strOfNums t209).toList))))) else (stolonlaw01_AddrOrder.j0 k a0 a1 a2 t205 true)) else (stolonlaw01_AddrOrder.j0 k a0 a1 a2 t205 true)))) = some r := H
 have A4 := m_ A40
 clear A40
 replace H := Option.bind_eq_some_iff.mp H
 obtain ⟨t206, A50, H⟩ := H
 replace H : ((addr_Bytes.f a2).bind fun t209 => (if (t206.length : Int) = 4 then (if (t209.length : Int) = 4 then ((addr_Less.f a0 a2).bind fun t212 => (stolonlaw01_AddrOrder.j0 k a0 a1 a2 t205 (t212 != (Op.bytesLess ((strOfNums t206).toList) ((strOfNums t209).toList))))) else (stolonlaw01_AddrOrder.j0 k a0 a1 a2 t205 true)) else (stolonlaw01_AddrOrder.j0 k a0 a1 a2 t205 true))) = some r := H
 have A5 := m_ A50
 clear A50
 replace H := Option.bind_eq_some_iff.mp H
 obtain ⟨t209, A60, H⟩ := H
 replace H : (if (t206.length : Int) = 4 then (if (t209.length : Int) = 4 then ((addr_Less.f a0 a2).bind fun t212 => (stolonlaw01_AddrOrder.j0 k a0 a1 a2 t205 (t212 != (Op.bytesLess ((strOfNums t206).toList) ((strOfNums t209).toList))))) else (stolonlaw01_AddrOrder.j0 k a0 a1 a2 t205 true)) else (stolonlaw01_AddrOrder.j0 k a0 a1 a2 t205 true)) = some r := H
 have A6 := m_ A60
 clear A60
 have HC7 := m_ H
 clear H
 go_enter Tryd.func8, Tryd.ntmps8
 go_upto_region 4 with (first | (go_at_call 9; (with_reducible refine (stolonlaw01_shown.calls k  t205 _ (LaidW.below HLW.out bz_) A4.out).mono ?_); rintro e w8 ⟨rfl, hb⟩; replace HB := m_ (below_step bz_ hb); (try clear hb); (try clear hb2); (try clear hk); (try clear hi)) | (go_at_call 15; (with_reducible refine (addr_Bytes.calls a0 t206 _ A5.out).mono ?_); rintro e w9 ⟨v207, rfl, ho0, hb⟩; have HO208 := m_ (Kd.R_lower ho0 (below_size bz_)); replace HB := m_ (below_step bz_ hb); (try clear hb); (try clear hb2); (try clear hk); (try clear hi); (try clear ho0)) | (go_at_call 15; (with_reducible refine (addr_Bytes.calls a2 t209 _ A6.out).mono ?_); rintro e w10 ⟨v210, rfl, ho0, hb⟩; have HO211 := m_ (Kd.R_lower (Kd.R_new' ho0 (Kd.R_lt (Rz_ HO208.out))) (below_size bz_)); replace HO208 := m_ (Kd.R_elder' (Rz_ HO208.out) (Kd.R_base ho0) hb); replace HB := m_ (below_step bz_ hb); (try clear hb); (try clear hb2); (try clear hk); (try clear hi); (try clear ho0)))
 repeat (go_quiet (first | (go_at_call 9; (with_reducible refine (stolonlaw01_shown.calls k  t205 _ (LaidW.below HLW.out bz_) A4.out).mono ?_); rintro e w8 ⟨rfl, hb⟩; replace HB := m_ (below_step bz_ hb); (try clear hb); (try clear hb2); (try clear hk); (try clear hi)) | (go_at_call 15; (with_reducible refine (addr_Bytes.calls a0 t206 _ A5.out).mono ?_); rintro e w9 ⟨v207, rfl, ho0, hb⟩; have HO208 := m_ (Kd.R_lower ho0 (below_size bz_)); replace HB := m_ (below_step bz_ hb); (try clear hb); (try clear hb2); (try clear hk); (try clear hi); (try clear ho0)) | (go_at_call 15; (with_reducible refine (addr_Bytes.calls a2 t209 _ A6.out).mono ?_); rintro e w10 ⟨v210, rfl, ho0, hb⟩; have HO211 := m_ (Kd.R_lower (Kd.R_new' ho0 (Kd.R_lt (Rz_ HO208.out))) (below_size bz_)); replace HO208 := m_ (Kd.R_elder' (Rz_ HO208.out) (Kd.R_base ho0) hb); replace HB := m_ (below_step bz_ hb); (try clear hb); (try clear hb2); (try clear hk); (try clear hi); (try clear ho0))); go_upto_region 4 with (first | (go_at_call 9; (with_reducible refine (stolonlaw01_shown.calls k  t205 _ (LaidW.below HLW.out bz_) A4.out).mono ?_); rintro e w8 ⟨rfl, hb⟩; replace HB := m_ (below_step bz_ hb); (try clear hb); (try clear hb2); (try clear hk); (try clear hi)) | (go_at_call 15; (with_reducible refine (addr_Bytes.calls a0 t206 _ A5.out).mono ?_); rintro e w9 ⟨v207, rfl, ho0, hb⟩; have HO208 := m_ (Kd.R_lower ho0 (below_size bz_)); replace HB := m_ (below_step bz_ hb); (try clear hb); (try clear hb2); (try clear hk); (try clear hi); (try clear ho0)) | (go_at_call 15; (with_reducible refine (addr_Bytes.calls a2 t209 _ A6.out).mono ?_); rintro e w10 ⟨v210, rfl, ho0, hb⟩; have HO211 := m_ (Kd.R_lower (Kd.R_new' ho0 (Kd.R_lt (Rz_ HO208.out))) (below_size bz_)); replace HO208 := m_ (Kd.R_elder' (Rz_ HO208.out) (Kd.R_base ho0) hb); replace HB := m_ (below_step bz_ hb); (try clear hb); (try clear hb2); (try clear hk); (try clear hi); (try clear ho0))))
 (try simp only [Act.put, List.setIfInBounds_toArray, List.set_cons_zero, List.set_cons_succ])
 go_cut [34] (fun v34 wc => ∃ (kq : Nat) (x34_6 : Bool), v34 = .bool x34_6 ∧ Aside0 (stolonlaw01_AddrOrder.j0 kq a0 a1 a2 t205 x34_6 = some r) ∧ Aside0 (kq ≤ k) ∧ Aside0 (Below w.heap.size w wc))
 case first =>
  have H := HC7.out
  clear HC7
  by_cases c11 : (t206.length : Int) = 4
  ·rw [if_pos c11] at H
   have c11b0 : ((t206.length : Int) == 4) = true := beq_iff_eq.mpr c11
   have c11b1 : ((t206.length : Int) != 4) = false := bne_eq_false_iff_eq.mpr c11
   clear c11
   (first | rw [c11b0] | (simp only [i64_w, i32_w]; rw [c11b0]) | skip)
   by_cases c12 : (t209.length : Int) = 4
   ·rw [if_pos c12] at H
    have c12b0 : ((t209.length : Int) == 4) = true := beq_iff_eq.mpr c12
    have c12b1 : ((t209.length : Int) != 4) = false := bne_eq_false_iff_eq.mpr c12
    clear c12
    replace H := Option.bind_eq_some_iff.mp H
    obtain ⟨t212, A130, H⟩ := H
    replace H : (stolonlaw01_AddrOrder.j0 k a0 a1 a2 t205 (t212 != (Op.bytesLess ((strOfNums t206).toList) ((strOfNums t209).toList)))) = some r := H
    have A13 := m_ A130
    clear A130
    have H' := m_ H
    clear H
    obtain ⟨Ao14, co14, eo14⟩ := Kd.R_slice HO208.out
    subst eo14
    obtain ⟨Ao15, co15, eo15⟩ := Kd.R_slice HO211.out
    subst eo15
    have hS : ∀ n, (convert 22 9 (Value.slice Ao14 t206.length co14)).run Tryd.prog (w10.drewN n) = .ok (.string (strOfNums t206)) (w10.drewN n) ∧ (convert 22 9 (Value.slice Ao15 t209.length co15)).run Tryd.prog (w10.drewN n) = .ok (.string (strOfNums t209)) (w10.drewN n) := fun n => ⟨own_string (P := Tryd.prog) Tryd.underlying22 Tryd.underlying5 Tryd.underlying9 (Kd.own_of_R (Kd.R_drewN HO208.out n)), own_string (P := Tryd.prog) Tryd.underlying22 Tryd.underlying5 Tryd.underlying9 (Kd.own_of_R (Kd.R_drewN HO211.out n))⟩
    go_region_held3 (fun W => (convert 22 9 (Value.slice Ao14 t206.length co14)).run Tryd.prog W = .ok (.string (strOfNums t206)) W ∧ (convert 22 9 (Value.slice Ao15 t209.length co15)).run Tryd.prog W = .ok (.string (strOfNums t209)) W ∧ Exists (fun n => W = w10.drewN n)) (first | exact ⟨(hS 1).1, (hS 1).2, 1, rfl⟩ | exact ⟨(hS _).1, (hS _).2, _, rfl⟩) ((go_at_call 25; (with_reducible refine (addr_Less.calls a0 a2 t212 _ A13.out).mono ?_); rintro e w' ⟨rfl, ⟨nd, rfl⟩⟩))
    replace HB := m_ (pw_below_drewN HB.out (1 + nd))
    go_wp2
    go_meet
    case rel => exact ⟨_, ((t212 != (Op.bytesLess ((strOfNums t206).toList) ((strOfNums t209).toList)))), (by first | rfl | (simp; done) | (simp [*]; done)), H', ⟨by first | omega | exact Nat.le_refl _⟩, ⟨bz_⟩⟩
   ·rw [if_neg c12] at H
    have c12b0 : ((t209.length : Int) == 4) = false := beq_eq_false_iff_ne.mpr c12
    have c12b1 : ((t209.length : Int) != 4) = true := bne_iff_ne.mpr c12
    cases k with
    | zero => exact absurd H (by simp [stolonlaw01_AddrOrder.j0])
    | succ k_ =>
     rw [stolonlaw01_AddrOrder.j0] at H
     exact absurd ((Option.some.inj ((if_pos rfl).symm.trans H)).trans hTrue.out) (by simp)
  ·rw [if_neg c11] at H
   have c11b0 : ((t206.length : Int) == 4) = false := beq_eq_false_iff_ne.mpr c11
   have c11b1 : ((t206.length : Int) != 4) = true := bne_iff_ne.mpr c11
   (first | rw [c11b0] | (simp only [i64_w, i32_w]; rw [c11b0]) | skip)
   cases k with
   | zero => exact absurd H (by simp [stolonlaw01_AddrOrder.j0])
   | succ k_ =>
    rw [stolonlaw01_AddrOrder.j0] at H
    exact absurd ((Option.some.inj ((if_pos rfl).symm.trans H)).trans hTrue.out) (by simp)
 case rest =>
  clear HC7
  try clear c1
  try clear hcv1
  try clear p2
  try clear c8
  try clear c11
  try clear c11b0
  try clear c11b1
  try clear c12
  try clear c12b0
  try clear c12b1
  try clear hcv16
  try clear hcv17
  obtain ⟨kq, x34_6, rfl, HA, HJ6, HB⟩ := hcut
  cases kq with
  | zero => exact absurd HA.out (by simp [stolonlaw01_AddrOrder.j0])
  | succ kj6 =>
   have H := HA.out
   clear HA
   simp only [stolonlaw01_AddrOrder.j0] at H
   by_cases c18 : x34_6 = true
   ·subst c18
    have H1 : (some false) = some r := by rw [if_pos rfl] at H; exact H
    clear H
    have H := H1
    clear H1
    exact absurd ((Option.some.inj H).trans hTrue.out) (by simp)
   ·replace c18 := Bool.eq_false_iff.mpr c18
    subst c18
    have H1 : ((addr_Less.f a0 a1).bind fun t213 => (if t213 = true then ((addr_Less.f a1 a2).bind fun t214 => (stolonlaw01_AddrOrder.j1 kj6 a0 a1 a2 t205 t214)) else (stolonlaw01_AddrOrder.j1 kj6 a0 a1 a2 t205 false))) = some r := by rw [if_neg (show ¬ (false = true) by decide)] at H; exact H
    clear H
    have H := H1
    clear H1
    have HC19 := m_ H
    clear H
    go_upto_region 6 with (fail)
    repeat (go_quiet (fail); go_upto_region 6 with (fail))
    go_cut [10] (fun v10 wc => ∃ (kq : Nat) (x10_18 : Bool), v10 = .bool x10_18 ∧ Aside0 (stolonlaw01_AddrOrder.j1 kq a0 a1 a2 t205 x10_18 = some r) ∧ Aside0 (kq ≤ kj6) ∧ Aside0 (Below w.heap.size w wc))
    case first =>
     have H := HC19.out
     clear HC19
     replace H := Option.bind_eq_some_iff.mp H
     obtain ⟨t213, A200, H⟩ := H
     replace H : (if t213 = true then ((addr_Less.f a1 a2).bind fun t214 => (stolonlaw01_AddrOrder.j1 kj6 a0 a1 a2 t205 t214)) else (stolonlaw01_AddrOrder.j1 kj6 a0 a1 a2 t205 false)) = some r := H
     have A20 := m_ A200
     clear A200
     by_cases c21 : t213 = true
     ·subst c21
      have H1 : ((addr_Less.f a1 a2).bind fun t214 => (stolonlaw01_AddrOrder.j1 kj6 a0 a1 a2 t205 t214)) = some r := by rw [if_pos rfl] at H; exact H
      clear H
      have H := H1
      clear H1
      replace H := Option.bind_eq_some_iff.mp H
      obtain ⟨t214, A220, H⟩ := H
      replace H : (stolonlaw01_AddrOrder.j1 kj6 a0 a1 a2 t205 t214) = some r := H
      have A22 := m_ A220
      clear A220
      have H' := m_ H
      clear H
      go_wp2_with (first | (go_at_call 25; (with_reducible refine (addr_Less.calls a0 a1 true _ A20.out).mono ?_); rintro e w' ⟨rfl, ⟨nd, rfl⟩⟩; (try first | exact ⟨rfl, _, World.drewN_drewN _ _ _⟩ | exact ⟨rfl, _, Eq.trans (World.drewN_drewN _ _ _) (congrArg (World.drewN _) (Nat.add_assoc _ _ _))⟩)) | (go_at_call 25; (with_reducible refine (addr_Less.calls a1 a2 t214 _ A22.out).mono ?_); rintro e w' ⟨rfl, ⟨nd, rfl⟩⟩; (try first | exact ⟨rfl, _, World.drewN_drewN _ _ _⟩ | exact ⟨rfl, _, Eq.trans (World.drewN_drewN _ _ _) (congrArg (World.drewN _) (Nat.add_assoc _ _ _))⟩)))
      repeat (go_quiet (first | (go_at_call 25; (with_reducible refine (addr_Less.calls a0 a1 true _ A20.out).mono ?_); rintro e w' ⟨rfl, ⟨nd, rfl⟩⟩; (try first | exact ⟨rfl, _, World.drewN_drewN _ _ _⟩ | exact ⟨rfl, _, Eq.trans (World.drewN_drewN _ _ _) (congrArg (World.drewN _) (Nat.add_assoc _ _ _))⟩)) | (go_at_call 25; (with_reducible refine (addr_Less.calls a1 a2 t214 _ A22.out).mono ?_); rintro e w' ⟨rfl, ⟨nd, rfl⟩⟩; (try first | exact ⟨rfl, _, World.drewN_drewN _ _ _⟩ | exact ⟨rfl, _, Eq.trans (World.drewN_drewN _ _ _) (congrArg (World.drewN _) (Nat.add_assoc _ _ _))⟩))); try go_wp2_with (first | (go_at_call 25; (with_reducible refine (addr_Less.calls a0 a1 true _ A20.out).mono ?_); rintro e w' ⟨rfl, ⟨nd, rfl⟩⟩; (try first | exact ⟨rfl, _, World.drewN_drewN _ _ _⟩ | exact ⟨rfl, _, Eq.trans (World.drewN_drewN _ _ _) (congrArg (World.drewN _) (Nat.add_assoc _ _ _))⟩)) | (go_at_call 25; (with_reducible refine (addr_Less.calls a1 a2 t214 _ A22.out).mono ?_); rintro e w' ⟨rfl, ⟨nd, rfl⟩⟩; (try first | exact ⟨rfl, _, World.drewN_drewN _ _ _⟩ | exact ⟨rfl, _, Eq.trans (World.drewN_drewN _ _ _) (congrArg (World.drewN _) (Nat.add_assoc _ _ _))⟩))))
      go_meet
      case rel => exact ⟨_, (t214), (by first | rfl | (simp; done) | (simp [*]; done)), H', ⟨by have := HJ6.out; first | omega | exact Nat.le_refl _⟩, ⟨bz_⟩⟩
     ·replace c21 := Bool.eq_false_iff.mpr c21
      subst c21
      have H1 : (stolonlaw01_AddrOrder.j1 kj6 a0 a1 a2 t205 false) = some r := by rw [if_neg (show ¬ (false = true) by decide)] at H; exact H
      clear H
      have H := H1
      clear H1
      have H' := m_ H
      clear H
      go_wp2_with (first | (go_at_call 25; (with_reducible refine (addr_Less.calls a0 a1 false _ A20.out).mono ?_); rintro e w' ⟨rfl, ⟨nd, rfl⟩⟩; (try first | exact ⟨rfl, _, World.drewN_drewN _ _ _⟩ | exact ⟨rfl, _, Eq.trans (World.drewN_drewN _ _ _) (congrArg (World.drewN _) (Nat.add_assoc _ _ _))⟩)))
      repeat (go_quiet (first | (go_at_call 25; (with_reducible refine (addr_Less.calls a0 a1 false _ A20.out).mono ?_); rintro e w' ⟨rfl, ⟨nd, rfl⟩⟩; (try first | exact ⟨rfl, _, World.drewN_drewN _ _ _⟩ | exact ⟨rfl, _, Eq.trans (World.drewN_drewN _ _ _) (congrArg (World.drewN _) (Nat.add_assoc _ _ _))⟩))); try go_wp2_with (first | (go_at_call 25; (with_reducible refine (addr_Less.calls a0 a1 false _ A20.out).mono ?_); rintro e w' ⟨rfl, ⟨nd, rfl⟩⟩; (try first | exact ⟨rfl, _, World.drewN_drewN _ _ _⟩ | exact ⟨rfl, _, Eq.trans (World.drewN_drewN _ _ _) (congrArg (World.drewN _) (Nat.add_assoc _ _ _))⟩))))
      go_meet
      case rel => exact ⟨_, (false), (by first | rfl | (simp; done) | (simp [*]; done)), H', ⟨by have := HJ6.out; first | omega | exact Nat.le_refl _⟩, ⟨bz_⟩⟩
    case rest =>
     clear HC19
     try clear c1
     try clear hcv1
     try clear c2
     try clear p2
     try clear c8
     try clear c11
     try clear c11b0
     try clear c11b1
     try clear c12
     try clear c12b0
     try clear c12b1
     try clear hcv16
     try clear hcv17
     try clear c18
     try clear c21
     try clear p2
     obtain ⟨kq, x10_18, rfl, HA, HJ18, HB⟩ := hcut
     cases kq with
     | zero => exact absurd HA.out (by simp [stolonlaw01_AddrOrder.j1])
     | succ kj18 =>
      have H := HA.out
      clear HA
      simp only [stolonlaw01_AddrOrder.j1] at H
      by_cases c23 : t205 = true
      ·subst c23
       have H1 : (if x10_18 = true then ((addr_IsGroup.f a0).bind fun t215 => (if t215 = true then ((addr_IsGroup.f a2).bind fun t216 => (if t216 = true then ((addr_IsGroup.f a1).bind fun t217 => (if t217 = true then ((addr_IsLocal.f a0).bind fun t218 => (if t218 = true then ((addr_IsGroup.f a0).bind fun t219 => (if t219 = true then ((addr_IsAsked.f a0).bind fun t220 => (if t220 = true then (some false) else ((addr_IsGroup.f a0).bind fun t221 => (if t221 = true then ((addr_IsLocal.f a0).bind fun t222 => ((addr_IsAsked.f a0).bind fun t223 => (some (t222 != t223)))) else (some true))))) else (some false))) else ((addr_IsGroup.f a0).bind fun t224 => (if t224 = true then ((addr_IsLocal.f a0).bind fun t225 => ((addr_IsAsked.f a0).bind fun t226 => (some (t225 != t226)))) else (some true))))) else (some false))) else ((addr_IsLocal.f a0).bind fun t227 => (if t227 = true then ((addr_IsGroup.f a0).bind fun t228 => (if t228 = true then ((addr_IsAsked.f a0).bind fun t229 => (if t229 = true then (some false) else ((addr_IsGroup.f a0).bind fun t230 => (if t230 = true then ((addr_IsLocal.f a0).bind fun t231 => ((addr_IsAsked.f a0).bind fun t232 => (some (t231 != t232)))) else (some true))))) else (some false))) else ((addr_IsGroup.f a0).bind fun t233 => (if t233 = true then ((addr_IsLocal.f a0).bind fun t234 => ((addr_IsAsked.f a0).bind fun t235 => (some (t234 != t235)))) else (some true))))))) else ((addr_IsLocal.f a0).bind fun t236 => (if t236 = true then ((addr_IsGroup.f a0).bind fun t237 => (if t237 = true then ((addr_IsAsked.f a0).bind fun t238 => (if t238 = true then (some false) else ((addr_IsGroup.f a0).bind fun t239 => (if t239 = true then ((addr_IsLocal.f a0).bind fun t240 => ((addr_IsAsked.f a0).bind fun t241 => (some (t240 != t241)))) else (some true))))) else (some false))) else ((addr_IsGroup.f a0).bind fun t242 => (if t242 = true then ((addr_IsLocal.f a0).bind fun t243 => ((addr_IsAsked.f a0).bind fun t244 => (some (t243 != t244)))) else (some true))))))) else ((addr_IsLocal.f a0).bind fun t245 => (if t245 = true then ((addr_IsGroup.f a0).bind fun t246 => (if t246 = true then ((addr_IsAsked.f a0).bind fun t247 => (if t247 = true then (some false) else ((addr_IsGroup.f a0).bind fun t248 => (if t248 = true then ((addr_IsLocal.f a0).bind fun t249 => ((addr_IsAsked.f a0).bind fun t250 => (some (t249 != t250)))) else (some true))))) else (some false))) else ((addr_IsGroup.f a0).bind fun t251 => (if t251 = true then ((addr_IsLocal.f a0).bind fun t252 => ((addr_IsAsked.f a0).bind fun t253 => (some (t252 != t253)))) else (some true)))))) = some r := by rw [if_pos rfl] at H; exact H
       clear H
       have H := H1
       clear H1
       by_cases c24 : x10_18 = true
       ·subst c24
        have H1 : ((addr_IsGroup.f a0).bind fun t215 => (if t215 = true then ((addr_IsGroup.f a2).bind fun t216 => (if t216 = true then ((addr_IsGroup.f a1).bind fun t217 => (if t217 = true then ((addr_IsLocal.f a0).bind fun t218 => (if t218 = true then ((addr_IsGroup.f a0).bind fun t219 => (if t219 = true then ((addr_IsAsked.f a0).bind fun t220 => (if t220 = true then (some false) else ((addr_IsGroup.f a0).bind fun t221 => (if t221 = true then ((addr_IsLocal.f a0).bind fun t222 => ((addr_IsAsked.f a0).bind fun t223 => (some (t222 != t223)))) else (some true))))) else (some false))) else ((addr_IsGroup.f a0).bind fun t224 => (if t224 = true then ((addr_IsLocal.f a0).bind fun t225 => ((addr_IsAsked.f a0).bind fun t226 => (some (t225 != t226)))) else (some true))))) else (some false))) else ((addr_IsLocal.f a0).bind fun t227 => (if t227 = true then ((addr_IsGroup.f a0).bind fun t228 => (if t228 = true then ((addr_IsAsked.f a0).bind fun t229 => (if t229 = true then (some false) else ((addr_IsGroup.f a0).bind fun t230 => (if t230 = true then ((addr_IsLocal.f a0).bind fun t231 => ((addr_IsAsked.f a0).bind fun t232 => (some (t231 != t232)))) else (some true))))) else (some false))) else ((addr_IsGroup.f a0).bind fun t233 => (if t233 = true then ((addr_IsLocal.f a0).bind fun t234 => ((addr_IsAsked.f a0).bind fun t235 => (some (t234 != t235)))) else (some true))))))) else ((addr_IsLocal.f a0).bind fun t236 => (if t236 = true then ((addr_IsGroup.f a0).bind fun t237 => (if t237 = true then ((addr_IsAsked.f a0).bind fun t238 => (if t238 = true then (some false) else ((addr_IsGroup.f a0).bind fun t239 => (if t239 = true then ((addr_IsLocal.f a0).bind fun t240 => ((addr_IsAsked.f a0).bind fun t241 => (some (t240 != t241)))) else (some true))))) else (some false))) else ((addr_IsGroup.f a0).bind fun t242 => (if t242 = true then ((addr_IsLocal.f a0).bind fun t243 => ((addr_IsAsked.f a0).bind fun t244 => (some (t243 != t244)))) else (some true))))))) = some r := by rw [if_pos rfl] at H; exact H
        clear H
        have H := H1
        clear H1
        replace H := Option.bind_eq_some_iff.mp H
        obtain ⟨t215, A250, H⟩ := H
        replace H : (if t215 = true then ((addr_IsGroup.f a2).bind fun t216 => (if t216 = true then ((addr_IsGroup.f a1).bind fun t217 => (if t217 = true then ((addr_IsLocal.f a0).bind fun t218 => (if t218 = true then ((addr_IsGroup.f a0).bind fun t219 => (if t219 = true then ((addr_IsAsked.f a0).bind fun t220 => (if t220 = true then (some false) else ((addr_IsGroup.f a0).bind fun t221 => (if t221 = true then ((addr_IsLocal.f a0).bind fun t222 => ((addr_IsAsked.f a0).bind fun t223 => (some (t222 != t223)))) else (some true))))) else (some false))) else ((addr_IsGroup.f a0).bind fun t224 => (if t224 = true then ((addr_IsLocal.f a0).bind fun t225 => ((addr_IsAsked.f a0).bind fun t226 => (some (t225 != t226)))) else (some true))))) else (some false))) else ((addr_IsLocal.f a0).bind fun t227 => (if t227 = true then ((addr_IsGroup.f a0).bind fun t228 => (if t228 = true then ((addr_IsAsked.f a0).bind fun t229 => (if t229 = true then (some false) else ((addr_IsGroup.f a0).bind fun t230 => (if t230 = true then ((addr_IsLocal.f a0).bind fun t231 => ((addr_IsAsked.f a0).bind fun t232 => (some (t231 != t232)))) else (some true))))) else (some false))) else ((addr_IsGroup.f a0).bind fun t233 => (if t233 = true then ((addr_IsLocal.f a0).bind fun t234 => ((addr_IsAsked.f a0).bind fun t235 => (some (t234 != t235)))) else (some true))))))) else ((addr_IsLocal.f a0).bind fun t236 => (if t236 = true then ((addr_IsGroup.f a0).bind fun t237 => (if t237 = true then ((addr_IsAsked.f a0).bind fun t238 => (if t238 = true then (some false) else ((addr_IsGroup.f a0).bind fun t239 => (if t239 = true then ((addr_IsLocal.f a0).bind fun t240 => ((addr_IsAsked.f a0).bind fun t241 => (some (t240 != t241)))) else (some true))))) else (some false))) else ((addr_IsGroup.f a0).bind fun t242 => (if t242 = true then ((addr_IsLocal.f a0).bind fun t243 => ((addr_IsAsked.f a0).bind fun t244 => (some (t243 != t244)))) else (some true)))))) = some r := H
        have A25 := m_ A250
        clear A250
        by_cases c26 : t215 = true
        ·subst c26
         have H1 : ((addr_IsGroup.f a2).bind fun t216 => (if t216 = true then ((addr_IsGroup.f a1).bind fun t217 => (if t217 = true then ((addr_IsLocal.f a0).bind fun t218 => (if t218 = true then ((addr_IsGroup.f a0).bind fun t219 => (if t219 = true then ((addr_IsAsked.f a0).bind fun t220 => (if t220 = true then (some false) else ((addr_IsGroup.f a0).bind fun t221 => (if t221 = true then ((addr_IsLocal.f a0).bind fun t222 => ((addr_IsAsked.f a0).bind fun t223 => (some (t222 != t223)))) else (some true))))) else (some false))) else ((addr_IsGroup.f a0).bind fun t224 => (if t224 = true then ((addr_IsLocal.f a0).bind fun t225 => ((addr_IsAsked.f a0).bind fun t226 => (some (t225 != t226)))) else (some true))))) else (some false))) else ((addr_IsLocal.f a0).bind fun t227 => (if t227 = true then ((addr_IsGroup.f a0).bind fun t228 => (if t228 = true then ((addr_IsAsked.f a0).bind fun t229 => (if t229 = true then (some false) else ((addr_IsGroup.f a0).bind fun t230 => (if t230 = true then ((addr_IsLocal.f a0).bind fun t231 => ((addr_IsAsked.f a0).bind fun t232 => (some (t231 != t232)))) else (some true))))) else (some false))) else ((addr_IsGroup.f a0).bind fun t233 => (if t233 = true then ((addr_IsLocal.f a0).bind fun t234 => ((addr_IsAsked.f a0).bind fun t235 => (some (t234 != t235)))) else (some true))))))) = some r := by rw [if_pos rfl] at H; exact H
         clear H
         have H := H1
         clear H1
         replace H := Option.bind_eq_some_iff.mp H
         obtain ⟨t216, A270, H⟩ := H
         replace H : (if t216 = true then ((addr_IsGroup.f a1).bind fun t217 => (if t217 = true then ((addr_IsLocal.f a0).bind fun t218 => (if t218 = true then ((addr_IsGroup.f a0).bind fun t219 => (if t219 = true then ((addr_IsAsked.f a0).bind fun t220 => (if t220 = true then (some false) else ((addr_IsGroup.f a0).bind fun t221 => (if t221 = true then ((addr_IsLocal.f a0).bind fun t222 => ((addr_IsAsked.f a0).bind fun t223 => (some (t222 != t223)))) else (some true))))) else (some false))) else ((addr_IsGroup.f a0).bind fun t224 => (if t224 = true then ((addr_IsLocal.f a0).bind fun t225 => ((addr_IsAsked.f a0).bind fun t226 => (some (t225 != t226)))) else (some true))))) else (some false))) else ((addr_IsLocal.f a0).bind fun t227 => (if t227 = true then ((addr_IsGroup.f a0).bind fun t228 => (if t228 = true then ((addr_IsAsked.f a0).bind fun t229 => (if t229 = true then (some false) else ((addr_IsGroup.f a0).bind fun t230 => (if t230 = true then ((addr_IsLocal.f a0).bind fun t231 => ((addr_IsAsked.f a0).bind fun t232 => (some (t231 != t232)))) else (some true))))) else (some false))) else ((addr_IsGroup.f a0).bind fun t233 => (if t233 = true then ((addr_IsLocal.f a0).bind fun t234 => ((addr_IsAsked.f a0).bind fun t235 => (some (t234 != t235)))) else (some true)))))) = some r := H
         have A27 := m_ A270
         clear A270
         by_cases c28 : t216 = true
         ·subst c28
          have H1 : ((addr_IsGroup.f a1).bind fun t217 => (if t217 = true then ((addr_IsLocal.f a0).bind fun t218 => (if t218 = true then ((addr_IsGroup.f a0).bind fun t219 => (if t219 = true then ((addr_IsAsked.f a0).bind fun t220 => (if t220 = true then (some false) else ((addr_IsGroup.f a0).bind fun t221 => (if t221 = true then ((addr_IsLocal.f a0).bind fun t222 => ((addr_IsAsked.f a0).bind fun t223 => (some (t222 != t223)))) else (some true))))) else (some false))) else ((addr_IsGroup.f a0).bind fun t224 => (if t224 = true then ((addr_IsLocal.f a0).bind fun t225 => ((addr_IsAsked.f a0).bind fun t226 => (some (t225 != t226)))) else (some true))))) else (some false))) = some r := by rw [if_pos rfl] at H; exact H
          clear H
          have H := H1
          clear H1
          replace H := Option.bind_eq_some_iff.mp H
          obtain ⟨t217, A290, H⟩ := H
          replace H : (if t217 = true then ((addr_IsLocal.f a0).bind fun t218 => (if t218 = true then ((addr_IsGroup.f a0).bind fun t219 => (if t219 = true then ((addr_IsAsked.f a0).bind fun t220 => (if t220 = true then (some false) else ((addr_IsGroup.f a0).bind fun t221 => (if t221 = true then ((addr_IsLocal.f a0).bind fun t222 => ((addr_IsAsked.f a0).bind fun t223 => (some (t222 != t223)))) else (some true))))) else (some false))) else ((addr_IsGroup.f a0).bind fun t224 => (if t224 = true then ((addr_IsLocal.f a0).bind fun t225 => ((addr_IsAsked.f a0).bind fun t226 => (some (t225 != t226)))) else (some true))))) else (some false)) = some r := H
          have A29 := m_ A290
          clear A290
          by_cases c30 : t217 = true
          ·subst c30
           have H1 : ((addr_IsLocal.f a0).bind fun t218 => (if t218 = true then ((addr_IsGroup.f a0).bind fun t219 => (if t219 = true then ((addr_IsAsked.f a0).bind fun t220 => (if t220 = true then (some false) else ((addr_IsGroup.f a0).bind fun t221 => (if t221 = true then ((addr_IsLocal.f a0).bind fun t222 => ((addr_IsAsked.f a0).bind fun t223 => (some (t222 != t223)))) else (some true))))) else (some false))) else ((addr_IsGroup.f a0).bind fun t224 => (if t224 = true then ((addr_IsLocal.f a0).bind fun t225 => ((addr_IsAsked.f a0).bind fun t226 => (some (t225 != t226)))) else (some true))))) = some r := by rw [if_pos rfl] at H; exact H
           clear H
           have H := H1
           clear H1
           replace H := Option.bind_eq_some_iff.mp H
           obtain ⟨t218, A310, H⟩ := H
           replace H : (if t218 = true then ((addr_IsGroup.f a0).bind fun t219 => (if t219 = true then ((addr_IsAsked.f a0).bind fun t220 => (if t220 = true then (some false) else ((addr_IsGroup.f a0).bind fun t221 => (if t221 = true then ((addr_IsLocal.f a0).bind fun t222 => ((addr_IsAsked.f a0).bind fun t223 => (some (t222 != t223)))) else (some true))))) else (some false))) else ((addr_IsGroup.f a0).bind fun t224 => (if t224 = true then ((addr_IsLocal.f a0).bind fun t225 => ((addr_IsAsked.f a0).bind fun t226 => (some (t225 != t226)))) else (some true)))) = some r := H
           have A31 := m_ A310
           clear A310
           by_cases c32 : t218 = true
           ·subst c32
            have H1 : ((addr_IsGroup.f a0).bind fun t219 => (if t219 = true then ((addr_IsAsked.f a0).bind fun t220 => (if t220 = true then (some false) else ((addr_IsGroup.f a0).bind fun t221 => (if t221 = true then ((addr_IsLocal.f a0).bind fun t222 => ((addr_IsAsked.f a0).bind fun t223 => (some (t222 != t223)))) else (some true))))) else (some false))) = some r := by rw [if_pos rfl] at H; exact H
            clear H
            have H := H1
            clear H1
            replace H := Option.bind_eq_some_iff.mp H
            obtain ⟨t219, A330, H⟩ := H
            replace H : (if t219 = true then ((addr_IsAsked.f a0).bind fun t220 => (if t220 = true then (some false) else ((addr_IsGroup.f a0).bind fun t221 => (if t221 = true then ((addr_IsLocal.f a0).bind fun t222 => ((addr_IsAsked.f a0).bind fun t223 => (some (t222 != t223)))) else (some true))))) else (some false)) = some r := H
            have A33 := m_ A330
            clear A330
            have z_ := Option.some.inj (A25.out.symm.trans A33.out)
            subst z_
            have c34x := ()
            ·clear c34x
             have H1 : ((addr_IsAsked.f a0).bind fun t220 => (if t220 = true then (some false) else ((addr_IsGroup.f a0).bind fun t221 => (if t221 = true then ((addr_IsLocal.f a0).bind fun t222 => ((addr_IsAsked.f a0).bind fun t223 => (some (t222 != t223)))) else (some true))))) = some r := by rw [if_pos rfl] at H; exact H
             clear H
             have H := H1
             clear H1
             replace H := Option.bind_eq_some_iff.mp H
             obtain ⟨t220, A350, H⟩ := H
             replace H : (if t220 = true then (some false) else ((addr_IsGroup.f a0).bind fun t221 => (if t221 = true then ((addr_IsLocal.f a0).bind fun t222 => ((addr_IsAsked.f a0).bind fun t223 => (some (t222 != t223)))) else (some true)))) = some r := H
             have A35 := m_ A350
             clear A350
             by_cases c36 : t220 = true
             ·subst c36
              have H1 : (some false) = some r := by rw [if_pos rfl] at H; exact H
              clear H
              have H := H1
              clear H1
              exact absurd ((Option.some.inj H).trans hTrue.out) (by simp)
             ·replace c36 := Bool.eq_false_iff.mpr c36
              subst c36
              have H1 : ((addr_IsGroup.f a0).bind fun t221 => (if t221 = true then ((addr_IsLocal.f a0).bind fun t222 => ((addr_IsAsked.f a0).bind fun t223 => (some (t222 != t223)))) else (some true))) = some r := by rw [if_neg (show ¬ (false = true) by decide)] at H; exact H
              clear H
              have H := H1
              clear H1
              replace H := Option.bind_eq_some_iff.mp H
              obtain ⟨t221, A370, H⟩ := H
              replace H : (if t221 = true then ((addr_IsLocal.f a0).bind fun t222 => ((addr_IsAsked.f a0).bind fun t223 => (some (t222 != t223)))) else (some true)) = some r := H
              have A37 := m_ A370
              clear A370
              have z_ := Option.some.inj (A25.out.symm.trans A37.out)
              subst z_
              have c38x := ()
              ·clear c38x
               have H1 : ((addr_IsLocal.f a0).bind fun t222 => ((addr_IsAsked.f a0).bind fun t223 => (some (t222 != t223)))) = some r := by rw [if_pos rfl] at H; exact H
               clear H
               have H := H1
               clear H1
               replace H := Option.bind_eq_some_iff.mp H
               obtain ⟨t222, A390, H⟩ := H
               replace H : ((addr_IsAsked.f a0).bind fun t223 => (some (t222 != t223))) = some r := H
               have A39 := m_ A390
               clear A390
               have z_ := Option.some.inj (A31.out.symm.trans A39.out)
               subst z_
               replace H := Option.bind_eq_some_iff.mp H
               obtain ⟨t223, A400, H⟩ := H
               replace H : (some (true != t223)) = some r := H
               have A40 := m_ A400
               clear A400
               have z_ := Option.some.inj (A35.out.symm.trans A40.out)
               subst z_
               obtain rfl := Option.some.inj H
               go_wp2_with (first | (go_at_call 19; (with_reducible refine (addr_IsGroup.calls a0 true _ A25.out).mono ?_); rintro e w' ⟨rfl, ⟨nd, rfl⟩⟩; (try first | exact ⟨rfl, _, World.drewN_drewN _ _ _⟩ | exact ⟨rfl, _, Eq.trans (World.drewN_drewN _ _ _) (congrArg (World.drewN _) (Nat.add_assoc _ _ _))⟩)) | (go_at_call 19; (with_reducible refine (addr_IsGroup.calls a2 true _ A27.out).mono ?_); rintro e w' ⟨rfl, ⟨nd, rfl⟩⟩; (try first | exact ⟨rfl, _, World.drewN_drewN _ _ _⟩ | exact ⟨rfl, _, Eq.trans (World.drewN_drewN _ _ _) (congrArg (World.drewN _) (Nat.add_assoc _ _ _))⟩)) | (go_at_call 19; (with_reducible refine (addr_IsGroup.calls a1 true _ A29.out).mono ?_); rintro e w' ⟨rfl, ⟨nd, rfl⟩⟩; (try first | exact ⟨rfl, _, World.drewN_drewN _ _ _⟩ | exact ⟨rfl, _, Eq.trans (World.drewN_drewN _ _ _) (congrArg (World.drewN _) (Nat.add_assoc _ _ _))⟩)) | (go_at_call 21; (with_reducible refine (addr_IsLocal.calls a0 true _ A31.out).mono ?_); rintro e w' ⟨rfl, ⟨nd, rfl⟩⟩; (try first | exact ⟨rfl, _, World.drewN_drewN _ _ _⟩ | exact ⟨rfl, _, Eq.trans (World.drewN_drewN _ _ _) (congrArg (World.drewN _) (Nat.add_assoc _ _ _))⟩)) | (go_at_call 19; (with_reducible refine (addr_IsGroup.calls a0 true _ A33.out).mono ?_); rintro e w' ⟨rfl, ⟨nd, rfl⟩⟩; (try first | exact ⟨rfl, _, World.drewN_drewN _ _ _⟩ | exact ⟨rfl, _, Eq.trans (World.drewN_drewN _ _ _) (congrArg (World.drewN _) (Nat.add_assoc _ _ _))⟩)) | (go_at_call 23; (with_reducible refine (addr_IsAsked.calls a0 false _ A35.out).mono ?_); rintro e w' ⟨rfl, ⟨nd, rfl⟩⟩; (try first | exact ⟨rfl, _, World.drewN_drewN _ _ _⟩ | exact ⟨rfl, _, Eq.trans (World.drewN_drewN _ _ _) (congrArg (World.drewN _) (Nat.add_assoc _ _ _))⟩)) | (go_at_call 19; (with_reducible refine (addr_IsGroup.calls a0 true _ A37.out).mono ?_); rintro e w' ⟨rfl, ⟨nd, rfl⟩⟩; (try first | exact ⟨rfl, _, World.drewN_drewN _ _ _⟩ | exact ⟨rfl, _, Eq.trans (World.drewN_drewN _ _ _) (congrArg (World.drewN _) (Nat.add_assoc _ _ _))⟩)) | (go_at_call 21; (with_reducible refine (addr_IsLocal.calls a0 true _ A39.out).mono ?_); rintro e w' ⟨rfl, ⟨nd, rfl⟩⟩; (try first | exact ⟨rfl, _, World.drewN_drewN _ _ _⟩ | exact ⟨rfl, _, Eq.trans (World.drewN_drewN _ _ _) (congrArg (World.drewN _) (Nat.add_assoc _ _ _))⟩)) | (go_at_call 23; (with_reducible refine (addr_IsAsked.calls a0 false _ A40.out).mono ?_); rintro e w' ⟨rfl, ⟨nd, rfl⟩⟩; (try first | exact ⟨rfl, _, World.drewN_drewN _ _ _⟩ | exact ⟨rfl, _, Eq.trans (World.drewN_drewN _ _ _) (congrArg (World.drewN _) (Nat.add_assoc _ _ _))⟩)))
               repeat (go_quiet (first | (go_at_call 19; (with_reducible refine (addr_IsGroup.calls a0 true _ A25.out).mono ?_); rintro e w' ⟨rfl, ⟨nd, rfl⟩⟩; (try first | exact ⟨rfl, _, World.drewN_drewN _ _ _⟩ | exact ⟨rfl, _, Eq.trans (World.drewN_drewN _ _ _) (congrArg (World.drewN _) (Nat.add_assoc _ _ _))⟩)) | (go_at_call 19; (with_reducible refine (addr_IsGroup.calls a2 true _ A27.out).mono ?_); rintro e w' ⟨rfl, ⟨nd, rfl⟩⟩; (try first | exact ⟨rfl, _, World.drewN_drewN _ _ _⟩ | exact ⟨rfl, _, Eq.trans (World.drewN_drewN _ _ _) (congrArg (World.drewN _) (Nat.add_assoc _ _ _))⟩)) | (go_at_call 19; (with_reducible refine (addr_IsGroup.calls a1 true _ A29.out).mono ?_); rintro e w' ⟨rfl, ⟨nd, rfl⟩⟩; (try first | exact ⟨rfl, _, World.drewN_drewN _ _ _⟩ | exact ⟨rfl, _, Eq.trans (World.drewN_drewN _ _ _) (congrArg (World.drewN _) (Nat.add_assoc _ _ _))⟩)) | (go_at_call 21; (with_reducible refine (addr_IsLocal.calls a0 true _ A31.out).mono ?_); rintro e w' ⟨rfl, ⟨nd, rfl⟩⟩; (try first | exact ⟨rfl, _, World.drewN_drewN _ _ _⟩ | exact ⟨rfl, _, Eq.trans (World.drewN_drewN _ _ _) (congrArg (World.drewN _) (Nat.add_assoc _ _ _))⟩)) | (go_at_call 19; (with_reducible refine (addr_IsGroup.calls a0 true _ A33.out).mono ?_); rintro e w' ⟨rfl, ⟨nd, rfl⟩⟩; (try first | exact ⟨rfl, _, World.drewN_drewN _ _ _⟩ | exact ⟨rfl, _, Eq.trans (World.drewN_drewN _ _ _) (congrArg (World.drewN _) (Nat.add_assoc _ _ _))⟩)) | (go_at_call 23; (with_reducible refine (addr_IsAsked.calls a0 false _ A35.out).mono ?_); rintro e w' ⟨rfl, ⟨nd, rfl⟩⟩; (try first | exact ⟨rfl, _, World.drewN_drewN _ _ _⟩ | exact ⟨rfl, _, Eq.trans (World.drewN_drewN _ _ _) (congrArg (World.drewN _) (Nat.add_assoc _ _ _))⟩)) | (go_at_call 19; (with_reducible refine (addr_IsGroup.calls a0 true _ A37.out).mono ?_); rintro e w' ⟨rfl, ⟨nd, rfl⟩⟩; (try first | exact ⟨rfl, _, World.drewN_drewN _ _ _⟩ | exact ⟨rfl, _, Eq.trans (World.drewN_drewN _ _ _) (congrArg (World.drewN _) (Nat.add_assoc _ _ _))⟩)) | (go_at_call 21; (with_reducible refine (addr_IsLocal.calls a0 true _ A39.out).mono ?_); rintro e w' ⟨rfl, ⟨nd, rfl⟩⟩; (try first | exact ⟨rfl, _, World.drewN_drewN _ _ _⟩ | exact ⟨rfl, _, Eq.trans (World.drewN_drewN _ _ _) (congrArg (World.drewN _) (Nat.add_assoc _ _ _))⟩)) | (go_at_call 23; (with_reducible refine (addr_IsAsked.calls a0 false _ A40.out).mono ?_); rintro e w' ⟨rfl, ⟨nd, rfl⟩⟩; (try first | exact ⟨rfl, _, World.drewN_drewN _ _ _⟩ | exact ⟨rfl, _, Eq.trans (World.drewN_drewN _ _ _) (congrArg (World.drewN _) (Nat.add_assoc _ _ _))⟩))); try go_wp2_with (first | (go_at_call 19; (with_reducible refine (addr_IsGroup.calls a0 true _ A25.out).mono ?_); rintro e w' ⟨rfl, ⟨nd, rfl⟩⟩; (try first | exact ⟨rfl, _, World.drewN_drewN _ _ _⟩ | exact ⟨rfl, _, Eq.trans (World.drewN_drewN _ _ _) (congrArg (World.drewN _) (Nat.add_assoc _ _ _))⟩)) | (go_at_call 19; (with_reducible refine (addr_IsGroup.calls a2 true _ A27.out).mono ?_); rintro e w' ⟨rfl, ⟨nd, rfl⟩⟩; (try first | exact ⟨rfl, _, World.drewN_drewN _ _ _⟩ | exact ⟨rfl, _, Eq.trans (World.drewN_drewN _ _ _) (congrArg (World.drewN _) (Nat.add_assoc _ _ _))⟩)) | (go_at_call 19; (with_reducible refine (addr_IsGroup.calls a1 true _ A29.out).mono ?_); rintro e w' ⟨rfl, ⟨nd, rfl⟩⟩; (try first | exact ⟨rfl, _, World.drewN_drewN _ _ _⟩ | exact ⟨rfl, _, Eq.trans (World.drewN_drewN _ _ _) (congrArg (World.drewN _) (Nat.add_assoc _ _ _))⟩)) | (go_at_call 21; (with_reducible refine (addr_IsLocal.calls a0 true _ A31.out).mono ?_); rintro e w' ⟨rfl, ⟨nd, rfl⟩⟩; (try first | exact ⟨rfl, _, World.drewN_drewN _ _ _⟩ | exact ⟨rfl, _, Eq.trans (World.drewN_drewN _ _ _) (congrArg (World.drewN _) (Nat.add_assoc _ _ _))⟩)) | (go_at_call 19; (with_reducible refine (addr_IsGroup.calls a0 true _ A33.out).mono ?_); rintro e w' ⟨rfl, ⟨nd, rfl⟩⟩; (try first | exact ⟨rfl, _, World.drewN_drewN _ _ _⟩ | exact ⟨rfl, _, Eq.trans (World.drewN_drewN _ _ _) (congrArg (World.drewN _) (Nat.add_assoc _ _ _))⟩)) | (go_at_call 23; (with_reducible refine (addr_IsAsked.calls a0 false _ A35.out).mono ?_); rintro e w' ⟨rfl, ⟨nd, rfl⟩⟩; (try first | exact ⟨rfl, _, World.drewN_drewN _ _ _⟩ | exact ⟨rfl, _, Eq.trans (World.drewN_drewN _ _ _) (congrArg (World.drewN _) (Nat.add_assoc _ _ _))⟩)) | (go_at_call 19; (with_reducible refine (addr_IsGroup.calls a0 true _ A37.out).mono ?_); rintro e w' ⟨rfl, ⟨nd, rfl⟩⟩; (try first | exact ⟨rfl, _, World.drewN_drewN _ _ _⟩ | exact ⟨rfl, _, Eq.trans (World.drewN_drewN _ _ _) (congrArg (World.drewN _) (Nat.add_assoc _ _ _))⟩)) | (go_at_call 21; (with_reducible refine (addr_IsLocal.calls a0 true _ A39.out).mono ?_); rintro e w' ⟨rfl, ⟨nd, rfl⟩⟩; (try first | exact ⟨rfl, _, World.drewN_drewN _ _ _⟩ | exact ⟨rfl, _, Eq.trans (World.drewN_drewN _ _ _) (congrArg (World.drewN _) (Nat.add_assoc _ _ _))⟩)) | (go_at_call 23; (with_reducible refine (addr_IsAsked.calls a0 false _ A40.out).mono ?_); rintro e w' ⟨rfl, ⟨nd, rfl⟩⟩; (try first | exact ⟨rfl, _, World.drewN_drewN _ _ _⟩ | exact ⟨rfl, _, Eq.trans (World.drewN_drewN _ _ _) (congrArg (World.drewN _) (Nat.add_assoc _ _ _))⟩))))
               go_ret
               exact ⟨ew_, bz_⟩
           ·replace c32 := Bool.eq_false_iff.mpr c32
            subst c32
            have H1 : ((addr_IsGroup.f a0).bind fun t224 => (if t224 = true then ((addr_IsLocal.f a0).bind fun t225 => ((addr_IsAsked.f a0).bind fun t226 => (some (t225 != t226)))) else (some true))) = some r := by rw [if_neg (show ¬ (false = true) by decide)] at H; exact H
            clear H
            have H := H1
            clear H1
            replace H := Option.bind_eq_some_iff.mp H
            obtain ⟨t224, A410, H⟩ := H
            replace H : (if t224 = true then ((addr_IsLocal.f a0).bind fun t225 => ((addr_IsAsked.f a0).bind fun t226 => (some (t225 != t226)))) else (some true)) = some r := H
            have A41 := m_ A410
            clear A410
            have z_ := Option.some.inj (A25.out.symm.trans A41.out)
            subst z_
            have c42x := ()
            ·clear c42x
             have H1 : ((addr_IsLocal.f a0).bind fun t225 => ((addr_IsAsked.f a0).bind fun t226 => (some (t225 != t226)))) = some r := by rw [if_pos rfl] at H; exact H
             clear H
             have H := H1
             clear H1
             replace H := Option.bind_eq_some_iff.mp H
             obtain ⟨t225, A430, H⟩ := H
             replace H : ((addr_IsAsked.f a0).bind fun t226 => (some (t225 != t226))) = some r := H
             have A43 := m_ A430
             clear A430
             have z_ := Option.some.inj (A31.out.symm.trans A43.out)
             subst z_
             replace H := Option.bind_eq_some_iff.mp H
             obtain ⟨t226, A440, H⟩ := H
             replace H : (some (false != t226)) = some r := H
             have A44 := m_ A440
             clear A440
             obtain rfl := Option.some.inj H
             go_wp2_with (first | (go_at_call 19; (with_reducible refine (addr_IsGroup.calls a0 true _ A25.out).mono ?_); rintro e w' ⟨rfl, ⟨nd, rfl⟩⟩; (try first | exact ⟨rfl, _, World.drewN_drewN _ _ _⟩ | exact ⟨rfl, _, Eq.trans (World.drewN_drewN _ _ _) (congrArg (World.drewN _) (Nat.add_assoc _ _ _))⟩)) | (go_at_call 19; (with_reducible refine (addr_IsGroup.calls a2 true _ A27.out).mono ?_); rintro e w' ⟨rfl, ⟨nd, rfl⟩⟩; (try first | exact ⟨rfl, _, World.drewN_drewN _ _ _⟩ | exact ⟨rfl, _, Eq.trans (World.drewN_drewN _ _ _) (congrArg (World.drewN _) (Nat.add_assoc _ _ _))⟩)) | (go_at_call 19; (with_reducible refine (addr_IsGroup.calls a1 true _ A29.out).mono ?_); rintro e w' ⟨rfl, ⟨nd, rfl⟩⟩; (try first | exact ⟨rfl, _, World.drewN_drewN _ _ _⟩ | exact ⟨rfl, _, Eq.trans (World.drewN_drewN _ _ _) (congrArg (World.drewN _) (Nat.add_assoc _ _ _))⟩)) | (go_at_call 21; (with_reducible refine (addr_IsLocal.calls a0 false _ A31.out).mono ?_); rintro e w' ⟨rfl, ⟨nd, rfl⟩⟩; (try first | exact ⟨rfl, _, World.drewN_drewN _ _ _⟩ | exact ⟨rfl, _, Eq.trans (World.drewN_drewN _ _ _) (congrArg (World.drewN _) (Nat.add_assoc _ _ _))⟩)) | (go_at_call 19; (with_reducible refine (addr_IsGroup.calls a0 true _ A41.out).mono ?_); rintro e w' ⟨rfl, ⟨nd, rfl⟩⟩; (try first | exact ⟨rfl, _, World.drewN_drewN _ _ _⟩ | exact ⟨rfl, _, Eq.trans (World.drewN_drewN _ _ _) (congrArg (World.drewN _) (Nat.add_assoc _ _ _))⟩)) | (go_at_call 21; (with_reducible refine (addr_IsLocal.calls a0 false _ A43.out).mono ?_); rintro e w' ⟨rfl, ⟨nd, rfl⟩⟩; (try first | exact ⟨rfl, _, World.drewN_drewN _ _ _⟩ | exact ⟨rfl, _, Eq.trans (World.drewN_drewN _ _ _) (congrArg (World.drewN _) (Nat.add_assoc _ _ _))⟩)) | (go_at_call 23; (with_reducible refine (addr_IsAsked.calls a0 t226 _ A44.out).mono ?_); rintro e w' ⟨rfl, ⟨nd, rfl⟩⟩; (try first | exact ⟨rfl, _, World.drewN_drewN _ _ _⟩ | exact ⟨rfl, _, Eq.trans (World.drewN_drewN _ _ _) (congrArg (World.drewN _) (Nat.add_assoc _ _ _))⟩)))
             repeat (go_quiet (first | (go_at_call 19; (with_reducible refine (addr_IsGroup.calls a0 true _ A25.out).mono ?_); rintro e w' ⟨rfl, ⟨nd, rfl⟩⟩; (try first | exact ⟨rfl, _, World.drewN_drewN _ _ _⟩ | exact ⟨rfl, _, Eq.trans (World.drewN_drewN _ _ _) (congrArg (World.drewN _) (Nat.add_assoc _ _ _))⟩)) | (go_at_call 19; (with_reducible refine (addr_IsGroup.calls a2 true _ A27.out).mono ?_); rintro e w' ⟨rfl, ⟨nd, rfl⟩⟩; (try first | exact ⟨rfl, _, World.drewN_drewN _ _ _⟩ | exact ⟨rfl, _, Eq.trans (World.drewN_drewN _ _ _) (congrArg (World.drewN _) (Nat.add_assoc _ _ _))⟩)) | (go_at_call 19; (with_reducible refine (addr_IsGroup.calls a1 true _ A29.out).mono ?_); rintro e w' ⟨rfl, ⟨nd, rfl⟩⟩; (try first | exact ⟨rfl, _, World.drewN_drewN _ _ _⟩ | exact ⟨rfl, _, Eq.trans (World.drewN_drewN _ _ _) (congrArg (World.drewN _) (Nat.add_assoc _ _ _))⟩)) | (go_at_call 21; (with_reducible refine (addr_IsLocal.calls a0 false _ A31.out).mono ?_); rintro e w' ⟨rfl, ⟨nd, rfl⟩⟩; (try first | exact ⟨rfl, _, World.drewN_drewN _ _ _⟩ | exact ⟨rfl, _, Eq.trans (World.drewN_drewN _ _ _) (congrArg (World.drewN _) (Nat.add_assoc _ _ _))⟩)) | (go_at_call 19; (with_reducible refine (addr_IsGroup.calls a0 true _ A41.out).mono ?_); rintro e w' ⟨rfl, ⟨nd, rfl⟩⟩; (try first | exact ⟨rfl, _, World.drewN_drewN _ _ _⟩ | exact ⟨rfl, _, Eq.trans (World.drewN_drewN _ _ _) (congrArg (World.drewN _) (Nat.add_assoc _ _ _))⟩)) | (go_at_call 21; (with_reducible refine (addr_IsLocal.calls a0 false _ A43.out).mono ?_); rintro e w' ⟨rfl, ⟨nd, rfl⟩⟩; (try first | exact ⟨rfl, _, World.drewN_drewN _ _ _⟩ | exact ⟨rfl, _, Eq.trans (World.drewN_drewN _ _ _) (congrArg (World.drewN _) (Nat.add_assoc _ _ _))⟩)) | (go_at_call 23; (with_reducible refine (addr_IsAsked.calls a0 t226 _ A44.out).mono ?_); rintro e w' ⟨rfl, ⟨nd, rfl⟩⟩; (try first | exact ⟨rfl, _, World.drewN_drewN _ _ _⟩ | exact ⟨rfl, _, Eq.trans (World.drewN_drewN _ _ _) (congrArg (World.drewN _) (Nat.add_assoc _ _ _))⟩))); try go_wp2_with (first | (go_at_call 19; (with_reducible refine (addr_IsGroup.calls a0 true _ A25.out).mono ?_); rintro e w' ⟨rfl, ⟨nd, rfl⟩⟩; (try first | exact ⟨rfl, _, World.drewN_drewN _ _ _⟩ | exact ⟨rfl, _, Eq.trans (World.drewN_drewN _ _ _) (congrArg (World.drewN _) (Nat.add_assoc _ _ _))⟩)) | (go_at_call 19; (with_reducible refine (addr_IsGroup.calls a2 true _ A27.out).mono ?_); rintro e w' ⟨rfl, ⟨nd, rfl⟩⟩; (try first | exact ⟨rfl, _, World.drewN_drewN _ _ _⟩ | exact ⟨rfl, _, Eq.trans (World.drewN_drewN _ _ _) (congrArg (World.drewN _) (Nat.add_assoc _ _ _))⟩)) | (go_at_call 19; (with_reducible refine (addr_IsGroup.calls a1 true _ A29.out).mono ?_); rintro e w' ⟨rfl, ⟨nd, rfl⟩⟩; (try first | exact ⟨rfl, _, World.drewN_drewN _ _ _⟩ | exact ⟨rfl, _, Eq.trans (World.drewN_drewN _ _ _) (congrArg (World.drewN _) (Nat.add_assoc _ _ _))⟩)) | (go_at_call 21; (with_reducible refine (addr_IsLocal.calls a0 false _ A31.out).mono ?_); rintro e w' ⟨rfl, ⟨nd, rfl⟩⟩; (try first | exact ⟨rfl, _, World.drewN_drewN _ _ _⟩ | exact ⟨rfl, _, Eq.trans (World.drewN_drewN _ _ _) (congrArg (World.drewN _) (Nat.add_assoc _ _ _))⟩)) | (go_at_call 19; (with_reducible refine (addr_IsGroup.calls a0 true _ A41.out).mono ?_); rintro e w' ⟨rfl, ⟨nd, rfl⟩⟩; (try first | exact ⟨rfl, _, World.drewN_drewN _ _ _⟩ | exact ⟨rfl, _, Eq.trans (World.drewN_drewN _ _ _) (congrArg (World.drewN _) (Nat.add_assoc _ _ _))⟩)) | (go_at_call 21; (with_reducible refine (addr_IsLocal.calls a0 false _ A43.out).mono ?_); rintro e w' ⟨rfl, ⟨nd, rfl⟩⟩; (try first | exact ⟨rfl, _, World.drewN_drewN _ _ _⟩ | exact ⟨rfl, _, Eq.trans (World.drewN_drewN _ _ _) (congrArg (World.drewN _) (Nat.add_assoc _ _ _))⟩)) | (go_at_call 23; (with_reducible refine (addr_IsAsked.calls a0 t226 _ A44.out).mono ?_); rintro e w' ⟨rfl, ⟨nd, rfl⟩⟩; (try first | exact ⟨rfl, _, World.drewN_drewN _ _ _⟩ | exact ⟨rfl, _, Eq.trans (World.drewN_drewN _ _ _) (congrArg (World.drewN _) (Nat.add_assoc _ _ _))⟩))))
             go_ret
             exact ⟨ew_, bz_⟩
          ·replace c30 := Bool.eq_false_iff.mpr c30
           subst c30
           have H1 : (some false) = some r := by rw [if_neg (show ¬ (false = true) by decide)] at H; exact H
           clear H
           have H := H1
           clear H1
           exact absurd ((Option.some.inj H).trans hTrue.out) (by simp)
         ·replace c28 := Bool.eq_false_iff.mpr c28
          subst c28
          have H1 : ((addr_IsLocal.f a0).bind fun t227 => (if t227 = true then ((addr_IsGroup.f a0).bind fun t228 => (if t228 = true then ((addr_IsAsked.f a0).bind fun t229 => (if t229 = true then (some false) else ((addr_IsGroup.f a0).bind fun t230 => (if t230 = true then ((addr_IsLocal.f a0).bind fun t231 => ((addr_IsAsked.f a0).bind fun t232 => (some (t231 != t232)))) else (some true))))) else (some false))) else ((addr_IsGroup.f a0).bind fun t233 => (if t233 = true then ((addr_IsLocal.f a0).bind fun t234 => ((addr_IsAsked.f a0).bind fun t235 => (some (t234 != t235)))) else (some true))))) = some r := by rw [if_neg (show ¬ (false = true) by decide)] at H; exact H
          clear H
          have H := H1
          clear H1
          replace H := Option.bind_eq_some_iff.mp H
          obtain ⟨t227, A450, H⟩ := H
          replace H : (if t227 = true then ((addr_IsGroup.f a0).bind fun t228 => (if t228 = true then ((addr_IsAsked.f a0).bind fun t229 => (if t229 = true then (some false) else ((addr_IsGroup.f a0).bind fun t230 => (if t230 = true then ((addr_IsLocal.f a0).bind fun t231 => ((addr_IsAsked.f a0).bind fun t232 => (some (t231 != t232)))) else (some true))))) else (some false))) else ((addr_IsGroup.f a0).bind fun t233 => (if t233 = true then ((addr_IsLocal.f a0).bind fun t234 => ((addr_IsAsked.f a0).bind fun t235 => (some (t234 != t235)))) else (some true)))) = some r := H
          have A45 := m_ A450
          clear A450
          by_cases c46 : t227 = true
          ·subst c46
           have H1 : ((addr_IsGroup.f a0).bind fun t228 => (if t228 = true then ((addr_IsAsked.f a0).bind fun t229 => (if t229 = true then (some false) else ((addr_IsGroup.f a0).bind fun t230 => (if t230 = true then ((addr_IsLocal.f a0).bind fun t231 => ((addr_IsAsked.f a0).bind fun t232 => (some (t231 != t232)))) else (some true))))) else (some false))) = some r := by rw [if_pos rfl] at H; exact H
           clear H
           have H := H1
           clear H1
           replace H := Option.bind_eq_some_iff.mp H
           obtain ⟨t228, A470, H⟩ := H
           replace H : (if t228 = true then ((addr_IsAsked.f a0).bind fun t229 => (if t229 = true then (some false) else ((addr_IsGroup.f a0).bind fun t230 => (if t230 = true then ((addr_IsLocal.f a0).bind fun t231 => ((addr_IsAsked.f a0).bind fun t232 => (some (t231 != t232)))) else (some true))))) else (some false)) = some r := H
           have A47 := m_ A470
           clear A470
           have z_ := Option.some.inj (A25.out.symm.trans A47.out)
           subst z_
           have c48x := ()
           ·clear c48x
            have H1 : ((addr_IsAsked.f a0).bind fun t229 => (if t229 = true then (some false) else ((addr_IsGroup.f a0).bind fun t230 => (if t230 = true then ((addr_IsLocal.f a0).bind fun t231 => ((addr_IsAsked.f a0).bind fun t232 => (some (t231 != t232)))) else (some true))))) = some r := by rw [if_pos rfl] at H; exact H
            clear H
            have H := H1
            clear H1
            replace H := Option.bind_eq_some_iff.mp H
            obtain ⟨t229, A490, H⟩ := H
            replace H : (if t229 = true then (some false) else ((addr_IsGroup.f a0).bind fun t230 => (if t230 = true then ((addr_IsLocal.f a0).bind fun t231 => ((addr_IsAsked.f a0).bind fun t232 => (some (t231 != t232)))) else (some true)))) = some r := H
            have A49 := m_ A490
            clear A490
            by_cases c50 : t229 = true
            ·subst c50
             have H1 : (some false) = some r := by rw [if_pos rfl] at H; exact H
             clear H
             have H := H1
             clear H1
             exact absurd ((Option.some.inj H).trans hTrue.out) (by simp)
            ·replace c50 := Bool.eq_false_iff.mpr c50
             subst c50
             have H1 : ((addr_IsGroup.f a0).bind fun t230 => (if t230 = true then ((addr_IsLocal.f a0).bind fun t231 => ((addr_IsAsked.f a0).bind fun t232 => (some (t231 != t232)))) else (some true))) = some r := by rw [if_neg (show ¬ (false = true) by decide)] at H; exact H
             clear H
             have H := H1
             clear H1
             replace H := Option.bind_eq_some_iff.mp H
             obtain ⟨t230, A510, H⟩ := H
             replace H : (if t230 = true then ((addr_IsLocal.f a0).bind fun t231 => ((addr_IsAsked.f a0).bind fun t232 => (some (t231 != t232)))) else (some true)) = some r := H
             have A51 := m_ A510
             clear A510
             have z_ := Option.some.inj (A25.out.symm.trans A51.out)
             subst z_
             have c52x := ()
             ·clear c52x
              have H1 : ((addr_IsLocal.f a0).bind fun t231 => ((addr_IsAsked.f a0).bind fun t232 => (some (t231 != t232)))) = some r := by rw [if_pos rfl] at H; exact H
              clear H
              have H := H1
              clear H1
              replace H := Option.bind_eq_some_iff.mp H
              obtain ⟨t231, A530, H⟩ := H
              replace H : ((addr_IsAsked.f a0).bind fun t232 => (some (t231 != t232))) = some r := H
              have A53 := m_ A530
              clear A530
              have z_ := Option.some.inj (A45.out.symm.trans A53.out)
              subst z_
              replace H := Option.bind_eq_some_iff.mp H
              obtain ⟨t232, A540, H⟩ := H
              replace H : (some (true != t232)) = some r := H
              have A54 := m_ A540
              clear A540
              have z_ := Option.some.inj (A49.out.symm.trans A54.out)
              subst z_
              obtain rfl := Option.some.inj H
              go_wp2_with (first | (go_at_call 19; (with_reducible refine (addr_IsGroup.calls a0 true _ A25.out).mono ?_); rintro e w' ⟨rfl, ⟨nd, rfl⟩⟩; (try first | exact ⟨rfl, _, World.drewN_drewN _ _ _⟩ | exact ⟨rfl, _, Eq.trans (World.drewN_drewN _ _ _) (congrArg (World.drewN _) (Nat.add_assoc _ _ _))⟩)) | (go_at_call 19; (with_reducible refine (addr_IsGroup.calls a2 false _ A27.out).mono ?_); rintro e w' ⟨rfl, ⟨nd, rfl⟩⟩; (try first | exact ⟨rfl, _, World.drewN_drewN _ _ _⟩ | exact ⟨rfl, _, Eq.trans (World.drewN_drewN _ _ _) (congrArg (World.drewN _) (Nat.add_assoc _ _ _))⟩)) | (go_at_call 21; (with_reducible refine (addr_IsLocal.calls a0 true _ A45.out).mono ?_); rintro e w' ⟨rfl, ⟨nd, rfl⟩⟩; (try first | exact ⟨rfl, _, World.drewN_drewN _ _ _⟩ | exact ⟨rfl, _, Eq.trans (World.drewN_drewN _ _ _) (congrArg (World.drewN _) (Nat.add_assoc _ _ _))⟩)) | (go_at_call 19; (with_reducible refine (addr_IsGroup.calls a0 true _ A47.out).mono ?_); rintro e w' ⟨rfl, ⟨nd, rfl⟩⟩; (try first | exact ⟨rfl, _, World.drewN_drewN _ _ _⟩ | exact ⟨rfl, _, Eq.trans (World.drewN_drewN _ _ _) (congrArg (World.drewN _) (Nat.add_assoc _ _ _))⟩)) | (go_at_call 23; (with_reducible refine (addr_IsAsked.calls a0 false _ A49.out).mono ?_); rintro e w' ⟨rfl, ⟨nd, rfl⟩⟩; (try first | exact ⟨rfl, _, World.drewN_drewN _ _ _⟩ | exact ⟨rfl, _, Eq.trans (World.drewN_drewN _ _ _) (congrArg (World.drewN _) (Nat.add_assoc _ _ _))⟩)) | (go_at_call 19; (with_reducible refine (addr_IsGroup.calls a0 true _ A51.out).mono ?_); rintro e w' ⟨rfl, ⟨nd, rfl⟩⟩; (try first | exact ⟨rfl, _, World.drewN_drewN _ _ _⟩ | exact ⟨rfl, _, Eq.trans (World.drewN_drewN _ _ _) (congrArg (World.drewN _) (Nat.add_assoc _ _ _))⟩)) | (go_at_call 21; (with_reducible refine (addr_IsLocal.calls a0 true _ A53.out).mono ?_); rintro e w' ⟨rfl, ⟨nd, rfl⟩⟩; (try first | exact ⟨rfl, _, World.drewN_drewN _ _ _⟩ | exact ⟨rfl, _, Eq.trans (World.drewN_drewN _ _ _) (congrArg (World.drewN _) (Nat.add_assoc _ _ _))⟩)) | (go_at_call 23; (with_reducible refine (addr_IsAsked.calls a0 false _ A54.out).mono ?_); rintro e w' ⟨rfl, ⟨nd, rfl⟩⟩; (try first | exact ⟨rfl, _, World.drewN_drewN _ _ _⟩ | exact ⟨rfl, _, Eq.trans (World.drewN_drewN _ _ _) (congrArg (World.drewN _) (Nat.add_assoc _ _ _))⟩)))
              repeat (go_quiet (first | (go_at_call 19; (with_reducible refine (addr_IsGroup.calls a0 true _ A25.out).mono ?_); rintro e w' ⟨rfl, ⟨nd, rfl⟩⟩; (try first | exact ⟨rfl, _, World.drewN_drewN _ _ _⟩ | exact ⟨rfl, _, Eq.trans (World.drewN_drewN _ _ _) (congrArg (World.drewN _) (Nat.add_assoc _ _ _))⟩)) | (go_at_call 19; (with_reducible refine (addr_IsGroup.calls a2 false _ A27.out).mono ?_); rintro e w' ⟨rfl, ⟨nd, rfl⟩⟩; (try first | exact ⟨rfl, _, World.drewN_drewN _ _ _⟩ | exact ⟨rfl, _, Eq.trans (World.drewN_drewN _ _ _) (congrArg (World.drewN _) (Nat.add_assoc _ _ _))⟩)) | (go_at_call 21; (with_reducible refine (addr_IsLocal.calls a0 true _ A45.out).mono ?_); rintro e w' ⟨rfl, ⟨nd, rfl⟩⟩; (try first | exact ⟨rfl, _, World.drewN_drewN _ _ _⟩ | exact ⟨rfl, _, Eq.trans (World.drewN_drewN _ _ _) (congrArg (World.drewN _) (Nat.add_assoc _ _ _))⟩)) | (go_at_call 19; (with_reducible refine (addr_IsGroup.calls a0 true _ A47.out).mono ?_); rintro e w' ⟨rfl, ⟨nd, rfl⟩⟩; (try first | exact ⟨rfl, _, World.drewN_drewN _ _ _⟩ | exact ⟨rfl, _, Eq.trans (World.drewN_drewN _ _ _) (congrArg (World.drewN _) (Nat.add_assoc _ _ _))⟩)) | (go_at_call 23; (with_reducible refine (addr_IsAsked.calls a0 false _ A49.out).mono ?_); rintro e w' ⟨rfl, ⟨nd, rfl⟩⟩; (try first | exact ⟨rfl, _, World.drewN_drewN _ _ _⟩ | exact ⟨rfl, _, Eq.trans (World.drewN_drewN _ _ _) (congrArg (World.drewN _) (Nat.add_assoc _ _ _))⟩)) | (go_at_call 19; (with_reducible refine (addr_IsGroup.calls a0 true _ A51.out).mono ?_); rintro e w' ⟨rfl, ⟨nd, rfl⟩⟩; (try first | exact ⟨rfl, _, World.drewN_drewN _ _ _⟩ | exact ⟨rfl, _, Eq.trans (World.drewN_drewN _ _ _) (congrArg (World.drewN _) (Nat.add_assoc _ _ _))⟩)) | (go_at_call 21; (with_reducible refine (addr_IsLocal.calls a0 true _ A53.out).mono ?_); rintro e w' ⟨rfl, ⟨nd, rfl⟩⟩; (try first | exact ⟨rfl, _, World.drewN_drewN _ _ _⟩ | exact ⟨rfl, _, Eq.trans (World.drewN_drewN _ _ _) (congrArg (World.drewN _) (Nat.add_assoc _ _ _))⟩)) | (go_at_call 23; (with_reducible refine (addr_IsAsked.calls a0 false _ A54.out).mono ?_); rintro e w' ⟨rfl, ⟨nd, rfl⟩⟩; (try first | exact ⟨rfl, _, World.drewN_drewN _ _ _⟩ | exact ⟨rfl, _, Eq.trans (World.drewN_drewN _ _ _) (congrArg (World.drewN _) (Nat.add_assoc _ _ _))⟩))); try go_wp2_with (first | (go_at_call 19; (with_reducible refine (addr_IsGroup.calls a0 true _ A25.out).mono ?_); rintro e w' ⟨rfl, ⟨nd, rfl⟩⟩; (try first | exact ⟨rfl, _, World.drewN_drewN _ _ _⟩ | exact ⟨rfl, _, Eq.trans (World.drewN_drewN _ _ _) (congrArg (World.drewN _) (Nat.add_assoc _ _ _))⟩)) | (go_at_call 19; (with_reducible refine (addr_IsGroup.calls a2 false _ A27.out).mono ?_); rintro e w' ⟨rfl, ⟨nd, rfl⟩⟩; (try first | exact ⟨rfl, _, World.drewN_drewN _ _ _⟩ | exact ⟨rfl, _, Eq.trans (World.drewN_drewN _ _ _) (congrArg (World.drewN _) (Nat.add_assoc _ _ _))⟩)) | (go_at_call 21; (with_reducible refine (addr_IsLocal.calls a0 true _ A45.out).mono ?_); rintro e w' ⟨rfl, ⟨nd, rfl⟩⟩; (try first | exact ⟨rfl, _, World.drewN_drewN _ _ _⟩ | exact ⟨rfl, _, Eq.trans (World.drewN_drewN _ _ _) (congrArg (World.drewN _) (Nat.add_assoc _ _ _))⟩)) | (go_at_call 19; (with_reducible refine (addr_IsGroup.calls a0 true _ A47.out).mono ?_); rintro e w' ⟨rfl, ⟨nd, rfl⟩⟩; (try first | exact ⟨rfl, _, World.drewN_drewN _ _ _⟩ | exact ⟨rfl, _, Eq.trans (World.drewN_drewN _ _ _) (congrArg (World.drewN _) (Nat.add_assoc _ _ _))⟩)) | (go_at_call 23; (with_reducible refine (addr_IsAsked.calls a0 false _ A49.out).mono ?_); rintro e w' ⟨rfl, ⟨nd, rfl⟩⟩; (try first | exact ⟨rfl, _, World.drewN_drewN _ _ _⟩ | exact ⟨rfl, _, Eq.trans (World.drewN_drewN _ _ _) (congrArg (World.drewN _) (Nat.add_assoc _ _ _))⟩)) | (go_at_call 19; (with_reducible refine (addr_IsGroup.calls a0 true _ A51.out).mono ?_); rintro e w' ⟨rfl, ⟨nd, rfl⟩⟩; (try first | exact ⟨rfl, _, World.drewN_drewN _ _ _⟩ | exact ⟨rfl, _, Eq.trans (World.drewN_drewN _ _ _) (congrArg (World.drewN _) (Nat.add_assoc _ _ _))⟩)) | (go_at_call 21; (with_reducible refine (addr_IsLocal.calls a0 true _ A53.out).mono ?_); rintro e w' ⟨rfl, ⟨nd, rfl⟩⟩; (try first | exact ⟨rfl, _, World.drewN_drewN _ _ _⟩ | exact ⟨rfl, _, Eq.trans (World.drewN_drewN _ _ _) (congrArg (World.drewN _) (Nat.add_assoc _ _ _))⟩)) | (go_at_call 23; (with_reducible refine (addr_IsAsked.calls a0 false _ A54.out).mono ?_); rintro e w' ⟨rfl, ⟨nd, rfl⟩⟩; (try first | exact ⟨rfl, _, World.drewN_drewN _ _ _⟩ | exact ⟨rfl, _, Eq.trans (World.drewN_drewN _ _ _) (congrArg (World.drewN _) (Nat.add_assoc _ _ _))⟩))))
              go_ret
              exact ⟨ew_, bz_⟩
          ·replace c46 := Bool.eq_false_iff.mpr c46
           subst c46
           have H1 : ((addr_IsGroup.f a0).bind fun t233 => (if t233 = true then ((addr_IsLocal.f a0).bind fun t234 => ((addr_IsAsked.f a0).bind fun t235 => (some (t234 != t235)))) else (some true))) = some r := by rw [if_neg (show ¬ (false = true) by decide)] at H; exact H
           clear H
           have H := H1
           clear H1
           replace H := Option.bind_eq_some_iff.mp H
           obtain ⟨t233, A550, H⟩ := H
           replace H : (if t233 = true then ((addr_IsLocal.f a0).bind fun t234 => ((addr_IsAsked.f a0).bind fun t235 => (some (t234 != t235)))) else (some true)) = some r := H
           have A55 := m_ A550
           clear A550
           have z_ := Option.some.inj (A25.out.symm.trans A55.out)
           subst z_
           have c56x := ()
           ·clear c56x
            have H1 : ((addr_IsLocal.f a0).bind fun t234 => ((addr_IsAsked.f a0).bind fun t235 => (some (t234 != t235)))) = some r := by rw [if_pos rfl] at H; exact H
            clear H
            have H := H1
            clear H1
            replace H := Option.bind_eq_some_iff.mp H
            obtain ⟨t234, A570, H⟩ := H
            replace H : ((addr_IsAsked.f a0).bind fun t235 => (some (t234 != t235))) = some r := H
            have A57 := m_ A570
            clear A570
            have z_ := Option.some.inj (A45.out.symm.trans A57.out)
            subst z_
            replace H := Option.bind_eq_some_iff.mp H
            obtain ⟨t235, A580, H⟩ := H
            replace H : (some (false != t235)) = some r := H
            have A58 := m_ A580
            clear A580
            obtain rfl := Option.some.inj H
            go_wp2_with (first | (go_at_call 19; (with_reducible refine (addr_IsGroup.calls a0 true _ A25.out).mono ?_); rintro e w' ⟨rfl, ⟨nd, rfl⟩⟩; (try first | exact ⟨rfl, _, World.drewN_drewN _ _ _⟩ | exact ⟨rfl, _, Eq.trans (World.drewN_drewN _ _ _) (congrArg (World.drewN _) (Nat.add_assoc _ _ _))⟩)) | (go_at_call 19; (with_reducible refine (addr_IsGroup.calls a2 false _ A27.out).mono ?_); rintro e w' ⟨rfl, ⟨nd, rfl⟩⟩; (try first | exact ⟨rfl, _, World.drewN_drewN _ _ _⟩ | exact ⟨rfl, _, Eq.trans (World.drewN_drewN _ _ _) (congrArg (World.drewN _) (Nat.add_assoc _ _ _))⟩)) | (go_at_call 21; (with_reducible refine (addr_IsLocal.calls a0 false _ A45.out).mono ?_); rintro e w' ⟨rfl, ⟨nd, rfl⟩⟩; (try first | exact ⟨rfl, _, World.drewN_drewN _ _ _⟩ | exact ⟨rfl, _, Eq.trans (World.drewN_drewN _ _ _) (congrArg (World.drewN _) (Nat.add_assoc _ _ _))⟩)) | (go_at_call 19; (with_reducible refine (addr_IsGroup.calls a0 true _ A55.out).mono ?_); rintro e w' ⟨rfl, ⟨nd, rfl⟩⟩; (try first | exact ⟨rfl, _, World.drewN_drewN _ _ _⟩ | exact ⟨rfl, _, Eq.trans (World.drewN_drewN _ _ _) (congrArg (World.drewN _) (Nat.add_assoc _ _ _))⟩)) | (go_at_call 21; (with_reducible refine (addr_IsLocal.calls a0 false _ A57.out).mono ?_); rintro e w' ⟨rfl, ⟨nd, rfl⟩⟩; (try first | exact ⟨rfl, _, World.drewN_drewN _ _ _⟩ | exact ⟨rfl, _, Eq.trans (World.drewN_drewN _ _ _) (congrArg (World.drewN _) (Nat.add_assoc _ _ _))⟩)) | (go_at_call 23; (with_reducible refine (addr_IsAsked.calls a0 t235 _ A58.out).mono ?_); rintro e w' ⟨rfl, ⟨nd, rfl⟩⟩; (try first | exact ⟨rfl, _, World.drewN_drewN _ _ _⟩ | exact ⟨rfl, _, Eq.trans (World.drewN_drewN _ _ _) (congrArg (World.drewN _) (Nat.add_assoc _ _ _))⟩)))
            repeat (go_quiet (first | (go_at_call 19; (with_reducible refine (addr_IsGroup.calls a0 true _ A25.out).mono ?_); rintro e w' ⟨rfl, ⟨nd, rfl⟩⟩; (try first | exact ⟨rfl, _, World.drewN_drewN _ _ _⟩ | exact ⟨rfl, _, Eq.trans (World.drewN_drewN _ _ _) (congrArg (World.drewN _) (Nat.add_assoc _ _ _))⟩)) | (go_at_call 19; (with_reducible refine (addr_IsGroup.calls a2 false _ A27.out).mono ?_); rintro e w' ⟨rfl, ⟨nd, rfl⟩⟩; (try first | exact ⟨rfl, _, World.drewN_drewN _ _ _⟩ | exact ⟨rfl, _, Eq.trans (World.drewN_drewN _ _ _) (congrArg (World.drewN _) (Nat.add_assoc _ _ _))⟩)) | (go_at_call 21; (with_reducible refine (addr_IsLocal.calls a0 false _ A45.out).mono ?_); rintro e w' ⟨rfl, ⟨nd, rfl⟩⟩; (try first | exact ⟨rfl, _, World.drewN_drewN _ _ _⟩ | exact ⟨rfl, _, Eq.trans (World.drewN_drewN _ _ _) (congrArg (World.drewN _) (Nat.add_assoc _ _ _))⟩)) | (go_at_call 19; (with_reducible refine (addr_IsGroup.calls a0 true _ A55.out).mono ?_); rintro e w' ⟨rfl, ⟨nd, rfl⟩⟩; (try first | exact ⟨rfl, _, World.drewN_drewN _ _ _⟩ | exact ⟨rfl, _, Eq.trans (World.drewN_drewN _ _ _) (congrArg (World.drewN _) (Nat.add_assoc _ _ _))⟩)) | (go_at_call 21; (with_reducible refine (addr_IsLocal.calls a0 false _ A57.out).mono ?_); rintro e w' ⟨rfl, ⟨nd, rfl⟩⟩; (try first | exact ⟨rfl, _, World.drewN_drewN _ _ _⟩ | exact ⟨rfl, _, Eq.trans (World.drewN_drewN _ _ _) (congrArg (World.drewN _) (Nat.add_assoc _ _ _))⟩)) | (go_at_call 23; (with_reducible refine (addr_IsAsked.calls a0 t235 _ A58.out).mono ?_); rintro e w' ⟨rfl, ⟨nd, rfl⟩⟩; (try first | exact ⟨rfl, _, World.drewN_drewN _ _ _⟩ | exact ⟨rfl, _, Eq.trans (World.drewN_drewN _ _ _) (congrArg (World.drewN _) (Nat.add_assoc _ _ _))⟩))); try go_wp2_with (first | (go_at_call 19; (with_reducible refine (addr_IsGroup.calls a0 true _ A25.out).mono ?_); rintro e w' ⟨rfl, ⟨nd, rfl⟩⟩; (try first | exact ⟨rfl, _, World.drewN_drewN _ _ _⟩ | exact ⟨rfl, _, Eq.trans (World.drewN_drewN _ _ _) (congrArg (World.drewN _) (Nat.add_assoc _ _ _))⟩)) | (go_at_call 19; (with_reducible refine (addr_IsGroup.calls a2 false _ A27.out).mono ?_); rintro e w' ⟨rfl, ⟨nd, rfl⟩⟩; (try first | exact ⟨rfl, _, World.drewN_drewN _ _ _⟩ | exact ⟨rfl, _, Eq.trans (World.drewN_drewN _ _ _) (congrArg (World.drewN _) (Nat.add_assoc _ _ _))⟩)) | (go_at_call 21; (with_reducible refine (addr_IsLocal.calls a0 false _ A45.out).mono ?_); rintro e w' ⟨rfl, ⟨nd, rfl⟩⟩; (try first | exact ⟨rfl, _, World.drewN_drewN _ _ _⟩ | exact ⟨rfl, _, Eq.trans (World.drewN_drewN _ _ _) (congrArg (World.drewN _) (Nat.add_assoc _ _ _))⟩)) | (go_at_call 19; (with_reducible refine (addr_IsGroup.calls a0 true _ A55.out).mono ?_); rintro e w' ⟨rfl, ⟨nd, rfl⟩⟩; (try first | exact ⟨rfl, _, World.drewN_drewN _ _ _⟩ | exact ⟨rfl, _, Eq.trans (World.drewN_drewN _ _ _) (congrArg (World.drewN _) (Nat.add_assoc _ _ _))⟩)) | (go_at_call 21; (with_reducible refine (addr_IsLocal.calls a0 false _ A57.out).mono ?_); rintro e w' ⟨rfl, ⟨nd, rfl⟩⟩; (try first | exact ⟨rfl, _, World.drewN_drewN _ _ _⟩ | exact ⟨rfl, _, Eq.trans (World.drewN_drewN _ _ _) (congrArg (World.drewN _) (Nat.add_assoc _ _ _))⟩)) | (go_at_call 23; (with_reducible refine (addr_IsAsked.calls a0 t235 _ A58.out).mono ?_); rintro e w' ⟨rfl, ⟨nd, rfl⟩⟩; (try first | exact ⟨rfl, _, World.drewN_drewN _ _ _⟩ | exact ⟨rfl, _, Eq.trans (World.drewN_drewN _ _ _) (congrArg (World.drewN _) (Nat.add_assoc _ _ _))⟩))))
            go_ret
            exact ⟨ew_, bz_⟩
        ·replace c26 := Bool.eq_false_iff.mpr c26
         subst c26
         have H1 : ((addr_IsLocal.f a0).bind fun t236 => (if t236 = true then ((addr_IsGroup.f a0).bind fun t237 => (if t237 = true then ((addr_IsAsked.f a0).bind fun t238 => (if t238 = true then (some false) else ((addr_IsGroup.f a0).bind fun t239 => (if t239 = true then ((addr_IsLocal.f a0).bind fun t240 => ((addr_IsAsked.f a0).bind fun t241 => (some (t240 != t241)))) else (some true))))) else (some false))) else ((addr_IsGroup.f a0).bind fun t242 => (if t242 = true then ((addr_IsLocal.f a0).bind fun t243 => ((addr_IsAsked.f a0).bind fun t244 => (some (t243 != t244)))) else (some true))))) = some r := by rw [if_neg (show ¬ (false = true) by decide)] at H; exact H
         clear H
         have H := H1
         clear H1
         replace H := Option.bind_eq_some_iff.mp H
         obtain ⟨t236, A590, H⟩ := H
         replace H : (if t236 = true then ((addr_IsGroup.f a0).bind fun t237 => (if t237 = true then ((addr_IsAsked.f a0).bind fun t238 => (if t238 = true then (some false) else ((addr_IsGroup.f a0).bind fun t239 => (if t239 = true then ((addr_IsLocal.f a0).bind fun t240 => ((addr_IsAsked.f a0).bind fun t241 => (some (t240 != t241)))) else (some true))))) else (some false))) else ((addr_IsGroup.f a0).bind fun t242 => (if t242 = true then ((addr_IsLocal.f a0).bind fun t243 => ((addr_IsAsked.f a0).bind fun t244 => (some (t243 != t244)))) else (some true)))) = some r := H
         have A59 := m_ A590
         clear A590
         by_cases c60 : t236 = true
         ·subst c60
          have H1 : ((addr_IsGroup.f a0).bind fun t237 => (if t237 = true then ((addr_IsAsked.f a0).bind fun t238 => (if t238 = true then (some false) else ((addr_IsGroup.f a0).bind fun t239 => (if t239 = true then ((addr_IsLocal.f a0).bind fun t240 => ((addr_IsAsked.f a0).bind fun t241 => (some (t240 != t241)))) else (some true))))) else (some false))) = some r := by rw [if_pos rfl] at H; exact H
          clear H
          have H := H1
          clear H1
          replace H := Option.bind_eq_some_iff.mp H
          obtain ⟨t237, A610, H⟩ := H
          replace H : (if t237 = true then ((addr_IsAsked.f a0).bind fun t238 => (if t238 = true then (some false) else ((addr_IsGroup.f a0).bind fun t239 => (if t239 = true then ((addr_IsLocal.f a0).bind fun t240 => ((addr_IsAsked.f a0).bind fun t241 => (some (t240 != t241)))) else (some true))))) else (some false)) = some r := H
          have A61 := m_ A610
          clear A610
          have z_ := Option.some.inj (A25.out.symm.trans A61.out)
          subst z_
          ·skip
           have H1 : (some false) = some r := by rw [if_neg (show ¬ (false = true) by decide)] at H; exact H
           clear H
           have H := H1
           clear H1
           exact absurd ((Option.some.inj H).trans hTrue.out) (by simp)
         ·replace c60 := Bool.eq_false_iff.mpr c60
          subst c60
          have H1 : ((addr_IsGroup.f a0).bind fun t242 => (if t242 = true then ((addr_IsLocal.f a0).bind fun t243 => ((addr_IsAsked.f a0).bind fun t244 => (some (t243 != t244)))) else (some true))) = some r := by rw [if_neg (show ¬ (false = true) by decide)] at H; exact H
          clear H
          have H := H1
          clear H1
          replace H := Option.bind_eq_some_iff.mp H
          obtain ⟨t242, A690, H⟩ := H
          replace H : (if t242 = true then ((addr_IsLocal.f a0).bind fun t243 => ((addr_IsAsked.f a0).bind fun t244 => (some (t243 != t244)))) else (some true)) = some r := H
          have A69 := m_ A690
          clear A690
          have z_ := Option.some.inj (A25.out.symm.trans A69.out)
          subst z_
          ·skip
           have H1 : (some true) = some r := by rw [if_neg (show ¬ (false = true) by decide)] at H; exact H
           clear H
           have H := H1
           clear H1
           obtain rfl := Option.some.inj H
           go_wp2_with (first | (go_at_call 19; (with_reducible refine (addr_IsGroup.calls a0 false _ A25.out).mono ?_); rintro e w' ⟨rfl, ⟨nd, rfl⟩⟩; (try first | exact ⟨rfl, _, World.drewN_drewN _ _ _⟩ | exact ⟨rfl, _, Eq.trans (World.drewN_drewN _ _ _) (congrArg (World.drewN _) (Nat.add_assoc _ _ _))⟩)) | (go_at_call 21; (with_reducible refine (addr_IsLocal.calls a0 false _ A59.out).mono ?_); rintro e w' ⟨rfl, ⟨nd, rfl⟩⟩; (try first | exact ⟨rfl, _, World.drewN_drewN _ _ _⟩ | exact ⟨rfl, _, Eq.trans (World.drewN_drewN _ _ _) (congrArg (World.drewN _) (Nat.add_assoc _ _ _))⟩)) | (go_at_call 19; (with_reducible refine (addr_IsGroup.calls a0 false _ A69.out).mono ?_); rintro e w' ⟨rfl, ⟨nd, rfl⟩⟩; (try first | exact ⟨rfl, _, World.drewN_drewN _ _ _⟩ | exact ⟨rfl, _, Eq.trans (World.drewN_drewN _ _ _) (congrArg (World.drewN _) (Nat.add_assoc _ _ _))⟩)))
           repeat (go_quiet (first | (go_at_call 19; (with_reducible refine (addr_IsGroup.calls a0 false _ A25.out).mono ?_); rintro e w' ⟨rfl, ⟨nd, rfl⟩⟩; (try first | exact ⟨rfl, _, World.drewN_drewN _ _ _⟩ | exact ⟨rfl, _, Eq.trans (World.drewN_drewN _ _ _) (congrArg (World.drewN _) (Nat.add_assoc _ _ _))⟩)) | (go_at_call 21; (with_reducible refine (addr_IsLocal.calls a0 false _ A59.out).mono ?_); rintro e w' ⟨rfl, ⟨nd, rfl⟩⟩; (try first | exact ⟨rfl, _, World.drewN_drewN _ _ _⟩ | exact ⟨rfl, _, Eq.trans (World.drewN_drewN _ _ _) (congrArg (World.drewN _) (Nat.add_assoc _ _ _))⟩)) | (go_at_call 19; (with_reducible refine (addr_IsGroup.calls a0 false _ A69.out).mono ?_); rintro e w' ⟨rfl, ⟨nd, rfl⟩⟩; (try first | exact ⟨rfl, _, World.drewN_drewN _ _ _⟩ | exact ⟨rfl, _, Eq.trans (World.drewN_drewN _ _ _) (congrArg (World.drewN _) (Nat.add_assoc _ _ _))⟩))); try go_wp2_with (first | (go_at_call 19; (with_reducible refine (addr_IsGroup.calls a0 false _ A25.out).mono ?_); rintro e w' ⟨rfl, ⟨nd, rfl⟩⟩; (try first | exact ⟨rfl, _, World.drewN_drewN _ _ _⟩ | exact ⟨rfl, _, Eq.trans (World.drewN_drewN _ _ _) (congrArg (World.drewN _) (Nat.add_assoc _ _ _))⟩)) | (go_at_call 21; (with_reducible refine (addr_IsLocal.calls a0 false _ A59.out).mono ?_); rintro e w' ⟨rfl, ⟨nd, rfl⟩⟩; (try first | exact ⟨rfl, _, World.drewN_drewN _ _ _⟩ | exact ⟨rfl, _, Eq.trans (World.drewN_drewN _ _ _) (congrArg (World.drewN _) (Nat.add_assoc _ _ _))⟩)) | (go_at_call 19; (with_reducible refine (addr_IsGroup.calls a0 false _ A69.out).mono ?_); rintro e w' ⟨rfl, ⟨nd, rfl⟩⟩; (try first | exact ⟨rfl, _, World.drewN_drewN _ _ _⟩ | exact ⟨rfl, _, Eq.trans (World.drewN_drewN _ _ _) (congrArg (World.drewN _) (Nat.add_assoc _ _ _))⟩))))
           go_ret
           exact ⟨ew_, bz_⟩
       ·replace c24 := Bool.eq_false_iff.mpr c24
        subst c24
        have H1 : ((addr_IsLocal.f a0).bind fun t245 => (if t245 = true then ((addr_IsGroup.f a0).bind fun t246 => (if t246 = true then ((addr_IsAsked.f a0).bind fun t247 => (if t247 = true then (some false) else ((addr_IsGroup.f a0).bind fun t248 => (if t248 = true then ((addr_IsLocal.f a0).bind fun t249 => ((addr_IsAsked.f a0).bind fun t250 => (some (t249 != t250)))) else (some true))))) else (some false))) else ((addr_IsGroup.f a0).bind fun t251 => (if t251 = true then ((addr_IsLocal.f a0).bind fun t252 => ((addr_IsAsked.f a0).bind fun t253 => (some (t252 != t253)))) else (some true))))) = some r := by rw [if_neg (show ¬ (false = true) by decide)] at H; exact H
        clear H
        have H := H1
        clear H1
        replace H := Option.bind_eq_some_iff.mp H
        obtain ⟨t245, A730, H⟩ := H
        replace H : (if t245 = true then ((addr_IsGroup.f a0).bind fun t246 => (if t246 = true then ((addr_IsAsked.f a0).bind fun t247 => (if t247 = true then (some false) else ((addr_IsGroup.f a0).bind fun t248 => (if t248 = true then ((addr_IsLocal.f a0).bind fun t249 => ((addr_IsAsked.f a0).bind fun t250 => (some (t249 != t250)))) else (some true))))) else (some false))) else ((addr_IsGroup.f a0).bind fun t251 => (if t251 = true then ((addr_IsLocal.f a0).bind fun t252 => ((addr_IsAsked.f a0).bind fun t253 => (some (t252 != t253)))) else (some true)))) = some r := H
        have A73 := m_ A730
        clear A730
        by_cases c74 : t245 = true
        ·subst c74
         have H1 : ((addr_IsGroup.f a0).bind fun t246 => (if t246 = true then ((addr_IsAsked.f a0).bind fun t247 => (if t247 = true then (some false) else ((addr_IsGroup.f a0).bind fun t248 => (if t248 = true then ((addr_IsLocal.f a0).bind fun t249 => ((addr_IsAsked.f a0).bind fun t250 => (some (t249 != t250)))) else (some true))))) else (some false))) = some r := by rw [if_pos rfl] at H; exact H
         clear H
         have H := H1
         clear H1
         replace H := Option.bind_eq_some_iff.mp H
         obtain ⟨t246, A750, H⟩ := H
         replace H : (if t246 = true then ((addr_IsAsked.f a0).bind fun t247 => (if t247 = true then (some false) else ((addr_IsGroup.f a0).bind fun t248 => (if t248 = true then ((addr_IsLocal.f a0).bind fun t249 => ((addr_IsAsked.f a0).bind fun t250 => (some (t249 != t250)))) else (some true))))) else (some false)) = some r := H
         have A75 := m_ A750
         clear A750
         by_cases c76 : t246 = true
         ·subst c76
          have H1 : ((addr_IsAsked.f a0).bind fun t247 => (if t247 = true then (some false) else ((addr_IsGroup.f a0).bind fun t248 => (if t248 = true then ((addr_IsLocal.f a0).bind fun t249 => ((addr_IsAsked.f a0).bind fun t250 => (some (t249 != t250)))) else (some true))))) = some r := by rw [if_pos rfl] at H; exact H
          clear H
          have H := H1
          clear H1
          replace H := Option.bind_eq_some_iff.mp H
          obtain ⟨t247, A770, H⟩ := H
          replace H : (if t247 = true then (some false) else ((addr_IsGroup.f a0).bind fun t248 => (if t248 = true then ((addr_IsLocal.f a0).bind fun t249 => ((addr_IsAsked.f a0).bind fun t250 => (some (t249 != t250)))) else (some true)))) = some r := H
          have A77 := m_ A770
          clear A770
          by_cases c78 : t247 = true
          ·subst c78
           have H1 : (some false) = some r := by rw [if_pos rfl] at H; exact H
           clear H
           have H := H1
           clear H1
           exact absurd ((Option.some.inj H).trans hTrue.out) (by simp)
          ·replace c78 := Bool.eq_false_iff.mpr c78
           subst c78
           have H1 : ((addr_IsGroup.f a0).bind fun t248 => (if t248 = true then ((addr_IsLocal.f a0).bind fun t249 => ((addr_IsAsked.f a0).bind fun t250 => (some (t249 != t250)))) else (some true))) = some r := by rw [if_neg (show ¬ (false = true) by decide)] at H; exact H
           clear H
           have H := H1
           clear H1
           replace H := Option.bind_eq_some_iff.mp H
           obtain ⟨t248, A790, H⟩ := H
           replace H : (if t248 = true then ((addr_IsLocal.f a0).bind fun t249 => ((addr_IsAsked.f a0).bind fun t250 => (some (t249 != t250)))) else (some true)) = some r := H
           have A79 := m_ A790
           clear A790
           have z_ := Option.some.inj (A75.out.symm.trans A79.out)
           subst z_
           have c80x := ()
           ·clear c80x
            have H1 : ((addr_IsLocal.f a0).bind fun t249 => ((addr_IsAsked.f a0).bind fun t250 => (some (t249 != t250)))) = some r := by rw [if_pos rfl] at H; exact H
            clear H
            have H := H1
            clear H1
            replace H := Option.bind_eq_some_iff.mp H
            obtain ⟨t249, A810, H⟩ := H
            replace H : ((addr_IsAsked.f a0).bind fun t250 => (some (t249 != t250))) = some r := H
            have A81 := m_ A810
            clear A810
            have z_ := Option.some.inj (A73.out.symm.trans A81.out)
            subst z_
            replace H := Option.bind_eq_some_iff.mp H
            obtain ⟨t250, A820, H⟩ := H
            replace H : (some (true != t250)) = some r := H
            have A82 := m_ A820
            clear A820
            have z_ := Option.some.inj (A77.out.symm.trans A82.out)
            subst z_
            obtain rfl := Option.some.inj H
            go_wp2_with (first | (go_at_call 21; (with_reducible refine (addr_IsLocal.calls a0 true _ A73.out).mono ?_); rintro e w' ⟨rfl, ⟨nd, rfl⟩⟩; (try first | exact ⟨rfl, _, World.drewN_drewN _ _ _⟩ | exact ⟨rfl, _, Eq.trans (World.drewN_drewN _ _ _) (congrArg (World.drewN _) (Nat.add_assoc _ _ _))⟩)) | (go_at_call 19; (with_reducible refine (addr_IsGroup.calls a0 true _ A75.out).mono ?_); rintro e w' ⟨rfl, ⟨nd, rfl⟩⟩; (try first | exact ⟨rfl, _, World.drewN_drewN _ _ _⟩ | exact ⟨rfl, _, Eq.trans (World.drewN_drewN _ _ _) (congrArg (World.drewN _) (Nat.add_assoc _ _ _))⟩)) | (go_at_call 23; (with_reducible refine (addr_IsAsked.calls a0 false _ A77.out).mono ?_); rintro e w' ⟨rfl, ⟨nd, rfl⟩⟩; (try first | exact ⟨rfl, _, World.drewN_drewN _ _ _⟩ | exact ⟨rfl, _, Eq.trans (World.drewN_drewN _ _ _) (congrArg (World.drewN _) (Nat.add_assoc _ _ _))⟩)) | (go_at_call 19; (with_reducible refine (addr_IsGroup.calls a0 true _ A79.out).mono ?_); rintro e w' ⟨rfl, ⟨nd, rfl⟩⟩; (try first | exact ⟨rfl, _, World.drewN_drewN _ _ _⟩ | exact ⟨rfl, _, Eq.trans (World.drewN_drewN _ _ _) (congrArg (World.drewN _) (Nat.add_assoc _ _ _))⟩)) | (go_at_call 21; (with_reducible refine (addr_IsLocal.calls a0 true _ A81.out).mono ?_); rintro e w' ⟨rfl, ⟨nd, rfl⟩⟩; (try first | exact ⟨rfl, _, World.drewN_drewN _ _ _⟩ | exact ⟨rfl, _, Eq.trans (World.drewN_drewN _ _ _) (congrArg (World.drewN _) (Nat.add_assoc _ _ _))⟩)) | (go_at_call 23; (with_reducible refine (addr_IsAsked.calls a0 false _ A82.out).mono ?_); rintro e w' ⟨rfl, ⟨nd, rfl⟩⟩; (try first | exact ⟨rfl, _, World.drewN_drewN _ _ _⟩ | exact ⟨rfl, _, Eq.trans (World.drewN_drewN _ _ _) (congrArg (World.drewN _) (Nat.add_assoc _ _ _))⟩)))
            repeat (go_quiet (first | (go_at_call 21; (with_reducible refine (addr_IsLocal.calls a0 true _ A73.out).mono ?_); rintro e w' ⟨rfl, ⟨nd, rfl⟩⟩; (try first | exact ⟨rfl, _, World.drewN_drewN _ _ _⟩ | exact ⟨rfl, _, Eq.trans (World.drewN_drewN _ _ _) (congrArg (World.drewN _) (Nat.add_assoc _ _ _))⟩)) | (go_at_call 19; (with_reducible refine (addr_IsGroup.calls a0 true _ A75.out).mono ?_); rintro e w' ⟨rfl, ⟨nd, rfl⟩⟩; (try first | exact ⟨rfl, _, World.drewN_drewN _ _ _⟩ | exact ⟨rfl, _, Eq.trans (World.drewN_drewN _ _ _) (congrArg (World.drewN _) (Nat.add_assoc _ _ _))⟩)) | (go_at_call 23; (with_reducible refine (addr_IsAsked.calls a0 false _ A77.out).mono ?_); rintro e w' ⟨rfl, ⟨nd, rfl⟩⟩; (try first | exact ⟨rfl, _, World.drewN_drewN _ _ _⟩ | exact ⟨rfl, _, Eq.trans (World.drewN_drewN _ _ _) (congrArg (World.drewN _) (Nat.add_assoc _ _ _))⟩)) | (go_at_call 19; (with_reducible refine (addr_IsGroup.calls a0 true _ A79.out).mono ?_); rintro e w' ⟨rfl, ⟨nd, rfl⟩⟩; (try first | exact ⟨rfl, _, World.drewN_drewN _ _ _⟩ | exact ⟨rfl, _, Eq.trans (World.drewN_drewN _ _ _) (congrArg (World.drewN _) (Nat.add_assoc _ _ _))⟩)) | (go_at_call 21; (with_reducible refine (addr_IsLocal.calls a0 true _ A81.out).mono ?_); rintro e w' ⟨rfl, ⟨nd, rfl⟩⟩; (try first | exact ⟨rfl, _, World.drewN_drewN _ _ _⟩ | exact ⟨rfl, _, Eq.trans (World.drewN_drewN _ _ _) (congrArg (World.drewN _) (Nat.add_assoc _ _ _))⟩)) | (go_at_call 23; (with_reducible refine (addr_IsAsked.calls a0 false _ A82.out).mono ?_); rintro e w' ⟨rfl, ⟨nd, rfl⟩⟩; (try first | exact ⟨rfl, _, World.drewN_drewN _ _ _⟩ | exact ⟨rfl, _, Eq.trans (World.drewN_drewN _ _ _) (congrArg (World.drewN _) (Nat.add_assoc _ _ _))⟩))); try go_wp2_with (first | (go_at_call 21; (with_reducible refine (addr_IsLocal.calls a0 true _ A73.out).mono ?_); rintro e w' ⟨rfl, ⟨nd, rfl⟩⟩; (try first | exact ⟨rfl, _, World.drewN_drewN _ _ _⟩ | exact ⟨rfl, _, Eq.trans (World.drewN_drewN _ _ _) (congrArg (World.drewN _) (Nat.add_assoc _ _ _))⟩)) | (go_at_call 19; (with_reducible refine (addr_IsGroup.calls a0 true _ A75.out).mono ?_); rintro e w' ⟨rfl, ⟨nd, rfl⟩⟩; (try first | exact ⟨rfl, _, World.drewN_drewN _ _ _⟩ | exact ⟨rfl, _, Eq.trans (World.drewN_drewN _ _ _) (congrArg (World.drewN _) (Nat.add_assoc _ _ _))⟩)) | (go_at_call 23; (with_reducible refine (addr_IsAsked.calls a0 false _ A77.out).mono ?_); rintro e w' ⟨rfl, ⟨nd, rfl⟩⟩; (try first | exact ⟨rfl, _, World.drewN_drewN _ _ _⟩ | exact ⟨rfl, _, Eq.trans (World.drewN_drewN _ _ _) (congrArg (World.drewN _) (Nat.add_assoc _ _ _))⟩)) | (go_at_call 19; (with_reducible refine (addr_IsGroup.calls a0 true _ A79.out).mono ?_); rintro e w' ⟨rfl, ⟨nd, rfl⟩⟩; (try first | exact ⟨rfl, _, World.drewN_drewN _ _ _⟩ | exact ⟨rfl, _, Eq.trans (World.drewN_drewN _ _ _) (congrArg (World.drewN _) (Nat.add_assoc _ _ _))⟩)) | (go_at_call 21; (with_reducible refine (addr_IsLocal.calls a0 true _ A81.out).mono ?_); rintro e w' ⟨rfl, ⟨nd, rfl⟩⟩; (try first | exact ⟨rfl, _, World.drewN_drewN _ _ _⟩ | exact ⟨rfl, _, Eq.trans (World.drewN_drewN _ _ _) (congrArg (World.drewN _) (Nat.add_assoc _ _ _))⟩)) | (go_at_call 23; (with_reducible refine (addr_IsAsked.calls a0 false _ A82.out).mono ?_); rintro e w' ⟨rfl, ⟨nd, rfl⟩⟩; (try first | exact ⟨rfl, _, World.drewN_drewN _ _ _⟩ | exact ⟨rfl, _, Eq.trans (World.drewN_drewN _ _ _) (congrArg (World.drewN _) (Nat.add_assoc _ _ _))⟩))))
            go_ret
            exact ⟨ew_, bz_⟩
         ·replace c76 := Bool.eq_false_iff.mpr c76
          subst c76
          have H1 : (some false) = some r := by rw [if_neg (show ¬ (false = true) by decide)] at H; exact H
          clear H
          have H := H1
          clear H1
          exact absurd ((Option.some.inj H).trans hTrue.out) (by simp)
        ·replace c74 := Bool.eq_false_iff.mpr c74
         subst c74
         have H1 : ((addr_IsGroup.f a0).bind fun t251 => (if t251 = true then ((addr_IsLocal.f a0).bind fun t252 => ((addr_IsAsked.f a0).bind fun t253 => (some (t252 != t253)))) else (some true))) = some r := by rw [if_neg (show ¬ (false = true) by decide)] at H; exact H
         clear H
         have H := H1
         clear H1
         replace H := Option.bind_eq_some_iff.mp H
         obtain ⟨t251, A830, H⟩ := H
         replace H : (if t251 = true then ((addr_IsLocal.f a0).bind fun t252 => ((addr_IsAsked.f a0).bind fun t253 => (some (t252 != t253)))) else (some true)) = some r := H
         have A83 := m_ A830
         clear A830
         by_cases c84 : t251 = true
         ·subst c84
          have H1 : ((addr_IsLocal.f a0).bind fun t252 => ((addr_IsAsked.f a0).bind fun t253 => (some (t252 != t253)))) = some r := by rw [if_pos rfl] at H; exact H
          clear H
          have H := H1
          clear H1
          replace H := Option.bind_eq_some_iff.mp H
          obtain ⟨t252, A850, H⟩ := H
          replace H : ((addr_IsAsked.f a0).bind fun t253 => (some (t252 != t253))) = some r := H
          have A85 := m_ A850
          clear A850
          have z_ := Option.some.inj (A73.out.symm.trans A85.out)
          subst z_
          replace H := Option.bind_eq_some_iff.mp H
          obtain ⟨t253, A860, H⟩ := H
          replace H : (some (false != t253)) = some r := H
          have A86 := m_ A860
          clear A860
          obtain rfl := Option.some.inj H
          go_wp2_with (first | (go_at_call 21; (with_reducible refine (addr_IsLocal.calls a0 false _ A73.out).mono ?_); rintro e w' ⟨rfl, ⟨nd, rfl⟩⟩; (try first | exact ⟨rfl, _, World.drewN_drewN _ _ _⟩ | exact ⟨rfl, _, Eq.trans (World.drewN_drewN _ _ _) (congrArg (World.drewN _) (Nat.add_assoc _ _ _))⟩)) | (go_at_call 19; (with_reducible refine (addr_IsGroup.calls a0 true _ A83.out).mono ?_); rintro e w' ⟨rfl, ⟨nd, rfl⟩⟩; (try first | exact ⟨rfl, _, World.drewN_drewN _ _ _⟩ | exact ⟨rfl, _, Eq.trans (World.drewN_drewN _ _ _) (congrArg (World.drewN _) (Nat.add_assoc _ _ _))⟩)) | (go_at_call 21; (with_reducible refine (addr_IsLocal.calls a0 false _ A85.out).mono ?_); rintro e w' ⟨rfl, ⟨nd, rfl⟩⟩; (try first | exact ⟨rfl, _, World.drewN_drewN _ _ _⟩ | exact ⟨rfl, _, Eq.trans (World.drewN_drewN _ _ _) (congrArg (World.drewN _) (Nat.add_assoc _ _ _))⟩)) | (go_at_call 23; (with_reducible refine (addr_IsAsked.calls a0 t253 _ A86.out).mono ?_); rintro e w' ⟨rfl, ⟨nd, rfl⟩⟩; (try first | exact ⟨rfl, _, World.drewN_drewN _ _ _⟩ | exact ⟨rfl, _, Eq.trans (World.drewN_drewN _ _ _) (congrArg (World.drewN _) (Nat.add_assoc _ _ _))⟩)))
          repeat (go_quiet (first | (go_at_call 21; (with_reducible refine (addr_IsLocal.calls a0 false _ A73.out).mono ?_); rintro e w' ⟨rfl, ⟨nd, rfl⟩⟩; (try first | exact ⟨rfl, _, World.drewN_drewN _ _ _⟩ | exact ⟨rfl, _, Eq.trans (World.drewN_drewN _ _ _) (congrArg (World.drewN _) (Nat.add_assoc _ _ _))⟩)) | (go_at_call 19; (with_reducible refine (addr_IsGroup.calls a0 true _ A83.out).mono ?_); rintro e w' ⟨rfl, ⟨nd, rfl⟩⟩; (try first | exact ⟨rfl, _, World.drewN_drewN _ _ _⟩ | exact ⟨rfl, _, Eq.trans (World.drewN_drewN _ _ _) (congrArg (World.drewN _) (Nat.add_assoc _ _ _))⟩)) | (go_at_call 21; (with_reducible refine (addr_IsLocal.calls a0 false _ A85.out).mono ?_); rintro e w' ⟨rfl, ⟨nd, rfl⟩⟩; (try first | exact ⟨rfl, _, World.drewN_drewN _ _ _⟩ | exact ⟨rfl, _, Eq.trans (World.drewN_drewN _ _ _) (congrArg (World.drewN _) (Nat.add_assoc _ _ _))⟩)) | (go_at_call 23; (with_reducible refine (addr_IsAsked.calls a0 t253 _ A86.out).mono ?_); rintro e w' ⟨rfl, ⟨nd, rfl⟩⟩; (try first | exact ⟨rfl, _, World.drewN_drewN _ _ _⟩ | exact ⟨rfl, _, Eq.trans (World.drewN_drewN _ _ _) (congrArg (World.drewN _) (Nat.add_assoc _ _ _))⟩))); try go_wp2_with (first | (go_at_call 21; (with_reducible refine (addr_IsLocal.calls a0 false _ A73.out).mono ?_); rintro e w' ⟨rfl, ⟨nd, rfl⟩⟩; (try first | exact ⟨rfl, _, World.drewN_drewN _ _ _⟩ | exact ⟨rfl, _, Eq.trans (World.drewN_drewN _ _ _) (congrArg (World.drewN _) (Nat.add_assoc _ _ _))⟩)) | (go_at_call 19; (with_reducible refine (addr_IsGroup.calls a0 true _ A83.out).mono ?_); rintro e w' ⟨rfl, ⟨nd, rfl⟩⟩; (try first | exact ⟨rfl, _, World.drewN_drewN _ _ _⟩ | exact ⟨rfl, _, Eq.trans (World.drewN_drewN _ _ _) (congrArg (World.drewN _) (Nat.add_assoc _ _ _))⟩)) | (go_at_call 21; (with_reducible refine (addr_IsLocal.calls a0 false _ A85.out).mono ?_); rintro e w' ⟨rfl, ⟨nd, rfl⟩⟩; (try first | exact ⟨rfl, _, World.drewN_drewN _ _ _⟩ | exact ⟨rfl, _, Eq.trans (World.drewN_drewN _ _ _) (congrArg (World.drewN _) (Nat.add_assoc _ _ _))⟩)) | (go_at_call 23; (with_reducible refine (addr_IsAsked.calls a0 t253 _ A86.out).mono ?_); rintro e w' ⟨rfl, ⟨nd, rfl⟩⟩; (try first | exact ⟨rfl, _, World.drewN_drewN _ _ _⟩ | exact ⟨rfl, _, Eq.trans (World.drewN_drewN _ _ _) (congrArg (World.drewN _) (Nat.add_assoc _ _ _))⟩))))
          go_ret
          exact ⟨ew_, bz_⟩
         ·replace c84 := Bool.eq_false_iff.mpr c84
          subst c84
          have H1 : (some true) = some r := by rw [if_neg (show ¬ (false = true) by decide)] at H; exact H
          clear H
          have H := H1
          clear H1
          obtain rfl := Option.some.inj H
          go_wp2_with (first | (go_at_call 21; (with_reducible refine (addr_IsLocal.calls a0 false _ A73.out).mono ?_); rintro e w' ⟨rfl, ⟨nd, rfl⟩⟩; (try first | exact ⟨rfl, _, World.drewN_drewN _ _ _⟩ | exact ⟨rfl, _, Eq.trans (World.drewN_drewN _ _ _) (congrArg (World.drewN _) (Nat.add_assoc _ _ _))⟩)) | (go_at_call 19; (with_reducible refine (addr_IsGroup.calls a0 false _ A83.out).mono ?_); rintro e w' ⟨rfl, ⟨nd, rfl⟩⟩; (try first | exact ⟨rfl, _, World.drewN_drewN _ _ _⟩ | exact ⟨rfl, _, Eq.trans (World.drewN_drewN _ _ _) (congrArg (World.drewN _) (Nat.add_assoc _ _ _))⟩)))
          repeat (go_quiet (first | (go_at_call 21; (with_reducible refine (addr_IsLocal.calls a0 false _ A73.out).mono ?_); rintro e w' ⟨rfl, ⟨nd, rfl⟩⟩; (try first | exact ⟨rfl, _, World.drewN_drewN _ _ _⟩ | exact ⟨rfl, _, Eq.trans (World.drewN_drewN _ _ _) (congrArg (World.drewN _) (Nat.add_assoc _ _ _))⟩)) | (go_at_call 19; (with_reducible refine (addr_IsGroup.calls a0 false _ A83.out).mono ?_); rintro e w' ⟨rfl, ⟨nd, rfl⟩⟩; (try first | exact ⟨rfl, _, World.drewN_drewN _ _ _⟩ | exact ⟨rfl, _, Eq.trans (World.drewN_drewN _ _ _) (congrArg (World.drewN _) (Nat.add_assoc _ _ _))⟩))); try go_wp2_with (first | (go_at_call 21; (with_reducible refine (addr_IsLocal.calls a0 false _ A73.out).mono ?_); rintro e w' ⟨rfl, ⟨nd, rfl⟩⟩; (try first | exact ⟨rfl, _, World.drewN_drewN _ _ _⟩ | exact ⟨rfl, _, Eq.trans (World.drewN_drewN _ _ _) (congrArg (World.drewN _) (Nat.add_assoc _ _ _))⟩)) | (go_at_call 19; (with_reducible refine (addr_IsGroup.calls a0 false _ A83.out).mono ?_); rintro e w' ⟨rfl, ⟨nd, rfl⟩⟩; (try first | exact ⟨rfl, _, World.drewN_drewN _ _ _⟩ | exact ⟨rfl, _, Eq.trans (World.drewN_drewN _ _ _) (congrArg (World.drewN _) (Nat.add_assoc _ _ _))⟩))))
          go_ret
          exact ⟨ew_, bz_⟩
      ·replace c23 := Bool.eq_false_iff.mpr c23
       subst c23
       have H1 : (some false) = some r := by rw [if_neg (show ¬ (false = true) by decide)] at H; exact H
       clear H
       have H := H1
       clear H1
       exact absurd ((Option.some.inj H).trans hTrue.out) (by simp)

end Go.Proofs.YtplkfpfgnccffaaDoor.P

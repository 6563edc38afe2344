/- For each Go function a Lean function, and the proof that a call comes to what it tells: made by program out of the translation (the kit's print, with texts by hand put in). No condition. -/
import Derived.Test.YtfomnmdjbdohgaaSq
import Derived.Test.YtfomnmdjbdohgaaPx0
import Derived.Test.YtfomnmdjbdohgaaPx5
namespace Go.Proofs.Ytfomnmdjbdohgaa.P
open Go.RowKit Go.Proofs.Ytfomnmdjbdohgaa.HRows Go.Proofs.YtfomnmdjbdohgaaW.PrintWords Go.Proofs.YtfomnmdjbdohgaaW.PrintLast Go.Proofs.YtfomnmdjbdohgaaW.PrintMore
attribute [local go_sem] max2_int min2_int max_two min_two max_three min_three max_four min_four
set_option linter.unusedVariables false
set_option linter.unusedSimpArgs false
/-- Is the first key less? -/
def ltK (a b : Int × Int × Int) : Bool := decide (a.1 < b.1) || (decide (a.1 = b.1) && (decide (a.2.1 < b.2.1) || (decide (a.2.1 = b.2.1) && decide (a.2.2 < b.2.2))))
theorem ltK_iff {a b : Int × Int × Int} : ltK a b = true ↔ a.1 < b.1 ∨ (a.1 = b.1 ∧ (a.2.1 < b.2.1 ∨ (a.2.1 = b.2.1 ∧ a.2.2 < b.2.2))) := by
 unfold ltK
 simp only [Bool.or_eq_true, Bool.and_eq_true, decide_eq_true_eq]
theorem ltK_trans {a b c : Int × Int × Int} (h : ltK a b = true) (h' : ltK b c = true) : ltK a c = true := by
 rw [ltK_iff] at h h' ⊢
 omega
theorem ltK_irrefl (a : Int × Int × Int) : ltK a a = false := by
 cases h : ltK a a with
 | false => rfl
 | true => rw [ltK_iff] at h; omega
theorem ltK_eq {a b : Int × Int × Int} (h : ltK a b = false) (h' : ltK b a = false) : a = b := by
 have h1 : ¬ (ltK a b = true) := by rw [h]; simp
 have h2 : ¬ (ltK b a = true) := by rw [h']; simp
 rw [ltK_iff] at h1 h2
 obtain ⟨a1, a2, a3⟩ := a
 obtain ⟨b1, b2, b3⟩ := b
 simp only at h1 h2
 have e1 : a1 = b1 := by omega
 have e2 : a2 = b2 := by omega
 have e3 : a3 = b3 := by omega
 rw [e1, e2, e3]
def ordK (a b : Int × Int × Int) : Int := if ltK a b = true then -1 else if ltK b a = true then 1 else 0
def keyR (r : S29) : Int × Int × Int := (r.f0, r.f1, r.f2)
/-- Keys rise. -/
def riseK (l : List (S29)) : Bool := decide (l.Pairwise (fun r s => ltK (keyR r) (keyR s) = true))
/-- Where a key stands, or would stand. -/
def placeK (l : List (S29)) (k : Int × Int × Int) : Nat := l.findIdx (fun r => !(ltK (keyR r) k))
theorem place_le (l : List (S29)) (k : Int × Int × Int) : placeK l k ≤ l.length := List.findIdx_le_length
theorem place_lt {l : List (S29)} {k : Int × Int × Int} {j : Nat} (h : j < placeK l k) : ltK (keyR (l[j]'(Nat.lt_of_lt_of_le h (place_le l k)))) k = true := by
 have := List.not_of_lt_findIdx h
 simpa using this
theorem place_at {l : List (S29)} {k : Int × Int × Int} (h : placeK l k < l.length) : ltK (keyR (l[placeK l k]'h)) k = false := by
 have h2 : (!(ltK (keyR (l[placeK l k]'h)) k)) = true := List.findIdx_getElem (w := h) (p := fun r => !(ltK (keyR r) k))
 cases h3 : ltK (keyR (l[placeK l k]'h)) k with
 | false => rfl
 | true => rw [h3] at h2; cases h2
theorem place_of {l : List (S29)} {k : Int × Int × Int} {m : Nat} (hm : m ≤ l.length) (h1 : ∀ j (h : j < l.length), j < m → ltK (keyR (l[j]'h)) k = true) (h2 : ∀ j (h : j < l.length), m ≤ j → ltK (keyR (l[j]'h)) k = false) : placeK l k = m := by
 rcases Nat.lt_trichotomy (placeK l k) m with h | h | h
 ·have h3 := place_at (l := l) (k := k) (by omega)
  rw [h1 _ (by omega) h] at h3
  cases h3
 ·exact h
 ·have h3 := place_lt h
  have h4 : m < l.length := Nat.lt_of_lt_of_le h (place_le l k)
  rw [h2 m h4 (Nat.le_refl _)] at h3
  cases h3
theorem addr_cmp (a b : Int) : api_Addr_56.f a b = some (if a < b then -1 else if b < a then 1 else 0) := by
 unfold api_Addr_56.f api_Addr_66.f
 simp only [bne_self_eq_false, Option.bind_some, Bool.false_eq_true, if_false]
 repeat' split
 all_goals first | rfl | omega
theorem u32_cmp (a b : Int) : cmp_Compare_uint32.f a b = some (if a < b then -1 else if b < a then 1 else 0) := by
 unfold cmp_Compare_uint32.f cmp_isNaN_uint32.f
 simp only [bne_self_eq_false, Option.bind_some, Bool.false_eq_true, if_false]
 repeat' split
 all_goals first | rfl | omega
theorem or3 (x y z : Int) : cmp_Or_int.f 4 [x, y, z] = some (if x = 0 then (if y = 0 then z else y) else x) := by
 unfold cmp_Or_int.f
 rw [cmp_Or_int.l0]
 simp [cmp_Or_int.l0, rd, wrap64]
 repeat' split
 all_goals first | rfl | simp_all
theorem order_f (a0 a1 a2 a3 a4 : Int) (l5 : List (S74)) (b0 b1 b2 : Int) : flow_order.f 4 a0 a1 a2 a3 a4 l5 b0 b1 b2 = some (ordK (a0, a1, a2) (b0, b1, b2)) := by
 unfold flow_order.f
 rw [addr_cmp, addr_cmp, u32_cmp]
 simp only [Option.bind_some]
 rw [or3]
 simp only [Option.bind_some]
 congr 1
 unfold ordK
 have h1 := ltK_iff (a := (a0, a1, a2)) (b := (b0, b1, b2))
 have h2 := ltK_iff (a := (b0, b1, b2)) (b := (a0, a1, a2))
 simp only at h1 h2
 simp only [h1, h2]
 repeat' split
 all_goals first | rfl | omega
theorem rd_rule (l : List (S29)) (k : Nat) (hk : k < l.length) : rd_T29 l (k : Int) = l[k]'hk := by
 unfold rd_T29
 rw [Int.toNat_natCast, List.getD_eq_getElem?_getD, List.getElem?_eq_getElem hk, Option.getD_some]
set_option maxHeartbeats 4000000 in
set_option maxRecDepth 100000 in
theorem bsRule_calls (A : Option Addr) (c : Nat) (l : List (S29)) (b0 b1 b2 : Int) (w : World) (hr : Kd.C k29 w A l.length l) (hs : riseK l = true) (hl : l.length ≤ 1000000) :
  Calls Try.prog 65 #[.slice A l.length c, .agg #[.int .u32 b0, .int .u32 b1, .int .u32 b2], .func (.func 47) #[] #[]] w fun e w' =>
   e = .returned (.tuple #[.int .i64 (placeK l (b0, b1, b2) : Nat), .bool (decide (placeK l (b0, b1, b2) < l.length) && (ordK (keyR (rd_T29 l (placeK l (b0, b1, b2) : Nat))) (b0, b1, b2) == 0))]) ∧ Below w.heap.size w w' := by
 have hu27 := Try.underlying29
 have hu59 := Try.underlying85
 have HR := m_ hr
 have HS := m_ hs
 clear hr hs
 go_enter Try.func65, Try.ntmps65
 go_wp2
 have HK := m_ (blk_new w (.cells #[.int .u32 b0, .int .u32 b1, .int .u32 b2] 85))
 have HB := m_ (below_alloc (Below.refl w.heap.size w) (.cells #[.int .u32 b0, .int .u32 b1, .int .u32 b2] 85))
 generalize (w.alloc _) = w1 at HK HB ⊢
 go_loopg [9, 10] l.length (fun g s9 s10 wr => ∃ lo hi : Nat, s9 = .int .i64 lo ∧ s10 = .int .i64 hi ∧ lo ≤ hi ∧ hi ≤ l.length ∧ hi - lo ≤ g ∧ Aside0 (Below w.heap.size w wr ∧ wr.heap[w.heap.size]? = some (.cells #[.int .u32 b0, .int .u32 b1, .int .u32 b2] 85 (0, 0))) ∧ Aside0 ((∀ j (h : j < l.length), j < lo → ltK (keyR (l[j]'h)) (b0, b1, b2) = true) ∧ (∀ j (h : j < l.length), hi ≤ j → ltK (keyR (l[j]'h)) (b0, b1, b2) = false)))
 case atStart => exact ⟨0, l.length, rfl, rfl, Nat.zero_le _, Nat.le_refl _, by omega, ⟨HB.out, HK.out⟩, ⟨fun j _ hj => absurd hj (Nat.not_lt_zero _), fun j h hj => absurd h (Nat.not_lt.2 hj)⟩⟩
 case round =>
  clear HK HB
  obtain ⟨lo, hi, rfl, rfl, hlh, hhi, hg, HW, HI⟩ := hrel
  by_cases hlt : lo < hi
  ·have hm : (lo + hi) / 2 < l.length := by omega
   obtain ⟨ad, A5, c5, rfl, e0, e1, e2, e3, e4, e5, hl5, hr5⟩ := at_T29 (Kd.C_below HR.out HW.out.1) (((lo : Int) + (hi : Int)) / 2) (by omega) (by omega)
   have HX := m_ (rd_rule l _ hm)
   rw [show (((lo + hi) / 2 : Nat) : Int) = ((lo : Int) + (hi : Int)) / 2 by omega] at HX
   generalize rd_T29 l (((lo : Int) + (hi : Int)) / 2) = x at HX e0 e1 e2 e3 e4 e5 hl5 hr5
   have HR5 := m_ hr5
   have HL5 := m_ hl5
   have k0 : wr.cell? ⟨w.heap.size, 0, none⟩ = some (.int .u32 b0) := (blk_cell HW.out.2 0).trans rfl
   have k1 : wr.cell? ⟨w.heap.size, 1, none⟩ = some (.int .u32 b1) := (blk_cell HW.out.2 1).trans rfl
   have k2 : wr.cell? ⟨w.heap.size, 2, none⟩ = some (.int .u32 b2) := (blk_cell HW.out.2 2).trans rfl
   have q0 : ((lo : Int) + (hi : Int)) / 2 < (l.length : Int) := by omega
   have q1 : 0 ≤ ((lo : Int) + (hi : Int)) / 2 := by omega
   clear hl5 hr5
   have HO := m_ (order_f x.f0 x.f1 x.f2 x.f3 x.f4 x.f5 b0 b1 b2)
   go_wp2
   have hmi2 : ((lo : Int) + (hi : Int)) / 2 = (((lo + hi) / 2 : Nat) : Int) := by omega
   generalize ((lo : Int) + (hi : Int)) / 2 = mi at hmi2 q0 q1 e0 e1 e2 e3 e4 e5 ⊢
   have HM := m_ hmi2
   clear hmi2
   cases hc : ltK (keyR x) (b0, b1, b2) with
   | true =>
    have ho : ordK (x.f0, x.f1, x.f2) (b0, b1, b2) = -1 := by unfold ordK; exact if_pos hc
    rw [ho] at HO
    have HC := m_ hc
    clear ho hc
    go_region_held3 (fun W => W.cell? (ad.add (mi.toNat * 6)) = some (.int .u32 x.f0) ∧ W.cell? ⟨(ad.add (mi.toNat * 6)).block, (ad.add (mi.toNat * 6)).off + 1, none⟩ = some (.int .u32 x.f1) ∧ W.cell? ⟨(ad.add (mi.toNat * 6)).block, (ad.add (mi.toNat * 6)).off + 2, none⟩ = some (.int .u32 x.f2) ∧ W.cell? ⟨(ad.add (mi.toNat * 6)).block, (ad.add (mi.toNat * 6)).off + 3, none⟩ = some (.int .i64 x.f3) ∧ W.cell? ⟨(ad.add (mi.toNat * 6)).block, (ad.add (mi.toNat * 6)).off + 4, none⟩ = some (.int .u32 x.f4) ∧ W.cell? ⟨(ad.add (mi.toNat * 6)).block, (ad.add (mi.toNat * 6)).off + 5, none⟩ = some (.slice A5 x.f5.length c5) ∧ W.cell? ⟨w.heap.size, 0, none⟩ = some (.int .u32 b0) ∧ W.cell? ⟨w.heap.size, 1, none⟩ = some (.int .u32 b1) ∧ W.cell? ⟨w.heap.size, 2, none⟩ = some (.int .u32 b2)) (first | exact ⟨e0, e1, e2, e3, e4, e5, k0, k1, k2⟩ | exact ⟨(HE.out.cell (World.block_lt_of_cell? _ _ e0)).trans e0, (HE.out.cell (World.block_lt_of_cell? _ _ e1)).trans e1, (HE.out.cell (World.block_lt_of_cell? _ _ e2)).trans e2, (HE.out.cell (World.block_lt_of_cell? _ _ e3)).trans e3, (HE.out.cell (World.block_lt_of_cell? _ _ e4)).trans e4, (HE.out.cell (World.block_lt_of_cell? _ _ e5)).trans e5, (HE.out.cell (World.block_lt_of_cell? _ _ k0)).trans k0, (HE.out.cell (World.block_lt_of_cell? _ _ k1)).trans k1, (HE.out.cell (World.block_lt_of_cell? _ _ k2)).trans k2⟩) ((go_at_call 47; refine (flow_order.calls 4 x.f0 x.f1 x.f2 x.f3 x.f4 A5 c5 x.f5 b0 b1 b2 _ _ ?side1 HL5.out HO.out).mono ?_; (case side1 => exact Kd.C_below HR5.out (below_drew1 (Below.refl _ _))); rintro e w4 ⟨rfl, hb4⟩; have HB4 := m_ (below_step (below_drew1 HW.out.1) hb4); have HK4 := m_ (blk_below (blk_drew HW.out.2) hb4); have HE := m_ hb4; clear hb4))
    clear e0 e1 e2 e3 e4 e5 k0 k1 k2 HE
    try (rename_i hHeld; clear hHeld)
    go_wp2
    go_roundg (hi - ((lo + hi) / 2 + 1))
    case measure => omega
    case rel =>
     refine ⟨(lo + hi) / 2 + 1, hi, by rw [HM.out]; go_num, rfl, by omega, hhi, Nat.le_refl _, ⟨HB4.out, HK4.out⟩, ⟨fun j h hj => ?_, HI.out.2⟩⟩
     by_cases e : j = (lo + hi) / 2
     ·subst e
      rw [← HX.out]
      exact HC.out
     ·have h2 := List.pairwise_iff_getElem.1 (of_decide_eq_true HS.out) j ((lo + hi) / 2) h hm (by omega)
      rw [← HX.out] at h2
      exact ltK_trans h2 HC.out
   | false =>
    have ho : ∃ o : Int, ordK (x.f0, x.f1, x.f2) (b0, b1, b2) = o ∧ decide (o < 0) = false := by
     refine ⟨_, rfl, ?_⟩
     unfold ordK
     rw [if_neg (by show ¬ (ltK (keyR x) (b0, b1, b2) = true); rw [hc]; simp)]
     split <;> rfl
    obtain ⟨o, ho, hod⟩ := ho
    rw [ho] at HO
    have HC := m_ hc
    clear ho hc
    go_region_held3 (fun W => W.cell? (ad.add (mi.toNat * 6)) = some (.int .u32 x.f0) ∧ W.cell? ⟨(ad.add (mi.toNat * 6)).block, (ad.add (mi.toNat * 6)).off + 1, none⟩ = some (.int .u32 x.f1) ∧ W.cell? ⟨(ad.add (mi.toNat * 6)).block, (ad.add (mi.toNat * 6)).off + 2, none⟩ = some (.int .u32 x.f2) ∧ W.cell? ⟨(ad.add (mi.toNat * 6)).block, (ad.add (mi.toNat * 6)).off + 3, none⟩ = some (.int .i64 x.f3) ∧ W.cell? ⟨(ad.add (mi.toNat * 6)).block, (ad.add (mi.toNat * 6)).off + 4, none⟩ = some (.int .u32 x.f4) ∧ W.cell? ⟨(ad.add (mi.toNat * 6)).block, (ad.add (mi.toNat * 6)).off + 5, none⟩ = some (.slice A5 x.f5.length c5) ∧ W.cell? ⟨w.heap.size, 0, none⟩ = some (.int .u32 b0) ∧ W.cell? ⟨w.heap.size, 1, none⟩ = some (.int .u32 b1) ∧ W.cell? ⟨w.heap.size, 2, none⟩ = some (.int .u32 b2)) (first | exact ⟨e0, e1, e2, e3, e4, e5, k0, k1, k2⟩ | exact ⟨(HE.out.cell (World.block_lt_of_cell? _ _ e0)).trans e0, (HE.out.cell (World.block_lt_of_cell? _ _ e1)).trans e1, (HE.out.cell (World.block_lt_of_cell? _ _ e2)).trans e2, (HE.out.cell (World.block_lt_of_cell? _ _ e3)).trans e3, (HE.out.cell (World.block_lt_of_cell? _ _ e4)).trans e4, (HE.out.cell (World.block_lt_of_cell? _ _ e5)).trans e5, (HE.out.cell (World.block_lt_of_cell? _ _ k0)).trans k0, (HE.out.cell (World.block_lt_of_cell? _ _ k1)).trans k1, (HE.out.cell (World.block_lt_of_cell? _ _ k2)).trans k2⟩) ((go_at_call 47; refine (flow_order.calls 4 x.f0 x.f1 x.f2 x.f3 x.f4 A5 c5 x.f5 b0 b1 b2 _ _ ?side1 HL5.out HO.out).mono ?_; (case side1 => exact Kd.C_below HR5.out (below_drew1 (Below.refl _ _))); rintro e w4 ⟨rfl, hb4⟩; have HB4 := m_ (below_step (below_drew1 HW.out.1) hb4); have HK4 := m_ (blk_below (blk_drew HW.out.2) hb4); have HE := m_ hb4; clear hb4))
    clear e0 e1 e2 e3 e4 e5 k0 k1 k2 HE
    try (rename_i hHeld; clear hHeld)
    go_wp2
    go_roundg ((lo + hi) / 2 - lo)
    case measure => omega
    case rel =>
     refine ⟨lo, (lo + hi) / 2, rfl, by rw [HM.out], by omega, by omega, Nat.le_refl _, ⟨HB4.out, HK4.out⟩, ⟨HI.out.1, fun j h hj => ?_⟩⟩
     by_cases e : j = (lo + hi) / 2
     ·subst e
      rw [← HX.out]
      exact HC.out
     ·have h2 := List.pairwise_iff_getElem.1 (of_decide_eq_true HS.out) ((lo + hi) / 2) j hm h (by omega)
      rw [← HX.out] at h2
      cases h3 : ltK (keyR (l[j]'h)) (b0, b1, b2) with
      | false => rfl
      | true =>
       have := ltK_trans h2 h3
       rw [HC.out] at this
       cases this
  ·have : hi = lo := by omega
   subst this
   have HP := m_ (place_of hhi HI.out.1 HI.out.2)
   by_cases hn : hi < l.length
   ·obtain ⟨ad, A5, c5, rfl, e0, e1, e2, e3, e4, e5, hl5, hr5⟩ := at_T29 (Kd.C_below HR.out HW.out.1) (hi : Int) (by omega) (by omega)
    rw [Int.toNat_natCast] at e0 e1 e2 e3 e4 e5
    generalize hx : rd_T29 l (hi : Int) = x at e0 e1 e2 e3 e4 e5 hl5 hr5
    have HX := m_ hx
    clear hx
    have HR5 := m_ hr5
    have HL5 := m_ hl5
    have k0 : wr.cell? ⟨w.heap.size, 0, none⟩ = some (.int .u32 b0) := (blk_cell HW.out.2 0).trans rfl
    have k1 : wr.cell? ⟨w.heap.size, 1, none⟩ = some (.int .u32 b1) := (blk_cell HW.out.2 1).trans rfl
    have k2 : wr.cell? ⟨w.heap.size, 2, none⟩ = some (.int .u32 b2) := (blk_cell HW.out.2 2).trans rfl
    have q0 : (hi : Int) < (l.length : Int) := by omega
    clear hl5 hr5
    have HO := m_ (order_f x.f0 x.f1 x.f2 x.f3 x.f4 x.f5 b0 b1 b2)
    have HOE : Aside0 (ordK (keyR x) (b0, b1, b2) = ordK (x.f0, x.f1, x.f2) (b0, b1, b2)) := ⟨rfl⟩
    generalize ordK (x.f0, x.f1, x.f2) (b0, b1, b2) = o at HO HOE
    go_wp2
    go_region_held3 (fun W => W.cell? (ad.add (hi * 6)) = some (.int .u32 x.f0) ∧ W.cell? ⟨(ad.add (hi * 6)).block, (ad.add (hi * 6)).off + 1, none⟩ = some (.int .u32 x.f1) ∧ W.cell? ⟨(ad.add (hi * 6)).block, (ad.add (hi * 6)).off + 2, none⟩ = some (.int .u32 x.f2) ∧ W.cell? ⟨(ad.add (hi * 6)).block, (ad.add (hi * 6)).off + 3, none⟩ = some (.int .i64 x.f3) ∧ W.cell? ⟨(ad.add (hi * 6)).block, (ad.add (hi * 6)).off + 4, none⟩ = some (.int .u32 x.f4) ∧ W.cell? ⟨(ad.add (hi * 6)).block, (ad.add (hi * 6)).off + 5, none⟩ = some (.slice A5 x.f5.length c5) ∧ W.cell? ⟨w.heap.size, 0, none⟩ = some (.int .u32 b0) ∧ W.cell? ⟨w.heap.size, 1, none⟩ = some (.int .u32 b1) ∧ W.cell? ⟨w.heap.size, 2, none⟩ = some (.int .u32 b2)) (first | exact ⟨e0, e1, e2, e3, e4, e5, k0, k1, k2⟩ | exact ⟨(HE.out.cell (World.block_lt_of_cell? _ _ e0)).trans e0, (HE.out.cell (World.block_lt_of_cell? _ _ e1)).trans e1, (HE.out.cell (World.block_lt_of_cell? _ _ e2)).trans e2, (HE.out.cell (World.block_lt_of_cell? _ _ e3)).trans e3, (HE.out.cell (World.block_lt_of_cell? _ _ e4)).trans e4, (HE.out.cell (World.block_lt_of_cell? _ _ e5)).trans e5, (HE.out.cell (World.block_lt_of_cell? _ _ k0)).trans k0, (HE.out.cell (World.block_lt_of_cell? _ _ k1)).trans k1, (HE.out.cell (World.block_lt_of_cell? _ _ k2)).trans k2⟩) ((go_at_call 47; refine (flow_order.calls 4 x.f0 x.f1 x.f2 x.f3 x.f4 A5 c5 x.f5 b0 b1 b2 _ _ ?side1 HL5.out HO.out).mono ?_; (case side1 => exact Kd.C_below HR5.out (below_drew1 (Below.refl _ _))); rintro e w4 ⟨rfl, hb4⟩; have HB4 := m_ (below_step (below_drew1 HW.out.1) hb4); have HK4 := m_ (blk_below (blk_drew HW.out.2) hb4); have HE := m_ hb4; clear hb4))
    clear e0 e1 e2 e3 e4 e5 k0 k1 k2 HE
    try (rename_i hHeld; clear hHeld)
    go_wp2
    go_ret2
    refine ⟨?_, HB4.out⟩
    rw [HP.out, HX.out, HOE.out, decide_eq_true hn]
    rfl
   ·have hd : decide ((hi : Int) < (l.length : Int)) = false := decide_eq_false (by omega)
    have hd2 : decide (hi < l.length) = false := decide_eq_false (by omega)
    have HN := m_ hd2
    go_wp2
    go_quiet (fail)
    go_wp2
    go_ret2
    refine ⟨?_, ?_⟩
    ·rw [HP.out, HN.out]
     rfl
    ·exact pw_below_drewN HW.out.1 _
def flow_place.f (l0 : List (S29)) (a1_0 a1_1 a1_2 : Int) : Option (Int × Bool) := if riseK l0 = true ∧ l0.length ≤ 1000000 then some (((placeK l0 (a1_0, a1_1, a1_2) : Nat) : Int), (decide (placeK l0 (a1_0, a1_1, a1_2) < l0.length) && (ordK (keyR (rd_T29 l0 (placeK l0 (a1_0, a1_1, a1_2) : Nat))) (a1_0, a1_1, a1_2) == 0))) else none
set_option maxHeartbeats 1000000 in
theorem flow_place.calls (A0 : Option Addr) (c0 : Nat) (l0 : List (S29)) (a1_0 a1_1 a1_2 : Int) (r1 : Int) (r2 : Bool) (w : World) (hr0 : Kd.C k29 w A0 l0.length l0) (hc0 : l0.length ≤ c0) (h : flow_place.f l0 a1_0 a1_1 a1_2 = some (r1, r2)) :
  Calls Try.prog 53 #[.slice A0 l0.length c0, .agg #[.int .u32 a1_0, .int .u32 a1_1, .int .u32 a1_2]] w fun e w' => e = .returned (.tuple #[.int .i64 r1, .bool r2]) ∧ Below w.heap.size w w' := by
 unfold flow_place.f at h
 split at h
 case isFalse => cases h
 case isTrue hok =>
 obtain ⟨hs, hl⟩ := hok
 have HR := m_ hr0
 have HS := m_ hs
 simp only [Option.some.injEq, Prod.mk.injEq] at h
 obtain ⟨h1, h2⟩ := h
 have H1 := m_ h1
 have H2 := m_ h2
 have hu59 := Try.underlying85
 clear hr0 hc0 h1 h2 hs
 go_enter Try.func53, Try.ntmps53
 go_wp2_with (go_at_call 65; refine Stop0.out ?_)
 refine ⟨?_⟩
 refine (bsRule_calls A0 c0 l0 a1_0 a1_1 a1_2 _ (Kd.C_below HR.out (below_alloc (Below.refl _ _) _)) HS.out hl).mono ?_
 rintro e w' ⟨rfl, hb⟩
 rw [H2.out, H1.out]
 have HB := m_ (below_step (below_alloc (Below.refl _ _) _) hb)
 clear hb
 go_wp2
 go_ret2
 exact ⟨rfl, HB.out⟩
-- NOT PRINTED: function 68 (api_Rule_68)
-- NOT PRINTED: function 72 (api_Rule_72)
-- NOT PRINTED: function 71 (api_Rule_71)
-- NOT PRINTED: function 69 (api_Rule_69)
set_option maxHeartbeats 4000000 in
set_option maxRecDepth 100000 in
theorem insEnd_calls (A : Option Addr) (n cap b : Nat) (l : List (S29)) (r : S29) (cs : List Value) (ok okr : Nat → Prop) (base : Nat) (w0 w : World) (HO : Kd.N k29 29 w base ok (.slice A n cap) l) (hb : w.heap[b]? = some (.cells cs.toArray 29 (0, 0))) (hF : Kd.FK k29 w okr r cs)
  (hbok : ok b ∧ some b ≠ (Value.slice A n cap).ownBlock) (hokr : ∀ k, okr k → ok k ∧ some k ≠ (Value.slice A n cap).ownBlock) (hfresh : ∀ k, w.heap.size ≤ k → ok k) (HB : Below base w0 w) (hbase : base ≤ w.heap.size) (hn : n ≤ 1000000) :
  Calls Try.prog 58 #[.slice A n cap, .int .i64 (n : Int), .slice (some ⟨b, 0, none⟩) 1 1] w fun e w' => ∃ v', e = .returned v' ∧ Kd.N k29 29 w' base ok v' (l ++ [r]) ∧ Below base w0 w' ∧ w.grownBy w' (Value.slice A n cap).ownBlock := by
 have hnl := (Kd.N_reads' HO).1
 have hnc := (Kd.N_reads' HO).2.1
 obtain ⟨i0, hi0, hz0⟩ := Option.map_eq_some_iff.1 info29
 simp only [Prod.mk.injEq] at hz0
 obtain ⟨_, hsz, _⟩ := hz0
 have hcut := cut_from (P := Try.prog) 22 29 .i64 Try.underlying22 hi0 6 hsz A n cap (n : Int) (by omega) (by omega)
 generalize (if cap = (n : Int).toNat then A else Option.map (fun z : Addr => z.add ((n : Int).toNat * 6)) A) = A2 at hcut
 have HO' := m_ HO
 have HR : Kd.F k29 w (fun k => ok k ∧ some k ≠ (Value.slice A n cap).ownBlock) (some ⟨b, 0, none⟩) 1 [r] := by
  intro W' hW
  have hW2 := hW b hbok (blk_lt hb)
  refine ⟨rfl, by decide, fun _ => ⟨_, rfl, fun j p hj => ?_⟩⟩
  have : j = 0 := by
   have := (List.getElem?_eq_some_iff.1 hj).1
   simp at this
   omega
  subst this
  simp at hj
  subst hj
  exact ⟨cs, k29.K_len (Kd.FK_now hF), Kd.FK_step hF (fun k hk hlt => hW k (hokr k hk) hlt) |> Kd.FK_now, fun i u hu => row_cells (hW2.trans hb) 0 (fun j v hv => by simpa using hv) _ _ (by simpa using hu)⟩
 have HR' := m_ HR
 have HF := m_ hfresh
 have HB' := m_ HB
 have hNL := m_ hnl
 clear HO hb hF hbok hokr hfresh HB HR hi0 hnl hsz
 go_enter Try.func58, Try.ntmps58
 go_wp2_with ((with_reducible refine gate_builtin (b := .append) (xs := #[.tmp 23, .tmp 24]) rfl ?_); refine Stop0.out ?_)
 refine ⟨?_⟩
 refine Kd.N_append_rows k29 (w0 := w0) base rfl (.tmp 23) (.tmp 24) 22 29 (.agg #[(.int .u32 0), (.int .u32 0), (.int .u32 0), (.int .i64 0), (.int .u32 0), (.slice none 0 0)]) 56 rfl Try.underlying22 info29 rfl (by decide) (by omega) (.slice A n cap) l [r] (some ⟨b, 0, none⟩) 1 1 ok (fun k => ok k ∧ some k ≠ (Value.slice A n cap).ownBlock) rfl rfl HO'.out HR'.out (fun _ hk => hk) HF.out HB'.out hbase (by have := hNL.out; omega) ?_
 intro v1 w1 h1 h2 h3 _
 have H1 := m_ h1
 have H2 := m_ h2
 have H3 := m_ h3
 clear h1 h2 h3
 go_wp2
 go_ret
 exact ⟨_, rfl, H1.out, H2.out, H3.out⟩
set_option maxHeartbeats 4000000 in
set_option maxRecDepth 100000 in
theorem insNew_calls (g n cap b i : Nat) (l : List (S29)) (r : S29) (cs : List Value) (ok okr : Nat → Prop) (base : Nat) (w0 w : World) (HO : Kd.N k29 29 w base ok (.slice (some ⟨g, 0, none⟩) n cap) l) (hb : w.heap[b]? = some (.cells cs.toArray 29 (0, 0))) (hF : Kd.FK k29 w okr r cs)
  (hbg : b ≠ g) (hokr : ∀ k, okr k → ok k ∧ k ≠ g) (hfresh : ∀ k, w.heap.size ≤ k → ok k) (HB : Below base w0 w) (hbase : base ≤ w.heap.size) (hi : i < n) (hn : n ≤ 1000000) (hcap : cap < n + 1) :
  Calls Try.prog 58 #[.slice (some ⟨g, 0, none⟩) n cap, .int .i64 (i : Int), .slice (some ⟨b, 0, none⟩) 1 1] w fun e w' => ∃ v', e = .returned v' ∧ Kd.N k29 29 w' base ok v' (l.take i ++ r :: l.drop i) ∧ Below base w0 w' ∧ w.grownBy w' (some g) := by
 obtain ⟨hnl, hog, hbg0, hnc, hcm, cur, inner, hg, hcs, hin, hre⟩ := N_open HO
 obtain ⟨i0, hi0, hz0⟩ := Option.map_eq_some_iff.1 info29
 simp only [Prod.mk.injEq] at hz0
 obtain ⟨hz, hsz, hby⟩ := hz0
 have hcl : cs.length = 6 := k29.K_len (Kd.FK_now hF)
 have hgl : g < w.heap.size := blk_lt hg
 have h6 : k29.sz = 6 := rfl
 rw [h6] at hcs hin hre
 have hil : inner.length = n * 6 := by rw [hre.1, hnl]
 -- s[i:]
 have hcut : ∀ W : World, (Instr.slice 22 (.slice (some ⟨g, 0, none⟩) n cap) (some (.int .i64 (i : Int))) none none).run Try.prog W = .ok (.slice (some ⟨g, i * 6, none⟩) (n - i) (cap - i)) W := by
  intro W
  have := cut_from (P := Try.prog) 22 29 .i64 Try.underlying22 hi0 6 hsz (some ⟨g, 0, none⟩) n cap (i : Int) (by omega) (by omega) W
  rw [Int.toNat_natCast, if_neg (by omega)] at this
  rw [this]
  simp [add_at]
 have hto : ∀ W : World, (Instr.slice 22 (.slice (some ⟨g, 0, none⟩) n cap) none (some (.int .i64 (i : Int))) none).run Try.prog W = .ok (.slice (some ⟨g, 0, none⟩) i cap) W := by
  intro W
  have := cut_to (P := Try.prog) 22 29 .i64 Try.underlying22 hi0 (some ⟨g, 0, none⟩) n cap (i : Int) (by omega) (by omega) hnc W
  rwa [Int.toNat_natCast] at this
 -- append(s[:i], make(S, n+1-i)...)
 have hfirst : (Builtin.firstCells i0.size i (.slice (some ⟨g, 0, none⟩) i cap)).run Try.prog w.drew = .ok (inner.take (i * 6)).toArray w.drew := by
  refine run_firstCells_some (P := Try.prog) w.drew i0.size i _ i cap (inner.take (i * 6)) (by rw [List.length_take, hil, hsz]; exact Nat.min_eq_left (Nat.mul_le_mul_right _ (by omega))) ?_
  refine row_cells (W := w.drew) hg 0 (fun j v hv => ?_)
  rw [List.getElem?_take] at hv
  split at hv
  ·rw [← hin, List.getElem?_take] at hv
   split at hv
   ·simpa using hv
   ·cases hv
  ·cases hv
 have happ := fun ty => run_append_zeros_grows (P := Try.prog) w 22 3 ty 29 i0 _ Try.underlying22 (k := .i64) Try.underlying3 hi0 hz (by rw [hsz]; decide) (some ⟨g, 0, none⟩) i cap (n + 1 - i) _ hfirst .i64 (by omega) (by omega) (by rw [hby]; decide) (by rw [hby]; omega)
 have hge := grownCap_ge w (i + (n + 1 - i)) cap 29
 have hgm := grownCap_le_maxLen w (i + (n + 1 - i)) cap 29 (by simp only [maxLen]; omega)
 rw [show i + (n + 1 - i) = n + 1 from by omega] at happ hge hgm
 rw [show ((n + 1 - i : Nat) : Int) = (n : Int) + 1 - (i : Int) from by omega] at happ
 generalize grownCap w (n + 1) cap 29 = cap2 at happ hge hgm
 have hz6 : (Value.agg #[(.int .u32 0), (.int .u32 0), (.int .u32 0), (.int .i64 0), (.int .u32 0), (.slice none 0 0)]).cells.size = 6 := by decide
 generalize hcur2 : (inner.take (i * 6)).toArray ++ (Builtin.zeroCells (Value.agg #[(.int .u32 0), (.int .u32 0), (.int .u32 0), (.int .i64 0), (.int .u32 0), (.slice none 0 0)]).cells (n + 1 - i) ++ Builtin.zeroCells (Value.agg #[(.int .u32 0), (.int .u32 0), (.int .u32 0), (.int .i64 0), (.int .u32 0), (.slice none 0 0)]).cells (cap2 - (n + 1))) = cur2 at happ
 have hc2 : cur2.size = cap2 * 6 := by
  rw [← hcur2]
  simp only [Array.size_append, List.size_toArray, List.length_take, hil, size_zeroCells, hz6]
  rw [Nat.min_eq_left (Nat.mul_le_mul_right _ (by omega))]
  omega
 have ht2 : cur2.toList.take (i * 6) = inner.take (i * 6) := by
  rw [← hcur2]
  simp only [Array.toList_append, List.toList_toArray]
  rw [List.take_append_of_le_length (by rw [List.length_take, hil]; omega), List.take_of_length_le (by rw [List.length_take]; omega)]
 clear hcur2
 have hg2 := heap_alloc_new w.drew (.cells cur2 29)
 have hB2 := below_alloc (below_drew1 (Below.refl w.heap.size w)) (.cells cur2 29)
 have hgW : w.drew.heap.size = w.heap.size := rfl
 rw [hgW] at hg2
 generalize hW1 : w.drew.alloc (.cells cur2 29) = W1 at happ hg2 hB2
 clear hW1 hgW
 have HGB := m_ (And.intro hg2 hB2)
 have HAPP := m_ happ
 have HC2 := m_ (And.intro hc2 ht2)
 have HB' := m_ HB
 have HHB := m_ hb
 have HHG := m_ hg
 have HIN := m_ (And.intro hin hil)
 have HRE := m_ hre
 have HCS := m_ hcl
 have HF' := m_ hF
 have HOKR := m_ hokr
 have HFR := m_ hfresh
 have HNL := m_ hnl
 have HOG := m_ (And.intro hog hbg)
 have HI0 := m_ (And.intro hi0 hsz)
 clear HO hb hF hokr hfresh HB hfirst happ hg hcs hin hre hg2 hB2 hc2 ht2 hil hcl hnl hog hz hsz hby hi0 h6 hz6 hbg
 have ht0 : (i : Int) ≠ (n : Int) := by omega
 have ht1 : ((i : Int) == (n : Int)) = false := beq_eq_false_iff_ne.mpr ht0
 have ht2 : (i == n) = false := beq_eq_false_iff_ne.mpr (by omega)
 have ht3 : decide ((n : Int) + 1 > (cap : Int)) = true := decide_eq_true (by omega)
 have ht4 : decide ((cap : Int) < (n : Int) + 1) = true := decide_eq_true (by omega)
 have ht5 : decide (cap < n + 1) = true := decide_eq_true (by omega)
 clear ht0
 go_enter Try.func58, Try.ntmps58
 go_wp2_with ((with_reducible refine gate_builtin (b := .append) (xs := #[.tmp 34, .tmp 39]) rfl ?_); refine Stop0.out ?_)
 refine ⟨?_⟩
 refine wpList_append_run rfl (.tmp 34) (.tmp 39) 22 3 rfl rfl rfl (HAPP.out _) ?_
 clear HAPP
 have hcut2 : ∀ W : World, (Instr.slice 22 (.slice (some ⟨w.heap.size, 0, none⟩) (n + 1) cap2) (some (.int .i64 (i : Int))) none none).run Try.prog W = .ok (.slice (some ⟨w.heap.size, i * 6, none⟩) (n + 1 - i) (cap2 - i)) W := by
  intro W
  have := cut_from (P := Try.prog) 22 29 .i64 Try.underlying22 HI0.out.1 6 HI0.out.2 (some ⟨w.heap.size, 0, none⟩) (n + 1) cap2 (i : Int) (by omega) (by omega) W
  rw [Int.toNat_natCast, if_neg (by omega)] at this
  rw [this]
  simp [add0]
 have hcut3 : ∀ W : World, (Instr.slice 22 (.slice (some ⟨w.heap.size, 0, none⟩) (n + 1) cap2) (some (.int .i64 ((i : Int) + 1))) none none).run Try.prog W = .ok (.slice (some ⟨w.heap.size, (i + 1) * 6, none⟩) (n - i) (cap2 - (i + 1))) W := by
  intro W
  have := cut_from (P := Try.prog) 22 29 .i64 Try.underlying22 HI0.out.1 6 HI0.out.2 (some ⟨w.heap.size, 0, none⟩) (n + 1) cap2 ((i : Int) + 1) (by omega) (by omega) W
  rw [show ((i : Int) + 1).toNat = i + 1 from by omega, if_neg (by omega)] at this
  rw [this]
  simp [add0]
 go_wp2_with ((with_reducible refine gate_builtin (b := .copy) (xs := #[.tmp 43, .tmp 44]) rfl ?_); refine Stop0.out ?_)
 refine ⟨?_⟩
 refine wpList_copy_rows rfl (.tmp 43) (.tmp 44) 22 22 rfl 29 6 Try.underlying22 (by rw [HI0.out.1]; exact congrArg some HI0.out.2) (some ⟨w.heap.size, i * 6, none⟩) (some ⟨b, 0, none⟩) (n + 1 - i) (cap2 - i) 1 1 rfl rfl w.heap.size (i * 6) cur2 29 HGB.out.1 cs ?_ ?_ ?_ ?_ (cur2.toList.take (i * 6) ++ cs ++ cur2.toList.drop (i * 6 + cs.length)).toArray rfl ?_
 ·rw [show Nat.min 1 (n + 1 - i) = 1 from Nat.min_eq_left (by omega), HCS.out]
 ·intro _
  refine ⟨rfl, _, rfl, fun j v hv => ?_⟩
  have := row_cells (W := W1) (blk_below HHB.out HGB.out.2) 0 (cs := cs) (fun j v hv => by simpa using hv) j v hv
  exact this
 ·rw [HCS.out, HC2.out.1]
  omega
 ·exact k29.K_one (Kd.FK_now HF'.out)
 rw [show Nat.min 1 (n + 1 - i) = 1 from Nat.min_eq_left (by omega)]
 intro W2 hg2 ho2
 have HW2 := m_ (And.intro hg2 ho2)
 clear hg2 ho2
 have hnm : Nat.min (n - i) (n - i) = n - i := Nat.min_self _
 obtain ⟨curb, hcb⟩ : ∃ x : Array Value, x = (cur2.toList.take (i * 6) ++ cs ++ cur2.toList.drop (i * 6 + cs.length)).toArray := ⟨_, rfl⟩
 rw [← hcb] at HW2
 obtain ⟨curc, hcc⟩ : ∃ x : Array Value, x = (curb.toList.take ((i + 1) * 6) ++ inner.drop (i * 6) ++ curb.toList.drop ((i + 1) * 6 + (inner.drop (i * 6)).length)).toArray := ⟨_, rfl⟩
 have HCB := m_ hcb
 have HCC := m_ hcc
 clear hcb hcc
 have hw1 : IntKind.i64.wrap ((i : Int) + 1) = (i : Int) + 1 := by rw [IntKind.wrap_i64]; omega
 go_wp2
 go_still_tail 8, (by kernel_rfl)
 change wpList _ _ _ _ _ W2.drew
 have hb3 : W2.drew.heap[w.heap.size]? = some (.cells curb 29 (0, 0)) := HW2.out.1
 have hd3 : Below base w0 W2.drew := below_drew1 (pw_below_grown (Below.trans (HB'.out) (HGB.out.2.mono hbase)) _ (Nat.le_trans hbase HGB.out.2.size) HW2.out.2.grown (fun k hk => by injection hk with hk; omega))
 have hw3 : Below w.heap.size w W2.drew := below_drew1 (pw_below_grown HGB.out.2 _ HGB.out.2.size HW2.out.2.grown (fun k hk => by injection hk with hk; omega))
 have hs3 : ∀ k, k < w.heap.size → W2.drew.heap[k]? = w.heap[k]? := fun k hk => (HW2.out.2.block k (by omega)).trans (HGB.out.2.block k hk)
 generalize W2.drew = W3 at hb3 hd3 hs3 hw3 ⊢
 have HW3 := m_ (And.intro hb3 hd3)
 have HS3 := m_ hs3
 have HWW := m_ hw3
 clear hb3 hd3 hs3 hw3 HW2
 have hcbs : curb.size = cap2 * 6 := by
  rw [HCB.out]
  simp only [List.size_toArray, List.length_append, List.length_take, List.length_drop, Array.length_toList, HC2.out.1, HCS.out]
  omega
 have hdl : (inner.drop (i * 6)).length = (n - i) * 6 := by
  rw [List.length_drop, HIN.out.2]
  omega
 refine wpList_copy_rows rfl (.tmp 50) (.tmp 53) 22 22 rfl 29 6 Try.underlying22 (by rw [HI0.out.1]; exact congrArg some HI0.out.2) (some ⟨w.heap.size, (i + 1) * 6, none⟩) (some ⟨g, i * 6, none⟩) (n - i) (cap2 - (i + 1)) (n - i) (cap - i) rfl rfl w.heap.size ((i + 1) * 6) curb 29 HW3.out.1 (inner.drop (i * 6)) ?_ ?_ ?_ ?_ curc ?_ ?_
 ·rw [hnm]
  exact hdl
 ·intro _
  refine ⟨rfl, _, rfl, row_cells (W := W3) ((HS3.out g hgl).trans HHG.out) (i * 6) (fun j v hv => ?_)⟩
  rw [List.getElem?_drop, ← HIN.out.1, List.getElem?_take] at hv
  split at hv
  ·exact hv
  ·cases hv
 ·rw [hdl, hcbs]
  omega
 ·intro v hv
  exact reps_one_F (d := k29) HRE.out v (List.mem_of_mem_drop hv)
 ·rw [HCC.out]
 intro W4 hg4 ho4
 have hcur : curc.size = cap2 * 6 ∧ curc.toList.take ((n + 1) * 6) = inner.take (i * 6) ++ cs ++ inner.drop (i * 6) := by
  have h1 : curb.toList.take ((i + 1) * 6) = inner.take (i * 6) ++ cs := by
   rw [HCB.out, List.toList_toArray, HC2.out.2, List.take_append_of_le_length (by rw [List.length_append, List.length_take, HIN.out.2, HCS.out]; omega), List.take_of_length_le (by rw [List.length_append, List.length_take, HIN.out.2, HCS.out]; omega)]
  constructor
  ·rw [HCC.out]
   simp only [List.size_toArray, List.length_append, List.length_take, List.length_drop, Array.length_toList, hcbs, HIN.out.2]
   omega
  ·rw [HCC.out, List.toList_toArray, h1, List.take_append_of_le_length (by simp only [List.length_append, List.length_take, List.length_drop, HIN.out.2, HCS.out]; omega), List.take_of_length_le (by simp only [List.length_append, List.length_take, List.length_drop, HIN.out.2, HCS.out]; omega)]
 have hb4 : Below base w0 W4 := pw_below_grown HW3.out.2 _ (by have := blk_lt HW3.out.1; omega) ho4.grown (fun k hk => by injection hk with hk; omega)
 have hgr : w.grownBy W4 (some g) := grown_of_below (pw_below_grown HWW.out _ HWW.out.size ho4.grown (fun k hk => by injection hk with hk; omega)) _
 have hll : (l.take i ++ r :: l.drop i).length = n + 1 := by
  simp only [List.length_append, List.length_take, List.length_cons, List.length_drop, ← HNL.out]
  omega
 have hst : ∀ k, k < w.heap.size → W4.heap[k]? = w.heap[k]? := fun k hk => (ho4.block k (by omega)).trans (HS3.out k hk)
 have hN : Kd.N k29 29 W4 base ok (.slice (some ⟨w.heap.size, 0, none⟩) (n + 1) cap2) (l.take i ++ r :: l.drop i) := by
  have := N_mk (d := k29) (base := base) (ok := ok) (xs := l.take i ++ r :: l.drop i) (cap := cap2) (inner := inner.take (i * 6) ++ cs ++ inner.drop (i * 6)) hg4 hbase (HFR.out _ (Nat.le_refl _)) (by rw [hll]; exact hge) hgm hcur.1 (by rw [hll]; exact hcur.2) (by
   have hre2 : Reps (fun x c => Kd.FK k29 W4 (fun k => ok k ∧ k < w.heap.size) x c) 6 l inner := HRE.out.imp_ (fun x c hx => Kd.FK_mono (Kd.FK_step (Kd.FK_bound hx) (fun k hk hlt => hst k hlt)) (fun k hk => ⟨hk.1.1, hk.2⟩))
   have hfr : Kd.FK k29 W4 (fun k => ok k ∧ k < w.heap.size) r cs := Kd.FK_mono (Kd.FK_step (Kd.FK_bound HF'.out) (fun k hk hlt => hst k hlt)) (fun k hk => ⟨(HOKR.out k hk.1).1, hk.2⟩)
   have h3 := Kd.reps_append (Kd.reps_append (reps_take hre2 i) (reps_single hfr HCS.out)) (reps_drop hre2 i)
   rw [List.append_assoc] at h3
   exact h3.imp_ (fun _ _ hp => Kd.FK_mono hp (fun k hk => ⟨hk.1, by have := hk.2; omega⟩)))
  rw [hll] at this
  exact this
 have HN4 := m_ (And.intro hN (And.intro hb4 hgr))
 clear hN hb4 hgr hg4 ho4 hcur hst
 rw [hnm]
 go_wp2
 go_ret
 exact ⟨_, rfl, HN4.out.1, HN4.out.2.1, HN4.out.2.2⟩
set_option maxHeartbeats 4000000 in
set_option maxRecDepth 100000 in
theorem insRoom_calls (g n cap b i : Nat) (l : List (S29)) (r : S29) (cs : List Value) (ok okr : Nat → Prop) (base : Nat) (w0 w : World) (HO : Kd.N k29 29 w base ok (.slice (some ⟨g, 0, none⟩) n cap) l) (hb : w.heap[b]? = some (.cells cs.toArray 29 (0, 0))) (hF : Kd.FK k29 w okr r cs)
  (hbg : b ≠ g) (hokr : ∀ k, okr k → ok k ∧ k ≠ g) (HB : Below base w0 w) (hbase : base ≤ w.heap.size) (hi : i < n) (hn : n ≤ 1000000) (hcap : n + 1 ≤ cap) :
  Calls Try.prog 58 #[.slice (some ⟨g, 0, none⟩) n cap, .int .i64 (i : Int), .slice (some ⟨b, 0, none⟩) 1 1] w fun e w' => ∃ v', e = .returned v' ∧ Kd.N k29 29 w' base ok v' (l.take i ++ r :: l.drop i) ∧ Below base w0 w' ∧ w.grownBy w' (some g) := by
 obtain ⟨hnl, hog, hbg0, hnc, hcm, cur, inner, hg, hcs, hin, hre⟩ := N_open HO
 obtain ⟨i0, hi0, hz0⟩ := Option.map_eq_some_iff.1 info29
 simp only [Prod.mk.injEq] at hz0
 obtain ⟨hz, hsz, hby⟩ := hz0
 have hcl : cs.length = 6 := k29.K_len (Kd.FK_now hF)
 have hgl : g < w.heap.size := blk_lt hg
 have h6 : k29.sz = 6 := rfl
 rw [h6] at hcs hin hre
 have hil : inner.length = n * 6 := by rw [hre.1, hnl]
 have hcs2 : 0 < cur.size := by rw [hcs]; omega
 have hov : ∀ (lb cb : Nat), (callFunc 68 #[.slice (some ⟨b, 0, none⟩) 1 1, .slice (some ⟨g, (i + 1) * 6, none⟩) lb cb]).run Try.prog w = .ok (.value (.bool false)) w := by
  intro lb cb
  rw [run_callFunc_extern Try.func68 (by kernel_rfl) (by kernel_rfl) (by kernel_rfl) (e := Extern.SlicesOverlaps.overlaps #[22, 22] #[4]) (by kernel_rfl),
   Lib.run_overlaps_apart w 22 4 29 Try.underlying22 6 (fun W => by simp [sizeOf, typeInfo, hi0, hsz]) ⟨b, 0, none⟩ ⟨g, (i + 1) * 6, none⟩ 1 1 lb cb hbg 29 29 cs.length cur.size (by simp [World.shape?, hb]) (by simp [World.shape?, hg]) (by omega) (blk_frozen hb 0) (blk_frozen hb _)]
  rfl
 have hcut0 : ∀ W : World, (Instr.slice 22 (.slice (some ⟨g, 0, none⟩) n cap) (some (.int .i64 (i : Int))) none none).run Try.prog W = .ok (.slice (some ⟨g, i * 6, none⟩) (n - i) (cap - i)) W := by
  intro W
  have := cut_from (P := Try.prog) 22 29 .i64 Try.underlying22 hi0 6 hsz (some ⟨g, 0, none⟩) n cap (i : Int) (by omega) (by omega) W
  rw [Int.toNat_natCast, if_neg (by omega)] at this
  rw [this]
  simp [add0]
 have hcut : ∀ W : World, (Instr.slice 22 (.slice (some ⟨g, 0, none⟩) (n + 1) cap) (some (.int .i64 (i : Int))) none none).run Try.prog W = .ok (.slice (some ⟨g, i * 6, none⟩) (n + 1 - i) (cap - i)) W := by
  intro W
  have := cut_from (P := Try.prog) 22 29 .i64 Try.underlying22 hi0 6 hsz (some ⟨g, 0, none⟩) (n + 1) cap (i : Int) (by omega) (by omega) W
  rw [Int.toNat_natCast, if_neg (by omega)] at this
  rw [this]
  simp [add0]
 have hcut1 : ∀ W : World, (Instr.slice 22 (.slice (some ⟨g, 0, none⟩) (n + 1) cap) (some (.int .i64 ((i : Int) + 1))) none none).run Try.prog W = .ok (.slice (some ⟨g, (i + 1) * 6, none⟩) (n - i) (cap - (i + 1))) W := by
  intro W
  have := cut_from (P := Try.prog) 22 29 .i64 Try.underlying22 hi0 6 hsz (some ⟨g, 0, none⟩) (n + 1) cap ((i : Int) + 1) (by omega) (by omega) W
  rw [show ((i : Int) + 1).toNat = i + 1 from by omega, if_neg (by omega)] at this
  rw [this]
  simp [add0]
 have hto : ∀ W : World, (Instr.slice 22 (.slice (some ⟨g, 0, none⟩) n cap) none (some (.int .i64 ((n : Int) + 1))) none).run Try.prog W = .ok (.slice (some ⟨g, 0, none⟩) (n + 1) cap) W := by
  intro W
  have hel : Try.prog.elem 22 = 29 := by simp [Program.elem, Try.underlying22]
  have hu : Try.prog.underlying 22 = some (.slice (Try.prog.elem 22)) := by rw [hel]; exact Try.underlying22
  rw [run_slice_h W 22 (some ⟨g, 0, none⟩) n cap hu .i64 ((n : Int) + 1) (by omega) (by omega), hel]
  simp [sizeOf, typeInfo, hi0, hsz, sliced, Result.andThen, add0]
 obtain ⟨curb, hcb⟩ : ∃ x : Array Value, x = (cur.toList.take ((i + 1) * 6) ++ inner.drop (i * 6) ++ cur.toList.drop ((i + 1) * 6 + (inner.drop (i * 6)).length)).toArray := ⟨_, rfl⟩
 obtain ⟨curc, hcc⟩ : ∃ x : Array Value, x = (curb.toList.take (i * 6) ++ cs ++ curb.toList.drop (i * 6 + cs.length)).toArray := ⟨_, rfl⟩
 have HCB := m_ hcb
 have HCC := m_ hcc
 have HI0 := m_ (And.intro hi0 hsz)
 have HB' := m_ HB
 have HHB := m_ hb
 have HHG := m_ hg
 have HIN := m_ (And.intro hin hil)
 have HC0 := m_ hcs
 have HRE := m_ hre
 have HCS := m_ hcl
 have HF' := m_ hF
 have HOKR := m_ hokr
 have HNL := m_ hnl
 have HOG := m_ (And.intro hog hbg)
 clear HO hb hF hokr HB hg hcs hin hre hil hcl hnl hog hz hsz hby hi0 h6 hbg hcb hcc hcs2
 have ht0 : (i : Int) ≠ (n : Int) := by omega
 have ht1 : ((i : Int) == (n : Int)) = false := beq_eq_false_iff_ne.mpr ht0
 have ht2 : (i == n) = false := beq_eq_false_iff_ne.mpr (by omega)
 have ht3 : decide ((n : Int) + 1 > (cap : Int)) = false := decide_eq_false (by omega)
 have ht4 : decide ((cap : Int) < (n : Int) + 1) = false := decide_eq_false (by omega)
 have ht5 : decide (cap < n + 1) = false := decide_eq_false (by omega)
 have hw1 : IntKind.i64.wrap ((i : Int) + 1) = (i : Int) + 1 := by rw [IntKind.wrap_i64]; omega
 clear ht0
 go_enter Try.func58, Try.ntmps58
 go_wp2_with (simp only [hov])
 go_still_tail 8, (by kernel_rfl)
 change wpList _ _ _ _ _ w.drew
 have hdl : (inner.drop (i * 6)).length = (n - i) * 6 := by
  rw [List.length_drop, HIN.out.2]
  omega
 have hnm : Nat.min (n + 1 - i) (n - i) = n - i := Nat.min_eq_right (by omega)
 refine wpList_copy_rows rfl (.tmp 73) (.tmp 76) 22 22 rfl 29 6 Try.underlying22 (by rw [HI0.out.1]; exact congrArg some HI0.out.2) (some ⟨g, (i + 1) * 6, none⟩) (some ⟨g, i * 6, none⟩) (n - i) (cap - (i + 1)) (n + 1 - i) (cap - i) rfl rfl g ((i + 1) * 6) cur 29 HHG.out (inner.drop (i * 6)) ?_ ?_ ?_ ?_ curb ?_ ?_
 ·rw [hnm]
  exact hdl
 ·intro _
  refine ⟨rfl, _, rfl, row_cells (W := w.drew) HHG.out (i * 6) (fun j v hv => ?_)⟩
  rw [List.getElem?_drop, ← HIN.out.1, List.getElem?_take] at hv
  split at hv
  ·exact hv
  ·cases hv
 ·rw [hdl, HC0.out]
  omega
 ·intro v hv
  exact reps_one_F (d := k29) HRE.out v (List.mem_of_mem_drop hv)
 ·rw [HCB.out]
 rw [hnm]
 intro W1 hg1 ho1
 have hcbs : curb.size = cap * 6 := by
  rw [HCB.out]
  simp only [List.size_toArray, List.length_append, List.length_take, List.length_drop, Array.length_toList, HC0.out, HIN.out.2]
  omega
 have HW1 := m_ (And.intro hg1 ho1)
 have HDL := m_ (And.intro hdl hcbs)
 clear hg1 ho1 hdl hnm hcbs
 go_wp2_with ((with_reducible refine gate_builtin (b := .copy) (xs := #[.tmp 80, .tmp 81]) rfl ?_); refine Stop0.out ?_)
 refine ⟨?_⟩
 have hnm : Nat.min 1 (n + 1 - i) = 1 := Nat.min_eq_left (by omega)
 refine wpList_copy_rows rfl (.tmp 80) (.tmp 81) 22 22 rfl 29 6 Try.underlying22 (by rw [HI0.out.1]; exact congrArg some HI0.out.2) (some ⟨g, i * 6, none⟩) (some ⟨b, 0, none⟩) (n + 1 - i) (cap - i) 1 1 rfl rfl g (i * 6) curb 29 HW1.out.1 cs ?_ ?_ ?_ ?_ curc ?_ ?_
 ·rw [hnm, HCS.out]
 ·intro _
  refine ⟨rfl, _, rfl, fun j v hv => ?_⟩
  exact row_cells (W := W1) ((HW1.out.2.block b HOG.out.2).trans HHB.out) 0 (cs := cs) (fun j v hv => by simpa using hv) j v hv
 ·rw [HDL.out.2, HCS.out]
  omega
 ·exact k29.K_one (Kd.FK_now HF'.out)
 ·rw [HCC.out]
 rw [hnm]
 intro W2 hg2 ho2
 have honly : Only g w W2 := Only.trans (Only.trans (⟨rfl, rfl, rfl, rfl, fun _ _ => rfl⟩ : Only g w w.drew) HW1.out.2) ho2
 have hcur : curc.size = cap * 6 ∧ curc.toList.take ((n + 1) * 6) = inner.take (i * 6) ++ cs ++ inner.drop (i * 6) := by
  have h0 : cur.toList.take (i * 6) = inner.take (i * 6) := by
   rw [← HIN.out.1, List.take_take, Nat.min_eq_left (Nat.mul_le_mul_right _ (by omega))]
  have hl1 : (cur.toList.take ((i + 1) * 6)).length = (i + 1) * 6 := by rw [List.length_take, Array.length_toList, HC0.out]; omega
  have h1 : curb.toList.take (i * 6) = inner.take (i * 6) := by
   rw [HCB.out, List.toList_toArray, List.append_assoc, List.take_append_of_le_length (by rw [hl1]; omega), List.take_take, Nat.min_eq_left (by omega), h0]
  have h2 : curb.toList.drop (i * 6 + cs.length) = inner.drop (i * 6) ++ cur.toList.drop ((i + 1) * 6 + (inner.drop (i * 6)).length) := by
   rw [HCB.out, List.toList_toArray, List.append_assoc, HCS.out, show i * 6 + 6 = (i + 1) * 6 from by omega]
   rw [List.drop_append_of_le_length (by rw [hl1]; exact Nat.le_refl _), List.drop_of_length_le (by rw [hl1]; exact Nat.le_refl _), List.nil_append]
  constructor
  ·rw [HCC.out]
   simp only [List.size_toArray, List.length_append, List.length_take, List.length_drop, Array.length_toList, HDL.out.2, HCS.out]
   omega
  ·rw [HCC.out, List.toList_toArray, h1, h2, ← List.append_assoc]
   rw [List.take_append_of_le_length (by simp only [List.length_append, List.length_take, List.length_drop, HIN.out.2, HCS.out]; omega), List.take_of_length_le (by simp only [List.length_append, List.length_take, List.length_drop, HIN.out.2, HCS.out]; omega)]
 have hb4 : Below base w0 W2 := pw_below_grown HB'.out _ hbase honly.grown (fun k hk => by injection hk with hk; omega)
 have hll : (l.take i ++ r :: l.drop i).length = n + 1 := by
  simp only [List.length_append, List.length_take, List.length_cons, List.length_drop, ← HNL.out]
  omega
 have hN : Kd.N k29 29 W2 base ok (.slice (some ⟨g, 0, none⟩) (n + 1) cap) (l.take i ++ r :: l.drop i) := by
  have := N_mk (d := k29) (base := base) (ok := ok) (xs := l.take i ++ r :: l.drop i) (cap := cap) (inner := inner.take (i * 6) ++ cs ++ inner.drop (i * 6)) hg2 hbg0 HOG.out.1 (by rw [hll]; exact hcap) hcm hcur.1 (by rw [hll]; exact hcur.2) (by
   have hre2 : Reps (fun x c => Kd.FK k29 W2 (fun k => ok k ∧ k ≠ g) x c) 6 l inner := reps_F_step HRE.out (fun k hk _ => honly.block k hk.2)
   have hfr : Kd.FK k29 W2 (fun k => ok k ∧ k ≠ g) r cs := Kd.FK_mono (Kd.FK_step HF'.out (fun k hk hlt => honly.block k (HOKR.out k hk).2)) (fun k hk => HOKR.out k hk)
   have h3 := Kd.reps_append (Kd.reps_append (reps_take hre2 i) (reps_single hfr HCS.out)) (reps_drop hre2 i)
   rw [List.append_assoc] at h3
   exact h3)
  rw [hll] at this
  exact this
 have HN4 := m_ (And.intro hN (And.intro hb4 honly.grown))
 clear hN hb4 hg2 ho2 hcur honly
 go_wp2
 go_ret
 exact ⟨_, rfl, HN4.out.1, HN4.out.2.1, HN4.out.2.2⟩
theorem insRule_calls (A : Option Addr) (n cap b i : Nat) (l : List (S29)) (r : S29) (cs : List Value) (ok okr : Nat → Prop) (base : Nat) (w0 w : World) (HO : Kd.N k29 29 w base ok (.slice A n cap) l) (hb : w.heap[b]? = some (.cells cs.toArray 29 (0, 0))) (hF : Kd.FK k29 w okr r cs)
  (hbok : ok b ∧ some b ≠ (Value.slice A n cap).ownBlock) (hokr : ∀ k, okr k → ok k ∧ some k ≠ (Value.slice A n cap).ownBlock) (hfresh : ∀ k, w.heap.size ≤ k → ok k) (HB : Below base w0 w) (hbase : base ≤ w.heap.size) (hi : i ≤ n) (hn : n ≤ 1000000) :
  Calls Try.prog 58 #[.slice A n cap, .int .i64 (i : Int), .slice (some ⟨b, 0, none⟩) 1 1] w fun e w' => ∃ v', e = .returned v' ∧ Kd.N k29 29 w' base ok v' (l.take i ++ r :: l.drop i) ∧ Below base w0 w' ∧ w.grownBy w' (Value.slice A n cap).ownBlock := by
 have hnl := (Kd.N_reads' HO).1
 rcases Nat.lt_or_ge i n with h | h
 ·obtain ⟨g, cap', he, _⟩ := Kd.N_form HO (by omega)
  injection he with h1 h2 h3
  subst h1
  have hbg : b ≠ g := fun e => hbok.2 (by rw [e]; simp [Value.ownBlock])
  have hokr' : ∀ k, okr k → ok k ∧ k ≠ g := fun k hk => ⟨(hokr k hk).1, fun e => (hokr k hk).2 (by rw [e]; simp [Value.ownBlock])⟩
  rcases Nat.lt_or_ge cap (n + 1) with hc | hc
  ·exact insNew_calls g n cap b i l r cs ok okr base w0 w HO hb hF hbg hokr' hfresh HB hbase h hn hc
  ·exact insRoom_calls g n cap b i l r cs ok okr base w0 w HO hb hF hbg hokr' HB hbase h hn hc
 ·obtain rfl : i = n := by omega
  have := insEnd_calls A i cap b l r cs ok okr base w0 w HO hb hF hbok hokr hfresh HB hbase hn
  rw [List.take_of_length_le (by omega), List.drop_of_length_le (by omega)]
  exact this
set_option maxHeartbeats 4000000 in
set_option maxRecDepth 100000 in
theorem cloneRule_calls (P : Nat → Prop) (A0 : Option Addr) (c0 : Nat) (l0 : List (S29)) (w : World) (h0 : Kd.V k29 29 w w.heap.size P (.slice A0 l0.length c0) l0) (hl : l0.length ≤ 1000000) :
  Calls Try.prog 59 #[.slice A0 l0.length c0] w fun e w' => ∃ v0_ : Value, e = .returned (v0_) ∧ Kd.N k29 29 w' w.heap.size (fun k => P k ∨ w.heap.size ≤ k) v0_ l0 ∧ Below w.heap.size w w' := by
 have hF : Kd.F k29 w (fun k => P k ∧ k < w.heap.size) A0 l0.length l0 := Kd.F_bound (Kd.V_F h0)
 cases A0 with
 | none =>
  have hz : l0 = [] := by
   rcases Nat.eq_zero_or_pos l0.length with h | h
   ·exact List.eq_nil_of_length_eq_zero h
   ·obtain ⟨ad, h1, _⟩ := (Kd.F_now hF).2.2 h
    cases h1
  subst hz
  clear h0 hF hl
  have heq : ∀ (n c : Nat) (W : World), (binOp .eql 22 (.slice none n c) (.slice none 0 0)).run Try.prog W = .ok (.bool true) W := fun _ _ _ => rfl
  go_enter Try.func59, Try.ntmps59
  go_wp2
  go_ret
  exact ⟨_, rfl, Kd.N_nil _ _ _ _ _, Below.refl _ _⟩
 | some ad =>
  have HF := m_ hF
  have HL := m_ hl
  clear h0 hF hl
  have heq : ∀ (n c : Nat) (W : World), (binOp .eql 22 (.slice (some ad) n c) (.slice none 0 0)).run Try.prog W = .ok (.bool false) W := fun _ _ _ => rfl
  go_enter Try.func59, Try.ntmps59
  go_wp2_with ((with_reducible refine gate_dst (N := 5) rfl ?_); (try (refine gate_guard (by rfl) ?_; dsimp only)); refine Kd.N_lit k29 _ 29 ?hg (N' := 5) ?hd (xs := ([] : List (S29))) (inner := []) (ok := fun k => P k ∨ w.heap.size ≤ k) (okp := fun _ => False) ?hr ?hp (fun _ hk => hk.elim) (Or.inr (Nat.le_refl _)) (Below.refl _ _) (Nat.le_refl _) (by simp) ?_; (case hd => rfl); (case hg => rfl); (case hr => first | (go_simp; done) | (go_simp; rfl)); (case hp => exact (Reps.none _ _)); intro v1 w1 ho hb hg_ hnew_; refine Stop0.out ?_)
  refine ⟨?_⟩
  have HO := m_ ho
  have HB1 := m_ hb
  have HNEW := m_ hnew_
  clear ho hb hg_ hnew_
  go_wp2_with ((with_reducible refine gate_builtin (b := .append) (xs := #[.tmp 5, .tmp 6]) rfl ?_); (try (refine gate_guard (by rfl) ?_; dsimp only)); refine Stop0.out ?_)
  refine ⟨?_⟩
  refine Kd.N_append_rows k29 (w0 := w) w.heap.size rfl (.tmp 5) (.tmp 6) 22 29 (.agg #[(.int .u32 0), (.int .u32 0), (.int .u32 0), (.int .i64 0), (.int .u32 0), (.slice none 0 0)]) 56 rfl Try.underlying22 info29 rfl (by decide) (by omega) v1 [] l0 (some ad) l0.length _ (fun k => P k ∨ w.heap.size ≤ k) (fun k => P k ∧ k < w.heap.size) rfl rfl HO.out (Kd.F_below HF.out HB1.out) (fun k hk => ⟨.inl hk.1, ?_⟩) (fun k hk => .inr (Nat.le_trans HB1.out.size hk)) HB1.out HB1.out.size (by have := HL.out; simp; omega) ?_
  ·obtain ⟨b, hb, hbs⟩ := HNEW.out
   rw [hb]
   intro e
   injection e with e
   omega
  intro v2 w2 h2 hb2 _ _
  have H2 := m_ (And.intro h2 hb2)
  clear h2 hb2
  go_wp2
  go_ret
  exact ⟨v2, rfl, H2.out.1, H2.out.2⟩
end Go.Proofs.Ytfomnmdjbdohgaa.P

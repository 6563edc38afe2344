/- For each Go function a Lean function, and the proof that a call comes to what it tells: made by program out of the translation (the kit's print, with texts by hand put in). No condition. -/
import Derived.Test.YtfomnmdjbdohgaaSq
import Derived.Test.YtfomnmdjbdohgaaPx0
import Derived.Test.YtfomnmdjbdohgaaPx7
import Derived.Test.YtfomnmdjbdohgaaPx8
import Derived.Test.YtfomnmdjbdohgaaPx12
namespace Go.Proofs.Ytfomnmdjbdohgaa.P
open Go.RowKit Go.Proofs.Ytfomnmdjbdohgaa.HRows Go.Proofs.YtfomnmdjbdohgaaW.PrintWords Go.Proofs.YtfomnmdjbdohgaaW.PrintLast Go.Proofs.YtfomnmdjbdohgaaW.PrintMore
attribute [local go_sem] max2_int min2_int max_two min_two max_three min_three max_four min_four
set_option linter.unusedVariables false
set_option linter.unusedSimpArgs false
/-- A map literal's entry, in a map of the call's own. -/
theorem sw_insert {H : Type} {P : Program} (w : World) {ops : Array Oper} {rest : List Oper} {o : Oper} {a : Act} {Q : Exit → Act → World → Prop}
    (hg : o.guard = none) (m x v : Operand) (t : TypeId) (hop : o.op = Op.insert t m x v)
    (k e : TypeId) (K : Maps.Keyed P k) (ht : P.underlying t = some (.map k e)) (R : Value → Option (DataW H × List MemPlace)) (b n : Nat) (D : DataW H)
    (hm : a.eval m = .map (some b)) (hown : w.ownsMap P k R b n D) (hn : n < maxLen) (key val : Value) (kl : Lit) (hx : a.eval x = key) (hv : a.eval v = val) (hkey : keyOf P k key = some kl)
    (d : DataW H) (ps : List MemPlace) (hval : R val = some (d, ps))
    (hK : ∀ w', w'.ownsMap P k R b (n + 1) (D.put kl d) → w.grownBy w' (some b) → wpList P ops Q rest (a.put o.dst undef) w') :
    wpList P ops Q (o :: rest) a w := by
  refine wpList_plain hg fun K' hK' => ?_
  obtain ⟨w', hrun, r1, r2⟩ := hown.update K ht hn hkey hval
  unfold Oper.wp
  simp [execOp, hop, hm, hx, hv, hrun, Result.andThen]
  exact hK' _ _ (hK w' r1 r2)
/-- How a method of the work at gw reads in the map: its number; the function that is none: 0. -/
noncomputable def methR (gw : Nat) : Value → Option (DataW Unit × List MemPlace)
  | .func (.func n) f c => @ite _ (f = #[.pointer (some ⟨gw, 0, none⟩)] ∧ c = #[]) (Classical.propDecidable _) (some (.lit (.int .i64 n), [])) none
  | .nilFunc => some (.lit (.int .i64 0), [])
  | _ => none
theorem methR_func (gw n : Nat) : methR gw (.func (.func n) #[.pointer (some ⟨gw, 0, none⟩)] #[]) = some (.lit (.int .i64 n), []) := by
  unfold methR
  exact if_pos ⟨rfl, rfl⟩
theorem methR_inv {gw : Nat} {v : Value} {n : Nat} {d : DataW Unit} {ps : List MemPlace} (hn : 0 < n) (h : methR gw v = some (d, ps)) (hd : d = .lit (.int .i64 n)) : v = .func (.func n) #[.pointer (some ⟨gw, 0, none⟩)] #[] := by
  subst hd
  unfold methR at h
  split at h
  · rename_i n' f c
    by_cases hc : f = #[.pointer (some ⟨gw, 0, none⟩)] ∧ c = #[]
    · rw [if_pos hc] at h
      have h1 := congrArg Prod.fst (Option.some.inj h)
      simp at h1
      rw [hc.1, hc.2, show n' = n from Int.ofNat.inj h1]
    · rw [if_neg hc] at h
      cases h
  · have h1 := congrArg Prod.fst (Option.some.inj h)
    simp at h1
    omega
  · cases h
theorem sw_below_grown {g : Nat} {w W W' : World} (h : Below w.heap.size w W) (hg : W.grownBy W' (some g)) (hb : w.heap.size ≤ g) : Below w.heap.size w W' :=
  ⟨hg.os.trans h.os, hg.tape.trans h.tape, hg.output.trans h.output, Nat.le_trans h.size hg.size, fun k hk => by
    have h1 := h.size
    exact (hg.block k (by omega) (fun e => by have := Option.some.inj e; omega)).trans (h.block k hk)⟩
def methD : DataW Unit := (((((DataW.map []).put (.int .u8 1) (.lit (.int .i64 (37 : Nat)))).put (.int .u8 2) (.lit (.int .i64 (38 : Nat)))).put (.int .u8 6) (.lit (.int .i64 (39 : Nat)))).put (.int .u8 3) (.lit (.int .i64 (40 : Nat)))).put (.int .u8 9) (.lit (.int .i64 (41 : Nat)))
theorem methD_no {a : Int} (h : a ≠ 1 ∧ a ≠ 2 ∧ a ≠ 6 ∧ a ≠ 3 ∧ a ≠ 9) : Maps.has methD (.int .u8 a) = false := by
  have e : methD = .map [(.int .u8 1, .lit (.int .i64 (37 : Nat))), (.int .u8 2, .lit (.int .i64 (38 : Nat))), (.int .u8 3, .lit (.int .i64 (40 : Nat))), (.int .u8 6, .lit (.int .i64 (39 : Nat))), (.int .u8 9, .lit (.int .i64 (41 : Nat)))] := rfl
  rw [e]
  simp [Maps.has, Lit.sameKey]
  omega
def kindFn (a : Int) : Option Nat := if a = 1 then some 37 else if a = 2 then some 38 else if a = 6 then some 39 else if a = 3 then some 40 else if a = 9 then some 41 else none
theorem kind_case {gw : Nat} {a : Int} {v : Value} {ps : List MemPlace} (hv : methR gw v = some (methD.atKey (.int .u8 a) (.lit (.int .i64 0)), ps)) : (∃ fn : Nat, kindFn a = some fn ∧ v = .func (.func fn) #[.pointer (some ⟨gw, 0, none⟩)] #[] ∧ Maps.has methD (.int .u8 a) = true ∧ (fn = 37 ∨ fn = 38 ∨ fn = 39 ∨ fn = 40 ∨ fn = 41)) ∨ (kindFn a = none ∧ Maps.has methD (.int .u8 a) = false) := by
  by_cases h1 : a = 1
  · subst h1
    exact .inl ⟨37, rfl, methR_inv (by decide) hv rfl, rfl, by simp⟩
  by_cases h2 : a = 2
  · subst h2
    exact .inl ⟨38, rfl, methR_inv (by decide) hv rfl, rfl, by simp⟩
  by_cases h6 : a = 6
  · subst h6
    exact .inl ⟨39, rfl, methR_inv (by decide) hv rfl, rfl, by simp⟩
  by_cases h3 : a = 3
  · subst h3
    exact .inl ⟨40, rfl, methR_inv (by decide) hv rfl, rfl, by simp⟩
  by_cases h9 : a = 9
  · subst h9
    exact .inl ⟨41, rfl, methR_inv (by decide) hv rfl, rfl, by simp⟩
  exact .inr ⟨by simp [kindFn, h1, h2, h6, h3, h9], methD_no ⟨h1, h2, h6, h3, h9⟩⟩
set_option maxHeartbeats 8000000 in
set_option maxRecDepth 100000 in
theorem swtch_hear.calls (gw : Nat) (lim : Int) (vR vB vO : Value) (a0 a1 a2 a3 a4 a5 a6 : Int) (A7 : Option Addr) (c7 : Nat) (l7 : List S74) (a8 : Int) (a9 : Bool) (A10 : Option Addr) (c10 : Nat) (l10 : List Int) (w : World) (hW : w.heap[gw]? = some (.cells #[.int .i64 lim, vR, vB, vO] 68 (0, 0))) (hwf : (Lit.int .u8 a0).wf = true) (k : Nat) (r : Bool) (hr7 : Kd.C k74 w A7 l7.length l7) (hc7 : l7.length ≤ c7) (hr10 : Kd.C (Kd.int .u8) w A10 l10.length l10) (hc10 : l10.length ≤ c10) (hr : ofmsg_Right.f k a0 a1 a2 a3 a4 a5 a6 l7 a8 a9 l10 = some r) (Post : World → Prop) (h0 : (r = false ∨ kindFn a0 = none) → ∀ w', Below w.heap.size w w' → w'.heap[gw]? = some (.cells #[.int .i64 lim, vR, vB, vO] 68 (0, 0)) → Post w') (h1 : r = true → ∀ fn, kindFn a0 = some fn → ∀ w', Below w.heap.size w w' → w'.heap[gw]? = some (.cells #[.int .i64 lim, vR, vB, vO] 68 (0, 0)) → Calls Try.prog fn #[.pointer (some ⟨gw, 0, none⟩), .agg #[.int .u8 a0, .int .u32 a1, .int .u32 a2, .int .u32 a3, .int .u32 a4, .int .i64 a5, .int .u32 a6, .slice A7 l7.length c7, .int .i64 a8, .bool a9, .slice A10 l10.length c10]] w' fun e w'' => e = .returned (.tuple #[]) ∧ Post w'') :
  Calls Try.prog 29 #[.pointer (some ⟨gw, 0, none⟩), .agg #[.int .u8 a0, .int .u32 a1, .int .u32 a2, .int .u32 a3, .int .u32 a4, .int .i64 a5, .int .u32 a6, .slice A7 l7.length c7, .int .i64 a8, .bool a9, .slice A10 l10.length c10]] w fun e w' => e = .returned (.tuple #[]) ∧ Post w' := by
 have hu32 := Try.underlying32
 have hu68 := Try.underlying68
 have HW := m_ hW
 have HR7 := m_ hr7
 have HC7 := m_ hc7
 have HR10 := m_ hr10
 have HC10 := m_ hc10
 have HR := m_ hr
 have H0 := m_ h0
 have H1 := m_ h1
 clear hW hr7 hc7 hr10 hc10 hr h0 h1
 have HS := m_ (Below.refl w.heap.size w)
 have hmf : ∀ fn first cap w, (Instr.makeFunc fn first cap).run Try.prog w = .ok (.func fn first cap) w := fun _ _ _ _ => rfl
 go_enter Try.func29, Try.ntmps29
 go_wp2_with (first | ((with_reducible refine gate_dst (N := 3) rfl ?_); refine bx_ 3 32 #[.int .u8 a0, .int .u32 a1, .int .u32 a2, .int .u32 a3, .int .u32 a4, .int .i64 a5, .int .u32 a6, .slice A7 l7.length c7, .int .i64 a8, .bool a9, .slice A10 l10.length c10] ?_; intro gm hg w1 hbox hb; have BM := m_ (hbox); have GM := m_ (Nat.le_of_eq hg.symm); replace HW := m_ (blk_below HW.out hb); replace HS := m_ hb; clear hb hbox hg) | ((with_reducible refine gate_dst (N := 7) rfl ?_); refine Stop0.out ?_))
 refine ⟨?_⟩
 have HWo := HW
 have BMo := BM
 have HSo := HS
 refine wpList_run rfl (v := .map (some w1.heap.size)) (w' := w1.alloc (.map #[] 0)) rfl ?_
 (try simp only [Act.put, List.setIfInBounds_toArray, List.set_cons_zero, List.set_cons_succ])
 have hM := World.ownsMap_made w1 Try.prog 5 (methR gw)
 replace HW := m_ (blk_alloc HW.out (.map #[] 0))
 replace BM := m_ (blk_alloc BM.out (.map #[] 0))
 replace HS := m_ (below_alloc HS.out (.map #[] 0))
 have HGM := m_ (show gw ≠ w1.heap.size ∧ gm ≠ w1.heap.size ∧ w.heap.size ≤ w1.heap.size from ⟨fun e => by have := blk_lt HWo.out; omega, fun e => by have := blk_lt BMo.out; omega, HSo.out.size⟩)
 generalize w1.alloc (.map #[] 0) = w2 at hM HW BM HS ⊢
 generalize w1.heap.size = gM at hM HGM ⊢
 clear HWo BMo HSo
 refine wpList_run rfl (v := .pointer (some ⟨gw, 0, none⟩)) rfl ?_
 (try simp only [Act.put, List.setIfInBounds_toArray, List.set_cons_zero, List.set_cons_succ])
 refine wpList_run rfl (v := .func (.func 37) #[.pointer (some ⟨gw, 0, none⟩)] #[]) (w' := w2) (by first | (go_simp; done) | (go_simp; rfl)) ?_
 (try simp only [Act.put, List.setIfInBounds_toArray, List.set_cons_zero, List.set_cons_succ])
 refine sw_insert _ rfl _ _ _ 77 rfl 5 69 (Maps.int_keyed Try.underlying5) Try.underlying77 (methR gw) gM 0 _ rfl hM (by decide) _ _ (.int .u8 1) rfl rfl (Maps.keyOf_int_mk Try.underlying5 (by decide)) _ _ (methR_func gw 37) ?_
 intro w3 hM0 hg0
 replace HW := m_ (blk_grown (g := gw) HW.out hg0 (fun e => HGM.out.1 (Option.some.inj e)))
 replace BM := m_ (blk_grown (g := gm) BM.out hg0 (fun e => HGM.out.2.1 (Option.some.inj e)))
 have HK0 := m_ hg0
 clear hg0 hM
 have hM := hM0
 clear hM0
 (try simp only [Act.put, List.setIfInBounds_toArray, List.set_cons_zero, List.set_cons_succ])
 refine wpList_run rfl (v := .pointer (some ⟨gw, 0, none⟩)) rfl ?_
 (try simp only [Act.put, List.setIfInBounds_toArray, List.set_cons_zero, List.set_cons_succ])
 refine wpList_run rfl (v := .func (.func 38) #[.pointer (some ⟨gw, 0, none⟩)] #[]) (w' := w3) (by first | (go_simp; done) | (go_simp; rfl)) ?_
 (try simp only [Act.put, List.setIfInBounds_toArray, List.set_cons_zero, List.set_cons_succ])
 refine sw_insert _ rfl _ _ _ 77 rfl 5 69 (Maps.int_keyed Try.underlying5) Try.underlying77 (methR gw) gM 1 _ rfl hM (by decide) _ _ (.int .u8 2) rfl rfl (Maps.keyOf_int_mk Try.underlying5 (by decide)) _ _ (methR_func gw 38) ?_
 intro w4 hM1 hg1
 replace HW := m_ (blk_grown (g := gw) HW.out hg1 (fun e => HGM.out.1 (Option.some.inj e)))
 replace BM := m_ (blk_grown (g := gm) BM.out hg1 (fun e => HGM.out.2.1 (Option.some.inj e)))
 have HK1 := m_ hg1
 clear hg1 hM
 have hM := hM1
 clear hM1
 (try simp only [Act.put, List.setIfInBounds_toArray, List.set_cons_zero, List.set_cons_succ])
 refine wpList_run rfl (v := .pointer (some ⟨gw, 0, none⟩)) rfl ?_
 (try simp only [Act.put, List.setIfInBounds_toArray, List.set_cons_zero, List.set_cons_succ])
 refine wpList_run rfl (v := .func (.func 39) #[.pointer (some ⟨gw, 0, none⟩)] #[]) (w' := w4) (by first | (go_simp; done) | (go_simp; rfl)) ?_
 (try simp only [Act.put, List.setIfInBounds_toArray, List.set_cons_zero, List.set_cons_succ])
 refine sw_insert _ rfl _ _ _ 77 rfl 5 69 (Maps.int_keyed Try.underlying5) Try.underlying77 (methR gw) gM 2 _ rfl hM (by decide) _ _ (.int .u8 6) rfl rfl (Maps.keyOf_int_mk Try.underlying5 (by decide)) _ _ (methR_func gw 39) ?_
 intro w5 hM2 hg2
 replace HW := m_ (blk_grown (g := gw) HW.out hg2 (fun e => HGM.out.1 (Option.some.inj e)))
 replace BM := m_ (blk_grown (g := gm) BM.out hg2 (fun e => HGM.out.2.1 (Option.some.inj e)))
 have HK2 := m_ hg2
 clear hg2 hM
 have hM := hM2
 clear hM2
 (try simp only [Act.put, List.setIfInBounds_toArray, List.set_cons_zero, List.set_cons_succ])
 refine wpList_run rfl (v := .pointer (some ⟨gw, 0, none⟩)) rfl ?_
 (try simp only [Act.put, List.setIfInBounds_toArray, List.set_cons_zero, List.set_cons_succ])
 refine wpList_run rfl (v := .func (.func 40) #[.pointer (some ⟨gw, 0, none⟩)] #[]) (w' := w5) (by first | (go_simp; done) | (go_simp; rfl)) ?_
 (try simp only [Act.put, List.setIfInBounds_toArray, List.set_cons_zero, List.set_cons_succ])
 refine sw_insert _ rfl _ _ _ 77 rfl 5 69 (Maps.int_keyed Try.underlying5) Try.underlying77 (methR gw) gM 3 _ rfl hM (by decide) _ _ (.int .u8 3) rfl rfl (Maps.keyOf_int_mk Try.underlying5 (by decide)) _ _ (methR_func gw 40) ?_
 intro w6 hM3 hg3
 replace HW := m_ (blk_grown (g := gw) HW.out hg3 (fun e => HGM.out.1 (Option.some.inj e)))
 replace BM := m_ (blk_grown (g := gm) BM.out hg3 (fun e => HGM.out.2.1 (Option.some.inj e)))
 have HK3 := m_ hg3
 clear hg3 hM
 have hM := hM3
 clear hM3
 (try simp only [Act.put, List.setIfInBounds_toArray, List.set_cons_zero, List.set_cons_succ])
 refine wpList_run rfl (v := .pointer (some ⟨gw, 0, none⟩)) rfl ?_
 (try simp only [Act.put, List.setIfInBounds_toArray, List.set_cons_zero, List.set_cons_succ])
 refine wpList_run rfl (v := .func (.func 41) #[.pointer (some ⟨gw, 0, none⟩)] #[]) (w' := w6) (by first | (go_simp; done) | (go_simp; rfl)) ?_
 (try simp only [Act.put, List.setIfInBounds_toArray, List.set_cons_zero, List.set_cons_succ])
 refine sw_insert _ rfl _ _ _ 77 rfl 5 69 (Maps.int_keyed Try.underlying5) Try.underlying77 (methR gw) gM 4 _ rfl hM (by decide) _ _ (.int .u8 9) rfl rfl (Maps.keyOf_int_mk Try.underlying5 (by decide)) _ _ (methR_func gw 41) ?_
 intro w7 hM4 hg4
 replace HW := m_ (blk_grown (g := gw) HW.out hg4 (fun e => HGM.out.1 (Option.some.inj e)))
 replace BM := m_ (blk_grown (g := gm) BM.out hg4 (fun e => HGM.out.2.1 (Option.some.inj e)))
 have HK4 := m_ hg4
 clear hg4 hM
 have hM := hM4
 clear hM4
 (try simp only [Act.put, List.setIfInBounds_toArray, List.set_cons_zero, List.set_cons_succ])
 have HS7 := m_ (sw_below_grown (sw_below_grown (sw_below_grown (sw_below_grown (sw_below_grown HS.out HK0.out HGM.out.2.2) HK1.out HGM.out.2.2) HK2.out HGM.out.2.2) HK3.out HGM.out.2.2) HK4.out HGM.out.2.2)
 clear HK0 HK1 HK2 HK3 HK4 HS
 replace hM : w7.ownsMap Try.prog 5 (methR gw) gM 5 methD := hM
 have c0 : w7.cell? ⟨gm, 0, none⟩ = some (.int .u8 a0) := (blk_cell BM.out 0).trans rfl
 go_wp2_with (at_lookup; refine Stop0.out ?_)
 refine ⟨?_⟩
 refine wpList_lookup_own_ok w7 rfl _ _ 77 rfl 5 69 (Maps.int_keyed Try.underlying5) Try.underlying77 (methR gw) (z := .nilFunc) ?hz (.lit (.int .i64 0)) [] rfl gM 5 methD rfl hM _ (.int .u8 a0) rfl (Maps.keyOf_int_mk Try.underlying5 hwf) ?_
 (case hz => go_simp)
 intro v ps hv
 have HK := m_ (kind_case hv)
 clear hv hM
 have hcz := cz11_ BM.out
 rcases HK.out with ⟨fn, hkf, rfl, hh, hfn⟩ | ⟨hkf, hh⟩
 · rw [hh]
   have HKF := m_ hkf
   clear HK hkf hh
   cases r with
   | false =>
    have H0' := m_ (H0.out (.inl rfl))
    clear H0 H1
    go_wp2_with (first | (go_at_call 42; (with_reducible refine (ofmsg_Right.calls k a0 a1 a2 a3 a4 a5 a6 _ _ l7 a8 a9 _ _ l10 false _ ?side1 ?side2 ?side3 ?side4 HR.out).mono ?_); (case side1 => exact Cd_ (Kd.C_below HR7.out HS7.out)); (case side2 => exact HC7.out); (case side3 => exact Cd_ (Kd.C_below HR10.out HS7.out)); (case side4 => exact HC10.out); rintro e w8 ⟨rfl, hb⟩; have HS8 := m_ (below_then HS7.out HS7.out.size hb); replace HW := m_ (blk_below HW.out hb); replace BM := m_ (blk_below BM.out hb); (try clear hb); clear hcz; have hcz := cz11_ BM.out))
    (try simp only [Exit.inBlock, Exit.then])
    refine ⟨rfl, .tuple #[], results_none rfl _ _ _, ?_⟩
    exact ⟨rfl, H0'.out _ HS8.out HW.out⟩
   | true =>
    have H1' := m_ (H1.out rfl fn HKF.out)
    clear H1 H0 HKF
    rcases hfn with rfl | rfl | rfl | rfl | rfl
    · go_wp2_with (first | (go_at_call 42; (with_reducible refine (ofmsg_Right.calls k a0 a1 a2 a3 a4 a5 a6 _ _ l7 a8 a9 _ _ l10 true _ ?side1 ?side2 ?side3 ?side4 HR.out).mono ?_); (case side1 => exact Cd_ (Kd.C_below HR7.out HS7.out)); (case side2 => exact HC7.out); (case side3 => exact Cd_ (Kd.C_below HR10.out HS7.out)); (case side4 => exact HC10.out); rintro e w8 ⟨rfl, hb⟩; have HS8 := m_ (below_then HS7.out HS7.out.size hb); replace HW := m_ (blk_below HW.out hb); replace BM := m_ (blk_below BM.out hb); (try clear hb); clear hcz; have hcz := cz11_ BM.out) | (go_at_call 37; refine Stop0.out ?_))
      refine ⟨?_⟩
      refine (H1'.out w8 HS8.out HW.out).mono ?_
      rintro e w9 ⟨rfl, hp⟩
      go_wp2
      (try simp only [Exit.inBlock, Exit.then])
      refine ⟨rfl, .tuple #[], results_none rfl _ _ _, ?_⟩
      exact ⟨rfl, hp⟩
    · go_wp2_with (first | (go_at_call 42; (with_reducible refine (ofmsg_Right.calls k a0 a1 a2 a3 a4 a5 a6 _ _ l7 a8 a9 _ _ l10 true _ ?side1 ?side2 ?side3 ?side4 HR.out).mono ?_); (case side1 => exact Cd_ (Kd.C_below HR7.out HS7.out)); (case side2 => exact HC7.out); (case side3 => exact Cd_ (Kd.C_below HR10.out HS7.out)); (case side4 => exact HC10.out); rintro e w8 ⟨rfl, hb⟩; have HS8 := m_ (below_then HS7.out HS7.out.size hb); replace HW := m_ (blk_below HW.out hb); replace BM := m_ (blk_below BM.out hb); (try clear hb); clear hcz; have hcz := cz11_ BM.out) | (go_at_call 38; refine Stop0.out ?_))
      refine ⟨?_⟩
      refine (H1'.out w8 HS8.out HW.out).mono ?_
      rintro e w9 ⟨rfl, hp⟩
      go_wp2
      (try simp only [Exit.inBlock, Exit.then])
      refine ⟨rfl, .tuple #[], results_none rfl _ _ _, ?_⟩
      exact ⟨rfl, hp⟩
    · go_wp2_with (first | (go_at_call 42; (with_reducible refine (ofmsg_Right.calls k a0 a1 a2 a3 a4 a5 a6 _ _ l7 a8 a9 _ _ l10 true _ ?side1 ?side2 ?side3 ?side4 HR.out).mono ?_); (case side1 => exact Cd_ (Kd.C_below HR7.out HS7.out)); (case side2 => exact HC7.out); (case side3 => exact Cd_ (Kd.C_below HR10.out HS7.out)); (case side4 => exact HC10.out); rintro e w8 ⟨rfl, hb⟩; have HS8 := m_ (below_then HS7.out HS7.out.size hb); replace HW := m_ (blk_below HW.out hb); replace BM := m_ (blk_below BM.out hb); (try clear hb); clear hcz; have hcz := cz11_ BM.out) | (go_at_call 39; refine Stop0.out ?_))
      refine ⟨?_⟩
      refine (H1'.out w8 HS8.out HW.out).mono ?_
      rintro e w9 ⟨rfl, hp⟩
      go_wp2
      (try simp only [Exit.inBlock, Exit.then])
      refine ⟨rfl, .tuple #[], results_none rfl _ _ _, ?_⟩
      exact ⟨rfl, hp⟩
    · go_wp2_with (first | (go_at_call 42; (with_reducible refine (ofmsg_Right.calls k a0 a1 a2 a3 a4 a5 a6 _ _ l7 a8 a9 _ _ l10 true _ ?side1 ?side2 ?side3 ?side4 HR.out).mono ?_); (case side1 => exact Cd_ (Kd.C_below HR7.out HS7.out)); (case side2 => exact HC7.out); (case side3 => exact Cd_ (Kd.C_below HR10.out HS7.out)); (case side4 => exact HC10.out); rintro e w8 ⟨rfl, hb⟩; have HS8 := m_ (below_then HS7.out HS7.out.size hb); replace HW := m_ (blk_below HW.out hb); replace BM := m_ (blk_below BM.out hb); (try clear hb); clear hcz; have hcz := cz11_ BM.out) | (go_at_call 40; refine Stop0.out ?_))
      refine ⟨?_⟩
      refine (H1'.out w8 HS8.out HW.out).mono ?_
      rintro e w9 ⟨rfl, hp⟩
      go_wp2
      (try simp only [Exit.inBlock, Exit.then])
      refine ⟨rfl, .tuple #[], results_none rfl _ _ _, ?_⟩
      exact ⟨rfl, hp⟩
    · go_wp2_with (first | (go_at_call 42; (with_reducible refine (ofmsg_Right.calls k a0 a1 a2 a3 a4 a5 a6 _ _ l7 a8 a9 _ _ l10 true _ ?side1 ?side2 ?side3 ?side4 HR.out).mono ?_); (case side1 => exact Cd_ (Kd.C_below HR7.out HS7.out)); (case side2 => exact HC7.out); (case side3 => exact Cd_ (Kd.C_below HR10.out HS7.out)); (case side4 => exact HC10.out); rintro e w8 ⟨rfl, hb⟩; have HS8 := m_ (below_then HS7.out HS7.out.size hb); replace HW := m_ (blk_below HW.out hb); replace BM := m_ (blk_below BM.out hb); (try clear hb); clear hcz; have hcz := cz11_ BM.out) | (go_at_call 41; refine Stop0.out ?_))
      refine ⟨?_⟩
      refine (H1'.out w8 HS8.out HW.out).mono ?_
      rintro e w9 ⟨rfl, hp⟩
      go_wp2
      (try simp only [Exit.inBlock, Exit.then])
      refine ⟨rfl, .tuple #[], results_none rfl _ _ _, ?_⟩
      exact ⟨rfl, hp⟩
 · rw [hh]
   have H0' := m_ (H0.out (.inr hkf))
   clear HK hkf hh H1 H0
   go_wp2_with (first | (go_at_call 42; (with_reducible refine (ofmsg_Right.calls k a0 a1 a2 a3 a4 a5 a6 _ _ l7 a8 a9 _ _ l10 r _ ?side1 ?side2 ?side3 ?side4 HR.out).mono ?_); (case side1 => exact Cd_ (Kd.C_below HR7.out HS7.out)); (case side2 => exact HC7.out); (case side3 => exact Cd_ (Kd.C_below HR10.out HS7.out)); (case side4 => exact HC10.out); rintro e w8 ⟨rfl, hb⟩; have HS8 := m_ (below_then HS7.out HS7.out.size hb); replace HW := m_ (blk_below HW.out hb); replace BM := m_ (blk_below BM.out hb); (try clear hb); clear hcz; have hcz := cz11_ BM.out))
   (try simp only [Exit.inBlock, Exit.then])
   refine ⟨rfl, .tuple #[], results_none rfl _ _ _, ?_⟩
   exact ⟨rfl, H0'.out _ HS7.out HW.out⟩
/-- The work at gw, in the world W of a call that began at w0. -/
def SwSt (P : Nat → Prop) (gw : Nat) (w0 : World) (lim : Int) (rules : List S29) (back out : List S32) (W : World) : Prop :=
  ∃ vR vB vO, W.heap[gw]? = some (.cells #[.int .i64 lim, vR, vB, vO] 68 (0, 0)) ∧
    Kd.V k29 29 W w0.heap.size (fun k => k ≠ gw ∧ some k ≠ vB.ownBlock ∧ some k ≠ vO.ownBlock ∧ k < W.heap.size ∧ (P k ∨ w0.heap.size ≤ k)) vR rules ∧
    Kd.N k32 32 W w0.heap.size (fun k => w0.heap.size ≤ k ∧ k ≠ gw ∧ some k ≠ vO.ownBlock) vB back ∧
    Kd.N k32 32 W w0.heap.size (fun k => k ≠ gw ∧ some k ≠ vB.ownBlock ∧ (P k ∨ w0.heap.size ≤ k)) vO out ∧ Below w0.heap.size w0 W ∧ w0.heap.size ≤ gw
/-- The block of the work is another's: what it keeps, and what lies ahead of a call. -/
theorem SwSt.below {P : Nat → Prop} {gw : Nat} {w0 W W' : World} {lim : Int} {rules : List S29} {back out : List S32} (h : SwSt P gw w0 lim rules back out W) (hb : Below W.heap.size W W') : SwSt P gw w0 lim rules back out W' := by
  obtain ⟨vR, vB, vO, h1, h2, h3, h4, h5, h6⟩ := h
  exact ⟨vR, vB, vO, blk_below h1 hb, Kd.V_mono (Kd.V_below h2 hb) (fun k hk => ⟨hk.1, hk.2.1, hk.2.2.1, Nat.lt_of_lt_of_le hk.2.2.2.1 hb.size, hk.2.2.2.2⟩), Kd.N_below h3 hb, Kd.N_below h4 hb, below_then h5 h5.size hb, h6⟩
/-- A method that changes the block of the work, and the row of back (or nothing else). -/
theorem SwSt.turn {P : Nat → Prop} {gw : Nat} {w0 W W' : World} {lim : Int} {out : List S32} {vB vB' vO : Value} {vR' : Value} {rules' : List S29} {back' : List S32}
    (h4 : Kd.N k32 32 W w0.heap.size (fun k => k ≠ gw ∧ some k ≠ vB.ownBlock ∧ (P k ∨ w0.heap.size ≤ k)) vO out) (h5 : Below w0.heap.size w0 W) (h6 : w0.heap.size ≤ gw) (hvB : ∀ k, vB.ownBlock = some k → w0.heap.size ≤ k)
    (hblk : W'.heap[gw]? = some (.cells #[.int .i64 lim, vR', vB', vO] 68 (0, 0)))
    (hR : Kd.V k29 29 W' w0.heap.size (fun k => k ≠ gw ∧ some k ≠ vB'.ownBlock ∧ some k ≠ vO.ownBlock ∧ (P k ∨ w0.heap.size ≤ k)) vR' rules')
    (hN : Kd.N k32 32 W' w0.heap.size (fun k => w0.heap.size ≤ k ∧ k ≠ gw ∧ some k ≠ vO.ownBlock) vB' back')
    (hK : Kept W W' (fun k => k = gw ∨ some k = vB.ownBlock)) (hat : vB'.ownBlock = vB.ownBlock ∨ ∃ b, vB'.ownBlock = some b ∧ W.heap.size ≤ b) (ho : W'.os = W.os ∧ W'.tape = W.tape ∧ W'.output = W.output) : SwSt P gw w0 lim rules' back' out W' := by
  refine ⟨vR', vB', vO, hblk, Kd.V_mono (Kd.V_bound hR) (fun k hk => ⟨hk.1.1, hk.1.2.1, hk.1.2.2.1, hk.2, hk.1.2.2.2⟩), hN, ?_, ?_, h6⟩
  · refine Kd.N_mono (Kd.N_keptB h4 hK (fun k hk e => e.elim hk.1 hk.2.1)) (fun k hk => ⟨hk.1.1, ?_, hk.1.2.2⟩)
    rcases hat with h | ⟨b, h, hb⟩
    · rw [h]; exact hk.1.2.1
    · rw [h]
      intro e
      have h1 := Option.some.inj e
      have h2 := hk.2.2
      omega
  · exact ⟨ho.1.trans h5.os, ho.2.1.trans h5.tape, ho.2.2.trans h5.output, Nat.le_trans h5.size hK.1, fun k hk => (hK.2 k (Nat.lt_of_lt_of_le hk h5.size) (fun e => by
      rcases e with e | e
      · omega
      · have := hvB k e.symm
        omega)).trans (h5.block k hk)⟩
theorem st_fresh {gw : Nat} {w0 w : World} {lim : Int} {vR vB vO : Value} {ok : Nat → Prop} {out : List S32} (h1 : w.heap[gw]? = some (.cells #[.int .i64 lim, vR, vB, vO] 68 (0, 0))) (h4 : Kd.N k32 32 w w0.heap.size ok vO out) (h5 : Below w0.heap.size w0 w) : ∀ k, w.heap.size ≤ k → w0.heap.size ≤ k ∧ k ≠ gw ∧ some k ≠ vO.ownBlock := fun k hk => by
  have h := blk_lt h1
  refine ⟨Nat.le_trans h5.size hk, by omega, fun e => ?_⟩
  have := Kd.N_lt h4 k e.symm
  omega
theorem st_row {P : Nat → Prop} {gw : Nat} {w w' : World} {B : Nat} {vB vB' vO vR : Value} {rules : List S29} (h2 : Kd.V k29 29 w B (fun k => k ≠ gw ∧ some k ≠ vB.ownBlock ∧ some k ≠ vO.ownBlock ∧ k < w.heap.size ∧ (P k ∨ B ≤ k)) vR rules) (hK : Kept w w' (fun k => k = gw ∨ some k = vB.ownBlock)) (hat : vB'.ownBlock = vB.ownBlock ∨ ∃ b, vB'.ownBlock = some b ∧ w.heap.size ≤ b) : Kd.V k29 29 w' B (fun k => k ≠ gw ∧ some k ≠ vB'.ownBlock ∧ some k ≠ vO.ownBlock ∧ (P k ∨ B ≤ k)) vR rules := by
  refine Kd.V_mono (Kd.V_keptB h2 hK (fun k hk e => e.elim hk.1 hk.2.1)) (fun k hk => ⟨hk.1.1, ?_, hk.1.2.2.1, hk.1.2.2.2.2⟩)
  rcases hat with h | ⟨b, h, hb⟩
  · rw [h]; exact hk.1.2.1
  · rw [h]
    intro e
    have h1 := Option.some.inj e
    have h2 := hk.2.2
    omega
theorem st_barrier {P : Nat → Prop} {gw : Nat} {w0 w : World} {lim : Int} {rules : List S29} {back out : List S32} (a0 a1 a2 a3 a4 a5 a6 : Int) (A7 : Option Addr) (n7 c7 : Nat) (a8 : Int) (a9 : Bool) (A10 : Option Addr) (n10 c10 : Nat) (h : SwSt P gw w0 lim rules back out w) (hl : back.length < 1000000000) :
  Calls Try.prog 40 #[.pointer (some ⟨gw, 0, none⟩), .agg #[.int .u8 a0, .int .u32 a1, .int .u32 a2, .int .u32 a3, .int .u32 a4, .int .i64 a5, .int .u32 a6, .slice A7 n7 c7, .int .i64 a8, .bool a9, .slice A10 n10 c10]] w fun e w' => e = .returned (.tuple #[]) ∧ SwSt P gw w0 lim rules (back ++ [bare32 4 a1]) out w' := by
  obtain ⟨vR, vB, vO, h1, h2, h3, h4, h5, h6⟩ := h
  refine (swtch_barrier.calls gw lim vR vB vO a0 a1 a2 a3 a4 a5 a6 A7 n7 c7 a8 a9 A10 n10 c10 back _ w0 w h1 h3 (fun k hk => hk.2.1) (st_fresh h1 h4 h5) h5 hl).mono ?_
  rintro e w' ⟨rfl, vB', g1, g2, g3, g4, g5⟩
  exact ⟨rfl, SwSt.turn h4 h5 h6 (Kd.N_base h3) g1 (st_row h2 g3 g4) g2 g3 g4 g5⟩
theorem st_wipe {P : Nat → Prop} {gw : Nat} {w0 w : World} {lim : Int} {rules : List S29} {back out : List S32} (a0 a1 a2 a3 a4 a5 a6 : Int) (A7 : Option Addr) (n7 c7 : Nat) (a8 : Int) (a9 : Bool) (A10 : Option Addr) (n10 c10 : Nat) (h : SwSt P gw w0 lim rules back out w) :
  Calls Try.prog 39 #[.pointer (some ⟨gw, 0, none⟩), .agg #[.int .u8 a0, .int .u32 a1, .int .u32 a2, .int .u32 a3, .int .u32 a4, .int .i64 a5, .int .u32 a6, .slice A7 n7 c7, .int .i64 a8, .bool a9, .slice A10 n10 c10]] w fun e w' => e = .returned (.tuple #[]) ∧ SwSt P gw w0 lim [] back out w' := by
  obtain ⟨vR, vB, vO, h1, h2, h3, h4, h5, h6⟩ := h
  refine (swtch_wipe.calls gw lim vR vB vO a0 a1 a2 a3 a4 a5 a6 A7 n7 c7 a8 a9 A10 n10 c10 w h1).mono ?_
  rintro e w' ⟨rfl, g1, g3, g5⟩
  exact ⟨rfl, SwSt.turn h4 h5 h6 (Kd.N_base h3) g1 (Kd.V_nil _ _ _ _ _) (Kd.N_kept h3 g3 (fun k hk => hk.2.1)) (Kept.mono g3 (fun k hk => .inl hk)) (.inl rfl) g5⟩
theorem st_del {P : Nat → Prop} {gw : Nat} {w0 w : World} {lim : Int} {rules r1 : List S29} {r2 : Bool} {back out : List S32} (a0 a1 a2 a3 a4 a5 a6 : Int) (A7 : Option Addr) (c7 : Nat) (l7 : List S74) (a8 : Int) (a9 : Bool) (A10 : Option Addr) (c10 : Nat) (l10 : List Int) (h : SwSt P gw w0 lim rules back out w) (hd : flow_Del.f rules a2 a3 a4 = some (r1, r2)) :
  Calls Try.prog 38 #[.pointer (some ⟨gw, 0, none⟩), .agg #[.int .u8 a0, .int .u32 a1, .int .u32 a2, .int .u32 a3, .int .u32 a4, .int .i64 a5, .int .u32 a6, .slice A7 l7.length c7, .int .i64 a8, .bool a9, .slice A10 l10.length c10]] w fun e w' => e = .returned (.tuple #[]) ∧ SwSt P gw w0 lim r1 back out w' := by
  obtain ⟨vR, vB, vO, h1, h2, h3, h4, h5, h6⟩ := h
  refine (swtch_del.calls gw lim vR vB vO a0 a1 a2 a3 a4 a5 a6 A7 l7.length c7 a8 a9 A10 l10.length c10 rules r1 r2 _ w0 w h1 h2 (fun k hk => hk.1) hd).mono ?_
  rintro e w' ⟨rfl, vR', g1, g2, g3, g5⟩
  refine ⟨rfl, SwSt.turn h4 h5 h6 (Kd.N_base h3) g1 (Kd.V_mono g2 (fun k hk => ⟨hk.2, ?_, ?_, hk.1.elim (fun h => h.2.2.2.2) (fun h => .inr (Nat.le_trans h5.size h))⟩)) (Kd.N_kept h3 g3 (fun k hk => hk.2.1)) (Kept.mono g3 (fun k hk => .inl hk)) (.inl rfl) g5⟩
  · rcases hk.1 with h | h
    · exact h.2.1
    · intro e
      have := Kd.N_lt h3 k e.symm
      omega
  · rcases hk.1 with h | h
    · exact h.2.2.1
    · intro e
      have := Kd.N_lt h4 k e.symm
      omega
theorem st_put {P : Nat → Prop} {gw : Nat} {w0 w : World} {lim : Int} {rules r1 : List S29} {r2 : Int} {back out : List S32} (f : Nat) (a0 a1 a2 a3 a4 a5 a6 : Int) (A7 : Option Addr) (c7 : Nat) (l7 : List S74) (a8 : Int) (a9 : Bool) (A10 : Option Addr) (c10 : Nat) (l10 : List Int) (h : SwSt P gw w0 lim rules back out w) (hl : back.length < 1000000000) (h7 : Kd.F k74 w (fun k => P k ∧ k < w0.heap.size) A7 l7.length l7) (hc7 : l7.length ≤ c7) (hp : flow_Put.f f rules a2 a3 a4 a5 a6 l7 lim = some (r1, r2)) :
  Calls Try.prog 37 #[.pointer (some ⟨gw, 0, none⟩), .agg #[.int .u8 a0, .int .u32 a1, .int .u32 a2, .int .u32 a3, .int .u32 a4, .int .i64 a5, .int .u32 a6, .slice A7 l7.length c7, .int .i64 a8, .bool a9, .slice A10 l10.length c10]] w fun e w' => e = .returned (.tuple #[]) ∧ SwSt P gw w0 lim r1 (back ++ (if r2 = 7 then [bare32 5 a1] else [])) out w' := by
  obtain ⟨vR, vB, vO, h1, h2, h3, h4, h5, h6⟩ := h
  have hb := Kd.N_base h3
  have hbo := Kd.N_base h4
  refine (swtch_put.calls f gw lim vR vB vO a0 a1 a2 a3 a4 a5 a6 A7 c7 l7 a8 a9 A10 l10.length c10 rules r1 r2 back _ _ _ w0 w h1 h2 h3 (fun k hk => hk.2.1) (st_fresh h1 h4 h5) h5 hl h6 h7 hc7 (fun k hk => ?_) hp).mono ?_
  · rcases hk with hk | ⟨-, hk⟩
    · exact ⟨hk.1, hk.2.1⟩
    · exact ⟨by omega, fun e => by have := hb k e.symm; omega⟩
  rintro e w' ⟨rfl, vR', vB', g1, g2, g3, g4, g5, g6⟩
  refine ⟨rfl, SwSt.turn h4 h5 h6 hb g1 (Kd.V_mono g2 (fun k hk => ⟨hk.2.1, hk.2.2, ?_, ?_⟩)) g3 g4 g5 g6⟩
  · rcases hk.1 with h | h | h
    · exact h.2.2.1
    · intro e
      have := hbo k e.symm
      have := h.2
      omega
    · intro e
      have := Kd.N_lt h4 k e.symm
      omega
  · rcases hk.1 with h | h | h
    · exact h.2.2.2.2
    · exact .inl h.1
    · exact .inr (Nat.le_trans h5.size h)
theorem st_goes {P : Nat → Prop} {gw : Nat} {w0 w : World} {lim : Int} {rules : List S29} {back out : List S32} (a0 a1 a2 a3 a4 a5 a6 : Int) (A7 : Option Addr) (c7 : Nat) (l7 : List S74) (a8 : Int) (a9 : Bool) (A10 : Option Addr) (c10 : Nat) (l10 : List Int) (h : SwSt P gw w0 lim rules back out w) (hl : out.length < 1000000000) (h7 : Kd.F k74 w (fun k => P k ∧ k < w0.heap.size) A7 l7.length l7) (hc7 : l7.length ≤ c7) (h10 : Kd.F (Kd.int .u8) w (fun k => P k ∧ k < w0.heap.size) A10 l10.length l10) (hc10 : l10.length ≤ c10) :
  Calls Try.prog 41 #[.pointer (some ⟨gw, 0, none⟩), .agg #[.int .u8 a0, .int .u32 a1, .int .u32 a2, .int .u32 a3, .int .u32 a4, .int .i64 a5, .int .u32 a6, .slice A7 l7.length c7, .int .i64 a8, .bool a9, .slice A10 l10.length c10]] w fun e w' => e = .returned (.tuple #[]) ∧ SwSt P gw w0 lim rules back (out ++ [(⟨a0, a1, ⟨a2, a3, a4, a5, a6, l7⟩, a8, a9, l10⟩ : S32)]) w' := by
  obtain ⟨vR, vB, vO, h1, h2, h3, h4, h5, h6⟩ := h
  have hb := Kd.N_base h3
  have hbo := Kd.N_base h4
  have hgl := blk_lt h1
  refine (swtch_goes.calls gw lim vR vB vO a0 a1 a2 a3 a4 a5 a6 A7 c7 l7 a8 a9 A10 c10 l10 out _ _ w0 w h1 h4 (fun k hk => hk.1) (fun k hk => ⟨by omega, fun e => by have := Kd.N_lt h3 k e.symm; omega, .inr (Nat.le_trans h5.size hk)⟩) h5 hl h7 hc7 h10 hc10 (fun k hk => ⟨⟨by have := hk.2; omega, fun e => by have := hb k e.symm; have := hk.2; omega, .inl hk.1⟩, hk.2⟩)).mono ?_
  rintro e w' ⟨rfl, vO', g1, g2, g3, g4, g5⟩
  have hn : ∀ k, k < w.heap.size → some k ≠ vO.ownBlock → some k ≠ vO'.ownBlock := fun k hk hk2 => by
    rcases g4 with h | ⟨b, h, hbb⟩
    · rw [h]; exact hk2
    · rw [h]
      intro e
      have := Option.some.inj e
      omega
  refine ⟨rfl, vR, vB, vO', g1, ?_, ?_, g2, ?_, h6⟩
  · exact Kd.V_mono (Kd.V_bound (Kd.V_keptB h2 g3 (fun k hk e => e.elim hk.1 hk.2.2.1))) (fun k hk => ⟨hk.1.1.1, hk.1.1.2.1, hn k hk.1.1.2.2.2.1 hk.1.1.2.2.1, hk.2, hk.1.1.2.2.2.2⟩)
  · exact Kd.N_mono (Kd.N_keptB h3 g3 (fun k hk e => e.elim hk.2.1 hk.2.2)) (fun k hk => ⟨hk.1.1, hk.1.2.1, hn k hk.2.2 hk.1.2.2⟩)
  · exact ⟨g5.1.trans h5.os, g5.2.1.trans h5.tape, g5.2.2.trans h5.output, Nat.le_trans h5.size g3.1, fun k hk => (g3.2 k (Nat.lt_of_lt_of_le hk h5.size) (fun e => by
      rcases e with e | e
      · omega
      · have := hbo k e.symm
        omega)).trans (h5.block k hk)⟩
/-- What a message does that is right. -/
def doesSw (f : Nat) (lim : Int) (m : S32) (st : List S29 × List S32 × List S32) : Option (List S29 × List S32 × List S32) :=
  if m.f0 = 1 then (flow_Put.f f st.1 m.f2.f0 m.f2.f1 m.f2.f2 m.f2.f3 m.f2.f4 m.f2.f5 lim).bind fun p => some (p.1, st.2.1 ++ (if p.2 = 7 then [bare32 5 m.f1] else []), st.2.2)
  else if m.f0 = 2 then (flow_Del.f st.1 m.f2.f0 m.f2.f1 m.f2.f2).bind fun p => some (p.1, st.2)
  else if m.f0 = 6 then some ([], st.2) else if m.f0 = 3 then some (st.1, st.2.1 ++ [bare32 4 m.f1], st.2.2) else if m.f0 = 9 then some (st.1, st.2.1, st.2.2 ++ [m]) else some st
/-- .. and any message. -/
def stepSw (f : Nat) (lim : Int) (m : S32) (st : List S29 × List S32 × List S32) : Option (List S29 × List S32 × List S32) :=
  (ofmsg_Right.f f m.f0 m.f1 m.f2.f0 m.f2.f1 m.f2.f2 m.f2.f3 m.f2.f4 m.f2.f5 m.f3 m.f4 m.f5).bind fun r => if r = true then doesSw f lim m st else some st
theorem st_hear {P : Nat → Prop} {gw : Nat} {w0 w : World} {lim : Int} {rules r1 : List S29} {back b1 out o1 : List S32} (f : Nat) (a0 a1 a2 a3 a4 a5 a6 : Int) (A7 : Option Addr) (c7 : Nat) (l7 : List S74) (a8 : Int) (a9 : Bool) (A10 : Option Addr) (c10 : Nat) (l10 : List Int) (h : SwSt P gw w0 lim rules back out w) (hwf : (Lit.int .u8 a0).wf = true) (hlb : back.length < 1000000000) (hlo : out.length < 1000000000) (h7 : Kd.F k74 w (fun k => P k ∧ k < w0.heap.size) A7 l7.length l7) (hc7 : l7.length ≤ c7) (h10 : Kd.F (Kd.int .u8) w (fun k => P k ∧ k < w0.heap.size) A10 l10.length l10) (hc10 : l10.length ≤ c10)
  (hs : stepSw f lim (⟨a0, a1, ⟨a2, a3, a4, a5, a6, l7⟩, a8, a9, l10⟩ : S32) (rules, back, out) = some (r1, b1, o1)) :
  Calls Try.prog 29 #[.pointer (some ⟨gw, 0, none⟩), .agg #[.int .u8 a0, .int .u32 a1, .int .u32 a2, .int .u32 a3, .int .u32 a4, .int .i64 a5, .int .u32 a6, .slice A7 l7.length c7, .int .i64 a8, .bool a9, .slice A10 l10.length c10]] w fun e w' => e = .returned (.tuple #[]) ∧ SwSt P gw w0 lim r1 b1 o1 w' := by
  obtain ⟨vR, vB, vO, g1, -⟩ := id h
  unfold stepSw at hs
  obtain ⟨r, hr, hs⟩ := Option.bind_eq_some_iff.mp hs
  refine swtch_hear.calls gw lim vR vB vO a0 a1 a2 a3 a4 a5 a6 A7 c7 l7 a8 a9 A10 c10 l10 w g1 hwf f r (Kd.F_now h7) hc7 (Kd.F_now h10) hc10 hr _ (fun h0 w' hb _ => ?_) (fun hrt fn hk w' hb _ => ?_)
  · have e : (r1, b1, o1) = (rules, back, out) := by
      rcases h0 with h0 | h0
      · rw [h0, if_neg (by simp)] at hs
        exact (Option.some.inj hs).symm
      · cases r with
        | false => rw [if_neg (by simp)] at hs; exact (Option.some.inj hs).symm
        | true =>
          rw [if_pos rfl] at hs
          unfold kindFn at h0
          unfold doesSw at hs
          dsimp only at hs
          repeat' (split at h0)
          all_goals first | (cases h0; done) | (simp only [*, if_false] at hs; exact (Option.some.inj hs).symm)
    simp only [Prod.mk.injEq] at e
    obtain ⟨rfl, rfl, rfl⟩ := e
    exact h.below hb
  · subst hrt
    rw [if_pos rfl] at hs
    unfold doesSw at hs
    dsimp only at hs
    have hS := h.below hb
    have h7' := Kd.F_below h7 hb
    have h10' := Kd.F_below h10 hb
    unfold kindFn at hk
    split at hk
    · cases hk
      rename_i e
      rw [if_pos e] at hs
      obtain ⟨⟨p1, p2⟩, hp, hs⟩ := Option.bind_eq_some_iff.mp hs
      simp only [Option.some.injEq, Prod.mk.injEq] at hs
      obtain ⟨rfl, rfl, rfl⟩ := hs
      exact st_put f a0 a1 a2 a3 a4 a5 a6 A7 c7 l7 a8 a9 A10 c10 l10 hS hlb h7' hc7 hp
    rename_i e1
    rw [if_neg e1] at hs
    split at hk
    · cases hk
      rename_i e
      rw [if_pos e] at hs
      obtain ⟨⟨p1, p2⟩, hp, hs⟩ := Option.bind_eq_some_iff.mp hs
      simp only [Option.some.injEq, Prod.mk.injEq] at hs
      obtain ⟨rfl, rfl, rfl⟩ := hs
      exact st_del a0 a1 a2 a3 a4 a5 a6 A7 c7 l7 a8 a9 A10 c10 l10 hS hp
    rename_i e2
    rw [if_neg e2] at hs
    split at hk
    · cases hk
      rename_i e
      rw [if_pos e] at hs
      simp only [Option.some.injEq, Prod.mk.injEq] at hs
      obtain ⟨rfl, rfl, rfl⟩ := hs
      exact st_wipe a0 a1 a2 a3 a4 a5 a6 A7 l7.length c7 a8 a9 A10 l10.length c10 hS
    rename_i e3
    rw [if_neg e3] at hs
    split at hk
    · cases hk
      rename_i e
      rw [if_pos e] at hs
      simp only [Option.some.injEq, Prod.mk.injEq] at hs
      obtain ⟨rfl, rfl, rfl⟩ := hs
      exact st_barrier a0 a1 a2 a3 a4 a5 a6 A7 l7.length c7 a8 a9 A10 l10.length c10 hS hlb
    rename_i e4
    rw [if_neg e4] at hs
    split at hk
    · cases hk
      rename_i e
      rw [if_pos e] at hs
      simp only [Option.some.injEq, Prod.mk.injEq] at hs
      obtain ⟨rfl, rfl, rfl⟩ := hs
      exact st_goes a0 a1 a2 a3 a4 a5 a6 A7 c7 l7 a8 a9 A10 c10 l10 hS hlo h7' hc7 h10' hc10
    · cases hk
theorem at32F {w : World} {ok : Nat → Prop} {A : Option Addr} {n : Nat} {xs : List S32} (h : Kd.F k32 w ok A n xs) (i : Int) (h0 : 0 ≤ i) (h1 : i < n) : ∃ ad A7 c7 A10 c10, A = some ad ∧ w.cell? (ad.add (i.toNat * 11)) = some (.int .u8 (rd_T32 xs i).f0) ∧ w.cell? ⟨(ad.add (i.toNat * 11)).block, (ad.add (i.toNat * 11)).off + 1, none⟩ = some (.int .u32 (rd_T32 xs i).f1) ∧ w.cell? ⟨(ad.add (i.toNat * 11)).block, (ad.add (i.toNat * 11)).off + 2, none⟩ = some (.int .u32 (rd_T32 xs i).f2.f0) ∧ w.cell? ⟨(ad.add (i.toNat * 11)).block, (ad.add (i.toNat * 11)).off + 3, none⟩ = some (.int .u32 (rd_T32 xs i).f2.f1) ∧ w.cell? ⟨(ad.add (i.toNat * 11)).block, (ad.add (i.toNat * 11)).off + 4, none⟩ = some (.int .u32 (rd_T32 xs i).f2.f2) ∧ w.cell? ⟨(ad.add (i.toNat * 11)).block, (ad.add (i.toNat * 11)).off + 5, none⟩ = some (.int .i64 (rd_T32 xs i).f2.f3) ∧ w.cell? ⟨(ad.add (i.toNat * 11)).block, (ad.add (i.toNat * 11)).off + 6, none⟩ = some (.int .u32 (rd_T32 xs i).f2.f4) ∧ w.cell? ⟨(ad.add (i.toNat * 11)).block, (ad.add (i.toNat * 11)).off + 7, none⟩ = some (.slice A7 (rd_T32 xs i).f2.f5.length c7) ∧ w.cell? ⟨(ad.add (i.toNat * 11)).block, (ad.add (i.toNat * 11)).off + 8, none⟩ = some (.int .i64 (rd_T32 xs i).f3) ∧ w.cell? ⟨(ad.add (i.toNat * 11)).block, (ad.add (i.toNat * 11)).off + 9, none⟩ = some (.bool (rd_T32 xs i).f4) ∧ w.cell? ⟨(ad.add (i.toNat * 11)).block, (ad.add (i.toNat * 11)).off + 10, none⟩ = some (.slice A10 (rd_T32 xs i).f5.length c10) ∧ (rd_T32 xs i).f2.f5.length ≤ c7 ∧ Kd.F k74 w ok A7 (rd_T32 xs i).f2.f5.length (rd_T32 xs i).f2.f5 ∧ (rd_T32 xs i).f5.length ≤ c10 ∧ Kd.F (Kd.int .u8) w ok A10 (rd_T32 xs i).f5.length (rd_T32 xs i).f5 := by
 obtain ⟨ad, c, e, _, hK, hc0, _⟩ := Kd.F_get h z32 i h0 h1
 have hc : ∀ j u, c[j]? = some u → w.cell? (ad.add (i.toNat * 11 + j)) = some u := hc0
 obtain ⟨A7, c7, A10, c10, rfl, l7, g7, l10, g10⟩ := k32_openF hK
 exact ⟨ad, A7, c7, A10, c10, e, hc 0 _ rfl, (by rw [← add_field _ _ 1 (by omega)]; exact hc 1 _ rfl), (by rw [← add_field _ _ 2 (by omega)]; exact hc 2 _ rfl), (by rw [← add_field _ _ 3 (by omega)]; exact hc 3 _ rfl), (by rw [← add_field _ _ 4 (by omega)]; exact hc 4 _ rfl), (by rw [← add_field _ _ 5 (by omega)]; exact hc 5 _ rfl), (by rw [← add_field _ _ 6 (by omega)]; exact hc 6 _ rfl), (by rw [← add_field _ _ 7 (by omega)]; exact hc 7 _ rfl), (by rw [← add_field _ _ 8 (by omega)]; exact hc 8 _ rfl), (by rw [← add_field _ _ 9 (by omega)]; exact hc 9 _ rfl), (by rw [← add_field _ _ 10 (by omega)]; exact hc 10 _ rfl), l7, g7, l10, g10⟩
/-- What all messages do. -/
def allSw (f : Nat) (lim : Int) : List S32 → List S29 × List S32 × List S32 → Option (List S29 × List S32 × List S32)
  | [], st => some st
  | m :: t, st => if (Lit.int .u8 m.f0).wf = true ∧ st.2.1.length < 1000000000 ∧ st.2.2.length < 1000000000 then (stepSw f lim m st).bind fun st2 => allSw f lim t st2 else none
theorem doesSw_mono (f : Nat) (lim : Int) (m : S32) (st : List S29 × List S32 × List S32) : LeO (doesSw f lim m st) (doesSw (f + 1) lim m st) := by
  unfold doesSw
  exact LeO.ite (LeO.bind (flow_Put.mono _ _ _ _ _ _ _ _ _) (fun _ => LeO.refl _)) (LeO.refl _)
theorem stepSw_mono (f : Nat) (lim : Int) (m : S32) (st : List S29 × List S32 × List S32) : LeO (stepSw f lim m st) (stepSw (f + 1) lim m st) := by
  unfold stepSw
  exact LeO.bind (ofmsg_Right.mono _ _ _ _ _ _ _ _ _ _ _ _) (fun _ => LeO.ite (doesSw_mono f lim m st) (LeO.refl _))
theorem allSw_mono (f : Nat) (lim : Int) : ∀ l st, LeO (allSw f lim l st) (allSw (f + 1) lim l st)
  | [], _ => LeO.refl _
  | m :: t, st => by
    unfold allSw
    exact LeO.ite (LeO.bind (stepSw_mono f lim m st) (fun _ => allSw_mono f lim t _)) (LeO.refl _)
def swtch_All.f (k : Nat) (a0_0 : Int) (l0_1 : List S29) (l1 : List S32) : Option (Int × (List S29) × (List S32) × (List S32)) := if l1.length ≤ 1000000000 then (allSw k a0_0 l1 (l0_1, [], [])).map (fun st => (a0_0, st.1, st.2.1, st.2.2)) else none
theorem swtch_All.mono : ∀ a0 a1 a2 k, LeO (swtch_All.f k a0 a1 a2) (swtch_All.f (k + 1) a0 a1 a2) := by
  intro a0 a1 a2 k
  unfold swtch_All.f
  refine LeO.ite ?_ (LeO.refl _)
  rw [Option.map_eq_bind, Option.map_eq_bind]
  exact LeO.bind (allSw_mono k a0 a2 _) (fun _ => LeO.refl _)
set_option maxHeartbeats 8000000 in
set_option maxRecDepth 100000 in
theorem swtch_All.calls (k : Nat) (a0_0 : Int) (P0_1_ : Nat → Prop) (A0_1 : Option Addr) (c0_1 : Nat) (l0_1 : List S29) (P1_ : Nat → Prop) (A1 : Option Addr) (c1 : Nat) (l1 : List S32) (r1 : Int) (r2 : List S29) (r3 r4 : List S32) (w : World) (hs0_1 : Kd.V k29 29 w w.heap.size (fun k_ => P0_1_ k_) (.slice A0_1 l0_1.length c0_1) l0_1) (hs1 : Kd.V k32 32 w w.heap.size (fun k_ => P1_ k_) (.slice A1 l1.length c1) l1) (h : swtch_All.f k a0_0 l0_1 l1 = some (r1, r2, r3, r4)) :
    Calls Try.prog 15 #[.agg #[.int .i64 a0_0, .slice A0_1 l0_1.length c0_1], .slice A1 l1.length c1] w fun e w' => ∃ v1_ v2_ v3_ : Value, e = .returned (.tuple #[.agg #[.int .i64 r1, v1_], v2_, v3_]) ∧ Kd.V k29 29 w' w.heap.size (fun k_ => ((P0_1_ k_ ∨ P1_ k_) ∨ w.heap.size ≤ k_)) v1_ r2 ∧ Kd.V k32 32 w' w.heap.size (fun k_ => ((P0_1_ k_ ∨ P1_ k_) ∨ w.heap.size ≤ k_)) v2_ r3 ∧ Kd.V k32 32 w' w.heap.size (fun k_ => ((P0_1_ k_ ∨ P1_ k_) ∨ w.heap.size ≤ k_)) v3_ r4 ∧ Below w.heap.size w w' := by
 unfold swtch_All.f at h
 split at h
 case isFalse => cases h
 case isTrue hl =>
 obtain ⟨⟨q1, q2, q3⟩, hq, h⟩ := Option.map_eq_some_iff.mp h
 simp only [Prod.mk.injEq] at h
 obtain ⟨rfl, rfl, rfl, rfl⟩ := h
 have hu24 := Try.underlying24
 have hu32 := Try.underlying32
 have hu68 := Try.underlying68
 obtain ⟨-, hcl, hfl⟩ := Kd.V_at hs1
 have HL := m_ hl
 have HQ := m_ hq
 have HR := m_ hs0_1
 have HM := m_ hfl
 clear hl hq hs0_1 hs1 hfl hcl
 have HS := m_ (Below.refl w.heap.size w)
 go_enter Try.func15, Try.ntmps15
 go_wp2_with (first | ((with_reducible refine gate_dst (N := 2) rfl ?_); refine bx_ 2 24 #[.int .i64 a0_0, .slice A0_1 l0_1.length c0_1] ?_; intro g2 hg w1 hbox hb; have B2 := m_ hbox; have G2 := m_ (Nat.le_of_eq hg.symm); replace HS := m_ hb; clear hb hbox hg) | ((with_reducible refine gate_dst (N := 4) rfl ?_); refine bx_ 4 24 #[.int .i64 0, .slice none 0 0] ?_; intro g4 hg w2 hbox hb; have B4 := m_ hbox; have G4 := m_ (show w.heap.size ≤ g4 from by rw [hg]; exact HS.out.size); replace B2 := m_ (blk_below B2.out hb); replace HS := m_ (below_then HS.out HS.out.size hb); clear hb hbox hg; refine Stop0.out ?_))
 refine ⟨?_⟩
 have hcz := cz2_ B2.out
 go_wp2_with ((with_reducible refine gate_dst (N := 12) rfl ?_); refine bx_ 12 68 #[.int .i64 a0_0, .slice A0_1 l0_1.length c0_1, .slice none 0 0, .slice none 0 0] ?_; intro gw hg0 w3 hbox hb; have GW := m_ hg0; clear hg0; refine Stop0.out ?_)
 refine ⟨?_⟩
 have hz2 := blk_lt B4.out
 have hg := GW.out
 have HST : Aside0 (SwSt (fun k_ => (P0_1_ k_ ∨ P1_ k_) ∧ k_ < w.heap.size) gw w2 a0_0 l0_1 [] [] w3) := m_ ⟨_, _, _, hbox, Kd.V_map (Kd.V_bound (Kd.V_below (Kd.V_below (Kd.V_bound HR.out) HS.out) hb)) (fun _ hf => Kd.F_mono hf (fun k hk => ⟨by have := hk.1.2; have := HS.out.size; omega, by simp [Value.ownBlock], by simp [Value.ownBlock], hk.2, .inl ⟨.inl hk.1.1, hk.1.2⟩⟩)), Kd.N_nil _ _ _ _ _, Kd.N_nil _ _ _ _ _, hb, Nat.le_of_eq hg.symm⟩
 have HMF : Aside0 (Kd.F k32 w2 (fun k => ((P0_1_ k ∨ P1_ k) ∧ k < w.heap.size) ∧ k < w2.heap.size) A1 l1.length l1) := m_ (Kd.F_mono (Kd.F_bound (Kd.F_below (Kd.F_bound HM.out) HS.out)) (fun k hk => ⟨⟨.inr hk.1.1, hk.1.2⟩, hk.2⟩))
 clear hz2 hcz hbox hb hg GW HR HM B2 G2
 have HQ0 : Aside0 (allSw k a0_0 (l1.drop 0) (l0_1, [], []) = some (q1, q2, q3)) := m_ HQ.out
 clear HQ
 go_wp2
 go_loopg [15] l1.length (fun g s15 wr => ∃ (i : Nat) (st : List S29 × List S32 × List S32), i ≤ l1.length ∧ l1.length - i ≤ g ∧ s15 = .int .i64 i ∧ Aside0 (SwSt (fun k_ => (P0_1_ k_ ∨ P1_ k_) ∧ k_ < w.heap.size) gw w2 a0_0 st.1 st.2.1 st.2.2 wr) ∧ Aside0 (allSw k a0_0 (l1.drop i) st = some (q1, q2, q3)))
 case atStart => exact ⟨0, (l0_1, [], []), Nat.zero_le _, by omega, rfl, HST, HQ0⟩
 case round =>
  clear HST HQ0
  obtain ⟨i, ⟨rs, bk, ou⟩, hi, hg, rfl, HST, HQ⟩ := hrel
  dsimp only at HST HQ
  have hl3 := HL.out
  by_cases hlt : i < l1.length
  · have hlt' : (i : Int) < (l1.length : Int) := by omega
    have hx : rd_T32 l1 (i : Int) = l1[i]'hlt := by unfold rd_T32; rw [Int.toNat_natCast, List.getD_eq_getElem?_getD, List.getElem?_eq_getElem hlt, Option.getD_some]
    have hq := HQ.out
    rw [List.drop_eq_getElem_cons hlt, ← hx] at hq
    have hbw : Below w2.heap.size w2 wr := by obtain ⟨_, _, _, -, -, -, -, h5, -⟩ := HST.out; exact h5
    obtain ⟨ad, A7, c7, A10, c10, rfl, e0, e1, e2, e3, e4, e5, e6, e7, e8, e9, e10, hc7, h7, hc10, h10⟩ := at32F (Kd.F_below HMF.out hbw) (i : Int) (by omega) (by omega)
    rw [Int.toNat_natCast] at e0 e1 e2 e3 e4 e5 e6 e7 e8 e9 e10
    clear hx
    generalize rd_T32 l1 (i : Int) = mm at hq e0 e1 e2 e3 e4 e5 e6 e7 e8 e9 e10 hc7 h7 hc10 h10
    obtain ⟨a0, a1, ⟨a2, a3, a4, a5, a6, l7⟩, a8, a9, l10⟩ := mm
    unfold allSw at hq
    simp only at hq e0 e1 e2 e3 e4 e5 e6 e7 e8 e9 e10 hc7 h7 hc10 h10
    split at hq
    case isFalse => cases hq
    case isTrue hok =>
    obtain ⟨hwf, hlb, hlo⟩ := hok
    obtain ⟨⟨rs2, bk2, ou2⟩, hstep, hq⟩ := Option.bind_eq_some_iff.mp hq
    have HOK := m_ (And.intro hwf (And.intro hlb hlo))
    have HSTEP := m_ hstep
    have HQ2 := m_ hq
    have H7 := m_ (And.intro hc7 h7)
    have H10 := m_ (And.intro hc10 h10)
    have HZ := m_ hbw.size
    clear hwf hlb hlo hstep hq hc7 h7 hc10 h10 HQ hbw
    go_wp2_with ((with_reducible refine gate_dst (N := 9) rfl ?_); refine bx_ 9 32 #[.int .u8 0, .int .u32 0, .int .u32 0, .int .u32 0, .int .u32 0, .int .i64 0, .int .u32 0, .slice none 0 0, .int .i64 0, .bool false, .slice none 0 0] ?_; intro g9 hg9 w5 hbox hb; have BM := m_ hbox; have HE := m_ hb; have GE := m_ (Nat.le_of_eq hg9.symm); clear hb hbox hg9; refine Stop0.out ?_)
    refine ⟨?_⟩
    clear e0 e1 e2 e3 e4 e5 e6 e7 e8 e9 e10
    refine blk_write (cs' := #[.int .u8 a0, .int .u32 a1, .int .u32 a2, .int .u32 a3, .int .u32 a4, .int .i64 a5, .int .u32 a6, .slice A7 l7.length c7, .int .i64 a8, .bool a9, .slice A10 l10.length c10]) rfl rfl rfl (#[.int .u8 a0, .int .u32 a1, .int .u32 a2, .int .u32 a3, .int .u32 a4, .int .i64 a5, .int .u32 a6, .slice A7 l7.length c7, .int .i64 a8, .bool a9, .slice A10 l10.length c10]).toList rfl rfl rfl rfl (by simp [Value.oneCell']) BM.out (by simp) rfl ?_
    intro w6 bk6 on
    replace BM := m_ bk6
    have HE6 := m_ (on.below HE.out GE.out)
    have HST6 := m_ (HST.out.below HE6.out)
    have H76 := m_ (Kd.F_below H7.out.2 HE6.out)
    have H106 := m_ (Kd.F_below H10.out.2 HE6.out)
    clear bk6 on HE GE HST
    have hcz := cz11_ BM.out
    go_wp2_with (go_at_call 29; refine Stop0.out ?_)
    refine ⟨?_⟩
    with_reducible refine (st_hear k a0 a1 a2 a3 a4 a5 a6 A7 c7 l7 a8 a9 A10 c10 l10 HST6.out HOK.out.1 HOK.out.2.1 HOK.out.2.2 H76.out H7.out.1 H106.out H10.out.1 HSTEP.out).mono ?_
    rintro e w7 ⟨rfl, hst⟩
    have HST7 := m_ hst
    clear hst HST6 H76 H106 hcz BM HE6 H7 H10 HSTEP HOK
    go_wp2
    go_roundg (l1.length - (i + 1))
    case measure => omega
    case rel => exact ⟨i + 1, (rs2, bk2, ou2), by omega, by omega, by go_num, HST7, HQ2⟩
  · obtain rfl : i = l1.length := by omega
    have hlt' : ¬ ((l1.length : Int) < (l1.length : Int)) := by omega
    have hq := HQ.out
    rw [List.drop_of_length_le (Nat.le_refl _)] at hq
    have hq2 := Option.some.inj hq
    simp only [Prod.mk.injEq] at hq2
    obtain ⟨rfl, rfl, rfl⟩ := hq2
    clear hq HQ HMF
    have hst := HST.out
    clear HST
    obtain ⟨vR, vB, vO, h1, h2, h3, h4, h5, h6⟩ := hst
    obtain ⟨AR, cR, rfl⟩ := Kd.V_slice h2
    have B4r := m_ (blk_below B4.out h5)
    have W1 := m_ h1
    have W2 := m_ h2
    have W3 := m_ h3
    have W4 := m_ h4
    have W5 := m_ h5
    have W6 := m_ h6
    have HZ4 := m_ (blk_lt B4.out)
    clear h1 h2 h3 h4 h5 h6 B4
    go_upto_region 7 with (fail)
    (try simp only [Act.put, List.setIfInBounds_toArray, List.set_cons_zero, List.set_cons_succ])
    refine Stop0.out ?_
    refine ⟨?_⟩
    refine start_ (n := 15) (S := fun W => W.cell? ⟨gw, 0, none⟩ = some (.int .i64 a0_0) ∧ W.cell? ⟨gw, 1, none⟩ = some (.slice AR rs.length cR) ∧ W.cell? ⟨gw, 2, none⟩ = some vB ∧ W.cell? ⟨gw, 3, none⟩ = some vO) (ds := []) (bs_ 15 0) (by kernel_rfl) rfl rfl ⟨bc_ (blk_drew W1.out) 0, bc_ (blk_drew W1.out) 1, bc_ (blk_drew W1.out) 2, bc_ (blk_drew W1.out) 3⟩ (fun hHeld => ?_)
    refine pk_ 0 23 ?_
    refine pk_ 1 24 ?_
    refine pk_ 2 25 ?_
    refine tk_ 3 26 ?_
    refine pk_ 4 27 ?_
    refine pk_ 5 28 ?_
    refine pk_ 6 29 ?_
    refine tk_ 7 30 ?_
    refine pk_ 8 31 ?_
    refine pk_ 9 32 ?_
    refine pk_ 10 33 ?_
    refine tk_ 11 34 ?_
    refine one_ (i := 12) (N := none) (bs_ 15 (0 + 2 ^ 0 + 2 ^ 1 + 2 ^ 2 + 2 ^ 3 + 2 ^ 4 + 2 ^ 5 + 2 ^ 6 + 2 ^ 7 + 2 ^ 8 + 2 ^ 9 + 2 ^ 10 + 2 ^ 11 + 2 ^ 12)) rfl rfl (by kernel_rfl) (by decide) (fun K hK => ?_)
    refine sw_write (by rfl) rfl rfl [.int .i64 a0_0, .slice AR rs.length cR] (g := g4) (o' := 0) (cs' := #[.int .i64 a0_0, .slice AR rs.length cR]) rfl rfl rfl rfl (by simp [Value.oneCell']) (blk_drew B4r.out) (by simp) rfl ?_
    intro w9 hblk on
    have hgn : gw ≠ g4 := by have h1 := HZ4.out; have h2 := W6.out; omega
    have hw9 := on.blk hgn (blk_drew W1.out)
    refine hK.out _ _ ⟨bc_ hw9 0, bc_ hw9 1, bc_ hw9 2, bc_ hw9 3⟩ (fun hHeld => ?_)
    clear hK K hw9 hgn
    refine pk_ 13 5 ?_
    refine pk_ 14 6 ?_
    refine done_ (by kernel_rfl) ?_
    (try simp only [Exit.inBlock, Exit.then])
    have BL := m_ hblk
    clear hblk
    go_wp2
    have hz4 := HZ4.out
    have hs0 := HS.out.size
    have hg4 := G4.out
    have hg6 := W6.out
    refine ⟨by simp, _, results_ctt rfl _ _ g4 24 _ (0, 0) _ rfl BL.out hu24 rfl (by kernel_rfl), ?_⟩
    have hfar : ∀ k, (((P0_1_ k ∨ P1_ k) ∧ k < w.heap.size) ∨ w2.heap.size ≤ k) → w9.heap[k]? = wr.heap[k]? := fun k hk => (on.block k (by rcases hk with h | h <;> omega)).trans rfl
    have hup : ∀ k, (((P0_1_ k ∨ P1_ k) ∧ k < w.heap.size) ∨ w2.heap.size ≤ k) → ((P0_1_ k ∨ P1_ k) ∨ w.heap.size ≤ k) := fun k hk => hk.elim (fun h => .inl h.1) (fun h => .inr (Nat.le_trans hs0 h))
    refine ⟨_, _, _, rfl, ?_, ?_, ?_, ?_⟩
    · exact Kd.V_map W2.out (fun _ hf => Kd.F_mono (Kd.F_step hf (fun k hk _ => hfar k hk.2.2.2.2)) (fun k hk => hup k hk.2.2.2.2))
    · exact Kd.V_map (Kd.N_V (base' := 0) W3.out) (fun _ hf => Kd.F_mono (Kd.F_step hf (fun k hk _ => hfar k (.inr hk.1))) (fun k hk => hup k (.inr hk.1)))
    · exact Kd.V_map (Kd.N_V (base' := 0) W4.out) (fun _ hf => Kd.F_mono (Kd.F_step hf (fun k hk _ => hfar k hk.2.2)) (fun k hk => hup k hk.2.2))
    · exact on.below (below_then HS.out HS.out.size (below_drew1 W5.out)) G4.out
end Go.Proofs.Ytfomnmdjbdohgaa.P

/- For each Go function a Lean function, and the proof that a call comes to what it tells: made by program out of the translation (the kit's print, with texts by hand put in). No condition. -/
import Derived.Test.YteibolilodgjnaaSq
import Derived.Test.YteibolilodgjnaaPx0
import Derived.Test.YteibolilodgjnaaPx6
import Derived.Test.YteibolilodgjnaaPx7
namespace Go.Proofs.Yteibolilodgjnaa.P
open Go.RowKit Go.Proofs.Yteibolilodgjnaa.HRows Go.Proofs.YteibolilodgjnaaW.PrintWords Go.Proofs.YteibolilodgjnaaW.PrintLast Go.Proofs.YteibolilodgjnaaW.PrintMore
attribute [local go_sem] max2_int min2_int max_two min_two max_three min_three max_four min_four   -- for this text's walks alone
set_option linter.unusedVariables false
set_option linter.unusedSimpArgs false

/-! ### api_Rule_27: function 27, by hand (slices.Delete.Rule.lean.tpl) -/
set_option maxHeartbeats 4000000 in
set_option maxRecDepth 100000 in
theorem delRule_calls (g n cap i : Nat) (l : List (S27)) (ok : Nat → Prop) (base : Nat) (w0 w : World) (HO : Kd.N k27 27 w base ok (.slice (some ⟨g, 0, none⟩) n cap) l)
  (HB : Below base w0 w) (hbase : base ≤ w.heap.size) (hi : i < n) (hn : n ≤ 1000000) :
  Calls Try.prog 27 #[.slice (some ⟨g, 0, none⟩) n cap, .int .i64 (i : Int), .int .i64 ((i : Int) + 1)] w fun e w' => ∃ v', e = .returned v' ∧ Kd.N k27 27 w' base ok v' (l.eraseIdx i) ∧ Below base w0 w' := by
 obtain ⟨i0, hi0, hz0⟩ := Option.map_eq_some_iff.1 info27
 simp only [Prod.mk.injEq] at hz0
 obtain ⟨hz, hsz, hby⟩ := hz0
 have hnc : n ≤ cap := (Kd.N_reads' HO).2.1
 have hel : Try.prog.elem 22 = 27 := by simp [Program.elem, Try.underlying22]
 have hu : Try.prog.underlying 22 = some (.slice (Try.prog.elem 22)) := by rw [hel]; exact Try.underlying22
 obtain ⟨vc, hcut3⟩ : ∃ v, ∀ W : World, (Instr.slice 22 (.slice (some ⟨g, 0, none⟩) n cap) (some (.int .i64 (i : Int))) (some (.int .i64 ((i : Int) + 1))) (some (.int .i64 (n : Int)))).run Try.prog W = .ok v W := by
  refine ⟨sliced (some ⟨g, 0, none⟩) (i : Int).toNat ((i : Int) + 1).toNat (n : Int).toNat 6, fun W => ?_⟩
  rw [run_slice_lhm W 22 (some ⟨g, 0, none⟩) n cap hu .i64 .i64 .i64 (i : Int) ((i : Int) + 1) (n : Int) (by omega) (by omega) (by omega) (by omega), hel]
  simp [sizeOf, typeInfo, hi0, hsz, Result.andThen]
 have hto : ∀ W : World, (Instr.slice 22 (.slice (some ⟨g, 0, none⟩) n cap) none (some (.int .i64 (i : Int))) none).run Try.prog W = .ok (.slice (some ⟨g, 0, none⟩) i cap) W := by
  intro W
  have := cut_to (P := Try.prog) 22 27 .i64 Try.underlying22 hi0 (some ⟨g, 0, none⟩) n cap (i : Int) (by omega) (by omega) hnc W
  rwa [Int.toNat_natCast] at this
 have hfrom := cut_from (P := Try.prog) 22 27 .i64 Try.underlying22 hi0 6 hsz (some ⟨g, 0, none⟩) n cap ((i : Int) + 1) (by omega) (by omega)
 rw [show ((i : Int) + 1).toNat = i + 1 from by omega] at hfrom
 obtain ⟨A2, hA2⟩ : ∃ A2 : Option Addr, A2 = (if cap = i + 1 then some ⟨g, 0, none⟩ else (some (⟨g, 0, none⟩ : Addr)).map (·.add ((i + 1) * 6))) := ⟨_, rfl⟩
 rw [← hA2] at hfrom
 have hback : ∀ W : World, (Instr.slice 22 (.slice (some ⟨g, 0, none⟩) (n - 1) cap) (some (.int .i64 ((n - 1 : Nat) : Int))) (some (.int .i64 (n : Int))) none).run Try.prog W = .ok (.slice (some ⟨g, (n - 1) * 6, none⟩) 1 (cap - (n - 1))) W := by
  intro W
  rw [run_slice_lh W 22 (some ⟨g, 0, none⟩) (n - 1) cap hu .i64 .i64 ((n - 1 : Nat) : Int) (n : Int) (by omega) (by omega) (by omega), hel]
  have h1 : ¬ (cap = n - 1) := by omega
  have h2 : n - (n - 1) = 1 := by omega
  simp [sizeOf, typeInfo, hi0, hsz, Result.andThen, sliced, h1, h2, add0]
 have hzv : ∀ W : World, (zeroValue 27).run Try.prog W = .ok (.agg #[(.int .u32 0), (.int .u32 0), (.int .u32 0), (.int .i64 0), (.int .u32 0), (.slice none 0 0)]) W := by
  intro W
  simp [zeroValue, typeInfo, hi0, hz]
 have HA2 := m_ hA2
 have HI0 := m_ (And.intro hi0 hsz)
 have HZV := m_ hzv
 have HO' := m_ HO
 have HB' := m_ HB
 have ht1 : ((i : Int) == (i : Int) + 1) = false := beq_eq_false_iff_ne.mpr (by omega)
 have hw1 : IntKind.i64.wrap ((i : Int) + 1) = (i : Int) + 1 := by rw [IntKind.wrap_i64]; omega
 clear hA2 hi0 hsz hz hby hzv HO HB hel hu
 go_enter Try.func27, Try.ntmps27
 go_wp2
 go_still_tail 6, (by kernel_rfl)
 change wpList _ _ _ _ _ w.drew
 refine Kd.N_delete k27 (w0 := w0) base rfl (.tmp 22) (.tmp 25) 22 27 rfl Try.underlying22 (by rw [HI0.out.1]; exact congrArg some HI0.out.2) (g := g) (n := n) (c := cap) (k := i) (m := n - (i + 1)) (A := A2) rfl rfl HA2.out rfl (Kd.N_drew HO'.out) hi (pd_ HB'.out) hbase ?_
 intro W1 h1 hb1 hg1
 have H1 := m_ h1
 have HB1 := m_ (And.intro hb1 (Nat.le_trans (show w.heap.size ≤ w.drew.heap.size from Nat.le_refl _) hg1.size))
 clear h1 hb1 hg1
 go_wp2_with ((with_reducible refine gate_builtin (b := .clear) (xs := #[.tmp 31]) rfl ?_); refine Stop0.out ?_)
 refine ⟨?_⟩
 obtain ⟨hn1, hog, hbg, hnc1, hcm, cur, inner, hg, hcs, hin, hre⟩ := N_open H1.out
 rw [show k27.sz = 6 from rfl] at hcs hin hre
 refine wpList_clear_rows rfl (.tmp 31) 22 rfl 27 6 Try.underlying22 _ HZV.out rfl (by decide) g ((n - 1) * 6) 1 (cap - (n - 1)) rfl (by decide) cur 27 hg (by rw [hcs]; omega) ?_
 intro W2 cur2 hg2 hc2 ht2 ho2
 have hN : Kd.N k27 27 W2 base ok (.slice (some ⟨g, 0, none⟩) (n - 1) cap) (l.eraseIdx i) := by
  have := N_mk (d := k27) (base := base) (ok := ok) (xs := l.eraseIdx i) (cap := cap) (inner := inner) hg2 hbg hog (by rw [← hn1]; exact hnc1) hcm (by rw [hc2]; exact hcs) (by rw [← hn1]; exact ht2.trans hin) (reps_F_step hre (fun k hk _ => ho2.block k hk.2))
  rw [← hn1] at this
  exact this
 have hb2 : Below base w0 W2 := pw_below_grown HB1.out.1 _ (Nat.le_trans hbase HB1.out.2) ho2.grown (fun k hk => by injection hk with hk; omega)
 have HN := m_ (And.intro hN hb2)
 clear hN hb2 hg2 hc2 ht2 ho2 hn1 hog hbg hnc1 hcm hg hcs hin hre
 go_wp2
 go_ret
 exact ⟨_, rfl, HN.out.1, HN.out.2⟩

/-! ### flow_Del: function 13, by hand (flow.Del.lean.tpl) -/
def flow_Del.f (l0 : List (S27)) (a1 a2 a3 : Int) : Option (List (S27) × Bool) :=
 if riseK l0 = true ∧ l0.length ≤ 100000 then (if placeB l0 (a1, a2, a3) = true then some (l0.eraseIdx (placeK l0 (a1, a2, a3)), true) else some (l0, false)) else none
set_option maxHeartbeats 4000000 in
set_option maxRecDepth 100000 in
theorem flow_Del.calls (P0_ : Nat → Prop) (A0 : Option Addr) (c0 : Nat) (l0 : List (S27)) (a1 a2 a3 : Int) (r1 : List (S27)) (r2 : Bool) (w : World) (hs0 : Kd.V k27 27 w w.heap.size (fun k_ => P0_ k_) (.slice A0 l0.length c0) l0) (h : flow_Del.f l0 a1 a2 a3 = some (r1, r2)) :
  Calls Try.prog 13 #[.slice A0 l0.length c0, .int .u32 a1, .int .u32 a2, .int .u32 a3] w fun e w' => ∃ v0_ : Value, e = .returned (.tuple #[v0_, .bool r2]) ∧ Kd.V k27 27 w' w.heap.size (fun k_ => (P0_ k_ ∨ w.heap.size ≤ k_)) v0_ r1 ∧ Below w.heap.size w w' := by
 unfold flow_Del.f at h
 split at h
 case isFalse => cases h
 case isTrue hok =>
 obtain ⟨hs, hl⟩ := hok
 have HS0 := m_ hs0
 have HS := m_ hs
 have HL := m_ hl
 have H := m_ h
 have hu59 := Try.underlying59
 have hC0 := (Kd.V_reads' HS0.out).2
 have HC0 := m_ hC0
 clear hs0 hs hl h hC0
 go_enter Try.func13, Try.ntmps13
 go_wp2_with (go_at_call 23; refine Stop0.out ?_)
 refine ⟨?_⟩
 refine (flow_place.calls A0 c0 l0 a1 a2 a3 (placeK l0 (a1, a2, a3) : Nat) (placeB l0 (a1, a2, a3)) _ HC0.out.2 HC0.out.1 (by unfold flow_place.f placeB; rw [if_pos ⟨HS.out, Nat.le_trans HL.out (by decide)⟩])).mono ?_
 rintro e w3 ⟨rfl, hb⟩
 have HB3 := m_ hb
 have HPL := m_ (place_le l0 (a1, a2, a3))
 have HPB : Aside0 (placeB l0 (a1, a2, a3) = true → placeK l0 (a1, a2, a3) < l0.length) := ⟨fun h => by unfold placeB at h; rw [Bool.and_eq_true] at h; exact of_decide_eq_true h.1⟩
 generalize placeK l0 (a1, a2, a3) = p at HPL HPB H ⊢
 generalize placeB l0 (a1, a2, a3) = is at HPB H ⊢
 clear hb
 cases is with
 | false =>
  have H1 := H.out
  rw [if_neg (by simp)] at H1
  simp only [Option.some.injEq, Prod.mk.injEq] at H1
  obtain ⟨rfl, rfl⟩ := H1
  go_wp2
  go_ret2
  exact ⟨_, rfl, Kd.V_mono (Kd.V_below HS0.out HB3.out) (fun k hk => .inl hk), HB3.out⟩
 | true =>
  have H1 := H.out
  rw [if_pos rfl] at H1
  simp only [Option.some.injEq, Prod.mk.injEq] at H1
  obtain ⟨rfl, rfl⟩ := H1
  have hpl := HPB.out rfl
  have hl2 := HL.out
  go_wp2_with (go_at_call 26; refine Stop0.out ?_)
  refine ⟨?_⟩
  refine (cloneRule_calls P0_ A0 c0 l0 w3 (V_base (Kd.V_below HS0.out HB3.out)) (Nat.le_trans HL.out (by decide))).mono ?_
  rintro e w5 ⟨v5, rfl, hN5, hb5⟩
  obtain ⟨g, c5, rfl, _⟩ := Kd.N_form hN5 (by omega)
  have HN5 := m_ (Kd.N_lower (Kd.N_mono (ok' := fun k => P0_ k ∨ w.heap.size ≤ k) hN5 (fun k hk => hk.elim .inl (fun h => .inr (Nat.le_trans HB3.out.size h)))) HB3.out.size)
  have HB5 := m_ (below_step HB3.out hb5)
  clear hN5 hb5
  go_wp2_with (go_at_call 27; refine Stop0.out ?_)
  refine ⟨?_⟩
  refine (delRule_calls g l0.length c5 p l0 (fun k => P0_ k ∨ w.heap.size ≤ k) w.heap.size w w5 HN5.out HB5.out HB5.out.size hpl (Nat.le_trans HL.out (by decide))).mono ?_
  rintro e w6 ⟨v6, rfl, hN6, hb6⟩
  have HN6 := m_ (And.intro hN6 hb6)
  clear hN6 hb6
  go_wp2
  go_ret2
  exact ⟨_, rfl, Kd.N_V HN6.out.1, HN6.out.2⟩

end Go.Proofs.Yteibolilodgjnaa.P

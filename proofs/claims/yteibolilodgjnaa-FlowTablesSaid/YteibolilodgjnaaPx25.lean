/- For each Go function a Lean function, and the proof that a call comes to what it tells: made by program out of the translation (the kit's print, with texts by hand put in). No condition. -/
import Derived.Test.YteibolilodgjnaaSq
import Derived.Test.YteibolilodgjnaaPx0
import Derived.Test.YteibolilodgjnaaPx4
import Derived.Test.YteibolilodgjnaaPx7
import Derived.Test.YteibolilodgjnaaPx10
import Derived.Test.YteibolilodgjnaaPx11
import Derived.Test.YteibolilodgjnaaPx12
import Derived.Test.YteibolilodgjnaaPx14
import Derived.Test.YteibolilodgjnaaPx15
import Derived.Test.YteibolilodgjnaaPx16
import Derived.Test.YteibolilodgjnaaPx18
import Derived.Test.YteibolilodgjnaaPx22
import Derived.Test.YteibolilodgjnaaPx23
import Derived.Test.YteibolilodgjnaaPx24
namespace Go.Proofs.Yteibolilodgjnaa.P
open Go.RowKit Go.Proofs.Yteibolilodgjnaa.HRows Go.Proofs.YteibolilodgjnaaW.PrintWords Go.Proofs.YteibolilodgjnaaW.PrintLast Go.Proofs.YteibolilodgjnaaW.PrintMore
attribute [local go_sem] max2_int min2_int max_two min_two max_three min_three max_four min_four   -- for this text's walks alone
set_option linter.unusedVariables false
set_option linter.unusedSimpArgs false

/-! ### stolonlaw15_FlowTables: function 6 -/
mutual
def stolonlaw15_FlowTables.j0 : Nat → List (S27) → Int → Bool → Bool → Int → Int → Int → Int → Int → List (S53) → Int → Int → Int → Int → Int → List (S53) → Option (Bool)
 | 0, _, _, _, _, _, _, _, _, _, _, _, _, _, _, _, _ => none
 | k + 1, x3, x6, x7, x38, x315000, x315001, x315002, x315003, x315004, x315005, x316000, x316001, x316002, x316003, x316004, x316005 => if x38 = true then (some x7) else ((stolonref15_Table.f k x3).bind fun t318 => ((flow_Right.f k x315000 x315001 x315002 x315003 x315004 x315005).bind fun t319 => ((stolonref15_Right.f k x315000 x315001 x315002 x315003 x315004 x315005).bind fun t320 => (if (t319 != t320) = true then (stolonlaw15_FlowTables.j1 k x3 x6 x7 t318 true x315000 x315001 x315002 x315003 x315004 x315005 x316000 x316001 x316002 x316003 x316004 x316005) else ((flow_Table.f k x3).bind fun t321 => (if (t321 != t318) = true then (stolonlaw15_FlowTables.j1 k x3 x6 x7 t318 true x315000 x315001 x315002 x315003 x315004 x315005 x316000 x316001 x316002 x316003 x316004 x316005) else ((flow_Same.f k x315000 x315001 x315002 x315003 x315004 x315005 x316000 x316001 x316002 x316003 x316004 x316005).bind fun t322 => ((stolonref15_Same.f k x315000 x315001 x315002 x315003 x315004 x315005 x316000 x316001 x316002 x316003 x316004 x316005).bind fun t323 => (stolonlaw15_FlowTables.j1 k x3 x6 x7 t318 (t322 != t323) x315000 x315001 x315002 x315003 x315004 x315005 x316000 x316001 x316002 x316003 x316004 x316005)))))))))
def stolonlaw15_FlowTables.j1 : Nat → List (S27) → Int → Bool → Bool → Bool → Int → Int → Int → Int → Int → List (S53) → Int → Int → Int → Int → Int → List (S53) → Option (Bool)
 | 0, _, _, _, _, _, _, _, _, _, _, _, _, _, _, _, _, _ => none
 | k + 1, x3, x6, x7, x8, x61, x315000, x315001, x315002, x315003, x315004, x315005, x316000, x316001, x316002, x316003, x316004, x316005 => if x61 = true then (some false) else (if x8 = true then ((flow_Put.f k x3 x315000 x315001 x315002 x315003 x315004 x315005 x6).bind fun bt324 => ((stolonref15_Put.f k x3 x315000 x315001 x315002 x315003 x315004 x315005 x6).bind fun bt328 => ((flow_Del.f x3 x316000 x316001 x316002).bind fun bt332 => ((stolonref15_Del.f k x3 x316000 x316001 x316002).bind fun bt336 => (if x7 = true then ((stolonref15_Rows.f k bt324.1 bt328.1).bind fun t340 => (if t340 = true then (if bt324.2 = bt328.2 then ((stolonref15_Rows.f k bt332.1 bt336.1).bind fun t341 => (if t341 = true then (some (bt332.2 == bt336.2)) else (some false))) else (some false)) else (some false))) else (some false)))))) else (some x7))
end
def stolonlaw15_FlowTables.f (k : Nat) (l0_0 : List (S27)) (a0_1 : Int) (a0_2 : Int) (a0_3 : Int) (a0_4 : Int) (a0_5 : Int) (l0_6 : List (S53)) (a0_7 : Int) (a0_8 : Int) (a0_9 : Int) (a0_10 : Int) (a0_11 : Int) (l0_12 : List (S53)) (a0_13 : Int) : Option (Bool) := (stolonlaw15_shown.f k).bind fun t316 => ((stolonref15_Few.f k l0_0).bind fun t317 => (if t317 = true then (stolonlaw15_FlowTables.j0 k l0_0 a0_13 t316 (decide ((wrap64 ((l0_6.length : Int) + (l0_12.length : Int))) > 300)) a0_1 a0_2 a0_3 a0_4 a0_5 l0_6 a0_7 a0_8 a0_9 a0_10 a0_11 l0_12) else (stolonlaw15_FlowTables.j0 k l0_0 a0_13 t316 true a0_1 a0_2 a0_3 a0_4 a0_5 l0_6 a0_7 a0_8 a0_9 a0_10 a0_11 l0_12)))
theorem stolonlaw15_FlowTables.mono_l : ∀ k, (∀ y0 y1 y2 y3 y4 y5 y6 y7 y8 y9 y10 y11 y12 y13 y14 y15, LeO (stolonlaw15_FlowTables.j0 k y0 y1 y2 y3 y4 y5 y6 y7 y8 y9 y10 y11 y12 y13 y14 y15) (stolonlaw15_FlowTables.j0 (k + 1) y0 y1 y2 y3 y4 y5 y6 y7 y8 y9 y10 y11 y12 y13 y14 y15)) ∧ (∀ y0 y1 y2 y3 y4 y5 y6 y7 y8 y9 y10 y11 y12 y13 y14 y15 y16, LeO (stolonlaw15_FlowTables.j1 k y0 y1 y2 y3 y4 y5 y6 y7 y8 y9 y10 y11 y12 y13 y14 y15 y16) (stolonlaw15_FlowTables.j1 (k + 1) y0 y1 y2 y3 y4 y5 y6 y7 y8 y9 y10 y11 y12 y13 y14 y15 y16))
 | 0 => ⟨fun _ _ _ _ _ _ _ _ _ _ _ _ _ _ _ _ r h => by simp [stolonlaw15_FlowTables.j0] at h, fun _ _ _ _ _ _ _ _ _ _ _ _ _ _ _ _ _ r h => by simp [stolonlaw15_FlowTables.j1] at h⟩
 | k + 1 => by
  obtain ⟨ih0, ih1⟩ := stolonlaw15_FlowTables.mono_l k
  refine ⟨?_, ?_⟩
  ·intro y0 y1 y2 y3 y4 y5 y6 y7 y8 y9 y10 y11 y12 y13 y14 y15
   unfold stolonlaw15_FlowTables.j0
   repeat' first
   | (with_reducible exact ih0 _ _ _ _ _ _ _ _ _ _ _ _ _ _ _ _)
   | (with_reducible exact ih1 _ _ _ _ _ _ _ _ _ _ _ _ _ _ _ _ _)
   | (with_reducible exact flow_Put.mono _ _ _ _ _ _ _ _ _)
   | (with_reducible exact flow_Right.mono _ _ _ _ _ _ _)
   | (with_reducible exact flow_Same.mono _ _ _ _ _ _ _ _ _ _ _ _ _)
   | (with_reducible exact flow_Table.mono _ _)
   | (with_reducible exact stolonlaw15_shown.mono _)
   | (with_reducible exact stolonref15_Del.mono _ _ _ _ _)
   | (with_reducible exact stolonref15_Few.mono _ _)
   | (with_reducible exact stolonref15_Put.mono _ _ _ _ _ _ _ _ _)
   | (with_reducible exact stolonref15_Right.mono _ _ _ _ _ _ _)
   | (with_reducible exact stolonref15_Rows.mono _ _ _)
   | (with_reducible exact stolonref15_Same.mono _ _ _ _ _ _ _ _ _ _ _ _ _)
   | (with_reducible exact stolonref15_Table.mono _ _)
   | (with_reducible exact LeO.refl _)
   | (with_reducible exact LeO.none _)
   | (with_reducible refine LeO.ite ?_ ?_)
   | (with_reducible refine LeO.bind ?_ (fun _ => ?_))
   | exact ih0 _ _ _ _ _ _ _ _ _ _ _ _ _ _ _ _
   | exact ih1 _ _ _ _ _ _ _ _ _ _ _ _ _ _ _ _ _
   | exact flow_Put.mono _ _ _ _ _ _ _ _ _
   | exact flow_Right.mono _ _ _ _ _ _ _
   | exact flow_Same.mono _ _ _ _ _ _ _ _ _ _ _ _ _
   | exact flow_Table.mono _ _
   | exact stolonlaw15_shown.mono _
   | exact stolonref15_Del.mono _ _ _ _ _
   | exact stolonref15_Few.mono _ _
   | exact stolonref15_Put.mono _ _ _ _ _ _ _ _ _
   | exact stolonref15_Right.mono _ _ _ _ _ _ _
   | exact stolonref15_Rows.mono _ _ _
   | exact stolonref15_Same.mono _ _ _ _ _ _ _ _ _ _ _ _ _
   | exact stolonref15_Table.mono _ _
   | exact LeO.none _
   | refine LeO.ite ?_ ?_
   | refine LeO.bind ?_ (fun _ => ?_)
  ·intro y0 y1 y2 y3 y4 y5 y6 y7 y8 y9 y10 y11 y12 y13 y14 y15 y16
   unfold stolonlaw15_FlowTables.j1
   repeat' first
   | (with_reducible exact ih0 _ _ _ _ _ _ _ _ _ _ _ _ _ _ _ _)
   | (with_reducible exact ih1 _ _ _ _ _ _ _ _ _ _ _ _ _ _ _ _ _)
   | (with_reducible exact flow_Put.mono _ _ _ _ _ _ _ _ _)
   | (with_reducible exact flow_Right.mono _ _ _ _ _ _ _)
   | (with_reducible exact flow_Same.mono _ _ _ _ _ _ _ _ _ _ _ _ _)
   | (with_reducible exact flow_Table.mono _ _)
   | (with_reducible exact stolonlaw15_shown.mono _)
   | (with_reducible exact stolonref15_Del.mono _ _ _ _ _)
   | (with_reducible exact stolonref15_Few.mono _ _)
   | (with_reducible exact stolonref15_Put.mono _ _ _ _ _ _ _ _ _)
   | (with_reducible exact stolonref15_Right.mono _ _ _ _ _ _ _)
   | (with_reducible exact stolonref15_Rows.mono _ _ _)
   | (with_reducible exact stolonref15_Same.mono _ _ _ _ _ _ _ _ _ _ _ _ _)
   | (with_reducible exact stolonref15_Table.mono _ _)
   | (with_reducible exact LeO.refl _)
   | (with_reducible exact LeO.none _)
   | (with_reducible refine LeO.ite ?_ ?_)
   | (with_reducible refine LeO.bind ?_ (fun _ => ?_))
   | exact ih0 _ _ _ _ _ _ _ _ _ _ _ _ _ _ _ _
   | exact ih1 _ _ _ _ _ _ _ _ _ _ _ _ _ _ _ _ _
   | exact flow_Put.mono _ _ _ _ _ _ _ _ _
   | exact flow_Right.mono _ _ _ _ _ _ _
   | exact flow_Same.mono _ _ _ _ _ _ _ _ _ _ _ _ _
   | exact flow_Table.mono _ _
   | exact stolonlaw15_shown.mono _
   | exact stolonref15_Del.mono _ _ _ _ _
   | exact stolonref15_Few.mono _ _
   | exact stolonref15_Put.mono _ _ _ _ _ _ _ _ _
   | exact stolonref15_Right.mono _ _ _ _ _ _ _
   | exact stolonref15_Rows.mono _ _ _
   | exact stolonref15_Same.mono _ _ _ _ _ _ _ _ _ _ _ _ _
   | exact stolonref15_Table.mono _ _
   | exact LeO.none _
   | refine LeO.ite ?_ ?_
   | refine LeO.bind ?_ (fun _ => ?_)
theorem stolonlaw15_FlowTables.mono : ∀ a0 a1 a2 a3 a4 a5 a6 a7 a8 a9 a10 a11 a12 a13 k, LeO (stolonlaw15_FlowTables.f k a0 a1 a2 a3 a4 a5 a6 a7 a8 a9 a10 a11 a12 a13) (stolonlaw15_FlowTables.f (k + 1) a0 a1 a2 a3 a4 a5 a6 a7 a8 a9 a10 a11 a12 a13) := by
 intro a0 a1 a2 a3 a4 a5 a6 a7 a8 a9 a10 a11 a12 a13 k
 obtain ⟨ih0, ih1⟩ := stolonlaw15_FlowTables.mono_l k
 unfold stolonlaw15_FlowTables.f
 repeat' first
   | (with_reducible exact ih0 _ _ _ _ _ _ _ _ _ _ _ _ _ _ _ _)
   | (with_reducible exact ih1 _ _ _ _ _ _ _ _ _ _ _ _ _ _ _ _ _)
   | (with_reducible exact flow_Put.mono _ _ _ _ _ _ _ _ _)
   | (with_reducible exact flow_Right.mono _ _ _ _ _ _ _)
   | (with_reducible exact flow_Same.mono _ _ _ _ _ _ _ _ _ _ _ _ _)
   | (with_reducible exact flow_Table.mono _ _)
   | (with_reducible exact stolonlaw15_shown.mono _)
   | (with_reducible exact stolonref15_Del.mono _ _ _ _ _)
   | (with_reducible exact stolonref15_Few.mono _ _)
   | (with_reducible exact stolonref15_Put.mono _ _ _ _ _ _ _ _ _)
   | (with_reducible exact stolonref15_Right.mono _ _ _ _ _ _ _)
   | (with_reducible exact stolonref15_Rows.mono _ _ _)
   | (with_reducible exact stolonref15_Same.mono _ _ _ _ _ _ _ _ _ _ _ _ _)
   | (with_reducible exact stolonref15_Table.mono _ _)
   | (with_reducible exact LeO.refl _)
   | (with_reducible exact LeO.none _)
   | (with_reducible refine LeO.ite ?_ ?_)
   | (with_reducible refine LeO.bind ?_ (fun _ => ?_))
   | exact ih0 _ _ _ _ _ _ _ _ _ _ _ _ _ _ _ _
   | exact ih1 _ _ _ _ _ _ _ _ _ _ _ _ _ _ _ _ _
   | exact flow_Put.mono _ _ _ _ _ _ _ _ _
   | exact flow_Right.mono _ _ _ _ _ _ _
   | exact flow_Same.mono _ _ _ _ _ _ _ _ _ _ _ _ _
   | exact flow_Table.mono _ _
   | exact stolonlaw15_shown.mono _
   | exact stolonref15_Del.mono _ _ _ _ _
   | exact stolonref15_Few.mono _ _
   | exact stolonref15_Put.mono _ _ _ _ _ _ _ _ _
   | exact stolonref15_Right.mono _ _ _ _ _ _ _
   | exact stolonref15_Rows.mono _ _ _
   | exact stolonref15_Same.mono _ _ _ _ _ _ _ _ _ _ _ _ _
   | exact stolonref15_Table.mono _ _
   | exact LeO.none _
   | refine LeO.ite ?_ ?_
   | refine LeO.bind ?_ (fun _ => ?_)
def stolonlaw15_FlowTables.T9 : Bool × List (List Nat × List Nat) := (true, [([], []), ([0], [0]), ([], []), ([2, 1], [2]), ([1, 3], [1, 3]), ([4, 3], [4]), ([5], [5]), ([6, 5, 5], [5, 6]), ([5], [5]), ([7, 8, 5], [5, 7, 8]), ([5, 9], [5, 9]), ([10, 7], [10]), ([11], [11]), ([11], [11]), ([12, 13, 11, 11], [11, 12, 13]), ([11], [11]), ([11], [11]), ([15, 16, 14, 11], [11, 15, 16]), ([14, 17, 11], [11, 14, 17]), ([11, 18], [11, 18])])
def stolonlaw15_FlowTables.B9 : List Nat := [0, 1, 0, 7, 15, 31, 63, 127, 63, 511, 1023, 2047, 4095, 4095, 16383, 4095, 4095, 131071, 262143, 524287]
theorem stolonlaw15_FlowTables.tab9 : rtab .any (opsOf Try.f6 9) = stolonlaw15_FlowTables.T9 := by kernel_rfl
theorem stolonlaw15_FlowTables.bits9 : waitsOk stolonlaw15_FlowTables.T9.2 stolonlaw15_FlowTables.B9 = true := by kernel_rfl
set_option maxHeartbeats 8000000 in
set_option maxRecDepth 100000 in
theorem stolonlaw15_FlowTables.calls (k : Nat) (A0_0 : Option Addr) (c0_0 : Nat) (l0_0 : List (S27)) (a0_1 : Int) (a0_2 : Int) (a0_3 : Int) (a0_4 : Int) (a0_5 : Int) (A0_6 : Option Addr) (c0_6 : Nat) (l0_6 : List (S53)) (a0_7 : Int) (a0_8 : Int) (a0_9 : Int) (a0_10 : Int) (a0_11 : Int) (A0_12 : Option Addr) (c0_12 : Nat) (l0_12 : List (S53)) (a0_13 : Int) (r : Bool) (w : World) (hr0_0 : Kd.C k27 w A0_0 l0_0.length l0_0) (hc0_0 : l0_0.length ≤ c0_0) (hr0_6 : Kd.C k53 w A0_6 l0_6.length l0_6) (hc0_6 : l0_6.length ≤ c0_6) (hr0_12 : Kd.C k53 w A0_12 l0_12.length l0_12) (hc0_12 : l0_12.length ≤ c0_12) (hTrue : Aside0 (r = true)) (h : stolonlaw15_FlowTables.f k l0_0 a0_1 a0_2 a0_3 a0_4 a0_5 l0_6 a0_7 a0_8 a0_9 a0_10 a0_11 l0_12 a0_13 = some r) :
  Calls Try.prog 6 #[.agg #[.slice A0_0 l0_0.length c0_0, .int .u32 a0_1, .int .u32 a0_2, .int .u32 a0_3, .int .i64 a0_4, .int .u32 a0_5, .slice A0_6 l0_6.length c0_6, .int .u32 a0_7, .int .u32 a0_8, .int .u32 a0_9, .int .i64 a0_10, .int .u32 a0_11, .slice A0_12 l0_12.length c0_12, .int .i64 a0_13]] w fun e w' => e = .returned (.bool r) ∧ Below w.heap.size w w' := by
 have hu47 := Try.underlying47
 have hu27 := Try.underlying27
 have HR0_0 := m_ hr0_0
 have HC0_0 := m_ hc0_0
 clear hr0_0 hc0_0
 have HR0_6 := m_ hr0_6
 have HC0_6 := m_ hc0_6
 clear hr0_6 hc0_6
 have HR0_12 := m_ hr0_12
 have HC0_12 := m_ hc0_12
 clear hr0_12 hc0_12
 have HB := m_ (Below.refl w.heap.size w)
 have H : ((stolonlaw15_shown.f k).bind fun t316 => ((stolonref15_Few.f k l0_0).bind fun t317 => (if t317 = true then (stolonlaw15_FlowTables.j0 k l0_0 a0_13 t316 (decide ((wrap64 ((l0_6.length : Int) + (l0_12.length : Int))) > 300)) a0_1 a0_2 a0_3 a0_4 a0_5 l0_6 a0_7 a0_8 a0_9 a0_10 a0_11 l0_12) else (stolonlaw15_FlowTables.j0 k l0_0 a0_13 t316 true a0_1 a0_2 a0_3 a0_4 a0_5 l0_6 a0_7 a0_8 a0_9 a0_10 a0_11 l0_12)))) = some r := h
 clear h
 replace H := Option.bind_eq_some_iff.mp H
 obtain ⟨t316, A20, H⟩ := H
 replace H : ((stolonref15_Few.f k l0_0).bind fun t317 => (if t317 = true then (stolonlaw15_FlowTables.j0 k l0_0 a0_13 t316 (decide ((wrap64 ((l0_6.length : Int) + (l0_12.length : Int))) > 300)) a0_1 a0_2 a0_3 a0_4 a0_5 l0_6 a0_7 a0_8 a0_9 a0_10 a0_11 l0_12) else (stolonlaw15_FlowTables.j0 k l0_0 a0_13 t316 true a0_1 a0_2 a0_3 a0_4 a0_5 l0_6 a0_7 a0_8 a0_9 a0_10 a0_11 l0_12))) = some r := H
 have A2 := m_ A20
 clear A20
 have HC3 := m_ H
 clear H
 go_enter Try.func6, Try.ntmps6
 go_upto_region 6 with (first | ((with_reducible refine gate_dst (N := 1) rfl ?_); (try (refine gate_guard (by rfl) ?_; dsimp only)); refine box_event ?hg (N := 1) ?hd (cs := #[.slice A0_0 l0_0.length c0_0, .int .u32 a0_1, .int .u32 a0_2, .int .u32 a0_3, .int .i64 a0_4, .int .u32 a0_5, .slice A0_6 l0_6.length c0_6, .int .u32 a0_7, .int .u32 a0_8, .int .u32 a0_9, .int .i64 a0_10, .int .u32 a0_11, .slice A0_12 l0_12.length c0_12, .int .i64 a0_13]) (t := 47) ?hr ?_; (case hd => rfl); (case hg => rfl); (case hr => first | (go_simp; done) | (go_simp; rfl)); intro gb313 hg w4 hbox hb; have n0_ := m_ (below_step (by repeat (first | (with_reducible first | exact HB.out | apply pa_ | apply pn_ | apply pd_) | exact HB.out)) hb); have n1_ := m_ (hbox); have n2_ := m_ ((by rw [hg]; exact (below_size (by repeat (first | (with_reducible first | exact HB.out | apply pa_ | apply pn_ | apply pd_) | exact HB.out))) : w.heap.size ≤ gb313)); have n3_ := m_ ((by rw [hg]; exact (below_size (by repeat (first | (with_reducible first | exact HB.out | apply pa_ | apply pn_ | apply pd_) | exact HB.out))) : w.heap.size ≤ gb313)); clear HB; have HB := n0_; have BK313 := n1_; have GW313 := n2_; have GE313 := n3_; clear n0_ n1_ n2_ n3_; clear hb hbox hg; have hcz5_0 : w4.cell? ⟨gb313, 0, none⟩ = some (.slice A0_0 l0_0.length c0_0) := (bc_ BK313.out 0).trans rfl; have hcz5_1 : w4.cell? ⟨gb313, 1, none⟩ = some (.int .u32 a0_1) := (bc_ BK313.out 1).trans rfl; have hcz5_2 : w4.cell? ⟨gb313, 2, none⟩ = some (.int .u32 a0_2) := (bc_ BK313.out 2).trans rfl; have hcz5_3 : w4.cell? ⟨gb313, 3, none⟩ = some (.int .u32 a0_3) := (bc_ BK313.out 3).trans rfl; have hcz5_4 : w4.cell? ⟨gb313, 4, none⟩ = some (.int .i64 a0_4) := (bc_ BK313.out 4).trans rfl; have hcz5_5 : w4.cell? ⟨gb313, 5, none⟩ = some (.int .u32 a0_5) := (bc_ BK313.out 5).trans rfl; have hcz5_6 : w4.cell? ⟨gb313, 6, none⟩ = some (.slice A0_6 l0_6.length c0_6) := (bc_ BK313.out 6).trans rfl; have hcz5_7 : w4.cell? ⟨gb313, 7, none⟩ = some (.int .u32 a0_7) := (bc_ BK313.out 7).trans rfl; have hcz5_8 : w4.cell? ⟨gb313, 8, none⟩ = some (.int .u32 a0_8) := (bc_ BK313.out 8).trans rfl; have hcz5_9 : w4.cell? ⟨gb313, 9, none⟩ = some (.int .u32 a0_9) := (bc_ BK313.out 9).trans rfl; have hcz5_10 : w4.cell? ⟨gb313, 10, none⟩ = some (.int .i64 a0_10) := (bc_ BK313.out 10).trans rfl; have hcz5_11 : w4.cell? ⟨gb313, 11, none⟩ = some (.int .u32 a0_11) := (bc_ BK313.out 11).trans rfl; have hcz5_12 : w4.cell? ⟨gb313, 12, none⟩ = some (.slice A0_12 l0_12.length c0_12) := (bc_ BK313.out 12).trans rfl; have hcz5_13 : w4.cell? ⟨gb313, 13, none⟩ = some (.int .i64 a0_13) := (bc_ BK313.out 13).trans rfl; have hfz5_0 := bf_ BK313.out 0; have hfz5_1 := bf_ BK313.out 1; have hfz5_2 := bf_ BK313.out 2; have hfz5_3 := bf_ BK313.out 3; have hfz5_4 := bf_ BK313.out 4; have hfz5_5 := bf_ BK313.out 5; have hfz5_6 := bf_ BK313.out 6; have hfz5_7 := bf_ BK313.out 7; have hfz5_8 := bf_ BK313.out 8; have hfz5_9 := bf_ BK313.out 9; have hfz5_10 := bf_ BK313.out 10; have hfz5_11 := bf_ BK313.out 11; have hfz5_12 := bf_ BK313.out 12; have hfz5_13 := bf_ BK313.out 13) | ((with_reducible refine gate_dst (N := 4) rfl ?_); (try (refine gate_guard (by rfl) ?_; dsimp only)); refine box_event ?hg (N := 4) ?hd (cs := #[.int .u32 0, .int .u32 0, .int .u32 0, .int .i64 0, .int .u32 0, .slice none 0 0]) (t := 27) ?hr ?_; (case hd => rfl); (case hg => rfl); (case hr => first | (go_simp; done) | (go_simp; rfl)); intro gb314 hg w6 hbox hb; have n0_ := m_ (blk_below (g := gb313) (o := .cells #[.slice A0_0 l0_0.length c0_0, .int .u32 a0_1, .int .u32 a0_2, .int .u32 a0_3, .int .i64 a0_4, .int .u32 a0_5, .slice A0_6 l0_6.length c0_6, .int .u32 a0_7, .int .u32 a0_8, .int .u32 a0_9, .int .i64 a0_10, .int .u32 a0_11, .slice A0_12 l0_12.length c0_12, .int .i64 a0_13] 47 (0, 0)) (by (with_reducible repeat (first | refine bn_ ?_ _ | refine bd_ ?_ | refine ba_ ?_ _)); exact BK313.out) hb); have n1_ := m_ (below_step (by repeat (first | (with_reducible first | exact HB.out | apply pa_ | apply pn_ | apply pd_ | refine below_set ?_ GE313.out) | exact HB.out)) hb); have n2_ := m_ (hbox); have n3_ := m_ ((by rw [hg]; exact (below_size (by repeat (first | (with_reducible first | exact HB.out | apply pa_ | apply pn_ | apply pd_ | refine below_set ?_ GE313.out) | exact HB.out))) : w.heap.size ≤ gb314)); have n4_ := m_ ((by rw [hg]; exact (below_size (by repeat (first | (with_reducible first | exact HB.out | apply pa_ | apply pn_ | apply pd_ | refine below_set ?_ GE313.out) | exact HB.out))) : w.heap.size ≤ gb314)); have n5_ := m_ ((by rw [hg]; exact Nat.ne_of_lt (blk_lt (g := gb313) (o := .cells #[.slice A0_0 l0_0.length c0_0, .int .u32 a0_1, .int .u32 a0_2, .int .u32 a0_3, .int .i64 a0_4, .int .u32 a0_5, .slice A0_6 l0_6.length c0_6, .int .u32 a0_7, .int .u32 a0_8, .int .u32 a0_9, .int .i64 a0_10, .int .u32 a0_11, .slice A0_12 l0_12.length c0_12, .int .i64 a0_13] 47 (0, 0)) (by (with_reducible repeat (first | refine bn_ ?_ _ | refine bd_ ?_ | refine ba_ ?_ _)); exact BK313.out)) : gb313 ≠ gb314)); have n6_ := m_ ((by rw [hg]; exact Nat.ne_of_gt (blk_lt (g := gb313) (o := .cells #[.slice A0_0 l0_0.length c0_0, .int .u32 a0_1, .int .u32 a0_2, .int .u32 a0_3, .int .i64 a0_4, .int .u32 a0_5, .slice A0_6 l0_6.length c0_6, .int .u32 a0_7, .int .u32 a0_8, .int .u32 a0_9, .int .i64 a0_10, .int .u32 a0_11, .slice A0_12 l0_12.length c0_12, .int .i64 a0_13] 47 (0, 0)) (by (with_reducible repeat (first | refine bn_ ?_ _ | refine bd_ ?_ | refine ba_ ?_ _)); exact BK313.out)) : gb314 ≠ gb313)); clear BK313; clear HB; have BK313 := n0_; have HB := n1_; have BK314 := n2_; have GW314 := n3_; have GE314 := n4_; have NB313_314 := n5_; have NB314_313 := n6_; clear n0_ n1_ n2_ n3_ n4_ n5_ n6_; clear hb hbox hg; have hnb7 := NB314_313.out; have hnc7 := NB313_314.out; have hcz8_0 : w6.cell? ⟨gb314, 0, none⟩ = some (.int .u32 0) := (bc_ BK314.out 0).trans rfl; have hcz8_1 : w6.cell? ⟨gb314, 1, none⟩ = some (.int .u32 0) := (bc_ BK314.out 1).trans rfl; have hcz8_2 : w6.cell? ⟨gb314, 2, none⟩ = some (.int .u32 0) := (bc_ BK314.out 2).trans rfl; have hcz8_3 : w6.cell? ⟨gb314, 3, none⟩ = some (.int .i64 0) := (bc_ BK314.out 3).trans rfl; have hcz8_4 : w6.cell? ⟨gb314, 4, none⟩ = some (.int .u32 0) := (bc_ BK314.out 4).trans rfl; have hcz8_5 : w6.cell? ⟨gb314, 5, none⟩ = some (.slice none 0 0) := (bc_ BK314.out 5).trans rfl; have hfz8_0 := bf_ BK314.out 0; have hfz8_1 := bf_ BK314.out 1; have hfz8_2 := bf_ BK314.out 2; have hfz8_3 := bf_ BK314.out 3; have hfz8_4 := bf_ BK314.out 4; have hfz8_5 := bf_ BK314.out 5; have hcz9_0 : w6.cell? ⟨gb313, 0, none⟩ = some (.slice A0_0 l0_0.length c0_0) := (bc_ BK313.out 0).trans rfl; have hcz9_1 : w6.cell? ⟨gb313, 1, none⟩ = some (.int .u32 a0_1) := (bc_ BK313.out 1).trans rfl; have hcz9_2 : w6.cell? ⟨gb313, 2, none⟩ = some (.int .u32 a0_2) := (bc_ BK313.out 2).trans rfl; have hcz9_3 : w6.cell? ⟨gb313, 3, none⟩ = some (.int .u32 a0_3) := (bc_ BK313.out 3).trans rfl; have hcz9_4 : w6.cell? ⟨gb313, 4, none⟩ = some (.int .i64 a0_4) := (bc_ BK313.out 4).trans rfl; have hcz9_5 : w6.cell? ⟨gb313, 5, none⟩ = some (.int .u32 a0_5) := (bc_ BK313.out 5).trans rfl; have hcz9_6 : w6.cell? ⟨gb313, 6, none⟩ = some (.slice A0_6 l0_6.length c0_6) := (bc_ BK313.out 6).trans rfl; have hcz9_7 : w6.cell? ⟨gb313, 7, none⟩ = some (.int .u32 a0_7) := (bc_ BK313.out 7).trans rfl; have hcz9_8 : w6.cell? ⟨gb313, 8, none⟩ = some (.int .u32 a0_8) := (bc_ BK313.out 8).trans rfl; have hcz9_9 : w6.cell? ⟨gb313, 9, none⟩ = some (.int .u32 a0_9) := (bc_ BK313.out 9).trans rfl; have hcz9_10 : w6.cell? ⟨gb313, 10, none⟩ = some (.int .i64 a0_10) := (bc_ BK313.out 10).trans rfl; have hcz9_11 : w6.cell? ⟨gb313, 11, none⟩ = some (.int .u32 a0_11) := (bc_ BK313.out 11).trans rfl; have hcz9_12 : w6.cell? ⟨gb313, 12, none⟩ = some (.slice A0_12 l0_12.length c0_12) := (bc_ BK313.out 12).trans rfl; have hcz9_13 : w6.cell? ⟨gb313, 13, none⟩ = some (.int .i64 a0_13) := (bc_ BK313.out 13).trans rfl; have hfz9_0 := bf_ BK313.out 0; have hfz9_1 := bf_ BK313.out 1; have hfz9_2 := bf_ BK313.out 2; have hfz9_3 := bf_ BK313.out 3; have hfz9_4 := bf_ BK313.out 4; have hfz9_5 := bf_ BK313.out 5; have hfz9_6 := bf_ BK313.out 6; have hfz9_7 := bf_ BK313.out 7; have hfz9_8 := bf_ BK313.out 8; have hfz9_9 := bf_ BK313.out 9; have hfz9_10 := bf_ BK313.out 10; have hfz9_11 := bf_ BK313.out 11; have hfz9_12 := bf_ BK313.out 12; have hfz9_13 := bf_ BK313.out 13) | ((with_reducible refine gate_dst (N := 5) rfl ?_); (try (refine gate_guard (by rfl) ?_; dsimp only)); refine box_event ?hg (N := 5) ?hd (cs := #[.int .u32 0, .int .u32 0, .int .u32 0, .int .i64 0, .int .u32 0, .slice none 0 0]) (t := 27) ?hr ?_; (case hd => rfl); (case hg => rfl); (case hr => first | (go_simp; done) | (go_simp; rfl)); intro gb315 hg w10 hbox hb; have n0_ := m_ (blk_below (g := gb313) (o := .cells #[.slice A0_0 l0_0.length c0_0, .int .u32 a0_1, .int .u32 a0_2, .int .u32 a0_3, .int .i64 a0_4, .int .u32 a0_5, .slice A0_6 l0_6.length c0_6, .int .u32 a0_7, .int .u32 a0_8, .int .u32 a0_9, .int .i64 a0_10, .int .u32 a0_11, .slice A0_12 l0_12.length c0_12, .int .i64 a0_13] 47 (0, 0)) (by (with_reducible repeat (first | refine bn_ ?_ _ | refine bd_ ?_ | refine ba_ ?_ _)); refine blk_far ?_ NB313_314.out _; (with_reducible repeat (first | refine bn_ ?_ _ | refine bd_ ?_ | refine ba_ ?_ _)); refine blk_far ?_ NB313_314.out _; (with_reducible repeat (first | refine bn_ ?_ _ | refine bd_ ?_ | refine ba_ ?_ _)); refine blk_far ?_ NB313_314.out _; (with_reducible repeat (first | refine bn_ ?_ _ | refine bd_ ?_ | refine ba_ ?_ _)); refine blk_far ?_ NB313_314.out _; (with_reducible repeat (first | refine bn_ ?_ _ | refine bd_ ?_ | refine ba_ ?_ _)); refine blk_far ?_ NB313_314.out _; (with_reducible repeat (first | refine bn_ ?_ _ | refine bd_ ?_ | refine ba_ ?_ _)); refine blk_far ?_ NB313_314.out _; (with_reducible repeat (first | refine bn_ ?_ _ | refine bd_ ?_ | refine ba_ ?_ _)); exact BK313.out) hb); have n1_ := m_ (blk_below (g := gb314) (o := .cells #[.int .u32 a0_1, .int .u32 a0_2, .int .u32 a0_3, .int .i64 a0_4, .int .u32 a0_5, .slice A0_6 l0_6.length c0_6] 27 (0, 0)) (by (with_reducible repeat (first | refine bn_ ?_ _ | refine bd_ ?_ | refine ba_ ?_ _)); refine blk_put (cs := #[.int .u32 a0_1, .int .u32 a0_2, .int .u32 a0_3, .int .i64 a0_4, .int .u32 a0_5, .slice none 0 0]) ?_ 5 _ rfl; (with_reducible repeat (first | refine bn_ ?_ _ | refine bd_ ?_ | refine ba_ ?_ _)); refine blk_put (cs := #[.int .u32 a0_1, .int .u32 a0_2, .int .u32 a0_3, .int .i64 a0_4, .int .u32 0, .slice none 0 0]) ?_ 4 _ rfl; (with_reducible repeat (first | refine bn_ ?_ _ | refine bd_ ?_ | refine ba_ ?_ _)); refine blk_put (cs := #[.int .u32 a0_1, .int .u32 a0_2, .int .u32 a0_3, .int .i64 0, .int .u32 0, .slice none 0 0]) ?_ 3 _ rfl; (with_reducible repeat (first | refine bn_ ?_ _ | refine bd_ ?_ | refine ba_ ?_ _)); refine blk_put (cs := #[.int .u32 a0_1, .int .u32 a0_2, .int .u32 0, .int .i64 0, .int .u32 0, .slice none 0 0]) ?_ 2 _ rfl; (with_reducible repeat (first | refine bn_ ?_ _ | refine bd_ ?_ | refine ba_ ?_ _)); refine blk_put (cs := #[.int .u32 a0_1, .int .u32 0, .int .u32 0, .int .i64 0, .int .u32 0, .slice none 0 0]) ?_ 1 _ rfl; (with_reducible repeat (first | refine bn_ ?_ _ | refine bd_ ?_ | refine ba_ ?_ _)); refine blk_put (cs := #[.int .u32 0, .int .u32 0, .int .u32 0, .int .i64 0, .int .u32 0, .slice none 0 0]) ?_ 0 _ rfl; (with_reducible repeat (first | refine bn_ ?_ _ | refine bd_ ?_ | refine ba_ ?_ _)); exact BK314.out) hb); have n2_ := m_ (below_step (by repeat (first | (with_reducible first | exact HB.out | apply pa_ | apply pn_ | apply pd_ | refine below_set ?_ GE313.out | refine below_set ?_ GE314.out) | exact HB.out)) hb); have n3_ := m_ (hbox); have n4_ := m_ ((by rw [hg]; exact (below_size (by repeat (first | (with_reducible first | exact HB.out | apply pa_ | apply pn_ | apply pd_ | refine below_set ?_ GE313.out | refine below_set ?_ GE314.out) | exact HB.out))) : w.heap.size ≤ gb315)); have n5_ := m_ ((by rw [hg]; exact (below_size (by repeat (first | (with_reducible first | exact HB.out | apply pa_ | apply pn_ | apply pd_ | refine below_set ?_ GE313.out | refine below_set ?_ GE314.out) | exact HB.out))) : w.heap.size ≤ gb315)); have n6_ := m_ ((by rw [hg]; exact Nat.ne_of_lt (blk_lt (g := gb313) (o := .cells #[.slice A0_0 l0_0.length c0_0, .int .u32 a0_1, .int .u32 a0_2, .int .u32 a0_3, .int .i64 a0_4, .int .u32 a0_5, .slice A0_6 l0_6.length c0_6, .int .u32 a0_7, .int .u32 a0_8, .int .u32 a0_9, .int .i64 a0_10, .int .u32 a0_11, .slice A0_12 l0_12.length c0_12, .int .i64 a0_13] 47 (0, 0)) (by (with_reducible repeat (first | refine bn_ ?_ _ | refine bd_ ?_ | refine ba_ ?_ _)); refine blk_far ?_ NB313_314.out _; (with_reducible repeat (first | refine bn_ ?_ _ | refine bd_ ?_ | refine ba_ ?_ _)); refine blk_far ?_ NB313_314.out _; (with_reducible repeat (first | refine bn_ ?_ _ | refine bd_ ?_ | refine ba_ ?_ _)); refine blk_far ?_ NB313_314.out _; (with_reducible repeat (first | refine bn_ ?_ _ | refine bd_ ?_ | refine ba_ ?_ _)); refine blk_far ?_ NB313_314.out _; (with_reducible repeat (first | refine bn_ ?_ _ | refine bd_ ?_ | refine ba_ ?_ _)); refine blk_far ?_ NB313_314.out _; (with_reducible repeat (first | refine bn_ ?_ _ | refine bd_ ?_ | refine ba_ ?_ _)); refine blk_far ?_ NB313_314.out _; (with_reducible repeat (first | refine bn_ ?_ _ | refine bd_ ?_ | refine ba_ ?_ _)); exact BK313.out)) : gb313 ≠ gb315)); have n7_ := m_ ((by rw [hg]; exact Nat.ne_of_gt (blk_lt (g := gb313) (o := .cells #[.slice A0_0 l0_0.length c0_0, .int .u32 a0_1, .int .u32 a0_2, .int .u32 a0_3, .int .i64 a0_4, .int .u32 a0_5, .slice A0_6 l0_6.length c0_6, .int .u32 a0_7, .int .u32 a0_8, .int .u32 a0_9, .int .i64 a0_10, .int .u32 a0_11, .slice A0_12 l0_12.length c0_12, .int .i64 a0_13] 47 (0, 0)) (by (with_reducible repeat (first | refine bn_ ?_ _ | refine bd_ ?_ | refine ba_ ?_ _)); refine blk_far ?_ NB313_314.out _; (with_reducible repeat (first | refine bn_ ?_ _ | refine bd_ ?_ | refine ba_ ?_ _)); refine blk_far ?_ NB313_314.out _; (with_reducible repeat (first | refine bn_ ?_ _ | refine bd_ ?_ | refine ba_ ?_ _)); refine blk_far ?_ NB313_314.out _; (with_reducible repeat (first | refine bn_ ?_ _ | refine bd_ ?_ | refine ba_ ?_ _)); refine blk_far ?_ NB313_314.out _; (with_reducible repeat (first | refine bn_ ?_ _ | refine bd_ ?_ | refine ba_ ?_ _)); refine blk_far ?_ NB313_314.out _; (with_reducible repeat (first | refine bn_ ?_ _ | refine bd_ ?_ | refine ba_ ?_ _)); refine blk_far ?_ NB313_314.out _; (with_reducible repeat (first | refine bn_ ?_ _ | refine bd_ ?_ | refine ba_ ?_ _)); exact BK313.out)) : gb315 ≠ gb313)); have n8_ := m_ ((by rw [hg]; exact Nat.ne_of_lt (blk_lt (g := gb314) (o := .cells #[.int .u32 a0_1, .int .u32 a0_2, .int .u32 a0_3, .int .i64 a0_4, .int .u32 a0_5, .slice A0_6 l0_6.length c0_6] 27 (0, 0)) (by (with_reducible repeat (first | refine bn_ ?_ _ | refine bd_ ?_ | refine ba_ ?_ _)); refine blk_put (cs := #[.int .u32 a0_1, .int .u32 a0_2, .int .u32 a0_3, .int .i64 a0_4, .int .u32 a0_5, .slice none 0 0]) ?_ 5 _ rfl; (with_reducible repeat (first | refine bn_ ?_ _ | refine bd_ ?_ | refine ba_ ?_ _)); refine blk_put (cs := #[.int .u32 a0_1, .int .u32 a0_2, .int .u32 a0_3, .int .i64 a0_4, .int .u32 0, .slice none 0 0]) ?_ 4 _ rfl; (with_reducible repeat (first | refine bn_ ?_ _ | refine bd_ ?_ | refine ba_ ?_ _)); refine blk_put (cs := #[.int .u32 a0_1, .int .u32 a0_2, .int .u32 a0_3, .int .i64 0, .int .u32 0, .slice none 0 0]) ?_ 3 _ rfl; (with_reducible repeat (first | refine bn_ ?_ _ | refine bd_ ?_ | refine ba_ ?_ _)); refine blk_put (cs := #[.int .u32 a0_1, .int .u32 a0_2, .int .u32 0, .int .i64 0, .int .u32 0, .slice none 0 0]) ?_ 2 _ rfl; (with_reducible repeat (first | refine bn_ ?_ _ | refine bd_ ?_ | refine ba_ ?_ _)); refine blk_put (cs := #[.int .u32 a0_1, .int .u32 0, .int .u32 0, .int .i64 0, .int .u32 0, .slice none 0 0]) ?_ 1 _ rfl; (with_reducible repeat (first | refine bn_ ?_ _ | refine bd_ ?_ | refine ba_ ?_ _)); refine blk_put (cs := #[.int .u32 0, .int .u32 0, .int .u32 0, .int .i64 0, .int .u32 0, .slice none 0 0]) ?_ 0 _ rfl; (with_reducible repeat (first | refine bn_ ?_ _ | refine bd_ ?_ | refine ba_ ?_ _)); exact BK314.out)) : gb314 ≠ gb315)); have n9_ := m_ ((by rw [hg]; exact Nat.ne_of_gt (blk_lt (g := gb314) (o := .cells #[.int .u32 a0_1, .int .u32 a0_2, .int .u32 a0_3, .int .i64 a0_4, .int .u32 a0_5, .slice A0_6 l0_6.length c0_6] 27 (0, 0)) (by (with_reducible repeat (first | refine bn_ ?_ _ | refine bd_ ?_ | refine ba_ ?_ _)); refine blk_put (cs := #[.int .u32 a0_1, .int .u32 a0_2, .int .u32 a0_3, .int .i64 a0_4, .int .u32 a0_5, .slice none 0 0]) ?_ 5 _ rfl; (with_reducible repeat (first | refine bn_ ?_ _ | refine bd_ ?_ | refine ba_ ?_ _)); refine blk_put (cs := #[.int .u32 a0_1, .int .u32 a0_2, .int .u32 a0_3, .int .i64 a0_4, .int .u32 0, .slice none 0 0]) ?_ 4 _ rfl; (with_reducible repeat (first | refine bn_ ?_ _ | refine bd_ ?_ | refine ba_ ?_ _)); refine blk_put (cs := #[.int .u32 a0_1, .int .u32 a0_2, .int .u32 a0_3, .int .i64 0, .int .u32 0, .slice none 0 0]) ?_ 3 _ rfl; (with_reducible repeat (first | refine bn_ ?_ _ | refine bd_ ?_ | refine ba_ ?_ _)); refine blk_put (cs := #[.int .u32 a0_1, .int .u32 a0_2, .int .u32 0, .int .i64 0, .int .u32 0, .slice none 0 0]) ?_ 2 _ rfl; (with_reducible repeat (first | refine bn_ ?_ _ | refine bd_ ?_ | refine ba_ ?_ _)); refine blk_put (cs := #[.int .u32 a0_1, .int .u32 0, .int .u32 0, .int .i64 0, .int .u32 0, .slice none 0 0]) ?_ 1 _ rfl; (with_reducible repeat (first | refine bn_ ?_ _ | refine bd_ ?_ | refine ba_ ?_ _)); refine blk_put (cs := #[.int .u32 0, .int .u32 0, .int .u32 0, .int .i64 0, .int .u32 0, .slice none 0 0]) ?_ 0 _ rfl; (with_reducible repeat (first | refine bn_ ?_ _ | refine bd_ ?_ | refine ba_ ?_ _)); exact BK314.out)) : gb315 ≠ gb314)); clear BK313; clear BK314; clear HB; have BK313 := n0_; have BK314 := n1_; have HB := n2_; have BK315 := n3_; have GW315 := n4_; have GE315 := n5_; have NB313_315 := n6_; have NB315_313 := n7_; have NB314_315 := n8_; have NB315_314 := n9_; clear n0_ n1_ n2_ n3_ n4_ n5_ n6_ n7_ n8_ n9_; clear hb hbox hg; have hnb11 := NB315_313.out; have hnc11 := NB313_315.out; have hnb12 := NB315_314.out; have hnc12 := NB314_315.out; have hcz13_0 : w10.cell? ⟨gb315, 0, none⟩ = some (.int .u32 0) := (bc_ BK315.out 0).trans rfl; have hcz13_1 : w10.cell? ⟨gb315, 1, none⟩ = some (.int .u32 0) := (bc_ BK315.out 1).trans rfl; have hcz13_2 : w10.cell? ⟨gb315, 2, none⟩ = some (.int .u32 0) := (bc_ BK315.out 2).trans rfl; have hcz13_3 : w10.cell? ⟨gb315, 3, none⟩ = some (.int .i64 0) := (bc_ BK315.out 3).trans rfl; have hcz13_4 : w10.cell? ⟨gb315, 4, none⟩ = some (.int .u32 0) := (bc_ BK315.out 4).trans rfl; have hcz13_5 : w10.cell? ⟨gb315, 5, none⟩ = some (.slice none 0 0) := (bc_ BK315.out 5).trans rfl; have hfz13_0 := bf_ BK315.out 0; have hfz13_1 := bf_ BK315.out 1; have hfz13_2 := bf_ BK315.out 2; have hfz13_3 := bf_ BK315.out 3; have hfz13_4 := bf_ BK315.out 4; have hfz13_5 := bf_ BK315.out 5; have hcz14_0 : w10.cell? ⟨gb313, 0, none⟩ = some (.slice A0_0 l0_0.length c0_0) := (bc_ BK313.out 0).trans rfl; have hcz14_1 : w10.cell? ⟨gb313, 1, none⟩ = some (.int .u32 a0_1) := (bc_ BK313.out 1).trans rfl; have hcz14_2 : w10.cell? ⟨gb313, 2, none⟩ = some (.int .u32 a0_2) := (bc_ BK313.out 2).trans rfl; have hcz14_3 : w10.cell? ⟨gb313, 3, none⟩ = some (.int .u32 a0_3) := (bc_ BK313.out 3).trans rfl; have hcz14_4 : w10.cell? ⟨gb313, 4, none⟩ = some (.int .i64 a0_4) := (bc_ BK313.out 4).trans rfl; have hcz14_5 : w10.cell? ⟨gb313, 5, none⟩ = some (.int .u32 a0_5) := (bc_ BK313.out 5).trans rfl; have hcz14_6 : w10.cell? ⟨gb313, 6, none⟩ = some (.slice A0_6 l0_6.length c0_6) := (bc_ BK313.out 6).trans rfl; have hcz14_7 : w10.cell? ⟨gb313, 7, none⟩ = some (.int .u32 a0_7) := (bc_ BK313.out 7).trans rfl; have hcz14_8 : w10.cell? ⟨gb313, 8, none⟩ = some (.int .u32 a0_8) := (bc_ BK313.out 8).trans rfl; have hcz14_9 : w10.cell? ⟨gb313, 9, none⟩ = some (.int .u32 a0_9) := (bc_ BK313.out 9).trans rfl; have hcz14_10 : w10.cell? ⟨gb313, 10, none⟩ = some (.int .i64 a0_10) := (bc_ BK313.out 10).trans rfl; have hcz14_11 : w10.cell? ⟨gb313, 11, none⟩ = some (.int .u32 a0_11) := (bc_ BK313.out 11).trans rfl; have hcz14_12 : w10.cell? ⟨gb313, 12, none⟩ = some (.slice A0_12 l0_12.length c0_12) := (bc_ BK313.out 12).trans rfl; have hcz14_13 : w10.cell? ⟨gb313, 13, none⟩ = some (.int .i64 a0_13) := (bc_ BK313.out 13).trans rfl; have hfz14_0 := bf_ BK313.out 0; have hfz14_1 := bf_ BK313.out 1; have hfz14_2 := bf_ BK313.out 2; have hfz14_3 := bf_ BK313.out 3; have hfz14_4 := bf_ BK313.out 4; have hfz14_5 := bf_ BK313.out 5; have hfz14_6 := bf_ BK313.out 6; have hfz14_7 := bf_ BK313.out 7; have hfz14_8 := bf_ BK313.out 8; have hfz14_9 := bf_ BK313.out 9; have hfz14_10 := bf_ BK313.out 10; have hfz14_11 := bf_ BK313.out 11; have hfz14_12 := bf_ BK313.out 12; have hfz14_13 := bf_ BK313.out 13) | ((with_reducible refine gate_callee (f := 7) rfl ?_); refine goesL_ (some 25) rfl rfl Try.func7 (by kernel_rfl) rfl #[] rfl (by (try simp only [List.map_toArray, List.map_cons, List.map_nil]); first | done | rfl | (simp only [List.length_drop, List.length_take]; rfl)) ?_; (with_reducible refine (stolonlaw15_shown.calls k  t316 _ A2.out).mono ?_); rintro e w15 ⟨rfl, hb⟩; refine ⟨_, rfl, ?_⟩; have n0_ := m_ (blk_below (g := gb313) (o := .cells #[.slice A0_0 l0_0.length c0_0, .int .u32 a0_1, .int .u32 a0_2, .int .u32 a0_3, .int .i64 a0_4, .int .u32 a0_5, .slice A0_6 l0_6.length c0_6, .int .u32 a0_7, .int .u32 a0_8, .int .u32 a0_9, .int .i64 a0_10, .int .u32 a0_11, .slice A0_12 l0_12.length c0_12, .int .i64 a0_13] 47 (0, 0)) (by (with_reducible repeat (first | refine bn_ ?_ _ | refine bd_ ?_ | refine ba_ ?_ _)); refine blk_far ?_ NB313_315.out _; (with_reducible repeat (first | refine bn_ ?_ _ | refine bd_ ?_ | refine ba_ ?_ _)); refine blk_far ?_ NB313_315.out _; (with_reducible repeat (first | refine bn_ ?_ _ | refine bd_ ?_ | refine ba_ ?_ _)); refine blk_far ?_ NB313_315.out _; (with_reducible repeat (first | refine bn_ ?_ _ | refine bd_ ?_ | refine ba_ ?_ _)); refine blk_far ?_ NB313_315.out _; (with_reducible repeat (first | refine bn_ ?_ _ | refine bd_ ?_ | refine ba_ ?_ _)); refine blk_far ?_ NB313_315.out _; (with_reducible repeat (first | refine bn_ ?_ _ | refine bd_ ?_ | refine ba_ ?_ _)); refine blk_far ?_ NB313_315.out _; (with_reducible repeat (first | refine bn_ ?_ _ | refine bd_ ?_ | refine ba_ ?_ _)); exact BK313.out) hb); have n1_ := m_ (blk_below (g := gb314) (o := .cells #[.int .u32 a0_1, .int .u32 a0_2, .int .u32 a0_3, .int .i64 a0_4, .int .u32 a0_5, .slice A0_6 l0_6.length c0_6] 27 (0, 0)) (by (with_reducible repeat (first | refine bn_ ?_ _ | refine bd_ ?_ | refine ba_ ?_ _)); refine blk_far ?_ NB314_315.out _; (with_reducible repeat (first | refine bn_ ?_ _ | refine bd_ ?_ | refine ba_ ?_ _)); refine blk_far ?_ NB314_315.out _; (with_reducible repeat (first | refine bn_ ?_ _ | refine bd_ ?_ | refine ba_ ?_ _)); refine blk_far ?_ NB314_315.out _; (with_reducible repeat (first | refine bn_ ?_ _ | refine bd_ ?_ | refine ba_ ?_ _)); refine blk_far ?_ NB314_315.out _; (with_reducible repeat (first | refine bn_ ?_ _ | refine bd_ ?_ | refine ba_ ?_ _)); refine blk_far ?_ NB314_315.out _; (with_reducible repeat (first | refine bn_ ?_ _ | refine bd_ ?_ | refine ba_ ?_ _)); refine blk_far ?_ NB314_315.out _; (with_reducible repeat (first | refine bn_ ?_ _ | refine bd_ ?_ | refine ba_ ?_ _)); exact BK314.out) hb); have n2_ := m_ (blk_below (g := gb315) (o := .cells #[.int .u32 a0_7, .int .u32 a0_8, .int .u32 a0_9, .int .i64 a0_10, .int .u32 a0_11, .slice A0_12 l0_12.length c0_12] 27 (0, 0)) (by (with_reducible repeat (first | refine bn_ ?_ _ | refine bd_ ?_ | refine ba_ ?_ _)); refine blk_put (cs := #[.int .u32 a0_7, .int .u32 a0_8, .int .u32 a0_9, .int .i64 a0_10, .int .u32 a0_11, .slice none 0 0]) ?_ 5 _ rfl; (with_reducible repeat (first | refine bn_ ?_ _ | refine bd_ ?_ | refine ba_ ?_ _)); refine blk_put (cs := #[.int .u32 a0_7, .int .u32 a0_8, .int .u32 a0_9, .int .i64 a0_10, .int .u32 0, .slice none 0 0]) ?_ 4 _ rfl; (with_reducible repeat (first | refine bn_ ?_ _ | refine bd_ ?_ | refine ba_ ?_ _)); refine blk_put (cs := #[.int .u32 a0_7, .int .u32 a0_8, .int .u32 a0_9, .int .i64 0, .int .u32 0, .slice none 0 0]) ?_ 3 _ rfl; (with_reducible repeat (first | refine bn_ ?_ _ | refine bd_ ?_ | refine ba_ ?_ _)); refine blk_put (cs := #[.int .u32 a0_7, .int .u32 a0_8, .int .u32 0, .int .i64 0, .int .u32 0, .slice none 0 0]) ?_ 2 _ rfl; (with_reducible repeat (first | refine bn_ ?_ _ | refine bd_ ?_ | refine ba_ ?_ _)); refine blk_put (cs := #[.int .u32 a0_7, .int .u32 0, .int .u32 0, .int .i64 0, .int .u32 0, .slice none 0 0]) ?_ 1 _ rfl; (with_reducible repeat (first | refine bn_ ?_ _ | refine bd_ ?_ | refine ba_ ?_ _)); refine blk_put (cs := #[.int .u32 0, .int .u32 0, .int .u32 0, .int .i64 0, .int .u32 0, .slice none 0 0]) ?_ 0 _ rfl; (with_reducible repeat (first | refine bn_ ?_ _ | refine bd_ ?_ | refine ba_ ?_ _)); exact BK315.out) hb); have n3_ := m_ (below_step (by repeat (first | (with_reducible first | exact HB.out | apply pa_ | apply pn_ | apply pd_ | refine below_set ?_ GE313.out | refine below_set ?_ GE314.out | refine below_set ?_ GE315.out) | exact HB.out)) hb); clear BK313; clear BK314; clear BK315; clear HB; have BK313 := n0_; have BK314 := n1_; have BK315 := n2_; have HB := n3_; clear n0_ n1_ n2_ n3_; (try clear hb); (try clear hb2); (try clear hk); (try clear hi)))
 (try simp only [Act.put, List.setIfInBounds_toArray, List.set_cons_zero, List.set_cons_succ])
 go_cut [38] (fun v38 wc => ∃ (kq : Nat) (x38_2 : Bool), v38 = .bool x38_2 ∧ Aside0 (stolonlaw15_FlowTables.j0 kq l0_0 a0_13 t316 x38_2 a0_1 a0_2 a0_3 a0_4 a0_5 l0_6 a0_7 a0_8 a0_9 a0_10 a0_11 l0_12 = some r) ∧ Aside0 (kq ≤ k) ∧ Aside0 (wc.heap[gb313]? = some (.cells #[(.slice A0_0 l0_0.length c0_0), .int .u32 a0_1, .int .u32 a0_2, .int .u32 a0_3, .int .i64 a0_4, .int .u32 a0_5, (.slice A0_6 l0_6.length c0_6), .int .u32 a0_7, .int .u32 a0_8, .int .u32 a0_9, .int .i64 a0_10, .int .u32 a0_11, (.slice A0_12 l0_12.length c0_12), .int .i64 a0_13] 47 (0, 0))) ∧ Aside0 (wc.heap[gb314]? = some (.cells #[.int .u32 a0_1, .int .u32 a0_2, .int .u32 a0_3, .int .i64 a0_4, .int .u32 a0_5, (.slice A0_6 l0_6.length c0_6)] 27 (0, 0))) ∧ Aside0 (wc.heap[gb315]? = some (.cells #[.int .u32 a0_7, .int .u32 a0_8, .int .u32 a0_9, .int .i64 a0_10, .int .u32 a0_11, (.slice A0_12 l0_12.length c0_12)] 27 (0, 0))) ∧ Aside0 (Below w.heap.size w wc))
 case first =>
  have H := HC3.out
  clear HC3
  replace H := Option.bind_eq_some_iff.mp H
  obtain ⟨t317, A160, H⟩ := H
  replace H : (if t317 = true then (stolonlaw15_FlowTables.j0 k l0_0 a0_13 t316 (decide ((wrap64 ((l0_6.length : Int) + (l0_12.length : Int))) > 300)) a0_1 a0_2 a0_3 a0_4 a0_5 l0_6 a0_7 a0_8 a0_9 a0_10 a0_11 l0_12) else (stolonlaw15_FlowTables.j0 k l0_0 a0_13 t316 true a0_1 a0_2 a0_3 a0_4 a0_5 l0_6 a0_7 a0_8 a0_9 a0_10 a0_11 l0_12)) = some r := H
  have A16 := m_ A160
  clear A160
  by_cases c17 : t317 = true
  ·subst c17
   have H1 : (stolonlaw15_FlowTables.j0 k l0_0 a0_13 t316 (decide ((wrap64 ((l0_6.length : Int) + (l0_12.length : Int))) > 300)) a0_1 a0_2 a0_3 a0_4 a0_5 l0_6 a0_7 a0_8 a0_9 a0_10 a0_11 l0_12) = some r := by rw [if_pos rfl] at H; exact H
   clear H
   have H := H1
   clear H1
   have H' := m_ H
   clear H
   go_wp2_with (first | ((with_reducible refine gate_callee (f := 8) rfl ?_); refine goesL_ (some 27) rfl rfl Try.func8 (by kernel_rfl) rfl #[.slice A0_0 l0_0.length c0_0] rfl (by (try simp only [List.map_toArray, List.map_cons, List.map_nil]); first | done | rfl | (simp only [List.length_drop, List.length_take]; rfl)) ?_; (with_reducible refine (stolonref15_Few.calls k _ _ l0_0 true _ ?side1 ?side2 A16.out).mono ?_); (case side1 => repeat (first | exact (Kd.C_below HR0_0.out HB.out) | (with_reducible refine Kd.C_alloc ?_ _) | (with_reducible refine Kd.C_drewN ?_ _) | (with_reducible refine Kd.C_drew ?_))); (case side2 => exact HC0_0.out); rintro e w' ⟨rfl, ⟨nd, rfl⟩⟩; refine ⟨_, rfl, ?_⟩; have hnb18 := NB314_313.out; have hnc18 := NB313_314.out; have hnb19 := NB314_315.out; have hnc19 := NB315_314.out; have hcz20_0 : w15.cell? ⟨gb314, 0, none⟩ = some (.int .u32 a0_1) := (bc_ BK314.out 0).trans rfl; have hcz20_1 : w15.cell? ⟨gb314, 1, none⟩ = some (.int .u32 a0_2) := (bc_ BK314.out 1).trans rfl; have hcz20_2 : w15.cell? ⟨gb314, 2, none⟩ = some (.int .u32 a0_3) := (bc_ BK314.out 2).trans rfl; have hcz20_3 : w15.cell? ⟨gb314, 3, none⟩ = some (.int .i64 a0_4) := (bc_ BK314.out 3).trans rfl; have hcz20_4 : w15.cell? ⟨gb314, 4, none⟩ = some (.int .u32 a0_5) := (bc_ BK314.out 4).trans rfl; have hcz20_5 : w15.cell? ⟨gb314, 5, none⟩ = some (.slice A0_6 l0_6.length c0_6) := (bc_ BK314.out 5).trans rfl; have hfz20_0 := bf_ BK314.out 0; have hfz20_1 := bf_ BK314.out 1; have hfz20_2 := bf_ BK314.out 2; have hfz20_3 := bf_ BK314.out 3; have hfz20_4 := bf_ BK314.out 4; have hfz20_5 := bf_ BK314.out 5; have hnb21 := NB315_313.out; have hnc21 := NB313_315.out; have hcz22_0 : w15.cell? ⟨gb315, 0, none⟩ = some (.int .u32 a0_7) := (bc_ BK315.out 0).trans rfl; have hcz22_1 : w15.cell? ⟨gb315, 1, none⟩ = some (.int .u32 a0_8) := (bc_ BK315.out 1).trans rfl; have hcz22_2 : w15.cell? ⟨gb315, 2, none⟩ = some (.int .u32 a0_9) := (bc_ BK315.out 2).trans rfl; have hcz22_3 : w15.cell? ⟨gb315, 3, none⟩ = some (.int .i64 a0_10) := (bc_ BK315.out 3).trans rfl; have hcz22_4 : w15.cell? ⟨gb315, 4, none⟩ = some (.int .u32 a0_11) := (bc_ BK315.out 4).trans rfl; have hcz22_5 : w15.cell? ⟨gb315, 5, none⟩ = some (.slice A0_12 l0_12.length c0_12) := (bc_ BK315.out 5).trans rfl; have hfz22_0 := bf_ BK315.out 0; have hfz22_1 := bf_ BK315.out 1; have hfz22_2 := bf_ BK315.out 2; have hfz22_3 := bf_ BK315.out 3; have hfz22_4 := bf_ BK315.out 4; have hfz22_5 := bf_ BK315.out 5))
   go_meet
   case rel => exact ⟨_, (decide ((wrap64 ((l0_6.length : Int) + (l0_12.length : Int))) > 300)), (by first | rfl | (simp; done) | (simp [*]; done)), H', ⟨by first | omega | exact Nat.le_refl _⟩, ⟨by (with_reducible repeat (first | refine bn_ ?_ _ | refine bd_ ?_ | refine ba_ ?_ _)); exact BK313.out⟩, ⟨by (with_reducible repeat (first | refine bn_ ?_ _ | refine bd_ ?_ | refine ba_ ?_ _)); exact BK314.out⟩, ⟨by (with_reducible repeat (first | refine bn_ ?_ _ | refine bd_ ?_ | refine ba_ ?_ _)); exact BK315.out⟩, ⟨by repeat (first | (with_reducible first | exact HB.out | apply pa_ | apply pn_ | apply pd_ | refine below_set ?_ GE313.out | refine below_set ?_ GE314.out | refine below_set ?_ GE315.out) | exact HB.out)⟩⟩
  ·replace c17 := Bool.eq_false_iff.mpr c17
   subst c17
   have H1 : (stolonlaw15_FlowTables.j0 k l0_0 a0_13 t316 true a0_1 a0_2 a0_3 a0_4 a0_5 l0_6 a0_7 a0_8 a0_9 a0_10 a0_11 l0_12) = some r := by rw [if_neg (show ¬ (false = true) by decide)] at H; exact H
   clear H
   have H := H1
   clear H1
   have H' := m_ H
   clear H
   go_wp2_with (first | ((with_reducible refine gate_callee (f := 8) rfl ?_); refine goesL_ (some 27) rfl rfl Try.func8 (by kernel_rfl) rfl #[.slice A0_0 l0_0.length c0_0] rfl (by (try simp only [List.map_toArray, List.map_cons, List.map_nil]); first | done | rfl | (simp only [List.length_drop, List.length_take]; rfl)) ?_; (with_reducible refine (stolonref15_Few.calls k _ _ l0_0 false _ ?side1 ?side2 A16.out).mono ?_); (case side1 => repeat (first | exact (Kd.C_below HR0_0.out HB.out) | (with_reducible refine Kd.C_alloc ?_ _) | (with_reducible refine Kd.C_drewN ?_ _) | (with_reducible refine Kd.C_drew ?_))); (case side2 => exact HC0_0.out); rintro e w' ⟨rfl, ⟨nd, rfl⟩⟩; refine ⟨_, rfl, ?_⟩))
   go_meet
   case rel => exact ⟨_, (true), (by first | rfl | (simp; done) | (simp [*]; done)), H', ⟨by first | omega | exact Nat.le_refl _⟩, ⟨by (with_reducible repeat (first | refine bn_ ?_ _ | refine bd_ ?_ | refine ba_ ?_ _)); exact BK313.out⟩, ⟨by (with_reducible repeat (first | refine bn_ ?_ _ | refine bd_ ?_ | refine ba_ ?_ _)); exact BK314.out⟩, ⟨by (with_reducible repeat (first | refine bn_ ?_ _ | refine bd_ ?_ | refine ba_ ?_ _)); exact BK315.out⟩, ⟨by repeat (first | (with_reducible first | exact HB.out | apply pa_ | apply pn_ | apply pd_ | refine below_set ?_ GE313.out | refine below_set ?_ GE314.out | refine below_set ?_ GE315.out) | exact HB.out)⟩⟩
 case rest =>
  clear HC3
  try clear c1
  try clear c2
  try clear p2
  try clear c6
  try clear p6
  try clear c7
  try clear c8
  try clear c11
  try clear c12
  try clear c17
  try clear c18
  try clear c19
  try clear c21
  try clear hcz13_0
  try clear hcz13_1
  try clear hcz13_2
  try clear hcz13_3
  try clear hcz13_4
  try clear hcz13_5
  try clear hcz14_0
  try clear hcz14_1
  try clear hcz14_10
  try clear hcz14_11
  try clear hcz14_12
  try clear hcz14_13
  try clear hcz14_2
  try clear hcz14_3
  try clear hcz14_4
  try clear hcz14_5
  try clear hcz14_6
  try clear hcz14_7
  try clear hcz14_8
  try clear hcz14_9
  try clear hcz20_0
  try clear hcz20_1
  try clear hcz20_2
  try clear hcz20_3
  try clear hcz20_4
  try clear hcz20_5
  try clear hcz22_0
  try clear hcz22_1
  try clear hcz22_2
  try clear hcz22_3
  try clear hcz22_4
  try clear hcz22_5
  try clear hcz5_0
  try clear hcz5_1
  try clear hcz5_10
  try clear hcz5_11
  try clear hcz5_12
  try clear hcz5_13
  try clear hcz5_2
  try clear hcz5_3
  try clear hcz5_4
  try clear hcz5_5
  try clear hcz5_6
  try clear hcz5_7
  try clear hcz5_8
  try clear hcz5_9
  try clear hcz8_0
  try clear hcz8_1
  try clear hcz8_2
  try clear hcz8_3
  try clear hcz8_4
  try clear hcz8_5
  try clear hcz9_0
  try clear hcz9_1
  try clear hcz9_10
  try clear hcz9_11
  try clear hcz9_12
  try clear hcz9_13
  try clear hcz9_2
  try clear hcz9_3
  try clear hcz9_4
  try clear hcz9_5
  try clear hcz9_6
  try clear hcz9_7
  try clear hcz9_8
  try clear hcz9_9
  try clear hfz13_0
  try clear hfz13_1
  try clear hfz13_2
  try clear hfz13_3
  try clear hfz13_4
  try clear hfz13_5
  try clear hfz14_0
  try clear hfz14_1
  try clear hfz14_10
  try clear hfz14_11
  try clear hfz14_12
  try clear hfz14_13
  try clear hfz14_2
  try clear hfz14_3
  try clear hfz14_4
  try clear hfz14_5
  try clear hfz14_6
  try clear hfz14_7
  try clear hfz14_8
  try clear hfz14_9
  try clear hfz20_0
  try clear hfz20_1
  try clear hfz20_2
  try clear hfz20_3
  try clear hfz20_4
  try clear hfz20_5
  try clear hfz22_0
  try clear hfz22_1
  try clear hfz22_2
  try clear hfz22_3
  try clear hfz22_4
  try clear hfz22_5
  try clear hfz5_0
  try clear hfz5_1
  try clear hfz5_10
  try clear hfz5_11
  try clear hfz5_12
  try clear hfz5_13
  try clear hfz5_2
  try clear hfz5_3
  try clear hfz5_4
  try clear hfz5_5
  try clear hfz5_6
  try clear hfz5_7
  try clear hfz5_8
  try clear hfz5_9
  try clear hfz8_0
  try clear hfz8_1
  try clear hfz8_2
  try clear hfz8_3
  try clear hfz8_4
  try clear hfz8_5
  try clear hfz9_0
  try clear hfz9_1
  try clear hfz9_10
  try clear hfz9_11
  try clear hfz9_12
  try clear hfz9_13
  try clear hfz9_2
  try clear hfz9_3
  try clear hfz9_4
  try clear hfz9_5
  try clear hfz9_6
  try clear hfz9_7
  try clear hfz9_8
  try clear hfz9_9
  obtain ⟨kq, x38_2, rfl, HA, HJ2, BK313, BK314, BK315, HB⟩ := hcut
  cases kq with
  | zero => exact absurd HA.out (by simp [stolonlaw15_FlowTables.j0])
  | succ kj2 =>
   have H := HA.out
   clear HA
   simp only [stolonlaw15_FlowTables.j0] at H
   by_cases c23 : x38_2 = true
   ·subst c23
    have H1 : (some t316) = some r := by rw [if_pos rfl] at H; exact H
    clear H
    have H := H1
    clear H1
    obtain rfl := Option.some.inj H
    go_wp2
    go_ret
    exact ⟨by first | rfl | (simp [errW_none, errW_some] <;> rfl) | (simp [*, errW_none, errW_some] <;> rfl), by repeat (first | (with_reducible first | exact HB.out | apply pa_ | apply pn_ | apply pd_ | refine below_set ?_ GE313.out | refine below_set ?_ GE314.out | refine below_set ?_ GE315.out) | exact HB.out)⟩
   ·replace c23 := Bool.eq_false_iff.mpr c23
    subst c23
    have H1 : ((stolonref15_Table.f kj2 l0_0).bind fun t318 => ((flow_Right.f kj2 a0_1 a0_2 a0_3 a0_4 a0_5 l0_6).bind fun t319 => ((stolonref15_Right.f kj2 a0_1 a0_2 a0_3 a0_4 a0_5 l0_6).bind fun t320 => (if (t319 != t320) = true then (stolonlaw15_FlowTables.j1 kj2 l0_0 a0_13 t316 t318 true a0_1 a0_2 a0_3 a0_4 a0_5 l0_6 a0_7 a0_8 a0_9 a0_10 a0_11 l0_12) else ((flow_Table.f kj2 l0_0).bind fun t321 => (if (t321 != t318) = true then (stolonlaw15_FlowTables.j1 kj2 l0_0 a0_13 t316 t318 true a0_1 a0_2 a0_3 a0_4 a0_5 l0_6 a0_7 a0_8 a0_9 a0_10 a0_11 l0_12) else ((flow_Same.f kj2 a0_1 a0_2 a0_3 a0_4 a0_5 l0_6 a0_7 a0_8 a0_9 a0_10 a0_11 l0_12).bind fun t322 => ((stolonref15_Same.f kj2 a0_1 a0_2 a0_3 a0_4 a0_5 l0_6 a0_7 a0_8 a0_9 a0_10 a0_11 l0_12).bind fun t323 => (stolonlaw15_FlowTables.j1 kj2 l0_0 a0_13 t316 t318 (t322 != t323) a0_1 a0_2 a0_3 a0_4 a0_5 l0_6 a0_7 a0_8 a0_9 a0_10 a0_11 l0_12))))))))) = some r := by rw [if_neg (show ¬ (false = true) by decide)] at H; exact H
    clear H
    have H := H1
    clear H1
    replace H := Option.bind_eq_some_iff.mp H
    obtain ⟨t318, A240, H⟩ := H
    replace H : ((flow_Right.f kj2 a0_1 a0_2 a0_3 a0_4 a0_5 l0_6).bind fun t319 => ((stolonref15_Right.f kj2 a0_1 a0_2 a0_3 a0_4 a0_5 l0_6).bind fun t320 => (if (t319 != t320) = true then (stolonlaw15_FlowTables.j1 kj2 l0_0 a0_13 t316 t318 true a0_1 a0_2 a0_3 a0_4 a0_5 l0_6 a0_7 a0_8 a0_9 a0_10 a0_11 l0_12) else ((flow_Table.f kj2 l0_0).bind fun t321 => (if (t321 != t318) = true then (stolonlaw15_FlowTables.j1 kj2 l0_0 a0_13 t316 t318 true a0_1 a0_2 a0_3 a0_4 a0_5 l0_6 a0_7 a0_8 a0_9 a0_10 a0_11 l0_12) else ((flow_Same.f kj2 a0_1 a0_2 a0_3 a0_4 a0_5 l0_6 a0_7 a0_8 a0_9 a0_10 a0_11 l0_12).bind fun t322 => ((stolonref15_Same.f kj2 a0_1 a0_2 a0_3 a0_4 a0_5 l0_6 a0_7 a0_8 a0_9 a0_10 a0_11 l0_12).bind fun t323 => (stolonlaw15_FlowTables.j1 kj2 l0_0 a0_13 t316 t318 (t322 != t323) a0_1 a0_2 a0_3 a0_4 a0_5 l0_6 a0_7 a0_8 a0_9 a0_10 a0_11 l0_12)))))))) = some r := H
    have A24 := m_ A240
    clear A240
    have HC25 := m_ H
    clear H
    go_upto_region 9 with (first | ((with_reducible refine gate_callee (f := 9) rfl ?_); refine goesL_ (some 41) rfl rfl Try.func9 (by kernel_rfl) rfl #[.slice A0_0 l0_0.length c0_0] rfl (by (try simp only [List.map_toArray, List.map_cons, List.map_nil]); first | done | rfl | (simp only [List.length_drop, List.length_take]; rfl)) ?_; (with_reducible refine (stolonref15_Table.calls kj2 _ _ l0_0 t318 _ ?side1 ?side2 A24.out).mono ?_); (case side1 => repeat (first | exact (Kd.C_below HR0_0.out HB.out) | (with_reducible refine Kd.C_alloc ?_ _) | (with_reducible refine Kd.C_drewN ?_ _) | (with_reducible refine Kd.C_drew ?_))); (case side2 => exact HC0_0.out); rintro e w26 ⟨rfl, hb⟩; refine ⟨_, rfl, ?_⟩; have n0_ := m_ (blk_below (g := gb313) (o := .cells #[.slice A0_0 l0_0.length c0_0, .int .u32 a0_1, .int .u32 a0_2, .int .u32 a0_3, .int .i64 a0_4, .int .u32 a0_5, .slice A0_6 l0_6.length c0_6, .int .u32 a0_7, .int .u32 a0_8, .int .u32 a0_9, .int .i64 a0_10, .int .u32 a0_11, .slice A0_12 l0_12.length c0_12, .int .i64 a0_13] 47 (0, 0)) (by (with_reducible repeat (first | refine bn_ ?_ _ | refine bd_ ?_ | refine ba_ ?_ _)); exact BK313.out) hb); have n1_ := m_ (blk_below (g := gb314) (o := .cells #[.int .u32 a0_1, .int .u32 a0_2, .int .u32 a0_3, .int .i64 a0_4, .int .u32 a0_5, .slice A0_6 l0_6.length c0_6] 27 (0, 0)) (by (with_reducible repeat (first | refine bn_ ?_ _ | refine bd_ ?_ | refine ba_ ?_ _)); exact BK314.out) hb); have n2_ := m_ (blk_below (g := gb315) (o := .cells #[.int .u32 a0_7, .int .u32 a0_8, .int .u32 a0_9, .int .i64 a0_10, .int .u32 a0_11, .slice A0_12 l0_12.length c0_12] 27 (0, 0)) (by (with_reducible repeat (first | refine bn_ ?_ _ | refine bd_ ?_ | refine ba_ ?_ _)); exact BK315.out) hb); have n3_ := m_ (below_step (by repeat (first | (with_reducible first | exact HB.out | apply pa_ | apply pn_ | apply pd_ | refine below_set ?_ GE313.out | refine below_set ?_ GE314.out | refine below_set ?_ GE315.out) | exact HB.out)) hb); clear BK313; clear BK314; clear BK315; clear HB; have BK313 := n0_; have BK314 := n1_; have BK315 := n2_; have HB := n3_; clear n0_ n1_ n2_ n3_; (try clear hb); (try clear hb2); (try clear hk); (try clear hi)))
    (try simp only [Act.put, List.setIfInBounds_toArray, List.set_cons_zero, List.set_cons_succ])
    go_cut [61] (fun v61 wc => ∃ (kq : Nat) (x61_24 : Bool), v61 = .bool x61_24 ∧ Aside0 (stolonlaw15_FlowTables.j1 kq l0_0 a0_13 t316 t318 x61_24 a0_1 a0_2 a0_3 a0_4 a0_5 l0_6 a0_7 a0_8 a0_9 a0_10 a0_11 l0_12 = some r) ∧ Aside0 (kq ≤ kj2) ∧ Aside0 (wc.heap[gb313]? = some (.cells #[(.slice A0_0 l0_0.length c0_0), .int .u32 a0_1, .int .u32 a0_2, .int .u32 a0_3, .int .i64 a0_4, .int .u32 a0_5, (.slice A0_6 l0_6.length c0_6), .int .u32 a0_7, .int .u32 a0_8, .int .u32 a0_9, .int .i64 a0_10, .int .u32 a0_11, (.slice A0_12 l0_12.length c0_12), .int .i64 a0_13] 47 (0, 0))) ∧ Aside0 (wc.heap[gb314]? = some (.cells #[.int .u32 a0_1, .int .u32 a0_2, .int .u32 a0_3, .int .i64 a0_4, .int .u32 a0_5, (.slice A0_6 l0_6.length c0_6)] 27 (0, 0))) ∧ Aside0 (wc.heap[gb315]? = some (.cells #[.int .u32 a0_7, .int .u32 a0_8, .int .u32 a0_9, .int .i64 a0_10, .int .u32 a0_11, (.slice A0_12 l0_12.length c0_12)] 27 (0, 0))) ∧ Aside0 (Below w.heap.size w wc))
    case first =>
     have H := HC25.out
     clear HC25
     replace H := Option.bind_eq_some_iff.mp H
     obtain ⟨t319, A270, H⟩ := H
     replace H : ((stolonref15_Right.f kj2 a0_1 a0_2 a0_3 a0_4 a0_5 l0_6).bind fun t320 => (if (t319 != t320) = true then (stolonlaw15_FlowTables.j1 kj2 l0_0 a0_13 t316 t318 true a0_1 a0_2 a0_3 a0_4 a0_5 l0_6 a0_7 a0_8 a0_9 a0_10 a0_11 l0_12) else ((flow_Table.f kj2 l0_0).bind fun t321 => (if (t321 != t318) = true then (stolonlaw15_FlowTables.j1 kj2 l0_0 a0_13 t316 t318 true a0_1 a0_2 a0_3 a0_4 a0_5 l0_6 a0_7 a0_8 a0_9 a0_10 a0_11 l0_12) else ((flow_Same.f kj2 a0_1 a0_2 a0_3 a0_4 a0_5 l0_6 a0_7 a0_8 a0_9 a0_10 a0_11 l0_12).bind fun t322 => ((stolonref15_Same.f kj2 a0_1 a0_2 a0_3 a0_4 a0_5 l0_6 a0_7 a0_8 a0_9 a0_10 a0_11 l0_12).bind fun t323 => (stolonlaw15_FlowTables.j1 kj2 l0_0 a0_13 t316 t318 (t322 != t323) a0_1 a0_2 a0_3 a0_4 a0_5 l0_6 a0_7 a0_8 a0_9 a0_10 a0_11 l0_12))))))) = some r := H
     have A27 := m_ A270
     clear A270
     replace H := Option.bind_eq_some_iff.mp H
     obtain ⟨t320, A280, H⟩ := H
     replace H : (if (t319 != t320) = true then (stolonlaw15_FlowTables.j1 kj2 l0_0 a0_13 t316 t318 true a0_1 a0_2 a0_3 a0_4 a0_5 l0_6 a0_7 a0_8 a0_9 a0_10 a0_11 l0_12) else ((flow_Table.f kj2 l0_0).bind fun t321 => (if (t321 != t318) = true then (stolonlaw15_FlowTables.j1 kj2 l0_0 a0_13 t316 t318 true a0_1 a0_2 a0_3 a0_4 a0_5 l0_6 a0_7 a0_8 a0_9 a0_10 a0_11 l0_12) else ((flow_Same.f kj2 a0_1 a0_2 a0_3 a0_4 a0_5 l0_6 a0_7 a0_8 a0_9 a0_10 a0_11 l0_12).bind fun t322 => ((stolonref15_Same.f kj2 a0_1 a0_2 a0_3 a0_4 a0_5 l0_6 a0_7 a0_8 a0_9 a0_10 a0_11 l0_12).bind fun t323 => (stolonlaw15_FlowTables.j1 kj2 l0_0 a0_13 t316 t318 (t322 != t323) a0_1 a0_2 a0_3 a0_4 a0_5 l0_6 a0_7 a0_8 a0_9 a0_10 a0_11 l0_12)))))) = some r := H
     have A28 := m_ A280
     clear A280
     by_cases c29 : (t319 != t320) = true
     ·rw [if_pos c29] at H
      have c29b0 : (t319 != t320) = true := c29
      (try (have c29b1 : decide (t319 = t320) = false := by simpa using c29))
      (try (have c29b2 : (t319 == t320) = false := by simpa using c29))
      (try (have c29b3 : ¬ (t319 = t320) := by simpa using c29))
      clear c29
      (first | rw [c29b0] | (simp only [i64_w, i32_w]; rw [c29b0]) | skip)
      cases kj2 with
      | zero => exact absurd H (by simp [stolonlaw15_FlowTables.j1])
      | succ k_ =>
       rw [stolonlaw15_FlowTables.j1] at H
       exact absurd ((Option.some.inj ((if_pos rfl).symm.trans H)).trans hTrue.out) (by simp)
     ·rw [if_neg c29] at H
      have c29b0 : (t319 != t320) = false := by simpa using c29
      (try (have c29b1 : decide (t319 = t320) = true := by simpa using c29))
      (try (have c29b2 : (t319 == t320) = true := by simpa using c29))
      clear c29
      (first | rw [c29b0] | (simp only [i64_w, i32_w]; rw [c29b0]) | skip)
      replace H := Option.bind_eq_some_iff.mp H
      obtain ⟨t321, A300, H⟩ := H
      replace H : (if (t321 != t318) = true then (stolonlaw15_FlowTables.j1 kj2 l0_0 a0_13 t316 t318 true a0_1 a0_2 a0_3 a0_4 a0_5 l0_6 a0_7 a0_8 a0_9 a0_10 a0_11 l0_12) else ((flow_Same.f kj2 a0_1 a0_2 a0_3 a0_4 a0_5 l0_6 a0_7 a0_8 a0_9 a0_10 a0_11 l0_12).bind fun t322 => ((stolonref15_Same.f kj2 a0_1 a0_2 a0_3 a0_4 a0_5 l0_6 a0_7 a0_8 a0_9 a0_10 a0_11 l0_12).bind fun t323 => (stolonlaw15_FlowTables.j1 kj2 l0_0 a0_13 t316 t318 (t322 != t323) a0_1 a0_2 a0_3 a0_4 a0_5 l0_6 a0_7 a0_8 a0_9 a0_10 a0_11 l0_12)))) = some r := H
      have A30 := m_ A300
      clear A300
      by_cases c31 : (t321 != t318) = true
      ·rw [if_pos c31] at H
       have c31b0 : (t321 != t318) = true := c31
       (try (have c31b1 : decide (t321 = t318) = false := by simpa using c31))
       (try (have c31b2 : (t321 == t318) = false := by simpa using c31))
       (try (have c31b3 : ¬ (t321 = t318) := by simpa using c31))
       clear c31
       cases kj2 with
       | zero => exact absurd H (by simp [stolonlaw15_FlowTables.j1])
       | succ k_ =>
        rw [stolonlaw15_FlowTables.j1] at H
        exact absurd ((Option.some.inj ((if_pos rfl).symm.trans H)).trans hTrue.out) (by simp)
      ·rw [if_neg c31] at H
       have c31b0 : (t321 != t318) = false := by simpa using c31
       (try (have c31b1 : decide (t321 = t318) = true := by simpa using c31))
       (try (have c31b2 : (t321 == t318) = true := by simpa using c31))
       clear c31
       replace H := Option.bind_eq_some_iff.mp H
       obtain ⟨t322, A320, H⟩ := H
       replace H : ((stolonref15_Same.f kj2 a0_1 a0_2 a0_3 a0_4 a0_5 l0_6 a0_7 a0_8 a0_9 a0_10 a0_11 l0_12).bind fun t323 => (stolonlaw15_FlowTables.j1 kj2 l0_0 a0_13 t316 t318 (t322 != t323) a0_1 a0_2 a0_3 a0_4 a0_5 l0_6 a0_7 a0_8 a0_9 a0_10 a0_11 l0_12)) = some r := H
       have A32 := m_ A320
       clear A320
       replace H := Option.bind_eq_some_iff.mp H
       obtain ⟨t323, A330, H⟩ := H
       replace H : (stolonlaw15_FlowTables.j1 kj2 l0_0 a0_13 t316 t318 (t322 != t323) a0_1 a0_2 a0_3 a0_4 a0_5 l0_6 a0_7 a0_8 a0_9 a0_10 a0_11 l0_12) = some r := H
       have A33 := m_ A330
       clear A330
       have H' := m_ H
       clear H
       try go_wp2
       have n0_ := m_ (bd_ BK313.out)
       have n1_ := m_ (bd_ BK314.out)
       have n2_ := m_ (bd_ BK315.out)
       have n3_ := m_ (pd_ HB.out)
       clear BK313
       clear BK314
       clear BK315
       clear HB
       have BK313 := n0_
       have BK314 := n1_
       have BK315 := n2_
       have HB := n3_
       clear n0_ n1_ n2_ n3_
       refine start_ (n := 20) (S := fun w' => w'.cell? ⟨gb314, 0, none⟩ = some (.int .u32 a0_1) ∧ w'.cell? ⟨gb314, 1, none⟩ = some (.int .u32 a0_2) ∧ w'.cell? ⟨gb314, 2, none⟩ = some (.int .u32 a0_3) ∧ w'.cell? ⟨gb314, 3, none⟩ = some (.int .i64 a0_4) ∧ w'.cell? ⟨gb314, 4, none⟩ = some (.int .u32 a0_5) ∧ w'.cell? ⟨gb314, 5, none⟩ = some (.slice A0_6 l0_6.length c0_6) ∧ w'.cell? ⟨gb315, 0, none⟩ = some (.int .u32 a0_7) ∧ w'.cell? ⟨gb315, 1, none⟩ = some (.int .u32 a0_8) ∧ w'.cell? ⟨gb315, 2, none⟩ = some (.int .u32 a0_9) ∧ w'.cell? ⟨gb315, 3, none⟩ = some (.int .i64 a0_10) ∧ w'.cell? ⟨gb315, 4, none⟩ = some (.int .u32 a0_11) ∧ w'.cell? ⟨gb315, 5, none⟩ = some (.slice A0_12 l0_12.length c0_12)) (ds := []) (bs_ 20 0) (by kernel_rfl) rfl rfl ⟨(bc_ BK314.out 0).trans rfl, (bc_ BK314.out 1).trans rfl, (bc_ BK314.out 2).trans rfl, (bc_ BK314.out 3).trans rfl, (bc_ BK314.out 4).trans rfl, (bc_ BK314.out 5).trans rfl, (bc_ BK315.out 0).trans rfl, (bc_ BK315.out 1).trans rfl, (bc_ BK315.out 2).trans rfl, (bc_ BK315.out 3).trans rfl, (bc_ BK315.out 4).trans rfl, (bc_ BK315.out 5).trans rfl⟩ (fun hHeld => ?_); refine with_tabW stolonlaw15_FlowTables.tab9 stolonlaw15_FlowTables.bits9 (fun HT_ HW_ => ?_)
       generalize w26.drew = w34 at BK313 BK314 BK315 HB hHeld ⊢
       refine take_ (i := 0) (N := some 42) (v := ?_) (a' := ?_) (bs_ 20 1) rfl rfl (take_ofW HT_.out HW_.out (by kernel_rfl)) (fun _ _ _ h => h) (Or.inl ⟨by rfl, ?_⟩) hHeld ?_ ?_
       rotate_left
       ·rintro w' ⟨s0, s1, s2, s3, s4, s5, s6, s7, s8, s9, s10, s11⟩
        (try simp only [add_plain] at s0 s1 s2 s3 s4 s5 s6 s7 s8 s9 s10 s11)
        go_simp
        with_reducible rfl
       rotate_left
       ·simp only [Act.put, a1_, a2_, a3_, i64_w, i32_w]
        rfl
       refine take_ (i := 2) (N := some 44) (v := ?_) (a' := ?_) (bs_ 20 5) rfl rfl (take_ofW HT_.out HW_.out (by kernel_rfl)) (fun _ _ _ h => h) (Or.inl ⟨by rfl, ?_⟩) hHeld ?_ ?_
       rotate_left
       ·rintro w' ⟨s0, s1, s2, s3, s4, s5, s6, s7, s8, s9, s10, s11⟩
        (try simp only [add_plain] at s0 s1 s2 s3 s4 s5 s6 s7 s8 s9 s10 s11)
        go_simp
        with_reducible rfl
       rotate_left
       ·simp only [Act.put, a1_, a2_, a3_, i64_w, i32_w]
        rfl
       refine one_ (i := 1) (N := some 43) (bs_ 20 7) rfl rfl (one_of HT_.out (by kernel_rfl)) (by decide) (fun K hK => ?_)
       refine goes_ Try.func16 (by kernel_rfl) rfl #[.agg #[.int .u32 a0_1, .int .u32 a0_2, .int .u32 a0_3, .int .i64 a0_4, .int .u32 a0_5, .slice A0_6 l0_6.length c0_6]] (by rfl) rfl rfl (by (try simp only [List.map_toArray, List.map_cons, List.map_nil]); first | done | rfl | (simp only [List.length_drop, List.length_take]; rfl)) ?_
       with_reducible refine (flow_Right.calls kj2 a0_1 a0_2 a0_3 a0_4 a0_5 _ _ l0_6 t319 _ ?side1 ?side2 A27.out).mono ?_
       (case side1 => repeat (first | exact (Kd.C_below HR0_6.out HB.out) | (with_reducible refine Kd.C_alloc ?_ _) | (with_reducible refine Kd.C_drewN ?_ _) | (with_reducible refine Kd.C_drew ?_)))
       (case side2 => exact HC0_6.out)
       rintro e w35 ⟨rfl, hb⟩
       refine ⟨_, rfl, ?_⟩
       have n0_ := m_ (blk_below (g := gb313) (o := .cells #[.slice A0_0 l0_0.length c0_0, .int .u32 a0_1, .int .u32 a0_2, .int .u32 a0_3, .int .i64 a0_4, .int .u32 a0_5, .slice A0_6 l0_6.length c0_6, .int .u32 a0_7, .int .u32 a0_8, .int .u32 a0_9, .int .i64 a0_10, .int .u32 a0_11, .slice A0_12 l0_12.length c0_12, .int .i64 a0_13] 47 (0, 0)) (by (with_reducible repeat (first | refine bn_ ?_ _ | refine bd_ ?_ | refine ba_ ?_ _)); exact BK313.out) hb)
       have n1_ := m_ (blk_below (g := gb314) (o := .cells #[.int .u32 a0_1, .int .u32 a0_2, .int .u32 a0_3, .int .i64 a0_4, .int .u32 a0_5, .slice A0_6 l0_6.length c0_6] 27 (0, 0)) (by (with_reducible repeat (first | refine bn_ ?_ _ | refine bd_ ?_ | refine ba_ ?_ _)); exact BK314.out) hb)
       have n2_ := m_ (blk_below (g := gb315) (o := .cells #[.int .u32 a0_7, .int .u32 a0_8, .int .u32 a0_9, .int .i64 a0_10, .int .u32 a0_11, .slice A0_12 l0_12.length c0_12] 27 (0, 0)) (by (with_reducible repeat (first | refine bn_ ?_ _ | refine bd_ ?_ | refine ba_ ?_ _)); exact BK315.out) hb)
       have n3_ := m_ (below_step (by repeat (first | (with_reducible first | exact HB.out | apply pa_ | apply pn_ | apply pd_ | refine below_set ?_ GE313.out | refine below_set ?_ GE314.out | refine below_set ?_ GE315.out) | exact HB.out)) hb)
       clear BK313
       clear BK314
       clear BK315
       clear HB
       have BK313 := n0_
       have BK314 := n1_
       have BK315 := n2_
       have HB := n3_
       clear n0_ n1_ n2_ n3_
       (try clear hb)
       (try clear hb2)
       (try clear hk)
       (try clear hi)
       refine hK.out _ _ ⟨(bc_ BK314.out 0).trans rfl, (bc_ BK314.out 1).trans rfl, (bc_ BK314.out 2).trans rfl, (bc_ BK314.out 3).trans rfl, (bc_ BK314.out 4).trans rfl, (bc_ BK314.out 5).trans rfl, (bc_ BK315.out 0).trans rfl, (bc_ BK315.out 1).trans rfl, (bc_ BK315.out 2).trans rfl, (bc_ BK315.out 3).trans rfl, (bc_ BK315.out 4).trans rfl, (bc_ BK315.out 5).trans rfl⟩ (fun hHeld => ?_)
       clear hK K
       refine norm_ (a' := ?_) ?_ ?_
       rotate_left
       ·show Act.put _ (some 43) _ = _
        simp only [Act.put, a1_, a2_, a3_, i64_w, i32_w]
        rfl
       refine one_ (i := 3) (N := some 45) (bs_ 20 15) rfl rfl (one_of HT_.out (by kernel_rfl)) (by decide) (fun K hK => ?_)
       refine goes_ Try.func17 (by kernel_rfl) rfl #[.agg #[.int .u32 a0_1, .int .u32 a0_2, .int .u32 a0_3, .int .i64 a0_4, .int .u32 a0_5, .slice A0_6 l0_6.length c0_6]] (by rfl) rfl rfl (by (try simp only [List.map_toArray, List.map_cons, List.map_nil]); first | done | rfl | (simp only [List.length_drop, List.length_take]; rfl)) ?_
       with_reducible refine (stolonref15_Right.calls kj2 a0_1 a0_2 a0_3 a0_4 a0_5 _ _ l0_6 t320 _ ?side1 ?side2 A28.out).mono ?_
       (case side1 => repeat (first | exact (Kd.C_below HR0_6.out HB.out) | (with_reducible refine Kd.C_alloc ?_ _) | (with_reducible refine Kd.C_drewN ?_ _) | (with_reducible refine Kd.C_drew ?_)))
       (case side2 => exact HC0_6.out)
       rintro e w36 ⟨rfl, hb⟩
       refine ⟨_, rfl, ?_⟩
       have n0_ := m_ (blk_below (g := gb313) (o := .cells #[.slice A0_0 l0_0.length c0_0, .int .u32 a0_1, .int .u32 a0_2, .int .u32 a0_3, .int .i64 a0_4, .int .u32 a0_5, .slice A0_6 l0_6.length c0_6, .int .u32 a0_7, .int .u32 a0_8, .int .u32 a0_9, .int .i64 a0_10, .int .u32 a0_11, .slice A0_12 l0_12.length c0_12, .int .i64 a0_13] 47 (0, 0)) (by (with_reducible repeat (first | refine bn_ ?_ _ | refine bd_ ?_ | refine ba_ ?_ _)); exact BK313.out) hb)
       have n1_ := m_ (blk_below (g := gb314) (o := .cells #[.int .u32 a0_1, .int .u32 a0_2, .int .u32 a0_3, .int .i64 a0_4, .int .u32 a0_5, .slice A0_6 l0_6.length c0_6] 27 (0, 0)) (by (with_reducible repeat (first | refine bn_ ?_ _ | refine bd_ ?_ | refine ba_ ?_ _)); exact BK314.out) hb)
       have n2_ := m_ (blk_below (g := gb315) (o := .cells #[.int .u32 a0_7, .int .u32 a0_8, .int .u32 a0_9, .int .i64 a0_10, .int .u32 a0_11, .slice A0_12 l0_12.length c0_12] 27 (0, 0)) (by (with_reducible repeat (first | refine bn_ ?_ _ | refine bd_ ?_ | refine ba_ ?_ _)); exact BK315.out) hb)
       have n3_ := m_ (below_step (by repeat (first | (with_reducible first | exact HB.out | apply pa_ | apply pn_ | apply pd_ | refine below_set ?_ GE313.out | refine below_set ?_ GE314.out | refine below_set ?_ GE315.out) | exact HB.out)) hb)
       clear BK313
       clear BK314
       clear BK315
       clear HB
       have BK313 := n0_
       have BK314 := n1_
       have BK315 := n2_
       have HB := n3_
       clear n0_ n1_ n2_ n3_
       (try clear hb)
       (try clear hb2)
       (try clear hk)
       (try clear hi)
       refine hK.out _ _ ⟨(bc_ BK314.out 0).trans rfl, (bc_ BK314.out 1).trans rfl, (bc_ BK314.out 2).trans rfl, (bc_ BK314.out 3).trans rfl, (bc_ BK314.out 4).trans rfl, (bc_ BK314.out 5).trans rfl, (bc_ BK315.out 0).trans rfl, (bc_ BK315.out 1).trans rfl, (bc_ BK315.out 2).trans rfl, (bc_ BK315.out 3).trans rfl, (bc_ BK315.out 4).trans rfl, (bc_ BK315.out 5).trans rfl⟩ (fun hHeld => ?_)
       clear hK K
       refine norm_ (a' := ?_) ?_ ?_
       rotate_left
       ·show Act.put _ (some 45) _ = _
        simp only [Act.put, a1_, a2_, a3_, i64_w, i32_w]
        rfl
       refine pure_ (i := 4) (N := some 46) (v := ?_) (a' := ?_) (bs_ 20 31) rfl rfl (any_of HT_.out (by kernel_rfl)) (fun _ _ _ h => h) (Or.inl ⟨by rfl, ?_⟩) ?_ ?_
       rotate_left
       ·intro w'
        go_simp
        with_reducible rfl
       rotate_left
       ·simp only [Act.put, a1_, a2_, a3_, i64_w, i32_w]
        rfl
       refine pure_ (i := 5) (N := some 47) (v := ?_) (a' := ?_) (bs_ 20 63) rfl rfl (any_of HT_.out (by kernel_rfl)) (fun _ _ _ h => h) (Or.inl ⟨by rfl, ?_⟩) ?_ ?_
       rotate_left
       ·intro w'
        go_simp
        with_reducible rfl
       rotate_left
       ·simp only [Act.put, a1_, a2_, a3_, i64_w, i32_w]
        rfl
       refine pure_ (i := 6) (N := some 48) (v := ?_) (a' := ?_) (bs_ 20 127) rfl rfl (any_of HT_.out (by kernel_rfl)) (fun _ _ _ h => h) (Or.inl ⟨by rfl, ?_⟩) ?_ ?_
       rotate_left
       ·intro w'
        go_simp
        with_reducible rfl
       rotate_left
       ·simp only [Act.put, a1_, a2_, a3_, i64_w, i32_w]
        rfl
       refine pure_ (i := 8) (N := some 50) (v := ?_) (a' := ?_) (bs_ 20 383) rfl rfl (any_of HT_.out (by kernel_rfl)) (fun _ _ _ h => h) (Or.inl ⟨by rfl, ?_⟩) ?_ ?_
       rotate_left
       ·intro w'
        go_simp
        with_reducible rfl
       rotate_left
       ·simp only [Act.put, a1_, a2_, a3_, i64_w, i32_w]
        rfl
       refine one_ (i := 7) (N := some 49) (bs_ 20 511) rfl rfl (one_of HT_.out (by kernel_rfl)) (by decide) (fun K hK => ?_)
       refine goes_ Try.func18 (by kernel_rfl) rfl #[.slice A0_0 l0_0.length c0_0] (by rfl) rfl rfl (by (try simp only [List.map_toArray, List.map_cons, List.map_nil]); first | done | rfl | (simp only [List.length_drop, List.length_take]; rfl)) ?_
       with_reducible refine (flow_Table.calls kj2 _ _ l0_0 t321 _ ?side1 ?side2 A30.out).mono ?_
       (case side1 => repeat (first | exact (Kd.C_below HR0_0.out HB.out) | (with_reducible refine Kd.C_alloc ?_ _) | (with_reducible refine Kd.C_drewN ?_ _) | (with_reducible refine Kd.C_drew ?_)))
       (case side2 => exact HC0_0.out)
       rintro e w37 ⟨rfl, hb⟩
       refine ⟨_, rfl, ?_⟩
       have n0_ := m_ (blk_below (g := gb313) (o := .cells #[.slice A0_0 l0_0.length c0_0, .int .u32 a0_1, .int .u32 a0_2, .int .u32 a0_3, .int .i64 a0_4, .int .u32 a0_5, .slice A0_6 l0_6.length c0_6, .int .u32 a0_7, .int .u32 a0_8, .int .u32 a0_9, .int .i64 a0_10, .int .u32 a0_11, .slice A0_12 l0_12.length c0_12, .int .i64 a0_13] 47 (0, 0)) (by (with_reducible repeat (first | refine bn_ ?_ _ | refine bd_ ?_ | refine ba_ ?_ _)); exact BK313.out) hb)
       have n1_ := m_ (blk_below (g := gb314) (o := .cells #[.int .u32 a0_1, .int .u32 a0_2, .int .u32 a0_3, .int .i64 a0_4, .int .u32 a0_5, .slice A0_6 l0_6.length c0_6] 27 (0, 0)) (by (with_reducible repeat (first | refine bn_ ?_ _ | refine bd_ ?_ | refine ba_ ?_ _)); exact BK314.out) hb)
       have n2_ := m_ (blk_below (g := gb315) (o := .cells #[.int .u32 a0_7, .int .u32 a0_8, .int .u32 a0_9, .int .i64 a0_10, .int .u32 a0_11, .slice A0_12 l0_12.length c0_12] 27 (0, 0)) (by (with_reducible repeat (first | refine bn_ ?_ _ | refine bd_ ?_ | refine ba_ ?_ _)); exact BK315.out) hb)
       have n3_ := m_ (below_step (by repeat (first | (with_reducible first | exact HB.out | apply pa_ | apply pn_ | apply pd_ | refine below_set ?_ GE313.out | refine below_set ?_ GE314.out | refine below_set ?_ GE315.out) | exact HB.out)) hb)
       clear BK313
       clear BK314
       clear BK315
       clear HB
       have BK313 := n0_
       have BK314 := n1_
       have BK315 := n2_
       have HB := n3_
       clear n0_ n1_ n2_ n3_
       (try clear hb)
       (try clear hb2)
       (try clear hk)
       (try clear hi)
       refine hK.out _ _ ⟨(bc_ BK314.out 0).trans rfl, (bc_ BK314.out 1).trans rfl, (bc_ BK314.out 2).trans rfl, (bc_ BK314.out 3).trans rfl, (bc_ BK314.out 4).trans rfl, (bc_ BK314.out 5).trans rfl, (bc_ BK315.out 0).trans rfl, (bc_ BK315.out 1).trans rfl, (bc_ BK315.out 2).trans rfl, (bc_ BK315.out 3).trans rfl, (bc_ BK315.out 4).trans rfl, (bc_ BK315.out 5).trans rfl⟩ (fun hHeld => ?_)
       clear hK K
       refine norm_ (a' := ?_) ?_ ?_
       rotate_left
       ·show Act.put _ (some 49) _ = _
        simp only [Act.put, a1_, a2_, a3_, i64_w, i32_w]
        rfl
       refine pure_ (i := 9) (N := some 51) (v := ?_) (a' := ?_) (bs_ 20 1023) rfl rfl (any_of HT_.out (by kernel_rfl)) (fun _ _ _ h => h) (Or.inl ⟨by rfl, ?_⟩) ?_ ?_
       rotate_left
       ·intro w'
        go_simp
        with_reducible rfl
       rotate_left
       ·simp only [Act.put, a1_, a2_, a3_, i64_w, i32_w]
        rfl
       refine pure_ (i := 10) (N := some 52) (v := ?_) (a' := ?_) (bs_ 20 2047) rfl rfl (any_of HT_.out (by kernel_rfl)) (fun _ _ _ h => h) (Or.inl ⟨by rfl, ?_⟩) ?_ ?_
       rotate_left
       ·intro w'
        go_simp
        with_reducible rfl
       rotate_left
       ·simp only [Act.put, a1_, a2_, a3_, i64_w, i32_w]
        rfl
       refine pure_ (i := 11) (N := some 53) (v := ?_) (a' := ?_) (bs_ 20 4095) rfl rfl (any_of HT_.out (by kernel_rfl)) (fun _ _ _ h => h) (Or.inl ⟨by rfl, ?_⟩) ?_ ?_
       rotate_left
       ·intro w'
        go_simp
        with_reducible rfl
       rotate_left
       ·simp only [Act.put, a1_, a2_, a3_, i64_w, i32_w]
        rfl
       refine take_ (i := 12) (N := some 54) (v := ?_) (a' := ?_) (bs_ 20 8191) rfl rfl (take_ofW HT_.out HW_.out (by kernel_rfl)) (fun _ _ _ h => h) (Or.inl ⟨by rfl, ?_⟩) hHeld ?_ ?_
       rotate_left
       ·rintro w' ⟨s0, s1, s2, s3, s4, s5, s6, s7, s8, s9, s10, s11⟩
        (try simp only [add_plain] at s0 s1 s2 s3 s4 s5 s6 s7 s8 s9 s10 s11)
        go_simp
        with_reducible rfl
       rotate_left
       ·simp only [Act.put, a1_, a2_, a3_, i64_w, i32_w]
        rfl
       refine take_ (i := 13) (N := some 55) (v := ?_) (a' := ?_) (bs_ 20 16383) rfl rfl (take_ofW HT_.out HW_.out (by kernel_rfl)) (fun _ _ _ h => h) (Or.inl ⟨by rfl, ?_⟩) hHeld ?_ ?_
       rotate_left
       ·rintro w' ⟨s0, s1, s2, s3, s4, s5, s6, s7, s8, s9, s10, s11⟩
        (try simp only [add_plain] at s0 s1 s2 s3 s4 s5 s6 s7 s8 s9 s10 s11)
        go_simp
        with_reducible rfl
       rotate_left
       ·simp only [Act.put, a1_, a2_, a3_, i64_w, i32_w]
        rfl
       refine take_ (i := 15) (N := some 57) (v := ?_) (a' := ?_) (bs_ 20 49151) rfl rfl (take_ofW HT_.out HW_.out (by kernel_rfl)) (fun _ _ _ h => h) (Or.inl ⟨by rfl, ?_⟩) hHeld ?_ ?_
       rotate_left
       ·rintro w' ⟨s0, s1, s2, s3, s4, s5, s6, s7, s8, s9, s10, s11⟩
        (try simp only [add_plain] at s0 s1 s2 s3 s4 s5 s6 s7 s8 s9 s10 s11)
        go_simp
        with_reducible rfl
       rotate_left
       ·simp only [Act.put, a1_, a2_, a3_, i64_w, i32_w]
        rfl
       refine take_ (i := 16) (N := some 58) (v := ?_) (a' := ?_) (bs_ 20 114687) rfl rfl (take_ofW HT_.out HW_.out (by kernel_rfl)) (fun _ _ _ h => h) (Or.inl ⟨by rfl, ?_⟩) hHeld ?_ ?_
       rotate_left
       ·rintro w' ⟨s0, s1, s2, s3, s4, s5, s6, s7, s8, s9, s10, s11⟩
        (try simp only [add_plain] at s0 s1 s2 s3 s4 s5 s6 s7 s8 s9 s10 s11)
        go_simp
        with_reducible rfl
       rotate_left
       ·simp only [Act.put, a1_, a2_, a3_, i64_w, i32_w]
        rfl
       refine one_ (i := 14) (N := some 56) (bs_ 20 131071) rfl rfl (one_of HT_.out (by kernel_rfl)) (by decide) (fun K hK => ?_)
       refine goes_ Try.func19 (by kernel_rfl) rfl #[.agg #[.int .u32 a0_1, .int .u32 a0_2, .int .u32 a0_3, .int .i64 a0_4, .int .u32 a0_5, .slice A0_6 l0_6.length c0_6], .agg #[.int .u32 a0_7, .int .u32 a0_8, .int .u32 a0_9, .int .i64 a0_10, .int .u32 a0_11, .slice A0_12 l0_12.length c0_12]] (by rfl) rfl rfl (by (try simp only [List.map_toArray, List.map_cons, List.map_nil]); first | done | rfl | (simp only [List.length_drop, List.length_take]; rfl)) ?_
       with_reducible refine (flow_Same.calls kj2 a0_1 a0_2 a0_3 a0_4 a0_5 _ _ l0_6 a0_7 a0_8 a0_9 a0_10 a0_11 _ _ l0_12 t322 _ ?side1 ?side2 ?side3 ?side4 A32.out).mono ?_
       (case side1 => repeat (first | exact (Kd.C_below HR0_6.out HB.out) | (with_reducible refine Kd.C_alloc ?_ _) | (with_reducible refine Kd.C_drewN ?_ _) | (with_reducible refine Kd.C_drew ?_)))
       (case side2 => exact HC0_6.out)
       (case side3 => repeat (first | exact (Kd.C_below HR0_12.out HB.out) | (with_reducible refine Kd.C_alloc ?_ _) | (with_reducible refine Kd.C_drewN ?_ _) | (with_reducible refine Kd.C_drew ?_)))
       (case side4 => exact HC0_12.out)
       rintro e w38 ⟨rfl, hb⟩
       refine ⟨_, rfl, ?_⟩
       have n0_ := m_ (blk_below (g := gb313) (o := .cells #[.slice A0_0 l0_0.length c0_0, .int .u32 a0_1, .int .u32 a0_2, .int .u32 a0_3, .int .i64 a0_4, .int .u32 a0_5, .slice A0_6 l0_6.length c0_6, .int .u32 a0_7, .int .u32 a0_8, .int .u32 a0_9, .int .i64 a0_10, .int .u32 a0_11, .slice A0_12 l0_12.length c0_12, .int .i64 a0_13] 47 (0, 0)) (by (with_reducible repeat (first | refine bn_ ?_ _ | refine bd_ ?_ | refine ba_ ?_ _)); exact BK313.out) hb)
       have n1_ := m_ (blk_below (g := gb314) (o := .cells #[.int .u32 a0_1, .int .u32 a0_2, .int .u32 a0_3, .int .i64 a0_4, .int .u32 a0_5, .slice A0_6 l0_6.length c0_6] 27 (0, 0)) (by (with_reducible repeat (first | refine bn_ ?_ _ | refine bd_ ?_ | refine ba_ ?_ _)); exact BK314.out) hb)
       have n2_ := m_ (blk_below (g := gb315) (o := .cells #[.int .u32 a0_7, .int .u32 a0_8, .int .u32 a0_9, .int .i64 a0_10, .int .u32 a0_11, .slice A0_12 l0_12.length c0_12] 27 (0, 0)) (by (with_reducible repeat (first | refine bn_ ?_ _ | refine bd_ ?_ | refine ba_ ?_ _)); exact BK315.out) hb)
       have n3_ := m_ (below_step (by repeat (first | (with_reducible first | exact HB.out | apply pa_ | apply pn_ | apply pd_ | refine below_set ?_ GE313.out | refine below_set ?_ GE314.out | refine below_set ?_ GE315.out) | exact HB.out)) hb)
       clear BK313
       clear BK314
       clear BK315
       clear HB
       have BK313 := n0_
       have BK314 := n1_
       have BK315 := n2_
       have HB := n3_
       clear n0_ n1_ n2_ n3_
       (try clear hb)
       (try clear hb2)
       (try clear hk)
       (try clear hi)
       refine hK.out _ _ ⟨(bc_ BK314.out 0).trans rfl, (bc_ BK314.out 1).trans rfl, (bc_ BK314.out 2).trans rfl, (bc_ BK314.out 3).trans rfl, (bc_ BK314.out 4).trans rfl, (bc_ BK314.out 5).trans rfl, (bc_ BK315.out 0).trans rfl, (bc_ BK315.out 1).trans rfl, (bc_ BK315.out 2).trans rfl, (bc_ BK315.out 3).trans rfl, (bc_ BK315.out 4).trans rfl, (bc_ BK315.out 5).trans rfl⟩ (fun hHeld => ?_)
       clear hK K
       refine norm_ (a' := ?_) ?_ ?_
       rotate_left
       ·show Act.put _ (some 56) _ = _
        simp only [Act.put, a1_, a2_, a3_, i64_w, i32_w]
        rfl
       refine one_ (i := 17) (N := some 59) (bs_ 20 262143) rfl rfl (one_of HT_.out (by kernel_rfl)) (by decide) (fun K hK => ?_)
       refine goes_ Try.func14 (by kernel_rfl) rfl #[.agg #[.int .u32 a0_1, .int .u32 a0_2, .int .u32 a0_3, .int .i64 a0_4, .int .u32 a0_5, .slice A0_6 l0_6.length c0_6], .agg #[.int .u32 a0_7, .int .u32 a0_8, .int .u32 a0_9, .int .i64 a0_10, .int .u32 a0_11, .slice A0_12 l0_12.length c0_12]] (by rfl) rfl rfl (by (try simp only [List.map_toArray, List.map_cons, List.map_nil]); first | done | rfl | (simp only [List.length_drop, List.length_take]; rfl)) ?_
       with_reducible refine (stolonref15_Same.calls kj2 a0_1 a0_2 a0_3 a0_4 a0_5 _ _ l0_6 a0_7 a0_8 a0_9 a0_10 a0_11 _ _ l0_12 t323 _ ?side1 ?side2 ?side3 ?side4 A33.out).mono ?_
       (case side1 => repeat (first | exact (Kd.C_below HR0_6.out HB.out) | (with_reducible refine Kd.C_alloc ?_ _) | (with_reducible refine Kd.C_drewN ?_ _) | (with_reducible refine Kd.C_drew ?_)))
       (case side2 => exact HC0_6.out)
       (case side3 => repeat (first | exact (Kd.C_below HR0_12.out HB.out) | (with_reducible refine Kd.C_alloc ?_ _) | (with_reducible refine Kd.C_drewN ?_ _) | (with_reducible refine Kd.C_drew ?_)))
       (case side4 => exact HC0_12.out)
       rintro e w39 ⟨rfl, hb⟩
       refine ⟨_, rfl, ?_⟩
       have n0_ := m_ (blk_below (g := gb313) (o := .cells #[.slice A0_0 l0_0.length c0_0, .int .u32 a0_1, .int .u32 a0_2, .int .u32 a0_3, .int .i64 a0_4, .int .u32 a0_5, .slice A0_6 l0_6.length c0_6, .int .u32 a0_7, .int .u32 a0_8, .int .u32 a0_9, .int .i64 a0_10, .int .u32 a0_11, .slice A0_12 l0_12.length c0_12, .int .i64 a0_13] 47 (0, 0)) (by (with_reducible repeat (first | refine bn_ ?_ _ | refine bd_ ?_ | refine ba_ ?_ _)); exact BK313.out) hb)
       have n1_ := m_ (blk_below (g := gb314) (o := .cells #[.int .u32 a0_1, .int .u32 a0_2, .int .u32 a0_3, .int .i64 a0_4, .int .u32 a0_5, .slice A0_6 l0_6.length c0_6] 27 (0, 0)) (by (with_reducible repeat (first | refine bn_ ?_ _ | refine bd_ ?_ | refine ba_ ?_ _)); exact BK314.out) hb)
       have n2_ := m_ (blk_below (g := gb315) (o := .cells #[.int .u32 a0_7, .int .u32 a0_8, .int .u32 a0_9, .int .i64 a0_10, .int .u32 a0_11, .slice A0_12 l0_12.length c0_12] 27 (0, 0)) (by (with_reducible repeat (first | refine bn_ ?_ _ | refine bd_ ?_ | refine ba_ ?_ _)); exact BK315.out) hb)
       have n3_ := m_ (below_step (by repeat (first | (with_reducible first | exact HB.out | apply pa_ | apply pn_ | apply pd_ | refine below_set ?_ GE313.out | refine below_set ?_ GE314.out | refine below_set ?_ GE315.out) | exact HB.out)) hb)
       clear BK313
       clear BK314
       clear BK315
       clear HB
       have BK313 := n0_
       have BK314 := n1_
       have BK315 := n2_
       have HB := n3_
       clear n0_ n1_ n2_ n3_
       (try clear hb)
       (try clear hb2)
       (try clear hk)
       (try clear hi)
       refine hK.out _ _ ⟨(bc_ BK314.out 0).trans rfl, (bc_ BK314.out 1).trans rfl, (bc_ BK314.out 2).trans rfl, (bc_ BK314.out 3).trans rfl, (bc_ BK314.out 4).trans rfl, (bc_ BK314.out 5).trans rfl, (bc_ BK315.out 0).trans rfl, (bc_ BK315.out 1).trans rfl, (bc_ BK315.out 2).trans rfl, (bc_ BK315.out 3).trans rfl, (bc_ BK315.out 4).trans rfl, (bc_ BK315.out 5).trans rfl⟩ (fun hHeld => ?_)
       clear hK K
       refine norm_ (a' := ?_) ?_ ?_
       rotate_left
       ·show Act.put _ (some 59) _ = _
        simp only [Act.put, a1_, a2_, a3_, i64_w, i32_w]
        rfl
       refine pure_ (i := 18) (N := some 60) (v := ?_) (a' := ?_) (bs_ 20 524287) rfl rfl (any_of HT_.out (by kernel_rfl)) (fun _ _ _ h => h) (Or.inl ⟨by rfl, ?_⟩) ?_ ?_
       rotate_left
       ·intro w'
        go_simp
        with_reducible rfl
       rotate_left
       ·simp only [Act.put, a1_, a2_, a3_, i64_w, i32_w]
        rfl
       refine pure_ (i := 19) (N := some 61) (v := ?_) (a' := ?_) (bs_ 20 1048575) rfl rfl (any_of HT_.out (by kernel_rfl)) (fun _ _ _ h => h) (Or.inl ⟨by rfl, ?_⟩) ?_ ?_
       rotate_left
       ·intro w'
        go_simp
        with_reducible rfl
       rotate_left
       ·simp only [Act.put, a1_, a2_, a3_, i64_w, i32_w]
        rfl
       refine done_ (done_of HT_.out (by kernel_rfl)) ?_
       try go_wp2
       go_meet
       case rel => exact ⟨_, ((t322 != t323)), (by first | rfl | (simp; done) | (simp [*]; done)), H', ⟨by have := HJ2.out; first | omega | exact Nat.le_refl _⟩, ⟨by (with_reducible repeat (first | refine bn_ ?_ _ | refine bd_ ?_ | refine ba_ ?_ _)); exact BK313.out⟩, ⟨by (with_reducible repeat (first | refine bn_ ?_ _ | refine bd_ ?_ | refine ba_ ?_ _)); exact BK314.out⟩, ⟨by (with_reducible repeat (first | refine bn_ ?_ _ | refine bd_ ?_ | refine ba_ ?_ _)); exact BK315.out⟩, ⟨by repeat (first | (with_reducible first | exact HB.out | apply pa_ | apply pn_ | apply pd_ | refine below_set ?_ GE313.out | refine below_set ?_ GE314.out | refine below_set ?_ GE315.out) | exact HB.out)⟩⟩
    case rest =>
     clear HC25
     try clear c1
     try clear c2
     try clear p2
     try clear c3
     try clear c6
     try clear p6
     try clear c7
     try clear c8
     try clear c9
     try clear c11
     try clear c12
     try clear c14
     try clear c16
     try clear c17
     try clear c18
     try clear c19
     try clear c21
     try clear c23
     try clear c29
     try clear c29b0
     try clear c29b1
     try clear c29b2
     try clear c31
     try clear c31b0
     try clear c31b1
     try clear c31b2
     try clear hcz13_0
     try clear hcz13_1
     try clear hcz13_2
     try clear hcz13_3
     try clear hcz13_4
     try clear hcz13_5
     try clear hcz14_0
     try clear hcz14_1
     try clear hcz14_10
     try clear hcz14_11
     try clear hcz14_12
     try clear hcz14_13
     try clear hcz14_2
     try clear hcz14_3
     try clear hcz14_4
     try clear hcz14_5
     try clear hcz14_6
     try clear hcz14_7
     try clear hcz14_8
     try clear hcz14_9
     try clear hcz20_0
     try clear hcz20_1
     try clear hcz20_2
     try clear hcz20_3
     try clear hcz20_4
     try clear hcz20_5
     try clear hcz22_0
     try clear hcz22_1
     try clear hcz22_2
     try clear hcz22_3
     try clear hcz22_4
     try clear hcz22_5
     try clear hcz5_0
     try clear hcz5_1
     try clear hcz5_10
     try clear hcz5_11
     try clear hcz5_12
     try clear hcz5_13
     try clear hcz5_2
     try clear hcz5_3
     try clear hcz5_4
     try clear hcz5_5
     try clear hcz5_6
     try clear hcz5_7
     try clear hcz5_8
     try clear hcz5_9
     try clear hcz8_0
     try clear hcz8_1
     try clear hcz8_2
     try clear hcz8_3
     try clear hcz8_4
     try clear hcz8_5
     try clear hcz9_0
     try clear hcz9_1
     try clear hcz9_10
     try clear hcz9_11
     try clear hcz9_12
     try clear hcz9_13
     try clear hcz9_2
     try clear hcz9_3
     try clear hcz9_4
     try clear hcz9_5
     try clear hcz9_6
     try clear hcz9_7
     try clear hcz9_8
     try clear hcz9_9
     try clear hfz13_0
     try clear hfz13_1
     try clear hfz13_2
     try clear hfz13_3
     try clear hfz13_4
     try clear hfz13_5
     try clear hfz14_0
     try clear hfz14_1
     try clear hfz14_10
     try clear hfz14_11
     try clear hfz14_12
     try clear hfz14_13
     try clear hfz14_2
     try clear hfz14_3
     try clear hfz14_4
     try clear hfz14_5
     try clear hfz14_6
     try clear hfz14_7
     try clear hfz14_8
     try clear hfz14_9
     try clear hfz20_0
     try clear hfz20_1
     try clear hfz20_2
     try clear hfz20_3
     try clear hfz20_4
     try clear hfz20_5
     try clear hfz22_0
     try clear hfz22_1
     try clear hfz22_2
     try clear hfz22_3
     try clear hfz22_4
     try clear hfz22_5
     try clear hfz5_0
     try clear hfz5_1
     try clear hfz5_10
     try clear hfz5_11
     try clear hfz5_12
     try clear hfz5_13
     try clear hfz5_2
     try clear hfz5_3
     try clear hfz5_4
     try clear hfz5_5
     try clear hfz5_6
     try clear hfz5_7
     try clear hfz5_8
     try clear hfz5_9
     try clear hfz8_0
     try clear hfz8_1
     try clear hfz8_2
     try clear hfz8_3
     try clear hfz8_4
     try clear hfz8_5
     try clear hfz9_0
     try clear hfz9_1
     try clear hfz9_10
     try clear hfz9_11
     try clear hfz9_12
     try clear hfz9_13
     try clear hfz9_2
     try clear hfz9_3
     try clear hfz9_4
     try clear hfz9_5
     try clear hfz9_6
     try clear hfz9_7
     try clear hfz9_8
     try clear hfz9_9
     try clear p2
     try clear p6
     obtain ⟨kq, x61_24, rfl, HA, HJ24, BK313, BK314, BK315, HB⟩ := hcut
     cases kq with
     | zero => exact absurd HA.out (by simp [stolonlaw15_FlowTables.j1])
     | succ kj24 =>
      have H := HA.out
      clear HA
      simp only [stolonlaw15_FlowTables.j1] at H
      by_cases c40 : x61_24 = true
      ·subst c40
       have H1 : (some false) = some r := by rw [if_pos rfl] at H; exact H
       clear H
       have H := H1
       clear H1
       exact absurd ((Option.some.inj H).trans hTrue.out) (by simp)
      ·replace c40 := Bool.eq_false_iff.mpr c40
       subst c40
       have H1 : (if t318 = true then ((flow_Put.f kj24 l0_0 a0_1 a0_2 a0_3 a0_4 a0_5 l0_6 a0_13).bind fun bt324 => ((stolonref15_Put.f kj24 l0_0 a0_1 a0_2 a0_3 a0_4 a0_5 l0_6 a0_13).bind fun bt328 => ((flow_Del.f l0_0 a0_7 a0_8 a0_9).bind fun bt332 => ((stolonref15_Del.f kj24 l0_0 a0_7 a0_8 a0_9).bind fun bt336 => (if t316 = true then ((stolonref15_Rows.f kj24 bt324.1 bt328.1).bind fun t340 => (if t340 = true then (if bt324.2 = bt328.2 then ((stolonref15_Rows.f kj24 bt332.1 bt336.1).bind fun t341 => (if t341 = true then (some (bt332.2 == bt336.2)) else (some false))) else (some false)) else (some false))) else (some false)))))) else (some t316)) = some r := by rw [if_neg (show ¬ (false = true) by decide)] at H; exact H
       clear H
       have H := H1
       clear H1
       by_cases c41 : t318 = true
       ·subst c41
        have H1 : ((flow_Put.f kj24 l0_0 a0_1 a0_2 a0_3 a0_4 a0_5 l0_6 a0_13).bind fun bt324 => ((stolonref15_Put.f kj24 l0_0 a0_1 a0_2 a0_3 a0_4 a0_5 l0_6 a0_13).bind fun bt328 => ((flow_Del.f l0_0 a0_7 a0_8 a0_9).bind fun bt332 => ((stolonref15_Del.f kj24 l0_0 a0_7 a0_8 a0_9).bind fun bt336 => (if t316 = true then ((stolonref15_Rows.f kj24 bt324.1 bt328.1).bind fun t340 => (if t340 = true then (if bt324.2 = bt328.2 then ((stolonref15_Rows.f kj24 bt332.1 bt336.1).bind fun t341 => (if t341 = true then (some (bt332.2 == bt336.2)) else (some false))) else (some false)) else (some false))) else (some false)))))) = some r := by rw [if_pos rfl] at H; exact H
        clear H
        have H := H1
        clear H1
        replace H := Option.bind_eq_some_iff.mp H
        obtain ⟨⟨t324, t327⟩, A420, H⟩ := H
        replace H : ((stolonref15_Put.f kj24 l0_0 a0_1 a0_2 a0_3 a0_4 a0_5 l0_6 a0_13).bind fun bt328 => ((flow_Del.f l0_0 a0_7 a0_8 a0_9).bind fun bt332 => ((stolonref15_Del.f kj24 l0_0 a0_7 a0_8 a0_9).bind fun bt336 => (if t316 = true then ((stolonref15_Rows.f kj24 t324 bt328.1).bind fun t340 => (if t340 = true then (if t327 = bt328.2 then ((stolonref15_Rows.f kj24 bt332.1 bt336.1).bind fun t341 => (if t341 = true then (some (bt332.2 == bt336.2)) else (some false))) else (some false)) else (some false))) else (some false))))) = some r := H
        have A42 := m_ A420
        clear A420
        replace H := Option.bind_eq_some_iff.mp H
        obtain ⟨⟨t328, t331⟩, A430, H⟩ := H
        replace H : ((flow_Del.f l0_0 a0_7 a0_8 a0_9).bind fun bt332 => ((stolonref15_Del.f kj24 l0_0 a0_7 a0_8 a0_9).bind fun bt336 => (if t316 = true then ((stolonref15_Rows.f kj24 t324 t328).bind fun t340 => (if t340 = true then (if t327 = t331 then ((stolonref15_Rows.f kj24 bt332.1 bt336.1).bind fun t341 => (if t341 = true then (some (bt332.2 == bt336.2)) else (some false))) else (some false)) else (some false))) else (some false)))) = some r := H
        have A43 := m_ A430
        clear A430
        replace H := Option.bind_eq_some_iff.mp H
        obtain ⟨⟨t332, t335⟩, A440, H⟩ := H
        replace H : ((stolonref15_Del.f kj24 l0_0 a0_7 a0_8 a0_9).bind fun bt336 => (if t316 = true then ((stolonref15_Rows.f kj24 t324 t328).bind fun t340 => (if t340 = true then (if t327 = t331 then ((stolonref15_Rows.f kj24 t332 bt336.1).bind fun t341 => (if t341 = true then (some (t335 == bt336.2)) else (some false))) else (some false)) else (some false))) else (some false))) = some r := H
        have A44 := m_ A440
        clear A440
        replace H := Option.bind_eq_some_iff.mp H
        obtain ⟨⟨t336, t339⟩, A450, H⟩ := H
        replace H : (if t316 = true then ((stolonref15_Rows.f kj24 t324 t328).bind fun t340 => (if t340 = true then (if t327 = t331 then ((stolonref15_Rows.f kj24 t332 t336).bind fun t341 => (if t341 = true then (some (t335 == t339)) else (some false))) else (some false)) else (some false))) else (some false)) = some r := H
        have A45 := m_ A450
        clear A450
        by_cases c46 : t316 = true
        ·subst c46
         have H1 : ((stolonref15_Rows.f kj24 t324 t328).bind fun t340 => (if t340 = true then (if t327 = t331 then ((stolonref15_Rows.f kj24 t332 t336).bind fun t341 => (if t341 = true then (some (t335 == t339)) else (some false))) else (some false)) else (some false))) = some r := by rw [if_pos rfl] at H; exact H
         clear H
         have H := H1
         clear H1
         replace H := Option.bind_eq_some_iff.mp H
         obtain ⟨t340, A470, H⟩ := H
         replace H : (if t340 = true then (if t327 = t331 then ((stolonref15_Rows.f kj24 t332 t336).bind fun t341 => (if t341 = true then (some (t335 == t339)) else (some false))) else (some false)) else (some false)) = some r := H
         have A47 := m_ A470
         clear A470
         by_cases c48 : t340 = true
         ·subst c48
          have H1 : (if t327 = t331 then ((stolonref15_Rows.f kj24 t332 t336).bind fun t341 => (if t341 = true then (some (t335 == t339)) else (some false))) else (some false)) = some r := by rw [if_pos rfl] at H; exact H
          clear H
          have H := H1
          clear H1
          by_cases c49 : t327 = t331
          ·rw [if_pos c49] at H
           have c49b0 : (t327 == t331) = true := beq_iff_eq.mpr c49
           have c49b1 : (t327 != t331) = false := bne_eq_false_iff_eq.mpr c49
           clear c49
           replace H := Option.bind_eq_some_iff.mp H
           obtain ⟨t341, A500, H⟩ := H
           replace H : (if t341 = true then (some (t335 == t339)) else (some false)) = some r := H
           have A50 := m_ A500
           clear A500
           by_cases c51 : t341 = true
           ·subst c51
            have H1 : (some (t335 == t339)) = some r := by rw [if_pos rfl] at H; exact H
            clear H
            have H := H1
            clear H1
            obtain rfl := Option.some.inj H
            have hnb52 := NB314_313.out
            have hnc52 := NB313_314.out
            have hnb53 := NB314_315.out
            have hnc53 := NB315_314.out
            have hcz54_0 : wc.cell? ⟨gb314, 0, none⟩ = some (.int .u32 a0_1) := (bc_ BK314.out 0).trans rfl
            have hcz54_1 : wc.cell? ⟨gb314, 1, none⟩ = some (.int .u32 a0_2) := (bc_ BK314.out 1).trans rfl
            have hcz54_2 : wc.cell? ⟨gb314, 2, none⟩ = some (.int .u32 a0_3) := (bc_ BK314.out 2).trans rfl
            have hcz54_3 : wc.cell? ⟨gb314, 3, none⟩ = some (.int .i64 a0_4) := (bc_ BK314.out 3).trans rfl
            have hcz54_4 : wc.cell? ⟨gb314, 4, none⟩ = some (.int .u32 a0_5) := (bc_ BK314.out 4).trans rfl
            have hcz54_5 : wc.cell? ⟨gb314, 5, none⟩ = some (.slice A0_6 l0_6.length c0_6) := (bc_ BK314.out 5).trans rfl
            have hfz54_0 := bf_ BK314.out 0
            have hfz54_1 := bf_ BK314.out 1
            have hfz54_2 := bf_ BK314.out 2
            have hfz54_3 := bf_ BK314.out 3
            have hfz54_4 := bf_ BK314.out 4
            have hfz54_5 := bf_ BK314.out 5
            go_wp2_with (first | ((with_reducible refine gate_callee (f := 10) rfl ?_); refine goesL_ (some 69) rfl rfl Try.func10 (by kernel_rfl) rfl #[.slice A0_0 l0_0.length c0_0, .agg #[.int .u32 a0_1, .int .u32 a0_2, .int .u32 a0_3, .int .i64 a0_4, .int .u32 a0_5, .slice A0_6 l0_6.length c0_6], .int .i64 a0_13] rfl (by (try simp only [List.map_toArray, List.map_cons, List.map_nil]); first | done | rfl | (simp only [List.length_drop, List.length_take]; rfl)) ?_; (with_reducible refine (flow_Put.calls kj24 (fun k_ => k_ < w.heap.size) _ _ l0_0 a0_1 a0_2 a0_3 a0_4 a0_5 (fun k_ => k_ < w.heap.size) _ _ l0_6 a0_13 t324 t327 _ ?side1 ?side2 A42.out).mono ?_); (case side1 => exact Kd.V_mk HC0_0.out (Kd.F_below (Kd.C_F k27_heap HR0_0.out) (by repeat (first | (with_reducible first | exact HB.out | apply pa_ | apply pn_ | apply pd_ | refine below_set ?_ GE313.out | refine below_set ?_ GE314.out | refine below_set ?_ GE315.out) | exact HB.out)))); (case side2 => exact Kd.V_mk HC0_6.out (Kd.F_below (Kd.C_F k53_heap HR0_6.out) (by repeat (first | (with_reducible first | exact HB.out | apply pa_ | apply pn_ | apply pd_ | refine below_set ?_ GE313.out | refine below_set ?_ GE314.out | refine below_set ?_ GE315.out) | exact HB.out)))); rintro e w55 ⟨v325, rfl, ho0, hb⟩; refine ⟨_, rfl, ?_⟩; have n0_ := m_ (Kd.V_lower (Kd.V_mono (ok' := fun k_ => k_ ≠ gb313 ∧ k_ ≠ gb314 ∧ k_ ≠ gb315) ho0 (fun k_ hk_ => ⟨Or.elim hk_ (fun hs_ => Or.elim hs_ (fun hs_ => fun e_ => Nat.not_le.2 hs_ (by rw [e_]; exact GW313.out)) (fun hs_ => fun e_ => Nat.not_le.2 hs_ (by rw [e_]; exact GW313.out))) (fun hn_ => (Kd.freshB (g := gb313) (o := .cells #[.slice A0_0 l0_0.length c0_0, .int .u32 a0_1, .int .u32 a0_2, .int .u32 a0_3, .int .i64 a0_4, .int .u32 a0_5, .slice A0_6 l0_6.length c0_6, .int .u32 a0_7, .int .u32 a0_8, .int .u32 a0_9, .int .i64 a0_10, .int .u32 a0_11, .slice A0_12 l0_12.length c0_12, .int .i64 a0_13] 47 (0, 0)) (by (with_reducible repeat (first | refine bn_ ?_ _ | refine bd_ ?_ | refine ba_ ?_ _)); exact BK313.out) k_ hn_)), Or.elim hk_ (fun hs_ => Or.elim hs_ (fun hs_ => fun e_ => Nat.not_le.2 hs_ (by rw [e_]; exact GW314.out)) (fun hs_ => fun e_ => Nat.not_le.2 hs_ (by rw [e_]; exact GW314.out))) (fun hn_ => (Kd.freshB (g := gb314) (o := .cells #[.int .u32 a0_1, .int .u32 a0_2, .int .u32 a0_3, .int .i64 a0_4, .int .u32 a0_5, .slice A0_6 l0_6.length c0_6] 27 (0, 0)) (by (with_reducible repeat (first | refine bn_ ?_ _ | refine bd_ ?_ | refine ba_ ?_ _)); exact BK314.out) k_ hn_)), Or.elim hk_ (fun hs_ => Or.elim hs_ (fun hs_ => fun e_ => Nat.not_le.2 hs_ (by rw [e_]; exact GW315.out)) (fun hs_ => fun e_ => Nat.not_le.2 hs_ (by rw [e_]; exact GW315.out))) (fun hn_ => (Kd.freshB (g := gb315) (o := .cells #[.int .u32 a0_7, .int .u32 a0_8, .int .u32 a0_9, .int .i64 a0_10, .int .u32 a0_11, .slice A0_12 l0_12.length c0_12] 27 (0, 0)) (by (with_reducible repeat (first | refine bn_ ?_ _ | refine bd_ ?_ | refine ba_ ?_ _)); exact BK315.out) k_ hn_))⟩)) (below_size (by repeat (first | (with_reducible first | exact HB.out | apply pa_ | apply pn_ | apply pd_ | refine below_set ?_ GE313.out | refine below_set ?_ GE314.out | refine below_set ?_ GE315.out) | exact HB.out)))); have n1_ := m_ (blk_below (g := gb313) (o := .cells #[.slice A0_0 l0_0.length c0_0, .int .u32 a0_1, .int .u32 a0_2, .int .u32 a0_3, .int .i64 a0_4, .int .u32 a0_5, .slice A0_6 l0_6.length c0_6, .int .u32 a0_7, .int .u32 a0_8, .int .u32 a0_9, .int .i64 a0_10, .int .u32 a0_11, .slice A0_12 l0_12.length c0_12, .int .i64 a0_13] 47 (0, 0)) (by (with_reducible repeat (first | refine bn_ ?_ _ | refine bd_ ?_ | refine ba_ ?_ _)); exact BK313.out) hb); have n2_ := m_ (blk_below (g := gb314) (o := .cells #[.int .u32 a0_1, .int .u32 a0_2, .int .u32 a0_3, .int .i64 a0_4, .int .u32 a0_5, .slice A0_6 l0_6.length c0_6] 27 (0, 0)) (by (with_reducible repeat (first | refine bn_ ?_ _ | refine bd_ ?_ | refine ba_ ?_ _)); exact BK314.out) hb); have n3_ := m_ (blk_below (g := gb315) (o := .cells #[.int .u32 a0_7, .int .u32 a0_8, .int .u32 a0_9, .int .i64 a0_10, .int .u32 a0_11, .slice A0_12 l0_12.length c0_12] 27 (0, 0)) (by (with_reducible repeat (first | refine bn_ ?_ _ | refine bd_ ?_ | refine ba_ ?_ _)); exact BK315.out) hb); have n4_ := m_ (below_step (by repeat (first | (with_reducible first | exact HB.out | apply pa_ | apply pn_ | apply pd_ | refine below_set ?_ GE313.out | refine below_set ?_ GE314.out | refine below_set ?_ GE315.out) | exact HB.out)) hb); clear BK313; clear BK314; clear BK315; clear HB; have HO326 := n0_; have BK313 := n1_; have BK314 := n2_; have BK315 := n3_; have HB := n4_; clear n0_ n1_ n2_ n3_ n4_; (try clear hb); (try clear hb2); (try clear hk); (try clear hi); (try clear ho0); have hcz56_0 : w55.cell? ⟨gb314, 0, none⟩ = some (.int .u32 a0_1) := (bc_ BK314.out 0).trans rfl; have hcz56_1 : w55.cell? ⟨gb314, 1, none⟩ = some (.int .u32 a0_2) := (bc_ BK314.out 1).trans rfl; have hcz56_2 : w55.cell? ⟨gb314, 2, none⟩ = some (.int .u32 a0_3) := (bc_ BK314.out 2).trans rfl; have hcz56_3 : w55.cell? ⟨gb314, 3, none⟩ = some (.int .i64 a0_4) := (bc_ BK314.out 3).trans rfl; have hcz56_4 : w55.cell? ⟨gb314, 4, none⟩ = some (.int .u32 a0_5) := (bc_ BK314.out 4).trans rfl; have hcz56_5 : w55.cell? ⟨gb314, 5, none⟩ = some (.slice A0_6 l0_6.length c0_6) := (bc_ BK314.out 5).trans rfl; have hfz56_0 := bf_ BK314.out 0; have hfz56_1 := bf_ BK314.out 1; have hfz56_2 := bf_ BK314.out 2; have hfz56_3 := bf_ BK314.out 3; have hfz56_4 := bf_ BK314.out 4; have hfz56_5 := bf_ BK314.out 5) | ((with_reducible refine gate_callee (f := 20) rfl ?_); refine goesL_ (some 76) rfl rfl Try.func20 (by kernel_rfl) rfl #[.slice A0_0 l0_0.length c0_0, .agg #[.int .u32 a0_1, .int .u32 a0_2, .int .u32 a0_3, .int .i64 a0_4, .int .u32 a0_5, .slice A0_6 l0_6.length c0_6], .int .i64 a0_13] rfl (by (try simp only [List.map_toArray, List.map_cons, List.map_nil]); first | done | rfl | (simp only [List.length_drop, List.length_take]; rfl)) ?_; (with_reducible refine (stolonref15_Put.calls kj24 (fun k_ => k_ < w.heap.size) _ _ l0_0 a0_1 a0_2 a0_3 a0_4 a0_5 (fun k_ => k_ < w.heap.size) _ _ l0_6 a0_13 t328 t331 _ ?side1 ?side2 A43.out).mono ?_); (case side1 => exact Kd.V_mk HC0_0.out (Kd.F_below (Kd.C_F k27_heap HR0_0.out) (by repeat (first | (with_reducible first | exact HB.out | apply pa_ | apply pn_ | apply pd_ | refine below_set ?_ GE313.out | refine below_set ?_ GE314.out | refine below_set ?_ GE315.out) | exact HB.out)))); (case side2 => exact Kd.V_mk HC0_6.out (Kd.F_below (Kd.C_F k53_heap HR0_6.out) (by repeat (first | (with_reducible first | exact HB.out | apply pa_ | apply pn_ | apply pd_ | refine below_set ?_ GE313.out | refine below_set ?_ GE314.out | refine below_set ?_ GE315.out) | exact HB.out)))); rintro e w57 ⟨v329, rfl, ho0, hb⟩; refine ⟨_, rfl, ?_⟩; have n0_ := m_ (Kd.V_below (by (with_reducible repeat (first | apply Kd.V_alloc | apply Kd.V_drewN | apply Kd.V_drew)); exact HO326.out) hb); have n1_ := m_ (Kd.V_lower (Kd.V_mono (ok' := fun k_ => k_ ≠ gb313 ∧ k_ ≠ gb314 ∧ k_ ≠ gb315) ho0 (fun k_ hk_ => ⟨Or.elim hk_ (fun hs_ => Or.elim hs_ (fun hs_ => fun e_ => Nat.not_le.2 hs_ (by rw [e_]; exact GW313.out)) (fun hs_ => fun e_ => Nat.not_le.2 hs_ (by rw [e_]; exact GW313.out))) (fun hn_ => (Kd.freshB (g := gb313) (o := .cells #[.slice A0_0 l0_0.length c0_0, .int .u32 a0_1, .int .u32 a0_2, .int .u32 a0_3, .int .i64 a0_4, .int .u32 a0_5, .slice A0_6 l0_6.length c0_6, .int .u32 a0_7, .int .u32 a0_8, .int .u32 a0_9, .int .i64 a0_10, .int .u32 a0_11, .slice A0_12 l0_12.length c0_12, .int .i64 a0_13] 47 (0, 0)) (by (with_reducible repeat (first | refine bn_ ?_ _ | refine bd_ ?_ | refine ba_ ?_ _)); exact BK313.out) k_ hn_)), Or.elim hk_ (fun hs_ => Or.elim hs_ (fun hs_ => fun e_ => Nat.not_le.2 hs_ (by rw [e_]; exact GW314.out)) (fun hs_ => fun e_ => Nat.not_le.2 hs_ (by rw [e_]; exact GW314.out))) (fun hn_ => (Kd.freshB (g := gb314) (o := .cells #[.int .u32 a0_1, .int .u32 a0_2, .int .u32 a0_3, .int .i64 a0_4, .int .u32 a0_5, .slice A0_6 l0_6.length c0_6] 27 (0, 0)) (by (with_reducible repeat (first | refine bn_ ?_ _ | refine bd_ ?_ | refine ba_ ?_ _)); exact BK314.out) k_ hn_)), Or.elim hk_ (fun hs_ => Or.elim hs_ (fun hs_ => fun e_ => Nat.not_le.2 hs_ (by rw [e_]; exact GW315.out)) (fun hs_ => fun e_ => Nat.not_le.2 hs_ (by rw [e_]; exact GW315.out))) (fun hn_ => (Kd.freshB (g := gb315) (o := .cells #[.int .u32 a0_7, .int .u32 a0_8, .int .u32 a0_9, .int .i64 a0_10, .int .u32 a0_11, .slice A0_12 l0_12.length c0_12] 27 (0, 0)) (by (with_reducible repeat (first | refine bn_ ?_ _ | refine bd_ ?_ | refine ba_ ?_ _)); exact BK315.out) k_ hn_))⟩)) (below_size (by repeat (first | (with_reducible first | exact HB.out | apply pa_ | apply pn_ | apply pd_ | refine below_set ?_ GE313.out | refine below_set ?_ GE314.out | refine below_set ?_ GE315.out) | exact HB.out)))); have n2_ := m_ (blk_below (g := gb313) (o := .cells #[.slice A0_0 l0_0.length c0_0, .int .u32 a0_1, .int .u32 a0_2, .int .u32 a0_3, .int .i64 a0_4, .int .u32 a0_5, .slice A0_6 l0_6.length c0_6, .int .u32 a0_7, .int .u32 a0_8, .int .u32 a0_9, .int .i64 a0_10, .int .u32 a0_11, .slice A0_12 l0_12.length c0_12, .int .i64 a0_13] 47 (0, 0)) (by (with_reducible repeat (first | refine bn_ ?_ _ | refine bd_ ?_ | refine ba_ ?_ _)); exact BK313.out) hb); have n3_ := m_ (blk_below (g := gb314) (o := .cells #[.int .u32 a0_1, .int .u32 a0_2, .int .u32 a0_3, .int .i64 a0_4, .int .u32 a0_5, .slice A0_6 l0_6.length c0_6] 27 (0, 0)) (by (with_reducible repeat (first | refine bn_ ?_ _ | refine bd_ ?_ | refine ba_ ?_ _)); exact BK314.out) hb); have n4_ := m_ (blk_below (g := gb315) (o := .cells #[.int .u32 a0_7, .int .u32 a0_8, .int .u32 a0_9, .int .i64 a0_10, .int .u32 a0_11, .slice A0_12 l0_12.length c0_12] 27 (0, 0)) (by (with_reducible repeat (first | refine bn_ ?_ _ | refine bd_ ?_ | refine ba_ ?_ _)); exact BK315.out) hb); have n5_ := m_ (below_step (by repeat (first | (with_reducible first | exact HB.out | apply pa_ | apply pn_ | apply pd_ | refine below_set ?_ GE313.out | refine below_set ?_ GE314.out | refine below_set ?_ GE315.out) | exact HB.out)) hb); clear HO326; clear BK313; clear BK314; clear BK315; clear HB; have HO326 := n0_; have HO330 := n1_; have BK313 := n2_; have BK314 := n3_; have BK315 := n4_; have HB := n5_; clear n0_ n1_ n2_ n3_ n4_ n5_; (try clear hb); (try clear hb2); (try clear hk); (try clear hi); (try clear ho0); have hnb58 := NB315_313.out; have hnc58 := NB313_315.out; have hcz59_0 : w57.cell? ⟨gb315, 0, none⟩ = some (.int .u32 a0_7) := (bc_ BK315.out 0).trans rfl; have hcz59_1 : w57.cell? ⟨gb315, 1, none⟩ = some (.int .u32 a0_8) := (bc_ BK315.out 1).trans rfl; have hcz59_2 : w57.cell? ⟨gb315, 2, none⟩ = some (.int .u32 a0_9) := (bc_ BK315.out 2).trans rfl; have hcz59_3 : w57.cell? ⟨gb315, 3, none⟩ = some (.int .i64 a0_10) := (bc_ BK315.out 3).trans rfl; have hcz59_4 : w57.cell? ⟨gb315, 4, none⟩ = some (.int .u32 a0_11) := (bc_ BK315.out 4).trans rfl; have hcz59_5 : w57.cell? ⟨gb315, 5, none⟩ = some (.slice A0_12 l0_12.length c0_12) := (bc_ BK315.out 5).trans rfl; have hfz59_0 := bf_ BK315.out 0; have hfz59_1 := bf_ BK315.out 1; have hfz59_2 := bf_ BK315.out 2; have hfz59_3 := bf_ BK315.out 3; have hfz59_4 := bf_ BK315.out 4; have hfz59_5 := bf_ BK315.out 5) | ((with_reducible refine gate_callee (f := 13) rfl ?_); refine goesL_ (some 87) rfl rfl Try.func13 (by kernel_rfl) rfl #[.slice A0_0 l0_0.length c0_0, .int .u32 a0_7, .int .u32 a0_8, .int .u32 a0_9] rfl (by (try simp only [List.map_toArray, List.map_cons, List.map_nil]); first | done | rfl | (simp only [List.length_drop, List.length_take]; rfl)) ?_; (with_reducible refine (flow_Del.calls (fun k_ => k_ < w.heap.size) _ _ l0_0 a0_7 a0_8 a0_9 t332 t335 _ ?side1 A44.out).mono ?_); (case side1 => exact Kd.V_mk HC0_0.out (Kd.F_below (Kd.C_F k27_heap HR0_0.out) (by repeat (first | (with_reducible first | exact HB.out | apply pa_ | apply pn_ | apply pd_ | refine below_set ?_ GE313.out | refine below_set ?_ GE314.out | refine below_set ?_ GE315.out) | exact HB.out)))); rintro e w60 ⟨v333, rfl, ho0, hb⟩; refine ⟨_, rfl, ?_⟩; have n0_ := m_ (Kd.V_below (by (with_reducible repeat (first | apply Kd.V_alloc | apply Kd.V_drewN | apply Kd.V_drew)); exact HO326.out) hb); have n1_ := m_ (Kd.V_below (by (with_reducible repeat (first | apply Kd.V_alloc | apply Kd.V_drewN | apply Kd.V_drew)); exact HO330.out) hb); have n2_ := m_ (Kd.V_lower (Kd.V_mono (ok' := fun k_ => k_ ≠ gb313 ∧ k_ ≠ gb314 ∧ k_ ≠ gb315) ho0 (fun k_ hk_ => ⟨Or.elim hk_ (fun hs_ => fun e_ => Nat.not_le.2 hs_ (by rw [e_]; exact GW313.out)) (fun hn_ => (Kd.freshB (g := gb313) (o := .cells #[.slice A0_0 l0_0.length c0_0, .int .u32 a0_1, .int .u32 a0_2, .int .u32 a0_3, .int .i64 a0_4, .int .u32 a0_5, .slice A0_6 l0_6.length c0_6, .int .u32 a0_7, .int .u32 a0_8, .int .u32 a0_9, .int .i64 a0_10, .int .u32 a0_11, .slice A0_12 l0_12.length c0_12, .int .i64 a0_13] 47 (0, 0)) (by (with_reducible repeat (first | refine bn_ ?_ _ | refine bd_ ?_ | refine ba_ ?_ _)); exact BK313.out) k_ hn_)), Or.elim hk_ (fun hs_ => fun e_ => Nat.not_le.2 hs_ (by rw [e_]; exact GW314.out)) (fun hn_ => (Kd.freshB (g := gb314) (o := .cells #[.int .u32 a0_1, .int .u32 a0_2, .int .u32 a0_3, .int .i64 a0_4, .int .u32 a0_5, .slice A0_6 l0_6.length c0_6] 27 (0, 0)) (by (with_reducible repeat (first | refine bn_ ?_ _ | refine bd_ ?_ | refine ba_ ?_ _)); exact BK314.out) k_ hn_)), Or.elim hk_ (fun hs_ => fun e_ => Nat.not_le.2 hs_ (by rw [e_]; exact GW315.out)) (fun hn_ => (Kd.freshB (g := gb315) (o := .cells #[.int .u32 a0_7, .int .u32 a0_8, .int .u32 a0_9, .int .i64 a0_10, .int .u32 a0_11, .slice A0_12 l0_12.length c0_12] 27 (0, 0)) (by (with_reducible repeat (first | refine bn_ ?_ _ | refine bd_ ?_ | refine ba_ ?_ _)); exact BK315.out) k_ hn_))⟩)) (below_size (by repeat (first | (with_reducible first | exact HB.out | apply pa_ | apply pn_ | apply pd_ | refine below_set ?_ GE313.out | refine below_set ?_ GE314.out | refine below_set ?_ GE315.out) | exact HB.out)))); have n3_ := m_ (blk_below (g := gb313) (o := .cells #[.slice A0_0 l0_0.length c0_0, .int .u32 a0_1, .int .u32 a0_2, .int .u32 a0_3, .int .i64 a0_4, .int .u32 a0_5, .slice A0_6 l0_6.length c0_6, .int .u32 a0_7, .int .u32 a0_8, .int .u32 a0_9, .int .i64 a0_10, .int .u32 a0_11, .slice A0_12 l0_12.length c0_12, .int .i64 a0_13] 47 (0, 0)) (by (with_reducible repeat (first | refine bn_ ?_ _ | refine bd_ ?_ | refine ba_ ?_ _)); exact BK313.out) hb); have n4_ := m_ (blk_below (g := gb314) (o := .cells #[.int .u32 a0_1, .int .u32 a0_2, .int .u32 a0_3, .int .i64 a0_4, .int .u32 a0_5, .slice A0_6 l0_6.length c0_6] 27 (0, 0)) (by (with_reducible repeat (first | refine bn_ ?_ _ | refine bd_ ?_ | refine ba_ ?_ _)); exact BK314.out) hb); have n5_ := m_ (blk_below (g := gb315) (o := .cells #[.int .u32 a0_7, .int .u32 a0_8, .int .u32 a0_9, .int .i64 a0_10, .int .u32 a0_11, .slice A0_12 l0_12.length c0_12] 27 (0, 0)) (by (with_reducible repeat (first | refine bn_ ?_ _ | refine bd_ ?_ | refine ba_ ?_ _)); exact BK315.out) hb); have n6_ := m_ (below_step (by repeat (first | (with_reducible first | exact HB.out | apply pa_ | apply pn_ | apply pd_ | refine below_set ?_ GE313.out | refine below_set ?_ GE314.out | refine below_set ?_ GE315.out) | exact HB.out)) hb); clear HO326; clear HO330; clear BK313; clear BK314; clear BK315; clear HB; have HO326 := n0_; have HO330 := n1_; have HO334 := n2_; have BK313 := n3_; have BK314 := n4_; have BK315 := n5_; have HB := n6_; clear n0_ n1_ n2_ n3_ n4_ n5_ n6_; (try clear hb); (try clear hb2); (try clear hk); (try clear hi); (try clear ho0); have hcz61_0 : w60.cell? ⟨gb315, 0, none⟩ = some (.int .u32 a0_7) := (bc_ BK315.out 0).trans rfl; have hcz61_1 : w60.cell? ⟨gb315, 1, none⟩ = some (.int .u32 a0_8) := (bc_ BK315.out 1).trans rfl; have hcz61_2 : w60.cell? ⟨gb315, 2, none⟩ = some (.int .u32 a0_9) := (bc_ BK315.out 2).trans rfl; have hcz61_3 : w60.cell? ⟨gb315, 3, none⟩ = some (.int .i64 a0_10) := (bc_ BK315.out 3).trans rfl; have hcz61_4 : w60.cell? ⟨gb315, 4, none⟩ = some (.int .u32 a0_11) := (bc_ BK315.out 4).trans rfl; have hcz61_5 : w60.cell? ⟨gb315, 5, none⟩ = some (.slice A0_12 l0_12.length c0_12) := (bc_ BK315.out 5).trans rfl; have hfz61_0 := bf_ BK315.out 0; have hfz61_1 := bf_ BK315.out 1; have hfz61_2 := bf_ BK315.out 2; have hfz61_3 := bf_ BK315.out 3; have hfz61_4 := bf_ BK315.out 4; have hfz61_5 := bf_ BK315.out 5) | ((with_reducible refine gate_callee (f := 21) rfl ?_); refine goesL_ (some 98) rfl rfl Try.func21 (by kernel_rfl) rfl #[.slice A0_0 l0_0.length c0_0, .int .u32 a0_7, .int .u32 a0_8, .int .u32 a0_9] rfl (by (try simp only [List.map_toArray, List.map_cons, List.map_nil]); first | done | rfl | (simp only [List.length_drop, List.length_take]; rfl)) ?_; (with_reducible refine (stolonref15_Del.calls kj24 (fun k_ => k_ < w.heap.size) _ _ l0_0 a0_7 a0_8 a0_9 t336 t339 _ ?side1 A45.out).mono ?_); (case side1 => exact Kd.V_mk HC0_0.out (Kd.F_below (Kd.C_F k27_heap HR0_0.out) (by repeat (first | (with_reducible first | exact HB.out | apply pa_ | apply pn_ | apply pd_ | refine below_set ?_ GE313.out | refine below_set ?_ GE314.out | refine below_set ?_ GE315.out) | exact HB.out)))); rintro e w62 ⟨v337, rfl, ho0, hb⟩; refine ⟨_, rfl, ?_⟩; have n0_ := m_ (Kd.V_below (by (with_reducible repeat (first | apply Kd.V_alloc | apply Kd.V_drewN | apply Kd.V_drew)); exact HO326.out) hb); have n1_ := m_ (Kd.V_below (by (with_reducible repeat (first | apply Kd.V_alloc | apply Kd.V_drewN | apply Kd.V_drew)); exact HO330.out) hb); have n2_ := m_ (Kd.V_below (by (with_reducible repeat (first | apply Kd.V_alloc | apply Kd.V_drewN | apply Kd.V_drew)); exact HO334.out) hb); have n3_ := m_ (Kd.V_lower (Kd.V_mono (ok' := fun k_ => k_ ≠ gb313 ∧ k_ ≠ gb314 ∧ k_ ≠ gb315) ho0 (fun k_ hk_ => ⟨Or.elim hk_ (fun hs_ => fun e_ => Nat.not_le.2 hs_ (by rw [e_]; exact GW313.out)) (fun hn_ => (Kd.freshB (g := gb313) (o := .cells #[.slice A0_0 l0_0.length c0_0, .int .u32 a0_1, .int .u32 a0_2, .int .u32 a0_3, .int .i64 a0_4, .int .u32 a0_5, .slice A0_6 l0_6.length c0_6, .int .u32 a0_7, .int .u32 a0_8, .int .u32 a0_9, .int .i64 a0_10, .int .u32 a0_11, .slice A0_12 l0_12.length c0_12, .int .i64 a0_13] 47 (0, 0)) (by (with_reducible repeat (first | refine bn_ ?_ _ | refine bd_ ?_ | refine ba_ ?_ _)); exact BK313.out) k_ hn_)), Or.elim hk_ (fun hs_ => fun e_ => Nat.not_le.2 hs_ (by rw [e_]; exact GW314.out)) (fun hn_ => (Kd.freshB (g := gb314) (o := .cells #[.int .u32 a0_1, .int .u32 a0_2, .int .u32 a0_3, .int .i64 a0_4, .int .u32 a0_5, .slice A0_6 l0_6.length c0_6] 27 (0, 0)) (by (with_reducible repeat (first | refine bn_ ?_ _ | refine bd_ ?_ | refine ba_ ?_ _)); exact BK314.out) k_ hn_)), Or.elim hk_ (fun hs_ => fun e_ => Nat.not_le.2 hs_ (by rw [e_]; exact GW315.out)) (fun hn_ => (Kd.freshB (g := gb315) (o := .cells #[.int .u32 a0_7, .int .u32 a0_8, .int .u32 a0_9, .int .i64 a0_10, .int .u32 a0_11, .slice A0_12 l0_12.length c0_12] 27 (0, 0)) (by (with_reducible repeat (first | refine bn_ ?_ _ | refine bd_ ?_ | refine ba_ ?_ _)); exact BK315.out) k_ hn_))⟩)) (below_size (by repeat (first | (with_reducible first | exact HB.out | apply pa_ | apply pn_ | apply pd_ | refine below_set ?_ GE313.out | refine below_set ?_ GE314.out | refine below_set ?_ GE315.out) | exact HB.out)))); have n4_ := m_ (blk_below (g := gb313) (o := .cells #[.slice A0_0 l0_0.length c0_0, .int .u32 a0_1, .int .u32 a0_2, .int .u32 a0_3, .int .i64 a0_4, .int .u32 a0_5, .slice A0_6 l0_6.length c0_6, .int .u32 a0_7, .int .u32 a0_8, .int .u32 a0_9, .int .i64 a0_10, .int .u32 a0_11, .slice A0_12 l0_12.length c0_12, .int .i64 a0_13] 47 (0, 0)) (by (with_reducible repeat (first | refine bn_ ?_ _ | refine bd_ ?_ | refine ba_ ?_ _)); exact BK313.out) hb); have n5_ := m_ (blk_below (g := gb314) (o := .cells #[.int .u32 a0_1, .int .u32 a0_2, .int .u32 a0_3, .int .i64 a0_4, .int .u32 a0_5, .slice A0_6 l0_6.length c0_6] 27 (0, 0)) (by (with_reducible repeat (first | refine bn_ ?_ _ | refine bd_ ?_ | refine ba_ ?_ _)); exact BK314.out) hb); have n6_ := m_ (blk_below (g := gb315) (o := .cells #[.int .u32 a0_7, .int .u32 a0_8, .int .u32 a0_9, .int .i64 a0_10, .int .u32 a0_11, .slice A0_12 l0_12.length c0_12] 27 (0, 0)) (by (with_reducible repeat (first | refine bn_ ?_ _ | refine bd_ ?_ | refine ba_ ?_ _)); exact BK315.out) hb); have n7_ := m_ (below_step (by repeat (first | (with_reducible first | exact HB.out | apply pa_ | apply pn_ | apply pd_ | refine below_set ?_ GE313.out | refine below_set ?_ GE314.out | refine below_set ?_ GE315.out) | exact HB.out)) hb); clear HO326; clear HO330; clear HO334; clear BK313; clear BK314; clear BK315; clear HB; have HO326 := n0_; have HO330 := n1_; have HO334 := n2_; have HO338 := n3_; have BK313 := n4_; have BK314 := n5_; have BK315 := n6_; have HB := n7_; clear n0_ n1_ n2_ n3_ n4_ n5_ n6_ n7_; (try clear hb); (try clear hb2); (try clear hk); (try clear hi); (try clear ho0); obtain ⟨Ao63, co63, eo63⟩ := Kd.V_slice HO326.out; subst eo63; obtain ⟨Ao64, co64, eo64⟩ := Kd.V_slice HO330.out; subst eo64) | (go_at_call 11; (with_reducible refine (stolonref15_Rows.calls kj24 _ _ t324 _ _ t328 true _ ?side1 ?side2 ?side3 ?side4 A47.out).mono ?_); (case side1 => repeat (first | exact (Kd.V_reads' HO326.out).2.2 | (with_reducible refine Kd.C_alloc ?_ _) | (with_reducible refine Kd.C_drewN ?_ _) | (with_reducible refine Kd.C_drew ?_))); (case side2 => exact (Kd.V_reads' HO326.out).2.1); (case side3 => repeat (first | exact (Kd.V_reads' HO330.out).2.2 | (with_reducible refine Kd.C_alloc ?_ _) | (with_reducible refine Kd.C_drewN ?_ _) | (with_reducible refine Kd.C_drew ?_))); (case side4 => exact (Kd.V_reads' HO330.out).2.1); rintro e w65 ⟨rfl, hb⟩; have n0_ := m_ (Kd.V_below (by (with_reducible repeat (first | apply Kd.V_alloc | apply Kd.V_drewN | apply Kd.V_drew)); exact HO326.out) hb); have n1_ := m_ (Kd.V_below (by (with_reducible repeat (first | apply Kd.V_alloc | apply Kd.V_drewN | apply Kd.V_drew)); exact HO330.out) hb); have n2_ := m_ (Kd.V_below (by (with_reducible repeat (first | apply Kd.V_alloc | apply Kd.V_drewN | apply Kd.V_drew)); exact HO334.out) hb); have n3_ := m_ (Kd.V_below (by (with_reducible repeat (first | apply Kd.V_alloc | apply Kd.V_drewN | apply Kd.V_drew)); exact HO338.out) hb); have n4_ := m_ (blk_below (g := gb313) (o := .cells #[.slice A0_0 l0_0.length c0_0, .int .u32 a0_1, .int .u32 a0_2, .int .u32 a0_3, .int .i64 a0_4, .int .u32 a0_5, .slice A0_6 l0_6.length c0_6, .int .u32 a0_7, .int .u32 a0_8, .int .u32 a0_9, .int .i64 a0_10, .int .u32 a0_11, .slice A0_12 l0_12.length c0_12, .int .i64 a0_13] 47 (0, 0)) (by (with_reducible repeat (first | refine bn_ ?_ _ | refine bd_ ?_ | refine ba_ ?_ _)); exact BK313.out) hb); have n5_ := m_ (blk_below (g := gb314) (o := .cells #[.int .u32 a0_1, .int .u32 a0_2, .int .u32 a0_3, .int .i64 a0_4, .int .u32 a0_5, .slice A0_6 l0_6.length c0_6] 27 (0, 0)) (by (with_reducible repeat (first | refine bn_ ?_ _ | refine bd_ ?_ | refine ba_ ?_ _)); exact BK314.out) hb); have n6_ := m_ (blk_below (g := gb315) (o := .cells #[.int .u32 a0_7, .int .u32 a0_8, .int .u32 a0_9, .int .i64 a0_10, .int .u32 a0_11, .slice A0_12 l0_12.length c0_12] 27 (0, 0)) (by (with_reducible repeat (first | refine bn_ ?_ _ | refine bd_ ?_ | refine ba_ ?_ _)); exact BK315.out) hb); have n7_ := m_ (below_step (by repeat (first | (with_reducible first | exact HB.out | apply pa_ | apply pn_ | apply pd_ | refine below_set ?_ GE313.out | refine below_set ?_ GE314.out | refine below_set ?_ GE315.out) | exact HB.out)) hb); clear HO326; clear HO330; clear HO334; clear HO338; clear BK313; clear BK314; clear BK315; clear HB; have HO326 := n0_; have HO330 := n1_; have HO334 := n2_; have HO338 := n3_; have BK313 := n4_; have BK314 := n5_; have BK315 := n6_; have HB := n7_; clear n0_ n1_ n2_ n3_ n4_ n5_ n6_ n7_; (try clear hb); (try clear hb2); (try clear hk); (try clear hi); obtain ⟨Ao66, co66, eo66⟩ := Kd.V_slice HO334.out; subst eo66; obtain ⟨Ao67, co67, eo67⟩ := Kd.V_slice HO338.out; subst eo67) | (go_at_call 11; (with_reducible refine (stolonref15_Rows.calls kj24 _ _ t332 _ _ t336 true _ ?side1 ?side2 ?side3 ?side4 A50.out).mono ?_); (case side1 => repeat (first | exact (Kd.V_reads' HO334.out).2.2 | (with_reducible refine Kd.C_alloc ?_ _) | (with_reducible refine Kd.C_drewN ?_ _) | (with_reducible refine Kd.C_drew ?_))); (case side2 => exact (Kd.V_reads' HO334.out).2.1); (case side3 => repeat (first | exact (Kd.V_reads' HO338.out).2.2 | (with_reducible refine Kd.C_alloc ?_ _) | (with_reducible refine Kd.C_drewN ?_ _) | (with_reducible refine Kd.C_drew ?_))); (case side4 => exact (Kd.V_reads' HO338.out).2.1); rintro e w68 ⟨rfl, hb⟩; have n0_ := m_ (Kd.V_below (by (with_reducible repeat (first | apply Kd.V_alloc | apply Kd.V_drewN | apply Kd.V_drew)); exact HO326.out) hb); have n1_ := m_ (Kd.V_below (by (with_reducible repeat (first | apply Kd.V_alloc | apply Kd.V_drewN | apply Kd.V_drew)); exact HO330.out) hb); have n2_ := m_ (Kd.V_below (by (with_reducible repeat (first | apply Kd.V_alloc | apply Kd.V_drewN | apply Kd.V_drew)); exact HO334.out) hb); have n3_ := m_ (Kd.V_below (by (with_reducible repeat (first | apply Kd.V_alloc | apply Kd.V_drewN | apply Kd.V_drew)); exact HO338.out) hb); have n4_ := m_ (blk_below (g := gb313) (o := .cells #[.slice A0_0 l0_0.length c0_0, .int .u32 a0_1, .int .u32 a0_2, .int .u32 a0_3, .int .i64 a0_4, .int .u32 a0_5, .slice A0_6 l0_6.length c0_6, .int .u32 a0_7, .int .u32 a0_8, .int .u32 a0_9, .int .i64 a0_10, .int .u32 a0_11, .slice A0_12 l0_12.length c0_12, .int .i64 a0_13] 47 (0, 0)) (by (with_reducible repeat (first | refine bn_ ?_ _ | refine bd_ ?_ | refine ba_ ?_ _)); exact BK313.out) hb); have n5_ := m_ (blk_below (g := gb314) (o := .cells #[.int .u32 a0_1, .int .u32 a0_2, .int .u32 a0_3, .int .i64 a0_4, .int .u32 a0_5, .slice A0_6 l0_6.length c0_6] 27 (0, 0)) (by (with_reducible repeat (first | refine bn_ ?_ _ | refine bd_ ?_ | refine ba_ ?_ _)); exact BK314.out) hb); have n6_ := m_ (blk_below (g := gb315) (o := .cells #[.int .u32 a0_7, .int .u32 a0_8, .int .u32 a0_9, .int .i64 a0_10, .int .u32 a0_11, .slice A0_12 l0_12.length c0_12] 27 (0, 0)) (by (with_reducible repeat (first | refine bn_ ?_ _ | refine bd_ ?_ | refine ba_ ?_ _)); exact BK315.out) hb); have n7_ := m_ (below_step (by repeat (first | (with_reducible first | exact HB.out | apply pa_ | apply pn_ | apply pd_ | refine below_set ?_ GE313.out | refine below_set ?_ GE314.out | refine below_set ?_ GE315.out) | exact HB.out)) hb); clear HO326; clear HO330; clear HO334; clear HO338; clear BK313; clear BK314; clear BK315; clear HB; have HO326 := n0_; have HO330 := n1_; have HO334 := n2_; have HO338 := n3_; have BK313 := n4_; have BK314 := n5_; have BK315 := n6_; have HB := n7_; clear n0_ n1_ n2_ n3_ n4_ n5_ n6_ n7_; (try clear hb); (try clear hb2); (try clear hk); (try clear hi)))
            go_ret
            exact ⟨by first | rfl | (simp [errW_none, errW_some] <;> rfl) | (simp [*, errW_none, errW_some] <;> rfl), by repeat (first | (with_reducible first | exact HB.out | apply pa_ | apply pn_ | apply pd_ | refine below_set ?_ GE313.out | refine below_set ?_ GE314.out | refine below_set ?_ GE315.out) | exact HB.out)⟩
           ·replace c51 := Bool.eq_false_iff.mpr c51
            subst c51
            have H1 : (some false) = some r := by rw [if_neg (show ¬ (false = true) by decide)] at H; exact H
            clear H
            have H := H1
            clear H1
            exact absurd ((Option.some.inj H).trans hTrue.out) (by simp)
          ·rw [if_neg c49] at H
           have c49b0 : (t327 == t331) = false := beq_eq_false_iff_ne.mpr c49
           have c49b1 : (t327 != t331) = true := bne_iff_ne.mpr c49
           exact absurd ((Option.some.inj H).trans hTrue.out) (by simp)
         ·replace c48 := Bool.eq_false_iff.mpr c48
          subst c48
          have H1 : (some false) = some r := by rw [if_neg (show ¬ (false = true) by decide)] at H; exact H
          clear H
          have H := H1
          clear H1
          exact absurd ((Option.some.inj H).trans hTrue.out) (by simp)
        ·replace c46 := Bool.eq_false_iff.mpr c46
         subst c46
         have H1 : (some false) = some r := by rw [if_neg (show ¬ (false = true) by decide)] at H; exact H
         clear H
         have H := H1
         clear H1
         exact absurd ((Option.some.inj H).trans hTrue.out) (by simp)
       ·replace c41 := Bool.eq_false_iff.mpr c41
        subst c41
        have H1 : (some t316) = some r := by rw [if_neg (show ¬ (false = true) by decide)] at H; exact H
        clear H
        have H := H1
        clear H1
        obtain rfl := Option.some.inj H
        go_wp2
        go_ret
        exact ⟨by first | rfl | (simp [errW_none, errW_some] <;> rfl) | (simp [*, errW_none, errW_some] <;> rfl), by repeat (first | (with_reducible first | exact HB.out | apply pa_ | apply pn_ | apply pd_ | refine below_set ?_ GE313.out | refine below_set ?_ GE314.out | refine below_set ?_ GE315.out) | exact HB.out)⟩

end Go.Proofs.Yteibolilodgjnaa.P

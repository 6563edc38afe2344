/- For each Go function a Lean function, and the proof that a call comes to what it tells: made by program out of the translation (the kit's print, with texts by hand put in). No condition. -/
import Derived.Test.YtboonfidioombaaSq
import Derived.Test.YtboonfidioombaaPx0
import Derived.Test.YtboonfidioombaaPx21
import Derived.Test.YtboonfidioombaaPx22
namespace Go.Proofs.Ytboonfidioombaa.P
open Go.RowKit Go.Proofs.Ytboonfidioombaa.HRows Go.Proofs.YtboonfidioombaaW.PrintWords Go.Proofs.YtboonfidioombaaW.PrintLast Go.Proofs.YtboonfidioombaaW.PrintMore
attribute [local go_sem] max2_int min2_int max_two min_two max_three min_three max_four min_four
set_option linter.unusedVariables false
set_option linter.unusedSimpArgs false
mutual
def stolonref16_Encode.j0 : Nat → List Int → Bool → Int → Int → Int → Int → Int → Int → Int → List (S59) → Int → Bool → List Int → Int → Int → Int → Int → Int → List (S59) → Option (List Int × Int)
 | 0, _, _, _, _, _, _, _, _, _, _, _, _, _, _, _, _, _, _, _ => none
 | k + 1, x5, x29, x322000, x322001, x322002, x322003, x322004, x322005, x322006, x322007, x322008, x322009, x322010, x333000, x333001, x333002, x333003, x333004, x333005 => if x29 = true then ((stolonref16_number.f x333000 4).bind fun t333 => (if x5.length + t333.length < 140737488355328 then ((some (x5 ++ t333 : List Int)).bind fun y336 => ((stolonref16_number.f x333001 4).bind fun t339 => (if y336.length + t339.length < 140737488355328 then ((some (y336 ++ t339 : List Int)).bind fun y342 => ((stolonref16_number.f x333002 4).bind fun t345 => (if y342.length + t345.length < 140737488355328 then (stolonref16_Encode.j1 k (y342 ++ t345) x322000 x322001 x322002 x322003 x322004 x322005 x322006 x322007 x322008 x322009 x322010 x333000 x333001 x333002 x333003 x333004 x333005) else (none)))) else (none)))) else (none))) else (stolonref16_Encode.j1 k x5 x322000 x322001 x322002 x322003 x322004 x322005 x322006 x322007 x322008 x322009 x322010 x333000 x333001 x333002 x333003 x333004 x333005)
def stolonref16_Encode.j1 : Nat → List Int → Int → Int → Int → Int → Int → Int → Int → List (S59) → Int → Bool → List Int → Int → Int → Int → Int → Int → List (S59) → Option (List Int × Int)
 | 0, _, _, _, _, _, _, _, _, _, _, _, _, _, _, _, _, _, _ => none
 | k + 1, x5, x322000, x322001, x322002, x322003, x322004, x322005, x322006, x322007, x322008, x322009, x322010, x333000, x333001, x333002, x333003, x333004, x333005 => if x322000 = 1 then (if x333003 ≥ 0 then (stolonref16_Encode.j2 k x5 ((x333003) % 4294967296) x322000 x322001 x322002 x322003 x322004 x322005 x322006 x322007 x322008 x322009 x322010 x333000 x333001 x333002 x333003 x333004 x333005) else (stolonref16_Encode.j2 k x5 65535 x322000 x322001 x322002 x322003 x322004 x322005 x322006 x322007 x322008 x322009 x322010 x333000 x333001 x333002 x333003 x333004 x333005)) else (stolonref16_Encode.j4 k x5 x322000 x322001 x322002 x322003 x322004 x322005 x322006 x322007 x322008 x322009 x322010)
def stolonref16_Encode.j4 : Nat → List Int → Int → Int → Int → Int → Int → Int → Int → List (S59) → Int → Bool → List Int → Option (List Int × Int)
 | 0, _, _, _, _, _, _, _, _, _, _, _, _ => none
 | k + 1, x5, x322000, x322001, x322002, x322003, x322004, x322005, x322006, x322007, x322008, x322009, x322010 => if x322000 = 7 then ((some (([(x322008) % 256, 0] : List Int) : List Int)).bind fun y373 => (if x5.length + y373.length < 140737488355328 then ((some (x5 ++ y373 : List Int)).bind fun y376 => (if x322009 = true then (if 0 ≤ (wrap64 ((y376.length : Int) - 1)) then (if (wrap64 ((y376.length : Int) - 1)) < (y376.length : Int) then ((some (y376.set ((wrap64 ((y376.length : Int) - 1)) : Int).toNat 1 : List Int)).bind fun y379 => (if x322000 = 8 then (if y379.length < 140737488355328 then ((some (y379 ++ [(x322008) % 256] : List Int)).bind fun y380 => (if y380.length + x322010.length < 140737488355328 then ((some (y380 ++ x322010 : List Int)).bind fun y383 => ((stolonref16_number.f ((wrap64 ((y383.length : Int) + 2)) % 4294967296) 2).bind fun t386 => (if t386.length + y383.length < 140737488355328 then (some ((t386 ++ y383), 0)) else (none)))) else (none))) else (none)) else (if x322000 = 9 then (if y379.length < 140737488355328 then ((some (y379 ++ [(x322008) % 256] : List Int)).bind fun y392 => (if y392.length + x322010.length < 140737488355328 then ((some (y392 ++ x322010 : List Int)).bind fun y395 => ((stolonref16_number.f ((wrap64 ((y395.length : Int) + 2)) % 4294967296) 2).bind fun t398 => (if t398.length + y395.length < 140737488355328 then (some ((t398 ++ y395), 0)) else (none)))) else (none))) else (none)) else ((stolonref16_number.f ((wrap64 ((y376.length : Int) + 2)) % 4294967296) 2).bind fun t404 => (if t404.length + y379.length < 140737488355328 then (some ((t404 ++ y379), 0)) else (none)))))) else (none)) else (none)) else (if x322000 = 8 then (if y376.length < 140737488355328 then ((some (y376 ++ [(x322008) % 256] : List Int)).bind fun y410 => (if y410.length + x322010.length < 140737488355328 then ((some (y410 ++ x322010 : List Int)).bind fun y413 => ((stolonref16_number.f ((wrap64 ((y413.length : Int) + 2)) % 4294967296) 2).bind fun t416 => (if t416.length + y413.length < 140737488355328 then (some ((t416 ++ y413), 0)) else (none)))) else (none))) else (none)) else (if x322000 = 9 then (if y376.length < 140737488355328 then ((some (y376 ++ [(x322008) % 256] : List Int)).bind fun y422 => (if y422.length + x322010.length < 140737488355328 then ((some (y422 ++ x322010 : List Int)).bind fun y425 => ((stolonref16_number.f ((wrap64 ((y425.length : Int) + 2)) % 4294967296) 2).bind fun t428 => (if t428.length + y425.length < 140737488355328 then (some ((t428 ++ y425), 0)) else (none)))) else (none))) else (none)) else ((stolonref16_number.f ((wrap64 ((y376.length : Int) + 2)) % 4294967296) 2).bind fun t434 => (if t434.length + y376.length < 140737488355328 then (some ((t434 ++ y376), 0)) else (none))))))) else (none))) else (if x322000 = 8 then (if x5.length < 140737488355328 then ((some (x5 ++ [(x322008) % 256] : List Int)).bind fun y440 => (if y440.length + x322010.length < 140737488355328 then ((some (y440 ++ x322010 : List Int)).bind fun y443 => ((stolonref16_number.f ((wrap64 ((y443.length : Int) + 2)) % 4294967296) 2).bind fun t446 => (if t446.length + y443.length < 140737488355328 then (some ((t446 ++ y443), 0)) else (none)))) else (none))) else (none)) else (if x322000 = 9 then (if x5.length < 140737488355328 then ((some (x5 ++ [(x322008) % 256] : List Int)).bind fun y452 => (if y452.length + x322010.length < 140737488355328 then ((some (y452 ++ x322010 : List Int)).bind fun y455 => ((stolonref16_number.f ((wrap64 ((y455.length : Int) + 2)) % 4294967296) 2).bind fun t458 => (if t458.length + y455.length < 140737488355328 then (some ((t458 ++ y455), 0)) else (none)))) else (none))) else (none)) else ((stolonref16_number.f ((wrap64 ((x5.length : Int) + 2)) % 4294967296) 2).bind fun t464 => (if t464.length + x5.length < 140737488355328 then (some ((t464 ++ x5), 0)) else (none)))))
def stolonref16_Encode.j2 : Nat → List Int → Int → Int → Int → Int → Int → Int → Int → Int → List (S59) → Int → Bool → List Int → Int → Int → Int → Int → Int → List (S59) → Option (List Int × Int)
 | 0, _, _, _, _, _, _, _, _, _, _, _, _, _, _, _, _, _, _, _ => none
 | k + 1, x5, x7, x322000, x322001, x322002, x322003, x322004, x322005, x322006, x322007, x322008, x322009, x322010, x333000, x333001, x333002, x333003, x333004, x333005 => (stolonref16_number.f x7 2).bind fun t351 => (if x5.length + t351.length < 140737488355328 then ((some (x5 ++ t351 : List Int)).bind fun y354 => ((stolonref16_number.f x333004 4).bind fun t357 => (if y354.length + t357.length < 140737488355328 then ((some (y354 ++ t357 : List Int)).bind fun y360 => ((stolonref16_number.f (((x333005.length : Int)) % 4294967296) 2).bind fun t363 => (if y360.length + t363.length < 140737488355328 then (stolonref16_Encode.l0 k (y360 ++ t363) 0 x322000 x322001 x322002 x322003 x322004 x322005 x322006 x322007 x322008 x322009 x322010 x333000 x333001 x333002 x333003 x333004 x333005) else (none)))) else (none)))) else (none))
def stolonref16_Encode.l0 : Nat → List Int → Int → Int → Int → Int → Int → Int → Int → Int → List (S59) → Int → Bool → List Int → Int → Int → Int → Int → Int → List (S59) → Option (List Int × Int)
 | 0, _, _, _, _, _, _, _, _, _, _, _, _, _, _, _, _, _, _, _ => none
 | k + 1, x5, x8, x322000, x322001, x322002, x322003, x322004, x322005, x322006, x322007, x322008, x322009, x322010, x333000, x333001, x333002, x333003, x333004, x333005 => if x8 < (x333005.length : Int) then (if 0 ≤ x8 then (if x5.length < 140737488355328 then (stolonref16_Encode.l0 k (x5 ++ [((rd_T59 x333005 x8).f0) % 256]) (wrap64 (x8 + 1)) x322000 x322001 x322002 x322003 x322004 x322005 x322006 x322007 x322008 x322009 x322010 x333000 x333001 x333002 x333003 x333004 x333005) else (none)) else (none)) else (stolonref16_Encode.j4 k x5 x322000 x322001 x322002 x322003 x322004 x322005 x322006 x322007 x322008 x322009 x322010)
end
def stolonref16_Encode.f (k : Nat) (a0_0 : Int) (a0_1 : Int) (a0_2 : Int) (a0_3 : Int) (a0_4 : Int) (a0_5 : Int) (a0_6 : Int) (l0_7 : List (S59)) (a0_8 : Int) (a0_9 : Bool) (l0_10 : List Int) : Option (List Int × Int) := (stolonref16_Right.f k a0_0 a0_1 a0_2 a0_3 a0_4 a0_5 a0_6 l0_7 a0_8 a0_9 l0_10).bind fun t322 => (if t322 = true then ((some (([a0_0] : List Int) : List Int)).bind fun y323 => ((stolonref16_number.f a0_1 4).bind fun t326 => (if y323.length + t326.length < 140737488355328 then ((some (y323 ++ t326 : List Int)).bind fun y329 => (if a0_0 = 1 then (stolonref16_Encode.j0 k y329 true a0_0 a0_1 a0_2 a0_3 a0_4 a0_5 a0_6 l0_7 a0_8 a0_9 l0_10 a0_2 a0_3 a0_4 a0_5 a0_6 l0_7) else (stolonref16_Encode.j0 k y329 (a0_0 == 2) a0_0 a0_1 a0_2 a0_3 a0_4 a0_5 a0_6 l0_7 a0_8 a0_9 l0_10 a0_2 a0_3 a0_4 a0_5 a0_6 l0_7))) else (none)))) else (some (([] : List Int), 1)))
def stolonref16_Encode.T4 : Bool × List (List Nat × List Nat) := (true, [([], []), ([0], [0]), ([1], [1]), ([], []), ([3], [3]), ([4], [4]), ([2, 5, 5], [2, 5]), ([6, 6, 0, 1, 2, 3, 4, 5, 6], [6])])
def stolonref16_Encode.B4 : List Nat := [0, 1, 3, 0, 8, 24, 63, 127]
theorem stolonref16_Encode.tab4 : rtab .any (opsOf Try.f13 4) = stolonref16_Encode.T4 := by kernel_rfl
theorem stolonref16_Encode.bits4 : waitsOk stolonref16_Encode.T4.2 stolonref16_Encode.B4 = true := by kernel_rfl
set_option maxHeartbeats 8000000 in
set_option maxRecDepth 100000 in
theorem stolonref16_Encode.calls (k : Nat) (a0_0 : Int) (a0_1 : Int) (a0_2 : Int) (a0_3 : Int) (a0_4 : Int) (a0_5 : Int) (a0_6 : Int) (A0_7 : Option Addr) (c0_7 : Nat) (l0_7 : List (S59)) (a0_8 : Int) (a0_9 : Bool) (A0_10 : Option Addr) (c0_10 : Nat) (l0_10 : List Int) (r1 : List Int) (r2 : Int) (w : World) (hr0_7 : Kd.C k59 w A0_7 l0_7.length l0_7) (hc0_7 : l0_7.length ≤ c0_7) (hr0_10 : Kd.C (Kd.int .u8) w A0_10 l0_10.length l0_10) (hc0_10 : l0_10.length ≤ c0_10) (h : stolonref16_Encode.f k a0_0 a0_1 a0_2 a0_3 a0_4 a0_5 a0_6 l0_7 a0_8 a0_9 l0_10 = some (r1, r2)) :
  Calls Try.prog 13 #[.agg #[.int .u8 a0_0, .int .u32 a0_1, .int .u32 a0_2, .int .u32 a0_3, .int .u32 a0_4, .int .i64 a0_5, .int .u32 a0_6, .slice A0_7 l0_7.length c0_7, .int .i64 a0_8, .bool a0_9, .slice A0_10 l0_10.length c0_10]] w fun e w' => ∃ v0_ : Value, e = .returned (.tuple #[v0_, .int .i64 r2]) ∧ Kd.Q (Kd.int .u8) 5 w' w.heap.size (fun _ => True) v0_ r1 ∧ Below w.heap.size w w' := by
 have hu29 := Try.underlying29
 have hu26 := Try.underlying26
 have HR0_7 := m_ hr0_7
 have HC0_7 := m_ hc0_7
 clear hr0_7 hc0_7
 have HR0_10 := m_ hr0_10
 have HC0_10 := m_ hc0_10
 clear hr0_10 hc0_10
 have HB := m_ (Below.refl w.heap.size w)
 have H : ((stolonref16_Right.f k a0_0 a0_1 a0_2 a0_3 a0_4 a0_5 a0_6 l0_7 a0_8 a0_9 l0_10).bind fun t322 => (if t322 = true then ((some (([a0_0] : List Int) : List Int)).bind fun y323 => ((stolonref16_number.f a0_1 4).bind fun t326 => (if y323.length + t326.length < 140737488355328 then ((some (y323 ++ t326 : List Int)).bind fun y329 => (if a0_0 = 1 then (stolonref16_Encode.j0 k y329 true a0_0 a0_1 a0_2 a0_3 a0_4 a0_5 a0_6 l0_7 a0_8 a0_9 l0_10 a0_2 a0_3 a0_4 a0_5 a0_6 l0_7) else (stolonref16_Encode.j0 k y329 (a0_0 == 2) a0_0 a0_1 a0_2 a0_3 a0_4 a0_5 a0_6 l0_7 a0_8 a0_9 l0_10 a0_2 a0_3 a0_4 a0_5 a0_6 l0_7))) else (none)))) else (some (([] : List Int), 1)))) = some (r1, r2) := h
 clear h
 replace H := Option.bind_eq_some_iff.mp H
 obtain ⟨t322, A20, H⟩ := H
 replace H : (if t322 = true then ((some (([a0_0] : List Int) : List Int)).bind fun y323 => ((stolonref16_number.f a0_1 4).bind fun t326 => (if y323.length + t326.length < 140737488355328 then ((some (y323 ++ t326 : List Int)).bind fun y329 => (if a0_0 = 1 then (stolonref16_Encode.j0 k y329 true a0_0 a0_1 a0_2 a0_3 a0_4 a0_5 a0_6 l0_7 a0_8 a0_9 l0_10 a0_2 a0_3 a0_4 a0_5 a0_6 l0_7) else (stolonref16_Encode.j0 k y329 (a0_0 == 2) a0_0 a0_1 a0_2 a0_3 a0_4 a0_5 a0_6 l0_7 a0_8 a0_9 l0_10 a0_2 a0_3 a0_4 a0_5 a0_6 l0_7))) else (none)))) else (some (([] : List Int), 1))) = some (r1, r2) := H
 have A2 := m_ A20
 clear A20
 by_cases c3 : t322 = true
 ·subst c3
  have H1 : ((some (([a0_0] : List Int) : List Int)).bind fun y323 => ((stolonref16_number.f a0_1 4).bind fun t326 => (if y323.length + t326.length < 140737488355328 then ((some (y323 ++ t326 : List Int)).bind fun y329 => (if a0_0 = 1 then (stolonref16_Encode.j0 k y329 true a0_0 a0_1 a0_2 a0_3 a0_4 a0_5 a0_6 l0_7 a0_8 a0_9 l0_10 a0_2 a0_3 a0_4 a0_5 a0_6 l0_7) else (stolonref16_Encode.j0 k y329 (a0_0 == 2) a0_0 a0_1 a0_2 a0_3 a0_4 a0_5 a0_6 l0_7 a0_8 a0_9 l0_10 a0_2 a0_3 a0_4 a0_5 a0_6 l0_7))) else (none)))) = some (r1, r2) := by rw [if_pos rfl] at H; exact H
  clear H
  have H := H1
  clear H1
  obtain ⟨y323, hy323⟩ : ∃ y_ : List Int, y_ = (([a0_0] : List Int)) := ⟨_, rfl⟩
  replace H : ((stolonref16_number.f a0_1 4).bind fun t326 => (if y323.length + t326.length < 140737488355328 then ((some (y323 ++ t326 : List Int)).bind fun y329 => (if a0_0 = 1 then (stolonref16_Encode.j0 k y329 true a0_0 a0_1 a0_2 a0_3 a0_4 a0_5 a0_6 l0_7 a0_8 a0_9 l0_10 a0_2 a0_3 a0_4 a0_5 a0_6 l0_7) else (stolonref16_Encode.j0 k y329 (a0_0 == 2) a0_0 a0_1 a0_2 a0_3 a0_4 a0_5 a0_6 l0_7 a0_8 a0_9 l0_10 a0_2 a0_3 a0_4 a0_5 a0_6 l0_7))) else (none))) = some (r1, r2) := by first | (rw [hy323]; with_reducible exact H) | (have H2_ := (Option.bind_some _ _).symm.trans H; rw [hy323]; with_reducible exact H2_) | (have H2_ := (Option.bind_some _ _).symm.trans H; with_reducible exact H2_) | with_reducible exact H | (rw [hy323]; exact H) | exact H
  have Ny323 := m_ hy323
  clear hy323
  replace H := Option.bind_eq_some_iff.mp H
  obtain ⟨t326, A40, H⟩ := H
  replace H : (if y323.length + t326.length < 140737488355328 then ((some (y323 ++ t326 : List Int)).bind fun y329 => (if a0_0 = 1 then (stolonref16_Encode.j0 k y329 true a0_0 a0_1 a0_2 a0_3 a0_4 a0_5 a0_6 l0_7 a0_8 a0_9 l0_10 a0_2 a0_3 a0_4 a0_5 a0_6 l0_7) else (stolonref16_Encode.j0 k y329 (a0_0 == 2) a0_0 a0_1 a0_2 a0_3 a0_4 a0_5 a0_6 l0_7 a0_8 a0_9 l0_10 a0_2 a0_3 a0_4 a0_5 a0_6 l0_7))) else (none)) = some (r1, r2) := H
  have A4 := m_ A40
  clear A40
  by_cases c5 : y323.length + t326.length < 140737488355328
  ·rw [if_pos c5] at H
   have LMc5 := m_ c5
   clear c5
   obtain ⟨y329, hy329⟩ : ∃ y_ : List Int, y_ = (y323 ++ t326) := ⟨_, rfl⟩
   replace H : (if a0_0 = 1 then (stolonref16_Encode.j0 k y329 true a0_0 a0_1 a0_2 a0_3 a0_4 a0_5 a0_6 l0_7 a0_8 a0_9 l0_10 a0_2 a0_3 a0_4 a0_5 a0_6 l0_7) else (stolonref16_Encode.j0 k y329 (a0_0 == 2) a0_0 a0_1 a0_2 a0_3 a0_4 a0_5 a0_6 l0_7 a0_8 a0_9 l0_10 a0_2 a0_3 a0_4 a0_5 a0_6 l0_7)) = some (r1, r2) := by first | (rw [hy329]; with_reducible exact H) | (have H2_ := (Option.bind_some _ _).symm.trans H; rw [hy329]; with_reducible exact H2_) | (have H2_ := (Option.bind_some _ _).symm.trans H; with_reducible exact H2_) | with_reducible exact H | (rw [hy329]; exact H) | exact H
   have Ny329 := m_ hy329
   clear hy329
   have HC6 := m_ H
   clear H
   go_enter Try.func13, Try.ntmps13
   try go_wp2_with (first | ((with_reducible refine gate_dst (N := 1) rfl ?_); refine bx_ 1 29 #[.int .u8 a0_0, .int .u32 a0_1, .int .u32 a0_2, .int .u32 a0_3, .int .u32 a0_4, .int .i64 a0_5, .int .u32 a0_6, .slice A0_7 l0_7.length c0_7, .int .i64 a0_8, .bool a0_9, .slice A0_10 l0_10.length c0_10] ?_; intro gb321 hg w7 hbox hb; have BK321 := m_ (hbox); have GW321 := m_ ((gw_ : w.heap.size ≤ gb321)); have GE321 := m_ ((gw_ : w.heap.size ≤ gb321)); replace HB := m_ (below_step bz_ hb); clear hb hbox hg; have hcz8 := cz11_ BK321.out) | ((with_reducible refine gate_callee (f := 15) rfl ?_); refine gL_ (some 10) Try.func15 #[.agg #[.int .u8 a0_0, .int .u32 a0_1, .int .u32 a0_2, .int .u32 a0_3, .int .u32 a0_4, .int .i64 a0_5, .int .u32 a0_6, .slice A0_7 l0_7.length c0_7, .int .i64 a0_8, .bool a0_9, .slice A0_10 l0_10.length c0_10]] ?_; (with_reducible refine (stolonref16_Right.calls k a0_0 a0_1 a0_2 a0_3 a0_4 a0_5 a0_6 _ _ l0_7 a0_8 a0_9 _ _ l0_10 true _ ?side1 ?side2 ?side3 ?side4 A2.out).mono ?_); (case side1 => exact Cd_ (Kd.C_below HR0_7.out HB.out)); (case side2 => exact HC0_7.out); (case side3 => exact Cd_ (Kd.C_below HR0_10.out HB.out)); (case side4 => exact HC0_10.out); rintro e w9 ⟨rfl, hb⟩; refine ⟨_, rfl, ?_⟩; replace BK321 := m_ (kl_ gb321 hb); replace HB := m_ (below_step bz_ hb); (try clear hb); (try clear hb2); (try clear hk); (try clear hi)))
   replace BK321 := m_ (blk_drew BK321.out)
   replace HB := m_ (below_drew1 HB.out)
   refine start_ (n := 8) (S := fun w' => w'.cell? ⟨gb321, 0, none⟩ = some (.int .u8 a0_0) ∧ w'.cell? ⟨gb321, 1, none⟩ = some (.int .u32 a0_1) ∧ w'.cell? ⟨gb321, 2, none⟩ = some (.int .u32 a0_2) ∧ w'.cell? ⟨gb321, 3, none⟩ = some (.int .u32 a0_3) ∧ w'.cell? ⟨gb321, 4, none⟩ = some (.int .u32 a0_4) ∧ w'.cell? ⟨gb321, 5, none⟩ = some (.int .i64 a0_5) ∧ w'.cell? ⟨gb321, 6, none⟩ = some (.int .u32 a0_6) ∧ w'.cell? ⟨gb321, 7, none⟩ = some (.slice A0_7 l0_7.length c0_7) ∧ w'.cell? ⟨gb321, 8, none⟩ = some (.int .i64 a0_8) ∧ w'.cell? ⟨gb321, 9, none⟩ = some (.bool a0_9) ∧ w'.cell? ⟨gb321, 10, none⟩ = some (.slice A0_10 l0_10.length c0_10)) (ds := []) (bs_ 8 0) (by kernel_rfl) rfl rfl ⟨bc_ BK321.out 0, bc_ BK321.out 1, bc_ BK321.out 2, bc_ BK321.out 3, bc_ BK321.out 4, bc_ BK321.out 5, bc_ BK321.out 6, bc_ BK321.out 7, bc_ BK321.out 8, bc_ BK321.out 9, bc_ BK321.out 10⟩ (fun hHeld => ?_); refine with_tabW stolonref16_Encode.tab4 stolonref16_Encode.bits4 (fun HT_ HW_ => ?_)
   generalize w9.drew = w10 at BK321 HB hHeld ⊢
   refine pz_ 0 13 ?_
   refine pz_ 3 16 ?_
   refine tz_ 1 14 ?_
   refine tz_ 4 17 ?_
   refine join_ (σ := Value × Value) 2 (bs_ 8 63) (fun s_ => [(15, s_.1), (18, s_.2)]) (fun s_ w' => (w'.cell? ⟨gb321, 0, none⟩ = some (.int .u8 a0_0) ∧ w'.cell? ⟨gb321, 1, none⟩ = some (.int .u32 a0_1) ∧ w'.cell? ⟨gb321, 2, none⟩ = some (.int .u32 a0_2) ∧ w'.cell? ⟨gb321, 3, none⟩ = some (.int .u32 a0_3) ∧ w'.cell? ⟨gb321, 4, none⟩ = some (.int .u32 a0_4) ∧ w'.cell? ⟨gb321, 5, none⟩ = some (.int .i64 a0_5) ∧ w'.cell? ⟨gb321, 6, none⟩ = some (.int .u32 a0_6) ∧ w'.cell? ⟨gb321, 7, none⟩ = some (.slice A0_7 l0_7.length c0_7) ∧ w'.cell? ⟨gb321, 8, none⟩ = some (.int .i64 a0_8) ∧ w'.cell? ⟨gb321, 9, none⟩ = some (.bool a0_9) ∧ w'.cell? ⟨gb321, 10, none⟩ = some (.slice A0_10 l0_10.length c0_10)) ∧ (Kd.R (Kd.int .u8) 5 w' w.heap.size (fun k_ => some k_ ≠ (s_.2 : Value).ownBlock) s_.1 y323) ∧ (Kd.Q (Kd.int .u8) 5 w' w.heap.size (fun k_ => some k_ ≠ (s_.1 : Value).ownBlock) s_.2 t326) ∧ (w'.heap[gb321]? = some (.cells #[.int .u8 a0_0, .int .u32 a0_1, .int .u32 a0_2, .int .u32 a0_3, .int .u32 a0_4, .int .i64 a0_5, .int .u32 a0_6, .slice A0_7 l0_7.length c0_7, .int .i64 a0_8, .bool a0_9, .slice A0_10 l0_10.length c0_10] 29 (0, 0))) ∧ (Below w.heap.size w w')) ?_ ?_
   rotate_left
   ·intro hCont
    refine two_ (i := 2) (j := 5) (Ni := some 15) (Nj := some 18) (bs_ 8 31) (bs_ 8 59) rfl rfl rfl rfl (two_of HT_.out (by kernel_rfl)) (by decide) (by decide) (fun K hK => ?_) (fun K hK => ?_)
    ·skip
     refine Kd.R_lit_step (Kd.int .u8) _ 5 ?hg (N := 15) ?hd (xs := ([a0_0] : List Int)) (inner := [.int .u8 a0_0]) (ok := fun _ => True) (okp := fun _ => True) ?hr ?hp (fun _ hk => hk) trivial (Below.refl _ _) (Nat.le_refl _) (by simp) ?_; (case hd => rfl); (case hg => rfl); (case hr => first | (go_simp; done) | (go_simp; rfl)); (case hp => exact (Reps.one (show Kd.M (Kd.int .u8) _ _ _ a0_0 [.int .u8 a0_0] from rfl) (Reps.none _ _)))
     intro v324 w11 ho12 hb hg_ hnew_
     clear hg_ hnew_
     (first | rw [← Ny323.out] at ho12 | (simp only [Int.reduceToNat] at ho12; rw [← Ny323.out] at ho12))
     have HO325 := m_ (Kd.R_lower ho12 (below_size bz_))
     replace BK321 := m_ (kl_ gb321 hb)
     replace HB := m_ (below_step bz_ hb)
     clear hb ho12
     refine hK.out _ _ ⟨bc_ BK321.out 0, bc_ BK321.out 1, bc_ BK321.out 2, bc_ BK321.out 3, bc_ BK321.out 4, bc_ BK321.out 5, bc_ BK321.out 6, bc_ BK321.out 7, bc_ BK321.out 8, bc_ BK321.out 9, bc_ BK321.out 10⟩ (fun hHeld => ?_)
     clear hK K
     refine nz_ (some 15) ?_
     refine oz_ 5 (some 18) (fun K hK => ?_)
     refine gz_ Try.func28 #[.int .u32 a0_1, .int .i64 4] ?_
     with_reducible refine (stolonref16_number.calls a0_1 4 t326 _ A4.out).mono ?_
     rintro e w13 ⟨v327, rfl, ho0, hb⟩
     refine ⟨_, rfl, ?_⟩
     have HO328 := m_ (Kd.Q_lower (Kd.Q_new' ho0 (Kd.R_lt (Rz_ HO325.out))) (below_size bz_))
     replace HO325 := m_ (Kd.R_elder' (Rz_ HO325.out) (Kd.Q_base ho0) hb)
     replace BK321 := m_ (kl_ gb321 hb)
     replace HB := m_ (below_step bz_ hb)
     (try clear hb)
     (try clear hb2)
     (try clear hk)
     (try clear hi)
     (try clear ho0)
     refine hK.out _ _ ⟨bc_ BK321.out 0, bc_ BK321.out 1, bc_ BK321.out 2, bc_ BK321.out 3, bc_ BK321.out 4, bc_ BK321.out 5, bc_ BK321.out 6, bc_ BK321.out 7, bc_ BK321.out 8, bc_ BK321.out 9, bc_ BK321.out 10⟩ (fun hHeld => ?_)
     clear hK K
     refine nz_ (some 18) ?_
     exact norm_ (by simp only [putAll, Act.put, List.setIfInBounds_toArray, List.set_cons_zero, List.set_cons_succ]) (hCont (v324, v327) _ ⟨hHeld, (Ry_ (Kd.R_mono HO325.out (fun _ hk => hk.2))), (Qy_ (Kd.Q_mono HO328.out (fun _ hk => hk.2))), kz_, bz_⟩)
    ·skip
     refine gz_ Try.func28 #[.int .u32 a0_1, .int .i64 4] ?_
     with_reducible refine (stolonref16_number.calls a0_1 4 t326 _ A4.out).mono ?_
     rintro e w11 ⟨v327, rfl, ho0, hb⟩
     refine ⟨_, rfl, ?_⟩
     have HO328 := m_ (Kd.Q_lower ho0 (below_size bz_))
     replace BK321 := m_ (kl_ gb321 hb)
     replace HB := m_ (below_step bz_ hb)
     (try clear hb)
     (try clear hb2)
     (try clear hk)
     (try clear hi)
     (try clear ho0)
     refine hK.out _ _ ⟨bc_ BK321.out 0, bc_ BK321.out 1, bc_ BK321.out 2, bc_ BK321.out 3, bc_ BK321.out 4, bc_ BK321.out 5, bc_ BK321.out 6, bc_ BK321.out 7, bc_ BK321.out 8, bc_ BK321.out 9, bc_ BK321.out 10⟩ (fun hHeld => ?_)
     clear hK K
     refine nz_ (some 18) ?_
     refine oz_ 2 (some 15) (fun K hK => ?_)
     refine Kd.R_lit_step (Kd.int .u8) _ 5 ?hg (N := 15) ?hd (xs := ([a0_0] : List Int)) (inner := [.int .u8 a0_0]) (ok := fun _ => True) (okp := fun _ => True) ?hr ?hp (fun _ hk => hk) trivial (Below.refl _ _) (Nat.le_refl _) (by simp) ?_; (case hd => rfl); (case hg => rfl); (case hr => first | (go_simp; done) | (go_simp; rfl)); (case hp => exact (Reps.one (show Kd.M (Kd.int .u8) _ _ _ a0_0 [.int .u8 a0_0] from rfl) (Reps.none _ _)))
     intro v324 w12 ho13 hb hg_ hnew_
     clear hg_ hnew_
     (first | rw [← Ny323.out] at ho13 | (simp only [Int.reduceToNat] at ho13; rw [← Ny323.out] at ho13))
     have HO325 := m_ (Kd.R_lower (Kd.R_new' ho13 (Kd.Q_lt (Qz_ HO328.out))) (below_size bz_))
     replace HO328 := m_ (Kd.Q_elder' (Qz_ HO328.out) (Kd.R_base ho13) hb)
     replace BK321 := m_ (kl_ gb321 hb)
     replace HB := m_ (below_step bz_ hb)
     clear hb ho13
     refine hK.out _ _ ⟨bc_ BK321.out 0, bc_ BK321.out 1, bc_ BK321.out 2, bc_ BK321.out 3, bc_ BK321.out 4, bc_ BK321.out 5, bc_ BK321.out 6, bc_ BK321.out 7, bc_ BK321.out 8, bc_ BK321.out 9, bc_ BK321.out 10⟩ (fun hHeld => ?_)
     clear hK K
     refine nz_ (some 15) ?_
     exact norm_ (by simp only [putAll, Act.put, List.setIfInBounds_toArray, List.set_cons_zero, List.set_cons_succ]) (hCont (v324, v327) _ ⟨hHeld, (Ry_ (Kd.R_mono HO325.out (fun _ hk => hk.2))), (Qy_ (Kd.Q_mono HO328.out (fun _ hk => hk.2))), kz_, bz_⟩)
   rintro ⟨v324, v327⟩ w14 ⟨hS_, h0_, h1_, h2_, h3_⟩
   have n0_ : Aside0 (Kd.R (Kd.int .u8) 5 w14 w.heap.size (fun k_ => some k_ ≠ (v327 : Value).ownBlock) v324 y323) := ⟨h0_⟩
   have n1_ : Aside0 (Kd.Q (Kd.int .u8) 5 w14 w.heap.size (fun k_ => some k_ ≠ (v324 : Value).ownBlock) v327 t326) := ⟨h1_⟩
   have n2_ : Aside0 (w14.heap[gb321]? = some (.cells #[.int .u8 a0_0, .int .u32 a0_1, .int .u32 a0_2, .int .u32 a0_3, .int .u32 a0_4, .int .i64 a0_5, .int .u32 a0_6, .slice A0_7 l0_7.length c0_7, .int .i64 a0_8, .bool a0_9, .slice A0_10 l0_10.length c0_10] 29 (0, 0))) := ⟨h2_⟩
   have n3_ : Aside0 (Below w.heap.size w w14) := ⟨h3_⟩
   clear BK321 HB h0_ h1_ h2_ h3_
   have HO325 := n0_
   have HO328 := n1_
   have BK321 := n2_
   have HB := n3_
   clear n0_ n1_ n2_ n3_
   have hHeld : w14.cell? ⟨gb321, 0, none⟩ = some (.int .u8 a0_0) ∧ w14.cell? ⟨gb321, 1, none⟩ = some (.int .u32 a0_1) ∧ w14.cell? ⟨gb321, 2, none⟩ = some (.int .u32 a0_2) ∧ w14.cell? ⟨gb321, 3, none⟩ = some (.int .u32 a0_3) ∧ w14.cell? ⟨gb321, 4, none⟩ = some (.int .u32 a0_4) ∧ w14.cell? ⟨gb321, 5, none⟩ = some (.int .i64 a0_5) ∧ w14.cell? ⟨gb321, 6, none⟩ = some (.int .u32 a0_6) ∧ w14.cell? ⟨gb321, 7, none⟩ = some (.slice A0_7 l0_7.length c0_7) ∧ w14.cell? ⟨gb321, 8, none⟩ = some (.int .i64 a0_8) ∧ w14.cell? ⟨gb321, 9, none⟩ = some (.bool a0_9) ∧ w14.cell? ⟨gb321, 10, none⟩ = some (.slice A0_10 l0_10.length c0_10) := hS_
   obtain ⟨Ao16, co16, eo16, _⟩ := Kd.Q_slice HO328.out
   (first | subst eo16 | (injection eo16 with f1_ f2_ f3_; have f4_ := f1_.symm; have f5_ := f3_.symm; clear f1_ f2_ f3_; subst f4_; subst f5_))
   refine norm_ (a' := ?_) ?_ ?_
   rotate_left
   ·simp only [putAll, Act.put, List.setIfInBounds_toArray, List.set_cons_zero, List.set_cons_succ]
    rfl
   refine oz_ 6 (some 19) (fun K hK => ?_)
   refine Kd.R_append_rows_step (Kd.int .u8) (w0 := w) w.heap.size (by rfl) (.tmp 15) (.tmp 18) 27 5 (.int .u8 0) 1 rfl Try.underlying27 info5 rfl (by decide) (by omega) v324 y323 t326 _ _ _ (fun k_ => some k_ ≠ (.slice Ao16 t326.length co16 : Value).ownBlock) (fun _ => False) rfl rfl ?aO ?aR (fun _ _ h => h) (fun _ h => h.elim) ?aF ?aB ?aS ?aL ?_
   (case aR => exact Cd_ (Kd.Q_reads' HO328.out).2.2)
   (case aB => exact bz_)
   (case aF => exact (fun k_ hk => Kd.fresh' (Kd.Q_lt (Qz_ HO328.out)) k_ hk))
   (case aO => exact (Rz_ HO325.out))
   (case aS => exact (below_size bz_))
   (case aL => have := LMc5.out; omega)
   intro v330 w15 ho hb hg hat
   rw [← Ny329.out] at ho
   have HO331 := m_ (ho)
   replace BK321 := m_ (blk_grown (g := gb321) (o := .cells #[.int .u8 a0_0, .int .u32 a0_1, .int .u32 a0_2, .int .u32 a0_3, .int .u32 a0_4, .int .i64 a0_5, .int .u32 a0_6, .slice A0_7 l0_7.length c0_7, .int .i64 a0_8, .bool a0_9, .slice A0_10 l0_10.length c0_10] 29 (0, 0)) kz_ hg (Kd.R_ne HO325.out BK321.out (by decide)))
   replace HO328 := m_ (Kd.Q_after (ok := (fun _ => True)) (Qy_ (Kd.Q_mono HO328.out (fun _ hk => ⟨trivial, hk⟩))) hg hat)
   replace HB := m_ (hb)
   clear HO325 ho hb hg hat
   refine hK.out _ _ ⟨bc_ BK321.out 0, bc_ BK321.out 1, bc_ BK321.out 2, bc_ BK321.out 3, bc_ BK321.out 4, bc_ BK321.out 5, bc_ BK321.out 6, bc_ BK321.out 7, bc_ BK321.out 8, bc_ BK321.out 9, bc_ BK321.out 10⟩ (fun hHeld => ?_)
   clear hK K
   refine nz_ (some 19) ?_
   refine pz_ 7 5 ?_
   refine dz_ ?_
   have hcz17 := cz11_ BK321.out
   go_upto_region 6 with (first | ((with_reducible refine gate_dst (N := 6) rfl ?_); refine bx_ 6 26 #[.int .u32 0, .int .u32 0, .int .u32 0, .int .i64 0, .int .u32 0, .slice none 0 0] ?_; intro gb332 hg w18 hbox hb; have BK332 := m_ (hbox); have GW332 := m_ ((gw_ : w.heap.size ≤ gb332)); have GE332 := m_ ((gw_ : w.heap.size ≤ gb332)); have NB321_332 := m_ ((gl_ : gb321 ≠ gb332)); have NB332_321 := m_ ((gr_ : gb332 ≠ gb321)); replace HO328 := m_ (Kd.Q_below (Qz_ HO328.out) hb); replace HO331 := m_ (Kd.R_below (Rz_ HO331.out) hb); replace BK321 := m_ (kl_ gb321 hb); replace HB := m_ (below_step bz_ hb); clear hb hbox hg; have hnb19 := NB332_321.out; have hnc19 := NB321_332.out; have hcz20 := cz6_ BK332.out))
   (try simp only [Act.put, List.setIfInBounds_toArray, List.set_cons_zero, List.set_cons_succ])
   go_cut [29] (fun v29 wc => ∃ (kq : Nat) (x29_5 : Bool), v29 = .bool x29_5 ∧ Aside0 (stolonref16_Encode.j0 kq y329 x29_5 a0_0 a0_1 a0_2 a0_3 a0_4 a0_5 a0_6 l0_7 a0_8 a0_9 l0_10 a0_2 a0_3 a0_4 a0_5 a0_6 l0_7 = some (r1, r2)) ∧ Aside0 (kq ≤ k) ∧ Aside0 (Kd.R (Kd.int .u8) 5 wc w.heap.size (fun _ => True) v330 y329) ∧ Aside0 (wc.heap[gb321]? = some (.cells #[.int .u8 a0_0, .int .u32 a0_1, .int .u32 a0_2, .int .u32 a0_3, .int .u32 a0_4, .int .i64 a0_5, .int .u32 a0_6, (.slice A0_7 l0_7.length c0_7), .int .i64 a0_8, .bool a0_9, (.slice A0_10 l0_10.length c0_10)] 29 (0, 0))) ∧ Aside0 (wc.heap[gb332]? = some (.cells #[.int .u32 a0_2, .int .u32 a0_3, .int .u32 a0_4, .int .i64 a0_5, .int .u32 a0_6, (.slice A0_7 l0_7.length c0_7)] 26 (0, 0))) ∧ Aside0 (Below w.heap.size w wc))
   case first =>
    have H := HC6.out
    clear HC6
    by_cases c21 : a0_0 = 1
    ·rw [if_pos c21] at H
     have c21b0 : (a0_0 == 1) = true := beq_iff_eq.mpr c21
     have c21b1 : (a0_0 != 1) = false := bne_eq_false_iff_eq.mpr c21
     clear c21
     (first | rw [c21b0] | (simp only [i64_w, i32_w]; rw [c21b0]) | skip)
     have H' := m_ H
     clear H
     have hnb22 := NB321_332.out
     have hnc22 := NB332_321.out
     have hcz23 := cz11_ BK321.out
     go_wp2
     go_meet
     case rel => exact ⟨_, (true), (by first | rfl | (simp; done) | (simp [*]; done)), H', ⟨by first | omega | exact Nat.le_refl _⟩, ⟨Kd.R_mono (Rf_ (Kd.R_types HO331.out BK332.out (by decide))) (fun _ hk => trivial)⟩, ⟨kb_⟩, ⟨kb_⟩, ⟨bz_⟩⟩
    ·rw [if_neg c21] at H
     have c21b0 : (a0_0 == 1) = false := beq_eq_false_iff_ne.mpr c21
     have c21b1 : (a0_0 != 1) = true := bne_iff_ne.mpr c21
     (first | rw [c21b0] | (simp only [i64_w, i32_w]; rw [c21b0]) | skip)
     have H' := m_ H
     clear H
     have hnb24 := NB321_332.out
     have hnc24 := NB332_321.out
     have hcz25 := cz11_ BK321.out
     go_wp2
     go_meet
     case rel => exact ⟨_, ((a0_0 == 2)), (by first | rfl | (simp; done) | (simp [*]; done)), H', ⟨by first | omega | exact Nat.le_refl _⟩, ⟨Kd.R_mono (Rf_ (Kd.R_types HO331.out BK332.out (by decide))) (fun _ hk => trivial)⟩, ⟨kb_⟩, ⟨kb_⟩, ⟨bz_⟩⟩
   case rest =>
    clear HC6
    try clear c1
    try clear c2
    try clear p2
    try clear c3
    try clear c5
    try clear c13
    try clear c15
    try clear c19
    try clear c21
    try clear c21b0
    try clear c21b1
    try clear c22
    try clear c24
    (try clear hcz17)
    (try clear hcz20)
    (try clear hcz23)
    (try clear hcz25)
    (try clear hcz8)
    obtain ⟨kq, x29_5, rfl, HA, HJ5, HO_5, BK321, BK332, HB⟩ := hcut
    cases kq with
    | zero => exact absurd HA.out (by simp [stolonref16_Encode.j0])
    | succ kj5 =>
     have H := HA.out
     clear HA
     simp only [stolonref16_Encode.j0] at H
     have HC26 := m_ H
     clear H
     go_upto_if 29 with (fail)
     go_cut [5] (fun v5 wc => ∃ (kq : Nat) (x5_25 : List Int), Aside0 (stolonref16_Encode.j1 kq x5_25 a0_0 a0_1 a0_2 a0_3 a0_4 a0_5 a0_6 l0_7 a0_8 a0_9 l0_10 a0_2 a0_3 a0_4 a0_5 a0_6 l0_7 = some (r1, r2)) ∧ Aside0 (kq ≤ kj5) ∧ Aside0 (Kd.R (Kd.int .u8) 5 wc w.heap.size (fun _ => True) v5 x5_25) ∧ Aside0 (wc.heap[gb321]? = some (.cells #[.int .u8 a0_0, .int .u32 a0_1, .int .u32 a0_2, .int .u32 a0_3, .int .u32 a0_4, .int .i64 a0_5, .int .u32 a0_6, (.slice A0_7 l0_7.length c0_7), .int .i64 a0_8, .bool a0_9, (.slice A0_10 l0_10.length c0_10)] 29 (0, 0))) ∧ Aside0 (wc.heap[gb332]? = some (.cells #[.int .u32 a0_2, .int .u32 a0_3, .int .u32 a0_4, .int .i64 a0_5, .int .u32 a0_6, (.slice A0_7 l0_7.length c0_7)] 26 (0, 0))) ∧ Aside0 (Below w.heap.size w wc))
     case first =>
      have H := HC26.out
      clear HC26
      by_cases c27 : x29_5 = true
      ·subst c27
       have H1 : ((stolonref16_number.f a0_2 4).bind fun t333 => (if y329.length + t333.length < 140737488355328 then ((some (y329 ++ t333 : List Int)).bind fun y336 => ((stolonref16_number.f a0_3 4).bind fun t339 => (if y336.length + t339.length < 140737488355328 then ((some (y336 ++ t339 : List Int)).bind fun y342 => ((stolonref16_number.f a0_4 4).bind fun t345 => (if y342.length + t345.length < 140737488355328 then (stolonref16_Encode.j1 kj5 (y342 ++ t345) a0_0 a0_1 a0_2 a0_3 a0_4 a0_5 a0_6 l0_7 a0_8 a0_9 l0_10 a0_2 a0_3 a0_4 a0_5 a0_6 l0_7) else (none)))) else (none)))) else (none))) = some (r1, r2) := by rw [if_pos rfl] at H; exact H
       clear H
       have H := H1
       clear H1
       replace H := Option.bind_eq_some_iff.mp H
       obtain ⟨t333, A280, H⟩ := H
       replace H : (if y329.length + t333.length < 140737488355328 then ((some (y329 ++ t333 : List Int)).bind fun y336 => ((stolonref16_number.f a0_3 4).bind fun t339 => (if y336.length + t339.length < 140737488355328 then ((some (y336 ++ t339 : List Int)).bind fun y342 => ((stolonref16_number.f a0_4 4).bind fun t345 => (if y342.length + t345.length < 140737488355328 then (stolonref16_Encode.j1 kj5 (y342 ++ t345) a0_0 a0_1 a0_2 a0_3 a0_4 a0_5 a0_6 l0_7 a0_8 a0_9 l0_10 a0_2 a0_3 a0_4 a0_5 a0_6 l0_7) else (none)))) else (none)))) else (none)) = some (r1, r2) := H
       have A28 := m_ A280
       clear A280
       by_cases c29 : y329.length + t333.length < 140737488355328
       ·rw [if_pos c29] at H
        have LMc29 := m_ c29
        clear c29
        obtain ⟨y336, hy336⟩ : ∃ y_ : List Int, y_ = (y329 ++ t333) := ⟨_, rfl⟩
        replace H : ((stolonref16_number.f a0_3 4).bind fun t339 => (if y336.length + t339.length < 140737488355328 then ((some (y336 ++ t339 : List Int)).bind fun y342 => ((stolonref16_number.f a0_4 4).bind fun t345 => (if y342.length + t345.length < 140737488355328 then (stolonref16_Encode.j1 kj5 (y342 ++ t345) a0_0 a0_1 a0_2 a0_3 a0_4 a0_5 a0_6 l0_7 a0_8 a0_9 l0_10 a0_2 a0_3 a0_4 a0_5 a0_6 l0_7) else (none)))) else (none))) = some (r1, r2) := by first | (rw [hy336]; with_reducible exact H) | (have H2_ := (Option.bind_some _ _).symm.trans H; rw [hy336]; with_reducible exact H2_) | (have H2_ := (Option.bind_some _ _).symm.trans H; with_reducible exact H2_) | with_reducible exact H | (rw [hy336]; exact H) | exact H
        have Ny336 := m_ hy336
        clear hy336
        replace H := Option.bind_eq_some_iff.mp H
        obtain ⟨t339, A300, H⟩ := H
        replace H : (if y336.length + t339.length < 140737488355328 then ((some (y336 ++ t339 : List Int)).bind fun y342 => ((stolonref16_number.f a0_4 4).bind fun t345 => (if y342.length + t345.length < 140737488355328 then (stolonref16_Encode.j1 kj5 (y342 ++ t345) a0_0 a0_1 a0_2 a0_3 a0_4 a0_5 a0_6 l0_7 a0_8 a0_9 l0_10 a0_2 a0_3 a0_4 a0_5 a0_6 l0_7) else (none)))) else (none)) = some (r1, r2) := H
        have A30 := m_ A300
        clear A300
        by_cases c31 : y336.length + t339.length < 140737488355328
        ·rw [if_pos c31] at H
         have LMc31 := m_ c31
         clear c31
         obtain ⟨y342, hy342⟩ : ∃ y_ : List Int, y_ = (y336 ++ t339) := ⟨_, rfl⟩
         replace H : ((stolonref16_number.f a0_4 4).bind fun t345 => (if y342.length + t345.length < 140737488355328 then (stolonref16_Encode.j1 kj5 (y342 ++ t345) a0_0 a0_1 a0_2 a0_3 a0_4 a0_5 a0_6 l0_7 a0_8 a0_9 l0_10 a0_2 a0_3 a0_4 a0_5 a0_6 l0_7) else (none))) = some (r1, r2) := by first | (rw [hy342]; with_reducible exact H) | (have H2_ := (Option.bind_some _ _).symm.trans H; rw [hy342]; with_reducible exact H2_) | (have H2_ := (Option.bind_some _ _).symm.trans H; with_reducible exact H2_) | with_reducible exact H | (rw [hy342]; exact H) | exact H
         have Ny342 := m_ hy342
         clear hy342
         replace H := Option.bind_eq_some_iff.mp H
         obtain ⟨t345, A320, H⟩ := H
         replace H : (if y342.length + t345.length < 140737488355328 then (stolonref16_Encode.j1 kj5 (y342 ++ t345) a0_0 a0_1 a0_2 a0_3 a0_4 a0_5 a0_6 l0_7 a0_8 a0_9 l0_10 a0_2 a0_3 a0_4 a0_5 a0_6 l0_7) else (none)) = some (r1, r2) := H
         have A32 := m_ A320
         clear A320
         by_cases c33 : y342.length + t345.length < 140737488355328
         ·rw [if_pos c33] at H
          have LMc33 := m_ c33
          clear c33
          obtain ⟨y348, hy348⟩ : ∃ y_ : List Int, y_ = (y342 ++ t345) := ⟨_, rfl⟩
          replace H : (stolonref16_Encode.j1 kj5 y348 a0_0 a0_1 a0_2 a0_3 a0_4 a0_5 a0_6 l0_7 a0_8 a0_9 l0_10 a0_2 a0_3 a0_4 a0_5 a0_6 l0_7) = some (r1, r2) := by first | (rw [hy348]; with_reducible exact H) | (have H2_ := (Option.bind_some _ _).symm.trans H; rw [hy348]; with_reducible exact H2_) | (have H2_ := (Option.bind_some _ _).symm.trans H; with_reducible exact H2_) | with_reducible exact H | (rw [hy348]; exact H) | exact H
          have Ny348 := m_ hy348
          clear hy348
          have H' := m_ H
          clear H
          have hnb34 := NB332_321.out
          have hnc34 := NB321_332.out
          have hcz35 := cz6_ BK332.out
          go_wp2_with (first | ((with_reducible refine gate_callee (f := 28) rfl ?_); refine gL_ (some 33) Try.func28 #[.int .u32 a0_2, .int .i64 4] ?_; (with_reducible refine (stolonref16_number.calls a0_2 4 t333 _ A28.out).mono ?_); rintro e w36 ⟨v334, rfl, ho0, hb⟩; refine ⟨_, rfl, ?_⟩; have HO335 := m_ (Kd.Q_lower (Kd.Q_new' ho0 (Kd.R_lt (Rz_ HO_5.out))) (below_size bz_)); replace HO_5 := m_ (Kd.R_elder' (Rz_ HO_5.out) (Kd.Q_base ho0) hb); replace BK321 := m_ (kl_ gb321 hb); replace BK332 := m_ (kl_ gb332 hb); replace HB := m_ (below_step bz_ hb); (try clear hb); (try clear hb2); (try clear hk); (try clear hi); (try clear ho0); obtain ⟨Ao38, co38, eo38, _⟩ := Kd.Q_slice HO335.out; subst eo38) | ((with_reducible refine gate_builtin (b := .append) (xs := #[.tmp 30, .tmp 33]) rfl ?_); at_builtin; refine Kd.R_append_rows (Kd.int .u8) (w0 := w) w.heap.size rfl (.tmp 30) (.tmp 33) 27 5 (.int .u8 0) 1 rfl Try.underlying27 info5 rfl (by decide) (by omega) v330 y329 t333 _ _ _ (fun k_ => some k_ ≠ (.slice Ao38 t333.length co38 : Value).ownBlock) (fun _ => False) rfl rfl ?aO ?aR (fun _ _ h => h) (fun _ h => h.elim) ?aF ?aB ?aS ?aL ?_; (case aR => exact Cd_ (Kd.Q_reads' HO335.out).2.2); (case aB => exact bz_); (case aF => exact (fun k_ hk => Kd.fresh' (Kd.Q_lt (Qz_ HO335.out)) k_ hk)); (case aO => exact (Ry_ (Kd.R_mono HO_5.out (fun _ hk => hk.2)))); (case aS => exact (below_size bz_)); (case aL => have := LMc29.out; omega); intro v337 w37 ho hb hg hat; rw [← Ny336.out] at ho; have HO338 := m_ (ho); replace BK321 := m_ (blk_grown (g := gb321) (o := .cells #[.int .u8 a0_0, .int .u32 a0_1, .int .u32 a0_2, .int .u32 a0_3, .int .u32 a0_4, .int .i64 a0_5, .int .u32 a0_6, .slice A0_7 l0_7.length c0_7, .int .i64 a0_8, .bool a0_9, .slice A0_10 l0_10.length c0_10] 29 (0, 0)) kz_ hg (Kd.R_ne HO_5.out BK321.out (by decide))); replace BK332 := m_ (blk_grown (g := gb332) (o := .cells #[.int .u32 a0_2, .int .u32 a0_3, .int .u32 a0_4, .int .i64 a0_5, .int .u32 a0_6, .slice A0_7 l0_7.length c0_7] 26 (0, 0)) kz_ hg (Kd.R_ne HO_5.out BK332.out (by decide))); replace HO335 := m_ (Kd.Q_after (ok := (fun _ => True)) (Qz_ HO335.out) hg hat); replace HB := m_ (hb); clear HO_5 ho hb hg hat; have hcz39 := cz6_ BK332.out) | ((with_reducible refine gate_callee (f := 28) rfl ?_); refine gL_ (some 38) Try.func28 #[.int .u32 a0_3, .int .i64 4] ?_; (with_reducible refine (stolonref16_number.calls a0_3 4 t339 _ A30.out).mono ?_); rintro e w40 ⟨v340, rfl, ho0, hb⟩; refine ⟨_, rfl, ?_⟩; have HO341 := m_ (Kd.Q_lower (Kd.Q_new' (Kd.Q_new' ho0 (Kd.Q_lt (Qz_ HO335.out))) (Kd.R_lt (Rz_ HO338.out))) (below_size bz_)); replace HO335 := m_ (Kd.Q_elder' (Qz_ HO335.out) (Kd.Q_base ho0) hb); replace HO338 := m_ (Kd.R_elder' (Rz_ HO338.out) (Kd.Q_base ho0) hb); replace BK321 := m_ (kl_ gb321 hb); replace BK332 := m_ (kl_ gb332 hb); replace HB := m_ (below_step bz_ hb); (try clear hb); (try clear hb2); (try clear hk); (try clear hi); (try clear ho0); obtain ⟨Ao42, co42, eo42, _⟩ := Kd.Q_slice HO341.out; subst eo42) | ((with_reducible refine gate_builtin (b := .append) (xs := #[.tmp 35, .tmp 38]) rfl ?_); at_builtin; refine Kd.R_append_rows (Kd.int .u8) (w0 := w) w.heap.size rfl (.tmp 35) (.tmp 38) 27 5 (.int .u8 0) 1 rfl Try.underlying27 info5 rfl (by decide) (by omega) v337 y336 t339 _ _ _ (fun k_ => some k_ ≠ (.slice Ao38 t333.length co38 : Value).ownBlock ∧ some k_ ≠ (.slice Ao42 t339.length co42 : Value).ownBlock) (fun _ => False) rfl rfl ?aO ?aR (fun _ _ h => h) (fun _ h => h.elim) ?aF ?aB ?aS ?aL ?_; (case aR => exact Cd_ (Kd.Q_reads' HO341.out).2.2); (case aB => exact bz_); (case aF => exact (fun k_ hk => ⟨Kd.fresh' (Kd.Q_lt (Qz_ HO335.out)) k_ hk, Kd.fresh' (Kd.Q_lt (Qz_ HO341.out)) k_ hk⟩)); (case aO => exact (Rz_ HO338.out)); (case aS => exact (below_size bz_)); (case aL => have := LMc31.out; omega); intro v343 w41 ho hb hg hat; rw [← Ny342.out] at ho; have HO344 := m_ (ho); replace BK321 := m_ (blk_grown (g := gb321) (o := .cells #[.int .u8 a0_0, .int .u32 a0_1, .int .u32 a0_2, .int .u32 a0_3, .int .u32 a0_4, .int .i64 a0_5, .int .u32 a0_6, .slice A0_7 l0_7.length c0_7, .int .i64 a0_8, .bool a0_9, .slice A0_10 l0_10.length c0_10] 29 (0, 0)) kz_ hg (Kd.R_ne HO338.out BK321.out (by decide))); replace BK332 := m_ (blk_grown (g := gb332) (o := .cells #[.int .u32 a0_2, .int .u32 a0_3, .int .u32 a0_4, .int .i64 a0_5, .int .u32 a0_6, .slice A0_7 l0_7.length c0_7] 26 (0, 0)) kz_ hg (Kd.R_ne HO338.out BK332.out (by decide))); replace HO335 := m_ (Kd.Q_after (ok := (fun k_ => some k_ ≠ (.slice Ao42 t339.length co42 : Value).ownBlock)) (Qy_ (Kd.Q_mono HO335.out (fun _ hk => ⟨hk.2, hk.1.2⟩))) hg hat); replace HO341 := m_ (Kd.Q_after (ok := (fun k_ => some k_ ≠ (.slice Ao38 t333.length co38 : Value).ownBlock)) (Qy_ (Kd.Q_mono HO341.out (fun _ hk => ⟨hk.1.2, hk.2⟩))) hg hat); replace HB := m_ (hb); clear HO338 ho hb hg hat; have hcz43 := cz6_ BK332.out) | ((with_reducible refine gate_callee (f := 28) rfl ?_); refine gL_ (some 43) Try.func28 #[.int .u32 a0_4, .int .i64 4] ?_; (with_reducible refine (stolonref16_number.calls a0_4 4 t345 _ A32.out).mono ?_); rintro e w44 ⟨v346, rfl, ho0, hb⟩; refine ⟨_, rfl, ?_⟩; have HO347 := m_ (Kd.Q_lower (Kd.Q_new' (Kd.Q_new' (Kd.Q_new' ho0 (Kd.Q_lt (Qz_ HO335.out))) (Kd.Q_lt (Qz_ HO341.out))) (Kd.R_lt (Rz_ HO344.out))) (below_size bz_)); replace HO335 := m_ (Kd.Q_elder' (Qz_ HO335.out) (Kd.Q_base ho0) hb); replace HO341 := m_ (Kd.Q_elder' (Qz_ HO341.out) (Kd.Q_base ho0) hb); replace HO344 := m_ (Kd.R_elder' (Rz_ HO344.out) (Kd.Q_base ho0) hb); replace BK321 := m_ (kl_ gb321 hb); replace BK332 := m_ (kl_ gb332 hb); replace HB := m_ (below_step bz_ hb); (try clear hb); (try clear hb2); (try clear hk); (try clear hi); (try clear ho0); obtain ⟨Ao46, co46, eo46, _⟩ := Kd.Q_slice HO347.out; subst eo46) | ((with_reducible refine gate_builtin (b := .append) (xs := #[.tmp 40, .tmp 43]) rfl ?_); at_builtin; refine Kd.R_append_rows (Kd.int .u8) (w0 := w) w.heap.size rfl (.tmp 40) (.tmp 43) 27 5 (.int .u8 0) 1 rfl Try.underlying27 info5 rfl (by decide) (by omega) v343 y342 t345 _ _ _ (fun k_ => some k_ ≠ (.slice Ao38 t333.length co38 : Value).ownBlock ∧ some k_ ≠ (.slice Ao42 t339.length co42 : Value).ownBlock ∧ some k_ ≠ (.slice Ao46 t345.length co46 : Value).ownBlock) (fun _ => False) rfl rfl ?aO ?aR (fun _ _ h => h) (fun _ h => h.elim) ?aF ?aB ?aS ?aL ?_; (case aR => exact Cd_ (Kd.Q_reads' HO347.out).2.2); (case aB => exact bz_); (case aF => exact (fun k_ hk => ⟨Kd.fresh' (Kd.Q_lt (Qz_ HO335.out)) k_ hk, Kd.fresh' (Kd.Q_lt (Qz_ HO341.out)) k_ hk, Kd.fresh' (Kd.Q_lt (Qz_ HO347.out)) k_ hk⟩)); (case aO => exact (Ry_ (Kd.R_mono HO344.out (fun _ hk => ⟨hk.1.1, ⟨hk.1.2, hk.2⟩⟩)))); (case aS => exact (below_size bz_)); (case aL => have := LMc33.out; omega); intro v349 w45 ho hb hg hat; rw [← Ny348.out] at ho; have HO350 := m_ (ho); replace BK321 := m_ (blk_grown (g := gb321) (o := .cells #[.int .u8 a0_0, .int .u32 a0_1, .int .u32 a0_2, .int .u32 a0_3, .int .u32 a0_4, .int .i64 a0_5, .int .u32 a0_6, .slice A0_7 l0_7.length c0_7, .int .i64 a0_8, .bool a0_9, .slice A0_10 l0_10.length c0_10] 29 (0, 0)) kz_ hg (Kd.R_ne HO344.out BK321.out (by decide))); replace BK332 := m_ (blk_grown (g := gb332) (o := .cells #[.int .u32 a0_2, .int .u32 a0_3, .int .u32 a0_4, .int .i64 a0_5, .int .u32 a0_6, .slice A0_7 l0_7.length c0_7] 26 (0, 0)) kz_ hg (Kd.R_ne HO344.out BK332.out (by decide))); replace HO335 := m_ (Kd.Q_after (ok := (fun k_ => some k_ ≠ (.slice Ao42 t339.length co42 : Value).ownBlock ∧ some k_ ≠ (.slice Ao46 t345.length co46 : Value).ownBlock)) (Qy_ (Kd.Q_mono HO335.out (fun _ hk => ⟨⟨hk.1.1, hk.2⟩, hk.1.2⟩))) hg hat); replace HO341 := m_ (Kd.Q_after (ok := (fun k_ => some k_ ≠ (.slice Ao38 t333.length co38 : Value).ownBlock ∧ some k_ ≠ (.slice Ao46 t345.length co46 : Value).ownBlock)) (Qy_ (Kd.Q_mono HO341.out (fun _ hk => ⟨⟨hk.1.1, hk.2⟩, hk.1.2⟩))) hg hat); replace HO347 := m_ (Kd.Q_after (ok := (fun k_ => some k_ ≠ (.slice Ao38 t333.length co38 : Value).ownBlock ∧ some k_ ≠ (.slice Ao42 t339.length co42 : Value).ownBlock)) (Qy_ (Kd.Q_mono HO347.out (fun _ hk => ⟨⟨hk.1.1.2, hk.1.2⟩, hk.2⟩))) hg hat); replace HB := m_ (hb); clear HO344 ho hb hg hat))
          go_meet
          case rel => exact ⟨_, (y348), H', ⟨by have := HJ5.out; first | omega | exact Nat.le_refl _⟩, ⟨Ry_ (Kd.R_mono HO350.out (fun _ hk => trivial))⟩, ⟨kz_⟩, ⟨kz_⟩, ⟨bz_⟩⟩
         ·rw [if_neg c33] at H
          exact absurd H (by simp)
        ·rw [if_neg c31] at H
         exact absurd H (by simp)
       ·rw [if_neg c29] at H
        exact absurd H (by simp)
      ·replace c27 := Bool.eq_false_iff.mpr c27
       subst c27
       have H1 : (stolonref16_Encode.j1 kj5 y329 a0_0 a0_1 a0_2 a0_3 a0_4 a0_5 a0_6 l0_7 a0_8 a0_9 l0_10 a0_2 a0_3 a0_4 a0_5 a0_6 l0_7) = some (r1, r2) := by rw [if_neg (show ¬ (false = true) by decide)] at H; exact H
       clear H
       have H := H1
       clear H1
       have H' := m_ H
       clear H
       go_wp2
       go_meet
       case rel => exact ⟨_, (y329), H', ⟨by have := HJ5.out; first | omega | exact Nat.le_refl _⟩, ⟨Rz_ HO_5.out⟩, ⟨kz_⟩, ⟨kz_⟩, ⟨bz_⟩⟩
     case rest =>
      clear HC26
      try clear c1
      try clear c2
      try clear p2
      try clear c3
      try clear c5
      try clear c13
      try clear c15
      try clear c19
      try clear c21
      try clear c21b0
      try clear c21b1
      try clear c22
      try clear c24
      try clear c27
      try clear c28
      try clear c29
      try clear c31
      try clear c33
      try clear c34
      (try clear hcz17)
      (try clear hcz20)
      (try clear hcz23)
      (try clear hcz25)
      (try clear hcz35)
      (try clear hcz39)
      (try clear hcz43)
      (try clear hcz8)
      try clear p2
      obtain ⟨kq, x5_25, HA, HJ25, HO_5, BK321, BK332, HB⟩ := hcut
      cases kq with
      | zero => exact absurd HA.out (by simp [stolonref16_Encode.j1])
      | succ kj25 =>
       have H := HA.out
       clear HA
       simp only [stolonref16_Encode.j1] at H
       have HC47 := m_ H
       clear H
       have hnb48 := NB321_332.out
       have hnc48 := NB332_321.out
       have hcz49 := cz11_ BK321.out
       go_upto_if 47 with (fail)
       go_cut [5] (fun v5 wc => ∃ (kq : Nat) (x5_46 : List Int), Aside0 (stolonref16_Encode.j4 kq x5_46 a0_0 a0_1 a0_2 a0_3 a0_4 a0_5 a0_6 l0_7 a0_8 a0_9 l0_10 = some (r1, r2)) ∧ Aside0 (kq ≤ kj25) ∧ Aside0 (Kd.R (Kd.int .u8) 5 wc w.heap.size (fun _ => True) v5 x5_46) ∧ Aside0 (wc.heap[gb321]? = some (.cells #[.int .u8 a0_0, .int .u32 a0_1, .int .u32 a0_2, .int .u32 a0_3, .int .u32 a0_4, .int .i64 a0_5, .int .u32 a0_6, (.slice A0_7 l0_7.length c0_7), .int .i64 a0_8, .bool a0_9, (.slice A0_10 l0_10.length c0_10)] 29 (0, 0))) ∧ Aside0 (wc.heap[gb332]? = some (.cells #[.int .u32 a0_2, .int .u32 a0_3, .int .u32 a0_4, .int .i64 a0_5, .int .u32 a0_6, (.slice A0_7 l0_7.length c0_7)] 26 (0, 0))) ∧ Aside0 (Below w.heap.size w wc))
       case first =>
        have H := HC47.out
        clear HC47
        by_cases c50 : a0_0 = 1
        ·rw [if_pos c50] at H
         have c50b0 : (a0_0 == 1) = true := beq_iff_eq.mpr c50
         have c50b1 : (a0_0 != 1) = false := bne_eq_false_iff_eq.mpr c50
         clear c50
         (first | rw [c50b0] | (simp only [i64_w, i32_w]; rw [c50b0]) | skip)
         have HC51 := m_ H
         clear H
         have hnb52 := NB332_321.out
         have hnc52 := NB321_332.out
         have hcz53 := cz6_ BK332.out
         go_upto_if 50 with (fail)
         go_cut [7] (fun v7 wc => ∃ (kq : Nat) (x7_50 : Int), v7 = .int .u32 x7_50 ∧ Aside0 (stolonref16_Encode.j2 kq x5_25 x7_50 a0_0 a0_1 a0_2 a0_3 a0_4 a0_5 a0_6 l0_7 a0_8 a0_9 l0_10 a0_2 a0_3 a0_4 a0_5 a0_6 l0_7 = some (r1, r2)) ∧ Aside0 (kq ≤ kj25) ∧ Aside0 (Kd.R (Kd.int .u8) 5 wc w.heap.size (fun _ => True) u5 x5_25) ∧ Aside0 (wc.heap[gb321]? = some (.cells #[.int .u8 a0_0, .int .u32 a0_1, .int .u32 a0_2, .int .u32 a0_3, .int .u32 a0_4, .int .i64 a0_5, .int .u32 a0_6, (.slice A0_7 l0_7.length c0_7), .int .i64 a0_8, .bool a0_9, (.slice A0_10 l0_10.length c0_10)] 29 (0, 0))) ∧ Aside0 (wc.heap[gb332]? = some (.cells #[.int .u32 a0_2, .int .u32 a0_3, .int .u32 a0_4, .int .i64 a0_5, .int .u32 a0_6, (.slice A0_7 l0_7.length c0_7)] 26 (0, 0))) ∧ Aside0 (Below w.heap.size w wc))
         case first =>
          have H := HC51.out
          clear HC51
          by_cases c54 : a0_5 ≥ 0
          ·rw [if_pos c54] at H
           have c54b0 : decide (0 ≤ a0_5) = true := decide_eq_true c54
           clear c54
           (first | rw [c54b0] | (simp only [i64_w, i32_w]; rw [c54b0]) | skip)
           have H' := m_ H
           clear H
           have hnb55 := NB332_321.out
           have hnc55 := NB321_332.out
           have hcz56 := cz6_ BK332.out
           go_wp2
           go_meet
           case rel => exact ⟨_, ((a0_5) % 4294967296), (by first | rfl | (simp; done) | (simp [*]; done)), H', ⟨by have := HJ5.out; have := HJ25.out; first | omega | exact Nat.le_refl _⟩, ⟨Rz_ HO_5.out⟩, ⟨kz_⟩, ⟨kz_⟩, ⟨bz_⟩⟩
          ·rw [if_neg c54] at H
           have c54b0 : decide (0 ≤ a0_5) = false := decide_eq_false c54
           clear c54
           (first | rw [c54b0] | (simp only [i64_w, i32_w]; rw [c54b0]) | skip)
           have H' := m_ H
           clear H
           go_wp2
           go_meet
           case rel => exact ⟨_, (65535), (by first | rfl | (simp; done) | (simp [*]; done)), H', ⟨by have := HJ5.out; have := HJ25.out; first | omega | exact Nat.le_refl _⟩, ⟨Rz_ HO_5.out⟩, ⟨kz_⟩, ⟨kz_⟩, ⟨bz_⟩⟩
         case rest =>
          clear HC51
          try clear c1
          try clear c2
          try clear p2
          try clear c3
          try clear c4
          try clear c5
          try clear c13
          try clear c15
          try clear c19
          try clear c21
          try clear c21b0
          try clear c21b1
          try clear c22
          try clear c24
          try clear c27
          try clear c28
          try clear c29
          try clear c31
          try clear c33
          try clear c34
          try clear c48
          try clear c50
          try clear c50b0
          try clear c50b1
          try clear c52
          try clear c54
          try clear c54b0
          try clear c55
          (try clear hcz17)
          (try clear hcz20)
          (try clear hcz23)
          (try clear hcz25)
          (try clear hcz35)
          (try clear hcz39)
          (try clear hcz43)
          (try clear hcz49)
          (try clear hcz53)
          (try clear hcz56)
          (try clear hcz8)
          try clear p2
          obtain ⟨kq, x7_50, rfl, HA, HJ50, HO_5, BK321, BK332, HB⟩ := hcut
          cases kq with
          | zero => exact absurd HA.out (by simp [stolonref16_Encode.j2])
          | succ kj50 =>
           have H := HA.out
           clear HA
           simp only [stolonref16_Encode.j2] at H
           replace H := Option.bind_eq_some_iff.mp H
           obtain ⟨t351, A570, H⟩ := H
           replace H : (if x5_25.length + t351.length < 140737488355328 then ((some (x5_25 ++ t351 : List Int)).bind fun y354 => ((stolonref16_number.f a0_6 4).bind fun t357 => (if y354.length + t357.length < 140737488355328 then ((some (y354 ++ t357 : List Int)).bind fun y360 => ((stolonref16_number.f (((l0_7.length : Int)) % 4294967296) 2).bind fun t363 => (if y360.length + t363.length < 140737488355328 then (stolonref16_Encode.l0 kj50 (y360 ++ t363) 0 a0_0 a0_1 a0_2 a0_3 a0_4 a0_5 a0_6 l0_7 a0_8 a0_9 l0_10 a0_2 a0_3 a0_4 a0_5 a0_6 l0_7) else (none)))) else (none)))) else (none)) = some (r1, r2) := H
           have A57 := m_ A570
           clear A570
           by_cases c58 : x5_25.length + t351.length < 140737488355328
           ·rw [if_pos c58] at H
            have LMc58 := m_ c58
            clear c58
            obtain ⟨y354, hy354⟩ : ∃ y_ : List Int, y_ = (x5_25 ++ t351) := ⟨_, rfl⟩
            replace H : ((stolonref16_number.f a0_6 4).bind fun t357 => (if y354.length + t357.length < 140737488355328 then ((some (y354 ++ t357 : List Int)).bind fun y360 => ((stolonref16_number.f (((l0_7.length : Int)) % 4294967296) 2).bind fun t363 => (if y360.length + t363.length < 140737488355328 then (stolonref16_Encode.l0 kj50 (y360 ++ t363) 0 a0_0 a0_1 a0_2 a0_3 a0_4 a0_5 a0_6 l0_7 a0_8 a0_9 l0_10 a0_2 a0_3 a0_4 a0_5 a0_6 l0_7) else (none)))) else (none))) = some (r1, r2) := by first | (rw [hy354]; with_reducible exact H) | (have H2_ := (Option.bind_some _ _).symm.trans H; rw [hy354]; with_reducible exact H2_) | (have H2_ := (Option.bind_some _ _).symm.trans H; with_reducible exact H2_) | with_reducible exact H | (rw [hy354]; exact H) | exact H
            have Ny354 := m_ hy354
            clear hy354
            replace H := Option.bind_eq_some_iff.mp H
            obtain ⟨t357, A590, H⟩ := H
            replace H : (if y354.length + t357.length < 140737488355328 then ((some (y354 ++ t357 : List Int)).bind fun y360 => ((stolonref16_number.f (((l0_7.length : Int)) % 4294967296) 2).bind fun t363 => (if y360.length + t363.length < 140737488355328 then (stolonref16_Encode.l0 kj50 (y360 ++ t363) 0 a0_0 a0_1 a0_2 a0_3 a0_4 a0_5 a0_6 l0_7 a0_8 a0_9 l0_10 a0_2 a0_3 a0_4 a0_5 a0_6 l0_7) else (none)))) else (none)) = some (r1, r2) := H
            have A59 := m_ A590
            clear A590
            by_cases c60 : y354.length + t357.length < 140737488355328
            ·rw [if_pos c60] at H
             have LMc60 := m_ c60
             clear c60
             obtain ⟨y360, hy360⟩ : ∃ y_ : List Int, y_ = (y354 ++ t357) := ⟨_, rfl⟩
             replace H : ((stolonref16_number.f (((l0_7.length : Int)) % 4294967296) 2).bind fun t363 => (if y360.length + t363.length < 140737488355328 then (stolonref16_Encode.l0 kj50 (y360 ++ t363) 0 a0_0 a0_1 a0_2 a0_3 a0_4 a0_5 a0_6 l0_7 a0_8 a0_9 l0_10 a0_2 a0_3 a0_4 a0_5 a0_6 l0_7) else (none))) = some (r1, r2) := by first | (rw [hy360]; with_reducible exact H) | (have H2_ := (Option.bind_some _ _).symm.trans H; rw [hy360]; with_reducible exact H2_) | (have H2_ := (Option.bind_some _ _).symm.trans H; with_reducible exact H2_) | with_reducible exact H | (rw [hy360]; exact H) | exact H
             have Ny360 := m_ hy360
             clear hy360
             replace H := Option.bind_eq_some_iff.mp H
             obtain ⟨t363, A610, H⟩ := H
             replace H : (if y360.length + t363.length < 140737488355328 then (stolonref16_Encode.l0 kj50 (y360 ++ t363) 0 a0_0 a0_1 a0_2 a0_3 a0_4 a0_5 a0_6 l0_7 a0_8 a0_9 l0_10 a0_2 a0_3 a0_4 a0_5 a0_6 l0_7) else (none)) = some (r1, r2) := H
             have A61 := m_ A610
             clear A610
             by_cases c62 : y360.length + t363.length < 140737488355328
             ·rw [if_pos c62] at H
              have LMc62 := m_ c62
              clear c62
              obtain ⟨y366, hy366⟩ : ∃ y_ : List Int, y_ = (y360 ++ t363) := ⟨_, rfl⟩
              replace H : (stolonref16_Encode.l0 kj50 y366 0 a0_0 a0_1 a0_2 a0_3 a0_4 a0_5 a0_6 l0_7 a0_8 a0_9 l0_10 a0_2 a0_3 a0_4 a0_5 a0_6 l0_7) = some (r1, r2) := by first | (rw [hy366]; with_reducible exact H) | (have H2_ := (Option.bind_some _ _).symm.trans H; rw [hy366]; with_reducible exact H2_) | (have H2_ := (Option.bind_some _ _).symm.trans H; with_reducible exact H2_) | with_reducible exact H | (rw [hy366]; exact H) | exact H
              have Ny366 := m_ hy366
              clear hy366
              have H' := m_ H
              clear H
              go_wp2_with (first | ((with_reducible refine gate_callee (f := 28) rfl ?_); refine gL_ (some 56) Try.func28 #[.int .u32 x7_50, .int .i64 2] ?_; (with_reducible refine (stolonref16_number.calls x7_50 2 t351 _ A57.out).mono ?_); rintro e w63 ⟨v352, rfl, ho0, hb⟩; refine ⟨_, rfl, ?_⟩; have HO353 := m_ (Kd.Q_lower (Kd.Q_new' ho0 (Kd.R_lt (Rz_ HO_5.out))) (below_size bz_)); replace HO_5 := m_ (Kd.R_elder' (Rz_ HO_5.out) (Kd.Q_base ho0) hb); replace BK321 := m_ (kl_ gb321 hb); replace BK332 := m_ (kl_ gb332 hb); replace HB := m_ (below_step bz_ hb); (try clear hb); (try clear hb2); (try clear hk); (try clear hi); (try clear ho0); obtain ⟨Ao65, co65, eo65, _⟩ := Kd.Q_slice HO353.out; subst eo65) | ((with_reducible refine gate_builtin (b := .append) (xs := #[.tmp 54, .tmp 56]) rfl ?_); at_builtin; refine Kd.R_append_rows (Kd.int .u8) (w0 := w) w.heap.size rfl (.tmp 54) (.tmp 56) 27 5 (.int .u8 0) 1 rfl Try.underlying27 info5 rfl (by decide) (by omega) u5 x5_25 t351 _ _ _ (fun k_ => some k_ ≠ (.slice Ao65 t351.length co65 : Value).ownBlock) (fun _ => False) rfl rfl ?aO ?aR (fun _ _ h => h) (fun _ h => h.elim) ?aF ?aB ?aS ?aL ?_; (case aR => exact Cd_ (Kd.Q_reads' HO353.out).2.2); (case aB => exact bz_); (case aF => exact (fun k_ hk => Kd.fresh' (Kd.Q_lt (Qz_ HO353.out)) k_ hk)); (case aO => exact (Ry_ (Kd.R_mono HO_5.out (fun _ hk => hk.2)))); (case aS => exact (below_size bz_)); (case aL => have := LMc58.out; omega); intro v355 w64 ho hb hg hat; rw [← Ny354.out] at ho; have HO356 := m_ (ho); replace BK321 := m_ (blk_grown (g := gb321) (o := .cells #[.int .u8 a0_0, .int .u32 a0_1, .int .u32 a0_2, .int .u32 a0_3, .int .u32 a0_4, .int .i64 a0_5, .int .u32 a0_6, .slice A0_7 l0_7.length c0_7, .int .i64 a0_8, .bool a0_9, .slice A0_10 l0_10.length c0_10] 29 (0, 0)) kz_ hg (Kd.R_ne HO_5.out BK321.out (by decide))); replace BK332 := m_ (blk_grown (g := gb332) (o := .cells #[.int .u32 a0_2, .int .u32 a0_3, .int .u32 a0_4, .int .i64 a0_5, .int .u32 a0_6, .slice A0_7 l0_7.length c0_7] 26 (0, 0)) kz_ hg (Kd.R_ne HO_5.out BK332.out (by decide))); replace HO353 := m_ (Kd.Q_after (ok := (fun _ => True)) (Qz_ HO353.out) hg hat); replace HB := m_ (hb); clear HO_5 ho hb hg hat; have hnb66 := NB332_321.out; have hnc66 := NB321_332.out; have hcz67 := cz6_ BK332.out) | ((with_reducible refine gate_callee (f := 28) rfl ?_); refine gL_ (some 61) Try.func28 #[.int .u32 a0_6, .int .i64 4] ?_; (with_reducible refine (stolonref16_number.calls a0_6 4 t357 _ A59.out).mono ?_); rintro e w68 ⟨v358, rfl, ho0, hb⟩; refine ⟨_, rfl, ?_⟩; have HO359 := m_ (Kd.Q_lower (Kd.Q_new' (Kd.Q_new' ho0 (Kd.Q_lt (Qz_ HO353.out))) (Kd.R_lt (Rz_ HO356.out))) (below_size bz_)); replace HO353 := m_ (Kd.Q_elder' (Qz_ HO353.out) (Kd.Q_base ho0) hb); replace HO356 := m_ (Kd.R_elder' (Rz_ HO356.out) (Kd.Q_base ho0) hb); replace BK321 := m_ (kl_ gb321 hb); replace BK332 := m_ (kl_ gb332 hb); replace HB := m_ (below_step bz_ hb); (try clear hb); (try clear hb2); (try clear hk); (try clear hi); (try clear ho0); obtain ⟨Ao70, co70, eo70, _⟩ := Kd.Q_slice HO359.out; subst eo70) | ((with_reducible refine gate_builtin (b := .append) (xs := #[.tmp 58, .tmp 61]) rfl ?_); at_builtin; refine Kd.R_append_rows (Kd.int .u8) (w0 := w) w.heap.size rfl (.tmp 58) (.tmp 61) 27 5 (.int .u8 0) 1 rfl Try.underlying27 info5 rfl (by decide) (by omega) v355 y354 t357 _ _ _ (fun k_ => some k_ ≠ (.slice Ao65 t351.length co65 : Value).ownBlock ∧ some k_ ≠ (.slice Ao70 t357.length co70 : Value).ownBlock) (fun _ => False) rfl rfl ?aO ?aR (fun _ _ h => h) (fun _ h => h.elim) ?aF ?aB ?aS ?aL ?_; (case aR => exact Cd_ (Kd.Q_reads' HO359.out).2.2); (case aB => exact bz_); (case aF => exact (fun k_ hk => ⟨Kd.fresh' (Kd.Q_lt (Qz_ HO353.out)) k_ hk, Kd.fresh' (Kd.Q_lt (Qz_ HO359.out)) k_ hk⟩)); (case aO => exact (Rz_ HO356.out)); (case aS => exact (below_size bz_)); (case aL => have := LMc60.out; omega); intro v361 w69 ho hb hg hat; rw [← Ny360.out] at ho; have HO362 := m_ (ho); replace BK321 := m_ (blk_grown (g := gb321) (o := .cells #[.int .u8 a0_0, .int .u32 a0_1, .int .u32 a0_2, .int .u32 a0_3, .int .u32 a0_4, .int .i64 a0_5, .int .u32 a0_6, .slice A0_7 l0_7.length c0_7, .int .i64 a0_8, .bool a0_9, .slice A0_10 l0_10.length c0_10] 29 (0, 0)) kz_ hg (Kd.R_ne HO356.out BK321.out (by decide))); replace BK332 := m_ (blk_grown (g := gb332) (o := .cells #[.int .u32 a0_2, .int .u32 a0_3, .int .u32 a0_4, .int .i64 a0_5, .int .u32 a0_6, .slice A0_7 l0_7.length c0_7] 26 (0, 0)) kz_ hg (Kd.R_ne HO356.out BK332.out (by decide))); replace HO353 := m_ (Kd.Q_after (ok := (fun k_ => some k_ ≠ (.slice Ao70 t357.length co70 : Value).ownBlock)) (Qy_ (Kd.Q_mono HO353.out (fun _ hk => ⟨hk.2, hk.1.2⟩))) hg hat); replace HO359 := m_ (Kd.Q_after (ok := (fun k_ => some k_ ≠ (.slice Ao65 t351.length co65 : Value).ownBlock)) (Qy_ (Kd.Q_mono HO359.out (fun _ hk => ⟨hk.1.2, hk.2⟩))) hg hat); replace HB := m_ (hb); clear HO356 ho hb hg hat; have hcz71 := cz6_ BK332.out) | ((with_reducible refine gate_callee (f := 28) rfl ?_); refine gL_ (some 68) Try.func28 #[.int .u32 (((l0_7.length : Int)) % 4294967296), .int .i64 2] ?_; (with_reducible refine (stolonref16_number.calls (((l0_7.length : Int)) % 4294967296) 2 t363 _ A61.out).mono ?_); rintro e w72 ⟨v364, rfl, ho0, hb⟩; refine ⟨_, rfl, ?_⟩; have HO365 := m_ (Kd.Q_lower (Kd.Q_new' (Kd.Q_new' (Kd.Q_new' ho0 (Kd.Q_lt (Qz_ HO353.out))) (Kd.Q_lt (Qz_ HO359.out))) (Kd.R_lt (Rz_ HO362.out))) (below_size bz_)); replace HO353 := m_ (Kd.Q_elder' (Qz_ HO353.out) (Kd.Q_base ho0) hb); replace HO359 := m_ (Kd.Q_elder' (Qz_ HO359.out) (Kd.Q_base ho0) hb); replace HO362 := m_ (Kd.R_elder' (Rz_ HO362.out) (Kd.Q_base ho0) hb); replace BK321 := m_ (kl_ gb321 hb); replace BK332 := m_ (kl_ gb332 hb); replace HB := m_ (below_step bz_ hb); (try clear hb); (try clear hb2); (try clear hk); (try clear hi); (try clear ho0); obtain ⟨Ao74, co74, eo74, _⟩ := Kd.Q_slice HO365.out; subst eo74) | ((with_reducible refine gate_builtin (b := .append) (xs := #[.tmp 63, .tmp 68]) rfl ?_); at_builtin; refine Kd.R_append_rows (Kd.int .u8) (w0 := w) w.heap.size rfl (.tmp 63) (.tmp 68) 27 5 (.int .u8 0) 1 rfl Try.underlying27 info5 rfl (by decide) (by omega) v361 y360 t363 _ _ _ (fun k_ => some k_ ≠ (.slice Ao65 t351.length co65 : Value).ownBlock ∧ some k_ ≠ (.slice Ao70 t357.length co70 : Value).ownBlock ∧ some k_ ≠ (.slice Ao74 t363.length co74 : Value).ownBlock) (fun _ => False) rfl rfl ?aO ?aR (fun _ _ h => h) (fun _ h => h.elim) ?aF ?aB ?aS ?aL ?_; (case aR => exact Cd_ (Kd.Q_reads' HO365.out).2.2); (case aB => exact bz_); (case aF => exact (fun k_ hk => ⟨Kd.fresh' (Kd.Q_lt (Qz_ HO353.out)) k_ hk, Kd.fresh' (Kd.Q_lt (Qz_ HO359.out)) k_ hk, Kd.fresh' (Kd.Q_lt (Qz_ HO365.out)) k_ hk⟩)); (case aO => exact (Ry_ (Kd.R_mono HO362.out (fun _ hk => ⟨hk.1.1, ⟨hk.1.2, hk.2⟩⟩)))); (case aS => exact (below_size bz_)); (case aL => have := LMc62.out; omega); intro v367 w73 ho hb hg hat; rw [← Ny366.out] at ho; have HO368 := m_ (ho); replace BK321 := m_ (blk_grown (g := gb321) (o := .cells #[.int .u8 a0_0, .int .u32 a0_1, .int .u32 a0_2, .int .u32 a0_3, .int .u32 a0_4, .int .i64 a0_5, .int .u32 a0_6, .slice A0_7 l0_7.length c0_7, .int .i64 a0_8, .bool a0_9, .slice A0_10 l0_10.length c0_10] 29 (0, 0)) kz_ hg (Kd.R_ne HO362.out BK321.out (by decide))); replace BK332 := m_ (blk_grown (g := gb332) (o := .cells #[.int .u32 a0_2, .int .u32 a0_3, .int .u32 a0_4, .int .i64 a0_5, .int .u32 a0_6, .slice A0_7 l0_7.length c0_7] 26 (0, 0)) kz_ hg (Kd.R_ne HO362.out BK332.out (by decide))); replace HO353 := m_ (Kd.Q_after (ok := (fun k_ => some k_ ≠ (.slice Ao70 t357.length co70 : Value).ownBlock ∧ some k_ ≠ (.slice Ao74 t363.length co74 : Value).ownBlock)) (Qy_ (Kd.Q_mono HO353.out (fun _ hk => ⟨⟨hk.1.1, hk.2⟩, hk.1.2⟩))) hg hat); replace HO359 := m_ (Kd.Q_after (ok := (fun k_ => some k_ ≠ (.slice Ao65 t351.length co65 : Value).ownBlock ∧ some k_ ≠ (.slice Ao74 t363.length co74 : Value).ownBlock)) (Qy_ (Kd.Q_mono HO359.out (fun _ hk => ⟨⟨hk.1.1, hk.2⟩, hk.1.2⟩))) hg hat); replace HO365 := m_ (Kd.Q_after (ok := (fun k_ => some k_ ≠ (.slice Ao65 t351.length co65 : Value).ownBlock ∧ some k_ ≠ (.slice Ao70 t357.length co70 : Value).ownBlock)) (Qy_ (Kd.Q_mono HO365.out (fun _ hk => ⟨⟨hk.1.1.2, hk.1.2⟩, hk.2⟩))) hg hat); replace HB := m_ (hb); clear HO362 ho hb hg hat))
              go_loopg [5, 8] kj50 (fun kq v5 v8 w' => ∃ (x5_4 : List Int) (x8_4 : Int), v8 = .int .i64 x8_4 ∧ Aside0 (stolonref16_Encode.l0 kq x5_4 x8_4 a0_0 a0_1 a0_2 a0_3 a0_4 a0_5 a0_6 l0_7 a0_8 a0_9 l0_10 a0_2 a0_3 a0_4 a0_5 a0_6 l0_7 = some (r1, r2)) ∧ Aside0 (kq ≤ kj50) ∧ Aside0 (Kd.R (Kd.int .u8) 5 w' w.heap.size (fun _ => True) v5 x5_4) ∧ Aside0 (w'.heap[gb321]? = some (.cells #[.int .u8 a0_0, .int .u32 a0_1, .int .u32 a0_2, .int .u32 a0_3, .int .u32 a0_4, .int .i64 a0_5, .int .u32 a0_6, (.slice A0_7 l0_7.length c0_7), .int .i64 a0_8, .bool a0_9, (.slice A0_10 l0_10.length c0_10)] 29 (0, 0))) ∧ Aside0 (w'.heap[gb332]? = some (.cells #[.int .u32 a0_2, .int .u32 a0_3, .int .u32 a0_4, .int .i64 a0_5, .int .u32 a0_6, (.slice A0_7 l0_7.length c0_7)] 26 (0, 0))) ∧ Aside0 (Below w.heap.size w w'))
              case atStart => exact ⟨(y366), (0), (by first | rfl | (simp; done) | (simp [*]; done)), H', ⟨Nat.le_refl _⟩, ⟨Ry_ (Kd.R_mono HO368.out (fun _ hk => trivial))⟩, ⟨kz_⟩, ⟨kz_⟩, ⟨bz_⟩⟩
              case round =>
               clear H'
               try clear c1
               try clear c2
               try clear p2
               try clear c3
               try clear c4
               try clear c5
               try clear c6
               try clear c13
               try clear c15
               try clear c19
               try clear c21
               try clear c21b0
               try clear c21b1
               try clear c22
               try clear c24
               try clear c27
               try clear c28
               try clear c29
               try clear c31
               try clear c33
               try clear c34
               try clear c48
               try clear c50
               try clear c50b0
               try clear c50b1
               try clear c52
               try clear c54
               try clear c54b0
               try clear c55
               try clear c58
               try clear c60
               try clear c62
               try clear c66
               (try clear hcz17)
               (try clear hcz20)
               (try clear hcz23)
               (try clear hcz25)
               (try clear hcz35)
               (try clear hcz39)
               (try clear hcz43)
               (try clear hcz49)
               (try clear hcz53)
               (try clear hcz56)
               (try clear hcz67)
               (try clear hcz71)
               (try clear hcz8)
               try clear p2
               obtain ⟨x5_4, x8_4, rfl, HA, HK4, HO_5, BK321, BK332, HB⟩ := hrel
               cases gk with
               | zero => exact absurd HA.out (by simp [stolonref16_Encode.l0])
               | succ k4 =>
                have H := HA.out
                clear HA
                simp only [stolonref16_Encode.l0] at H
                by_cases c75 : x8_4 < (l0_7.length : Int)
                ·rw [if_pos c75] at H
                 have c75b0 : decide (x8_4 < (l0_7.length : Int)) = true := decide_eq_true c75
                 clear c75
                 by_cases c76 : 0 ≤ x8_4
                 ·rw [if_pos c76] at H
                  have c76b0 : decide (0 ≤ x8_4) = true := decide_eq_true c76
                  clear c76
                  by_cases c77 : x5_4.length < 140737488355328
                  ·rw [if_pos c77] at H
                   have LMc77 := m_ c77
                   clear c77
                   obtain ⟨y370, hy370⟩ : ∃ y_ : List Int, y_ = (x5_4 ++ [((rd_T59 l0_7 x8_4).f0) % 256]) := ⟨_, rfl⟩
                   replace H : (stolonref16_Encode.l0 k4 y370 (wrap64 (x8_4 + 1)) a0_0 a0_1 a0_2 a0_3 a0_4 a0_5 a0_6 l0_7 a0_8 a0_9 l0_10 a0_2 a0_3 a0_4 a0_5 a0_6 l0_7) = some (r1, r2) := by first | (rw [hy370]; with_reducible exact H) | (have H2_ := (Option.bind_some _ _).symm.trans H; rw [hy370]; with_reducible exact H2_) | (have H2_ := (Option.bind_some _ _).symm.trans H; with_reducible exact H2_) | with_reducible exact H | (rw [hy370]; exact H) | exact H
                   have Ny370 := m_ hy370
                   clear hy370
                   have H' := m_ H
                   clear H
                   have hnb78 := NB332_321.out
                   have hnc78 := NB321_332.out
                   have hcz79 := cz6_ BK332.out
                   have p369 : 0 ≤ (x8_4 : Int) := od_
                   have q369 : x8_4 < (l0_7.length : Int) := od_
                   obtain ⟨ad369, e369, hx369_0, hx369_1⟩ := at_T59 HR0_7.out x8_4 p369 q369
                   cases e369
                   replace hx369_0 := kp_ HB.out hx369_0
                   replace hx369_1 := kp_ HB.out hx369_1
                   replace p369 := eq_true p369
                   replace q369 := eq_true q369
                   go_wp2_with (first | ((with_reducible refine gate_builtin (b := .append) (xs := #[.tmp 77, .tmp 85]) rfl ?_); at_builtin; refine Kd.R_append (Kd.int .u8) (w0 := w) w.heap.size rfl (.tmp 77) (.tmp 85) 27 5 (.int .u8 0) 1 rfl Try.underlying27 info5 rfl (by decide) (by omega) u5 x5_4 (((rd_T59 l0_7 x8_4).f0) % 256) [.int .u8 (((rd_T59 l0_7 x8_4).f0) % 256)] (fun _ => True) (fun _ => False) rfl rfl ?aP (fun _ hk => hk.elim) ?aF ?aO ?aB ?aS ?aL ?_; (case aP => exact rfl); (case aB => exact bz_); (case aF => exact (fun _ _ => trivial)); (case aO => exact (Rz_ HO_5.out)); (case aS => exact (below_size bz_)); (case aL => have := LMc77.out; omega); intro v371 w80 ho hb hg hat; rw [← Ny370.out] at ho; have HO372 := m_ (ho); replace BK321 := m_ (blk_grown (g := gb321) (o := .cells #[.int .u8 a0_0, .int .u32 a0_1, .int .u32 a0_2, .int .u32 a0_3, .int .u32 a0_4, .int .i64 a0_5, .int .u32 a0_6, .slice (some ad369) l0_7.length c0_7, .int .i64 a0_8, .bool a0_9, .slice A0_10 l0_10.length c0_10] 29 (0, 0)) kz_ hg (Kd.R_ne HO_5.out BK321.out (by decide))); replace BK332 := m_ (blk_grown (g := gb332) (o := .cells #[.int .u32 a0_2, .int .u32 a0_3, .int .u32 a0_4, .int .i64 a0_5, .int .u32 a0_6, .slice (some ad369) l0_7.length c0_7] 26 (0, 0)) kz_ hg (Kd.R_ne HO_5.out BK332.out (by decide))); replace HB := m_ (hb); clear HO_5 ho hb hg hat))
                   go_roundg k4
                   case measure => have := HJ5.out; have := HJ25.out; have := HJ50.out; have := HK4.out; omega
                   case rel => exact ⟨(y370), (wrap64 (x8_4 + 1)), (by first | rfl | (simp; done) | (simp [*]; done)), H', ⟨by have := HJ5.out; have := HJ25.out; have := HJ50.out; have := HK4.out; omega⟩, ⟨Rz_ HO372.out⟩, ⟨kz_⟩, ⟨kz_⟩, ⟨bz_⟩⟩
                  ·rw [if_neg c77] at H
                   exact absurd H (by simp)
                 ·rw [if_neg c76] at H
                  exact absurd H (by simp)
                ·rw [if_neg c75] at H
                 have c75b0 : decide (x8_4 < (l0_7.length : Int)) = false := decide_eq_false c75
                 clear c75
                 have H' := m_ H
                 clear H
                 have hnb81 := NB332_321.out
                 have hnc81 := NB321_332.out
                 have hcz82 := cz6_ BK332.out
                 go_wp2
                 go_meet
                 case rel => exact ⟨_, (x5_4), H', ⟨by have := HJ5.out; have := HJ25.out; have := HJ50.out; have := HK4.out; first | omega | exact Nat.le_refl _⟩, ⟨Rz_ HO_5.out⟩, ⟨kz_⟩, ⟨kz_⟩, ⟨bz_⟩⟩
             ·rw [if_neg c62] at H
              exact absurd H (by simp)
            ·rw [if_neg c60] at H
             exact absurd H (by simp)
           ·rw [if_neg c58] at H
            exact absurd H (by simp)
        ·rw [if_neg c50] at H
         have c50b0 : (a0_0 == 1) = false := beq_eq_false_iff_ne.mpr c50
         have c50b1 : (a0_0 != 1) = true := bne_iff_ne.mpr c50
         (first | rw [c50b0] | (simp only [i64_w, i32_w]; rw [c50b0]) | skip)
         have H' := m_ H
         clear H
         go_wp2
         go_meet
         case rel => exact ⟨_, (x5_25), H', ⟨by have := HJ5.out; have := HJ25.out; first | omega | exact Nat.le_refl _⟩, ⟨Rz_ HO_5.out⟩, ⟨kz_⟩, ⟨kz_⟩, ⟨bz_⟩⟩
       case rest =>
        clear HC47
        try clear c1
        try clear c2
        try clear p2
        try clear c3
        try clear p3
        try clear q3
        try clear hx3
        try clear c4
        try clear c5
        try clear c6
        try clear p6
        try clear c7
        try clear c8
        try clear c13
        try clear c15
        try clear c19
        try clear c21
        try clear c21b0
        try clear c21b1
        try clear c22
        try clear c24
        try clear c27
        try clear c28
        try clear c29
        try clear c31
        try clear c33
        try clear c34
        try clear p36
        try clear q36
        try clear hx36
        try clear c48
        try clear c50
        try clear c50b0
        try clear c50b1
        try clear c52
        try clear c54
        try clear c54b0
        try clear c55
        try clear c58
        try clear c60
        try clear c62
        try clear p64
        try clear c66
        try clear c75
        try clear c75b0
        try clear c76
        try clear c76b0
        try clear c77
        try clear c78
        try clear c81
        (try clear hcz17)
        (try clear hcz20)
        (try clear hcz23)
        (try clear hcz25)
        (try clear hcz35)
        (try clear hcz39)
        (try clear hcz43)
        (try clear hcz49)
        (try clear hcz53)
        (try clear hcz56)
        (try clear hcz67)
        (try clear hcz71)
        (try clear hcz79)
        (try clear hcz82)
        (try clear hcz8)
        try clear hx369_0
        try clear hx369_1
        try clear p2
        try clear p369
        try clear q369
        obtain ⟨kq, x5_46, HA, HJ46, HO_5, BK321, BK332, HB⟩ := hcut
        cases kq with
        | zero => exact absurd HA.out (by simp [stolonref16_Encode.j4])
        | succ kj46 =>
         have H := HA.out
         clear HA
         simp only [stolonref16_Encode.j4] at H
         by_cases c83 : a0_0 = 7
         ·rw [if_pos c83] at H
          have c83b0 : (a0_0 == 7) = true := beq_iff_eq.mpr c83
          have c83b1 : (a0_0 != 7) = false := bne_eq_false_iff_eq.mpr c83
          clear c83
          obtain ⟨y373, hy373⟩ : ∃ y_ : List Int, y_ = (([(a0_8) % 256, 0] : List Int)) := ⟨_, rfl⟩
          replace H : (if x5_46.length + y373.length < 140737488355328 then ((some (x5_46 ++ y373 : List Int)).bind fun y376 => (if a0_9 = true then (if 0 ≤ (wrap64 ((y376.length : Int) - 1)) then (if (wrap64 ((y376.length : Int) - 1)) < (y376.length : Int) then ((some (y376.set ((wrap64 ((y376.length : Int) - 1)) : Int).toNat 1 : List Int)).bind fun y379 => (if a0_0 = 8 then (if y379.length < 140737488355328 then ((some (y379 ++ [(a0_8) % 256] : List Int)).bind fun y380 => (if y380.length + l0_10.length < 140737488355328 then ((some (y380 ++ l0_10 : List Int)).bind fun y383 => ((stolonref16_number.f ((wrap64 ((y383.length : Int) + 2)) % 4294967296) 2).bind fun t386 => (if t386.length + y383.length < 140737488355328 then (some ((t386 ++ y383), 0)) else (none)))) else (none))) else (none)) else (if a0_0 = 9 then (if y379.length < 140737488355328 then ((some (y379 ++ [(a0_8) % 256] : List Int)).bind fun y392 => (if y392.length + l0_10.length < 140737488355328 then ((some (y392 ++ l0_10 : List Int)).bind fun y395 => ((stolonref16_number.f ((wrap64 ((y395.length : Int) + 2)) % 4294967296) 2).bind fun t398 => (if t398.length + y395.length < 140737488355328 then (some ((t398 ++ y395), 0)) else (none)))) else (none))) else (none)) else ((stolonref16_number.f ((wrap64 ((y376.length : Int) + 2)) % 4294967296) 2).bind fun t404 => (if t404.length + y379.length < 140737488355328 then (some ((t404 ++ y379), 0)) else (none)))))) else (none)) else (none)) else (if a0_0 = 8 then (if y376.length < 140737488355328 then ((some (y376 ++ [(a0_8) % 256] : List Int)).bind fun y410 => (if y410.length + l0_10.length < 140737488355328 then ((some (y410 ++ l0_10 : List Int)).bind fun y413 => ((stolonref16_number.f ((wrap64 ((y413.length : Int) + 2)) % 4294967296) 2).bind fun t416 => (if t416.length + y413.length < 140737488355328 then (some ((t416 ++ y413), 0)) else (none)))) else (none))) else (none)) else (if a0_0 = 9 then (if y376.length < 140737488355328 then ((some (y376 ++ [(a0_8) % 256] : List Int)).bind fun y422 => (if y422.length + l0_10.length < 140737488355328 then ((some (y422 ++ l0_10 : List Int)).bind fun y425 => ((stolonref16_number.f ((wrap64 ((y425.length : Int) + 2)) % 4294967296) 2).bind fun t428 => (if t428.length + y425.length < 140737488355328 then (some ((t428 ++ y425), 0)) else (none)))) else (none))) else (none)) else ((stolonref16_number.f ((wrap64 ((y376.length : Int) + 2)) % 4294967296) 2).bind fun t434 => (if t434.length + y376.length < 140737488355328 then (some ((t434 ++ y376), 0)) else (none))))))) else (none)) = some (r1, r2) := by first | (rw [hy373]; with_reducible exact H) | (have H2_ := (Option.bind_some _ _).symm.trans H; rw [hy373]; with_reducible exact H2_) | (have H2_ := (Option.bind_some _ _).symm.trans H; with_reducible exact H2_) | with_reducible exact H | (rw [hy373]; exact H) | exact H
          have Ny373 := m_ hy373
          clear hy373
          by_cases c84 : x5_46.length + y373.length < 140737488355328
          ·rw [if_pos c84] at H
           have LMc84 := m_ c84
           clear c84
           obtain ⟨y376, hy376⟩ : ∃ y_ : List Int, y_ = (x5_46 ++ y373) := ⟨_, rfl⟩
           replace H : (if a0_9 = true then (if 0 ≤ (wrap64 ((y376.length : Int) - 1)) then (if (wrap64 ((y376.length : Int) - 1)) < (y376.length : Int) then ((some (y376.set ((wrap64 ((y376.length : Int) - 1)) : Int).toNat 1 : List Int)).bind fun y379 => (if a0_0 = 8 then (if y379.length < 140737488355328 then ((some (y379 ++ [(a0_8) % 256] : List Int)).bind fun y380 => (if y380.length + l0_10.length < 140737488355328 then ((some (y380 ++ l0_10 : List Int)).bind fun y383 => ((stolonref16_number.f ((wrap64 ((y383.length : Int) + 2)) % 4294967296) 2).bind fun t386 => (if t386.length + y383.length < 140737488355328 then (some ((t386 ++ y383), 0)) else (none)))) else (none))) else (none)) else (if a0_0 = 9 then (if y379.length < 140737488355328 then ((some (y379 ++ [(a0_8) % 256] : List Int)).bind fun y392 => (if y392.length + l0_10.length < 140737488355328 then ((some (y392 ++ l0_10 : List Int)).bind fun y395 => ((stolonref16_number.f ((wrap64 ((y395.length : Int) + 2)) % 4294967296) 2).bind fun t398 => (if t398.length + y395.length < 140737488355328 then (some ((t398 ++ y395), 0)) else (none)))) else (none))) else (none)) else ((stolonref16_number.f ((wrap64 ((y376.length : Int) + 2)) % 4294967296) 2).bind fun t404 => (if t404.length + y379.length < 140737488355328 then (some ((t404 ++ y379), 0)) else (none)))))) else (none)) else (none)) else (if a0_0 = 8 then (if y376.length < 140737488355328 then ((some (y376 ++ [(a0_8) % 256] : List Int)).bind fun y410 => (if y410.length + l0_10.length < 140737488355328 then ((some (y410 ++ l0_10 : List Int)).bind fun y413 => ((stolonref16_number.f ((wrap64 ((y413.length : Int) + 2)) % 4294967296) 2).bind fun t416 => (if t416.length + y413.length < 140737488355328 then (some ((t416 ++ y413), 0)) else (none)))) else (none))) else (none)) else (if a0_0 = 9 then (if y376.length < 140737488355328 then ((some (y376 ++ [(a0_8) % 256] : List Int)).bind fun y422 => (if y422.length + l0_10.length < 140737488355328 then ((some (y422 ++ l0_10 : List Int)).bind fun y425 => ((stolonref16_number.f ((wrap64 ((y425.length : Int) + 2)) % 4294967296) 2).bind fun t428 => (if t428.length + y425.length < 140737488355328 then (some ((t428 ++ y425), 0)) else (none)))) else (none))) else (none)) else ((stolonref16_number.f ((wrap64 ((y376.length : Int) + 2)) % 4294967296) 2).bind fun t434 => (if t434.length + y376.length < 140737488355328 then (some ((t434 ++ y376), 0)) else (none)))))) = some (r1, r2) := by first | (rw [hy376]; with_reducible exact H) | (have H2_ := (Option.bind_some _ _).symm.trans H; rw [hy376]; with_reducible exact H2_) | (have H2_ := (Option.bind_some _ _).symm.trans H; with_reducible exact H2_) | with_reducible exact H | (rw [hy376]; exact H) | exact H
           have Ny376 := m_ hy376
           clear hy376
           by_cases c85 : a0_9 = true
           ·subst c85
            have H1 : (if 0 ≤ (wrap64 ((y376.length : Int) - 1)) then (if (wrap64 ((y376.length : Int) - 1)) < (y376.length : Int) then ((some (y376.set ((wrap64 ((y376.length : Int) - 1)) : Int).toNat 1 : List Int)).bind fun y379 => (if a0_0 = 8 then (if y379.length < 140737488355328 then ((some (y379 ++ [(a0_8) % 256] : List Int)).bind fun y380 => (if y380.length + l0_10.length < 140737488355328 then ((some (y380 ++ l0_10 : List Int)).bind fun y383 => ((stolonref16_number.f ((wrap64 ((y383.length : Int) + 2)) % 4294967296) 2).bind fun t386 => (if t386.length + y383.length < 140737488355328 then (some ((t386 ++ y383), 0)) else (none)))) else (none))) else (none)) else (if a0_0 = 9 then (if y379.length < 140737488355328 then ((some (y379 ++ [(a0_8) % 256] : List Int)).bind fun y392 => (if y392.length + l0_10.length < 140737488355328 then ((some (y392 ++ l0_10 : List Int)).bind fun y395 => ((stolonref16_number.f ((wrap64 ((y395.length : Int) + 2)) % 4294967296) 2).bind fun t398 => (if t398.length + y395.length < 140737488355328 then (some ((t398 ++ y395), 0)) else (none)))) else (none))) else (none)) else ((stolonref16_number.f ((wrap64 ((y376.length : Int) + 2)) % 4294967296) 2).bind fun t404 => (if t404.length + y379.length < 140737488355328 then (some ((t404 ++ y379), 0)) else (none)))))) else (none)) else (none)) = some (r1, r2) := by rw [if_pos rfl] at H; exact H
            clear H
            have H := H1
            clear H1
            obtain ⟨ji86, hji86⟩ : ∃ j_ : Int, (wrap64 ((y376.length : Int) - 1)) = j_ := ⟨_, rfl⟩
            replace H : (if 0 ≤ (ji86) then (if (ji86) < (y376.length : Int) then ((some (y376.set ((ji86) : Int).toNat 1 : List Int)).bind fun y379 => (if a0_0 = 8 then (if y379.length < 140737488355328 then ((some (y379 ++ [(a0_8) % 256] : List Int)).bind fun y380 => (if y380.length + l0_10.length < 140737488355328 then ((some (y380 ++ l0_10 : List Int)).bind fun y383 => ((stolonref16_number.f ((wrap64 ((y383.length : Int) + 2)) % 4294967296) 2).bind fun t386 => (if t386.length + y383.length < 140737488355328 then (some ((t386 ++ y383), 0)) else (none)))) else (none))) else (none)) else (if a0_0 = 9 then (if y379.length < 140737488355328 then ((some (y379 ++ [(a0_8) % 256] : List Int)).bind fun y392 => (if y392.length + l0_10.length < 140737488355328 then ((some (y392 ++ l0_10 : List Int)).bind fun y395 => ((stolonref16_number.f ((wrap64 ((y395.length : Int) + 2)) % 4294967296) 2).bind fun t398 => (if t398.length + y395.length < 140737488355328 then (some ((t398 ++ y395), 0)) else (none)))) else (none))) else (none)) else ((stolonref16_number.f ((wrap64 ((y376.length : Int) + 2)) % 4294967296) 2).bind fun t404 => (if t404.length + y379.length < 140737488355328 then (some ((t404 ++ y379), 0)) else (none)))))) else (none)) else (none)) = some (r1, r2) := by first | (rw [hji86] at H; exact H) | (simp only [hji86] at H ⊢; exact H)
            have hji86w : (IntKind.i64.wrap ((y376.length : Int) - 1)) = ji86 := (i64_w _).trans hji86
            by_cases c87 : 0 ≤ (ji86)
            ·rw [if_pos c87] at H
             have c87b0 : decide (0 ≤ (ji86)) = true := decide_eq_true c87
             clear c87
             by_cases c88 : (ji86) < (y376.length : Int)
             ·rw [if_pos c88] at H
              have c88b0 : decide ((ji86) < (y376.length : Int)) = true := decide_eq_true c88
              clear c88
              obtain ⟨y379, hy379⟩ : ∃ y_ : List Int, y_ = (y376.set ((ji86) : Int).toNat 1) := ⟨_, rfl⟩
              replace H : (if a0_0 = 8 then (if y379.length < 140737488355328 then ((some (y379 ++ [(a0_8) % 256] : List Int)).bind fun y380 => (if y380.length + l0_10.length < 140737488355328 then ((some (y380 ++ l0_10 : List Int)).bind fun y383 => ((stolonref16_number.f ((wrap64 ((y383.length : Int) + 2)) % 4294967296) 2).bind fun t386 => (if t386.length + y383.length < 140737488355328 then (some ((t386 ++ y383), 0)) else (none)))) else (none))) else (none)) else (if a0_0 = 9 then (if y379.length < 140737488355328 then ((some (y379 ++ [(a0_8) % 256] : List Int)).bind fun y392 => (if y392.length + l0_10.length < 140737488355328 then ((some (y392 ++ l0_10 : List Int)).bind fun y395 => ((stolonref16_number.f ((wrap64 ((y395.length : Int) + 2)) % 4294967296) 2).bind fun t398 => (if t398.length + y395.length < 140737488355328 then (some ((t398 ++ y395), 0)) else (none)))) else (none))) else (none)) else ((stolonref16_number.f ((wrap64 ((y376.length : Int) + 2)) % 4294967296) 2).bind fun t404 => (if t404.length + y379.length < 140737488355328 then (some ((t404 ++ y379), 0)) else (none))))) = some (r1, r2) := by first | (rw [hy379]; with_reducible exact H) | (have H2_ := (Option.bind_some _ _).symm.trans H; rw [hy379]; with_reducible exact H2_) | (have H2_ := (Option.bind_some _ _).symm.trans H; with_reducible exact H2_) | with_reducible exact H | (rw [hy379]; exact H) | exact H
              have Ny379 := m_ hy379
              clear hy379
              by_cases c90 : a0_0 = 8
              ·rw [if_pos c90] at H
               have c90b0 : (a0_0 == 8) = true := beq_iff_eq.mpr c90
               have c90b1 : (a0_0 != 8) = false := bne_eq_false_iff_eq.mpr c90
               clear c90
               by_cases c91 : y379.length < 140737488355328
               ·rw [if_pos c91] at H
                have LMc91 := m_ c91
                clear c91
                obtain ⟨y380, hy380⟩ : ∃ y_ : List Int, y_ = (y379 ++ [(a0_8) % 256]) := ⟨_, rfl⟩
                replace H : (if y380.length + l0_10.length < 140737488355328 then ((some (y380 ++ l0_10 : List Int)).bind fun y383 => ((stolonref16_number.f ((wrap64 ((y383.length : Int) + 2)) % 4294967296) 2).bind fun t386 => (if t386.length + y383.length < 140737488355328 then (some ((t386 ++ y383), 0)) else (none)))) else (none)) = some (r1, r2) := by first | (rw [hy380]; with_reducible exact H) | (have H2_ := (Option.bind_some _ _).symm.trans H; rw [hy380]; with_reducible exact H2_) | (have H2_ := (Option.bind_some _ _).symm.trans H; with_reducible exact H2_) | with_reducible exact H | (rw [hy380]; exact H) | exact H
                have Ny380 := m_ hy380
                clear hy380
                by_cases c92 : y380.length + l0_10.length < 140737488355328
                ·rw [if_pos c92] at H
                 have LMc92 := m_ c92
                 clear c92
                 obtain ⟨y383, hy383⟩ : ∃ y_ : List Int, y_ = (y380 ++ l0_10) := ⟨_, rfl⟩
                 replace H : ((stolonref16_number.f ((wrap64 ((y383.length : Int) + 2)) % 4294967296) 2).bind fun t386 => (if t386.length + y383.length < 140737488355328 then (some ((t386 ++ y383), 0)) else (none))) = some (r1, r2) := by first | (rw [hy383]; with_reducible exact H) | (have H2_ := (Option.bind_some _ _).symm.trans H; rw [hy383]; with_reducible exact H2_) | (have H2_ := (Option.bind_some _ _).symm.trans H; with_reducible exact H2_) | with_reducible exact H | (rw [hy383]; exact H) | exact H
                 have Ny383 := m_ hy383
                 clear hy383
                 replace H := Option.bind_eq_some_iff.mp H
                 obtain ⟨t386, A930, H⟩ := H
                 replace H : (if t386.length + y383.length < 140737488355328 then (some ((t386 ++ y383), 0)) else (none)) = some (r1, r2) := H
                 have A93 := m_ A930
                 clear A930
                 by_cases c94 : t386.length + y383.length < 140737488355328
                 ·rw [if_pos c94] at H
                  have LMc94 := m_ c94
                  clear c94
                  obtain ⟨y389, hy389⟩ : ∃ y_ : List Int, y_ = (t386 ++ y383) := ⟨_, rfl⟩
                  replace H : (some (y389, 0)) = some (r1, r2) := by first | (rw [hy389]; with_reducible exact H) | (have H2_ := (Option.bind_some _ _).symm.trans H; rw [hy389]; with_reducible exact H2_) | (have H2_ := (Option.bind_some _ _).symm.trans H; with_reducible exact H2_) | with_reducible exact H | (rw [hy389]; exact H) | exact H
                  have Ny389 := m_ hy389
                  clear hy389
                  simp only [Option.some.injEq, Prod.mk.injEq] at H
                  obtain ⟨rfl, rfl⟩ := H
                  have hnb95 := NB321_332.out
                  have hnc95 := NB332_321.out
                  have hcz96 := cz11_ BK321.out
                  go_wp2_with (first | ((with_reducible refine gate_dst (N := 94) rfl ?_); refine Kd.R_lit (Kd.int .u8) _ 5 ?hg (N := 94) ?hd (xs := ([(a0_8) % 256, 0] : List Int)) (inner := [.int .u8 ((a0_8) % 256), .int .u8 0]) (ok := fun _ => True) (okp := fun _ => True) ?hr ?hp (fun _ hk => hk) trivial (Below.refl _ _) (Nat.le_refl _) (by simp) ?_; (case hd => rfl); (case hg => rfl); (case hr => first | (go_simp; done) | (go_simp; rfl)); (case hp => exact (Reps.one (show Kd.M (Kd.int .u8) _ _ _ ((a0_8) % 256) [.int .u8 ((a0_8) % 256)] from rfl) (Reps.one (show Kd.M (Kd.int .u8) _ _ _ 0 [.int .u8 0] from rfl) (Reps.none _ _)))); intro v374 w97 ho98 hb hg_ hnew_; clear hg_ hnew_; (first | rw [← Ny373.out] at ho98 | (simp only [Int.reduceToNat] at ho98; rw [← Ny373.out] at ho98)); have HO375 := m_ (Kd.R_lower (Kd.R_new' ho98 (Kd.R_lt (Rz_ HO_5.out))) (below_size bz_)); replace HO_5 := m_ (Kd.R_elder' (Rz_ HO_5.out) (Kd.R_base ho98) hb); replace BK321 := m_ (kl_ gb321 hb); replace BK332 := m_ (kl_ gb332 hb); replace HB := m_ (below_step bz_ hb); clear hb ho98; obtain ⟨Ao100, co100, eo100⟩ := Kd.R_slice HO375.out; subst eo100) | ((with_reducible refine gate_builtin (b := .append) (xs := #[.tmp 90, .tmp 94]) rfl ?_); at_builtin; refine Kd.R_append_rows (Kd.int .u8) (w0 := w) w.heap.size rfl (.tmp 90) (.tmp 94) 27 5 (.int .u8 0) 1 rfl Try.underlying27 info5 rfl (by decide) (by omega) u5 x5_46 y373 _ _ _ (fun k_ => some k_ ≠ (.slice Ao100 y373.length co100 : Value).ownBlock) (fun _ => False) rfl rfl ?aO ?aR (fun _ _ h => h) (fun _ h => h.elim) ?aF ?aB ?aS ?aL ?_; (case aR => exact Cd_ (Kd.R_reads' HO375.out).2.2); (case aB => exact bz_); (case aF => exact (fun k_ hk => Kd.fresh' (Kd.R_lt (Rz_ HO375.out)) k_ hk)); (case aO => exact (Ry_ (Kd.R_mono HO_5.out (fun _ hk => hk.2)))); (case aS => exact (below_size bz_)); (case aL => have := LMc84.out; omega); intro v377 w99 ho hb hg hat; rw [← Ny376.out] at ho; have HO378 := m_ (ho); replace BK321 := m_ (blk_grown (g := gb321) (o := .cells #[.int .u8 a0_0, .int .u32 a0_1, .int .u32 a0_2, .int .u32 a0_3, .int .u32 a0_4, .int .i64 a0_5, .int .u32 a0_6, .slice A0_7 l0_7.length c0_7, .int .i64 a0_8, .bool true, .slice A0_10 l0_10.length c0_10] 29 (0, 0)) kz_ hg (Kd.R_ne HO_5.out BK321.out (by decide))); replace BK332 := m_ (blk_grown (g := gb332) (o := .cells #[.int .u32 a0_2, .int .u32 a0_3, .int .u32 a0_4, .int .i64 a0_5, .int .u32 a0_6, .slice A0_7 l0_7.length c0_7] 26 (0, 0)) kz_ hg (Kd.R_ne HO_5.out BK332.out (by decide))); replace HO375 := m_ (Kd.R_after (ok := (fun _ => True)) (Rz_ HO375.out) hg hat); replace HB := m_ (hb); clear HO_5 ho hb hg hat; have hcz101 := cz11_ BK321.out; obtain ⟨Ao102, co102, eo102⟩ := Kd.R_slice HO378.out; subst eo102; have p89 : 0 ≤ ((ji86) : Int) := od_; have q89 : ((ji86) : Int) < ((y376.length : Int) : Int) := od_; obtain ⟨go89, co89, eo89, gb89, gl89, cl89, HG89⟩ := Kd.R_form HO378.out (by omega); (first | cases eo89 | (injection eo89 with ea_ en_ ec_; (first | subst ea_ | (injection ea_ with ea_; subst ea_)); subst ec_; clear en_)); have GB89 := m_ gb89; have GG89 := m_ HG89; clear gb89 gl89 HG89; obtain ⟨hx89_0, hf89_0⟩ := Kd.R_celln 0 HO378.out ((ji86) : Int) p89 q89; replace p89 := eq_true p89; replace q89 := eq_true q89; obtain ⟨hy103_, hz103_⟩ := Kd.R_celln 0 HO378.out ((ji86) : Int) od_ od_; have HP103 := Kd.R_putg HO378.out ((ji86) : Int) 1) | ((with_reducible refine gate_store (t := 5) (p := 102) rfl ?_); refine st_ 5 102 (w99.setCell ⟨go89, ((ji86) : Int).toNat, none⟩ (.int .u8 1)) ?_; intro w104 hw; have hg : w99.grownBy w104 (some go89) := (by rw [hw]; exact HP103.2); have hp_ : Kd.R (Kd.int .u8) 5 w104 w.heap.size (fun k_ => some k_ ≠ (.slice Ao100 y373.length co100 : Value).ownBlock) (.slice (some ⟨go89, 0, none⟩) y376.length co102) y379 := (by rw [hw, Ny379.out]; exact HP103.1); clear HP103; replace BK321 := m_ (blk_grown (g := gb321) (o := .cells #[.int .u8 a0_0, .int .u32 a0_1, .int .u32 a0_2, .int .u32 a0_3, .int .u32 a0_4, .int .i64 a0_5, .int .u32 a0_6, .slice A0_7 l0_7.length c0_7, .int .i64 a0_8, .bool true, .slice A0_10 l0_10.length c0_10] 29 (0, 0)) kz_ hg (Kd.R_ne HO378.out BK321.out (by decide))); replace BK332 := m_ (blk_grown (g := gb332) (o := .cells #[.int .u32 a0_2, .int .u32 a0_3, .int .u32 a0_4, .int .i64 a0_5, .int .u32 a0_6, .slice A0_7 l0_7.length c0_7] 26 (0, 0)) kz_ hg (Kd.R_ne HO378.out BK332.out (by decide))); replace HO375 := m_ (Kd.R_after (v := (.slice (some ⟨go89, 0, none⟩) y376.length co102)) (v1 := (.slice (some ⟨go89, 0, none⟩) y376.length co102)) (ok := (fun _ => True)) (Rz_ HO375.out) hg (.inl rfl)); replace HO378 := m_ (hp_); replace HB := m_ ((by rw [hw]; exact below_set (HB.out) GB89.out : Below w.heap.size w w104)); clear hg hw hp_; have hcz105 := cz11_ BK321.out) | ((with_reducible refine gate_builtin (b := .append) (xs := #[.tmp 111, .tmp 115]) rfl ?_); at_builtin; refine Kd.R_append (Kd.int .u8) (w0 := w) w.heap.size rfl (.tmp 111) (.tmp 115) 27 5 (.int .u8 0) 1 rfl Try.underlying27 info5 rfl (by decide) (by omega) (.slice (some ⟨go89, 0, none⟩) y376.length co102) y379 ((a0_8) % 256) [.int .u8 ((a0_8) % 256)] (fun k_ => some k_ ≠ (.slice Ao100 y373.length co100 : Value).ownBlock) (fun _ => False) rfl rfl ?aP (fun _ hk => hk.elim) ?aF ?aO ?aB ?aS ?aL ?_; (case aP => exact rfl); (case aB => exact bz_); (case aF => exact (fun k_ hk => Kd.fresh' (Kd.R_lt (Rz_ HO375.out)) k_ hk)); (case aO => exact (Rz_ HO378.out)); (case aS => exact (below_size bz_)); (case aL => have := LMc91.out; omega); intro v381 w106 ho hb hg hat; rw [← Ny380.out] at ho; have HO382 := m_ (ho); replace BK321 := m_ (blk_grown (g := gb321) (o := .cells #[.int .u8 a0_0, .int .u32 a0_1, .int .u32 a0_2, .int .u32 a0_3, .int .u32 a0_4, .int .i64 a0_5, .int .u32 a0_6, .slice A0_7 l0_7.length c0_7, .int .i64 a0_8, .bool true, .slice A0_10 l0_10.length c0_10] 29 (0, 0)) kz_ hg (Kd.R_ne HO378.out BK321.out (by decide))); replace BK332 := m_ (blk_grown (g := gb332) (o := .cells #[.int .u32 a0_2, .int .u32 a0_3, .int .u32 a0_4, .int .i64 a0_5, .int .u32 a0_6, .slice A0_7 l0_7.length c0_7] 26 (0, 0)) kz_ hg (Kd.R_ne HO378.out BK332.out (by decide))); replace HO375 := m_ (Kd.R_after (ok := (fun _ => True)) (Rz_ HO375.out) hg hat); replace HB := m_ (hb); clear HO378 ho hb hg hat; have hcz107 := cz11_ BK321.out) | ((with_reducible refine gate_builtin (b := .append) (xs := #[.tmp 117, .tmp 119]) rfl ?_); at_builtin; refine Kd.R_append_rows (Kd.int .u8) (w0 := w) w.heap.size rfl (.tmp 117) (.tmp 119) 27 5 (.int .u8 0) 1 rfl Try.underlying27 info5 rfl (by decide) (by omega) v381 y380 l0_10 _ _ _ (fun k_ => some k_ ≠ (.slice Ao100 y373.length co100 : Value).ownBlock) (fun _ => False) rfl rfl ?aO ?aR (fun _ _ h => h) (fun _ h => h.elim) ?aF ?aB ?aS ?aL ?_; (case aR => exact Cd_ (Kd.C_below HR0_10.out HB.out)); (case aB => exact bz_); (case aF => exact (fun k_ hk => Kd.fresh' (Kd.R_lt (Rz_ HO375.out)) k_ hk)); (case aO => exact (Rz_ HO382.out)); (case aS => exact (below_size bz_)); (case aL => have := LMc92.out; omega); intro v384 w108 ho hb hg hat; rw [← Ny383.out] at ho; have HO385 := m_ (ho); replace BK321 := m_ (blk_grown (g := gb321) (o := .cells #[.int .u8 a0_0, .int .u32 a0_1, .int .u32 a0_2, .int .u32 a0_3, .int .u32 a0_4, .int .i64 a0_5, .int .u32 a0_6, .slice A0_7 l0_7.length c0_7, .int .i64 a0_8, .bool true, .slice A0_10 l0_10.length c0_10] 29 (0, 0)) kz_ hg (Kd.R_ne HO382.out BK321.out (by decide))); replace BK332 := m_ (blk_grown (g := gb332) (o := .cells #[.int .u32 a0_2, .int .u32 a0_3, .int .u32 a0_4, .int .i64 a0_5, .int .u32 a0_6, .slice A0_7 l0_7.length c0_7] 26 (0, 0)) kz_ hg (Kd.R_ne HO382.out BK332.out (by decide))); replace HO375 := m_ (Kd.R_after (ok := (fun _ => True)) (Rz_ HO375.out) hg hat); replace HB := m_ (hb); clear HO382 ho hb hg hat; obtain ⟨Ao109, co109, eo109⟩ := Kd.R_slice HO385.out; subst eo109) | ((with_reducible refine gate_callee (f := 28) rfl ?_); refine gL_ (some 125) Try.func28 #[.int .u32 ((wrap64 ((y383.length : Int) + 2)) % 4294967296), .int .i64 2] ?_; (with_reducible refine (stolonref16_number.calls ((wrap64 ((y383.length : Int) + 2)) % 4294967296) 2 t386 _ A93.out).mono ?_); rintro e w110 ⟨v387, rfl, ho0, hb⟩; refine ⟨_, rfl, ?_⟩; have HO388 := m_ (Kd.Q_lower (Kd.Q_new' (Kd.Q_new' ho0 (Kd.R_lt (Rz_ HO375.out))) (Kd.R_lt (Rz_ HO385.out))) (below_size bz_)); replace HO375 := m_ (Kd.R_elder' (Rz_ HO375.out) (Kd.Q_base ho0) hb); replace HO385 := m_ (Kd.R_elder' (Rz_ HO385.out) (Kd.Q_base ho0) hb); replace BK321 := m_ (kl_ gb321 hb); replace BK332 := m_ (kl_ gb332 hb); replace HB := m_ (below_step bz_ hb); (try clear hb); (try clear hb2); (try clear hk); (try clear hi); (try clear ho0)) | ((with_reducible refine gate_builtin (b := .append) (xs := #[.tmp 125, .tmp 126]) rfl ?_); at_builtin; refine Kd.Q_append_rows (Kd.int .u8) (w0 := w) w.heap.size rfl (.tmp 125) (.tmp 126) 27 5 (.int .u8 0) 1 rfl Try.underlying27 info5 rfl (by decide) (by omega) v387 t386 y383 _ _ _ (fun k_ => some k_ ≠ (.slice Ao100 y373.length co100 : Value).ownBlock ∧ some k_ ≠ (.slice Ao109 y383.length co109 : Value).ownBlock) (fun _ => False) rfl rfl ?aO ?aR (fun _ _ h => h) (fun _ h => h.elim) ?aF ?aB ?aS ?aL ?_; (case aR => exact Cd_ (Kd.R_reads' HO385.out).2.2); (case aB => exact bz_); (case aF => exact (fun k_ hk => ⟨Kd.fresh' (Kd.R_lt (Rz_ HO375.out)) k_ hk, Kd.fresh' (Kd.R_lt (Rz_ HO385.out)) k_ hk⟩)); (case aO => exact (Qy_ (Kd.Q_mono HO388.out (fun _ hk => ⟨hk.1.2, hk.2⟩)))); (case aS => exact (below_size bz_)); (case aL => have := LMc94.out; omega); intro v390 w111 ho hb hg hat; rw [← Ny389.out] at ho; have HO391 := m_ (ho); replace BK321 := m_ (blk_grown (g := gb321) (o := .cells #[.int .u8 a0_0, .int .u32 a0_1, .int .u32 a0_2, .int .u32 a0_3, .int .u32 a0_4, .int .i64 a0_5, .int .u32 a0_6, .slice A0_7 l0_7.length c0_7, .int .i64 a0_8, .bool true, .slice A0_10 l0_10.length c0_10] 29 (0, 0)) kz_ hg (Kd.Q_ne HO388.out BK321.out (by decide))); replace BK332 := m_ (blk_grown (g := gb332) (o := .cells #[.int .u32 a0_2, .int .u32 a0_3, .int .u32 a0_4, .int .i64 a0_5, .int .u32 a0_6, .slice A0_7 l0_7.length c0_7] 26 (0, 0)) kz_ hg (Kd.Q_ne HO388.out BK332.out (by decide))); replace HO375 := m_ (Kd.R_after (ok := (fun k_ => some k_ ≠ (.slice Ao109 y383.length co109 : Value).ownBlock)) (Ry_ (Kd.R_mono HO375.out (fun _ hk => ⟨hk.1.2, hk.2⟩))) hg hat); replace HO385 := m_ (Kd.R_after (ok := (fun k_ => some k_ ≠ (.slice Ao100 y373.length co100 : Value).ownBlock)) (Rz_ HO385.out) hg hat); replace HB := m_ (hb); clear HO388 ho hb hg hat))
                  go_ret2
                  exact ⟨_, (by first | rfl | (simp [errW_none, errW_some] <;> rfl) | (simp only [← hji86]; first | rfl | (simp [errW_none, errW_some] <;> rfl)) | (simp [*, errW_none, errW_some] <;> rfl)), (Qy_ (Kd.Q_mono HO391.out (fun _ hk => trivial))), bz_⟩
                 ·rw [if_neg c94] at H
                  exact absurd H (by simp)
                ·rw [if_neg c92] at H
                 exact absurd H (by simp)
               ·rw [if_neg c91] at H
                exact absurd H (by simp)
              ·rw [if_neg c90] at H
               have c90b0 : (a0_0 == 8) = false := beq_eq_false_iff_ne.mpr c90
               have c90b1 : (a0_0 != 8) = true := bne_iff_ne.mpr c90
               by_cases c112 : a0_0 = 9
               ·rw [if_pos c112] at H
                have c112b0 : (a0_0 == 9) = true := beq_iff_eq.mpr c112
                have c112b1 : (a0_0 != 9) = false := bne_eq_false_iff_eq.mpr c112
                clear c112
                by_cases c113 : y379.length < 140737488355328
                ·rw [if_pos c113] at H
                 have LMc113 := m_ c113
                 clear c113
                 obtain ⟨y392, hy392⟩ : ∃ y_ : List Int, y_ = (y379 ++ [(a0_8) % 256]) := ⟨_, rfl⟩
                 replace H : (if y392.length + l0_10.length < 140737488355328 then ((some (y392 ++ l0_10 : List Int)).bind fun y395 => ((stolonref16_number.f ((wrap64 ((y395.length : Int) + 2)) % 4294967296) 2).bind fun t398 => (if t398.length + y395.length < 140737488355328 then (some ((t398 ++ y395), 0)) else (none)))) else (none)) = some (r1, r2) := by first | (rw [hy392]; with_reducible exact H) | (have H2_ := (Option.bind_some _ _).symm.trans H; rw [hy392]; with_reducible exact H2_) | (have H2_ := (Option.bind_some _ _).symm.trans H; with_reducible exact H2_) | with_reducible exact H | (rw [hy392]; exact H) | exact H
                 have Ny392 := m_ hy392
                 clear hy392
                 by_cases c114 : y392.length + l0_10.length < 140737488355328
                 ·rw [if_pos c114] at H
                  have LMc114 := m_ c114
                  clear c114
                  obtain ⟨y395, hy395⟩ : ∃ y_ : List Int, y_ = (y392 ++ l0_10) := ⟨_, rfl⟩
                  replace H : ((stolonref16_number.f ((wrap64 ((y395.length : Int) + 2)) % 4294967296) 2).bind fun t398 => (if t398.length + y395.length < 140737488355328 then (some ((t398 ++ y395), 0)) else (none))) = some (r1, r2) := by first | (rw [hy395]; with_reducible exact H) | (have H2_ := (Option.bind_some _ _).symm.trans H; rw [hy395]; with_reducible exact H2_) | (have H2_ := (Option.bind_some _ _).symm.trans H; with_reducible exact H2_) | with_reducible exact H | (rw [hy395]; exact H) | exact H
                  have Ny395 := m_ hy395
                  clear hy395
                  replace H := Option.bind_eq_some_iff.mp H
                  obtain ⟨t398, A1150, H⟩ := H
                  replace H : (if t398.length + y395.length < 140737488355328 then (some ((t398 ++ y395), 0)) else (none)) = some (r1, r2) := H
                  have A115 := m_ A1150
                  clear A1150
                  by_cases c116 : t398.length + y395.length < 140737488355328
                  ·rw [if_pos c116] at H
                   have LMc116 := m_ c116
                   clear c116
                   obtain ⟨y401, hy401⟩ : ∃ y_ : List Int, y_ = (t398 ++ y395) := ⟨_, rfl⟩
                   replace H : (some (y401, 0)) = some (r1, r2) := by first | (rw [hy401]; with_reducible exact H) | (have H2_ := (Option.bind_some _ _).symm.trans H; rw [hy401]; with_reducible exact H2_) | (have H2_ := (Option.bind_some _ _).symm.trans H; with_reducible exact H2_) | with_reducible exact H | (rw [hy401]; exact H) | exact H
                   have Ny401 := m_ hy401
                   clear hy401
                   simp only [Option.some.injEq, Prod.mk.injEq] at H
                   obtain ⟨rfl, rfl⟩ := H
                   have hnb117 := NB321_332.out
                   have hnc117 := NB332_321.out
                   have hcz118 := cz11_ BK321.out
                   go_wp2_with (first | ((with_reducible refine gate_dst (N := 94) rfl ?_); refine Kd.R_lit (Kd.int .u8) _ 5 ?hg (N := 94) ?hd (xs := ([(a0_8) % 256, 0] : List Int)) (inner := [.int .u8 ((a0_8) % 256), .int .u8 0]) (ok := fun _ => True) (okp := fun _ => True) ?hr ?hp (fun _ hk => hk) trivial (Below.refl _ _) (Nat.le_refl _) (by simp) ?_; (case hd => rfl); (case hg => rfl); (case hr => first | (go_simp; done) | (go_simp; rfl)); (case hp => exact (Reps.one (show Kd.M (Kd.int .u8) _ _ _ ((a0_8) % 256) [.int .u8 ((a0_8) % 256)] from rfl) (Reps.one (show Kd.M (Kd.int .u8) _ _ _ 0 [.int .u8 0] from rfl) (Reps.none _ _)))); intro v374 w119 ho120 hb hg_ hnew_; clear hg_ hnew_; (first | rw [← Ny373.out] at ho120 | (simp only [Int.reduceToNat] at ho120; rw [← Ny373.out] at ho120)); have HO375 := m_ (Kd.R_lower (Kd.R_new' ho120 (Kd.R_lt (Rz_ HO_5.out))) (below_size bz_)); replace HO_5 := m_ (Kd.R_elder' (Rz_ HO_5.out) (Kd.R_base ho120) hb); replace BK321 := m_ (kl_ gb321 hb); replace BK332 := m_ (kl_ gb332 hb); replace HB := m_ (below_step bz_ hb); clear hb ho120; obtain ⟨Ao122, co122, eo122⟩ := Kd.R_slice HO375.out; subst eo122) | ((with_reducible refine gate_builtin (b := .append) (xs := #[.tmp 90, .tmp 94]) rfl ?_); at_builtin; refine Kd.R_append_rows (Kd.int .u8) (w0 := w) w.heap.size rfl (.tmp 90) (.tmp 94) 27 5 (.int .u8 0) 1 rfl Try.underlying27 info5 rfl (by decide) (by omega) u5 x5_46 y373 _ _ _ (fun k_ => some k_ ≠ (.slice Ao122 y373.length co122 : Value).ownBlock) (fun _ => False) rfl rfl ?aO ?aR (fun _ _ h => h) (fun _ h => h.elim) ?aF ?aB ?aS ?aL ?_; (case aR => exact Cd_ (Kd.R_reads' HO375.out).2.2); (case aB => exact bz_); (case aF => exact (fun k_ hk => Kd.fresh' (Kd.R_lt (Rz_ HO375.out)) k_ hk)); (case aO => exact (Ry_ (Kd.R_mono HO_5.out (fun _ hk => hk.2)))); (case aS => exact (below_size bz_)); (case aL => have := LMc84.out; omega); intro v377 w121 ho hb hg hat; rw [← Ny376.out] at ho; have HO378 := m_ (ho); replace BK321 := m_ (blk_grown (g := gb321) (o := .cells #[.int .u8 a0_0, .int .u32 a0_1, .int .u32 a0_2, .int .u32 a0_3, .int .u32 a0_4, .int .i64 a0_5, .int .u32 a0_6, .slice A0_7 l0_7.length c0_7, .int .i64 a0_8, .bool true, .slice A0_10 l0_10.length c0_10] 29 (0, 0)) kz_ hg (Kd.R_ne HO_5.out BK321.out (by decide))); replace BK332 := m_ (blk_grown (g := gb332) (o := .cells #[.int .u32 a0_2, .int .u32 a0_3, .int .u32 a0_4, .int .i64 a0_5, .int .u32 a0_6, .slice A0_7 l0_7.length c0_7] 26 (0, 0)) kz_ hg (Kd.R_ne HO_5.out BK332.out (by decide))); replace HO375 := m_ (Kd.R_after (ok := (fun _ => True)) (Rz_ HO375.out) hg hat); replace HB := m_ (hb); clear HO_5 ho hb hg hat; have hcz123 := cz11_ BK321.out; obtain ⟨Ao124, co124, eo124⟩ := Kd.R_slice HO378.out; subst eo124; have p89 : 0 ≤ ((ji86) : Int) := od_; have q89 : ((ji86) : Int) < ((y376.length : Int) : Int) := od_; obtain ⟨go89, co89, eo89, gb89, gl89, cl89, HG89⟩ := Kd.R_form HO378.out (by omega); (first | cases eo89 | (injection eo89 with ea_ en_ ec_; (first | subst ea_ | (injection ea_ with ea_; subst ea_)); subst ec_; clear en_)); have GB89 := m_ gb89; have GG89 := m_ HG89; clear gb89 gl89 HG89; obtain ⟨hx89_0, hf89_0⟩ := Kd.R_celln 0 HO378.out ((ji86) : Int) p89 q89; replace p89 := eq_true p89; replace q89 := eq_true q89; obtain ⟨hy125_, hz125_⟩ := Kd.R_celln 0 HO378.out ((ji86) : Int) od_ od_; have HP125 := Kd.R_putg HO378.out ((ji86) : Int) 1) | ((with_reducible refine gate_store (t := 5) (p := 102) rfl ?_); refine st_ 5 102 (w121.setCell ⟨go89, ((ji86) : Int).toNat, none⟩ (.int .u8 1)) ?_; intro w126 hw; have hg : w121.grownBy w126 (some go89) := (by rw [hw]; exact HP125.2); have hp_ : Kd.R (Kd.int .u8) 5 w126 w.heap.size (fun k_ => some k_ ≠ (.slice Ao122 y373.length co122 : Value).ownBlock) (.slice (some ⟨go89, 0, none⟩) y376.length co124) y379 := (by rw [hw, Ny379.out]; exact HP125.1); clear HP125; replace BK321 := m_ (blk_grown (g := gb321) (o := .cells #[.int .u8 a0_0, .int .u32 a0_1, .int .u32 a0_2, .int .u32 a0_3, .int .u32 a0_4, .int .i64 a0_5, .int .u32 a0_6, .slice A0_7 l0_7.length c0_7, .int .i64 a0_8, .bool true, .slice A0_10 l0_10.length c0_10] 29 (0, 0)) kz_ hg (Kd.R_ne HO378.out BK321.out (by decide))); replace BK332 := m_ (blk_grown (g := gb332) (o := .cells #[.int .u32 a0_2, .int .u32 a0_3, .int .u32 a0_4, .int .i64 a0_5, .int .u32 a0_6, .slice A0_7 l0_7.length c0_7] 26 (0, 0)) kz_ hg (Kd.R_ne HO378.out BK332.out (by decide))); replace HO375 := m_ (Kd.R_after (v := (.slice (some ⟨go89, 0, none⟩) y376.length co124)) (v1 := (.slice (some ⟨go89, 0, none⟩) y376.length co124)) (ok := (fun _ => True)) (Rz_ HO375.out) hg (.inl rfl)); replace HO378 := m_ (hp_); replace HB := m_ ((by rw [hw]; exact below_set (HB.out) GB89.out : Below w.heap.size w w126)); clear hg hw hp_; have hcz127 := cz11_ BK321.out) | ((with_reducible refine gate_builtin (b := .append) (xs := #[.tmp 111, .tmp 115]) rfl ?_); at_builtin; refine Kd.R_append (Kd.int .u8) (w0 := w) w.heap.size rfl (.tmp 111) (.tmp 115) 27 5 (.int .u8 0) 1 rfl Try.underlying27 info5 rfl (by decide) (by omega) (.slice (some ⟨go89, 0, none⟩) y376.length co124) y379 ((a0_8) % 256) [.int .u8 ((a0_8) % 256)] (fun k_ => some k_ ≠ (.slice Ao122 y373.length co122 : Value).ownBlock) (fun _ => False) rfl rfl ?aP (fun _ hk => hk.elim) ?aF ?aO ?aB ?aS ?aL ?_; (case aP => exact rfl); (case aB => exact bz_); (case aF => exact (fun k_ hk => Kd.fresh' (Kd.R_lt (Rz_ HO375.out)) k_ hk)); (case aO => exact (Rz_ HO378.out)); (case aS => exact (below_size bz_)); (case aL => have := LMc113.out; omega); intro v393 w128 ho hb hg hat; rw [← Ny392.out] at ho; have HO394 := m_ (ho); replace BK321 := m_ (blk_grown (g := gb321) (o := .cells #[.int .u8 a0_0, .int .u32 a0_1, .int .u32 a0_2, .int .u32 a0_3, .int .u32 a0_4, .int .i64 a0_5, .int .u32 a0_6, .slice A0_7 l0_7.length c0_7, .int .i64 a0_8, .bool true, .slice A0_10 l0_10.length c0_10] 29 (0, 0)) kz_ hg (Kd.R_ne HO378.out BK321.out (by decide))); replace BK332 := m_ (blk_grown (g := gb332) (o := .cells #[.int .u32 a0_2, .int .u32 a0_3, .int .u32 a0_4, .int .i64 a0_5, .int .u32 a0_6, .slice A0_7 l0_7.length c0_7] 26 (0, 0)) kz_ hg (Kd.R_ne HO378.out BK332.out (by decide))); replace HO375 := m_ (Kd.R_after (ok := (fun _ => True)) (Rz_ HO375.out) hg hat); replace HB := m_ (hb); clear HO378 ho hb hg hat; have hcz129 := cz11_ BK321.out) | ((with_reducible refine gate_builtin (b := .append) (xs := #[.tmp 117, .tmp 119]) rfl ?_); at_builtin; refine Kd.R_append_rows (Kd.int .u8) (w0 := w) w.heap.size rfl (.tmp 117) (.tmp 119) 27 5 (.int .u8 0) 1 rfl Try.underlying27 info5 rfl (by decide) (by omega) v393 y392 l0_10 _ _ _ (fun k_ => some k_ ≠ (.slice Ao122 y373.length co122 : Value).ownBlock) (fun _ => False) rfl rfl ?aO ?aR (fun _ _ h => h) (fun _ h => h.elim) ?aF ?aB ?aS ?aL ?_; (case aR => exact Cd_ (Kd.C_below HR0_10.out HB.out)); (case aB => exact bz_); (case aF => exact (fun k_ hk => Kd.fresh' (Kd.R_lt (Rz_ HO375.out)) k_ hk)); (case aO => exact (Rz_ HO394.out)); (case aS => exact (below_size bz_)); (case aL => have := LMc114.out; omega); intro v396 w130 ho hb hg hat; rw [← Ny395.out] at ho; have HO397 := m_ (ho); replace BK321 := m_ (blk_grown (g := gb321) (o := .cells #[.int .u8 a0_0, .int .u32 a0_1, .int .u32 a0_2, .int .u32 a0_3, .int .u32 a0_4, .int .i64 a0_5, .int .u32 a0_6, .slice A0_7 l0_7.length c0_7, .int .i64 a0_8, .bool true, .slice A0_10 l0_10.length c0_10] 29 (0, 0)) kz_ hg (Kd.R_ne HO394.out BK321.out (by decide))); replace BK332 := m_ (blk_grown (g := gb332) (o := .cells #[.int .u32 a0_2, .int .u32 a0_3, .int .u32 a0_4, .int .i64 a0_5, .int .u32 a0_6, .slice A0_7 l0_7.length c0_7] 26 (0, 0)) kz_ hg (Kd.R_ne HO394.out BK332.out (by decide))); replace HO375 := m_ (Kd.R_after (ok := (fun _ => True)) (Rz_ HO375.out) hg hat); replace HB := m_ (hb); clear HO394 ho hb hg hat; obtain ⟨Ao131, co131, eo131⟩ := Kd.R_slice HO397.out; subst eo131) | ((with_reducible refine gate_callee (f := 28) rfl ?_); refine gL_ (some 125) Try.func28 #[.int .u32 ((wrap64 ((y395.length : Int) + 2)) % 4294967296), .int .i64 2] ?_; (with_reducible refine (stolonref16_number.calls ((wrap64 ((y395.length : Int) + 2)) % 4294967296) 2 t398 _ A115.out).mono ?_); rintro e w132 ⟨v399, rfl, ho0, hb⟩; refine ⟨_, rfl, ?_⟩; have HO400 := m_ (Kd.Q_lower (Kd.Q_new' (Kd.Q_new' ho0 (Kd.R_lt (Rz_ HO375.out))) (Kd.R_lt (Rz_ HO397.out))) (below_size bz_)); replace HO375 := m_ (Kd.R_elder' (Rz_ HO375.out) (Kd.Q_base ho0) hb); replace HO397 := m_ (Kd.R_elder' (Rz_ HO397.out) (Kd.Q_base ho0) hb); replace BK321 := m_ (kl_ gb321 hb); replace BK332 := m_ (kl_ gb332 hb); replace HB := m_ (below_step bz_ hb); (try clear hb); (try clear hb2); (try clear hk); (try clear hi); (try clear ho0)) | ((with_reducible refine gate_builtin (b := .append) (xs := #[.tmp 125, .tmp 126]) rfl ?_); at_builtin; refine Kd.Q_append_rows (Kd.int .u8) (w0 := w) w.heap.size rfl (.tmp 125) (.tmp 126) 27 5 (.int .u8 0) 1 rfl Try.underlying27 info5 rfl (by decide) (by omega) v399 t398 y395 _ _ _ (fun k_ => some k_ ≠ (.slice Ao122 y373.length co122 : Value).ownBlock ∧ some k_ ≠ (.slice Ao131 y395.length co131 : Value).ownBlock) (fun _ => False) rfl rfl ?aO ?aR (fun _ _ h => h) (fun _ h => h.elim) ?aF ?aB ?aS ?aL ?_; (case aR => exact Cd_ (Kd.R_reads' HO397.out).2.2); (case aB => exact bz_); (case aF => exact (fun k_ hk => ⟨Kd.fresh' (Kd.R_lt (Rz_ HO375.out)) k_ hk, Kd.fresh' (Kd.R_lt (Rz_ HO397.out)) k_ hk⟩)); (case aO => exact (Qy_ (Kd.Q_mono HO400.out (fun _ hk => ⟨hk.1.2, hk.2⟩)))); (case aS => exact (below_size bz_)); (case aL => have := LMc116.out; omega); intro v402 w133 ho hb hg hat; rw [← Ny401.out] at ho; have HO403 := m_ (ho); replace BK321 := m_ (blk_grown (g := gb321) (o := .cells #[.int .u8 a0_0, .int .u32 a0_1, .int .u32 a0_2, .int .u32 a0_3, .int .u32 a0_4, .int .i64 a0_5, .int .u32 a0_6, .slice A0_7 l0_7.length c0_7, .int .i64 a0_8, .bool true, .slice A0_10 l0_10.length c0_10] 29 (0, 0)) kz_ hg (Kd.Q_ne HO400.out BK321.out (by decide))); replace BK332 := m_ (blk_grown (g := gb332) (o := .cells #[.int .u32 a0_2, .int .u32 a0_3, .int .u32 a0_4, .int .i64 a0_5, .int .u32 a0_6, .slice A0_7 l0_7.length c0_7] 26 (0, 0)) kz_ hg (Kd.Q_ne HO400.out BK332.out (by decide))); replace HO375 := m_ (Kd.R_after (ok := (fun k_ => some k_ ≠ (.slice Ao131 y395.length co131 : Value).ownBlock)) (Ry_ (Kd.R_mono HO375.out (fun _ hk => ⟨hk.1.2, hk.2⟩))) hg hat); replace HO397 := m_ (Kd.R_after (ok := (fun k_ => some k_ ≠ (.slice Ao122 y373.length co122 : Value).ownBlock)) (Rz_ HO397.out) hg hat); replace HB := m_ (hb); clear HO400 ho hb hg hat))
                   go_ret2
                   exact ⟨_, (by first | rfl | (simp [errW_none, errW_some] <;> rfl) | (simp only [← hji86]; first | rfl | (simp [errW_none, errW_some] <;> rfl)) | (simp [*, errW_none, errW_some] <;> rfl)), (Qy_ (Kd.Q_mono HO403.out (fun _ hk => trivial))), bz_⟩
                  ·rw [if_neg c116] at H
                   exact absurd H (by simp)
                 ·rw [if_neg c114] at H
                  exact absurd H (by simp)
                ·rw [if_neg c113] at H
                 exact absurd H (by simp)
               ·rw [if_neg c112] at H
                have c112b0 : (a0_0 == 9) = false := beq_eq_false_iff_ne.mpr c112
                have c112b1 : (a0_0 != 9) = true := bne_iff_ne.mpr c112
                replace H := Option.bind_eq_some_iff.mp H
                obtain ⟨t404, A1340, H⟩ := H
                replace H : (if t404.length + y379.length < 140737488355328 then (some ((t404 ++ y379), 0)) else (none)) = some (r1, r2) := H
                have A134 := m_ A1340
                clear A1340
                by_cases c135 : t404.length + y379.length < 140737488355328
                ·rw [if_pos c135] at H
                 have LMc135 := m_ c135
                 clear c135
                 obtain ⟨y407, hy407⟩ : ∃ y_ : List Int, y_ = (t404 ++ y379) := ⟨_, rfl⟩
                 replace H : (some (y407, 0)) = some (r1, r2) := by first | (rw [hy407]; with_reducible exact H) | (have H2_ := (Option.bind_some _ _).symm.trans H; rw [hy407]; with_reducible exact H2_) | (have H2_ := (Option.bind_some _ _).symm.trans H; with_reducible exact H2_) | with_reducible exact H | (rw [hy407]; exact H) | exact H
                 have Ny407 := m_ hy407
                 clear hy407
                 simp only [Option.some.injEq, Prod.mk.injEq] at H
                 obtain ⟨rfl, rfl⟩ := H
                 have hnb136 := NB321_332.out
                 have hnc136 := NB332_321.out
                 have hcz137 := cz11_ BK321.out
                 go_wp2_with (first | ((with_reducible refine gate_dst (N := 94) rfl ?_); refine Kd.R_lit (Kd.int .u8) _ 5 ?hg (N := 94) ?hd (xs := ([(a0_8) % 256, 0] : List Int)) (inner := [.int .u8 ((a0_8) % 256), .int .u8 0]) (ok := fun _ => True) (okp := fun _ => True) ?hr ?hp (fun _ hk => hk) trivial (Below.refl _ _) (Nat.le_refl _) (by simp) ?_; (case hd => rfl); (case hg => rfl); (case hr => first | (go_simp; done) | (go_simp; rfl)); (case hp => exact (Reps.one (show Kd.M (Kd.int .u8) _ _ _ ((a0_8) % 256) [.int .u8 ((a0_8) % 256)] from rfl) (Reps.one (show Kd.M (Kd.int .u8) _ _ _ 0 [.int .u8 0] from rfl) (Reps.none _ _)))); intro v374 w138 ho139 hb hg_ hnew_; clear hg_ hnew_; (first | rw [← Ny373.out] at ho139 | (simp only [Int.reduceToNat] at ho139; rw [← Ny373.out] at ho139)); have HO375 := m_ (Kd.R_lower (Kd.R_new' ho139 (Kd.R_lt (Rz_ HO_5.out))) (below_size bz_)); replace HO_5 := m_ (Kd.R_elder' (Rz_ HO_5.out) (Kd.R_base ho139) hb); replace BK321 := m_ (kl_ gb321 hb); replace BK332 := m_ (kl_ gb332 hb); replace HB := m_ (below_step bz_ hb); clear hb ho139; obtain ⟨Ao141, co141, eo141⟩ := Kd.R_slice HO375.out; subst eo141) | ((with_reducible refine gate_builtin (b := .append) (xs := #[.tmp 90, .tmp 94]) rfl ?_); at_builtin; refine Kd.R_append_rows (Kd.int .u8) (w0 := w) w.heap.size rfl (.tmp 90) (.tmp 94) 27 5 (.int .u8 0) 1 rfl Try.underlying27 info5 rfl (by decide) (by omega) u5 x5_46 y373 _ _ _ (fun k_ => some k_ ≠ (.slice Ao141 y373.length co141 : Value).ownBlock) (fun _ => False) rfl rfl ?aO ?aR (fun _ _ h => h) (fun _ h => h.elim) ?aF ?aB ?aS ?aL ?_; (case aR => exact Cd_ (Kd.R_reads' HO375.out).2.2); (case aB => exact bz_); (case aF => exact (fun k_ hk => Kd.fresh' (Kd.R_lt (Rz_ HO375.out)) k_ hk)); (case aO => exact (Ry_ (Kd.R_mono HO_5.out (fun _ hk => hk.2)))); (case aS => exact (below_size bz_)); (case aL => have := LMc84.out; omega); intro v377 w140 ho hb hg hat; rw [← Ny376.out] at ho; have HO378 := m_ (ho); replace BK321 := m_ (blk_grown (g := gb321) (o := .cells #[.int .u8 a0_0, .int .u32 a0_1, .int .u32 a0_2, .int .u32 a0_3, .int .u32 a0_4, .int .i64 a0_5, .int .u32 a0_6, .slice A0_7 l0_7.length c0_7, .int .i64 a0_8, .bool true, .slice A0_10 l0_10.length c0_10] 29 (0, 0)) kz_ hg (Kd.R_ne HO_5.out BK321.out (by decide))); replace BK332 := m_ (blk_grown (g := gb332) (o := .cells #[.int .u32 a0_2, .int .u32 a0_3, .int .u32 a0_4, .int .i64 a0_5, .int .u32 a0_6, .slice A0_7 l0_7.length c0_7] 26 (0, 0)) kz_ hg (Kd.R_ne HO_5.out BK332.out (by decide))); replace HO375 := m_ (Kd.R_after (ok := (fun _ => True)) (Rz_ HO375.out) hg hat); replace HB := m_ (hb); clear HO_5 ho hb hg hat; have hcz142 := cz11_ BK321.out; obtain ⟨Ao143, co143, eo143⟩ := Kd.R_slice HO378.out; subst eo143; have p89 : 0 ≤ ((ji86) : Int) := od_; have q89 : ((ji86) : Int) < ((y376.length : Int) : Int) := od_; obtain ⟨go89, co89, eo89, gb89, gl89, cl89, HG89⟩ := Kd.R_form HO378.out (by omega); (first | cases eo89 | (injection eo89 with ea_ en_ ec_; (first | subst ea_ | (injection ea_ with ea_; subst ea_)); subst ec_; clear en_)); have GB89 := m_ gb89; have GG89 := m_ HG89; clear gb89 gl89 HG89; obtain ⟨hx89_0, hf89_0⟩ := Kd.R_celln 0 HO378.out ((ji86) : Int) p89 q89; replace p89 := eq_true p89; replace q89 := eq_true q89; obtain ⟨hy144_, hz144_⟩ := Kd.R_celln 0 HO378.out ((ji86) : Int) od_ od_; have HP144 := Kd.R_putg HO378.out ((ji86) : Int) 1) | ((with_reducible refine gate_store (t := 5) (p := 102) rfl ?_); refine st_ 5 102 (w140.setCell ⟨go89, ((ji86) : Int).toNat, none⟩ (.int .u8 1)) ?_; intro w145 hw; have hg : w140.grownBy w145 (some go89) := (by rw [hw]; exact HP144.2); have hp_ : Kd.R (Kd.int .u8) 5 w145 w.heap.size (fun k_ => some k_ ≠ (.slice Ao141 y373.length co141 : Value).ownBlock) (.slice (some ⟨go89, 0, none⟩) y376.length co143) y379 := (by rw [hw, Ny379.out]; exact HP144.1); clear HP144; replace BK321 := m_ (blk_grown (g := gb321) (o := .cells #[.int .u8 a0_0, .int .u32 a0_1, .int .u32 a0_2, .int .u32 a0_3, .int .u32 a0_4, .int .i64 a0_5, .int .u32 a0_6, .slice A0_7 l0_7.length c0_7, .int .i64 a0_8, .bool true, .slice A0_10 l0_10.length c0_10] 29 (0, 0)) kz_ hg (Kd.R_ne HO378.out BK321.out (by decide))); replace BK332 := m_ (blk_grown (g := gb332) (o := .cells #[.int .u32 a0_2, .int .u32 a0_3, .int .u32 a0_4, .int .i64 a0_5, .int .u32 a0_6, .slice A0_7 l0_7.length c0_7] 26 (0, 0)) kz_ hg (Kd.R_ne HO378.out BK332.out (by decide))); replace HO375 := m_ (Kd.R_after (v := (.slice (some ⟨go89, 0, none⟩) y376.length co143)) (v1 := (.slice (some ⟨go89, 0, none⟩) y376.length co143)) (ok := (fun _ => True)) (Rz_ HO375.out) hg (.inl rfl)); replace HO378 := m_ (hp_); replace HB := m_ ((by rw [hw]; exact below_set (HB.out) GB89.out : Below w.heap.size w w145)); clear hg hw hp_; have hcz146 := cz11_ BK321.out) | ((with_reducible refine gate_callee (f := 28) rfl ?_); refine gL_ (some 125) Try.func28 #[.int .u32 ((wrap64 ((y376.length : Int) + 2)) % 4294967296), .int .i64 2] ?_; (with_reducible refine (stolonref16_number.calls ((wrap64 ((y376.length : Int) + 2)) % 4294967296) 2 t404 _ A134.out).mono ?_); rintro e w147 ⟨v405, rfl, ho0, hb⟩; refine ⟨_, rfl, ?_⟩; have HO406 := m_ (Kd.Q_lower (Kd.Q_new' (Kd.Q_new' ho0 (Kd.R_lt (Rz_ HO375.out))) (Kd.R_lt (Rz_ HO378.out))) (below_size bz_)); replace HO375 := m_ (Kd.R_elder' (Rz_ HO375.out) (Kd.Q_base ho0) hb); replace HO378 := m_ (Kd.R_elder' (Rz_ HO378.out) (Kd.Q_base ho0) hb); replace BK321 := m_ (kl_ gb321 hb); replace BK332 := m_ (kl_ gb332 hb); replace HB := m_ (below_step bz_ hb); (try clear hb); (try clear hb2); (try clear hk); (try clear hi); (try clear ho0)) | ((with_reducible refine gate_builtin (b := .append) (xs := #[.tmp 125, .tmp 126]) rfl ?_); at_builtin; refine Kd.Q_append_rows (Kd.int .u8) (w0 := w) w.heap.size rfl (.tmp 125) (.tmp 126) 27 5 (.int .u8 0) 1 rfl Try.underlying27 info5 rfl (by decide) (by omega) v405 t404 y379 _ _ _ (fun k_ => some k_ ≠ (.slice Ao141 y373.length co141 : Value).ownBlock ∧ some k_ ≠ (.slice (some ⟨go89, 0, none⟩) y376.length co143 : Value).ownBlock) (fun _ => False) rfl rfl ?aO ?aR (fun _ _ h => h) (fun _ h => h.elim) ?aF ?aB ?aS ?aL ?_; (case aR => rw [show y376.length = y379.length from (Kd.R_reads' HO378.out).1]; exact Cd_ (Kd.R_reads' HO378.out).2.2); (case aB => exact bz_); (case aF => exact (fun k_ hk => ⟨Kd.fresh' (Kd.R_lt (Rz_ HO375.out)) k_ hk, Kd.fresh' (Kd.R_lt (Rz_ HO378.out)) k_ hk⟩)); (case aO => exact (Qy_ (Kd.Q_mono HO406.out (fun _ hk => ⟨hk.1.2, hk.2⟩)))); (case aS => exact (below_size bz_)); (case aL => have := LMc135.out; have hlx_ := (Kd.R_reads' HO378.out).1; omega); intro v408 w148 ho hb hg hat; rw [← Ny407.out] at ho; have HO409 := m_ (ho); replace BK321 := m_ (blk_grown (g := gb321) (o := .cells #[.int .u8 a0_0, .int .u32 a0_1, .int .u32 a0_2, .int .u32 a0_3, .int .u32 a0_4, .int .i64 a0_5, .int .u32 a0_6, .slice A0_7 l0_7.length c0_7, .int .i64 a0_8, .bool true, .slice A0_10 l0_10.length c0_10] 29 (0, 0)) kz_ hg (Kd.Q_ne HO406.out BK321.out (by decide))); replace BK332 := m_ (blk_grown (g := gb332) (o := .cells #[.int .u32 a0_2, .int .u32 a0_3, .int .u32 a0_4, .int .i64 a0_5, .int .u32 a0_6, .slice A0_7 l0_7.length c0_7] 26 (0, 0)) kz_ hg (Kd.Q_ne HO406.out BK332.out (by decide))); replace HO375 := m_ (Kd.R_after (ok := (fun k_ => some k_ ≠ (.slice (some ⟨go89, 0, none⟩) y376.length co143 : Value).ownBlock)) (Ry_ (Kd.R_mono HO375.out (fun _ hk => ⟨hk.1.2, hk.2⟩))) hg hat); replace HO378 := m_ (Kd.R_after (ok := (fun k_ => some k_ ≠ (.slice Ao141 y373.length co141 : Value).ownBlock)) (Rz_ HO378.out) hg hat); replace HB := m_ (hb); clear HO406 ho hb hg hat))
                 go_ret2
                 exact ⟨_, (by first | rfl | (simp [errW_none, errW_some] <;> rfl) | (simp only [← hji86]; first | rfl | (simp [errW_none, errW_some] <;> rfl)) | (simp [*, errW_none, errW_some] <;> rfl)), (Qy_ (Kd.Q_mono HO409.out (fun _ hk => trivial))), bz_⟩
                ·rw [if_neg c135] at H
                 exact absurd H (by simp)
             ·rw [if_neg c88] at H
              exact absurd H (by simp)
            ·rw [if_neg c87] at H
             exact absurd H (by simp)
           ·replace c85 := Bool.eq_false_iff.mpr c85
            subst c85
            have H1 : (if a0_0 = 8 then (if y376.length < 140737488355328 then ((some (y376 ++ [(a0_8) % 256] : List Int)).bind fun y410 => (if y410.length + l0_10.length < 140737488355328 then ((some (y410 ++ l0_10 : List Int)).bind fun y413 => ((stolonref16_number.f ((wrap64 ((y413.length : Int) + 2)) % 4294967296) 2).bind fun t416 => (if t416.length + y413.length < 140737488355328 then (some ((t416 ++ y413), 0)) else (none)))) else (none))) else (none)) else (if a0_0 = 9 then (if y376.length < 140737488355328 then ((some (y376 ++ [(a0_8) % 256] : List Int)).bind fun y422 => (if y422.length + l0_10.length < 140737488355328 then ((some (y422 ++ l0_10 : List Int)).bind fun y425 => ((stolonref16_number.f ((wrap64 ((y425.length : Int) + 2)) % 4294967296) 2).bind fun t428 => (if t428.length + y425.length < 140737488355328 then (some ((t428 ++ y425), 0)) else (none)))) else (none))) else (none)) else ((stolonref16_number.f ((wrap64 ((y376.length : Int) + 2)) % 4294967296) 2).bind fun t434 => (if t434.length + y376.length < 140737488355328 then (some ((t434 ++ y376), 0)) else (none))))) = some (r1, r2) := by rw [if_neg (show ¬ (false = true) by decide)] at H; exact H
            clear H
            have H := H1
            clear H1
            by_cases c149 : a0_0 = 8
            ·rw [if_pos c149] at H
             have c149b0 : (a0_0 == 8) = true := beq_iff_eq.mpr c149
             have c149b1 : (a0_0 != 8) = false := bne_eq_false_iff_eq.mpr c149
             clear c149
             by_cases c150 : y376.length < 140737488355328
             ·rw [if_pos c150] at H
              have LMc150 := m_ c150
              clear c150
              obtain ⟨y410, hy410⟩ : ∃ y_ : List Int, y_ = (y376 ++ [(a0_8) % 256]) := ⟨_, rfl⟩
              replace H : (if y410.length + l0_10.length < 140737488355328 then ((some (y410 ++ l0_10 : List Int)).bind fun y413 => ((stolonref16_number.f ((wrap64 ((y413.length : Int) + 2)) % 4294967296) 2).bind fun t416 => (if t416.length + y413.length < 140737488355328 then (some ((t416 ++ y413), 0)) else (none)))) else (none)) = some (r1, r2) := by first | (rw [hy410]; with_reducible exact H) | (have H2_ := (Option.bind_some _ _).symm.trans H; rw [hy410]; with_reducible exact H2_) | (have H2_ := (Option.bind_some _ _).symm.trans H; with_reducible exact H2_) | with_reducible exact H | (rw [hy410]; exact H) | exact H
              have Ny410 := m_ hy410
              clear hy410
              by_cases c151 : y410.length + l0_10.length < 140737488355328
              ·rw [if_pos c151] at H
               have LMc151 := m_ c151
               clear c151
               obtain ⟨y413, hy413⟩ : ∃ y_ : List Int, y_ = (y410 ++ l0_10) := ⟨_, rfl⟩
               replace H : ((stolonref16_number.f ((wrap64 ((y413.length : Int) + 2)) % 4294967296) 2).bind fun t416 => (if t416.length + y413.length < 140737488355328 then (some ((t416 ++ y413), 0)) else (none))) = some (r1, r2) := by first | (rw [hy413]; with_reducible exact H) | (have H2_ := (Option.bind_some _ _).symm.trans H; rw [hy413]; with_reducible exact H2_) | (have H2_ := (Option.bind_some _ _).symm.trans H; with_reducible exact H2_) | with_reducible exact H | (rw [hy413]; exact H) | exact H
               have Ny413 := m_ hy413
               clear hy413
               replace H := Option.bind_eq_some_iff.mp H
               obtain ⟨t416, A1520, H⟩ := H
               replace H : (if t416.length + y413.length < 140737488355328 then (some ((t416 ++ y413), 0)) else (none)) = some (r1, r2) := H
               have A152 := m_ A1520
               clear A1520
               by_cases c153 : t416.length + y413.length < 140737488355328
               ·rw [if_pos c153] at H
                have LMc153 := m_ c153
                clear c153
                obtain ⟨y419, hy419⟩ : ∃ y_ : List Int, y_ = (t416 ++ y413) := ⟨_, rfl⟩
                replace H : (some (y419, 0)) = some (r1, r2) := by first | (rw [hy419]; with_reducible exact H) | (have H2_ := (Option.bind_some _ _).symm.trans H; rw [hy419]; with_reducible exact H2_) | (have H2_ := (Option.bind_some _ _).symm.trans H; with_reducible exact H2_) | with_reducible exact H | (rw [hy419]; exact H) | exact H
                have Ny419 := m_ hy419
                clear hy419
                simp only [Option.some.injEq, Prod.mk.injEq] at H
                obtain ⟨rfl, rfl⟩ := H
                have hnb154 := NB321_332.out
                have hnc154 := NB332_321.out
                have hcz155 := cz11_ BK321.out
                go_wp2_with (first | ((with_reducible refine gate_dst (N := 94) rfl ?_); refine Kd.R_lit (Kd.int .u8) _ 5 ?hg (N := 94) ?hd (xs := ([(a0_8) % 256, 0] : List Int)) (inner := [.int .u8 ((a0_8) % 256), .int .u8 0]) (ok := fun _ => True) (okp := fun _ => True) ?hr ?hp (fun _ hk => hk) trivial (Below.refl _ _) (Nat.le_refl _) (by simp) ?_; (case hd => rfl); (case hg => rfl); (case hr => first | (go_simp; done) | (go_simp; rfl)); (case hp => exact (Reps.one (show Kd.M (Kd.int .u8) _ _ _ ((a0_8) % 256) [.int .u8 ((a0_8) % 256)] from rfl) (Reps.one (show Kd.M (Kd.int .u8) _ _ _ 0 [.int .u8 0] from rfl) (Reps.none _ _)))); intro v374 w156 ho157 hb hg_ hnew_; clear hg_ hnew_; (first | rw [← Ny373.out] at ho157 | (simp only [Int.reduceToNat] at ho157; rw [← Ny373.out] at ho157)); have HO375 := m_ (Kd.R_lower (Kd.R_new' ho157 (Kd.R_lt (Rz_ HO_5.out))) (below_size bz_)); replace HO_5 := m_ (Kd.R_elder' (Rz_ HO_5.out) (Kd.R_base ho157) hb); replace BK321 := m_ (kl_ gb321 hb); replace BK332 := m_ (kl_ gb332 hb); replace HB := m_ (below_step bz_ hb); clear hb ho157; obtain ⟨Ao159, co159, eo159⟩ := Kd.R_slice HO375.out; subst eo159) | ((with_reducible refine gate_builtin (b := .append) (xs := #[.tmp 90, .tmp 94]) rfl ?_); at_builtin; refine Kd.R_append_rows (Kd.int .u8) (w0 := w) w.heap.size rfl (.tmp 90) (.tmp 94) 27 5 (.int .u8 0) 1 rfl Try.underlying27 info5 rfl (by decide) (by omega) u5 x5_46 y373 _ _ _ (fun k_ => some k_ ≠ (.slice Ao159 y373.length co159 : Value).ownBlock) (fun _ => False) rfl rfl ?aO ?aR (fun _ _ h => h) (fun _ h => h.elim) ?aF ?aB ?aS ?aL ?_; (case aR => exact Cd_ (Kd.R_reads' HO375.out).2.2); (case aB => exact bz_); (case aF => exact (fun k_ hk => Kd.fresh' (Kd.R_lt (Rz_ HO375.out)) k_ hk)); (case aO => exact (Ry_ (Kd.R_mono HO_5.out (fun _ hk => hk.2)))); (case aS => exact (below_size bz_)); (case aL => have := LMc84.out; omega); intro v377 w158 ho hb hg hat; rw [← Ny376.out] at ho; have HO378 := m_ (ho); replace BK321 := m_ (blk_grown (g := gb321) (o := .cells #[.int .u8 a0_0, .int .u32 a0_1, .int .u32 a0_2, .int .u32 a0_3, .int .u32 a0_4, .int .i64 a0_5, .int .u32 a0_6, .slice A0_7 l0_7.length c0_7, .int .i64 a0_8, .bool false, .slice A0_10 l0_10.length c0_10] 29 (0, 0)) kz_ hg (Kd.R_ne HO_5.out BK321.out (by decide))); replace BK332 := m_ (blk_grown (g := gb332) (o := .cells #[.int .u32 a0_2, .int .u32 a0_3, .int .u32 a0_4, .int .i64 a0_5, .int .u32 a0_6, .slice A0_7 l0_7.length c0_7] 26 (0, 0)) kz_ hg (Kd.R_ne HO_5.out BK332.out (by decide))); replace HO375 := m_ (Kd.R_after (ok := (fun _ => True)) (Rz_ HO375.out) hg hat); replace HB := m_ (hb); clear HO_5 ho hb hg hat; have hcz160 := cz11_ BK321.out) | ((with_reducible refine gate_builtin (b := .append) (xs := #[.tmp 111, .tmp 115]) rfl ?_); at_builtin; refine Kd.R_append (Kd.int .u8) (w0 := w) w.heap.size rfl (.tmp 111) (.tmp 115) 27 5 (.int .u8 0) 1 rfl Try.underlying27 info5 rfl (by decide) (by omega) v377 y376 ((a0_8) % 256) [.int .u8 ((a0_8) % 256)] (fun k_ => some k_ ≠ (.slice Ao159 y373.length co159 : Value).ownBlock) (fun _ => False) rfl rfl ?aP (fun _ hk => hk.elim) ?aF ?aO ?aB ?aS ?aL ?_; (case aP => exact rfl); (case aB => exact bz_); (case aF => exact (fun k_ hk => Kd.fresh' (Kd.R_lt (Rz_ HO375.out)) k_ hk)); (case aO => exact (Rz_ HO378.out)); (case aS => exact (below_size bz_)); (case aL => have := LMc150.out; omega); intro v411 w161 ho hb hg hat; rw [← Ny410.out] at ho; have HO412 := m_ (ho); replace BK321 := m_ (blk_grown (g := gb321) (o := .cells #[.int .u8 a0_0, .int .u32 a0_1, .int .u32 a0_2, .int .u32 a0_3, .int .u32 a0_4, .int .i64 a0_5, .int .u32 a0_6, .slice A0_7 l0_7.length c0_7, .int .i64 a0_8, .bool false, .slice A0_10 l0_10.length c0_10] 29 (0, 0)) kz_ hg (Kd.R_ne HO378.out BK321.out (by decide))); replace BK332 := m_ (blk_grown (g := gb332) (o := .cells #[.int .u32 a0_2, .int .u32 a0_3, .int .u32 a0_4, .int .i64 a0_5, .int .u32 a0_6, .slice A0_7 l0_7.length c0_7] 26 (0, 0)) kz_ hg (Kd.R_ne HO378.out BK332.out (by decide))); replace HO375 := m_ (Kd.R_after (ok := (fun _ => True)) (Rz_ HO375.out) hg hat); replace HB := m_ (hb); clear HO378 ho hb hg hat; have hcz162 := cz11_ BK321.out) | ((with_reducible refine gate_builtin (b := .append) (xs := #[.tmp 117, .tmp 119]) rfl ?_); at_builtin; refine Kd.R_append_rows (Kd.int .u8) (w0 := w) w.heap.size rfl (.tmp 117) (.tmp 119) 27 5 (.int .u8 0) 1 rfl Try.underlying27 info5 rfl (by decide) (by omega) v411 y410 l0_10 _ _ _ (fun k_ => some k_ ≠ (.slice Ao159 y373.length co159 : Value).ownBlock) (fun _ => False) rfl rfl ?aO ?aR (fun _ _ h => h) (fun _ h => h.elim) ?aF ?aB ?aS ?aL ?_; (case aR => exact Cd_ (Kd.C_below HR0_10.out HB.out)); (case aB => exact bz_); (case aF => exact (fun k_ hk => Kd.fresh' (Kd.R_lt (Rz_ HO375.out)) k_ hk)); (case aO => exact (Rz_ HO412.out)); (case aS => exact (below_size bz_)); (case aL => have := LMc151.out; omega); intro v414 w163 ho hb hg hat; rw [← Ny413.out] at ho; have HO415 := m_ (ho); replace BK321 := m_ (blk_grown (g := gb321) (o := .cells #[.int .u8 a0_0, .int .u32 a0_1, .int .u32 a0_2, .int .u32 a0_3, .int .u32 a0_4, .int .i64 a0_5, .int .u32 a0_6, .slice A0_7 l0_7.length c0_7, .int .i64 a0_8, .bool false, .slice A0_10 l0_10.length c0_10] 29 (0, 0)) kz_ hg (Kd.R_ne HO412.out BK321.out (by decide))); replace BK332 := m_ (blk_grown (g := gb332) (o := .cells #[.int .u32 a0_2, .int .u32 a0_3, .int .u32 a0_4, .int .i64 a0_5, .int .u32 a0_6, .slice A0_7 l0_7.length c0_7] 26 (0, 0)) kz_ hg (Kd.R_ne HO412.out BK332.out (by decide))); replace HO375 := m_ (Kd.R_after (ok := (fun _ => True)) (Rz_ HO375.out) hg hat); replace HB := m_ (hb); clear HO412 ho hb hg hat; obtain ⟨Ao164, co164, eo164⟩ := Kd.R_slice HO415.out; subst eo164) | ((with_reducible refine gate_callee (f := 28) rfl ?_); refine gL_ (some 125) Try.func28 #[.int .u32 ((wrap64 ((y413.length : Int) + 2)) % 4294967296), .int .i64 2] ?_; (with_reducible refine (stolonref16_number.calls ((wrap64 ((y413.length : Int) + 2)) % 4294967296) 2 t416 _ A152.out).mono ?_); rintro e w165 ⟨v417, rfl, ho0, hb⟩; refine ⟨_, rfl, ?_⟩; have HO418 := m_ (Kd.Q_lower (Kd.Q_new' (Kd.Q_new' ho0 (Kd.R_lt (Rz_ HO375.out))) (Kd.R_lt (Rz_ HO415.out))) (below_size bz_)); replace HO375 := m_ (Kd.R_elder' (Rz_ HO375.out) (Kd.Q_base ho0) hb); replace HO415 := m_ (Kd.R_elder' (Rz_ HO415.out) (Kd.Q_base ho0) hb); replace BK321 := m_ (kl_ gb321 hb); replace BK332 := m_ (kl_ gb332 hb); replace HB := m_ (below_step bz_ hb); (try clear hb); (try clear hb2); (try clear hk); (try clear hi); (try clear ho0)) | ((with_reducible refine gate_builtin (b := .append) (xs := #[.tmp 125, .tmp 126]) rfl ?_); at_builtin; refine Kd.Q_append_rows (Kd.int .u8) (w0 := w) w.heap.size rfl (.tmp 125) (.tmp 126) 27 5 (.int .u8 0) 1 rfl Try.underlying27 info5 rfl (by decide) (by omega) v417 t416 y413 _ _ _ (fun k_ => some k_ ≠ (.slice Ao159 y373.length co159 : Value).ownBlock ∧ some k_ ≠ (.slice Ao164 y413.length co164 : Value).ownBlock) (fun _ => False) rfl rfl ?aO ?aR (fun _ _ h => h) (fun _ h => h.elim) ?aF ?aB ?aS ?aL ?_; (case aR => exact Cd_ (Kd.R_reads' HO415.out).2.2); (case aB => exact bz_); (case aF => exact (fun k_ hk => ⟨Kd.fresh' (Kd.R_lt (Rz_ HO375.out)) k_ hk, Kd.fresh' (Kd.R_lt (Rz_ HO415.out)) k_ hk⟩)); (case aO => exact (Qy_ (Kd.Q_mono HO418.out (fun _ hk => ⟨hk.1.2, hk.2⟩)))); (case aS => exact (below_size bz_)); (case aL => have := LMc153.out; omega); intro v420 w166 ho hb hg hat; rw [← Ny419.out] at ho; have HO421 := m_ (ho); replace BK321 := m_ (blk_grown (g := gb321) (o := .cells #[.int .u8 a0_0, .int .u32 a0_1, .int .u32 a0_2, .int .u32 a0_3, .int .u32 a0_4, .int .i64 a0_5, .int .u32 a0_6, .slice A0_7 l0_7.length c0_7, .int .i64 a0_8, .bool false, .slice A0_10 l0_10.length c0_10] 29 (0, 0)) kz_ hg (Kd.Q_ne HO418.out BK321.out (by decide))); replace BK332 := m_ (blk_grown (g := gb332) (o := .cells #[.int .u32 a0_2, .int .u32 a0_3, .int .u32 a0_4, .int .i64 a0_5, .int .u32 a0_6, .slice A0_7 l0_7.length c0_7] 26 (0, 0)) kz_ hg (Kd.Q_ne HO418.out BK332.out (by decide))); replace HO375 := m_ (Kd.R_after (ok := (fun k_ => some k_ ≠ (.slice Ao164 y413.length co164 : Value).ownBlock)) (Ry_ (Kd.R_mono HO375.out (fun _ hk => ⟨hk.1.2, hk.2⟩))) hg hat); replace HO415 := m_ (Kd.R_after (ok := (fun k_ => some k_ ≠ (.slice Ao159 y373.length co159 : Value).ownBlock)) (Rz_ HO415.out) hg hat); replace HB := m_ (hb); clear HO418 ho hb hg hat))
                go_ret2
                exact ⟨_, ew_, (Qy_ (Kd.Q_mono HO421.out (fun _ hk => trivial))), bz_⟩
               ·rw [if_neg c153] at H
                exact absurd H (by simp)
              ·rw [if_neg c151] at H
               exact absurd H (by simp)
             ·rw [if_neg c150] at H
              exact absurd H (by simp)
            ·rw [if_neg c149] at H
             have c149b0 : (a0_0 == 8) = false := beq_eq_false_iff_ne.mpr c149
             have c149b1 : (a0_0 != 8) = true := bne_iff_ne.mpr c149
             by_cases c167 : a0_0 = 9
             ·rw [if_pos c167] at H
              have c167b0 : (a0_0 == 9) = true := beq_iff_eq.mpr c167
              have c167b1 : (a0_0 != 9) = false := bne_eq_false_iff_eq.mpr c167
              clear c167
              by_cases c168 : y376.length < 140737488355328
              ·rw [if_pos c168] at H
               have LMc168 := m_ c168
               clear c168
               obtain ⟨y422, hy422⟩ : ∃ y_ : List Int, y_ = (y376 ++ [(a0_8) % 256]) := ⟨_, rfl⟩
               replace H : (if y422.length + l0_10.length < 140737488355328 then ((some (y422 ++ l0_10 : List Int)).bind fun y425 => ((stolonref16_number.f ((wrap64 ((y425.length : Int) + 2)) % 4294967296) 2).bind fun t428 => (if t428.length + y425.length < 140737488355328 then (some ((t428 ++ y425), 0)) else (none)))) else (none)) = some (r1, r2) := by first | (rw [hy422]; with_reducible exact H) | (have H2_ := (Option.bind_some _ _).symm.trans H; rw [hy422]; with_reducible exact H2_) | (have H2_ := (Option.bind_some _ _).symm.trans H; with_reducible exact H2_) | with_reducible exact H | (rw [hy422]; exact H) | exact H
               have Ny422 := m_ hy422
               clear hy422
               by_cases c169 : y422.length + l0_10.length < 140737488355328
               ·rw [if_pos c169] at H
                have LMc169 := m_ c169
                clear c169
                obtain ⟨y425, hy425⟩ : ∃ y_ : List Int, y_ = (y422 ++ l0_10) := ⟨_, rfl⟩
                replace H : ((stolonref16_number.f ((wrap64 ((y425.length : Int) + 2)) % 4294967296) 2).bind fun t428 => (if t428.length + y425.length < 140737488355328 then (some ((t428 ++ y425), 0)) else (none))) = some (r1, r2) := by first | (rw [hy425]; with_reducible exact H) | (have H2_ := (Option.bind_some _ _).symm.trans H; rw [hy425]; with_reducible exact H2_) | (have H2_ := (Option.bind_some _ _).symm.trans H; with_reducible exact H2_) | with_reducible exact H | (rw [hy425]; exact H) | exact H
                have Ny425 := m_ hy425
                clear hy425
                replace H := Option.bind_eq_some_iff.mp H
                obtain ⟨t428, A1700, H⟩ := H
                replace H : (if t428.length + y425.length < 140737488355328 then (some ((t428 ++ y425), 0)) else (none)) = some (r1, r2) := H
                have A170 := m_ A1700
                clear A1700
                by_cases c171 : t428.length + y425.length < 140737488355328
                ·rw [if_pos c171] at H
                 have LMc171 := m_ c171
                 clear c171
                 obtain ⟨y431, hy431⟩ : ∃ y_ : List Int, y_ = (t428 ++ y425) := ⟨_, rfl⟩
                 replace H : (some (y431, 0)) = some (r1, r2) := by first | (rw [hy431]; with_reducible exact H) | (have H2_ := (Option.bind_some _ _).symm.trans H; rw [hy431]; with_reducible exact H2_) | (have H2_ := (Option.bind_some _ _).symm.trans H; with_reducible exact H2_) | with_reducible exact H | (rw [hy431]; exact H) | exact H
                 have Ny431 := m_ hy431
                 clear hy431
                 simp only [Option.some.injEq, Prod.mk.injEq] at H
                 obtain ⟨rfl, rfl⟩ := H
                 have hnb172 := NB321_332.out
                 have hnc172 := NB332_321.out
                 have hcz173 := cz11_ BK321.out
                 go_wp2_with (first | ((with_reducible refine gate_dst (N := 94) rfl ?_); refine Kd.R_lit (Kd.int .u8) _ 5 ?hg (N := 94) ?hd (xs := ([(a0_8) % 256, 0] : List Int)) (inner := [.int .u8 ((a0_8) % 256), .int .u8 0]) (ok := fun _ => True) (okp := fun _ => True) ?hr ?hp (fun _ hk => hk) trivial (Below.refl _ _) (Nat.le_refl _) (by simp) ?_; (case hd => rfl); (case hg => rfl); (case hr => first | (go_simp; done) | (go_simp; rfl)); (case hp => exact (Reps.one (show Kd.M (Kd.int .u8) _ _ _ ((a0_8) % 256) [.int .u8 ((a0_8) % 256)] from rfl) (Reps.one (show Kd.M (Kd.int .u8) _ _ _ 0 [.int .u8 0] from rfl) (Reps.none _ _)))); intro v374 w174 ho175 hb hg_ hnew_; clear hg_ hnew_; (first | rw [← Ny373.out] at ho175 | (simp only [Int.reduceToNat] at ho175; rw [← Ny373.out] at ho175)); have HO375 := m_ (Kd.R_lower (Kd.R_new' ho175 (Kd.R_lt (Rz_ HO_5.out))) (below_size bz_)); replace HO_5 := m_ (Kd.R_elder' (Rz_ HO_5.out) (Kd.R_base ho175) hb); replace BK321 := m_ (kl_ gb321 hb); replace BK332 := m_ (kl_ gb332 hb); replace HB := m_ (below_step bz_ hb); clear hb ho175; obtain ⟨Ao177, co177, eo177⟩ := Kd.R_slice HO375.out; subst eo177) | ((with_reducible refine gate_builtin (b := .append) (xs := #[.tmp 90, .tmp 94]) rfl ?_); at_builtin; refine Kd.R_append_rows (Kd.int .u8) (w0 := w) w.heap.size rfl (.tmp 90) (.tmp 94) 27 5 (.int .u8 0) 1 rfl Try.underlying27 info5 rfl (by decide) (by omega) u5 x5_46 y373 _ _ _ (fun k_ => some k_ ≠ (.slice Ao177 y373.length co177 : Value).ownBlock) (fun _ => False) rfl rfl ?aO ?aR (fun _ _ h => h) (fun _ h => h.elim) ?aF ?aB ?aS ?aL ?_; (case aR => exact Cd_ (Kd.R_reads' HO375.out).2.2); (case aB => exact bz_); (case aF => exact (fun k_ hk => Kd.fresh' (Kd.R_lt (Rz_ HO375.out)) k_ hk)); (case aO => exact (Ry_ (Kd.R_mono HO_5.out (fun _ hk => hk.2)))); (case aS => exact (below_size bz_)); (case aL => have := LMc84.out; omega); intro v377 w176 ho hb hg hat; rw [← Ny376.out] at ho; have HO378 := m_ (ho); replace BK321 := m_ (blk_grown (g := gb321) (o := .cells #[.int .u8 a0_0, .int .u32 a0_1, .int .u32 a0_2, .int .u32 a0_3, .int .u32 a0_4, .int .i64 a0_5, .int .u32 a0_6, .slice A0_7 l0_7.length c0_7, .int .i64 a0_8, .bool false, .slice A0_10 l0_10.length c0_10] 29 (0, 0)) kz_ hg (Kd.R_ne HO_5.out BK321.out (by decide))); replace BK332 := m_ (blk_grown (g := gb332) (o := .cells #[.int .u32 a0_2, .int .u32 a0_3, .int .u32 a0_4, .int .i64 a0_5, .int .u32 a0_6, .slice A0_7 l0_7.length c0_7] 26 (0, 0)) kz_ hg (Kd.R_ne HO_5.out BK332.out (by decide))); replace HO375 := m_ (Kd.R_after (ok := (fun _ => True)) (Rz_ HO375.out) hg hat); replace HB := m_ (hb); clear HO_5 ho hb hg hat; have hcz178 := cz11_ BK321.out) | ((with_reducible refine gate_builtin (b := .append) (xs := #[.tmp 111, .tmp 115]) rfl ?_); at_builtin; refine Kd.R_append (Kd.int .u8) (w0 := w) w.heap.size rfl (.tmp 111) (.tmp 115) 27 5 (.int .u8 0) 1 rfl Try.underlying27 info5 rfl (by decide) (by omega) v377 y376 ((a0_8) % 256) [.int .u8 ((a0_8) % 256)] (fun k_ => some k_ ≠ (.slice Ao177 y373.length co177 : Value).ownBlock) (fun _ => False) rfl rfl ?aP (fun _ hk => hk.elim) ?aF ?aO ?aB ?aS ?aL ?_; (case aP => exact rfl); (case aB => exact bz_); (case aF => exact (fun k_ hk => Kd.fresh' (Kd.R_lt (Rz_ HO375.out)) k_ hk)); (case aO => exact (Rz_ HO378.out)); (case aS => exact (below_size bz_)); (case aL => have := LMc168.out; omega); intro v423 w179 ho hb hg hat; rw [← Ny422.out] at ho; have HO424 := m_ (ho); replace BK321 := m_ (blk_grown (g := gb321) (o := .cells #[.int .u8 a0_0, .int .u32 a0_1, .int .u32 a0_2, .int .u32 a0_3, .int .u32 a0_4, .int .i64 a0_5, .int .u32 a0_6, .slice A0_7 l0_7.length c0_7, .int .i64 a0_8, .bool false, .slice A0_10 l0_10.length c0_10] 29 (0, 0)) kz_ hg (Kd.R_ne HO378.out BK321.out (by decide))); replace BK332 := m_ (blk_grown (g := gb332) (o := .cells #[.int .u32 a0_2, .int .u32 a0_3, .int .u32 a0_4, .int .i64 a0_5, .int .u32 a0_6, .slice A0_7 l0_7.length c0_7] 26 (0, 0)) kz_ hg (Kd.R_ne HO378.out BK332.out (by decide))); replace HO375 := m_ (Kd.R_after (ok := (fun _ => True)) (Rz_ HO375.out) hg hat); replace HB := m_ (hb); clear HO378 ho hb hg hat; have hcz180 := cz11_ BK321.out) | ((with_reducible refine gate_builtin (b := .append) (xs := #[.tmp 117, .tmp 119]) rfl ?_); at_builtin; refine Kd.R_append_rows (Kd.int .u8) (w0 := w) w.heap.size rfl (.tmp 117) (.tmp 119) 27 5 (.int .u8 0) 1 rfl Try.underlying27 info5 rfl (by decide) (by omega) v423 y422 l0_10 _ _ _ (fun k_ => some k_ ≠ (.slice Ao177 y373.length co177 : Value).ownBlock) (fun _ => False) rfl rfl ?aO ?aR (fun _ _ h => h) (fun _ h => h.elim) ?aF ?aB ?aS ?aL ?_; (case aR => exact Cd_ (Kd.C_below HR0_10.out HB.out)); (case aB => exact bz_); (case aF => exact (fun k_ hk => Kd.fresh' (Kd.R_lt (Rz_ HO375.out)) k_ hk)); (case aO => exact (Rz_ HO424.out)); (case aS => exact (below_size bz_)); (case aL => have := LMc169.out; omega); intro v426 w181 ho hb hg hat; rw [← Ny425.out] at ho; have HO427 := m_ (ho); replace BK321 := m_ (blk_grown (g := gb321) (o := .cells #[.int .u8 a0_0, .int .u32 a0_1, .int .u32 a0_2, .int .u32 a0_3, .int .u32 a0_4, .int .i64 a0_5, .int .u32 a0_6, .slice A0_7 l0_7.length c0_7, .int .i64 a0_8, .bool false, .slice A0_10 l0_10.length c0_10] 29 (0, 0)) kz_ hg (Kd.R_ne HO424.out BK321.out (by decide))); replace BK332 := m_ (blk_grown (g := gb332) (o := .cells #[.int .u32 a0_2, .int .u32 a0_3, .int .u32 a0_4, .int .i64 a0_5, .int .u32 a0_6, .slice A0_7 l0_7.length c0_7] 26 (0, 0)) kz_ hg (Kd.R_ne HO424.out BK332.out (by decide))); replace HO375 := m_ (Kd.R_after (ok := (fun _ => True)) (Rz_ HO375.out) hg hat); replace HB := m_ (hb); clear HO424 ho hb hg hat; obtain ⟨Ao182, co182, eo182⟩ := Kd.R_slice HO427.out; subst eo182) | ((with_reducible refine gate_callee (f := 28) rfl ?_); refine gL_ (some 125) Try.func28 #[.int .u32 ((wrap64 ((y425.length : Int) + 2)) % 4294967296), .int .i64 2] ?_; (with_reducible refine (stolonref16_number.calls ((wrap64 ((y425.length : Int) + 2)) % 4294967296) 2 t428 _ A170.out).mono ?_); rintro e w183 ⟨v429, rfl, ho0, hb⟩; refine ⟨_, rfl, ?_⟩; have HO430 := m_ (Kd.Q_lower (Kd.Q_new' (Kd.Q_new' ho0 (Kd.R_lt (Rz_ HO375.out))) (Kd.R_lt (Rz_ HO427.out))) (below_size bz_)); replace HO375 := m_ (Kd.R_elder' (Rz_ HO375.out) (Kd.Q_base ho0) hb); replace HO427 := m_ (Kd.R_elder' (Rz_ HO427.out) (Kd.Q_base ho0) hb); replace BK321 := m_ (kl_ gb321 hb); replace BK332 := m_ (kl_ gb332 hb); replace HB := m_ (below_step bz_ hb); (try clear hb); (try clear hb2); (try clear hk); (try clear hi); (try clear ho0)) | ((with_reducible refine gate_builtin (b := .append) (xs := #[.tmp 125, .tmp 126]) rfl ?_); at_builtin; refine Kd.Q_append_rows (Kd.int .u8) (w0 := w) w.heap.size rfl (.tmp 125) (.tmp 126) 27 5 (.int .u8 0) 1 rfl Try.underlying27 info5 rfl (by decide) (by omega) v429 t428 y425 _ _ _ (fun k_ => some k_ ≠ (.slice Ao177 y373.length co177 : Value).ownBlock ∧ some k_ ≠ (.slice Ao182 y425.length co182 : Value).ownBlock) (fun _ => False) rfl rfl ?aO ?aR (fun _ _ h => h) (fun _ h => h.elim) ?aF ?aB ?aS ?aL ?_; (case aR => exact Cd_ (Kd.R_reads' HO427.out).2.2); (case aB => exact bz_); (case aF => exact (fun k_ hk => ⟨Kd.fresh' (Kd.R_lt (Rz_ HO375.out)) k_ hk, Kd.fresh' (Kd.R_lt (Rz_ HO427.out)) k_ hk⟩)); (case aO => exact (Qy_ (Kd.Q_mono HO430.out (fun _ hk => ⟨hk.1.2, hk.2⟩)))); (case aS => exact (below_size bz_)); (case aL => have := LMc171.out; omega); intro v432 w184 ho hb hg hat; rw [← Ny431.out] at ho; have HO433 := m_ (ho); replace BK321 := m_ (blk_grown (g := gb321) (o := .cells #[.int .u8 a0_0, .int .u32 a0_1, .int .u32 a0_2, .int .u32 a0_3, .int .u32 a0_4, .int .i64 a0_5, .int .u32 a0_6, .slice A0_7 l0_7.length c0_7, .int .i64 a0_8, .bool false, .slice A0_10 l0_10.length c0_10] 29 (0, 0)) kz_ hg (Kd.Q_ne HO430.out BK321.out (by decide))); replace BK332 := m_ (blk_grown (g := gb332) (o := .cells #[.int .u32 a0_2, .int .u32 a0_3, .int .u32 a0_4, .int .i64 a0_5, .int .u32 a0_6, .slice A0_7 l0_7.length c0_7] 26 (0, 0)) kz_ hg (Kd.Q_ne HO430.out BK332.out (by decide))); replace HO375 := m_ (Kd.R_after (ok := (fun k_ => some k_ ≠ (.slice Ao182 y425.length co182 : Value).ownBlock)) (Ry_ (Kd.R_mono HO375.out (fun _ hk => ⟨hk.1.2, hk.2⟩))) hg hat); replace HO427 := m_ (Kd.R_after (ok := (fun k_ => some k_ ≠ (.slice Ao177 y373.length co177 : Value).ownBlock)) (Rz_ HO427.out) hg hat); replace HB := m_ (hb); clear HO430 ho hb hg hat))
                 go_ret2
                 exact ⟨_, ew_, (Qy_ (Kd.Q_mono HO433.out (fun _ hk => trivial))), bz_⟩
                ·rw [if_neg c171] at H
                 exact absurd H (by simp)
               ·rw [if_neg c169] at H
                exact absurd H (by simp)
              ·rw [if_neg c168] at H
               exact absurd H (by simp)
             ·rw [if_neg c167] at H
              have c167b0 : (a0_0 == 9) = false := beq_eq_false_iff_ne.mpr c167
              have c167b1 : (a0_0 != 9) = true := bne_iff_ne.mpr c167
              replace H := Option.bind_eq_some_iff.mp H
              obtain ⟨t434, A1850, H⟩ := H
              replace H : (if t434.length + y376.length < 140737488355328 then (some ((t434 ++ y376), 0)) else (none)) = some (r1, r2) := H
              have A185 := m_ A1850
              clear A1850
              by_cases c186 : t434.length + y376.length < 140737488355328
              ·rw [if_pos c186] at H
               have LMc186 := m_ c186
               clear c186
               obtain ⟨y437, hy437⟩ : ∃ y_ : List Int, y_ = (t434 ++ y376) := ⟨_, rfl⟩
               replace H : (some (y437, 0)) = some (r1, r2) := by first | (rw [hy437]; with_reducible exact H) | (have H2_ := (Option.bind_some _ _).symm.trans H; rw [hy437]; with_reducible exact H2_) | (have H2_ := (Option.bind_some _ _).symm.trans H; with_reducible exact H2_) | with_reducible exact H | (rw [hy437]; exact H) | exact H
               have Ny437 := m_ hy437
               clear hy437
               simp only [Option.some.injEq, Prod.mk.injEq] at H
               obtain ⟨rfl, rfl⟩ := H
               have hnb187 := NB321_332.out
               have hnc187 := NB332_321.out
               have hcz188 := cz11_ BK321.out
               go_wp2_with (first | ((with_reducible refine gate_dst (N := 94) rfl ?_); refine Kd.R_lit (Kd.int .u8) _ 5 ?hg (N := 94) ?hd (xs := ([(a0_8) % 256, 0] : List Int)) (inner := [.int .u8 ((a0_8) % 256), .int .u8 0]) (ok := fun _ => True) (okp := fun _ => True) ?hr ?hp (fun _ hk => hk) trivial (Below.refl _ _) (Nat.le_refl _) (by simp) ?_; (case hd => rfl); (case hg => rfl); (case hr => first | (go_simp; done) | (go_simp; rfl)); (case hp => exact (Reps.one (show Kd.M (Kd.int .u8) _ _ _ ((a0_8) % 256) [.int .u8 ((a0_8) % 256)] from rfl) (Reps.one (show Kd.M (Kd.int .u8) _ _ _ 0 [.int .u8 0] from rfl) (Reps.none _ _)))); intro v374 w189 ho190 hb hg_ hnew_; clear hg_ hnew_; (first | rw [← Ny373.out] at ho190 | (simp only [Int.reduceToNat] at ho190; rw [← Ny373.out] at ho190)); have HO375 := m_ (Kd.R_lower (Kd.R_new' ho190 (Kd.R_lt (Rz_ HO_5.out))) (below_size bz_)); replace HO_5 := m_ (Kd.R_elder' (Rz_ HO_5.out) (Kd.R_base ho190) hb); replace BK321 := m_ (kl_ gb321 hb); replace BK332 := m_ (kl_ gb332 hb); replace HB := m_ (below_step bz_ hb); clear hb ho190; obtain ⟨Ao192, co192, eo192⟩ := Kd.R_slice HO375.out; subst eo192) | ((with_reducible refine gate_builtin (b := .append) (xs := #[.tmp 90, .tmp 94]) rfl ?_); at_builtin; refine Kd.R_append_rows (Kd.int .u8) (w0 := w) w.heap.size rfl (.tmp 90) (.tmp 94) 27 5 (.int .u8 0) 1 rfl Try.underlying27 info5 rfl (by decide) (by omega) u5 x5_46 y373 _ _ _ (fun k_ => some k_ ≠ (.slice Ao192 y373.length co192 : Value).ownBlock) (fun _ => False) rfl rfl ?aO ?aR (fun _ _ h => h) (fun _ h => h.elim) ?aF ?aB ?aS ?aL ?_; (case aR => exact Cd_ (Kd.R_reads' HO375.out).2.2); (case aB => exact bz_); (case aF => exact (fun k_ hk => Kd.fresh' (Kd.R_lt (Rz_ HO375.out)) k_ hk)); (case aO => exact (Ry_ (Kd.R_mono HO_5.out (fun _ hk => hk.2)))); (case aS => exact (below_size bz_)); (case aL => have := LMc84.out; omega); intro v377 w191 ho hb hg hat; rw [← Ny376.out] at ho; have HO378 := m_ (ho); replace BK321 := m_ (blk_grown (g := gb321) (o := .cells #[.int .u8 a0_0, .int .u32 a0_1, .int .u32 a0_2, .int .u32 a0_3, .int .u32 a0_4, .int .i64 a0_5, .int .u32 a0_6, .slice A0_7 l0_7.length c0_7, .int .i64 a0_8, .bool false, .slice A0_10 l0_10.length c0_10] 29 (0, 0)) kz_ hg (Kd.R_ne HO_5.out BK321.out (by decide))); replace BK332 := m_ (blk_grown (g := gb332) (o := .cells #[.int .u32 a0_2, .int .u32 a0_3, .int .u32 a0_4, .int .i64 a0_5, .int .u32 a0_6, .slice A0_7 l0_7.length c0_7] 26 (0, 0)) kz_ hg (Kd.R_ne HO_5.out BK332.out (by decide))); replace HO375 := m_ (Kd.R_after (ok := (fun _ => True)) (Rz_ HO375.out) hg hat); replace HB := m_ (hb); clear HO_5 ho hb hg hat; have hcz193 := cz11_ BK321.out; obtain ⟨Ao194, co194, eo194⟩ := Kd.R_slice HO378.out; subst eo194) | ((with_reducible refine gate_callee (f := 28) rfl ?_); refine gL_ (some 125) Try.func28 #[.int .u32 ((wrap64 ((y376.length : Int) + 2)) % 4294967296), .int .i64 2] ?_; (with_reducible refine (stolonref16_number.calls ((wrap64 ((y376.length : Int) + 2)) % 4294967296) 2 t434 _ A185.out).mono ?_); rintro e w195 ⟨v435, rfl, ho0, hb⟩; refine ⟨_, rfl, ?_⟩; have HO436 := m_ (Kd.Q_lower (Kd.Q_new' (Kd.Q_new' ho0 (Kd.R_lt (Rz_ HO375.out))) (Kd.R_lt (Rz_ HO378.out))) (below_size bz_)); replace HO375 := m_ (Kd.R_elder' (Rz_ HO375.out) (Kd.Q_base ho0) hb); replace HO378 := m_ (Kd.R_elder' (Rz_ HO378.out) (Kd.Q_base ho0) hb); replace BK321 := m_ (kl_ gb321 hb); replace BK332 := m_ (kl_ gb332 hb); replace HB := m_ (below_step bz_ hb); (try clear hb); (try clear hb2); (try clear hk); (try clear hi); (try clear ho0)) | ((with_reducible refine gate_builtin (b := .append) (xs := #[.tmp 125, .tmp 126]) rfl ?_); at_builtin; refine Kd.Q_append_rows (Kd.int .u8) (w0 := w) w.heap.size rfl (.tmp 125) (.tmp 126) 27 5 (.int .u8 0) 1 rfl Try.underlying27 info5 rfl (by decide) (by omega) v435 t434 y376 _ _ _ (fun k_ => some k_ ≠ (.slice Ao192 y373.length co192 : Value).ownBlock ∧ some k_ ≠ (.slice Ao194 y376.length co194 : Value).ownBlock) (fun _ => False) rfl rfl ?aO ?aR (fun _ _ h => h) (fun _ h => h.elim) ?aF ?aB ?aS ?aL ?_; (case aR => exact Cd_ (Kd.R_reads' HO378.out).2.2); (case aB => exact bz_); (case aF => exact (fun k_ hk => ⟨Kd.fresh' (Kd.R_lt (Rz_ HO375.out)) k_ hk, Kd.fresh' (Kd.R_lt (Rz_ HO378.out)) k_ hk⟩)); (case aO => exact (Qy_ (Kd.Q_mono HO436.out (fun _ hk => ⟨hk.1.2, hk.2⟩)))); (case aS => exact (below_size bz_)); (case aL => have := LMc186.out; omega); intro v438 w196 ho hb hg hat; rw [← Ny437.out] at ho; have HO439 := m_ (ho); replace BK321 := m_ (blk_grown (g := gb321) (o := .cells #[.int .u8 a0_0, .int .u32 a0_1, .int .u32 a0_2, .int .u32 a0_3, .int .u32 a0_4, .int .i64 a0_5, .int .u32 a0_6, .slice A0_7 l0_7.length c0_7, .int .i64 a0_8, .bool false, .slice A0_10 l0_10.length c0_10] 29 (0, 0)) kz_ hg (Kd.Q_ne HO436.out BK321.out (by decide))); replace BK332 := m_ (blk_grown (g := gb332) (o := .cells #[.int .u32 a0_2, .int .u32 a0_3, .int .u32 a0_4, .int .i64 a0_5, .int .u32 a0_6, .slice A0_7 l0_7.length c0_7] 26 (0, 0)) kz_ hg (Kd.Q_ne HO436.out BK332.out (by decide))); replace HO375 := m_ (Kd.R_after (ok := (fun k_ => some k_ ≠ (.slice Ao194 y376.length co194 : Value).ownBlock)) (Ry_ (Kd.R_mono HO375.out (fun _ hk => ⟨hk.1.2, hk.2⟩))) hg hat); replace HO378 := m_ (Kd.R_after (ok := (fun k_ => some k_ ≠ (.slice Ao192 y373.length co192 : Value).ownBlock)) (Rz_ HO378.out) hg hat); replace HB := m_ (hb); clear HO436 ho hb hg hat))
               go_ret2
               exact ⟨_, ew_, (Qy_ (Kd.Q_mono HO439.out (fun _ hk => trivial))), bz_⟩
              ·rw [if_neg c186] at H
               exact absurd H (by simp)
          ·rw [if_neg c84] at H
           exact absurd H (by simp)
         ·rw [if_neg c83] at H
          have c83b0 : (a0_0 == 7) = false := beq_eq_false_iff_ne.mpr c83
          have c83b1 : (a0_0 != 7) = true := bne_iff_ne.mpr c83
          by_cases c197 : a0_0 = 8
          ·rw [if_pos c197] at H
           have c197b0 : (a0_0 == 8) = true := beq_iff_eq.mpr c197
           have c197b1 : (a0_0 != 8) = false := bne_eq_false_iff_eq.mpr c197
           clear c197
           by_cases c198 : x5_46.length < 140737488355328
           ·rw [if_pos c198] at H
            have LMc198 := m_ c198
            clear c198
            obtain ⟨y440, hy440⟩ : ∃ y_ : List Int, y_ = (x5_46 ++ [(a0_8) % 256]) := ⟨_, rfl⟩
            replace H : (if y440.length + l0_10.length < 140737488355328 then ((some (y440 ++ l0_10 : List Int)).bind fun y443 => ((stolonref16_number.f ((wrap64 ((y443.length : Int) + 2)) % 4294967296) 2).bind fun t446 => (if t446.length + y443.length < 140737488355328 then (some ((t446 ++ y443), 0)) else (none)))) else (none)) = some (r1, r2) := by first | (rw [hy440]; with_reducible exact H) | (have H2_ := (Option.bind_some _ _).symm.trans H; rw [hy440]; with_reducible exact H2_) | (have H2_ := (Option.bind_some _ _).symm.trans H; with_reducible exact H2_) | with_reducible exact H | (rw [hy440]; exact H) | exact H
            have Ny440 := m_ hy440
            clear hy440
            by_cases c199 : y440.length + l0_10.length < 140737488355328
            ·rw [if_pos c199] at H
             have LMc199 := m_ c199
             clear c199
             obtain ⟨y443, hy443⟩ : ∃ y_ : List Int, y_ = (y440 ++ l0_10) := ⟨_, rfl⟩
             replace H : ((stolonref16_number.f ((wrap64 ((y443.length : Int) + 2)) % 4294967296) 2).bind fun t446 => (if t446.length + y443.length < 140737488355328 then (some ((t446 ++ y443), 0)) else (none))) = some (r1, r2) := by first | (rw [hy443]; with_reducible exact H) | (have H2_ := (Option.bind_some _ _).symm.trans H; rw [hy443]; with_reducible exact H2_) | (have H2_ := (Option.bind_some _ _).symm.trans H; with_reducible exact H2_) | with_reducible exact H | (rw [hy443]; exact H) | exact H
             have Ny443 := m_ hy443
             clear hy443
             replace H := Option.bind_eq_some_iff.mp H
             obtain ⟨t446, A2000, H⟩ := H
             replace H : (if t446.length + y443.length < 140737488355328 then (some ((t446 ++ y443), 0)) else (none)) = some (r1, r2) := H
             have A200 := m_ A2000
             clear A2000
             by_cases c201 : t446.length + y443.length < 140737488355328
             ·rw [if_pos c201] at H
              have LMc201 := m_ c201
              clear c201
              obtain ⟨y449, hy449⟩ : ∃ y_ : List Int, y_ = (t446 ++ y443) := ⟨_, rfl⟩
              replace H : (some (y449, 0)) = some (r1, r2) := by first | (rw [hy449]; with_reducible exact H) | (have H2_ := (Option.bind_some _ _).symm.trans H; rw [hy449]; with_reducible exact H2_) | (have H2_ := (Option.bind_some _ _).symm.trans H; with_reducible exact H2_) | with_reducible exact H | (rw [hy449]; exact H) | exact H
              have Ny449 := m_ hy449
              clear hy449
              simp only [Option.some.injEq, Prod.mk.injEq] at H
              obtain ⟨rfl, rfl⟩ := H
              have hnb202 := NB321_332.out
              have hnc202 := NB332_321.out
              have hcz203 := cz11_ BK321.out
              go_wp2_with (first | ((with_reducible refine gate_builtin (b := .append) (xs := #[.tmp 111, .tmp 115]) rfl ?_); at_builtin; refine Kd.R_append (Kd.int .u8) (w0 := w) w.heap.size rfl (.tmp 111) (.tmp 115) 27 5 (.int .u8 0) 1 rfl Try.underlying27 info5 rfl (by decide) (by omega) u5 x5_46 ((a0_8) % 256) [.int .u8 ((a0_8) % 256)] (fun _ => True) (fun _ => False) rfl rfl ?aP (fun _ hk => hk.elim) ?aF ?aO ?aB ?aS ?aL ?_; (case aP => exact rfl); (case aB => exact bz_); (case aF => exact (fun _ _ => trivial)); (case aO => exact (Rz_ HO_5.out)); (case aS => exact (below_size bz_)); (case aL => have := LMc198.out; omega); intro v441 w204 ho hb hg hat; rw [← Ny440.out] at ho; have HO442 := m_ (ho); replace BK321 := m_ (blk_grown (g := gb321) (o := .cells #[.int .u8 a0_0, .int .u32 a0_1, .int .u32 a0_2, .int .u32 a0_3, .int .u32 a0_4, .int .i64 a0_5, .int .u32 a0_6, .slice A0_7 l0_7.length c0_7, .int .i64 a0_8, .bool a0_9, .slice A0_10 l0_10.length c0_10] 29 (0, 0)) kz_ hg (Kd.R_ne HO_5.out BK321.out (by decide))); replace BK332 := m_ (blk_grown (g := gb332) (o := .cells #[.int .u32 a0_2, .int .u32 a0_3, .int .u32 a0_4, .int .i64 a0_5, .int .u32 a0_6, .slice A0_7 l0_7.length c0_7] 26 (0, 0)) kz_ hg (Kd.R_ne HO_5.out BK332.out (by decide))); replace HB := m_ (hb); clear HO_5 ho hb hg hat; have hcz205 := cz11_ BK321.out) | ((with_reducible refine gate_builtin (b := .append) (xs := #[.tmp 117, .tmp 119]) rfl ?_); at_builtin; refine Kd.R_append_rows (Kd.int .u8) (w0 := w) w.heap.size rfl (.tmp 117) (.tmp 119) 27 5 (.int .u8 0) 1 rfl Try.underlying27 info5 rfl (by decide) (by omega) v441 y440 l0_10 _ _ _ (fun _ => True) (fun _ => False) rfl rfl ?aO ?aR (fun _ _ h => h) (fun _ h => h.elim) ?aF ?aB ?aS ?aL ?_; (case aR => exact Cd_ (Kd.C_below HR0_10.out HB.out)); (case aB => exact bz_); (case aF => exact (fun _ _ => trivial)); (case aO => exact (Rz_ HO442.out)); (case aS => exact (below_size bz_)); (case aL => have := LMc199.out; omega); intro v444 w206 ho hb hg hat; rw [← Ny443.out] at ho; have HO445 := m_ (ho); replace BK321 := m_ (blk_grown (g := gb321) (o := .cells #[.int .u8 a0_0, .int .u32 a0_1, .int .u32 a0_2, .int .u32 a0_3, .int .u32 a0_4, .int .i64 a0_5, .int .u32 a0_6, .slice A0_7 l0_7.length c0_7, .int .i64 a0_8, .bool a0_9, .slice A0_10 l0_10.length c0_10] 29 (0, 0)) kz_ hg (Kd.R_ne HO442.out BK321.out (by decide))); replace BK332 := m_ (blk_grown (g := gb332) (o := .cells #[.int .u32 a0_2, .int .u32 a0_3, .int .u32 a0_4, .int .i64 a0_5, .int .u32 a0_6, .slice A0_7 l0_7.length c0_7] 26 (0, 0)) kz_ hg (Kd.R_ne HO442.out BK332.out (by decide))); replace HB := m_ (hb); clear HO442 ho hb hg hat; obtain ⟨Ao207, co207, eo207⟩ := Kd.R_slice HO445.out; subst eo207) | ((with_reducible refine gate_callee (f := 28) rfl ?_); refine gL_ (some 125) Try.func28 #[.int .u32 ((wrap64 ((y443.length : Int) + 2)) % 4294967296), .int .i64 2] ?_; (with_reducible refine (stolonref16_number.calls ((wrap64 ((y443.length : Int) + 2)) % 4294967296) 2 t446 _ A200.out).mono ?_); rintro e w208 ⟨v447, rfl, ho0, hb⟩; refine ⟨_, rfl, ?_⟩; have HO448 := m_ (Kd.Q_lower (Kd.Q_new' ho0 (Kd.R_lt (Rz_ HO445.out))) (below_size bz_)); replace HO445 := m_ (Kd.R_elder' (Rz_ HO445.out) (Kd.Q_base ho0) hb); replace BK321 := m_ (kl_ gb321 hb); replace BK332 := m_ (kl_ gb332 hb); replace HB := m_ (below_step bz_ hb); (try clear hb); (try clear hb2); (try clear hk); (try clear hi); (try clear ho0)) | ((with_reducible refine gate_builtin (b := .append) (xs := #[.tmp 125, .tmp 126]) rfl ?_); at_builtin; refine Kd.Q_append_rows (Kd.int .u8) (w0 := w) w.heap.size rfl (.tmp 125) (.tmp 126) 27 5 (.int .u8 0) 1 rfl Try.underlying27 info5 rfl (by decide) (by omega) v447 t446 y443 _ _ _ (fun k_ => some k_ ≠ (.slice Ao207 y443.length co207 : Value).ownBlock) (fun _ => False) rfl rfl ?aO ?aR (fun _ _ h => h) (fun _ h => h.elim) ?aF ?aB ?aS ?aL ?_; (case aR => exact Cd_ (Kd.R_reads' HO445.out).2.2); (case aB => exact bz_); (case aF => exact (fun k_ hk => Kd.fresh' (Kd.R_lt (Rz_ HO445.out)) k_ hk)); (case aO => exact (Qy_ (Kd.Q_mono HO448.out (fun _ hk => hk.2)))); (case aS => exact (below_size bz_)); (case aL => have := LMc201.out; omega); intro v450 w209 ho hb hg hat; rw [← Ny449.out] at ho; have HO451 := m_ (ho); replace BK321 := m_ (blk_grown (g := gb321) (o := .cells #[.int .u8 a0_0, .int .u32 a0_1, .int .u32 a0_2, .int .u32 a0_3, .int .u32 a0_4, .int .i64 a0_5, .int .u32 a0_6, .slice A0_7 l0_7.length c0_7, .int .i64 a0_8, .bool a0_9, .slice A0_10 l0_10.length c0_10] 29 (0, 0)) kz_ hg (Kd.Q_ne HO448.out BK321.out (by decide))); replace BK332 := m_ (blk_grown (g := gb332) (o := .cells #[.int .u32 a0_2, .int .u32 a0_3, .int .u32 a0_4, .int .i64 a0_5, .int .u32 a0_6, .slice A0_7 l0_7.length c0_7] 26 (0, 0)) kz_ hg (Kd.Q_ne HO448.out BK332.out (by decide))); replace HO445 := m_ (Kd.R_after (ok := (fun _ => True)) (Rz_ HO445.out) hg hat); replace HB := m_ (hb); clear HO448 ho hb hg hat))
              go_ret2
              exact ⟨_, ew_, (Qy_ (Kd.Q_mono HO451.out (fun _ hk => trivial))), bz_⟩
             ·rw [if_neg c201] at H
              exact absurd H (by simp)
            ·rw [if_neg c199] at H
             exact absurd H (by simp)
           ·rw [if_neg c198] at H
            exact absurd H (by simp)
          ·rw [if_neg c197] at H
           have c197b0 : (a0_0 == 8) = false := beq_eq_false_iff_ne.mpr c197
           have c197b1 : (a0_0 != 8) = true := bne_iff_ne.mpr c197
           by_cases c210 : a0_0 = 9
           ·rw [if_pos c210] at H
            have c210b0 : (a0_0 == 9) = true := beq_iff_eq.mpr c210
            have c210b1 : (a0_0 != 9) = false := bne_eq_false_iff_eq.mpr c210
            clear c210
            by_cases c211 : x5_46.length < 140737488355328
            ·rw [if_pos c211] at H
             have LMc211 := m_ c211
             clear c211
             obtain ⟨y452, hy452⟩ : ∃ y_ : List Int, y_ = (x5_46 ++ [(a0_8) % 256]) := ⟨_, rfl⟩
             replace H : (if y452.length + l0_10.length < 140737488355328 then ((some (y452 ++ l0_10 : List Int)).bind fun y455 => ((stolonref16_number.f ((wrap64 ((y455.length : Int) + 2)) % 4294967296) 2).bind fun t458 => (if t458.length + y455.length < 140737488355328 then (some ((t458 ++ y455), 0)) else (none)))) else (none)) = some (r1, r2) := by first | (rw [hy452]; with_reducible exact H) | (have H2_ := (Option.bind_some _ _).symm.trans H; rw [hy452]; with_reducible exact H2_) | (have H2_ := (Option.bind_some _ _).symm.trans H; with_reducible exact H2_) | with_reducible exact H | (rw [hy452]; exact H) | exact H
             have Ny452 := m_ hy452
             clear hy452
             by_cases c212 : y452.length + l0_10.length < 140737488355328
             ·rw [if_pos c212] at H
              have LMc212 := m_ c212
              clear c212
              obtain ⟨y455, hy455⟩ : ∃ y_ : List Int, y_ = (y452 ++ l0_10) := ⟨_, rfl⟩
              replace H : ((stolonref16_number.f ((wrap64 ((y455.length : Int) + 2)) % 4294967296) 2).bind fun t458 => (if t458.length + y455.length < 140737488355328 then (some ((t458 ++ y455), 0)) else (none))) = some (r1, r2) := by first | (rw [hy455]; with_reducible exact H) | (have H2_ := (Option.bind_some _ _).symm.trans H; rw [hy455]; with_reducible exact H2_) | (have H2_ := (Option.bind_some _ _).symm.trans H; with_reducible exact H2_) | with_reducible exact H | (rw [hy455]; exact H) | exact H
              have Ny455 := m_ hy455
              clear hy455
              replace H := Option.bind_eq_some_iff.mp H
              obtain ⟨t458, A2130, H⟩ := H
              replace H : (if t458.length + y455.length < 140737488355328 then (some ((t458 ++ y455), 0)) else (none)) = some (r1, r2) := H
              have A213 := m_ A2130
              clear A2130
              by_cases c214 : t458.length + y455.length < 140737488355328
              ·rw [if_pos c214] at H
               have LMc214 := m_ c214
               clear c214
               obtain ⟨y461, hy461⟩ : ∃ y_ : List Int, y_ = (t458 ++ y455) := ⟨_, rfl⟩
               replace H : (some (y461, 0)) = some (r1, r2) := by first | (rw [hy461]; with_reducible exact H) | (have H2_ := (Option.bind_some _ _).symm.trans H; rw [hy461]; with_reducible exact H2_) | (have H2_ := (Option.bind_some _ _).symm.trans H; with_reducible exact H2_) | with_reducible exact H | (rw [hy461]; exact H) | exact H
               have Ny461 := m_ hy461
               clear hy461
               simp only [Option.some.injEq, Prod.mk.injEq] at H
               obtain ⟨rfl, rfl⟩ := H
               have hnb215 := NB321_332.out
               have hnc215 := NB332_321.out
               have hcz216 := cz11_ BK321.out
               go_wp2_with (first | ((with_reducible refine gate_builtin (b := .append) (xs := #[.tmp 111, .tmp 115]) rfl ?_); at_builtin; refine Kd.R_append (Kd.int .u8) (w0 := w) w.heap.size rfl (.tmp 111) (.tmp 115) 27 5 (.int .u8 0) 1 rfl Try.underlying27 info5 rfl (by decide) (by omega) u5 x5_46 ((a0_8) % 256) [.int .u8 ((a0_8) % 256)] (fun _ => True) (fun _ => False) rfl rfl ?aP (fun _ hk => hk.elim) ?aF ?aO ?aB ?aS ?aL ?_; (case aP => exact rfl); (case aB => exact bz_); (case aF => exact (fun _ _ => trivial)); (case aO => exact (Rz_ HO_5.out)); (case aS => exact (below_size bz_)); (case aL => have := LMc211.out; omega); intro v453 w217 ho hb hg hat; rw [← Ny452.out] at ho; have HO454 := m_ (ho); replace BK321 := m_ (blk_grown (g := gb321) (o := .cells #[.int .u8 a0_0, .int .u32 a0_1, .int .u32 a0_2, .int .u32 a0_3, .int .u32 a0_4, .int .i64 a0_5, .int .u32 a0_6, .slice A0_7 l0_7.length c0_7, .int .i64 a0_8, .bool a0_9, .slice A0_10 l0_10.length c0_10] 29 (0, 0)) kz_ hg (Kd.R_ne HO_5.out BK321.out (by decide))); replace BK332 := m_ (blk_grown (g := gb332) (o := .cells #[.int .u32 a0_2, .int .u32 a0_3, .int .u32 a0_4, .int .i64 a0_5, .int .u32 a0_6, .slice A0_7 l0_7.length c0_7] 26 (0, 0)) kz_ hg (Kd.R_ne HO_5.out BK332.out (by decide))); replace HB := m_ (hb); clear HO_5 ho hb hg hat; have hcz218 := cz11_ BK321.out) | ((with_reducible refine gate_builtin (b := .append) (xs := #[.tmp 117, .tmp 119]) rfl ?_); at_builtin; refine Kd.R_append_rows (Kd.int .u8) (w0 := w) w.heap.size rfl (.tmp 117) (.tmp 119) 27 5 (.int .u8 0) 1 rfl Try.underlying27 info5 rfl (by decide) (by omega) v453 y452 l0_10 _ _ _ (fun _ => True) (fun _ => False) rfl rfl ?aO ?aR (fun _ _ h => h) (fun _ h => h.elim) ?aF ?aB ?aS ?aL ?_; (case aR => exact Cd_ (Kd.C_below HR0_10.out HB.out)); (case aB => exact bz_); (case aF => exact (fun _ _ => trivial)); (case aO => exact (Rz_ HO454.out)); (case aS => exact (below_size bz_)); (case aL => have := LMc212.out; omega); intro v456 w219 ho hb hg hat; rw [← Ny455.out] at ho; have HO457 := m_ (ho); replace BK321 := m_ (blk_grown (g := gb321) (o := .cells #[.int .u8 a0_0, .int .u32 a0_1, .int .u32 a0_2, .int .u32 a0_3, .int .u32 a0_4, .int .i64 a0_5, .int .u32 a0_6, .slice A0_7 l0_7.length c0_7, .int .i64 a0_8, .bool a0_9, .slice A0_10 l0_10.length c0_10] 29 (0, 0)) kz_ hg (Kd.R_ne HO454.out BK321.out (by decide))); replace BK332 := m_ (blk_grown (g := gb332) (o := .cells #[.int .u32 a0_2, .int .u32 a0_3, .int .u32 a0_4, .int .i64 a0_5, .int .u32 a0_6, .slice A0_7 l0_7.length c0_7] 26 (0, 0)) kz_ hg (Kd.R_ne HO454.out BK332.out (by decide))); replace HB := m_ (hb); clear HO454 ho hb hg hat; obtain ⟨Ao220, co220, eo220⟩ := Kd.R_slice HO457.out; subst eo220) | ((with_reducible refine gate_callee (f := 28) rfl ?_); refine gL_ (some 125) Try.func28 #[.int .u32 ((wrap64 ((y455.length : Int) + 2)) % 4294967296), .int .i64 2] ?_; (with_reducible refine (stolonref16_number.calls ((wrap64 ((y455.length : Int) + 2)) % 4294967296) 2 t458 _ A213.out).mono ?_); rintro e w221 ⟨v459, rfl, ho0, hb⟩; refine ⟨_, rfl, ?_⟩; have HO460 := m_ (Kd.Q_lower (Kd.Q_new' ho0 (Kd.R_lt (Rz_ HO457.out))) (below_size bz_)); replace HO457 := m_ (Kd.R_elder' (Rz_ HO457.out) (Kd.Q_base ho0) hb); replace BK321 := m_ (kl_ gb321 hb); replace BK332 := m_ (kl_ gb332 hb); replace HB := m_ (below_step bz_ hb); (try clear hb); (try clear hb2); (try clear hk); (try clear hi); (try clear ho0)) | ((with_reducible refine gate_builtin (b := .append) (xs := #[.tmp 125, .tmp 126]) rfl ?_); at_builtin; refine Kd.Q_append_rows (Kd.int .u8) (w0 := w) w.heap.size rfl (.tmp 125) (.tmp 126) 27 5 (.int .u8 0) 1 rfl Try.underlying27 info5 rfl (by decide) (by omega) v459 t458 y455 _ _ _ (fun k_ => some k_ ≠ (.slice Ao220 y455.length co220 : Value).ownBlock) (fun _ => False) rfl rfl ?aO ?aR (fun _ _ h => h) (fun _ h => h.elim) ?aF ?aB ?aS ?aL ?_; (case aR => exact Cd_ (Kd.R_reads' HO457.out).2.2); (case aB => exact bz_); (case aF => exact (fun k_ hk => Kd.fresh' (Kd.R_lt (Rz_ HO457.out)) k_ hk)); (case aO => exact (Qy_ (Kd.Q_mono HO460.out (fun _ hk => hk.2)))); (case aS => exact (below_size bz_)); (case aL => have := LMc214.out; omega); intro v462 w222 ho hb hg hat; rw [← Ny461.out] at ho; have HO463 := m_ (ho); replace BK321 := m_ (blk_grown (g := gb321) (o := .cells #[.int .u8 a0_0, .int .u32 a0_1, .int .u32 a0_2, .int .u32 a0_3, .int .u32 a0_4, .int .i64 a0_5, .int .u32 a0_6, .slice A0_7 l0_7.length c0_7, .int .i64 a0_8, .bool a0_9, .slice A0_10 l0_10.length c0_10] 29 (0, 0)) kz_ hg (Kd.Q_ne HO460.out BK321.out (by decide))); replace BK332 := m_ (blk_grown (g := gb332) (o := .cells #[.int .u32 a0_2, .int .u32 a0_3, .int .u32 a0_4, .int .i64 a0_5, .int .u32 a0_6, .slice A0_7 l0_7.length c0_7] 26 (0, 0)) kz_ hg (Kd.Q_ne HO460.out BK332.out (by decide))); replace HO457 := m_ (Kd.R_after (ok := (fun _ => True)) (Rz_ HO457.out) hg hat); replace HB := m_ (hb); clear HO460 ho hb hg hat))
               go_ret2
               exact ⟨_, ew_, (Qy_ (Kd.Q_mono HO463.out (fun _ hk => trivial))), bz_⟩
              ·rw [if_neg c214] at H
               exact absurd H (by simp)
             ·rw [if_neg c212] at H
              exact absurd H (by simp)
            ·rw [if_neg c211] at H
             exact absurd H (by simp)
           ·rw [if_neg c210] at H
            have c210b0 : (a0_0 == 9) = false := beq_eq_false_iff_ne.mpr c210
            have c210b1 : (a0_0 != 9) = true := bne_iff_ne.mpr c210
            replace H := Option.bind_eq_some_iff.mp H
            obtain ⟨t464, A2230, H⟩ := H
            replace H : (if t464.length + x5_46.length < 140737488355328 then (some ((t464 ++ x5_46), 0)) else (none)) = some (r1, r2) := H
            have A223 := m_ A2230
            clear A2230
            by_cases c224 : t464.length + x5_46.length < 140737488355328
            ·rw [if_pos c224] at H
             have LMc224 := m_ c224
             clear c224
             obtain ⟨y467, hy467⟩ : ∃ y_ : List Int, y_ = (t464 ++ x5_46) := ⟨_, rfl⟩
             replace H : (some (y467, 0)) = some (r1, r2) := by first | (rw [hy467]; with_reducible exact H) | (have H2_ := (Option.bind_some _ _).symm.trans H; rw [hy467]; with_reducible exact H2_) | (have H2_ := (Option.bind_some _ _).symm.trans H; with_reducible exact H2_) | with_reducible exact H | (rw [hy467]; exact H) | exact H
             have Ny467 := m_ hy467
             clear hy467
             simp only [Option.some.injEq, Prod.mk.injEq] at H
             obtain ⟨rfl, rfl⟩ := H
             have hnb225 := NB321_332.out
             have hnc225 := NB332_321.out
             have hcz226 := cz11_ BK321.out
             obtain ⟨Ao227, co227, eo227⟩ := Kd.R_slice HO_5.out
             subst eo227
             go_wp2_with (first | ((with_reducible refine gate_callee (f := 28) rfl ?_); refine gL_ (some 125) Try.func28 #[.int .u32 ((wrap64 ((x5_46.length : Int) + 2)) % 4294967296), .int .i64 2] ?_; (with_reducible refine (stolonref16_number.calls ((wrap64 ((x5_46.length : Int) + 2)) % 4294967296) 2 t464 _ A223.out).mono ?_); rintro e w228 ⟨v465, rfl, ho0, hb⟩; refine ⟨_, rfl, ?_⟩; have HO466 := m_ (Kd.Q_lower (Kd.Q_new' ho0 (Kd.R_lt (Rz_ HO_5.out))) (below_size bz_)); replace HO_5 := m_ (Kd.R_elder' (Rz_ HO_5.out) (Kd.Q_base ho0) hb); replace BK321 := m_ (kl_ gb321 hb); replace BK332 := m_ (kl_ gb332 hb); replace HB := m_ (below_step bz_ hb); (try clear hb); (try clear hb2); (try clear hk); (try clear hi); (try clear ho0)) | ((with_reducible refine gate_builtin (b := .append) (xs := #[.tmp 125, .tmp 126]) rfl ?_); at_builtin; refine Kd.Q_append_rows (Kd.int .u8) (w0 := w) w.heap.size rfl (.tmp 125) (.tmp 126) 27 5 (.int .u8 0) 1 rfl Try.underlying27 info5 rfl (by decide) (by omega) v465 t464 x5_46 _ _ _ (fun k_ => some k_ ≠ (.slice Ao227 x5_46.length co227 : Value).ownBlock) (fun _ => False) rfl rfl ?aO ?aR (fun _ _ h => h) (fun _ h => h.elim) ?aF ?aB ?aS ?aL ?_; (case aR => exact Cd_ (Kd.R_reads' HO_5.out).2.2); (case aB => exact bz_); (case aF => exact (fun k_ hk => Kd.fresh' (Kd.R_lt (Rz_ HO_5.out)) k_ hk)); (case aO => exact (Qy_ (Kd.Q_mono HO466.out (fun _ hk => hk.2)))); (case aS => exact (below_size bz_)); (case aL => have := LMc224.out; omega); intro v468 w229 ho hb hg hat; rw [← Ny467.out] at ho; have HO469 := m_ (ho); replace HO_5 := m_ (Kd.R_after (ok := (fun _ => True)) (Rz_ HO_5.out) hg hat); replace BK321 := m_ (blk_grown (g := gb321) (o := .cells #[.int .u8 a0_0, .int .u32 a0_1, .int .u32 a0_2, .int .u32 a0_3, .int .u32 a0_4, .int .i64 a0_5, .int .u32 a0_6, .slice A0_7 l0_7.length c0_7, .int .i64 a0_8, .bool a0_9, .slice A0_10 l0_10.length c0_10] 29 (0, 0)) kz_ hg (Kd.Q_ne HO466.out BK321.out (by decide))); replace BK332 := m_ (blk_grown (g := gb332) (o := .cells #[.int .u32 a0_2, .int .u32 a0_3, .int .u32 a0_4, .int .i64 a0_5, .int .u32 a0_6, .slice A0_7 l0_7.length c0_7] 26 (0, 0)) kz_ hg (Kd.Q_ne HO466.out BK332.out (by decide))); replace HB := m_ (hb); clear HO466 ho hb hg hat))
             go_ret2
             exact ⟨_, ew_, (Qy_ (Kd.Q_mono HO469.out (fun _ hk => trivial))), bz_⟩
            ·rw [if_neg c224] at H
             exact absurd H (by simp)
  ·rw [if_neg c5] at H
   exact absurd H (by simp)
 ·replace c3 := Bool.eq_false_iff.mpr c3
  subst c3
  have H1 : (some (([] : List Int), 1)) = some (r1, r2) := by rw [if_neg (show ¬ (false = true) by decide)] at H; exact H
  clear H
  have H := H1
  clear H1
  simp only [Option.some.injEq, Prod.mk.injEq] at H
  obtain ⟨rfl, rfl⟩ := H
  go_enter Try.func13, Try.ntmps13
  go_wp2_with (first | ((with_reducible refine gate_dst (N := 1) rfl ?_); refine bx_ 1 29 #[.int .u8 a0_0, .int .u32 a0_1, .int .u32 a0_2, .int .u32 a0_3, .int .u32 a0_4, .int .i64 a0_5, .int .u32 a0_6, .slice A0_7 l0_7.length c0_7, .int .i64 a0_8, .bool a0_9, .slice A0_10 l0_10.length c0_10] ?_; intro gb321 hg w230 hbox hb; have BK321 := m_ (hbox); have GW321 := m_ ((gw_ : w.heap.size ≤ gb321)); have GE321 := m_ ((gw_ : w.heap.size ≤ gb321)); replace HB := m_ (below_step bz_ hb); clear hb hbox hg; have hcz231 := cz11_ BK321.out) | ((with_reducible refine gate_callee (f := 15) rfl ?_); refine gL_ (some 10) Try.func15 #[.agg #[.int .u8 a0_0, .int .u32 a0_1, .int .u32 a0_2, .int .u32 a0_3, .int .u32 a0_4, .int .i64 a0_5, .int .u32 a0_6, .slice A0_7 l0_7.length c0_7, .int .i64 a0_8, .bool a0_9, .slice A0_10 l0_10.length c0_10]] ?_; (with_reducible refine (stolonref16_Right.calls k a0_0 a0_1 a0_2 a0_3 a0_4 a0_5 a0_6 _ _ l0_7 a0_8 a0_9 _ _ l0_10 false _ ?side1 ?side2 ?side3 ?side4 A2.out).mono ?_); (case side1 => exact Cd_ (Kd.C_below HR0_7.out HB.out)); (case side2 => exact HC0_7.out); (case side3 => exact Cd_ (Kd.C_below HR0_10.out HB.out)); (case side4 => exact HC0_10.out); rintro e w232 ⟨rfl, hb⟩; refine ⟨_, rfl, ?_⟩; replace BK321 := m_ (kl_ gb321 hb); replace HB := m_ (below_step bz_ hb); (try clear hb); (try clear hb2); (try clear hk); (try clear hi)))
  go_ret2
  exact ⟨_, ew_, Kd.Q_of_R (by first | exact Kd.R_nil _ _ _ _ _ | exact Kd.N_nil _ _ _ _ _ | exact Kd.V_nil _ _ _ _ _ | exact Kd.Q_nil _ _ _ _ _ | exact Kd.S_nil _ _ _ _ _), bz_⟩
end Go.Proofs.Ytboonfidioombaa.P

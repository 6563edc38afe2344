/- For each Go function a Lean function, and the proof that a call comes to what it tells: made by program out of the translation (the kit's print, with texts by hand put in). No condition. -/
import Derived.Test.YtplkfpfgnccffaaDoorSq
import Derived.Test.YtplkfpfgnccffaaDoorPx0
import Derived.Test.YtplkfpfgnccffaaDoorPx1
import Derived.Test.YtplkfpfgnccffaaDoorPx2
namespace Go.Proofs.YtplkfpfgnccffaaDoor.P
open Go.RowKit Go.Proofs.YtplkfpfgnccffaaDoor.HRows Go.Proofs.YtplkfpfgnccffaaDoorW.PrintWords Go.Proofs.YtplkfpfgnccffaaDoorW.PrintLast Go.Proofs.YtplkfpfgnccffaaDoorW.PrintMore
attribute [local go_sem] max2_int min2_int max_two min_two max_three min_three max_four min_four   -- for this text's walks alone
set_option linter.unusedVariables false
set_option linter.unusedSimpArgs false

/-! ### stolonref01_Text: function 17 -/
def stolonref01_Text.f (a0 : Int) : Option (ByteArray) := (stolonref01_Bytes.f a0).bind fun t127 => (if 0 < (t127.length : Int) then ((stolonref01_figures.f (wrap64 (rd t127 0))).bind fun t131 => (if t131.size + 1 ≤ 9223372036854775807 then (if 1 < (t127.length : Int) then ((stolonref01_figures.f (wrap64 (rd t127 1))).bind fun t133 => (if (t131 ++ (⟨#[46]⟩ : ByteArray)).size + t133.size ≤ 9223372036854775807 then (if ((t131 ++ (⟨#[46]⟩ : ByteArray)) ++ t133).size + 1 ≤ 9223372036854775807 then (if 2 < (t127.length : Int) then ((stolonref01_figures.f (wrap64 (rd t127 2))).bind fun t135 => (if (((t131 ++ (⟨#[46]⟩ : ByteArray)) ++ t133) ++ (⟨#[46]⟩ : ByteArray)).size + t135.size ≤ 9223372036854775807 then (if ((((t131 ++ (⟨#[46]⟩ : ByteArray)) ++ t133) ++ (⟨#[46]⟩ : ByteArray)) ++ t135).size + 1 ≤ 9223372036854775807 then (if 3 < (t127.length : Int) then ((stolonref01_figures.f (wrap64 (rd t127 3))).bind fun t137 => (if (((((t131 ++ (⟨#[46]⟩ : ByteArray)) ++ t133) ++ (⟨#[46]⟩ : ByteArray)) ++ t135) ++ (⟨#[46]⟩ : ByteArray)).size + t137.size ≤ 9223372036854775807 then (some ((((((t131 ++ (⟨#[46]⟩ : ByteArray)) ++ t133) ++ (⟨#[46]⟩ : ByteArray)) ++ t135) ++ (⟨#[46]⟩ : ByteArray)) ++ t137)) else (none))) else (none)) else (none)) else (none))) else (none)) else (none)) else (none))) else (none)) else (none))) else (none))
def stolonref01_Text.T2 : Bool × List (List Nat × List Nat) := (true, [([], []), ([0], [0]), ([1], [1]), ([2], [2]), ([3], [3]), ([4], [4]), ([], []), ([6], [6]), ([7], [7]), ([8], [8]), ([9, 4], [9]), ([5, 10], [5, 10]), ([11], [11]), ([], []), ([13], [13]), ([14], [14]), ([15], [15]), ([16, 10], [16]), ([12, 17], [12, 17]), ([18], [18]), ([], []), ([20], [20]), ([21], [21]), ([22], [22]), ([23, 17], [23]), ([19, 24], [19, 24]), ([25, 24, 0, 1, 2, 3, 4, 5, 6, 7, 8, 9, 10, 11, 12, 13, 14, 15, 16, 17, 18, 19, 20, 21, 22, 23, 24, 25], [25])])
def stolonref01_Text.B2 : List Nat := [0, 1, 3, 7, 15, 31, 0, 64, 192, 448, 991, 2047, 4095, 0, 8192, 24576, 57344, 124895, 262143, 524287, 0, 1048576, 3145728, 7340032, 15984607, 33554431, 67108863]
theorem stolonref01_Text.tab2 : rtab .any (opsOf Tryd.f17 2) = stolonref01_Text.T2 := by kernel_rfl
theorem stolonref01_Text.bits2 : waitsOk stolonref01_Text.T2.2 stolonref01_Text.B2 = true := by kernel_rfl
set_option maxHeartbeats 8000000 in
set_option maxRecDepth 100000 in
theorem stolonref01_Text.calls (a0 : Int) (r : ByteArray) (w : World) (h : stolonref01_Text.f a0 = some r) :
  Calls Tryd.prog 17 #[.int .u32 a0] w fun e w' => e = .returned (.string r) ∧ Below w.heap.size w w' := by
 have HB := m_ (Below.refl w.heap.size w)
 have H : ((stolonref01_Bytes.f a0).bind fun t127 => (if 0 < (t127.length : Int) then ((stolonref01_figures.f (wrap64 (rd t127 0))).bind fun t131 => (if t131.size + 1 ≤ 9223372036854775807 then (if 1 < (t127.length : Int) then ((stolonref01_figures.f (wrap64 (rd t127 1))).bind fun t133 => (if (t131 ++ (⟨#[46]⟩ : ByteArray)).size + t133.size ≤ 9223372036854775807 then (if ((t131 ++ (⟨#[46]⟩ : ByteArray)) ++ t133).size + 1 ≤ 9223372036854775807 then (if 2 < (t127.length : Int) then ((stolonref01_figures.f (wrap64 (rd t127 2))).bind fun t135 => (if (((t131 ++ (⟨#[46]⟩ : ByteArray)) ++ t133) ++ (⟨#[46]⟩ : ByteArray)).size + t135.size ≤ 9223372036854775807 then (if ((((t131 ++ (⟨#[46]⟩ : ByteArray)) ++ t133) ++ (⟨#[46]⟩ : ByteArray)) ++ t135).size + 1 ≤ 9223372036854775807 then (if 3 < (t127.length : Int) then ((stolonref01_figures.f (wrap64 (rd t127 3))).bind fun t137 => (if (((((t131 ++ (⟨#[46]⟩ : ByteArray)) ++ t133) ++ (⟨#[46]⟩ : ByteArray)) ++ t135) ++ (⟨#[46]⟩ : ByteArray)).size + t137.size ≤ 9223372036854775807 then (some ((((((t131 ++ (⟨#[46]⟩ : ByteArray)) ++ t133) ++ (⟨#[46]⟩ : ByteArray)) ++ t135) ++ (⟨#[46]⟩ : ByteArray)) ++ t137)) else (none))) else (none)) else (none)) else (none))) else (none)) else (none)) else (none))) else (none)) else (none))) else (none))) = some r := h
 clear h
 replace H := Option.bind_eq_some_iff.mp H
 obtain ⟨t127, A20, H⟩ := H
 replace H : (if 0 < (t127.length : Int) then ((stolonref01_figures.f (wrap64 (rd t127 0))).bind fun t131 => (if t131.size + 1 ≤ 9223372036854775807 then (if 1 < (t127.length : Int) then ((stolonref01_figures.f (wrap64 (rd t127 1))).bind fun t133 => (if (t131 ++ (⟨#[46]⟩ : ByteArray)).size + t133.size ≤ 9223372036854775807 then (if ((t131 ++ (⟨#[46]⟩ : ByteArray)) ++ t133).size + 1 ≤ 9223372036854775807 then (if 2 < (t127.length : Int) then ((stolonref01_figures.f (wrap64 (rd t127 2))).bind fun t135 => (if (((t131 ++ (⟨#[46]⟩ : ByteArray)) ++ t133) ++ (⟨#[46]⟩ : ByteArray)).size + t135.size ≤ 9223372036854775807 then (if ((((t131 ++ (⟨#[46]⟩ : ByteArray)) ++ t133) ++ (⟨#[46]⟩ : ByteArray)) ++ t135).size + 1 ≤ 9223372036854775807 then (if 3 < (t127.length : Int) then ((stolonref01_figures.f (wrap64 (rd t127 3))).bind fun t137 => (if (((((t131 ++ (⟨#[46]⟩ : ByteArray)) ++ t133) ++ (⟨#[46]⟩ : ByteArray)) ++ t135) ++ (⟨#[46]⟩ : ByteArray)).size + t137.size ≤ 9223372036854775807 then (some ((((((t131 ++ (⟨#[46]⟩ : ByteArray)) ++ t133) ++ (⟨#[46]⟩ : ByteArray)) ++ t135) ++ (⟨#[46]⟩ : ByteArray)) ++ t137)) else (none))) else (none)) else (none)) else (none))) else (none)) else (none)) else (none))) else (none)) else (none))) else (none)) = some r := H
 have A2 := m_ A20
 clear A20
 by_cases c3 : 0 < (t127.length : Int)
 ·rw [if_pos c3] at H
  have c3b0 : decide (0 < (t127.length : Int)) = true := decide_eq_true c3
  have c3b1 : decide (0 < t127.length) = true := decide_eq_true (by omega)
  clear c3
  replace H := Option.bind_eq_some_iff.mp H
  obtain ⟨t131, A40, H⟩ := H
  replace H : (if t131.size + 1 ≤ 9223372036854775807 then (if 1 < (t127.length : Int) then ((stolonref01_figures.f (wrap64 (rd t127 1))).bind fun t133 => (if (t131 ++ (⟨#[46]⟩ : ByteArray)).size + t133.size ≤ 9223372036854775807 then (if ((t131 ++ (⟨#[46]⟩ : ByteArray)) ++ t133).size + 1 ≤ 9223372036854775807 then (if 2 < (t127.length : Int) then ((stolonref01_figures.f (wrap64 (rd t127 2))).bind fun t135 => (if (((t131 ++ (⟨#[46]⟩ : ByteArray)) ++ t133) ++ (⟨#[46]⟩ : ByteArray)).size + t135.size ≤ 9223372036854775807 then (if ((((t131 ++ (⟨#[46]⟩ : ByteArray)) ++ t133) ++ (⟨#[46]⟩ : ByteArray)) ++ t135).size + 1 ≤ 9223372036854775807 then (if 3 < (t127.length : Int) then ((stolonref01_figures.f (wrap64 (rd t127 3))).bind fun t137 => (if (((((t131 ++ (⟨#[46]⟩ : ByteArray)) ++ t133) ++ (⟨#[46]⟩ : ByteArray)) ++ t135) ++ (⟨#[46]⟩ : ByteArray)).size + t137.size ≤ 9223372036854775807 then (some ((((((t131 ++ (⟨#[46]⟩ : ByteArray)) ++ t133) ++ (⟨#[46]⟩ : ByteArray)) ++ t135) ++ (⟨#[46]⟩ : ByteArray)) ++ t137)) else (none))) else (none)) else (none)) else (none))) else (none)) else (none)) else (none))) else (none)) else (none)) = some r := H
  have A4 := m_ A40
  clear A40
  by_cases c5 : t131.size + 1 ≤ 9223372036854775807
  ·rw [if_pos c5] at H
   have c5b0 := eq_true c5
   have c5b1 : decide (t131.size + 1 ≤ 9223372036854775807) = true := decide_eq_true c5
   try have c5b2 : (9223372036854775807 < t131.size + 1) = False := eq_false (Nat.not_lt.2 c5)
   by_cases c6 : 1 < (t127.length : Int)
   ·rw [if_pos c6] at H
    have c6b0 : decide (1 < (t127.length : Int)) = true := decide_eq_true c6
    have c6b1 : decide (1 < t127.length) = true := decide_eq_true (by omega)
    clear c6
    replace H := Option.bind_eq_some_iff.mp H
    obtain ⟨t133, A70, H⟩ := H
    replace H : (if (t131 ++ (⟨#[46]⟩ : ByteArray)).size + t133.size ≤ 9223372036854775807 then (if ((t131 ++ (⟨#[46]⟩ : ByteArray)) ++ t133).size + 1 ≤ 9223372036854775807 then (if 2 < (t127.length : Int) then ((stolonref01_figures.f (wrap64 (rd t127 2))).bind fun t135 => (if (((t131 ++ (⟨#[46]⟩ : ByteArray)) ++ t133) ++ (⟨#[46]⟩ : ByteArray)).size + t135.size ≤ 9223372036854775807 then (if ((((t131 ++ (⟨#[46]⟩ : ByteArray)) ++ t133) ++ (⟨#[46]⟩ : ByteArray)) ++ t135).size + 1 ≤ 9223372036854775807 then (if 3 < (t127.length : Int) then ((stolonref01_figures.f (wrap64 (rd t127 3))).bind fun t137 => (if (((((t131 ++ (⟨#[46]⟩ : ByteArray)) ++ t133) ++ (⟨#[46]⟩ : ByteArray)) ++ t135) ++ (⟨#[46]⟩ : ByteArray)).size + t137.size ≤ 9223372036854775807 then (some ((((((t131 ++ (⟨#[46]⟩ : ByteArray)) ++ t133) ++ (⟨#[46]⟩ : ByteArray)) ++ t135) ++ (⟨#[46]⟩ : ByteArray)) ++ t137)) else (none))) else (none)) else (none)) else (none))) else (none)) else (none)) else (none)) = some r := H
    have A7 := m_ A70
    clear A70
    by_cases c8 : (t131 ++ (⟨#[46]⟩ : ByteArray)).size + t133.size ≤ 9223372036854775807
    ·rw [if_pos c8] at H
     have c8b0 := eq_true c8
     have c8b1 : decide ((t131 ++ (⟨#[46]⟩ : ByteArray)).size + t133.size ≤ 9223372036854775807) = true := decide_eq_true c8
     try have c8b2 : (9223372036854775807 < (t131 ++ (⟨#[46]⟩ : ByteArray)).size + t133.size) = False := eq_false (Nat.not_lt.2 c8)
     (try have c8b3 := c8b2)
     (try simp only [ByteArray.size_append, show (⟨#[46]⟩ : ByteArray).size = 1 from rfl] at c8b3)
     by_cases c9 : ((t131 ++ (⟨#[46]⟩ : ByteArray)) ++ t133).size + 1 ≤ 9223372036854775807
     ·rw [if_pos c9] at H
      have c9b0 := eq_true c9
      have c9b1 : decide (((t131 ++ (⟨#[46]⟩ : ByteArray)) ++ t133).size + 1 ≤ 9223372036854775807) = true := decide_eq_true c9
      try have c9b2 : (9223372036854775807 < ((t131 ++ (⟨#[46]⟩ : ByteArray)) ++ t133).size + 1) = False := eq_false (Nat.not_lt.2 c9)
      (try have c9b3 := c9b2)
      (try simp only [ByteArray.size_append, show (⟨#[46]⟩ : ByteArray).size = 1 from rfl] at c9b3)
      by_cases c10 : 2 < (t127.length : Int)
      ·rw [if_pos c10] at H
       have c10b0 : decide (2 < (t127.length : Int)) = true := decide_eq_true c10
       have c10b1 : decide (2 < t127.length) = true := decide_eq_true (by omega)
       clear c10
       replace H := Option.bind_eq_some_iff.mp H
       obtain ⟨t135, A110, H⟩ := H
       replace H : (if (((t131 ++ (⟨#[46]⟩ : ByteArray)) ++ t133) ++ (⟨#[46]⟩ : ByteArray)).size + t135.size ≤ 9223372036854775807 then (if ((((t131 ++ (⟨#[46]⟩ : ByteArray)) ++ t133) ++ (⟨#[46]⟩ : ByteArray)) ++ t135).size + 1 ≤ 9223372036854775807 then (if 3 < (t127.length : Int) then ((stolonref01_figures.f (wrap64 (rd t127 3))).bind fun t137 => (if (((((t131 ++ (⟨#[46]⟩ : ByteArray)) ++ t133) ++ (⟨#[46]⟩ : ByteArray)) ++ t135) ++ (⟨#[46]⟩ : ByteArray)).size + t137.size ≤ 9223372036854775807 then (some ((((((t131 ++ (⟨#[46]⟩ : ByteArray)) ++ t133) ++ (⟨#[46]⟩ : ByteArray)) ++ t135) ++ (⟨#[46]⟩ : ByteArray)) ++ t137)) else (none))) else (none)) else (none)) else (none)) = some r := H
       have A11 := m_ A110
       clear A110
       by_cases c12 : (((t131 ++ (⟨#[46]⟩ : ByteArray)) ++ t133) ++ (⟨#[46]⟩ : ByteArray)).size + t135.size ≤ 9223372036854775807
       ·rw [if_pos c12] at H
        have c12b0 := eq_true c12
        have c12b1 : decide ((((t131 ++ (⟨#[46]⟩ : ByteArray)) ++ t133) ++ (⟨#[46]⟩ : ByteArray)).size + t135.size ≤ 9223372036854775807) = true := decide_eq_true c12
        try have c12b2 : (9223372036854775807 < (((t131 ++ (⟨#[46]⟩ : ByteArray)) ++ t133) ++ (⟨#[46]⟩ : ByteArray)).size + t135.size) = False := eq_false (Nat.not_lt.2 c12)
        (try have c12b3 := c12b2)
        (try simp only [ByteArray.size_append, show (⟨#[46]⟩ : ByteArray).size = 1 from rfl] at c12b3)
        by_cases c13 : ((((t131 ++ (⟨#[46]⟩ : ByteArray)) ++ t133) ++ (⟨#[46]⟩ : ByteArray)) ++ t135).size + 1 ≤ 9223372036854775807
        ·rw [if_pos c13] at H
         have c13b0 := eq_true c13
         have c13b1 : decide (((((t131 ++ (⟨#[46]⟩ : ByteArray)) ++ t133) ++ (⟨#[46]⟩ : ByteArray)) ++ t135).size + 1 ≤ 9223372036854775807) = true := decide_eq_true c13
         try have c13b2 : (9223372036854775807 < ((((t131 ++ (⟨#[46]⟩ : ByteArray)) ++ t133) ++ (⟨#[46]⟩ : ByteArray)) ++ t135).size + 1) = False := eq_false (Nat.not_lt.2 c13)
         (try have c13b3 := c13b2)
         (try simp only [ByteArray.size_append, show (⟨#[46]⟩ : ByteArray).size = 1 from rfl] at c13b3)
         by_cases c14 : 3 < (t127.length : Int)
         ·rw [if_pos c14] at H
          have c14b0 : decide (3 < (t127.length : Int)) = true := decide_eq_true c14
          have c14b1 : decide (3 < t127.length) = true := decide_eq_true (by omega)
          clear c14
          replace H := Option.bind_eq_some_iff.mp H
          obtain ⟨t137, A150, H⟩ := H
          replace H : (if (((((t131 ++ (⟨#[46]⟩ : ByteArray)) ++ t133) ++ (⟨#[46]⟩ : ByteArray)) ++ t135) ++ (⟨#[46]⟩ : ByteArray)).size + t137.size ≤ 9223372036854775807 then (some ((((((t131 ++ (⟨#[46]⟩ : ByteArray)) ++ t133) ++ (⟨#[46]⟩ : ByteArray)) ++ t135) ++ (⟨#[46]⟩ : ByteArray)) ++ t137)) else (none)) = some r := H
          have A15 := m_ A150
          clear A150
          by_cases c16 : (((((t131 ++ (⟨#[46]⟩ : ByteArray)) ++ t133) ++ (⟨#[46]⟩ : ByteArray)) ++ t135) ++ (⟨#[46]⟩ : ByteArray)).size + t137.size ≤ 9223372036854775807
          ·rw [if_pos c16] at H
           have c16b0 := eq_true c16
           have c16b1 : decide ((((((t131 ++ (⟨#[46]⟩ : ByteArray)) ++ t133) ++ (⟨#[46]⟩ : ByteArray)) ++ t135) ++ (⟨#[46]⟩ : ByteArray)).size + t137.size ≤ 9223372036854775807) = true := decide_eq_true c16
           try have c16b2 : (9223372036854775807 < (((((t131 ++ (⟨#[46]⟩ : ByteArray)) ++ t133) ++ (⟨#[46]⟩ : ByteArray)) ++ t135) ++ (⟨#[46]⟩ : ByteArray)).size + t137.size) = False := eq_false (Nat.not_lt.2 c16)
           (try have c16b3 := c16b2)
           (try simp only [ByteArray.size_append, show (⟨#[46]⟩ : ByteArray).size = 1 from rfl] at c16b3)
           obtain rfl := Option.some.inj H
           go_enter Tryd.func17, Tryd.ntmps17
           try go_wp2_with (first | ((with_reducible refine gate_callee (f := 18) rfl ?_); refine gL_ (some 5) Tryd.func18 #[.int .u32 a0] ?_; (with_reducible refine (stolonref01_Bytes.calls a0 t127 _ A2.out).mono ?_); rintro e w17 ⟨v128, rfl, ho0, hb⟩; refine ⟨_, rfl, ?_⟩; have HO129 := m_ (Kd.R_lower ho0 (below_size bz_)); replace HB := m_ (below_step bz_ hb); (try clear hb); (try clear hb2); (try clear hk); (try clear hi); (try clear ho0)))
           replace HO129 := m_ (Kd.R_drew HO129.out)
           replace HB := m_ (below_drew1 HB.out)
           obtain ⟨Ao19, co19, eo19⟩ := Kd.R_slice HO129.out
           (first | subst eo19 | (injection eo19 with f1_ f2_ f3_; have f4_ := f1_.symm; have f5_ := f3_.symm; clear f1_ f2_ f3_; subst f4_; subst f5_))
           have p130 : 0 ≤ (0 : Int) := (by omega)
           have q130 : 0 < (t127.length : Int) := od_
           obtain ⟨ad130, e130, hx130_0⟩ := Kd.at_int (Kd.R_reads' HO129.out).2.2 0 p130 q130
           cases e130
           have qi130 : (0 < t127.length) = True := eq_true (by omega)
           (try rw [show ((0 : Int)).toNat = 0 from rfl] at hx130_0)
           (try rw [Addr.add_zero'] at hx130_0)
           replace p130 := eq_true p130
           replace q130 := eq_true q130
           have p132 : 0 ≤ (1 : Int) := (by omega)
           have q132 : 1 < (t127.length : Int) := od_
           obtain ⟨ad132, e132, hx132_0⟩ := Kd.at_int (Kd.R_reads' HO129.out).2.2 1 p132 q132
           obtain rfl : ad130 = ad132 := (by injection e132)
           (try simp only [show (1 : Int).toNat = 1 from rfl, Nat.reduceMul, Nat.reduceEqDiff, Go.Addr.add, ↓reduceIte] at hx132_0)
           have qi132 : (1 < t127.length) = True := eq_true (by omega)
           (try rw [show ((1 : Int)).toNat = 1 from rfl] at hx132_0)
           replace p132 := eq_true p132
           replace q132 := eq_true q132
           have p134 : 0 ≤ (2 : Int) := (by omega)
           have q134 : 2 < (t127.length : Int) := od_
           obtain ⟨ad134, e134, hx134_0⟩ := Kd.at_int (Kd.R_reads' HO129.out).2.2 2 p134 q134
           obtain rfl : ad130 = ad134 := (by injection e134)
           (try simp only [show (2 : Int).toNat = 2 from rfl, Nat.reduceMul, Nat.reduceEqDiff, Go.Addr.add, ↓reduceIte] at hx134_0)
           have qi134 : (2 < t127.length) = True := eq_true (by omega)
           (try rw [show ((2 : Int)).toNat = 2 from rfl] at hx134_0)
           replace p134 := eq_true p134
           replace q134 := eq_true q134
           have p136 : 0 ≤ (3 : Int) := (by omega)
           have q136 : 3 < (t127.length : Int) := od_
           obtain ⟨ad136, e136, hx136_0⟩ := Kd.at_int (Kd.R_reads' HO129.out).2.2 3 p136 q136
           obtain rfl : ad130 = ad136 := (by injection e136)
           (try simp only [show (3 : Int).toNat = 3 from rfl, Nat.reduceMul, Nat.reduceEqDiff, Go.Addr.add, ↓reduceIte] at hx136_0)
           have qi136 : (3 < t127.length) = True := eq_true (by omega)
           (try rw [show ((3 : Int)).toNat = 3 from rfl] at hx136_0)
           replace p136 := eq_true p136
           replace q136 := eq_true q136
           refine start_ (n := 27) (S := fun w' => w'.cell? ad130 = some (.int .u8 (rd t127 0)) ∧ w'.cell? ⟨ad130.block, ad130.off + 1, none⟩ = some (.int .u8 (rd t127 1)) ∧ w'.cell? ⟨ad130.block, ad130.off + 2, none⟩ = some (.int .u8 (rd t127 2)) ∧ w'.cell? ⟨ad130.block, ad130.off + 3, none⟩ = some (.int .u8 (rd t127 3))) (ds := []) (bs_ 27 0) (by kernel_rfl) rfl rfl ⟨hx130_0, hx132_0, hx134_0, hx136_0⟩ (fun hHeld => ?_); refine with_tabW stolonref01_Text.tab2 stolonref01_Text.bits2 (fun HT_ HW_ => ?_)
           generalize w17.drew = w18 at HO129 HB hx130_0 hx132_0 hx134_0 hx136_0 hHeld ⊢
           refine pz_ 0 6 ?_
           refine pz_ 1 7 ?_
           refine pz_ 6 12 ?_
           refine pz_ 7 13 ?_
           refine pz_ 13 19 ?_
           refine pz_ 14 20 ?_
           refine pz_ 20 26 ?_
           refine pz_ 21 27 ?_
           refine tz_ 2 8 ?_
           refine pz_ 3 9 ?_
           refine tz_ 8 14 ?_
           refine pz_ 9 15 ?_
           refine tz_ 15 21 ?_
           refine pz_ 16 22 ?_
           refine tz_ 22 28 ?_
           refine pz_ 23 29 ?_
           refine oz_ 4 (some 10) (fun K hK => ?_)
           refine gz_ Tryd.func32 #[.int .i64 (wrap64 (rd t127 0))] ?_
           with_reducible refine (stolonref01_figures.calls (wrap64 (rd t127 0)) t131 _ A4.out).mono ?_
           rintro e w20 ⟨rfl, hb⟩
           have HS0_ := (hb.cell (World.block_lt_of_cell? _ _ (hHeld.1))).trans (hHeld.1)
           have HS1_ := (hb.cell (World.block_lt_of_cell? _ _ (hHeld.2.1))).trans (hHeld.2.1)
           have HS2_ := (hb.cell (World.block_lt_of_cell? _ _ (hHeld.2.2.1))).trans (hHeld.2.2.1)
           have HS3_ := (hb.cell (World.block_lt_of_cell? _ _ (hHeld.2.2.2))).trans (hHeld.2.2.2)
           refine ⟨_, rfl, ?_⟩
           replace HO129 := m_ (Kd.R_below (Rz_ HO129.out) hb)
           replace HB := m_ (below_step bz_ hb)
           (try clear hb)
           (try clear hb2)
           (try clear hk)
           (try clear hi)
           refine hK.out _ _ ⟨HS0_, HS1_, HS2_, HS3_⟩ (fun hHeld => ?_)
           clear hK K
           refine nz_ (some 10) ?_
           refine pz_ 5 11 ?_
           refine oz_ 10 (some 16) (fun K hK => ?_)
           refine gz_ Tryd.func32 #[.int .i64 (wrap64 (rd t127 1))] ?_
           with_reducible refine (stolonref01_figures.calls (wrap64 (rd t127 1)) t133 _ A7.out).mono ?_
           rintro e w21 ⟨rfl, hb⟩
           have HS0_ := (hb.cell (World.block_lt_of_cell? _ _ (hHeld.1))).trans (hHeld.1)
           have HS1_ := (hb.cell (World.block_lt_of_cell? _ _ (hHeld.2.1))).trans (hHeld.2.1)
           have HS2_ := (hb.cell (World.block_lt_of_cell? _ _ (hHeld.2.2.1))).trans (hHeld.2.2.1)
           have HS3_ := (hb.cell (World.block_lt_of_cell? _ _ (hHeld.2.2.2))).trans (hHeld.2.2.2)
           refine ⟨_, rfl, ?_⟩
           replace HO129 := m_ (Kd.R_below (Rz_ HO129.out) hb)
           replace HB := m_ (below_step bz_ hb)
           (try clear hb)
           (try clear hb2)
           (try clear hk)
           (try clear hi)
           refine hK.out _ _ ⟨HS0_, HS1_, HS2_, HS3_⟩ (fun hHeld => ?_)
           clear hK K
           refine nz_ (some 16) ?_
           refine pz_ 11 17 ?_
           refine pz_ 12 18 ?_
           refine oz_ 17 (some 23) (fun K hK => ?_)
           refine gz_ Tryd.func32 #[.int .i64 (wrap64 (rd t127 2))] ?_
           with_reducible refine (stolonref01_figures.calls (wrap64 (rd t127 2)) t135 _ A11.out).mono ?_
           rintro e w22 ⟨rfl, hb⟩
           have HS0_ := (hb.cell (World.block_lt_of_cell? _ _ (hHeld.1))).trans (hHeld.1)
           have HS1_ := (hb.cell (World.block_lt_of_cell? _ _ (hHeld.2.1))).trans (hHeld.2.1)
           have HS2_ := (hb.cell (World.block_lt_of_cell? _ _ (hHeld.2.2.1))).trans (hHeld.2.2.1)
           have HS3_ := (hb.cell (World.block_lt_of_cell? _ _ (hHeld.2.2.2))).trans (hHeld.2.2.2)
           refine ⟨_, rfl, ?_⟩
           replace HO129 := m_ (Kd.R_below (Rz_ HO129.out) hb)
           replace HB := m_ (below_step bz_ hb)
           (try clear hb)
           (try clear hb2)
           (try clear hk)
           (try clear hi)
           refine hK.out _ _ ⟨HS0_, HS1_, HS2_, HS3_⟩ (fun hHeld => ?_)
           clear hK K
           refine nz_ (some 23) ?_
           refine pz_ 18 24 ?_
           refine pz_ 19 25 ?_
           refine oz_ 24 (some 30) (fun K hK => ?_)
           refine gz_ Tryd.func32 #[.int .i64 (wrap64 (rd t127 3))] ?_
           with_reducible refine (stolonref01_figures.calls (wrap64 (rd t127 3)) t137 _ A15.out).mono ?_
           rintro e w23 ⟨rfl, hb⟩
           have HS0_ := (hb.cell (World.block_lt_of_cell? _ _ (hHeld.1))).trans (hHeld.1)
           have HS1_ := (hb.cell (World.block_lt_of_cell? _ _ (hHeld.2.1))).trans (hHeld.2.1)
           have HS2_ := (hb.cell (World.block_lt_of_cell? _ _ (hHeld.2.2.1))).trans (hHeld.2.2.1)
           have HS3_ := (hb.cell (World.block_lt_of_cell? _ _ (hHeld.2.2.2))).trans (hHeld.2.2.2)
           refine ⟨_, rfl, ?_⟩
           replace HO129 := m_ (Kd.R_below (Rz_ HO129.out) hb)
           replace HB := m_ (below_step bz_ hb)
           (try clear hb)
           (try clear hb2)
           (try clear hk)
           (try clear hi)
           refine hK.out _ _ ⟨HS0_, HS1_, HS2_, HS3_⟩ (fun hHeld => ?_)
           clear hK K
           refine nz_ (some 30) ?_
           refine pz_ 25 31 ?_
           refine pz_ 26 2 ?_
           refine dz_ ?_
           try go_wp2
           go_ret
           exact ⟨ew_, bz_⟩
          ·rw [if_neg c16] at H
           exact absurd H (by simp)
         ·rw [if_neg c14] at H
          exact absurd H (by simp)
        ·rw [if_neg c13] at H
         exact absurd H (by simp)
       ·rw [if_neg c12] at H
        exact absurd H (by simp)
      ·rw [if_neg c10] at H
       exact absurd H (by simp)
     ·rw [if_neg c9] at H
      exact absurd H (by simp)
    ·rw [if_neg c8] at H
     exact absurd H (by simp)
   ·rw [if_neg c6] at H
    exact absurd H (by simp)
  ·rw [if_neg c5] at H
   exact absurd H (by simp)
 ·rw [if_neg c3] at H
  exact absurd H (by simp)

end Go.Proofs.YtplkfpfgnccffaaDoor.P

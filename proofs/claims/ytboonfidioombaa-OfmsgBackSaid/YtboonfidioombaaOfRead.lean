/- What is read of bytes has just these bytes; how a stream is split. Plain lemmas on lists. -/
import Derived.Test.YtboonfidioombaaOfMsg
namespace Go.Proofs.Ytboonfidioombaa.P
set_option linter.unusedVariables false
set_option linter.unusedSimpArgs false
open Go.RowKit Go.Proofs.YtboonfidioombaaW.PrintWords Go.Proofs.YtboonfidioombaaW.PrintLast Go.Proofs.YtboonfidioombaaW.PrintMore
theorem byteL_takeF {k : Nat} {l : List Int} {b : Bool} (h : byteL l) : byteL (takeF k l b).2.1 := by
 unfold takeF
 split
 ·exact h
 ·exact fun y hy => h y (List.mem_of_mem_drop hy)
theorem rdEnd_true {l : List Int} {b : Bool} (h : rdEnd l b = true) : b = true ∧ l = [] := by
 unfold rdEnd at h
 split at h
 ·rename_i hb
  exact ⟨hb, len0 h⟩
 ·cases h
theorem readPut_true {xd s d g : Int} {l : List Int} {b : Bool} (hb : byteL l) (h : okR (readPut xd s d g l b) = true) :
  b = true ∧ ∃ A B C D : List Int, l = A ++ (B ++ (C ++ D)) ∧ A.length = 2 ∧ B.length = 4 ∧ C.length = 2 ∧ numP C = D.length ∧ readPut xd s d g l b = readPut2 xd s d g (numP A) (numP B) (D.map mkOut, [], true) := by
 have h' := h
 unfold readPut readPut2 okR at h
 simp only at h
 obtain ⟨h1, h2⟩ := rdEnd_true h
 obtain ⟨f3, D, E, e4, hD, he4⟩ := outsR_true _ _ _ _ (byteL_takeF (byteL_takeF (byteL_takeF hb))) h1
 obtain ⟨f2, C, l3, e3, hC, he3⟩ := takeF_true f3
 obtain ⟨f1, B, l2, e2, hB, he2⟩ := takeF_true f2
 obtain ⟨f0, A, l1, e1, hA, he1⟩ := takeF_true f1
 refine ⟨f0, ?_⟩
 subst f0 e1
 rw [he1] at e2 he2
 simp only at e2 he2
 subst e2
 rw [he1] at e3 he3
 simp only at e3 he3
 rw [he2] at e3 he3
 simp only at e3 he3
 subst e3
 rw [byteL_app, byteL_app, byteL_app] at hb
 rw [he1] at e4 hD he4 h2
 simp only at e4 hD he4 h2
 rw [he2] at e4 hD he4 h2
 simp only at e4 hD he4 h2
 rw [he3] at e4 hD he4 h2
 simp only at e4 hD he4 h2
 have hc := (two_num hb.2.2.1 hC).2
 rw [he4] at h2
 simp only at h2
 subst h2
 rw [List.append_nil] at e4
 subst e4
 have hn : numP C = (l3.length : Nat) := by omega
 refine ⟨A, B, C, l3, rfl, hA, hB, hC, hn, ?_⟩
 rw [readPut_app l3 xd s d g hA hB hC hb.1 hb.2.1 hn]
 have ho := outsR_app l3 [] [] hb.2.2.2
 rw [List.append_nil, List.nil_append] at ho
 rw [ho]
theorem readRule_true {kd xd : Int} {l : List Int} {b : Bool} {K : Int → Int → Int → Int → List Int → Bool → ReadR} (hK : ∀ s d g l b, okR (K xd s d g l b) = true → b = true) (hb : byteL l) (h : okR (readRule kd xd l b K) = true) :
  b = true ∧ ∃ A B C D : List Int, l = A ++ (B ++ (C ++ D)) ∧ A.length = 4 ∧ B.length = 4 ∧ C.length = 4 ∧ readRule kd xd l b K = K xd (numP A) (numP B) (numP C) D true := by
 have h' := h
 unfold readRule at h
 have f3 := hK _ _ _ _ _ h
 obtain ⟨f2, C, l3, e3, hC, he3⟩ := takeF_true f3
 obtain ⟨f1, B, l2, e2, hB, he2⟩ := takeF_true f2
 obtain ⟨f0, A, l1, e1, hA, he1⟩ := takeF_true f1
 refine ⟨f0, ?_⟩
 subst f0 e1
 rw [he1] at e2 he2
 simp only at e2 he2
 subst e2
 rw [he1] at e3 he3
 simp only at e3 he3
 rw [he2] at e3 he3
 simp only at e3 he3
 subst e3
 rw [byteL_app, byteL_app, byteL_app] at hb
 exact ⟨A, B, C, l3, rfl, hA, hB, hC, readRule_app l3 kd xd K hA hB hC hb.1 hb.2.1 hb.2.2.1⟩
theorem readPut_flag {xd s d g : Int} {l : List Int} {b : Bool} (h : okR (readPut xd s d g l b) = true) : b = true := by
 unfold readPut readPut2 okR at h
 simp only at h
 have h1 := (rdEnd_true h).1
 have key : ∀ (n : Nat) (l : List Int) (b : Bool) (os : List Ot), (outsR n l b os).2.2 = true → b = true := by
  intro n
  induction n with
  | zero => intro l b os h; exact h
  | succ n ih =>
   intro l b os h
   rw [outsR] at h
   split at h
   ·rename_i h1
    exact takeF_flag h1
   ·rename_i h1
    exact absurd h h1
 exact takeF_flag (takeF_flag (takeF_flag (key _ _ _ _ h1)))
theorem seven {l : List Int} (h : 7 ≤ l.length) : ∃ x0 x1 k a b c d t, l = x0 :: x1 :: k :: a :: b :: c :: d :: t := by
 rcases l with _ | ⟨x0, _ | ⟨x1, _ | ⟨k, _ | ⟨a, _ | ⟨b, _ | ⟨c, _ | ⟨d, t⟩⟩⟩⟩⟩⟩⟩
 all_goals first | exact ⟨_, _, _, _, _, _, _, _, rfl⟩ | (simp at h)
def headN (l : List Int) : Int := l.getD 0 0 * 256 + l.getD 1 0
theorem headN_enc (m : Ms) (h : (innerP m).length ≤ 65000) : headN (encP m) = (encP m).length := by
 unfold headN encP twoL
 simp only [List.cons_append, List.nil_append, List.getD_cons_zero, List.getD_cons_succ, List.length_cons, List.length_append, fourL_len]
 omega
theorem enc_len (m : Ms) : (encP m).length = 7 + (innerP m).length := by
 unfold encP
 simp only [List.length_append, twoL_len, fourL_len, List.length_cons, List.length_nil]
 omega
set_option maxHeartbeats 800000 in
theorem enc_read {l : List Int} (hb : byteL l) (h7 : 7 ≤ l.length) (hn : headN l = l.length) (hok : okR (readL l) = true) (hr : rightM (ofR (readL l)) = true) : encP (ofR (readL l)) = l ∧ WM (ofR (readL l)) := by
 obtain ⟨x0, x1, k, a, b, c, d, t, rfl⟩ := seven h7
 have hb0 := hb x0 (by simp)
 have hb1 := hb x1 (by simp)
 have hbk := hb k (by simp)
 have hbb : byteL ([x0, x1, k] ++ ([a, b, c, d] ++ t)) := hb
 rw [byteL_app, byteL_app] at hbb
 have hbC := hbb.2.1
 have hbt := hbb.2.2
 have hC := four_num hbC rfl
 have hR : readL (x0 :: x1 :: k :: a :: b :: c :: d :: t) = readK k (numP [a, b, c, d]) t true := readL_app (A := [x0, x1]) (C := [a, b, c, d]) t rfl rfl hbk hbC
 rw [hR] at hok hr ⊢
 have hx : [x0, x1] = twoL (7 + (t.length : Int)) := by
  unfold headN at hn
  simp only [List.getD_cons_zero, List.getD_cons_succ, List.length_cons] at hn
  unfold twoL
  have e0 : (7 + (t.length : Int)) / 256 % 256 = x0 := by omega
  have e1 : (7 + (t.length : Int)) % 256 = x1 := by omega
  rw [e0, e1]
 generalize hxd : numP [a, b, c, d] = xd at hok hr hC hR ⊢
 have fin : ∀ m : Ms, m.f0 = k → m.f1 = xd → innerP m = t → encP m = x0 :: x1 :: k :: a :: b :: c :: d :: t := by
  intro m h0 h1 h2
  unfold encP
  rw [h0, h1, h2, hC.1, ← hx]
  rfl
 have hk := right_kinds hr
 unfold readK at hok hr hk ⊢
 by_cases k1 : k = 1
 ·simp only [if_pos k1] at hok hr hk ⊢
  obtain ⟨-, A, B, C, D, rfl, hA, hB, hC4, he⟩ := readRule_true (fun _ _ _ _ _ h => readPut_flag h) hbt hok
  rw [byteL_app, byteL_app, byteL_app] at hbt
  rw [he] at hok hr hk ⊢
  obtain ⟨-, P, Q, N, O, rfl, hP, hQ, hN, hO, he2⟩ := readPut_true hbt.2.2.2 hok
  rw [he2] at hok hr hk ⊢
  have b4 := hbt.2.2.2
  rw [byteL_app, byteL_app, byteL_app] at b4
  have nA := four_num hbt.1 hA
  have nB := four_num hbt.2.1 hB
  have nC := four_num hbt.2.2.1 hC4
  have nP := two_num b4.1 hP
  have nQ := four_num b4.2.1 hQ
  have nN := two_num b4.2.2.1 hN
  have hmap : (O.map mkOut).map (·.f0) = O := by rw [List.map_map]; exact List.map_id' _
  refine ⟨fin _ k1.symm rfl ?_, ⟨by show (0 : Int) ≤ 1 ∧ (1 : Int) ≤ 255; omega, hC.2, nA.2, nB.2, nC.2, nQ.2, fun y hy => by cases hy⟩⟩
  unfold innerP ofR readPut2
  simp only [if_true]
  rw [nA.1, nB.1, nC.1, nQ.1, List.length_map, ← hO, nN.1, hmap]
  have hin : inP (if numP P = 65535 then -1 else numP P) = numP P := by
   unfold inP
   by_cases h : numP P = 65535
   ·rw [if_pos h, if_pos rfl, h]
   ·rw [if_neg h, if_neg (by omega)]
  rw [hin, nP.1]
 by_cases k2 : k = 2
 ·simp only [if_neg k1, if_pos k2] at hok hr hk ⊢
  obtain ⟨-, A, B, C, D, rfl, hA, hB, hC4, he⟩ := readRule_true (fun _ _ _ _ _ h => by unfold readDel okR at h; exact (rdEnd_true h).1) hbt hok
  rw [byteL_app, byteL_app, byteL_app] at hbt
  rw [he] at hok hr hk ⊢
  have nA := four_num hbt.1 hA
  have nB := four_num hbt.2.1 hB
  have nC := four_num hbt.2.2.1 hC4
  have hD : D = [] := (rdEnd_true (show rdEnd D true = true from hok)).2
  subst hD
  refine ⟨fin _ k2.symm rfl ?_, ⟨by show (0 : Int) ≤ 2 ∧ (2 : Int) ≤ 255; omega, hC.2, nA.2, nB.2, nC.2, by show (0 : Int) ≤ 0 ∧ (0 : Int) ≤ 4294967295; omega, fun y hy => by cases hy⟩⟩
  unfold innerP ofR readDel
  simp only [show ¬ ((2 : Int) = 1) by omega, if_true, if_false]
  rw [nA.1, nB.1, nC.1, List.append_nil]
 by_cases k7 : k = 7
 ·simp only [if_neg k1, if_neg k2, if_pos k7] at hok hr hk ⊢
  unfold readLink at hok hr hk ⊢
  unfold okR at hok
  simp only at hok
  have hend := rdEnd_true hok
  have hf2 : (takeF 1 (takeF 1 t true).2.1 (takeF 1 t true).2.2).2.2 = true ∧ numP (takeF 1 (takeF 1 t true).2.1 (takeF 1 t true).2.2).1 ≤ 1 := by
   have := hend.1
   split at this
   ·rename_i h
    exact ⟨h, of_decide_eq_true this⟩
   ·cases this
  obtain ⟨f1, B, l2, e2, hB, he2⟩ := takeF_true hf2.1
  obtain ⟨-, A, l1, rfl, hA, he1⟩ := takeF_true f1
  rw [he1] at e2 he2
  simp only at e2 he2
  subst e2
  have hE := hend.2
  have hle := hf2.2
  simp only [he1, he2] at hE hle hr hk ⊢
  subst hE
  rw [byteL_app, byteL_app] at hbt
  have nA := one_num hbt.1 hA
  have nB := one_num hbt.2.1 hB
  refine ⟨fin _ k7.symm rfl ?_, ⟨by show (0 : Int) ≤ 7 ∧ (7 : Int) ≤ 255; omega, hC.2, by show (0 : Int) ≤ 0 ∧ (0 : Int) ≤ 4294967295; omega, by show (0 : Int) ≤ 0 ∧ (0 : Int) ≤ 4294967295; omega, by show (0 : Int) ≤ 0 ∧ (0 : Int) ≤ 4294967295; omega, by show (0 : Int) ≤ 0 ∧ (0 : Int) ≤ 4294967295; omega, fun y hy => by cases hy⟩⟩
  unfold innerP ofR
  simp only [show ¬ ((7 : Int) = 1) by omega, show ¬ ((7 : Int) = 2) by omega, if_true, if_false]
  rw [List.append_nil]
  conv => rhs; rw [← nA.1, ← nB.1]
  by_cases hu : numP B = 1
  ·rw [if_pos (by rw [beq_iff_eq]; exact hu), hu]; rfl
  ·rw [if_neg (by rw [beq_iff_eq]; exact hu), show numP B = 0 by omega]; rfl
 by_cases k8 : k = 8 ∨ k = 9
 ·simp only [if_neg k1, if_neg k2, if_neg k7, if_pos k8] at hok hr hk ⊢
  unfold readBytes at hok hr hk ⊢
  unfold okR at hok
  simp only at hok
  obtain ⟨-, A, l1, rfl, hA, he1⟩ := takeF_true hok
  rw [he1] at hr hk ⊢
  rw [byteL_app] at hbt
  have nA := one_num hbt.1 hA
  refine ⟨fin _ rfl rfl ?_, ⟨hbk, hC.2, by show (0 : Int) ≤ 0 ∧ (0 : Int) ≤ 4294967295; omega, by show (0 : Int) ≤ 0 ∧ (0 : Int) ≤ 4294967295; omega, by show (0 : Int) ≤ 0 ∧ (0 : Int) ≤ 4294967295; omega, by show (0 : Int) ≤ 0 ∧ (0 : Int) ≤ 4294967295; omega, hbt.2⟩⟩
  unfold innerP ofR
  simp only [if_neg k1, if_neg k2, if_neg k7, if_pos k8]
  conv => rhs; rw [← nA.1]
  rfl
 ·simp only [if_neg k1, if_neg k2, if_neg k7, if_neg k8] at hok hr hk ⊢
  have hE : t = [] := (rdEnd_true (show rdEnd t true = true from hok)).2
  subst hE
  refine ⟨fin _ rfl rfl ?_, ⟨hbk, hC.2, by show (0 : Int) ≤ 0 ∧ (0 : Int) ≤ 4294967295; omega, by show (0 : Int) ≤ 0 ∧ (0 : Int) ≤ 4294967295; omega, by show (0 : Int) ≤ 0 ∧ (0 : Int) ≤ 4294967295; omega, by show (0 : Int) ≤ 0 ∧ (0 : Int) ≤ 4294967295; omega, fun y hy => by cases hy⟩⟩
  unfold innerP ofR
  simp only [if_neg k1, if_neg k2, if_neg k7, if_neg k8]
end Go.Proofs.Ytboonfidioombaa.P

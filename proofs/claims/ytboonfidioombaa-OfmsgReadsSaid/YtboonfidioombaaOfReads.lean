/- The document's own reading of bytes does what the program's does. Plain lemmas on lists. -/
import Derived.Test.YtboonfidioombaaOfRef
import Derived.Test.YtboonfidioombaaPx27
import Derived.Test.YtboonfidioombaaPx28
import Derived.Test.YtboonfidioombaaPx29
import Derived.Test.YtboonfidioombaaPx30
namespace Go.Proofs.Ytboonfidioombaa.P
set_option linter.unusedVariables false
set_option linter.unusedSimpArgs false
open Go.RowKit Go.Proofs.YtboonfidioombaaW.PrintWords Go.Proofs.YtboonfidioombaaW.PrintLast Go.Proofs.YtboonfidioombaaW.PrintMore
theorem vfour {n : Int} (h0 : 0 ≤ n) (h1 : n ≤ 4294967295) : List.foldl vstep 0 (fourL n) = n := by
  unfold fourL
  simp only [List.foldl_cons, List.foldl_nil]
  unfold vstep
  omega
theorem vtwo {n : Int} (h0 : 0 ≤ n) (h1 : n ≤ 65535) : List.foldl vstep 0 (twoL n) = n := by
  unfold twoL
  simp only [List.foldl_cons, List.foldl_nil]
  unfold vstep
  omega
theorem val_head {l : List Int} (hb : byteL l) (h : 2 ≤ l.length) : valP l 0 2 = headN l ∧ 0 ≤ headN l ∧ headN l ≤ 65535 := by
  rcases l with _ | ⟨a, _ | ⟨b, t⟩⟩
  · simp at h
  · simp at h
  have h0 := hb a (by simp)
  have h1 := hb b (by simp)
  have e : headN (a :: b :: t) = a * 256 + b := rfl
  rw [e]
  refine ⟨?_, by omega, by omega⟩
  show vstep (vstep 0 a) b = _
  unfold vstep
  omega
theorem outsP_bytes {l : List Int} (hb : byteL l) : outsP l = l.map mkOut := by
  unfold outsP
  apply List.map_congr_left
  intro x hx
  have := hb x hx
  unfold mkOut
  rw [fw64 (by omega)]
theorem seems_put (a b xid src dst tag i push n : Int) (o : List Int) (hx : 0 ≤ xid ∧ xid ≤ 4294967295) (hs : 0 ≤ src ∧ src ≤ 4294967295) (hd : 0 ≤ dst ∧ dst ≤ 4294967295) (ht : 0 ≤ tag ∧ tag ≤ 4294967295) (hi : 0 ≤ i ∧ i ≤ 65535) (hp : 0 ≤ push ∧ push ≤ 4294967295) (hb : byteL o) :
    seemsR (a :: b :: 1 :: (fourL xid ++ (fourL src ++ (fourL dst ++ (fourL tag ++ (twoL i ++ (fourL push ++ (twoL n ++ o)))))))) = (1, xid, src, dst, tag, if i = 65535 then -1 else i, push, o.map mkOut, 0, false, [], true) := by
  obtain ⟨L, hL⟩ : ∃ L, L = a :: b :: 1 :: (fourL xid ++ (fourL src ++ (fourL dst ++ (fourL tag ++ (twoL i ++ (fourL push ++ (twoL n ++ o))))))) := ⟨_, rfl⟩
  have e2 : rd L 2 = 1 := by rw [hL]; rfl
  have hlen : L.length = 27 + o.length := by rw [hL]; simp only [List.length_cons, List.length_append, fourL_len, twoL_len]; omega
  have v3 : valP L 3 4 = xid := by rw [hL]; exact vfour hx.1 hx.2
  have v7 : valP L 7 4 = src := by rw [hL]; exact vfour hs.1 hs.2
  have v11 : valP L 11 4 = dst := by rw [hL]; exact vfour hd.1 hd.2
  have v15 : valP L 15 4 = tag := by rw [hL]; exact vfour ht.1 ht.2
  have v19 : valP L 19 2 = i := by rw [hL]; exact vtwo hi.1 hi.2
  have v21 : valP L 21 4 = push := by rw [hL]; exact vfour hp.1 hp.2
  have d27 : L.drop 27 = o := by rw [hL]; rfl
  rw [← hL]
  unfold seemsR
  rw [e2, if_pos (Or.inl rfl), if_neg (by omega), if_pos rfl, v3, v7, v11, v15, v19, v21, d27, outsP_bytes hb]
theorem seems_del (a b xid src dst tag : Int) (hx : 0 ≤ xid ∧ xid ≤ 4294967295) (hs : 0 ≤ src ∧ src ≤ 4294967295) (hd : 0 ≤ dst ∧ dst ≤ 4294967295) (ht : 0 ≤ tag ∧ tag ≤ 4294967295) :
    seemsR (a :: b :: 2 :: (fourL xid ++ (fourL src ++ (fourL dst ++ fourL tag)))) = (2, xid, src, dst, tag, 0, 0, [], 0, false, [], true) := by
  obtain ⟨L, hL⟩ : ∃ L, L = a :: b :: 2 :: (fourL xid ++ (fourL src ++ (fourL dst ++ fourL tag))) := ⟨_, rfl⟩
  have e2 : rd L 2 = 2 := by rw [hL]; rfl
  have hlen : L.length = 19 := by rw [hL]; rfl
  have v3 : valP L 3 4 = xid := by rw [hL]; exact vfour hx.1 hx.2
  have v7 : valP L 7 4 = src := by rw [hL]; exact vfour hs.1 hs.2
  have v11 : valP L 11 4 = dst := by rw [hL]; exact vfour hd.1 hd.2
  have v15 : valP L 15 4 = tag := by rw [hL]; exact vfour ht.1 ht.2
  rw [← hL]
  unfold seemsR
  rw [e2, if_pos (Or.inr rfl), if_neg (by omega), if_neg (by omega), v3, v7, v11, v15]
theorem seems_link (a b xid p u : Int) (hx : 0 ≤ xid ∧ xid ≤ 4294967295) (hp : 0 ≤ p ∧ p ≤ 255) : seemsR (a :: b :: 7 :: (fourL xid ++ [p, u])) = (7, xid, 0, 0, 0, 0, 0, [], p, u == 1, [], true) := by
  obtain ⟨L, hL⟩ : ∃ L, L = a :: b :: 7 :: (fourL xid ++ [p, u]) := ⟨_, rfl⟩
  have e2 : rd L 2 = 7 := by rw [hL]; rfl
  have e7 : rd L 7 = p := by rw [hL]; rfl
  have e8 : rd L 8 = u := by rw [hL]; rfl
  have hlen : L.length = 9 := by rw [hL]; rfl
  have v3 : valP L 3 4 = xid := by rw [hL]; exact vfour hx.1 hx.2
  rw [← hL]
  unfold seemsR
  rw [e2, if_neg (by omega), if_pos rfl, if_neg (by omega), v3, e7, e8, fw64 (by omega)]
theorem seems_frame (a b kd xid p : Int) (o : List Int) (hk : kd = 8 ∨ kd = 9) (hx : 0 ≤ xid ∧ xid ≤ 4294967295) (hp : 0 ≤ p ∧ p ≤ 255) : seemsR (a :: b :: kd :: (fourL xid ++ (p :: o))) = (kd, xid, 0, 0, 0, 0, 0, [], p, false, o, true) := by
  obtain ⟨L, hL⟩ : ∃ L, L = a :: b :: kd :: (fourL xid ++ (p :: o)) := ⟨_, rfl⟩
  have e2 : rd L 2 = kd := by rw [hL]; rfl
  have e7 : rd L 7 = p := by rw [hL]; rfl
  have hlen : L.length = 8 + o.length := by rw [hL]; simp only [List.length_cons, List.length_append, fourL_len]; omega
  have v3 : valP L 3 4 = xid := by rw [hL]; exact vfour hx.1 hx.2
  have d8 : L.drop 8 = o := by rw [hL]; rfl
  rw [← hL]
  unfold seemsR
  rw [e2, if_neg (by omega), if_neg (by omega), if_pos hk, if_neg (by omega), v3, e7, d8, fw64 (by omega)]
theorem seems_bare (a b kd xid : Int) (hk : 3 ≤ kd ∧ kd ≤ 6) (hx : 0 ≤ xid ∧ xid ≤ 4294967295) : seemsR (a :: b :: kd :: (fourL xid ++ [])) = (kd, xid, 0, 0, 0, 0, 0, [], 0, false, [], true) := by
  obtain ⟨L, hL⟩ : ∃ L, L = a :: b :: kd :: (fourL xid ++ []) := ⟨_, rfl⟩
  have e2 : rd L 2 = kd := by rw [hL]; rfl
  have v3 : valP L 3 4 = xid := by rw [hL]; exact vfour hx.1 hx.2
  rw [← hL]
  unfold seemsR
  rw [e2, if_neg (by omega), if_neg (by omega), if_neg (by omega), v3]
/-- What a right message's bytes seem to be. -/
theorem seems_enc {m : Ms} (hw : WM m) (hr : rightM m = true) : seemsR (encP m) = toR m true := by
  have hk := right_kinds hr
  obtain ⟨kd, xid, ⟨src, dst, tag, inn, push, outs⟩, port, up, frame⟩ := m
  have hx := hw.xid
  have hs := hw.src
  have hd := hw.dst
  have ht := hw.tag
  have hpu := hw.push
  simp only at hx hs hd ht hpu
  unfold encP
  cases hk with
  | put h hrr hs2 =>
    obtain ⟨h3, h4, h5⟩ := hs2
    simp only at h h3 h4 h5 hrr
    subst h h3 h4 h5
    have hp := rightR_parts hrr
    have hi := hp.inn
    have hbk := hp.back
    simp only at hi hbk
    rw [show innerP ⟨1, xid, ⟨src, dst, tag, inn, push, outs⟩, 0, false, []⟩ = fourL src ++ (fourL dst ++ (fourL tag ++ (twoL (inP inn) ++ (fourL push ++ (twoL (outs.length : Int) ++ outs.map (·.f0)))))) from if_pos rfl]
    have := seems_put ((7 + ((fourL src ++ (fourL dst ++ (fourL tag ++ (twoL (inP inn) ++ (fourL push ++ (twoL (outs.length : Int) ++ outs.map (·.f0)))))) : List Int).length : Int)) / 256 % 256) ((7 + ((fourL src ++ (fourL dst ++ (fourL tag ++ (twoL (inP inn) ++ (fourL push ++ (twoL (outs.length : Int) ++ outs.map (·.f0)))))) : List Int).length : Int)) % 256) xid src dst tag (inP inn) push (outs.length : Int) (outs.map (·.f0)) hx hs hd ht hi hpu hp.bytes
    rw [hp.outs, hbk] at this
    exact this
  | del h ha h3 h4 h5 hs2 =>
    obtain ⟨h6, h7, h8⟩ := hs2
    simp only at h h3 h4 h5 h6 h7 h8
    subst h h3 h4 h5 h6 h7 h8
    rw [show innerP ⟨2, xid, ⟨src, dst, tag, 0, 0, []⟩, 0, false, []⟩ = fourL src ++ (fourL dst ++ fourL tag) from (if_neg (show ¬ ((2 : Int) = 1) by decide)).trans (if_pos rfl)]
    exact seems_del _ _ xid src dst tag hx hs hd ht
  | bare h hrr hs2 =>
    obtain ⟨h6, h7, h8⟩ := hs2
    simp only at h hrr h6 h7 h8
    injection hrr with z0 z1 z2 z3 z4 z5
    subst z0 z1 z2 z3 z4 z5
    subst h6 h7 h8
    have hin : innerP ⟨kd, xid, ⟨0, 0, 0, 0, 0, []⟩, 0, false, []⟩ = [] := by
      unfold innerP
      simp only
      rw [if_neg (by omega), if_neg (by omega), if_neg (by omega), if_neg (by omega)]
    rw [hin]
    exact seems_bare _ _ kd xid h hx
  | link h hrr hp hf =>
    simp only at h hrr hp hf
    injection hrr with z0 z1 z2 z3 z4 z5
    subst z0 z1 z2 z3 z4 z5
    subst h hf
    have hin : innerP ⟨7, xid, ⟨0, 0, 0, 0, 0, []⟩, port, up, []⟩ = [port, if up = true then 1 else 0] := by
      unfold innerP
      simp only
      rw [if_neg (by omega), if_neg (by omega), if_pos trivial]
    rw [hin]
    refine (seems_link _ _ xid port (if up = true then 1 else 0) hx (by omega)).trans ?_
    unfold toR
    cases up <;> rfl
  | frame h hrr hp hu hl =>
    simp only at h hrr hp hu hl
    injection hrr with z0 z1 z2 z3 z4 z5
    subst z0 z1 z2 z3 z4 z5
    subst hu
    have hin : innerP ⟨kd, xid, ⟨0, 0, 0, 0, 0, []⟩, port, false, frame⟩ = port :: frame := by
      unfold innerP
      simp only
      rw [if_neg (by omega), if_neg (by omega), if_neg (by omega), if_pos h]
    rw [hin]
    exact seems_frame _ _ kd xid port frame h hx (by omega)
theorem rd_byte {l : List Int} (hb : byteL l) (k : Nat) : 0 ≤ rd l (k : Int) ∧ rd l (k : Int) ≤ 255 := by
  unfold rd
  rw [Int.toNat_natCast, List.getD_eq_getElem?_getD]
  cases h : l[k]? with
  | none => exact ⟨Int.le_refl _, by decide⟩
  | some x => exact hb x (List.mem_of_getElem? h)
theorem seems_wm {l : List Int} (hb : byteL l) : WM (ofR (seemsR l)) ∧ (ofR (seemsR l)).f2.f5.length ≤ l.length ∧ (ofR (seemsR l)).f5.length ≤ l.length := by
  have h2 : 0 ≤ rd l 2 ∧ rd l 2 ≤ 255 := rd_byte hb 2
  have v3 := val_range l 3 4
  have v7 := val_range l 7 4
  have v11 := val_range l 11 4
  have v15 := val_range l 15 4
  have v21 := val_range l 21 4
  have hz : (0 : Int) ≤ 0 ∧ (0 : Int) ≤ 4294967295 := by omega
  have ho : (outsP (l.drop 27)).length ≤ l.length := by unfold outsP; rw [List.length_map, List.length_drop]; omega
  have hd : (l.drop 8).length ≤ l.length := by rw [List.length_drop]; omega
  have hn : byteL [] := fun y hy => by cases hy
  have hb8 : byteL (l.drop 8) := fun y hy => hb y (List.mem_of_mem_drop hy)
  unfold seemsR
  split
  · split
    · exact ⟨⟨h2, v3, hz, hz, hz, hz, hn⟩, Nat.zero_le _, Nat.zero_le _⟩
    · split
      · exact ⟨⟨h2, v3, v7, v11, v15, v21, hn⟩, ho, Nat.zero_le _⟩
      · exact ⟨⟨h2, v3, v7, v11, v15, hz, hn⟩, Nat.zero_le _, Nat.zero_le _⟩
  · split
    · split
      · exact ⟨⟨h2, v3, hz, hz, hz, hz, hn⟩, Nat.zero_le _, Nat.zero_le _⟩
      · exact ⟨⟨h2, v3, hz, hz, hz, hz, hn⟩, Nat.zero_le _, Nat.zero_le _⟩
    · split
      · split
        · exact ⟨⟨h2, v3, hz, hz, hz, hz, hn⟩, Nat.zero_le _, Nat.zero_le _⟩
        · exact ⟨⟨h2, v3, hz, hz, hz, hz, hb8⟩, Nat.zero_le _, hd⟩
      · exact ⟨⟨h2, v3, hz, hz, hz, hz, hn⟩, Nat.zero_le _, Nat.zero_le _⟩
theorem dec_seems {l : List Int} (hb : byteL l) (h7 : 7 ≤ l.length) (hh : ¬ (l.length : Int) < headN l) :
    decF l = if okR (seemsR l) = true ∧ rightM (ofR (seemsR l)) = true ∧ encP (ofR (seemsR l)) = l then (ofR (seemsR l), 0) else (zM, 2) := by
  by_cases h : okR (seemsR l) = true ∧ rightM (ofR (seemsR l)) = true ∧ encP (ofR (seemsR l)) = l
  · rw [if_pos h]
    have := dec_enc (seems_wm hb).1 h.2.1
    rwa [h.2.2] at this
  · rw [if_neg h]
    by_cases h0 : (decF l).2 = 0
    · obtain ⟨a1, a2, a3, a4, a5⟩ := dec_ok hb h0
      have hs := seems_enc a2 a1
      rw [a3] at hs
      exact absurd (by rw [hs]; exact ⟨rfl, a1, a3⟩) h
    · unfold decF at h0 ⊢
      rw [if_neg (by omega)] at h0 ⊢
      by_cases h1 : okR (readL l) = true ∧ (l.length : Int) = headN l ∧ rightM (ofR (readL l)) = true
      · rw [if_pos h1] at h0
        exact absurd rfl h0
      · rw [if_neg h1]
theorem rdecode_ok (l : List Int) (hb : byteL l) (hl : l.length ≤ 3000) (k : Nat) (hk : 8000 ≤ k) : stolonref16_Decode.f k l = some (toD (decF l)) := by
  obtain ⟨k, rfl⟩ : ∃ j, k = j + 1 := ⟨k - 1, by omega⟩
  unfold stolonref16_Decode.f
  by_cases h7 : (l.length : Int) < 7
  · rw [if_pos h7, stolonref16_Decode.j0, if_pos rfl]
    unfold decF
    rw [if_pos (.inl h7)]
    rfl
  obtain ⟨v1, v2, v3⟩ := val_head hb (by omega)
  have hv := val_ok l 0 2 (k + 1) (by omega) (by omega) (by omega)
  rw [if_neg h7, show stolonref16_value.f (k + 1) l 0 2 = some (valP l 0 2) from hv, fbs, v1, fw64 (by omega)]
  by_cases hh : (l.length : Int) < headN l
  · rw [decide_eq_true hh, stolonref16_Decode.j0, if_pos rfl]
    unfold decF
    rw [if_pos (.inr hh)]
    rfl
  rw [decide_eq_false hh, stolonref16_Decode.j0, if_neg ff, dec_seems hb (by omega) hh]
  have hse : stolonref16_seems.f l = some (seemsR l) := by
    unfold stolonref16_seems.f
    rw [if_pos ⟨by omega, by omega⟩]
  obtain ⟨w1, w2, w3⟩ := seems_wm hb
  rw [hse, fbs, show (seemsR l).2.2.2.2.2.2.2.2.2.2.2 = okR (seemsR l) from rfl]
  cases ho : okR (seemsR l) with
  | false =>
    rw [if_neg ff, if_neg (fun h => by cases h.1)]
    rfl
  | true =>
    have he := rencode_ok (ofR (seemsR l)) w1 (by omega) (by omega) k (by omega)
    have he' : stolonref16_Encode.f k (seemsR l).1 (seemsR l).2.1 (seemsR l).2.2.1 (seemsR l).2.2.2.1 (seemsR l).2.2.2.2.1 (seemsR l).2.2.2.2.2.1 (seemsR l).2.2.2.2.2.2.1 (seemsR l).2.2.2.2.2.2.2.1 (seemsR l).2.2.2.2.2.2.2.2.1 (seemsR l).2.2.2.2.2.2.2.2.2.1 (seemsR l).2.2.2.2.2.2.2.2.2.2.1 = some (if rightM (ofR (seemsR l)) = true then (encP (ofR (seemsR l)), 0) else ([], 1)) := he
    rw [if_pos rfl, he', fbs]
    cases hr : rightM (ofR (seemsR l)) with
    | false =>
      rw [if_neg ff, if_neg (show ¬ (((([] : List Int), (1 : Int))).2 = 0) by decide), if_neg (fun h => by cases h.2.1)]
      rfl
    | true =>
      rw [if_pos rfl, if_pos rfl, bsame_ok _ _ (by omega) _ (by omega), fbs]
      by_cases hq : l = encP (ofR (seemsR l))
      · rw [decide_eq_true hq, if_pos rfl, if_pos ⟨rfl, rfl, hq.symm⟩]
        rfl
      · rw [decide_eq_false hq, if_neg ff, if_neg (fun h => hq h.2.2.symm)]
        rfl
theorem rsplit_loop : ∀ (n : Nat) (b : List Int) (out : List Ms) (k : Nat), byteL b → b.length < n → n + n + 8010 ≤ k → b.length ≤ 3000 → out.length + b.length ≤ 100000000 → stolonref16_Split.l0 k b out = some (splitF n b out)
  | 0, b, out, k, _, h, _, _, _ => absurd h (by omega)
  | n + 1, b, out, k, hb, hn, hk, hl, ho => by
    obtain ⟨k, rfl⟩ : ∃ j, k = j + 1 + 1 := ⟨k - 2, by omega⟩
    rw [stolonref16_Split.l0, splitF]
    by_cases h2 : (b.length : Int) ≥ 2
    · obtain ⟨v1, v2, v3⟩ := val_head hb (by omega)
      have hv := fun j (hj : 2 < j) => show stolonref16_value.f j b 0 2 = some (headN b) from v1 ▸ val_ok b 0 2 j (by omega) (by omega) hj
      rw [if_pos h2, if_pos h2, hv _ (by omega), fbs, fw64 (by omega), stolonref16_Split.j1]
      by_cases h3 : (b.length : Int) < headN b
      · rw [decide_eq_false (by omega), if_neg ff, if_pos h3]
      · have htl : (b.take (headN b).toNat).length ≤ b.length := by rw [List.length_take]; omega
        rw [decide_eq_true (by omega), if_pos rfl, if_neg h3, hv _ (by omega), fbs, fw64 (by omega), if_pos v2, if_pos (by omega), rdecode_ok _ (fun y hy => hb y (List.mem_of_mem_take hy)) (by omega) k (by omega), fbs, show (toD (decF (b.take (headN b).toNat))).2.2.2.2.2.2.2.2.2.2.2 = (decF (b.take (headN b).toNat)).2 from rfl]
        by_cases h4 : (decF (b.take (headN b).toNat)).2 = 0
        · have h5 := (dec_ok (fun y hy => hb y (List.mem_of_mem_take hy)) h4).2.2.2.1
          rw [List.length_take] at h5
          rw [if_pos h4, if_pos h4, if_pos (by omega)]
          have := rsplit_loop n (b.drop (headN b).toNat) (out ++ [(decF (b.take (headN b).toNat)).1]) k (fun y hy => hb y (List.mem_of_mem_drop hy)) (by rw [List.length_drop]; omega) (by omega) (by rw [List.length_drop]; omega) (by rw [List.length_drop, List.length_append, List.length_singleton]; omega)
          exact this
        · rw [if_neg h4, if_neg h4]
    · rw [if_neg h2, if_neg h2, stolonref16_Split.j1, if_neg ff]
theorem rsplit_ok (b : List Int) (hb : byteL b) (hl : b.length ≤ 3000) (k : Nat) (hk : 20000 ≤ k) : stolonref16_Split.f k b = some (splitF (b.length + 1) b []) := rsplit_loop (b.length + 1) b [] k hb (by omega) (by omega) hl (by simp; omega)
theorem splitF_all : ∀ (n : Nat) (b : List Int) (out : List Ms), byteL b → (∀ m ∈ (splitF n b out).1, m ∈ out ∨ rightM m = true) ∧ (splitF n b out).1.length ≤ out.length + n ∧ (splitF n b out).2.1.length ≤ b.length
  | 0, b, out, _ => ⟨fun m hm => .inl hm, Nat.le_refl _, Nat.le_refl _⟩
  | n + 1, b, out, hb => by
    rw [splitF]
    by_cases h2 : (b.length : Int) ≥ 2
    · rw [if_pos h2]
      by_cases h3 : (b.length : Int) < headN b
      · rw [if_pos h3]
        exact ⟨fun m hm => .inl hm, by show out.length ≤ _; omega, Nat.le_refl _⟩
      · rw [if_neg h3]
        by_cases h4 : (decF (b.take (headN b).toNat)).2 = 0
        · rw [if_pos h4]
          obtain ⟨i1, i2, i3⟩ := splitF_all n (b.drop (headN b).toNat) (out ++ [(decF (b.take (headN b).toNat)).1]) (fun y hy => hb y (List.mem_of_mem_drop hy))
          refine ⟨fun m hm => ?_, ?_, ?_⟩
          · rcases i1 m hm with h | h
            · rcases List.mem_append.1 h with h | h
              · exact .inl h
              · rw [List.mem_singleton.1 h]
                exact .inr (dec_ok (fun y hy => hb y (List.mem_of_mem_take hy)) h4).1
            · exact .inr h
          · rw [List.length_append, List.length_singleton] at i2
            omega
          · rw [List.length_drop] at i3
            omega
        · rw [if_neg h4]
          exact ⟨fun m hm => .inl hm, by show out.length ≤ _; omega, Nat.le_refl _⟩
    · rw [if_neg h2]
      exact ⟨fun m hm => .inl hm, by show out.length ≤ _; omega, Nat.le_refl _⟩
end Go.Proofs.Ytboonfidioombaa.P

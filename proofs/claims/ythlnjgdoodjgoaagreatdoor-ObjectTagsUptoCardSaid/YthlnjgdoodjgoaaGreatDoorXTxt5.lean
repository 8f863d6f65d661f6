/- strings.Cut and bytes.Cut at one byte. -/
import Derived.Lib.BufferKept
import Derived.Lib.BufferWrite
import Derived.Lib.VarintMem
import Derived.Laws.BitsLemmas
import Derived.Laws.RangeAny
import Derived.Deep.MidRow
import Derived.Laws.IdiomCopy
import Derived.Test.YthlnjgdoodjgoaaGreatDoorXTxt1
import Derived.Test.YthlnjgdoodjgoaaGreatDoorXTxt2
import Derived.Test.YthlnjgdoodjgoaaGreatDoorXTxt4
import Derived.Test.YthlnjgdoodjgoaaGreatDoorXShelf1
set_option linter.unusedSimpArgs false
set_option linter.unusedVariables false
namespace Cod
open Go
theorem ixB_pos {l : List UInt8} {c : UInt8} (h : c ∈ l) : indexB l c = (l.idxOf c : Nat) := by simp [indexB, h]
theorem ixB_neg {l : List UInt8} {c : UInt8} (h : c ∉ l) : indexB l c = -1 := by simp [indexB, h]
theorem byt_u8 (c : UInt8) : byt (c.toNat : Int) = c := by simp [byt]
theorem sl_index {s : List UInt8} {c : UInt8} : S E F.stringslite_Index [.str s, .str [c]] [] = some (.int .i64 (indexB s c), []) := by
  have hx : S E F.bytealg_IndexByteString [.str s, .int .u8 c.toNat] [] = some (.int .i64 (indexB s c), []) := by
    have h := S_ext ext0 (S_indexS (l := s) (c := c.toNat))
    rw [byt_u8] at h
    exact h
  have h1 : S E F.stringslite_IndexByte [.str s, .int .u8 c.toNat] [] = some (.int .i64 (indexB s c), []) := by
    rw [S_of fn_stringslite_IndexByte rfl rfl]
    simp (dsimp := false) (disch := first | omega | (simp only [LENs] <;> omega) | fail) only [L.stringslite_IndexByte, go_sem, reduceIte, reduceCtorEq, Nat.reduceEqDiff, Nat.reduceAdd, Nat.reduceSub, Nat.reduceMul, Nat.reduceDiv, Nat.reduceMod, Nat.reduceBEq, Nat.reduceLeDiff, Nat.reduceLT, Int.reduceEq, Int.reduceNe, Int.reduceLT, Int.reduceLE, Int.reduceBEq, Int.reduceBNe, Int.reduceToNat, Int.reduceAdd, Int.reduceSub, Int.reduceMul, Int.reduceNeg, hx]
  have b0 : bat [c] 0 = c.toNat := rfl
  rw [S_of fn_stringslite_Index rfl rfl]
  cases hs : (([c] : List UInt8) == s) with
  | true =>
    have := eq_of_beq hs
    subst this
    have hi : indexB [c] c = 0 := by simp [indexB]
    rw [hi]
    simp (dsimp := false) (disch := first | omega | (simp only [LENs] <;> omega) | fail) only [L.stringslite_Index, go_sem, reduceIte, reduceCtorEq, Nat.reduceEqDiff, Nat.reduceAdd, Nat.reduceSub, Nat.reduceMul, Nat.reduceDiv, Nat.reduceMod, Nat.reduceBEq, Nat.reduceLeDiff, Nat.reduceLT, Int.reduceEq, Int.reduceNe, Int.reduceLT, Int.reduceLE, Int.reduceBEq, Int.reduceBNe, Int.reduceToNat, Int.reduceAdd, Int.reduceSub, Int.reduceMul, Int.reduceNeg, hs, h1, b0]
  | false =>
    simp (dsimp := false) (disch := first | omega | (simp only [LENs] <;> omega) | fail) only [L.stringslite_Index, go_sem, reduceIte, reduceCtorEq, Nat.reduceEqDiff, Nat.reduceAdd, Nat.reduceSub, Nat.reduceMul, Nat.reduceDiv, Nat.reduceMod, Nat.reduceBEq, Nat.reduceLeDiff, Nat.reduceLT, Int.reduceEq, Int.reduceNe, Int.reduceLT, Int.reduceLE, Int.reduceBEq, Int.reduceBNe, Int.reduceToNat, Int.reduceAdd, Int.reduceSub, Int.reduceMul, Int.reduceNeg, hs, h1, b0]
theorem sl_cut {s : List UInt8} {c : UInt8} (hs : s.length ≤ 1000000000000) : S E F.stringslite_Cut [.str s, .str [c]] [] = some (if c ∈ s then .tup [.str (s.take (s.idxOf c)), .str (s.drop (s.idxOf c + 1)), .bool true] else .tup [.str s, .str [], .bool false], []) := by
  have h := sl_index (s := s) (c := c)
  rw [S_of fn_stringslite_Cut rfl rfl]
  by_cases hc : c ∈ s
  · rw [ixB_pos hc] at h
    have hi := List.idxOf_lt_length_of_mem hc
    rw [if_pos hc]
    have e1 : ((s.idxOf c : Int) + ((1 : Nat) : Int)).toNat = s.idxOf c + 1 := by omega
    have e2 : sub s 0 (s.idxOf c) = s.take (s.idxOf c) := by simp [sub]
    have e3 : sub s (s.idxOf c + 1) (s.length - (s.idxOf c + 1)) = s.drop (s.idxOf c + 1) := sub_drop (by omega)
    simp (dsimp := false) (disch := first | omega | (simp only [LENs] <;> omega) | fail) only [L.stringslite_Cut, go_sem, reduceIte, reduceCtorEq, Nat.reduceEqDiff, Nat.reduceAdd, Nat.reduceSub, Nat.reduceMul, Nat.reduceDiv, Nat.reduceMod, Nat.reduceBEq, Nat.reduceLeDiff, Nat.reduceLT, Int.reduceEq, Int.reduceNe, Int.reduceLT, Int.reduceLE, Int.reduceBEq, Int.reduceBNe, Int.reduceToNat, Int.reduceAdd, Int.reduceSub, Int.reduceMul, Int.reduceNeg, h, e1, e2, e3, Nat.sub_zero]
  · rw [ixB_neg hc] at h
    rw [if_neg hc]
    simp (dsimp := false) (disch := first | omega | (simp only [LENs] <;> omega) | fail) only [L.stringslite_Cut, go_sem, reduceIte, reduceCtorEq, Nat.reduceEqDiff, Nat.reduceAdd, Nat.reduceSub, Nat.reduceMul, Nat.reduceDiv, Nat.reduceMod, Nat.reduceBEq, Nat.reduceLeDiff, Nat.reduceLT, Int.reduceEq, Int.reduceNe, Int.reduceLT, Int.reduceLE, Int.reduceBEq, Int.reduceBNe, Int.reduceToNat, Int.reduceAdd, Int.reduceSub, Int.reduceMul, Int.reduceNeg, h]
theorem go_scut {s : List UInt8} {c : UInt8} (hs : s.length ≤ 1000000000000) : S E F.strings_Cut [.str s, .str [c]] [] = some (if c ∈ s then .tup [.str (s.take (s.idxOf c)), .str (s.drop (s.idxOf c + 1)), .bool true] else .tup [.str s, .str [], .bool false], []) := by
  have h := sl_cut (c := c) hs
  rw [S_of fn_strings_Cut rfl rfl]
  by_cases hc : c ∈ s
  · rw [if_pos hc] at h ⊢
    simp (dsimp := false) (disch := first | omega | (simp only [LENs] <;> omega) | fail) only [L.strings_Cut, go_sem, reduceIte, reduceCtorEq, Nat.reduceEqDiff, Nat.reduceAdd, Nat.reduceSub, Nat.reduceMul, Nat.reduceDiv, Nat.reduceMod, Nat.reduceBEq, Nat.reduceLeDiff, Nat.reduceLT, Int.reduceEq, Int.reduceNe, Int.reduceLT, Int.reduceLE, Int.reduceBEq, Int.reduceBNe, Int.reduceToNat, Int.reduceAdd, Int.reduceSub, Int.reduceMul, Int.reduceNeg, h]
  · rw [if_neg hc] at h ⊢
    simp (dsimp := false) (disch := first | omega | (simp only [LENs] <;> omega) | fail) only [L.strings_Cut, go_sem, reduceIte, reduceCtorEq, Nat.reduceEqDiff, Nat.reduceAdd, Nat.reduceSub, Nat.reduceMul, Nat.reduceDiv, Nat.reduceMod, Nat.reduceBEq, Nat.reduceLeDiff, Nat.reduceLT, Int.reduceEq, Int.reduceNe, Int.reduceLT, Int.reduceLE, Int.reduceBEq, Int.reduceBNe, Int.reduceToNat, Int.reduceAdd, Int.reduceSub, Int.reduceMul, Int.reduceNeg, h]
end Cod
namespace Cod
open Go
theorem pre_drop {w v : List UInt8} : (w ++ v).drop w.length = v := List.drop_left
def preB (s t : List UInt8) : Bool := decide (t.length ≤ s.length) && (s.take t.length == t)
theorem preB_app (w v : List UInt8) : preB (w ++ v) w = true := by
  unfold preB
  simp
theorem go_cutPre {s t : List UInt8} (hs : s.length ≤ 1000000000000) (ht : t.length ≤ 1000000000000) : S E F.strings_CutPrefix [.str s, .str t] [] = some (if preB s t = true then .tup [.str (s.drop t.length), .bool true] else .tup [.str s, .bool false], []) := by
  have h0 : S E F.stringslite_CutPrefix [.str s, .str t] [] = some (if preB s t = true then .tup [.str (s.drop t.length), .bool true] else .tup [.str s, .bool false], []) := by
    have hp : S E F.stringslite_HasPrefix [.str s, .str t] [] = some (.bool (preB s t), []) := by
      rw [S_of fn_stringslite_HasPrefix rfl rfl]
      unfold preB
      by_cases h : t.length ≤ s.length
      · simp (dsimp := false) (disch := first | omega | (simp only [LENs] <;> omega) | fail) only [L.stringslite_HasPrefix, go_sem, reduceIte, reduceCtorEq, Nat.reduceEqDiff, Nat.reduceAdd, Nat.reduceSub, Nat.reduceMul, Nat.reduceDiv, Nat.reduceMod, Nat.reduceBEq, Nat.reduceLeDiff, Nat.reduceLT, Int.reduceEq, Int.reduceNe, Int.reduceLT, Int.reduceLE, Int.reduceBEq, Int.reduceBNe, Int.reduceToNat, Int.reduceAdd, Int.reduceSub, Int.reduceMul, Int.reduceNeg, h, sub_take, take_len, sub_drop, decide_true, Bool.true_and, Nat.sub_zero]
      · simp (dsimp := false) (disch := first | omega | (simp only [LENs] <;> omega) | fail) only [L.stringslite_HasPrefix, go_sem, reduceIte, reduceCtorEq, Nat.reduceEqDiff, Nat.reduceAdd, Nat.reduceSub, Nat.reduceMul, Nat.reduceDiv, Nat.reduceMod, Nat.reduceBEq, Nat.reduceLeDiff, Nat.reduceLT, Int.reduceEq, Int.reduceNe, Int.reduceLT, Int.reduceLE, Int.reduceBEq, Int.reduceBNe, Int.reduceToNat, Int.reduceAdd, Int.reduceSub, Int.reduceMul, Int.reduceNeg, h, sub_take, take_len, sub_drop, decide_false, Bool.false_and]
    rw [S_of fn_stringslite_CutPrefix rfl rfl]
    cases hb : preB s t with
    | true =>
      have hl : t.length ≤ s.length := by unfold preB at hb; simp only [Bool.and_eq_true, decide_eq_true_eq] at hb; exact hb.1
      simp (dsimp := false) (disch := first | omega | (simp only [LENs] <;> omega) | fail) only [L.stringslite_CutPrefix, go_sem, reduceIte, reduceCtorEq, Nat.reduceEqDiff, Nat.reduceAdd, Nat.reduceSub, Nat.reduceMul, Nat.reduceDiv, Nat.reduceMod, Nat.reduceBEq, Nat.reduceLeDiff, Nat.reduceLT, Int.reduceEq, Int.reduceNe, Int.reduceLT, Int.reduceLE, Int.reduceBEq, Int.reduceBNe, Int.reduceToNat, Int.reduceAdd, Int.reduceSub, Int.reduceMul, Int.reduceNeg, hp, hb, sub_take, take_len, sub_drop]
    | false => simp (dsimp := false) (disch := first | omega | (simp only [LENs] <;> omega) | fail) only [L.stringslite_CutPrefix, go_sem, reduceIte, reduceCtorEq, Nat.reduceEqDiff, Nat.reduceAdd, Nat.reduceSub, Nat.reduceMul, Nat.reduceDiv, Nat.reduceMod, Nat.reduceBEq, Nat.reduceLeDiff, Nat.reduceLT, Int.reduceEq, Int.reduceNe, Int.reduceLT, Int.reduceLE, Int.reduceBEq, Int.reduceBNe, Int.reduceToNat, Int.reduceAdd, Int.reduceSub, Int.reduceMul, Int.reduceNeg, hp, hb, sub_take, take_len, sub_drop]
  rw [S_of fn_strings_CutPrefix rfl rfl]
  cases hb : preB s t with
  | true => rw [hb] at h0; simp (dsimp := false) (disch := first | omega | (simp only [LENs] <;> omega) | fail) only [L.strings_CutPrefix, go_sem, reduceIte, reduceCtorEq, Nat.reduceEqDiff, Nat.reduceAdd, Nat.reduceSub, Nat.reduceMul, Nat.reduceDiv, Nat.reduceMod, Nat.reduceBEq, Nat.reduceLeDiff, Nat.reduceLT, Int.reduceEq, Int.reduceNe, Int.reduceLT, Int.reduceLE, Int.reduceBEq, Int.reduceBNe, Int.reduceToNat, Int.reduceAdd, Int.reduceSub, Int.reduceMul, Int.reduceNeg] at h0 ⊢; simp (dsimp := false) (disch := first | omega | (simp only [LENs] <;> omega) | fail) only [go_sem, reduceIte, reduceCtorEq, Nat.reduceEqDiff, Nat.reduceAdd, Nat.reduceSub, Nat.reduceMul, Nat.reduceDiv, Nat.reduceMod, Nat.reduceBEq, Nat.reduceLeDiff, Nat.reduceLT, Int.reduceEq, Int.reduceNe, Int.reduceLT, Int.reduceLE, Int.reduceBEq, Int.reduceBNe, Int.reduceToNat, Int.reduceAdd, Int.reduceSub, Int.reduceMul, Int.reduceNeg, h0]
  | false => rw [hb] at h0; simp (dsimp := false) (disch := first | omega | (simp only [LENs] <;> omega) | fail) only [L.strings_CutPrefix, go_sem, reduceIte, reduceCtorEq, Nat.reduceEqDiff, Nat.reduceAdd, Nat.reduceSub, Nat.reduceMul, Nat.reduceDiv, Nat.reduceMod, Nat.reduceBEq, Nat.reduceLeDiff, Nat.reduceLT, Int.reduceEq, Int.reduceNe, Int.reduceLT, Int.reduceLE, Int.reduceBEq, Int.reduceBNe, Int.reduceToNat, Int.reduceAdd, Int.reduceSub, Int.reduceMul, Int.reduceNeg] at h0 ⊢; simp (dsimp := false) (disch := first | omega | (simp only [LENs] <;> omega) | fail) only [go_sem, reduceIte, reduceCtorEq, Nat.reduceEqDiff, Nat.reduceAdd, Nat.reduceSub, Nat.reduceMul, Nat.reduceDiv, Nat.reduceMod, Nat.reduceBEq, Nat.reduceLeDiff, Nat.reduceLT, Int.reduceEq, Int.reduceNe, Int.reduceLT, Int.reduceLE, Int.reduceBEq, Int.reduceBNe, Int.reduceToNat, Int.reduceAdd, Int.reduceSub, Int.reduceMul, Int.reduceNeg, h0]
/- Steps of a reader of lines. -/
theorem take_ex {rest w : List UInt8} {bad : Nat} (hr : rest.length ≤ 1000000000) (hw : w.length ≤ 100) (hw10 : (10 : UInt8) ∉ w) (hb : bad ≤ 100000) : ∃ v r b, v.length ≤ rest.length ∧ r.length ≤ rest.length ∧ bad ≤ b ∧ b ≤ bad + 1 ∧
    (∀ x : Site, S E F.object_lines_take [.ref (.up x) 0 0, .str w] [(.up x, ⟨0, true, true, true, [.str rest, .int .i64 bad]⟩)] = some (.str v, [(.up x, ⟨0, true, true, true, [.str r, .int .i64 (b : Int)]⟩)])) ∧
    (b = bad → r.length < rest.length) ∧
    ∀ v0 r0, (10 : UInt8) ∉ v0 → rest = w ++ 32 :: (v0 ++ 10 :: r0) → v = v0 ∧ r = r0 ∧ b = bad := by
  have h1 := go_scut (s := rest) (c := 10) (by omega)
  by_cases hc : (10 : UInt8) ∈ rest
  · rw [if_pos hc] at h1
    have hlt : (rest.take (rest.idxOf 10)).length ≤ rest.length := by rw [List.length_take]; omega
    have h2 := go_cutPre (s := rest.take (rest.idxOf 10)) (t := w ++ [32]) (by omega) (by rw [List.length_append, List.length_singleton]; omega)
    have hi := List.idxOf_lt_length_of_mem hc
    have hsplit : rest = rest.take (rest.idxOf 10) ++ 10 :: rest.drop (rest.idxOf 10 + 1) := by
      conv => lhs; rw [← List.take_append_drop (rest.idxOf 10) rest, List.drop_eq_getElem_cons hi]
      rw [List.getElem_idxOf hi]
    have hno := List.idxOf_lt_length_of_mem hc
    have yes : ∀ v0 r0, (10 : UInt8) ∉ v0 → rest = w ++ 32 :: (v0 ++ 10 :: r0) → rest.take (rest.idxOf 10) = w ++ [32] ++ v0 ∧ rest.drop (rest.idxOf 10 + 1) = r0 := by
      intro v0 r0 g1 g2
      have gi := line_ix (r := r0) hw10 g1
      rw [← g2] at gi
      rw [gi]
      have e : rest = (w ++ [32] ++ v0) ++ 10 :: r0 := by rw [g2]; simp
      have el : (w ++ [32] ++ v0).length = w.length + 1 + v0.length := by simp; omega
      rw [e, ← el]
      refine ⟨List.take_left, ?_⟩
      rw [← List.drop_drop, List.drop_left]
      rfl
    generalize rest.take (rest.idxOf 10) = line at *
    generalize rest.drop (rest.idxOf 10 + 1) = tail at *
    have htl' : tail.length < rest.length := by rw [hsplit, List.length_append, List.length_cons]; omega
    have htl : tail.length ≤ rest.length := by omega
    cases hp : preB line (w ++ [32]) with
    | true =>
      rw [hp, if_pos rfl] at h2
      have hd : (line.drop (w ++ [32]).length).length ≤ rest.length := by rw [List.length_drop]; omega
      refine ⟨line.drop (w ++ [32]).length, tail, bad, hd, htl, Nat.le_refl _, by omega, ?_, fun _ => htl', fun v0 r0 g1 g2 => ?_⟩
      · intro x; rw [S_of fn_object_lines_take rfl rfl]
        simp (dsimp := false) (disch := first | omega | (simp only [LENs] <;> omega) | fail) only [L.object_lines_take, go_sem, reduceIte, reduceCtorEq, Nat.reduceEqDiff, Nat.reduceAdd, Nat.reduceSub, Nat.reduceMul, Nat.reduceDiv, Nat.reduceMod, Nat.reduceBEq, Nat.reduceLeDiff, Nat.reduceLT, Int.reduceEq, Int.reduceNe, Int.reduceLT, Int.reduceLE, Int.reduceBEq, Int.reduceBNe, Int.reduceToNat, Int.reduceAdd, Int.reduceSub, Int.reduceMul, Int.reduceNeg, h1, h2, Int.natCast_add, Int.cast_ofNat_Int]
      · obtain ⟨e1, e2⟩ := yes v0 r0 g1 g2
        refine ⟨?_, e2, rfl⟩
        rw [e1]; exact pre_drop
    | false =>
      rw [hp, if_neg (by simp)] at h2
      refine ⟨[], rest, bad + 1, by simp, Nat.le_refl _, by omega, Nat.le_refl _, ?_, fun h => by omega, fun v0 r0 g1 g2 => ?_⟩
      · intro x; rw [S_of fn_object_lines_take rfl rfl]
        simp (dsimp := false) (disch := first | omega | (simp only [LENs] <;> omega) | fail) only [L.object_lines_take, go_sem, reduceIte, reduceCtorEq, Nat.reduceEqDiff, Nat.reduceAdd, Nat.reduceSub, Nat.reduceMul, Nat.reduceDiv, Nat.reduceMod, Nat.reduceBEq, Nat.reduceLeDiff, Nat.reduceLT, Int.reduceEq, Int.reduceNe, Int.reduceLT, Int.reduceLE, Int.reduceBEq, Int.reduceBNe, Int.reduceToNat, Int.reduceAdd, Int.reduceSub, Int.reduceMul, Int.reduceNeg, h1, h2, Int.natCast_add, Int.cast_ofNat_Int]
      · obtain ⟨e1, e2⟩ := yes v0 r0 g1 g2
        rw [e1, preB_app] at hp
        cases hp
  · rw [if_neg hc] at h1
    have h2 := go_cutPre (s := rest) (t := w ++ [32]) (by omega) (by rw [List.length_append, List.length_singleton]; omega)
    refine ⟨[], rest, bad + 1, by simp, Nat.le_refl _, by omega, Nat.le_refl _, ?_, fun h => by omega, fun v0 r0 g1 g2 => ?_⟩
    · intro x; rw [S_of fn_object_lines_take rfl rfl]
      cases hp : preB rest (w ++ [32]) with
      | true => rw [hp, if_pos rfl] at h2; simp (dsimp := false) (disch := first | omega | (simp only [LENs] <;> omega) | fail) only [L.object_lines_take, go_sem, reduceIte, reduceCtorEq, Nat.reduceEqDiff, Nat.reduceAdd, Nat.reduceSub, Nat.reduceMul, Nat.reduceDiv, Nat.reduceMod, Nat.reduceBEq, Nat.reduceLeDiff, Nat.reduceLT, Int.reduceEq, Int.reduceNe, Int.reduceLT, Int.reduceLE, Int.reduceBEq, Int.reduceBNe, Int.reduceToNat, Int.reduceAdd, Int.reduceSub, Int.reduceMul, Int.reduceNeg, h1, h2, Int.natCast_add, Int.cast_ofNat_Int]
      | false => rw [hp, if_neg (by simp)] at h2; simp (dsimp := false) (disch := first | omega | (simp only [LENs] <;> omega) | fail) only [L.object_lines_take, go_sem, reduceIte, reduceCtorEq, Nat.reduceEqDiff, Nat.reduceAdd, Nat.reduceSub, Nat.reduceMul, Nat.reduceDiv, Nat.reduceMod, Nat.reduceBEq, Nat.reduceLeDiff, Nat.reduceLT, Int.reduceEq, Int.reduceNe, Int.reduceLT, Int.reduceLE, Int.reduceBEq, Int.reduceBNe, Int.reduceToNat, Int.reduceAdd, Int.reduceSub, Int.reduceMul, Int.reduceNeg, h1, h2, Int.natCast_add, Int.cast_ofNat_Int]
    · exact absurd (by rw [g2]; simp) hc
end Cod
namespace Cod
open Go
theorem idl_ex {rest w : List UInt8} {bad : Nat} (hr : rest.length ≤ 1000000000) (hw : w.length ≤ 100) (hw10 : (10 : UInt8) ∉ w) (hb : bad ≤ 100000) : ∃ d r b, d.length = 32 ∧ r.length ≤ rest.length ∧ bad ≤ b ∧ b ≤ bad + 2 ∧
    (∀ x : Site, S E F.object_lines_id [.ref (.up x) 0 0, .str w] [(.up x, ⟨0, true, true, true, [.str rest, .int .i64 bad]⟩)] = some (.agg (ofBytes d), [(.up x, ⟨0, true, true, true, [.str r, .int .i64 (b : Int)]⟩)])) ∧
    (b = bad → r.length < rest.length) ∧
    ∀ id r0, id.length = 32 → rest = w ++ 32 :: (hexT id ++ 10 :: r0) → d = id ∧ r = r0 ∧ b = bad := by
  obtain ⟨v, r, b, h1, h2, h3, h4, h5, hpr, h6⟩ := take_ex hr hw hw10 hb
  obtain ⟨d, e, k1, k2, k3, k4⟩ := go_sparse (s := v) (by omega)
  have ho : over (ofBytes (List.replicate 32 0)) 0 (ofBytes d) = ofBytes d := over_ofBytes_all (by rw [k1]; simp)
  rcases k2 with rfl | rfl
  · refine ⟨d, r, b, k1, h2, h3, by omega, ?_, hpr, fun id r0 g1 g2 => ?_⟩
    · intro x; rw [S_of fn_object_lines_id rfl rfl]
      simp (dsimp := false) (disch := first | omega | (simp only [LENs] <;> omega) | fail) only [L.object_lines_id, go_sem, reduceIte, reduceCtorEq, Nat.reduceEqDiff, Nat.reduceAdd, Nat.reduceSub, Nat.reduceMul, Nat.reduceDiv, Nat.reduceMod, Nat.reduceBEq, Nat.reduceLeDiff, Nat.reduceLT, Int.reduceEq, Int.reduceNe, Int.reduceLT, Int.reduceLE, Int.reduceBEq, Int.reduceBNe, Int.reduceToNat, Int.reduceAdd, Int.reduceSub, Int.reduceMul, Int.reduceNeg, BYs, h5, k3, ho, List.length_replicate]
    · obtain ⟨e1, e2, e3⟩ := h6 _ _ (hexT_no10 id) g2
      exact ⟨(k4 id g1 e1).1, e2, e3⟩
  · refine ⟨d, r, b + 1, k1, h2, by omega, by omega, ?_, fun h => by omega, fun id r0 g1 g2 => ?_⟩
    · intro x; rw [S_of fn_object_lines_id rfl rfl]
      simp (dsimp := false) (disch := first | omega | (simp only [LENs] <;> omega) | fail) only [L.object_lines_id, go_sem, reduceIte, reduceCtorEq, Nat.reduceEqDiff, Nat.reduceAdd, Nat.reduceSub, Nat.reduceMul, Nat.reduceDiv, Nat.reduceMod, Nat.reduceBEq, Nat.reduceLeDiff, Nat.reduceLT, Int.reduceEq, Int.reduceNe, Int.reduceLT, Int.reduceLE, Int.reduceBEq, Int.reduceBNe, Int.reduceToNat, Int.reduceAdd, Int.reduceSub, Int.reduceMul, Int.reduceNeg, BYs, h5, k3, ho, List.length_replicate, Int.natCast_add, Int.cast_ofNat_Int]
    · obtain ⟨e1, e2, e3⟩ := h6 _ _ (hexT_no10 id) g2
      have := (k4 id g1 e1).2
      omega
theorem who_ex {rest w : List UInt8} {bad : Nat} (hr : rest.length ≤ 1000000000) (hw : w.length ≤ 100) (hw10 : (10 : UInt8) ∉ w) (hb : bad ≤ 100000) : ∃ (i : Idt) (r : List UInt8) (b : Nat), i.name.length ≤ 100 ∧ i.email.length ≤ 100 ∧ r.length ≤ rest.length ∧ bad ≤ b ∧ b ≤ bad + 2 ∧
    (∀ x : Site, S E F.object_lines_who [.ref (.up x) 0 0, .str w] [(.up x, ⟨0, true, true, true, [.str rest, .int .i64 bad]⟩)] = some (.agg i.cells, [(.up x, ⟨0, true, true, true, [.str r, .int .i64 (b : Int)]⟩)])) ∧
    ∀ j r0, identOK j = true → rest = w ++ 32 :: (putI j ++ 10 :: r0) → i = j ∧ r = r0 ∧ b = bad := by
  obtain ⟨v, r, b, h1, h2, h3, h4, h5, hpr, h6⟩ := take_ex hr hw hw10 hb
  rcases parse_cases v with ⟨i, i1, i2⟩ | hno
  · have k3 := go_parse_put i1
    rw [i2] at k3
    refine ⟨i, r, b, ?_, ?_, h2, h3, by omega, ?_, fun j r0 g1 g2 => ?_⟩
    · exact plain_len ((identOK_iff i).1 i1).1
    · exact plain_len ((identOK_iff i).1 i1).2.1
    · intro x; rw [S_of fn_object_lines_who rfl rfl]
      simp (dsimp := false) (disch := first | omega | (simp only [LENs] <;> omega) | fail) only [L.object_lines_who, go_sem, reduceIte, reduceCtorEq, Nat.reduceEqDiff, Nat.reduceAdd, Nat.reduceSub, Nat.reduceMul, Nat.reduceDiv, Nat.reduceMod, Nat.reduceBEq, Nat.reduceLeDiff, Nat.reduceLT, Int.reduceEq, Int.reduceNe, Int.reduceLT, Int.reduceLE, Int.reduceBEq, Int.reduceBNe, Int.reduceToNat, Int.reduceAdd, Int.reduceSub, Int.reduceMul, Int.reduceNeg, BYs, h5, k3, Idt.cells]
    · obtain ⟨e1, e2, e3⟩ := h6 _ _ (put_no10 g1) g2
      refine ⟨?_, e2, e3⟩
      rw [e1] at i2
      have a1 := (doc_put i1).1
      have a2 := (doc_put g1).1
      rw [i2] at a1
      exact a1.symm.trans a2
  · have k3 := go_parse_no (s := v) (by omega) hno
    unfold errP zeroI at k3
    refine ⟨⟨[], [], 0, 0⟩, r, b + 1, by simp, by simp, h2, by omega, by omega, ?_, fun j r0 g1 g2 => ?_⟩
    · intro x; rw [S_of fn_object_lines_who rfl rfl]
      simp (dsimp := false) (disch := first | omega | (simp only [LENs] <;> omega) | fail) only [L.object_lines_who, go_sem, reduceIte, reduceCtorEq, Nat.reduceEqDiff, Nat.reduceAdd, Nat.reduceSub, Nat.reduceMul, Nat.reduceDiv, Nat.reduceMod, Nat.reduceBEq, Nat.reduceLeDiff, Nat.reduceLT, Int.reduceEq, Int.reduceNe, Int.reduceLT, Int.reduceLE, Int.reduceBEq, Int.reduceBNe, Int.reduceToNat, Int.reduceAdd, Int.reduceSub, Int.reduceMul, Int.reduceNeg, BYs, h5, k3, Idt.cells, Int.natCast_add, Int.cast_ofNat_Int]
    · obtain ⟨e1, e2, e3⟩ := h6 _ _ (put_no10 g1) g2
      exact absurd e1.symm (hno j g1)
theorem end_ex {rest : List UInt8} {bad : Nat} (hr : rest.length ≤ 1000000000) (hb : bad ≤ 100000) : ∃ m b, m.length ≤ rest.length ∧ bad ≤ b ∧ b ≤ bad + 1 ∧
    (∀ x : Site, S E F.object_lines_end [.ref (.up x) 0 0] [(.up x, ⟨0, true, true, true, [.str rest, .int .i64 bad]⟩)] = some (.str m, [(.up x, ⟨0, true, true, true, [.str rest, .int .i64 (b : Int)]⟩)])) ∧
    ∀ m0, rest = 10 :: m0 → m = m0 ∧ b = bad := by
  have h2 := go_cutPre (s := rest) (t := [10]) (by omega) (by simp)
  cases hp : preB rest [10] with
  | true =>
    rw [hp, if_pos rfl] at h2
    refine ⟨rest.drop 1, bad, by rw [List.length_drop]; omega, Nat.le_refl _, by omega, ?_, fun m0 g => ⟨by rw [g]; rfl, rfl⟩⟩
    intro x; rw [S_of fn_object_lines_end rfl rfl]
    simp (dsimp := false) (disch := first | omega | (simp only [LENs] <;> omega) | fail) only [L.object_lines_end, go_sem, reduceIte, reduceCtorEq, Nat.reduceEqDiff, Nat.reduceAdd, Nat.reduceSub, Nat.reduceMul, Nat.reduceDiv, Nat.reduceMod, Nat.reduceBEq, Nat.reduceLeDiff, Nat.reduceLT, Int.reduceEq, Int.reduceNe, Int.reduceLT, Int.reduceLE, Int.reduceBEq, Int.reduceBNe, Int.reduceToNat, Int.reduceAdd, Int.reduceSub, Int.reduceMul, Int.reduceNeg, h2, List.length_cons, List.length_nil]
  | false =>
    rw [hp, if_neg (by simp)] at h2
    refine ⟨rest, bad + 1, Nat.le_refl _, by omega, Nat.le_refl _, ?_, fun m0 g => ?_⟩
    · intro x; rw [S_of fn_object_lines_end rfl rfl]
      simp (dsimp := false) (disch := first | omega | (simp only [LENs] <;> omega) | fail) only [L.object_lines_end, go_sem, reduceIte, reduceCtorEq, Nat.reduceEqDiff, Nat.reduceAdd, Nat.reduceSub, Nat.reduceMul, Nat.reduceDiv, Nat.reduceMod, Nat.reduceBEq, Nat.reduceLeDiff, Nat.reduceLT, Int.reduceEq, Int.reduceNe, Int.reduceLT, Int.reduceLE, Int.reduceBEq, Int.reduceBNe, Int.reduceToNat, Int.reduceAdd, Int.reduceSub, Int.reduceMul, Int.reduceNeg, h2, Int.natCast_add, Int.cast_ofNat_Int]
    · rw [g] at hp
      have := preB_app [10] m0
      rw [List.singleton_append] at this
      rw [this] at hp
      cases hp
theorem rline_l0 {t w : List UInt8} (ht : t.length ≤ 1000000000) (hw : w.length ≤ 100) : ∀ (m i : Nat), i + m = t.length → w.length + 1 ≤ i → ∃ v r ok, v.length ≤ t.length ∧ r.length ≤ t.length ∧
    X E [.tmp 4, .tmp 5, .tmp 6] (.c L.ref07_line.x0 :: .lp [0, 7, 8] L.ref07_line.x0 :: .blk 0 :: [.c L.ref07_line.r0]) ⟨[(0, .str t), (7, .int .i64 ((w.length : Int) + 1)), (8, .int .i64 i)], []⟩ = some (.tup [.str v, .str r, .bool ok], []) ∧ (ok = true → r.length < t.length) ∧
    ∀ v0 r0, t = w ++ 32 :: (v0 ++ 10 :: r0) → (10 : UInt8) ∉ v0 → i ≤ w.length + 1 + v0.length → v = v0 ∧ r = r0 ∧ ok = true := by
  intro m
  induction m with
  | zero =>
    intro i hi h0
    refine ⟨[], [], false, by simp, by simp, ?_, fun h => (by cases h), fun v0 r0 g1 g2 g3 => ?_⟩
    · rw [X_in L.ref07_line.x0.eq_1]
      obtain rfl : i = t.length := by omega
      simp (dsimp := false) (disch := first | omega | (simp only [LENs] <;> omega) | fail) only [go_sem, reduceIte, reduceCtorEq, Nat.reduceEqDiff, Nat.reduceAdd, Nat.reduceSub, Nat.reduceMul, Nat.reduceDiv, Nat.reduceMod, Nat.reduceBEq, Nat.reduceLeDiff, Nat.reduceLT, Int.reduceEq, Int.reduceNe, Int.reduceLT, Int.reduceLE, Int.reduceBEq, Int.reduceBNe, Int.reduceToNat, Int.reduceAdd, Int.reduceSub, Int.reduceMul, Int.reduceNeg, L.ref07_line.r0]
    · have := congrArg List.length g1
      simp only [List.length_append, List.length_cons] at this
      omega
  | succ m ih =>
    intro i hi h0
    have hlt : i < t.length := by omega
    have e1 : ((w.length : Int) + 1).toNat = w.length + 1 := by omega
    have e2 : ((i : Int) + 1).toNat = i + 1 := by omega
    by_cases hc : t.getD i 0 = 10
    · refine ⟨sub t (w.length + 1) (i - (w.length + 1)), t.drop (i + 1), true, by unfold sub; rw [List.length_take, List.length_drop]; omega, by rw [List.length_drop]; omega, ?_, fun _ => by rw [List.length_drop]; omega, fun v0 r0 g1 g2 g3 => ?_⟩
      · rw [X_in L.ref07_line.x0.eq_1]
        have hb : (bat t i == (10 : Int)) = true := by rw [bat_nat, hc]; rfl
        simp (dsimp := false) (disch := first | omega | (simp only [LENs] <;> omega) | fail) only [go_sem, reduceIte, reduceCtorEq, Nat.reduceEqDiff, Nat.reduceAdd, Nat.reduceSub, Nat.reduceMul, Nat.reduceDiv, Nat.reduceMod, Nat.reduceBEq, Nat.reduceLeDiff, Nat.reduceLT, Int.reduceEq, Int.reduceNe, Int.reduceLT, Int.reduceLE, Int.reduceBEq, Int.reduceBNe, Int.reduceToNat, Int.reduceAdd, Int.reduceSub, Int.reduceMul, Int.reduceNeg, sub_take, take_len, sub_drop, hb, e1, e2]
      · have hi2 : i = w.length + 1 + v0.length := by
          apply Classical.byContradiction
          intro hn
          apply g2
          have hlt2 : i - (w.length + 1) < v0.length := by omega
          have : t.getD i 0 = v0.getD (i - (w.length + 1)) 0 := by
            rw [g1]
            simp only [List.getD]
            rw [List.getElem?_append_right (by omega), show i - w.length = (i - (w.length + 1)) + 1 by omega, List.getElem?_cons_succ, List.getElem?_append_left (by omega)]
          rw [hc] at this
          rw [this, List.getD, List.getElem?_eq_getElem hlt2]
          exact List.getElem_mem hlt2
        have el : (w ++ [32] ++ v0).length = w.length + 1 + v0.length := by simp; omega
        have et : t = (w ++ [32] ++ v0) ++ 10 :: r0 := by rw [g1]; simp
        refine ⟨?_, ?_, rfl⟩
        · rw [hi2]
          unfold sub
          have el1 : (w ++ [32]).length = w.length + 1 := by simp
          rw [show w.length + 1 + v0.length - (w.length + 1) = v0.length by omega, ← el1, et, List.append_assoc (w ++ [32]), List.drop_left, List.take_left]
        · rw [hi2, ← el, et, ← List.drop_drop, List.drop_left]
          rfl
    · obtain ⟨v, r, ok, h1, h2, h3, hrl, h4⟩ := ih (i + 1) (by omega) (by omega)
      simp only [Int.natCast_add, Int.cast_ofNat_Int] at h3
      refine ⟨v, r, ok, h1, h2, ?_, hrl, fun v0 r0 g1 g2 g3 => h4 v0 r0 g1 g2 ?_⟩
      · rw [X_in L.ref07_line.x0.eq_1, ← h3]
        have hb : (bat t i == (10 : Int)) = false := beq_f (fun h => hc (UInt8.toNat_inj.1 (by rw [bat_nat] at h; have t10 : (10 : UInt8).toNat = 10 := rfl; omega)))
        simp (dsimp := false) (disch := first | omega | (simp only [LENs] <;> omega) | fail) only [go_sem, reduceIte, reduceCtorEq, Nat.reduceEqDiff, Nat.reduceAdd, Nat.reduceSub, Nat.reduceMul, Nat.reduceDiv, Nat.reduceMod, Nat.reduceBEq, Nat.reduceLeDiff, Nat.reduceLT, Int.reduceEq, Int.reduceNe, Int.reduceLT, Int.reduceLE, Int.reduceBEq, Int.reduceBNe, Int.reduceToNat, Int.reduceAdd, Int.reduceSub, Int.reduceMul, Int.reduceNeg, hb]
      · apply Classical.byContradiction
        intro hn
        apply hc
        have hi2 : i = w.length + 1 + v0.length := by omega
        have el : (w ++ [32] ++ v0).length = w.length + 1 + v0.length := by simp; omega
        rw [hi2, ← el, show t = (w ++ [32] ++ v0) ++ 10 :: r0 by rw [g1]; simp]
        simp [List.getD]
theorem rline_ex {t w : List UInt8} (ht : t.length ≤ 1000000000) (hw : w.length ≤ 100) : ∃ v r ok, v.length ≤ t.length ∧ r.length ≤ t.length ∧
    S E F.ref07_line [.str t, .str w] [] = some (.tup [.str v, .str r, .bool ok], []) ∧ (ok = true → preB t (w ++ [32]) = true ∧ r.length < t.length) ∧
    ∀ v0 r0, t = w ++ 32 :: (v0 ++ 10 :: r0) → (10 : UInt8) ∉ v0 → v = v0 ∧ r = r0 ∧ ok = true := by
  have e1 : ((w.length : Int) + 1).toNat = w.length + 1 := by omega
  rw [S_of fn_ref07_line rfl rfl]
  by_cases hl : t.length < w.length + 1
  · refine ⟨[], [], false, by simp, by simp, ?_, fun h => (by cases h), fun v0 r0 g1 g2 => ?_⟩
    · simp (dsimp := false) (disch := first | omega | (simp only [LENs] <;> omega) | fail) only [L.ref07_line, go_sem, reduceIte, reduceCtorEq, Nat.reduceEqDiff, Nat.reduceAdd, Nat.reduceSub, Nat.reduceMul, Nat.reduceDiv, Nat.reduceMod, Nat.reduceBEq, Nat.reduceLeDiff, Nat.reduceLT, Int.reduceEq, Int.reduceNe, Int.reduceLT, Int.reduceLE, Int.reduceBEq, Int.reduceBNe, Int.reduceToNat, Int.reduceAdd, Int.reduceSub, Int.reduceMul, Int.reduceNeg, hl]
    · have := congrArg List.length g1
      simp only [List.length_append, List.length_cons] at this
      omega
  · cases hp : (sub t 0 (w.length + 1) == w ++ [32]) with
    | false =>
      refine ⟨[], [], false, by simp, by simp, ?_, fun h => (by cases h), fun v0 r0 g1 g2 => ?_⟩
      · simp (dsimp := false) (disch := first | omega | (simp only [LENs] <;> omega) | fail) only [L.ref07_line, go_sem, reduceIte, reduceCtorEq, Nat.reduceEqDiff, Nat.reduceAdd, Nat.reduceSub, Nat.reduceMul, Nat.reduceDiv, Nat.reduceMod, Nat.reduceBEq, Nat.reduceLeDiff, Nat.reduceLT, Int.reduceEq, Int.reduceNe, Int.reduceLT, Int.reduceLE, Int.reduceBEq, Int.reduceBNe, Int.reduceToNat, Int.reduceAdd, Int.reduceSub, Int.reduceMul, Int.reduceNeg, hl, e1, Nat.sub_zero, hp, Bool.not_false]
      · have el1 : (w ++ [32]).length = w.length + 1 := by simp
        unfold sub at hp
        rw [List.drop_zero, ← el1, show t = (w ++ [32]) ++ (v0 ++ 10 :: r0) by rw [g1]; simp, List.take_left] at hp
        simp at hp
    | true =>
      obtain ⟨v, r, ok, h1, h2, h3, hrl, h4⟩ := rline_l0 ht hw (t.length - (w.length + 1)) (w.length + 1) (by omega) (Nat.le_refl _)
      simp only [Int.natCast_add, Int.cast_ofNat_Int] at h3
      refine ⟨v, r, ok, h1, h2, ?_, fun h => ⟨?_, hrl h⟩, fun v0 r0 g1 g2 => h4 v0 r0 g1 g2 (by omega)⟩
      rotate_left
      · unfold preB
        unfold sub at hp
        rw [List.drop_zero] at hp
        rw [List.length_append, List.length_singleton, hp, decide_eq_true (by omega)]
        rfl
      simp (dsimp := false) (disch := first | omega | (simp only [LENs] <;> omega) | fail) only [L.ref07_line, go_sem, reduceIte, reduceCtorEq, Nat.reduceEqDiff, Nat.reduceAdd, Nat.reduceSub, Nat.reduceMul, Nat.reduceDiv, Nat.reduceMod, Nat.reduceBEq, Nat.reduceLeDiff, Nat.reduceLT, Int.reduceEq, Int.reduceNe, Int.reduceLT, Int.reduceLE, Int.reduceBEq, Int.reduceBNe, Int.reduceToNat, Int.reduceAdd, Int.reduceSub, Int.reduceMul, Int.reduceNeg, hl, e1, Nat.sub_zero, hp, Bool.not_true, h3]
end Cod
namespace Cod
open Go
theorem go_rTag {l : Lbl} (hn : l.name.length ≤ 1000000000) (hm : l.msg.length ≤ 1000000000) (hi : identOK l.who = true) : S E F.ref07_Tag [.agg l.cells] [] = some (.buf (.r 0) 0 0 (tagB l).length 1, [(.r 0, ⟨0, true, true, false, ofBytes (tagB l)⟩)]) := by
  have h1 := go_rhex l.htgt
  have h2 := go_rword (k := l.kind)
  have h3 := go_rput hi
  have hl := putI_len hi
  have hw := wordF_len l.kind
  have hx : (hexT l.tgt).length = 64 := by rw [hexT_len, l.htgt]
  have e : tagB l = [111, 98, 106, 101, 99, 116, 32] ++ hexT l.tgt ++ [10, 116, 121, 112, 101, 32] ++ wordF l.kind ++ [10, 116, 97, 103, 32] ++ l.name ++ [10, 116, 97, 103, 103, 101, 114, 32] ++ putI l.who ++ [10, 10] ++ l.msg := by
    unfold tagB objW typW tagW tgrW
    simp only [List.append_assoc, List.cons_append, List.nil_append]
  rw [S_of fn_ref07_Tag rfl rfl, e]
  generalize hexT l.tgt = a at *
  generalize wordF l.kind = b at *
  generalize putI l.who = c at *
  simp (dsimp := false) (disch := first | omega | (simp only [LENs] <;> omega) | fail) only [L.ref07_Tag, go_sem, reduceIte, reduceCtorEq, Nat.reduceEqDiff, Nat.reduceAdd, Nat.reduceSub, Nat.reduceMul, Nat.reduceDiv, Nat.reduceMod, Nat.reduceBEq, Nat.reduceLeDiff, Nat.reduceLT, Int.reduceEq, Int.reduceNe, Int.reduceLT, Int.reduceLE, Int.reduceBEq, Int.reduceBNe, Int.reduceToNat, Int.reduceAdd, Int.reduceSub, Int.reduceMul, Int.reduceNeg, BYs, h1, h2, h3]
def nameE (s : List UInt8) : Int := if nameB s = true then 3 else 0
def idE (i : Idt) : Int := if identOK i = true then 0 else 3
theorem tagE_eq (l : Lbl) : tagE l = minE [eWord l.kind, msgE l.msg, nameE l.name, idE l.who] := rfl
theorem tag_three (a b : Int) (n i : Bool) : minE [a, b, if n = true then 3 else 0, if i = true then 0 else 3] = minE [a, b, if (n || !i) = true then 3 else 0] := by
  cases n <;> cases i <;> simp only [minE, List.foldl_cons, List.foldl_nil, Bool.or_true, Bool.or_false, Bool.not_true, Bool.not_false, Bool.true_or, Bool.false_or] <;> generalize lst2 (lst2 0 a) b = w <;> unfold lst2 <;> simp <;> split <;> simp_all <;> omega
theorem go_rleast3 {a b c : Int} : S E F.ref07_Least [.lst [.int .i64 a, .int .i64 b, .int .i64 c] 3] [] = some (.int .i64 (minE [a, b, c]), []) := go_rleast (l := [a, b, c]) (by simp)
theorem go_rtag {l : Lbl} (hn : l.name.length ≤ 1000000000) (hm : l.msg.length ≤ 1000000000) (ha : l.who.name.length ≤ 1000000000) (hb : l.who.email.length ≤ 1000000000) : S E F.ref07_tag [.agg l.cells] [] = some (.int .i64 (tagE l), []) := by
  have h2 := go_rword (k := l.kind)
  have h3 := go_rident (i := l.who) (by omega) (by omega)
  have h4 := go_rmessage hm
  have w1 : S E F.ref07_If [.bool (wordF l.kind == []), .int .i64 9] [] = some (.int .i64 (eWord l.kind), []) := go_if
  have z0 := go_rhas (s := l.name) (by omega) (c := 0) (by omega) (by omega)
  have z1 := go_rhas (s := l.name) (by omega) (c := 10) (by omega) (by omega)
  rw [show byt 0 = 0 from rfl] at z0
  rw [show byt 10 = 10 from rfl] at z1
  have w3 : S E F.ref07_If [.bool (nameB l.name || !identOK l.who), .int .i64 3] [] = some (.int .i64 (if (nameB l.name || !identOK l.who) = true then 3 else 0), []) := go_if
  have hT : tagE l = minE [eWord l.kind, msgE l.msg, if (nameB l.name || !identOK l.who) = true then 3 else 0] := tag_three _ _ _ _
  rw [hT]
  generalize hE : (if (nameB l.name || !identOK l.who) = true then (3 : Int) else 0) = ee at *
  have hd := go_rleast3 (a := eWord l.kind) (b := msgE l.msg) (c := ee)
  generalize minE [eWord l.kind, msgE l.msg, ee] = res at *
  generalize eWord l.kind = ew at *
  generalize msgE l.msg = em at *
  have hNB : nameB l.name = (l.name == [] || (decide (100 < (l.name.length : Int)) || (l.name.contains 0 || l.name.contains 10))) := by unfold nameB; rw [any_badN]
  rw [S_of fn_ref07_tag rfl rfl]
  rw [hNB] at w3
  clear hE hT hNB
  cases c0 : (l.name == []) with
  | true =>
    rw [c0] at w3
    simp only [Bool.true_or] at w3
    simp (dsimp := false) (disch := first | omega | (simp only [LENs] <;> omega) | fail) only [L.ref07_tag, go_sem, reduceIte, reduceCtorEq, Nat.reduceEqDiff, Nat.reduceAdd, Nat.reduceSub, Nat.reduceMul, Nat.reduceDiv, Nat.reduceMod, Nat.reduceBEq, Nat.reduceLeDiff, Nat.reduceLT, Int.reduceEq, Int.reduceNe, Int.reduceLT, Int.reduceLE, Int.reduceBEq, Int.reduceBNe, Int.reduceToNat, Int.reduceAdd, Int.reduceSub, Int.reduceMul, Int.reduceNeg, h2, h4, w1, w3, hd, c0]
  | false =>
    by_cases c1 : 100 < (l.name.length : Int)
    · rw [c0, decide_eq_true c1] at w3
      simp only [Bool.true_or, Bool.or_true] at w3
      simp (dsimp := false) (disch := first | omega | (simp only [LENs] <;> omega) | fail) only [L.ref07_tag, go_sem, reduceIte, reduceCtorEq, Nat.reduceEqDiff, Nat.reduceAdd, Nat.reduceSub, Nat.reduceMul, Nat.reduceDiv, Nat.reduceMod, Nat.reduceBEq, Nat.reduceLeDiff, Nat.reduceLT, Int.reduceEq, Int.reduceNe, Int.reduceLT, Int.reduceLE, Int.reduceBEq, Int.reduceBNe, Int.reduceToNat, Int.reduceAdd, Int.reduceSub, Int.reduceMul, Int.reduceNeg, h2, h4, w1, w3, hd, c0, c1]
    · rw [c0, decide_eq_false c1] at w3
      simp only [Bool.false_or] at w3
      cases c2 : l.name.contains 0 with
      | true =>
        rw [c2] at w3 z0
        simp only [Bool.true_or] at w3
        simp (dsimp := false) (disch := first | omega | (simp only [LENs] <;> omega) | fail) only [L.ref07_tag, go_sem, reduceIte, reduceCtorEq, Nat.reduceEqDiff, Nat.reduceAdd, Nat.reduceSub, Nat.reduceMul, Nat.reduceDiv, Nat.reduceMod, Nat.reduceBEq, Nat.reduceLeDiff, Nat.reduceLT, Int.reduceEq, Int.reduceNe, Int.reduceLT, Int.reduceLE, Int.reduceBEq, Int.reduceBNe, Int.reduceToNat, Int.reduceAdd, Int.reduceSub, Int.reduceMul, Int.reduceNeg, h2, h4, w1, w3, hd, c0, c1, z0]
      | false =>
        rw [c2] at w3 z0
        simp only [Bool.false_or] at w3
        cases c3 : l.name.contains 10 with
        | true =>
          rw [c3] at w3 z1
          simp only [Bool.true_or] at w3
          simp (dsimp := false) (disch := first | omega | (simp only [LENs] <;> omega) | fail) only [L.ref07_tag, go_sem, reduceIte, reduceCtorEq, Nat.reduceEqDiff, Nat.reduceAdd, Nat.reduceSub, Nat.reduceMul, Nat.reduceDiv, Nat.reduceMod, Nat.reduceBEq, Nat.reduceLeDiff, Nat.reduceLT, Int.reduceEq, Int.reduceNe, Int.reduceLT, Int.reduceLE, Int.reduceBEq, Int.reduceBNe, Int.reduceToNat, Int.reduceAdd, Int.reduceSub, Int.reduceMul, Int.reduceNeg, h2, h4, w1, w3, hd, c0, c1, z0, z1]
        | false =>
          rw [c3] at w3 z1
          simp only [Bool.false_or] at w3
          simp (dsimp := false) (disch := first | omega | (simp only [LENs] <;> omega) | fail) only [L.ref07_tag, go_sem, reduceIte, reduceCtorEq, Nat.reduceEqDiff, Nat.reduceAdd, Nat.reduceSub, Nat.reduceMul, Nat.reduceDiv, Nat.reduceMod, Nat.reduceBEq, Nat.reduceLeDiff, Nat.reduceLT, Int.reduceEq, Int.reduceNe, Int.reduceLT, Int.reduceLE, Int.reduceBEq, Int.reduceBNe, Int.reduceToNat, Int.reduceAdd, Int.reduceSub, Int.reduceMul, Int.reduceNeg, h2, h3, h4, w1, w3, hd, c0, c1, z0, z1]
def tagO (l : Lbl) : List UInt8 := if tagE l = 0 then tagB l else []
def putA (b : List UInt8) (e : Int) : AV × Store := (.tup [.buf (.r 0) 0 0 b.length 1, .int .i64 e], [(.r 0, ⟨0, true, true, false, ofBytes b⟩)])
def tagV (l : Lbl) : AV × Store := putA (tagO l) (tagE l)
theorem tagV_ok {l : Lbl} (h : tagE l = 0) : tagV l = putA (tagB l) 0 := by unfold tagV tagO; rw [if_pos h, h]
theorem tagV_no {l : Lbl} (h : tagE l ≠ 0) : tagV l = putA [] (tagE l) := by unfold tagV tagO; rw [if_neg h]
theorem putA_nil (e : Int) : putA [] e = (.tup [.buf (.r 0) 0 0 0 1, .int .i64 e], [(.r 0, ⟨0, true, true, false, []⟩)]) := rfl
theorem go_docPutTag {l : Lbl} (hn : l.name.length ≤ 1000000000) (hm : l.msg.length ≤ 1000000000) (ha : l.who.name.length ≤ 1000000000) (hb : l.who.email.length ≤ 1000000000) : S E F.ref07_DocPutTag [.agg l.cells] [] = some (tagV l) := by
  have h1 := go_rtag hn hm ha hb
  rw [S_of fn_ref07_DocPutTag rfl rfl]
  by_cases he : tagE l = 0
  · have hi := (tagE_ok he).2.2.2.2.2
    have h2 := go_rTag hn hm hi
    rw [he] at h1
    rw [tagV_ok he]
    simp (dsimp := false) (disch := first | omega | (simp only [LENs] <;> omega) | fail) only [L.ref07_DocPutTag, go_sem, reduceIte, reduceCtorEq, Nat.reduceEqDiff, Nat.reduceAdd, Nat.reduceSub, Nat.reduceMul, Nat.reduceDiv, Nat.reduceMod, Nat.reduceBEq, Nat.reduceLeDiff, Nat.reduceLT, Int.reduceEq, Int.reduceNe, Int.reduceLT, Int.reduceLE, Int.reduceBEq, Int.reduceBNe, Int.reduceToNat, Int.reduceAdd, Int.reduceSub, Int.reduceMul, Int.reduceNeg, BYs, h1, h2, putA]
  · rw [tagV_no he, putA_nil]
    simp (dsimp := false) (disch := first | omega | (simp only [LENs] <;> omega) | fail) only [L.ref07_DocPutTag, go_sem, reduceIte, reduceCtorEq, Nat.reduceEqDiff, Nat.reduceAdd, Nat.reduceSub, Nat.reduceMul, Nat.reduceDiv, Nat.reduceMod, Nat.reduceBEq, Nat.reduceLeDiff, Nat.reduceLT, Int.reduceEq, Int.reduceNe, Int.reduceLT, Int.reduceLE, Int.reduceBEq, Int.reduceBNe, Int.reduceToNat, Int.reduceAdd, Int.reduceSub, Int.reduceMul, Int.reduceNeg, BYs, h1, he]
end Cod
namespace Cod
open Go
structure EnvP (EE : Env) : Prop where
  ext : Ext E EE
  hex : ∀ {id : List UInt8}, id.length = 32 → S EE F.sha_Hex [.agg (ofBytes id)] [] = some (.str (hexT id), [])
theorem EnvP.S_of {EE : Env} (h : EnvP EE) {f : Nat} {l : LFn} (hf : fnOf f = some l) (hk : knownOf f = none) {args : List AV} {σ : Store} (hn : args.length = l.np) : S EE f args σ = X EE l.results [.c l.code] ⟨params 0 args, σ⟩ := by
  have hfn : EE.fn f = some l := by rw [h.ext.fn]; exact hf
  have hkn : EE.known f = none := (h.ext.none f hk).resolve_right (by rw [show E.fn f = some l from hf]; simp)
  exact S_fn hkn hfn hn
end Cod
namespace Cod
open Go
theorem go_who {i : Idt} : S E F.object_who [.agg i.cells] [] = some (putV i, []) := by
  have h1 := go_putIdent (i := i)
  rw [S_of fn_object_who rfl rfl]
  unfold putV at h1 ⊢
  cases h : identOK i <;> rw [h] at h1 <;> simp (dsimp := false) (disch := first | omega | (simp only [LENs] <;> omega) | fail) only [L.object_who, go_sem, reduceIte, reduceCtorEq, Nat.reduceEqDiff, Nat.reduceAdd, Nat.reduceSub, Nat.reduceMul, Nat.reduceDiv, Nat.reduceMod, Nat.reduceBEq, Nat.reduceLeDiff, Nat.reduceLT, Int.reduceEq, Int.reduceNe, Int.reduceLT, Int.reduceLE, Int.reduceBEq, Int.reduceBNe, Int.reduceToNat, Int.reduceAdd, Int.reduceSub, Int.reduceMul, Int.reduceNeg, h1]
theorem go_least4 {a b c d : Int} : S E F.object_least [.lst [.int .i64 a, .int .i64 b, .int .i64 c, .int .i64 d] 4] [] = some (.int .i64 (minE [a, b, c, d]), []) := go_least (l := [a, b, c, d]) (by simp)
section
variable {EE : Env} (hE : EnvP EE)
include hE
theorem go_putTag {l : Lbl} (hn : l.name.length ≤ 1000000000) (hm : l.msg.length ≤ 1000000000) : S EE F.object_PutTag [.agg l.cells] [] = some (tagV l) := by
  have a1 := S_ext hE.ext (go_who (i := l.who))
  have h2 := S_ext hE.ext (go_word (k := l.kind))
  have h4 := S_ext hE.ext (go_message hm)
  have h5 := hE.hex l.htgt
  have w1 : S EE F.object_when [.bool (wordF l.kind == []), .int .i64 9] [] = some (.int .i64 (eWord l.kind), []) := S_ext hE.ext go_when
  have w3 : S EE F.object_when [.bool (nameB l.name), .int .i64 3] [] = some (.int .i64 (nameE l.name), []) := S_ext hE.ext go_when
  have hw := wordF_len l.kind
  have hx : (hexT l.tgt).length = 64 := by rw [hexT_len, l.htgt]
  have hd := S_ext hE.ext (go_least4 (a := eWord l.kind) (b := msgE l.msg) (c := nameE l.name) (d := idE l.who))
  rw [← tagE_eq] at hd
  have e : tagB l = [111, 98, 106, 101, 99, 116, 32] ++ hexT l.tgt ++ [10, 116, 121, 112, 101, 32] ++ wordF l.kind ++ [10, 116, 97, 103, 32] ++ l.name ++ [10, 116, 97, 103, 103, 101, 114, 32] ++ putI l.who ++ [10, 10] ++ l.msg := by
    unfold tagB objW typW tagW tgrW
    simp only [List.append_assoc, List.cons_append, List.nil_append]
  have hz : l.name.length ≤ 100 → S EE F.strings_ContainsAny [.str l.name, .str [0, 10]] [] = some (.bool (l.name.any badN), []) := fun h => S_ext hE.ext (S_ext ext0 (go_containsAnyN (by omega)))
  have hNB : nameB l.name = (l.name == [] || (decide (100 < (l.name.length : Int)) || l.name.any badN)) := rfl
  have hnz : identOK l.who = false → tagE l ≠ 0 := fun h h0 => by rw [(tagE_ok h0).2.2.2.2.2] at h; cases h
  have hlen : identOK l.who = true → (putI l.who).length ≤ 1000 := fun h => putI_len h
  unfold putV at a1
  unfold idE at hd
  have t1 : tagE l = 0 → tagV l = putA (tagB l) 0 := tagV_ok
  have t2 : tagE l ≠ 0 → tagV l = putA [] (tagE l) := tagV_no
  simp only [putA_nil] at t2
  unfold putA at t1
  rw [e] at t1
  rw [hE.S_of fn_object_PutTag rfl rfl]
  generalize tagV l = tv at *
  generalize tagE l = te at *
  generalize nameE l.name = ne at *
  generalize eWord l.kind = ew at *
  generalize msgE l.msg = em at *
  generalize hexT l.tgt = a at *
  generalize wordF l.kind = b at *
  clear e
  have hnm : (∃ g : Bool, (l.name == []) = true ∧ nameB l.name = true ∧ g = true) ∨ ((l.name == []) = false ∧ 100 < (l.name.length : Int) ∧ nameB l.name = true) ∨ ∃ z, (l.name == []) = false ∧ ¬ 100 < (l.name.length : Int) ∧ S EE F.strings_ContainsAny [.str l.name, .str [0, 10]] [] = some (.bool z, []) ∧ nameB l.name = z := by
    rw [hNB]
    cases c0 : (l.name == []) with
    | true => exact .inl ⟨true, rfl, rfl, rfl⟩
    | false =>
      by_cases c1 : 100 < (l.name.length : Int)
      · exact .inr (.inl ⟨rfl, c1, by rw [decide_eq_true c1]; rfl⟩)
      · exact .inr (.inr ⟨_, rfl, c1, hz (by omega), by rw [decide_eq_false c1]; rfl⟩)
  clear hNB hz
  cases hi : identOK l.who with
  | false =>
    have hte := hnz hi
    rw [hi, if_neg (by simp)] at a1 hd
    rw [t2 hte]
    rcases hnm with ⟨_, c0, c3, _⟩ | ⟨c0, c1, c3⟩ | ⟨z, c0, c1, c2, c3⟩ <;> rw [c3] at w3
    · simp (dsimp := false) (disch := first | omega | (simp only [LENs] <;> omega) | fail) only [L.object_PutTag, go_sem, reduceIte, reduceCtorEq, Nat.reduceEqDiff, Nat.reduceAdd, Nat.reduceSub, Nat.reduceMul, Nat.reduceDiv, Nat.reduceMod, Nat.reduceBEq, Nat.reduceLeDiff, Nat.reduceLT, Int.reduceEq, Int.reduceNe, Int.reduceLT, Int.reduceLE, Int.reduceBEq, Int.reduceBNe, Int.reduceToNat, Int.reduceAdd, Int.reduceSub, Int.reduceMul, Int.reduceNeg, BYs, a1, h2, h4, w1, w3, hd, c0, hte]
    · simp (dsimp := false) (disch := first | omega | (simp only [LENs] <;> omega) | fail) only [L.object_PutTag, go_sem, reduceIte, reduceCtorEq, Nat.reduceEqDiff, Nat.reduceAdd, Nat.reduceSub, Nat.reduceMul, Nat.reduceDiv, Nat.reduceMod, Nat.reduceBEq, Nat.reduceLeDiff, Nat.reduceLT, Int.reduceEq, Int.reduceNe, Int.reduceLT, Int.reduceLE, Int.reduceBEq, Int.reduceBNe, Int.reduceToNat, Int.reduceAdd, Int.reduceSub, Int.reduceMul, Int.reduceNeg, BYs, a1, h2, h4, w1, w3, hd, c0, c1, hte]
    · simp (dsimp := false) (disch := first | omega | (simp only [LENs] <;> omega) | fail) only [L.object_PutTag, go_sem, reduceIte, reduceCtorEq, Nat.reduceEqDiff, Nat.reduceAdd, Nat.reduceSub, Nat.reduceMul, Nat.reduceDiv, Nat.reduceMod, Nat.reduceBEq, Nat.reduceLeDiff, Nat.reduceLT, Int.reduceEq, Int.reduceNe, Int.reduceLT, Int.reduceLE, Int.reduceBEq, Int.reduceBNe, Int.reduceToNat, Int.reduceAdd, Int.reduceSub, Int.reduceMul, Int.reduceNeg, BYs, a1, h2, h4, w1, w3, hd, c0, c1, c2, hte]
  | true =>
    have hl := hlen hi
    rw [hi, if_pos rfl] at a1 hd
    generalize putI l.who = c at *
    by_cases hte : te = 0
    · subst hte
      rw [t1 rfl]
      rcases hnm with ⟨_, c0, c3, _⟩ | ⟨c0, c1, c3⟩ | ⟨z, c0, c1, c2, c3⟩ <;> rw [c3] at w3
      · simp (dsimp := false) (disch := first | omega | (simp only [LENs] <;> omega) | fail) only [L.object_PutTag, go_sem, reduceIte, reduceCtorEq, Nat.reduceEqDiff, Nat.reduceAdd, Nat.reduceSub, Nat.reduceMul, Nat.reduceDiv, Nat.reduceMod, Nat.reduceBEq, Nat.reduceLeDiff, Nat.reduceLT, Int.reduceEq, Int.reduceNe, Int.reduceLT, Int.reduceLE, Int.reduceBEq, Int.reduceBNe, Int.reduceToNat, Int.reduceAdd, Int.reduceSub, Int.reduceMul, Int.reduceNeg, BYs, a1, h2, h4, h5, w1, w3, hd, c0]
      · simp (dsimp := false) (disch := first | omega | (simp only [LENs] <;> omega) | fail) only [L.object_PutTag, go_sem, reduceIte, reduceCtorEq, Nat.reduceEqDiff, Nat.reduceAdd, Nat.reduceSub, Nat.reduceMul, Nat.reduceDiv, Nat.reduceMod, Nat.reduceBEq, Nat.reduceLeDiff, Nat.reduceLT, Int.reduceEq, Int.reduceNe, Int.reduceLT, Int.reduceLE, Int.reduceBEq, Int.reduceBNe, Int.reduceToNat, Int.reduceAdd, Int.reduceSub, Int.reduceMul, Int.reduceNeg, BYs, a1, h2, h4, h5, w1, w3, hd, c0, c1]
      · simp (dsimp := false) (disch := first | omega | (simp only [LENs] <;> omega) | fail) only [L.object_PutTag, go_sem, reduceIte, reduceCtorEq, Nat.reduceEqDiff, Nat.reduceAdd, Nat.reduceSub, Nat.reduceMul, Nat.reduceDiv, Nat.reduceMod, Nat.reduceBEq, Nat.reduceLeDiff, Nat.reduceLT, Int.reduceEq, Int.reduceNe, Int.reduceLT, Int.reduceLE, Int.reduceBEq, Int.reduceBNe, Int.reduceToNat, Int.reduceAdd, Int.reduceSub, Int.reduceMul, Int.reduceNeg, BYs, a1, h2, h4, h5, w1, w3, hd, c0, c1, c2]
    · rw [t2 hte]
      rcases hnm with ⟨_, c0, c3, _⟩ | ⟨c0, c1, c3⟩ | ⟨z, c0, c1, c2, c3⟩ <;> rw [c3] at w3
      · simp (dsimp := false) (disch := first | omega | (simp only [LENs] <;> omega) | fail) only [L.object_PutTag, go_sem, reduceIte, reduceCtorEq, Nat.reduceEqDiff, Nat.reduceAdd, Nat.reduceSub, Nat.reduceMul, Nat.reduceDiv, Nat.reduceMod, Nat.reduceBEq, Nat.reduceLeDiff, Nat.reduceLT, Int.reduceEq, Int.reduceNe, Int.reduceLT, Int.reduceLE, Int.reduceBEq, Int.reduceBNe, Int.reduceToNat, Int.reduceAdd, Int.reduceSub, Int.reduceMul, Int.reduceNeg, BYs, a1, h2, h4, w1, w3, hd, c0, hte]
      · simp (dsimp := false) (disch := first | omega | (simp only [LENs] <;> omega) | fail) only [L.object_PutTag, go_sem, reduceIte, reduceCtorEq, Nat.reduceEqDiff, Nat.reduceAdd, Nat.reduceSub, Nat.reduceMul, Nat.reduceDiv, Nat.reduceMod, Nat.reduceBEq, Nat.reduceLeDiff, Nat.reduceLT, Int.reduceEq, Int.reduceNe, Int.reduceLT, Int.reduceLE, Int.reduceBEq, Int.reduceBNe, Int.reduceToNat, Int.reduceAdd, Int.reduceSub, Int.reduceMul, Int.reduceNeg, BYs, a1, h2, h4, w1, w3, hd, c0, c1, hte]
      · simp (dsimp := false) (disch := first | omega | (simp only [LENs] <;> omega) | fail) only [L.object_PutTag, go_sem, reduceIte, reduceCtorEq, Nat.reduceEqDiff, Nat.reduceAdd, Nat.reduceSub, Nat.reduceMul, Nat.reduceDiv, Nat.reduceMod, Nat.reduceBEq, Nat.reduceLeDiff, Nat.reduceLT, Int.reduceEq, Int.reduceNe, Int.reduceLT, Int.reduceLE, Int.reduceBEq, Int.reduceBNe, Int.reduceToNat, Int.reduceAdd, Int.reduceSub, Int.reduceMul, Int.reduceNeg, BYs, a1, h2, h4, w1, w3, hd, c0, c1, c2, hte]
end
end Cod
namespace Cod
open Go
def zeroL : Lbl := ⟨List.replicate 32 0, 0, [], ⟨[], [], 0, 0⟩, [], by simp⟩
theorem lbl0z : lcat (zer (.int .u8 0) 32) [.int .i64 0, .str [], .str [], .str [], .int .i64 0, .int .i64 0, .str []] = zeroL.cells := rfl
theorem lbl0b : lcat (ofBytes (List.replicate 32 0)) [.int .i64 0, .str [], .str [], .str [], .int .i64 0, .int .i64 0, .str []] = zeroL.cells := rfl
theorem lbl0c : ofBytes (List.replicate 32 0) ++ [.int .i64 0, .str [], .str [], .str [], .int .i64 0, .int .i64 0, .str []] = zeroL.cells := rfl
theorem over_lbl (a b : Lbl) : over a.cells 0 b.cells = b.cells := by
  unfold over; exact overall (by rw [lbl_len, lbl_len])
theorem over_l32 (t : List UInt8) (k : Int) (n : List UInt8) (w : Idt) (m : List UInt8) (h : t.length = 32) (x : Int) : over (Lbl.mk t k n w m h).cells 32 [.int .i64 x] = (Lbl.mk t x n w m h).cells := by
  unfold Lbl.cells; rw [over_front (j := 0) (by rw [ofBytes_length, h])]; rfl
theorem over_l33 (t : List UInt8) (k : Int) (n : List UInt8) (w : Idt) (m : List UInt8) (h : t.length = 32) (x : List UInt8) : over (Lbl.mk t k n w m h).cells 33 [.str x] = (Lbl.mk t k x w m h).cells := by
  unfold Lbl.cells; rw [over_front (j := 1) (by rw [ofBytes_length, h])]; rfl
theorem over_l34 (t : List UInt8) (k : Int) (n : List UInt8) (w : Idt) (m : List UInt8) (h : t.length = 32) (x : Idt) : over (Lbl.mk t k n w m h).cells 34 x.cells = (Lbl.mk t k n x m h).cells := by
  unfold Lbl.cells; rw [over_front (j := 2) (by rw [ofBytes_length, h])]; rfl
theorem over_l38 (t : List UInt8) (k : Int) (n : List UInt8) (w : Idt) (m : List UInt8) (h : t.length = 32) (x : List UInt8) : over (Lbl.mk t k n w m h).cells 38 [.str x] = (Lbl.mk t k n w x h).cells := by
  unfold Lbl.cells; rw [over_front (j := 6) (by rw [ofBytes_length, h])]; rfl
attribute [go_sem] lbl0z lbl0b lbl0c over_lbl over_l32 over_l33 over_l34 over_l38
def kset (s : List UInt8) (k : Int) (i : Int) : Int := if (wordF i == s) = true then i else k
def kindL (s : List UInt8) : Int := kset s (kset s (kset s (kset s 0 1) 2) 3) 4
theorem kindL_word {k : Int} (h : wordF k ≠ []) : kindL (wordF k) = k := by
  rcases kind_of h with rfl | rfl | rfl | rfl <;> decide
section
variable {EE : Env} (hE : EnvP EE)
include hE
theorem pk_step {p s r t n m : List UInt8} {b : Int} {h : t.length = 32} {w : Idt} (k : List It) {c : Int} (i : Int) (hi : i = 0 ∨ i = 1 ∨ i = 2 ∨ i = 3) : X EE [.cell 2 (some 39), .tmp 3] (.c L.object_ParseTag.x0 :: .lp [0, 2, 4, 5, 6, 24, 25, 26] L.object_ParseTag.x0 :: .blk 0 :: k) ⟨[(0, .lst (ofBytes p) p.length), (2, .ref (.s 1000000 0) 0 0), (4, .ref (.s 1000000 1) 0 0), (5, .ref (.s 1000000 2) 0 0), (6, .str s), (24, .buf (.s 1000000 3) 0 0 4 1), (25, .int .i64 4), (26, .int .i64 i)], [(.s 1000000 0, ⟨0, true, true, true, zeroL.cells⟩), (.s 1000000 1, ⟨0, true, true, true, [.str r, .int .i64 b]⟩), (.s 1000000 2, ⟨0, true, true, true, (Lbl.mk t c n w m h).cells⟩), (.s 1000000 3, ⟨0, true, true, false, [.int .i64 1, .int .i64 2, .int .i64 3, .int .i64 4]⟩)]⟩ = X EE [.cell 2 (some 39), .tmp 3] (.c L.object_ParseTag.x0 :: .lp [0, 2, 4, 5, 6, 24, 25, 26] L.object_ParseTag.x0 :: .blk 0 :: k) ⟨[(0, .lst (ofBytes p) p.length), (2, .ref (.s 1000000 0) 0 0), (4, .ref (.s 1000000 1) 0 0), (5, .ref (.s 1000000 2) 0 0), (6, .str s), (24, .buf (.s 1000000 3) 0 0 4 1), (25, .int .i64 4), (26, .int .i64 (i + 1))], [(.s 1000000 0, ⟨0, true, true, true, zeroL.cells⟩), (.s 1000000 1, ⟨0, true, true, true, [.str r, .int .i64 b]⟩), (.s 1000000 2, ⟨0, true, true, true, (Lbl.mk t (kset s c (i + 1)) n w m h).cells⟩), (.s 1000000 3, ⟨0, true, true, false, [.int .i64 1, .int .i64 2, .int .i64 3, .int .i64 4]⟩)]⟩ := by
  have h2 := S_ext hE.ext (go_word (k := i + 1))
  rw [X_in L.object_ParseTag.x0.eq_1]
  unfold kset
  rcases hi with rfl | rfl | rfl | rfl <;> simp only [Int.reduceAdd] at h2 ⊢
  · generalize wordF 1 = z at *
    cases hz : (z == s) <;> simp (dsimp := false) (disch := first | omega | (simp only [LENs] <;> omega) | fail) only [go_sem, reduceIte, reduceCtorEq, Nat.reduceEqDiff, Nat.reduceAdd, Nat.reduceSub, Nat.reduceMul, Nat.reduceDiv, Nat.reduceMod, Nat.reduceBEq, Nat.reduceLeDiff, Nat.reduceLT, Int.reduceEq, Int.reduceNe, Int.reduceLT, Int.reduceLE, Int.reduceBEq, Int.reduceBNe, Int.reduceToNat, Int.reduceAdd, Int.reduceSub, Int.reduceMul, Int.reduceNeg, BYs, h2, hz]
  · generalize wordF 2 = z at *
    cases hz : (z == s) <;> simp (dsimp := false) (disch := first | omega | (simp only [LENs] <;> omega) | fail) only [go_sem, reduceIte, reduceCtorEq, Nat.reduceEqDiff, Nat.reduceAdd, Nat.reduceSub, Nat.reduceMul, Nat.reduceDiv, Nat.reduceMod, Nat.reduceBEq, Nat.reduceLeDiff, Nat.reduceLT, Int.reduceEq, Int.reduceNe, Int.reduceLT, Int.reduceLE, Int.reduceBEq, Int.reduceBNe, Int.reduceToNat, Int.reduceAdd, Int.reduceSub, Int.reduceMul, Int.reduceNeg, BYs, h2, hz]
  · generalize wordF 3 = z at *
    cases hz : (z == s) <;> simp (dsimp := false) (disch := first | omega | (simp only [LENs] <;> omega) | fail) only [go_sem, reduceIte, reduceCtorEq, Nat.reduceEqDiff, Nat.reduceAdd, Nat.reduceSub, Nat.reduceMul, Nat.reduceDiv, Nat.reduceMod, Nat.reduceBEq, Nat.reduceLeDiff, Nat.reduceLT, Int.reduceEq, Int.reduceNe, Int.reduceLT, Int.reduceLE, Int.reduceBEq, Int.reduceBNe, Int.reduceToNat, Int.reduceAdd, Int.reduceSub, Int.reduceMul, Int.reduceNeg, BYs, h2, hz]
  · generalize wordF 4 = z at *
    cases hz : (z == s) <;> simp (dsimp := false) (disch := first | omega | (simp only [LENs] <;> omega) | fail) only [go_sem, reduceIte, reduceCtorEq, Nat.reduceEqDiff, Nat.reduceAdd, Nat.reduceSub, Nat.reduceMul, Nat.reduceDiv, Nat.reduceMod, Nat.reduceBEq, Nat.reduceLeDiff, Nat.reduceLT, Int.reduceEq, Int.reduceNe, Int.reduceLT, Int.reduceLE, Int.reduceBEq, Int.reduceBNe, Int.reduceToNat, Int.reduceAdd, Int.reduceSub, Int.reduceMul, Int.reduceNeg, BYs, h2, hz]
theorem pk_all {p s r t n m : List UInt8} {b : Int} {h : t.length = 32} {w : Idt} (k : List It) : X EE [.cell 2 (some 39), .tmp 3] (.c L.object_ParseTag.x0 :: .lp [0, 2, 4, 5, 6, 24, 25, 26] L.object_ParseTag.x0 :: .blk 0 :: k) ⟨[(0, .lst (ofBytes p) p.length), (2, .ref (.s 1000000 0) 0 0), (4, .ref (.s 1000000 1) 0 0), (5, .ref (.s 1000000 2) 0 0), (6, .str s), (24, .buf (.s 1000000 3) 0 0 4 1), (25, .int .i64 4), (26, .int .i64 0)], [(.s 1000000 0, ⟨0, true, true, true, zeroL.cells⟩), (.s 1000000 1, ⟨0, true, true, true, [.str r, .int .i64 b]⟩), (.s 1000000 2, ⟨0, true, true, true, (Lbl.mk t 0 n w m h).cells⟩), (.s 1000000 3, ⟨0, true, true, false, [.int .i64 1, .int .i64 2, .int .i64 3, .int .i64 4]⟩)]⟩ = X EE [.cell 2 (some 39), .tmp 3] k ⟨[(0, .lst (ofBytes p) p.length), (2, .ref (.s 1000000 0) 0 0), (4, .ref (.s 1000000 1) 0 0), (5, .ref (.s 1000000 2) 0 0), (6, .str s), (24, .buf (.s 1000000 3) 0 0 4 1), (25, .int .i64 4), (26, .int .i64 4), (27, .bool false)], [(.s 1000000 0, ⟨0, true, true, true, zeroL.cells⟩), (.s 1000000 1, ⟨0, true, true, true, [.str r, .int .i64 b]⟩), (.s 1000000 2, ⟨0, true, true, true, (Lbl.mk t (kindL s) n w m h).cells⟩), (.s 1000000 3, ⟨0, true, true, false, [.int .i64 1, .int .i64 2, .int .i64 3, .int .i64 4]⟩)]⟩ := by
  rw [pk_step hE k 0 (by omega), pk_step hE k _ (by omega), pk_step hE k _ (by omega), pk_step hE k _ (by omega)]
  rw [X_in L.object_ParseTag.x0.eq_1]
  simp (dsimp := false) (disch := first | omega | (simp only [LENs] <;> omega) | fail) only [go_sem, reduceIte, reduceCtorEq, Nat.reduceEqDiff, Nat.reduceAdd, Nat.reduceSub, Nat.reduceMul, Nat.reduceDiv, Nat.reduceMod, Nat.reduceBEq, Nat.reduceLeDiff, Nat.reduceLT, Int.reduceEq, Int.reduceNe, Int.reduceLT, Int.reduceLE, Int.reduceBEq, Int.reduceBNe, Int.reduceToNat, Int.reduceAdd, Int.reduceSub, Int.reduceMul, Int.reduceNeg, BYs]
  rfl
end
end Cod
namespace Cod
open Go
theorem ge_equal {a b : List UInt8} {n m : Nat} (hn : n = a.length) (hm : m = b.length) : S E F.bytes_Equal [.lst (ofBytes a) n, .lst (ofBytes b) m] [] = some (.bool (a == b), []) := by
  rw [S_of fn_bytes_Equal rfl rfl]
  simp (dsimp := false) (disch := first | omega | (simp only [LENs] <;> omega) | fail) only [L.bytes_Equal, go_sem, reduceIte, reduceCtorEq, Nat.reduceEqDiff, Nat.reduceAdd, Nat.reduceSub, Nat.reduceMul, Nat.reduceDiv, Nat.reduceMod, Nat.reduceBEq, Nat.reduceLeDiff, Nat.reduceLT, Int.reduceEq, Int.reduceNe, Int.reduceLT, Int.reduceLE, Int.reduceBEq, Int.reduceBNe, Int.reduceToNat, Int.reduceAdd, Int.reduceSub, Int.reduceMul, Int.reduceNeg, BYs]
def lblV (g : Lbl) (ok : Bool) : AV × Store := if ok = true then (.tup [.agg g.cells, .int .i64 0], []) else (.tup [.agg zeroL.cells, .int .i64 4], [])
def longV : AV × Store := (.tup [.agg zeroL.cells, .int .i64 2], [])
def isL (g : Lbl) (p : List UInt8) : Bool := decide (tagE g = 0) && (tagB g == p)
section
variable {EE : Env} (hE : EnvP EE)
include hE
theorem go_parseTag {p : List UInt8} {n : Nat} (hn : n = p.length) (hp : p.length ≤ 1048576) : ∃ (g : Lbl) (bad : Nat), g.name.length ≤ 1048576 ∧ g.msg.length ≤ 1048576 ∧ S EE F.object_ParseTag [.lst (ofBytes p) n] [] = some (lblV g (decide (bad = 0) && isL g p)) ∧ ∀ l, IsTag p l → g = l ∧ bad = 0 := by
  subst hn
  obtain ⟨d, r1, b1, hd, q1, u1, v1, s1, _, y1⟩ := idl_ex (rest := p) (w := objW) (bad := 0) (by omega) (by decide) (by decide) (by omega)
  obtain ⟨t2, r2, b2, p2, q2, u2, v2, s2, _, y2⟩ := take_ex (rest := r1) (w := typW) (bad := b1) (by omega) (by decide) (by decide) (by omega)
  obtain ⟨t3, r3, b3, p3, q3, u3, v3, s3, _, y3⟩ := take_ex (rest := r2) (w := tagW) (bad := b2) (by omega) (by decide) (by decide) (by omega)
  obtain ⟨i4, r4, b4, p4, p4', q4, u4, v4, s4, y4⟩ := who_ex (rest := r3) (w := tgrW) (bad := b3) (by omega) (by decide) (by decide) (by omega)
  obtain ⟨m5, b5, q5, u5, v5, s5, y5⟩ := end_ex (rest := r4) (bad := b4) (by omega) (by omega)
  have s1 := fun x => S_ext hE.ext (s1 x)
  have s2 := fun x => S_ext hE.ext (s2 x)
  have s3 := fun x => S_ext hE.ext (s3 x)
  have s4 := fun x => S_ext hE.ext (s4 x)
  have s5 := fun x => S_ext hE.ext (s5 x)
  refine ⟨⟨d, kindL t2, t3, i4, m5, hd⟩, b5, by show t3.length ≤ _; omega, by show m5.length ≤ _; omega, ?_, fun l hl => ?_⟩
  · have hput := go_putTag hE (l := ⟨d, kindL t2, t3, i4, m5, hd⟩) (by show t3.length ≤ _; omega) (by show m5.length ≤ _; omega)
    have t1 : tagE ⟨d, kindL t2, t3, i4, m5, hd⟩ = 0 → tagV ⟨d, kindL t2, t3, i4, m5, hd⟩ = putA (tagB ⟨d, kindL t2, t3, i4, m5, hd⟩) 0 ∧ (tagB ⟨d, kindL t2, t3, i4, m5, hd⟩).length ≤ 70000 := fun h => ⟨tagV_ok h, tagB_len h⟩
    have t2' : tagE ⟨d, kindL t2, t3, i4, m5, hd⟩ ≠ 0 → tagV ⟨d, kindL t2, t3, i4, m5, hd⟩ = putA [] (tagE ⟨d, kindL t2, t3, i4, m5, hd⟩) := tagV_no
    simp only [putA_nil] at t2'
    unfold putA at t1
    unfold isL lblV
    have o1 : over zeroL.cells 0 (ofBytes d) = (Lbl.mk d 0 [] ⟨[], [], 0, 0⟩ [] hd).cells := by
      unfold Lbl.cells zeroL
      unfold over
      rw [List.take_zero, List.nil_append, Nat.zero_add, ofBytes_length, hd, List.drop_left' (by rw [ofBytes_length]; simp)]
    have hk := fun k => pk_all hE (p := p) (s := t2) (r := r2) (b := (b2 : Int)) (n := []) (m := []) (w := ⟨[], [], 0, 0⟩) (h := hd) k
    generalize tagB ⟨d, kindL t2, t3, i4, m5, hd⟩ = tb at *
    generalize tagE ⟨d, kindL t2, t3, i4, m5, hd⟩ = te at *
    generalize tagV ⟨d, kindL t2, t3, i4, m5, hd⟩ = tv at *
    have c1 : (0 : Int) < (b5 : Int) ∨ b5 = 0 := by omega
    unfold objW at s1
    unfold typW at s2
    unfold tagW at s3
    unfold tgrW at s4
    simp only [Int.cast_ofNat_Int] at s1
    have hbe := fun q : List UInt8 => S_ext hE.ext (ge_equal (a := q) (b := p) (n := q.length) (m := p.length) rfl rfl)
    have hbn := hbe []
    simp only [show ofBytes [] = [] from rfl, List.length_nil] at hbn
    rw [hE.S_of fn_object_ParseTag rfl rfl]
    by_cases hte : te = 0
    · obtain ⟨tg1, t1l⟩ := t1 hte
      subst hte
      rw [tg1] at hput
      have hbt := hbe tb
      rcases c1 with c1 | rfl
      · have hd5 : decide (b5 = 0) = false := by simp; omega
        rw [hd5, Bool.false_and, if_neg (by simp)]
        simp (dsimp := false) (disch := first | omega | (simp only [LENs] <;> omega) | fail) only [L.object_ParseTag, L.object_ParseTag.r0, go_sem, reduceIte, reduceCtorEq, Nat.reduceEqDiff, Nat.reduceAdd, Nat.reduceSub, Nat.reduceMul, Nat.reduceDiv, Nat.reduceMod, Nat.reduceBEq, Nat.reduceLeDiff, Nat.reduceLT, Int.reduceEq, Int.reduceNe, Int.reduceLT, Int.reduceLE, Int.reduceBEq, Int.reduceBNe, Int.reduceToNat, Int.reduceAdd, Int.reduceSub, Int.reduceMul, Int.reduceNeg, BYs, s1, s2, s3, s4, s5, o1, hk, hput, c1, Int.cast_ofNat_Int]
      · simp only [decide_true, Bool.true_and]
        cases hq : (tb == p) with
        | false =>
          rw [hq] at hbt
          rw [if_neg (by simp)]
          simp (dsimp := false) (disch := first | omega | (simp only [LENs] <;> omega) | fail) only [L.object_ParseTag, L.object_ParseTag.r0, go_sem, reduceIte, reduceCtorEq, Nat.reduceEqDiff, Nat.reduceAdd, Nat.reduceSub, Nat.reduceMul, Nat.reduceDiv, Nat.reduceMod, Nat.reduceBEq, Nat.reduceLeDiff, Nat.reduceLT, Int.reduceEq, Int.reduceNe, Int.reduceLT, Int.reduceLE, Int.reduceBEq, Int.reduceBNe, Int.reduceToNat, Int.reduceAdd, Int.reduceSub, Int.reduceMul, Int.reduceNeg, BYs, s1, s2, s3, s4, s5, o1, hk, hput, hbt, Int.cast_ofNat_Int]
        | true =>
          rw [hq] at hbt
          rw [if_pos rfl]
          simp (dsimp := false) (disch := first | omega | (simp only [LENs] <;> omega) | fail) only [L.object_ParseTag, L.object_ParseTag.r0, go_sem, reduceIte, reduceCtorEq, Nat.reduceEqDiff, Nat.reduceAdd, Nat.reduceSub, Nat.reduceMul, Nat.reduceDiv, Nat.reduceMod, Nat.reduceBEq, Nat.reduceLeDiff, Nat.reduceLT, Int.reduceEq, Int.reduceNe, Int.reduceLT, Int.reduceLE, Int.reduceBEq, Int.reduceBNe, Int.reduceToNat, Int.reduceAdd, Int.reduceSub, Int.reduceMul, Int.reduceNeg, BYs, s1, s2, s3, s4, s5, o1, hk, hput, hbt, Int.cast_ofNat_Int]
    · rw [t2' hte] at hput
      have hd5 : decide (te = 0) = false := decide_eq_false hte
      rw [hd5, Bool.false_and, Bool.and_false, if_neg (by simp)]
      rcases c1 with c1 | rfl
      · simp (dsimp := false) (disch := first | omega | (simp only [LENs] <;> omega) | fail) only [L.object_ParseTag, L.object_ParseTag.r0, go_sem, reduceIte, reduceCtorEq, Nat.reduceEqDiff, Nat.reduceAdd, Nat.reduceSub, Nat.reduceMul, Nat.reduceDiv, Nat.reduceMod, Nat.reduceBEq, Nat.reduceLeDiff, Nat.reduceLT, Int.reduceEq, Int.reduceNe, Int.reduceLT, Int.reduceLE, Int.reduceBEq, Int.reduceBNe, Int.reduceToNat, Int.reduceAdd, Int.reduceSub, Int.reduceMul, Int.reduceNeg, BYs, s1, s2, s3, s4, s5, o1, hk, hput, c1, Int.cast_ofNat_Int]
      · simp (dsimp := false) (disch := first | omega | (simp only [LENs] <;> omega) | fail) only [L.object_ParseTag, L.object_ParseTag.r0, go_sem, reduceIte, reduceCtorEq, Nat.reduceEqDiff, Nat.reduceAdd, Nat.reduceSub, Nat.reduceMul, Nat.reduceDiv, Nat.reduceMod, Nat.reduceBEq, Nat.reduceLeDiff, Nat.reduceLT, Int.reduceEq, Int.reduceNe, Int.reduceLT, Int.reduceLE, Int.reduceBEq, Int.reduceBNe, Int.reduceToNat, Int.reduceAdd, Int.reduceSub, Int.reduceMul, Int.reduceNeg, BYs, s1, s2, s3, s4, s5, o1, hk, hput, hte, Int.cast_ofNat_Int]
  · obtain ⟨e1, e2⟩ := hl
    obtain ⟨w1, w2, w3, w4, w5, w6⟩ := tagE_ok e1
    rw [tag_form] at e2
    obtain ⟨a1, a2, a3⟩ := y1 _ _ l.htgt e2.symm
    subst a2
    obtain ⟨c1, c2, c3⟩ := y2 _ _ (word_no10 _) rfl
    subst c2
    obtain ⟨f1, f2, f3⟩ := y3 _ _ w3 rfl
    subst f2
    obtain ⟨g1, g2, g3⟩ := y4 _ _ w6 rfl
    subst g2
    obtain ⟨k1, k2⟩ := y5 _ rfl
    refine ⟨?_, by omega⟩
    cases l
    simp only at *
    subst a1 f1 g1 k1
    rw [c1, kindL_word w1]
theorem go_parseTag_long {p : List UInt8} {n : Nat} (hn : n = p.length) (hp : 1048576 < p.length) (hb : p.length ≤ 1000000000000) : S EE F.object_ParseTag [.lst (ofBytes p) n] [] = some longV := by
  subst hn
  rw [hE.S_of fn_object_ParseTag rfl rfl]
  unfold longV
  simp (dsimp := false) (disch := first | omega | (simp only [LENs] <;> omega) | fail) only [L.object_ParseTag, go_sem, reduceIte, reduceCtorEq, Nat.reduceEqDiff, Nat.reduceAdd, Nat.reduceSub, Nat.reduceMul, Nat.reduceDiv, Nat.reduceMod, Nat.reduceBEq, Nat.reduceLeDiff, Nat.reduceLT, Int.reduceEq, Int.reduceNe, Int.reduceLT, Int.reduceLE, Int.reduceBEq, Int.reduceBNe, Int.reduceToNat, Int.reduceAdd, Int.reduceSub, Int.reduceMul, Int.reduceNeg, BYs]
end
end Cod
namespace Cod
open Go
theorem rk_step {s : List UInt8} (i : Int) (hi : i = 1 ∨ i = 2 ∨ i = 3 ∨ i = 4) : X E [.tmp 2] (.c L.ref07_kind.x0 :: .lp [0, 3] L.ref07_kind.x0 :: .blk 0 :: [.c L.ref07_kind.r0]) ⟨[(0, .str s), (3, .int .i64 i)], []⟩ = if (wordF i == s) = true then some (.int .i64 i, []) else X E [.tmp 2] (.c L.ref07_kind.x0 :: .lp [0, 3] L.ref07_kind.x0 :: .blk 0 :: [.c L.ref07_kind.r0]) ⟨[(0, .str s), (3, .int .i64 (i + 1))], []⟩ := by
  have h2 := go_rword (k := i)
  rw [X_in L.ref07_kind.x0.eq_1]
  rcases hi with rfl | rfl | rfl | rfl <;> simp only [Int.reduceAdd] at h2 ⊢
  · generalize wordF 1 = z at *
    cases hz : (z == s) <;> simp (dsimp := false) (disch := first | omega | (simp only [LENs] <;> omega) | fail) only [go_sem, reduceIte, reduceCtorEq, Nat.reduceEqDiff, Nat.reduceAdd, Nat.reduceSub, Nat.reduceMul, Nat.reduceDiv, Nat.reduceMod, Nat.reduceBEq, Nat.reduceLeDiff, Nat.reduceLT, Int.reduceEq, Int.reduceNe, Int.reduceLT, Int.reduceLE, Int.reduceBEq, Int.reduceBNe, Int.reduceToNat, Int.reduceAdd, Int.reduceSub, Int.reduceMul, Int.reduceNeg, BYs, h2, hz]
  · generalize wordF 2 = z at *
    cases hz : (z == s) <;> simp (dsimp := false) (disch := first | omega | (simp only [LENs] <;> omega) | fail) only [go_sem, reduceIte, reduceCtorEq, Nat.reduceEqDiff, Nat.reduceAdd, Nat.reduceSub, Nat.reduceMul, Nat.reduceDiv, Nat.reduceMod, Nat.reduceBEq, Nat.reduceLeDiff, Nat.reduceLT, Int.reduceEq, Int.reduceNe, Int.reduceLT, Int.reduceLE, Int.reduceBEq, Int.reduceBNe, Int.reduceToNat, Int.reduceAdd, Int.reduceSub, Int.reduceMul, Int.reduceNeg, BYs, h2, hz]
  · generalize wordF 3 = z at *
    cases hz : (z == s) <;> simp (dsimp := false) (disch := first | omega | (simp only [LENs] <;> omega) | fail) only [go_sem, reduceIte, reduceCtorEq, Nat.reduceEqDiff, Nat.reduceAdd, Nat.reduceSub, Nat.reduceMul, Nat.reduceDiv, Nat.reduceMod, Nat.reduceBEq, Nat.reduceLeDiff, Nat.reduceLT, Int.reduceEq, Int.reduceNe, Int.reduceLT, Int.reduceLE, Int.reduceBEq, Int.reduceBNe, Int.reduceToNat, Int.reduceAdd, Int.reduceSub, Int.reduceMul, Int.reduceNeg, BYs, h2, hz]
  · generalize wordF 4 = z at *
    cases hz : (z == s) <;> simp (dsimp := false) (disch := first | omega | (simp only [LENs] <;> omega) | fail) only [go_sem, reduceIte, reduceCtorEq, Nat.reduceEqDiff, Nat.reduceAdd, Nat.reduceSub, Nat.reduceMul, Nat.reduceDiv, Nat.reduceMod, Nat.reduceBEq, Nat.reduceLeDiff, Nat.reduceLT, Int.reduceEq, Int.reduceNe, Int.reduceLT, Int.reduceLE, Int.reduceBEq, Int.reduceBNe, Int.reduceToNat, Int.reduceAdd, Int.reduceSub, Int.reduceMul, Int.reduceNeg, BYs, h2, hz]
theorem go_rkind {s : List UInt8} : S E F.ref07_kind [.str s] [] = some (.int .i64 (kindF s), []) := by
  have key : X E [.tmp 2] (.c L.ref07_kind.x0 :: .lp [0, 3] L.ref07_kind.x0 :: .blk 0 :: [.c L.ref07_kind.r0]) ⟨[(0, .str s), (3, .int .i64 1)], []⟩ = some (.int .i64 (kindF s), []) := by
    unfold kindF
    rw [rk_step 1 (by omega)]
    split
    · rfl
    · rw [rk_step _ (by omega)]
      simp only [Int.reduceAdd]
      split
      · rfl
      · rw [rk_step _ (by omega)]
        simp only [Int.reduceAdd]
        split
        · rfl
        · rw [rk_step _ (by omega)]
          simp only [Int.reduceAdd]
          split
          · rfl
          · rw [X_in L.ref07_kind.x0.eq_1]
            simp (dsimp := false) (disch := first | omega | (simp only [LENs] <;> omega) | fail) only [go_sem, reduceIte, reduceCtorEq, Nat.reduceEqDiff, Nat.reduceAdd, Nat.reduceSub, Nat.reduceMul, Nat.reduceDiv, Nat.reduceMod, Nat.reduceBEq, Nat.reduceLeDiff, Nat.reduceLT, Int.reduceEq, Int.reduceNe, Int.reduceLT, Int.reduceLE, Int.reduceBEq, Int.reduceBNe, Int.reduceToNat, Int.reduceAdd, Int.reduceSub, Int.reduceMul, Int.reduceNeg, L.ref07_kind.r0]
  rw [S_of fn_ref07_kind rfl rfl]
  simp (dsimp := false) (disch := first | omega | (simp only [LENs] <;> omega) | fail) only [L.ref07_kind, go_sem, reduceIte, reduceCtorEq, Nat.reduceEqDiff, Nat.reduceAdd, Nat.reduceSub, Nat.reduceMul, Nat.reduceDiv, Nat.reduceMod, Nat.reduceBEq, Nat.reduceLeDiff, Nat.reduceLT, Int.reduceEq, Int.reduceNe, Int.reduceLT, Int.reduceLE, Int.reduceBEq, Int.reduceBNe, Int.reduceToNat, Int.reduceAdd, Int.reduceSub, Int.reduceMul, Int.reduceNeg, key]
theorem rwho_ex {v : List UInt8} (hv : v.length ≤ 1000000000) : ∃ (i : Idt) (e : Int), i.name.length ≤ 100 ∧ i.email.length ≤ 100 ∧ S E F.ref06_DocParseIdent [.str v] [] = some (.tup [.agg i.cells, .int .i64 e], []) ∧ ∀ j, identOK j = true → v = putI j → i = j := by
  rcases parse_cases v with ⟨i, i1, i2⟩ | hno
  · have k3 := go_docParse_put i1
    rw [i2] at k3
    refine ⟨i, 0, plain_len ((identOK_iff i).1 i1).1, plain_len ((identOK_iff i).1 i1).2.1, k3, fun j g1 g2 => ?_⟩
    have a1 := (doc_put i1).1
    have a2 := (doc_put g1).1
    rw [i2, g2] at a1
    exact a1.symm.trans a2
  · have k3 := go_docParse_no (s := v) (by omega) hno
    exact ⟨⟨[], [], 0, 0⟩, 4, by simp, by simp, k3, fun j g1 g2 => absurd g2.symm (hno j g1)⟩
theorem ge_same {a b : List UInt8} {n m : Nat} (hn : n = a.length) (hm : m = b.length) : S E F.ref01_Same [.lst (ofBytes a) n, .lst (ofBytes b) m] [] = some (.bool (a == b), []) := by
  rw [S_of fn_ref01_Same rfl rfl]
  simp (dsimp := false) (disch := first | omega | (simp only [LENs] <;> omega) | fail) only [L.ref01_Same, go_sem, reduceIte, reduceCtorEq, Nat.reduceEqDiff, Nat.reduceAdd, Nat.reduceSub, Nat.reduceMul, Nat.reduceDiv, Nat.reduceMod, Nat.reduceBEq, Nat.reduceLeDiff, Nat.reduceLT, Int.reduceEq, Int.reduceNe, Int.reduceLT, Int.reduceLE, Int.reduceBEq, Int.reduceBNe, Int.reduceToNat, Int.reduceAdd, Int.reduceSub, Int.reduceMul, Int.reduceNeg, BYs]
theorem over_z32 (x : Int) : over zeroL.cells 32 [.int .i64 x] = (Lbl.mk (List.replicate 32 0) x [] ⟨[], [], 0, 0⟩ [] (by simp)).cells := over_l32 _ _ _ _ _ _ _
theorem over_ltgt (t : List UInt8) (k : Int) (n : List UInt8) (w : Idt) (m : List UInt8) (h : t.length = 32) (d : List UInt8) (hd : d.length = 32) : over (Lbl.mk t k n w m h).cells 0 (ofBytes d) = (Lbl.mk d k n w m hd).cells := by
  unfold Lbl.cells over
  rw [List.take_zero, List.nil_append, Nat.zero_add, ofBytes_length, hd, List.drop_left' (by rw [ofBytes_length, h])]
theorem go_docParseTag {p : List UInt8} {n : Nat} (hn : n = p.length) (hp : p.length ≤ 1048576) : ∃ (g : Lbl) (ok : Bool), S E F.ref07_DocParseTag [.lst (ofBytes p) n] [] = some (lblV g (ok && isL g p)) ∧ ∀ l, IsTag p l → g = l ∧ ok = true := by
  subst hn
  obtain ⟨v1, r1, o1, a1, c1, s1, _, y1⟩ := rline_ex (t := p) (w := objW) (by omega) (by decide)
  obtain ⟨v2, r2, o2, a2, c2, s2, _, y2⟩ := rline_ex (t := r1) (w := typW) (by omega) (by decide)
  obtain ⟨v3, r3, o3, a3, c3, s3, _, y3⟩ := rline_ex (t := r2) (w := tagW) (by omega) (by decide)
  obtain ⟨v4, r4, o4, a4, c4, s4, _, y4⟩ := rline_ex (t := r3) (w := tgrW) (by omega) (by decide)
  have yes : ∀ l, IsTag p l → v1 = hexT l.tgt ∧ v2 = wordF l.kind ∧ v3 = l.name ∧ v4 = putI l.who ∧ r4 = 10 :: l.msg ∧ o1 = true ∧ o2 = true ∧ o3 = true ∧ o4 = true := by
    rintro l ⟨e1, e2⟩
    obtain ⟨w1, w2, w3, w4, w5, w6⟩ := tagE_ok e1
    rw [tag_form] at e2
    obtain ⟨b1, b2, b3⟩ := y1 _ _ e2.symm (hexT_no10 _)
    subst b2
    obtain ⟨d1, d2, d3⟩ := y2 _ _ rfl (word_no10 _)
    subst d2
    obtain ⟨f1, f2, f3⟩ := y3 _ _ rfl w3
    subst f2
    obtain ⟨g1, g2, g3⟩ := y4 _ _ rfl (put_no10 w6)
    exact ⟨b1, d1, f1, g1, g2, b3, d3, f3, g3⟩
  unfold objW at s1
  unfold typW at s2
  unfold tagW at s3
  unfold tgrW at s4
  by_cases hbad : o1 = true ∧ o2 = true ∧ o3 = true ∧ o4 = true ∧ r4 ≠ []
  · obtain ⟨rfl, rfl, rfl, rfl, hne⟩ := hbad
    obtain ⟨d, e1, hd, he1, s5, y5⟩ := go_rdparse (s := v1) (by omega)
    obtain ⟨i, e2, hi1, hi2, s6, y6⟩ := rwho_ex (v := v4) (by omega)
    have s7 := go_rkind (s := v2)
    have hpos : 1 ≤ r4.length := by cases r4 with | nil => exact absurd rfl hne | cons => simp
    have hm : (r4.drop 1).length ≤ p.length := by rw [List.length_drop]; omega
    refine ⟨⟨d, kindF v2, v3, i, r4.drop 1, hd⟩, true, ?_, fun l hl => ?_⟩
    · have b1 := go_rtag (l := ⟨d, kindF v2, v3, i, r4.drop 1, hd⟩) (by show v3.length ≤ _; omega) (by show (r4.drop 1).length ≤ _; omega) (by show i.name.length ≤ _; omega) (by show i.email.length ≤ _; omega)
      have b2 : tagE ⟨d, kindF v2, v3, i, r4.drop 1, hd⟩ = 0 → S E F.ref07_Tag [.agg (Lbl.mk d (kindF v2) v3 i (r4.drop 1) hd).cells] [] = _ ∧ (tagB ⟨d, kindF v2, v3, i, r4.drop 1, hd⟩).length ≤ 70000 := fun h => ⟨go_rTag (by show v3.length ≤ _; omega) (by show (r4.drop 1).length ≤ _; omega) (tagE_ok h).2.2.2.2.2, tagB_len h⟩
      have hne' : (r4 == []) = false := by cases r4 with | nil => exact absurd rfl hne | cons => rfl
      have hsb : sub r4 1 (r4.length - 1) = r4.drop 1 := sub_drop (by omega)
      unfold isL lblV
      simp only [Bool.true_and]
      have ov := fun (t : List UInt8) k n w m h => over_ltgt t k n w m h d hd
      generalize tagB ⟨d, kindF v2, v3, i, r4.drop 1, hd⟩ = tb at *
      generalize tagE ⟨d, kindF v2, v3, i, r4.drop 1, hd⟩ = te at *
      have hbe := ge_same (a := tb) (b := p) (n := tb.length) (m := p.length) rfl rfl
      rw [S_of fn_ref07_DocParseTag rfl rfl]
      by_cases hte : te = 0
      · obtain ⟨b3, b4⟩ := b2 hte
        subst hte
        simp only [decide_true, Bool.true_and]
        cases hq : (tb == p) with
        | false =>
          rw [hq] at hbe
          rw [if_neg (by simp)]
          simp (dsimp := false) (disch := first | omega | (simp only [LENs] <;> omega) | fail) only [L.ref07_DocParseTag, go_sem, reduceIte, reduceCtorEq, Nat.reduceEqDiff, Nat.reduceAdd, Nat.reduceSub, Nat.reduceMul, Nat.reduceDiv, Nat.reduceMod, Nat.reduceBEq, Nat.reduceLeDiff, Nat.reduceLT, Int.reduceEq, Int.reduceNe, Int.reduceLT, Int.reduceLE, Int.reduceBEq, Int.reduceBNe, Int.reduceToNat, Int.reduceAdd, Int.reduceSub, Int.reduceMul, Int.reduceNeg, BYs, s1, s2, s3, s4, s5, s6, s7, hne', hsb, over_z32, ov, b1, b3, hbe]
        | true =>
          rw [hq] at hbe
          rw [if_pos rfl]
          simp (dsimp := false) (disch := first | omega | (simp only [LENs] <;> omega) | fail) only [L.ref07_DocParseTag, go_sem, reduceIte, reduceCtorEq, Nat.reduceEqDiff, Nat.reduceAdd, Nat.reduceSub, Nat.reduceMul, Nat.reduceDiv, Nat.reduceMod, Nat.reduceBEq, Nat.reduceLeDiff, Nat.reduceLT, Int.reduceEq, Int.reduceNe, Int.reduceLT, Int.reduceLE, Int.reduceBEq, Int.reduceBNe, Int.reduceToNat, Int.reduceAdd, Int.reduceSub, Int.reduceMul, Int.reduceNeg, BYs, s1, s2, s3, s4, s5, s6, s7, hne', hsb, over_z32, ov, b1, b3, hbe]
      · have hd5 : decide (te = 0) = false := decide_eq_false hte
        rw [hd5, Bool.false_and, if_neg (by simp)]
        simp (dsimp := false) (disch := first | omega | (simp only [LENs] <;> omega) | fail) only [L.ref07_DocParseTag, go_sem, reduceIte, reduceCtorEq, Nat.reduceEqDiff, Nat.reduceAdd, Nat.reduceSub, Nat.reduceMul, Nat.reduceDiv, Nat.reduceMod, Nat.reduceBEq, Nat.reduceLeDiff, Nat.reduceLT, Int.reduceEq, Int.reduceNe, Int.reduceLT, Int.reduceLE, Int.reduceBEq, Int.reduceBNe, Int.reduceToNat, Int.reduceAdd, Int.reduceSub, Int.reduceMul, Int.reduceNeg, BYs, s1, s2, s3, s4, s5, s6, s7, hne', hsb, over_z32, ov, b1, hte]
    · obtain ⟨g1, g2, g3, g4, g5, _⟩ := yes l hl
      obtain ⟨w1, w2, w3, w4, w5, w6⟩ := tagE_ok hl.1
      refine ⟨?_, rfl⟩
      have z1 := (y5 _ l.htgt g1).1
      have z2 := y6 _ w6 g4
      cases l
      simp only at *
      subst z1 z2 g3
      rw [g2, kindF_word w1, g5]
      rfl
  · refine ⟨zeroL, false, ?_, fun l hl => ?_⟩
    · unfold lblV
      rw [Bool.false_and, if_neg (by simp)]
      rw [S_of fn_ref07_DocParseTag rfl rfl]
      cases o1 with
      | false => simp (dsimp := false) (disch := first | omega | (simp only [LENs] <;> omega) | fail) only [L.ref07_DocParseTag, go_sem, reduceIte, reduceCtorEq, Nat.reduceEqDiff, Nat.reduceAdd, Nat.reduceSub, Nat.reduceMul, Nat.reduceDiv, Nat.reduceMod, Nat.reduceBEq, Nat.reduceLeDiff, Nat.reduceLT, Int.reduceEq, Int.reduceNe, Int.reduceLT, Int.reduceLE, Int.reduceBEq, Int.reduceBNe, Int.reduceToNat, Int.reduceAdd, Int.reduceSub, Int.reduceMul, Int.reduceNeg, BYs, s1, s2, s3, s4, Bool.not_false]
      | true =>
        cases o2 with
        | false => simp (dsimp := false) (disch := first | omega | (simp only [LENs] <;> omega) | fail) only [L.ref07_DocParseTag, go_sem, reduceIte, reduceCtorEq, Nat.reduceEqDiff, Nat.reduceAdd, Nat.reduceSub, Nat.reduceMul, Nat.reduceDiv, Nat.reduceMod, Nat.reduceBEq, Nat.reduceLeDiff, Nat.reduceLT, Int.reduceEq, Int.reduceNe, Int.reduceLT, Int.reduceLE, Int.reduceBEq, Int.reduceBNe, Int.reduceToNat, Int.reduceAdd, Int.reduceSub, Int.reduceMul, Int.reduceNeg, BYs, s1, s2, s3, s4, Bool.not_false, Bool.not_true]
        | true =>
          cases o3 with
          | false => simp (dsimp := false) (disch := first | omega | (simp only [LENs] <;> omega) | fail) only [L.ref07_DocParseTag, go_sem, reduceIte, reduceCtorEq, Nat.reduceEqDiff, Nat.reduceAdd, Nat.reduceSub, Nat.reduceMul, Nat.reduceDiv, Nat.reduceMod, Nat.reduceBEq, Nat.reduceLeDiff, Nat.reduceLT, Int.reduceEq, Int.reduceNe, Int.reduceLT, Int.reduceLE, Int.reduceBEq, Int.reduceBNe, Int.reduceToNat, Int.reduceAdd, Int.reduceSub, Int.reduceMul, Int.reduceNeg, BYs, s1, s2, s3, s4, Bool.not_false, Bool.not_true]
          | true =>
            cases o4 with
            | false => simp (dsimp := false) (disch := first | omega | (simp only [LENs] <;> omega) | fail) only [L.ref07_DocParseTag, go_sem, reduceIte, reduceCtorEq, Nat.reduceEqDiff, Nat.reduceAdd, Nat.reduceSub, Nat.reduceMul, Nat.reduceDiv, Nat.reduceMod, Nat.reduceBEq, Nat.reduceLeDiff, Nat.reduceLT, Int.reduceEq, Int.reduceNe, Int.reduceLT, Int.reduceLE, Int.reduceBEq, Int.reduceBNe, Int.reduceToNat, Int.reduceAdd, Int.reduceSub, Int.reduceMul, Int.reduceNeg, BYs, s1, s2, s3, s4, Bool.not_false, Bool.not_true]
            | true =>
              have hr : (r4 == []) = true := by
                cases r4 with
                | nil => rfl
                | cons a t => exact absurd ⟨rfl, rfl, rfl, rfl, by simp⟩ hbad
              simp (dsimp := false) (disch := first | omega | (simp only [LENs] <;> omega) | fail) only [L.ref07_DocParseTag, go_sem, reduceIte, reduceCtorEq, Nat.reduceEqDiff, Nat.reduceAdd, Nat.reduceSub, Nat.reduceMul, Nat.reduceDiv, Nat.reduceMod, Nat.reduceBEq, Nat.reduceLeDiff, Nat.reduceLT, Int.reduceEq, Int.reduceNe, Int.reduceLT, Int.reduceLE, Int.reduceBEq, Int.reduceBNe, Int.reduceToNat, Int.reduceAdd, Int.reduceSub, Int.reduceMul, Int.reduceNeg, BYs, s1, s2, s3, s4, Bool.not_false, Bool.not_true, hr]
    · obtain ⟨g1, g2, g3, g4, g5, g6, g7, g8, g9⟩ := yes l hl
      exact absurd ⟨g6, g7, g8, g9, by rw [g5]; simp⟩ hbad
theorem go_docParseTag_long {p : List UInt8} {n : Nat} (hn : n = p.length) (hp : 1048576 < p.length) (hb : p.length ≤ 1000000000000) : S E F.ref07_DocParseTag [.lst (ofBytes p) n] [] = some longV := by
  subst hn
  rw [S_of fn_ref07_DocParseTag rfl rfl]
  unfold longV
  simp (dsimp := false) (disch := first | omega | (simp only [LENs] <;> omega) | fail) only [L.ref07_DocParseTag, go_sem, reduceIte, reduceCtorEq, Nat.reduceEqDiff, Nat.reduceAdd, Nat.reduceSub, Nat.reduceMul, Nat.reduceDiv, Nat.reduceMod, Nat.reduceBEq, Nat.reduceLeDiff, Nat.reduceLT, Int.reduceEq, Int.reduceNe, Int.reduceLT, Int.reduceLE, Int.reduceBEq, Int.reduceBNe, Int.reduceToNat, Int.reduceAdd, Int.reduceSub, Int.reduceMul, Int.reduceNeg, BYs]
end Cod
namespace Cod
open Go
def modeOK (m : Int) : Bool := decide (m = 16384) || (decide (m = 33188) || (decide (m = 33261) || decide (m = 40960)))
theorem ge_mode {m : Int} : S E F.names_Mode [.int .i64 m] [] = some (.bool (modeOK m), []) := by
  rw [S_of fn_names_Mode rfl rfl]
  unfold modeOK
  by_cases a : m = 16384
  · simp (dsimp := false) (disch := first | omega | (simp only [LENs, etys_length, ints64_length] <;> omega) | fail) only [L.names_Mode, go_sem, reduceIte, reduceCtorEq, Nat.reduceEqDiff, Nat.reduceAdd, Nat.reduceSub, Nat.reduceMul, Nat.reduceDiv, Nat.reduceMod, Nat.reduceBEq, Nat.reduceLeDiff, Nat.reduceLT, Int.reduceEq, Int.reduceNe, Int.reduceLT, Int.reduceLE, Int.reduceBEq, Int.reduceBNe, Int.reduceToNat, Int.reduceAdd, Int.reduceSub, Int.reduceMul, Int.reduceNeg, a]
  · by_cases b : m = 33188
    · simp (dsimp := false) (disch := first | omega | (simp only [LENs, etys_length, ints64_length] <;> omega) | fail) only [L.names_Mode, go_sem, reduceIte, reduceCtorEq, Nat.reduceEqDiff, Nat.reduceAdd, Nat.reduceSub, Nat.reduceMul, Nat.reduceDiv, Nat.reduceMod, Nat.reduceBEq, Nat.reduceLeDiff, Nat.reduceLT, Int.reduceEq, Int.reduceNe, Int.reduceLT, Int.reduceLE, Int.reduceBEq, Int.reduceBNe, Int.reduceToNat, Int.reduceAdd, Int.reduceSub, Int.reduceMul, Int.reduceNeg, a, b]
    · by_cases c : m = 33261
      · simp (dsimp := false) (disch := first | omega | (simp only [LENs, etys_length, ints64_length] <;> omega) | fail) only [L.names_Mode, go_sem, reduceIte, reduceCtorEq, Nat.reduceEqDiff, Nat.reduceAdd, Nat.reduceSub, Nat.reduceMul, Nat.reduceDiv, Nat.reduceMod, Nat.reduceBEq, Nat.reduceLeDiff, Nat.reduceLT, Int.reduceEq, Int.reduceNe, Int.reduceLT, Int.reduceLE, Int.reduceBEq, Int.reduceBNe, Int.reduceToNat, Int.reduceAdd, Int.reduceSub, Int.reduceMul, Int.reduceNeg, a, b, c]
      · by_cases d : m = 40960
        · simp (dsimp := false) (disch := first | omega | (simp only [LENs, etys_length, ints64_length] <;> omega) | fail) only [L.names_Mode, go_sem, reduceIte, reduceCtorEq, Nat.reduceEqDiff, Nat.reduceAdd, Nat.reduceSub, Nat.reduceMul, Nat.reduceDiv, Nat.reduceMod, Nat.reduceBEq, Nat.reduceLeDiff, Nat.reduceLT, Int.reduceEq, Int.reduceNe, Int.reduceLT, Int.reduceLE, Int.reduceBEq, Int.reduceBNe, Int.reduceToNat, Int.reduceAdd, Int.reduceSub, Int.reduceMul, Int.reduceNeg, a, b, c, d]
        · simp (dsimp := false) (disch := first | omega | (simp only [LENs, etys_length, ints64_length] <;> omega) | fail) only [L.names_Mode, go_sem, reduceIte, reduceCtorEq, Nat.reduceEqDiff, Nat.reduceAdd, Nat.reduceSub, Nat.reduceMul, Nat.reduceDiv, Nat.reduceMod, Nat.reduceBEq, Nat.reduceLeDiff, Nat.reduceLT, Int.reduceEq, Int.reduceNe, Int.reduceLT, Int.reduceLE, Int.reduceBEq, Int.reduceBNe, Int.reduceToNat, Int.reduceAdd, Int.reduceSub, Int.reduceMul, Int.reduceNeg, a, b, c, d]
theorem nameOK_len {s : List UInt8} (h : nameOK s = true) : s.length ≤ 100 := by
  unfold nameOK at h
  simp only [Bool.and_eq_true, decide_eq_true_eq] at h
  exact h.1.1.1.1.1.2
theorem ge_name {s : List UInt8} : S E F.names_Name [.str s] [] = some (.bool (nameOK s), []) := by
  by_cases h : s.length ≤ 1000000
  · exact S_ext ext0 (go_name h)
  · have e : nameOK s = false := by
      cases hn : nameOK s with
      | false => rfl
      | true => have := nameOK_len hn; omega
    rw [e, S_of fn_names_Name rfl rfl]
    have e1 : (s == []) = false := by
      cases s with
      | nil => simp at h
      | cons a t => rfl
    have e2 : (s == [46]) = false := by
      rw [← Bool.not_eq_true, beq_iff_eq]; intro he; rw [he] at h; simp at h
    have e3 : (s == [46, 46]) = false := by
      rw [← Bool.not_eq_true, beq_iff_eq]; intro he; rw [he] at h; simp at h
    simp (dsimp := false) (disch := first | omega | (simp only [LENs, etys_length, ints64_length] <;> omega) | fail) only [L.names_Name, go_sem, reduceIte, reduceCtorEq, Nat.reduceEqDiff, Nat.reduceAdd, Nat.reduceSub, Nat.reduceMul, Nat.reduceDiv, Nat.reduceMod, Nat.reduceBEq, Nat.reduceLeDiff, Nat.reduceLT, Int.reduceEq, Int.reduceNe, Int.reduceLT, Int.reduceLE, Int.reduceBEq, Int.reduceBNe, Int.reduceToNat, Int.reduceAdd, Int.reduceSub, Int.reduceMul, Int.reduceNeg, e1, e2, e3]
theorem strs_set {ks : List (List UInt8)} {n : List UInt8} (h : n ∈ ks) : (strs ks).set (ks.idxOf n) (.str n) = strs ks := by
  apply List.ext_getElem?
  intro j
  rw [List.getElem?_set]
  split
  · rename_i hj
    subst hj
    have hi := List.idxOf_lt_length_of_mem h
    rw [if_pos (by simpa [strs] using hi)]
    unfold strs
    rw [List.getElem?_map, List.getElem?_eq_getElem hi]
    simp [List.getElem_idxOf]
  · rfl
theorem ints_set (vs : List Int) (j : Nat) (v : Int) : (ints64 vs).set j (.int .i64 v) = ints64 (vs.set j v) := by simp [ints64, List.map_set]
theorem ints_snoc (vs : List Int) (v : Int) : ints64 vs ++ [.int .i64 v] = ints64 (vs ++ [v]) := by simp [ints64]
theorem ints_at {vs : List Int} {j : Nat} {v : Int} (h : vs[j]? = some v) : (ints64 vs)[j]? = some (.int .i64 v) := by simp [ints64, h]
def eName (e : Ety) : Int := if !nameOK e.name then 3 else 0
def eMode (e : Ety) : Int := if !modeOK e.mode then 4 else 0
def eOrd (l : List Ety) (i : Nat) : Int := if decide (0 < i) && decide (0 ≤ cmpB (keyE (eat l (i - 1))) (keyE (eat l i))) then 4 else 0
def eDup (l : List Ety) (i : Nat) : Int := if decide ((eat l i).name ∈ (l.take i).map (·.name)) then 8 else 0
def entI (l : List Ety) : Nat → Nat → Int → Nat → Int × Nat
  | 0, _, w, z => (w, z)
  | m + 1, i, w, z => entI l m (i + 1) (minE [w, eName (eat l i), eMode (eat l i), eOrd l i, eDup l i]) (z + ((octT (eat l i).mode).length + (eat l i).name.length + 34))
theorem ent_l0 {l : List Ety} (hl : l.length ≤ 4096) (hn : ∀ i, (eat l i).name.length ≤ 1000000000) (hm : ∀ i, -9223372036854775808 ≤ (eat l i).mode ∧ (eat l i).mode ≤ 9223372036854775807) : ∀ (m i z : Nat) (w : Int) (ks : List (List UInt8)) (vs : List Int), i + m = l.length → z ≤ i * 2000000000 → MapOK ((l.take i).map (·.name)) ks vs →
    ∃ ks' vs', X E [.tmp 2] (.c L.object_entries.x0 :: .lp [0, 3, 4, 5, 12, 13, 14] L.object_entries.x0 :: .blk 0 :: [.c L.object_entries.r0]) ⟨[(0, .lst (etys l) l.length), (3, .int .i64 w), (4, .int .i64 z), (5, .mpr (.s 1000000 0) 0), (12, .lst (etys l) l.length), (13, .int .i64 l.length), (14, .int .i64 i)], [(.s 1000000 0, ⟨0, true, true, true, [.mp (strs ks) (ints64 vs)]⟩)]⟩ =
    X E [.tmp 2] [.c L.object_entries.r0] ⟨[(0, .lst (etys l) l.length), (3, .int .i64 (entI l m i w z).1), (4, .int .i64 (entI l m i w z).2), (5, .mpr (.s 1000000 0) 0), (12, .lst (etys l) l.length), (13, .int .i64 l.length), (14, .int .i64 l.length), (15, .bool false)], [(.s 1000000 0, ⟨0, true, true, true, [.mp (strs ks') (ints64 vs')]⟩)]⟩ := by
  intro m
  induction m with
  | zero =>
    intro i z w ks vs h hz hM
    obtain rfl : i = l.length := by omega
    refine ⟨ks, vs, ?_⟩
    rw [X_in L.object_entries.x0.eq_1, entI]
    simp (dsimp := false) (disch := first | omega | (simp only [LENs, etys_length, ints64_length] <;> omega) | fail) only [go_sem, reduceIte, reduceCtorEq, Nat.reduceEqDiff, Nat.reduceAdd, Nat.reduceSub, Nat.reduceMul, Nat.reduceDiv, Nat.reduceMod, Nat.reduceBEq, Nat.reduceLeDiff, Nat.reduceLT, Int.reduceEq, Int.reduceNe, Int.reduceLT, Int.reduceLE, Int.reduceBEq, Int.reduceBNe, Int.reduceToNat, Int.reduceAdd, Int.reduceSub, Int.reduceMul, Int.reduceNeg, strs_length, flats_strs, hards_strs, leadss_strs, refsOfs_strs, rens_strs, strs_snoc, get_strs]
  | succ m ih =>
    intro i z w ks vs h hz hM
    have hlt : i < l.length := by omega
    have hf := go_format8 (hm i).1 (hm i).2
    have hol := octT_len (eat l i).mode
    have hnl := hn i
    have hnm := ge_name (s := (eat l i).name)
    have hmd := ge_mode (m := (eat l i).mode)
    have w1 : S E F.object_when [.bool (!nameOK (eat l i).name), .int .i64 3] [] = some (.int .i64 (eName (eat l i)), []) := go_when
    have w2 : S E F.object_when [.bool (!modeOK (eat l i).mode), .int .i64 4] [] = some (.int .i64 (eMode (eat l i)), []) := go_when
    have wl := go_least (l := [w, eName (eat l i), eMode (eat l i), eOrd l i, eDup l i]) (by simp)
    simp only [ints64, List.map_cons, List.map_nil, List.length_cons, List.length_nil] at wl
    have htake : (l.take (i + 1)).map (·.name) = (l.take i).map (·.name) ++ [(eat l i).name] := by
      rw [List.take_succ_eq_append_getElem hlt, List.map_append]
      simp [eat, List.getD, hlt]
    have hseen : ((l.take i).map (·.name)).length ≤ 4096 := by rw [List.length_map, List.length_take]; omega
    rw [X_in L.object_entries.x0.eq_1, entI]
    by_cases hin : (eat l i).name ∈ ks
    · obtain ⟨v, hv, v1, v2, hM2⟩ := hM.old hin
      rw [← htake] at hM2
      have hv2 := ints_at hv
      have hw : IntKind.i64.wrap (v + 1) = v + 1 := wrap_i64 (by omega) (by omega)
      have hv3 : (ints64 (vs.set (ks.idxOf (eat l i).name) (v + 1)))[ks.idxOf (eat l i).name]? = some (.int .i64 (v + 1)) := ints_at (by
        rw [List.getElem?_set, if_pos rfl, if_pos (List.getElem?_eq_some_iff.1 hv).1])
      have hfk : findK true (.str (eat l i).name) (strs ks) 0 = some (some (ks.idxOf (eat l i).name)) := by rw [findK_strs, if_pos hin, Nat.zero_add]
      have w4 : S E F.object_when [.bool true, .int .i64 8] [] = some (.int .i64 (eDup l i), []) := by
        have e : eDup l i = 8 := by unfold eDup; rw [decide_eq_true ((hM.mem _).1 hin)]; rfl
        rw [e]; exact go_when (b := true)
      obtain ⟨ks', vs', ih2⟩ := ih (i + 1) (z + ((octT (eat l i).mode).length + (eat l i).name.length + 34)) (minE [w, eName (eat l i), eMode (eat l i), eOrd l i, eDup l i]) ks _ (by omega) (by omega) hM2
      simp only [Int.natCast_add, Int.cast_ofNat_Int] at ih2
      refine ⟨ks', vs', ?_⟩
      by_cases hi0 : 0 < i
      · have o1 := go_nOrder (a := eat l (i - 1)) (b := eat l i) (by have := hn (i - 1); omega) (by omega)
        have w3 : S E F.object_when [.bool (decide (0 ≤ cmpB (keyE (eat l (i - 1))) (keyE (eat l i)))), .int .i64 4] [] = some (.int .i64 (eOrd l i), []) := by
          have e : eOrd l i = if decide (0 ≤ cmpB (keyE (eat l (i - 1))) (keyE (eat l i))) = true then 4 else 0 := by unfold eOrd; rw [decide_eq_true hi0, Bool.true_and]
          rw [e]; exact go_when
        have e1 : (if (i : Int) - 1 < 0 then (0 : Int) else (i : Int) - 1) = ((i - 1 : Nat) : Int) := by rw [if_neg (by omega)]; omega
        simp (dsimp := false) (disch := first | omega | (simp only [LENs, etys_length, ints64_length] <;> omega) | fail) only [go_sem, reduceIte, reduceCtorEq, Nat.reduceEqDiff, Nat.reduceAdd, Nat.reduceSub, Nat.reduceMul, Nat.reduceDiv, Nat.reduceMod, Nat.reduceBEq, Nat.reduceLeDiff, Nat.reduceLT, Int.reduceEq, Int.reduceNe, Int.reduceLT, Int.reduceLE, Int.reduceBEq, Int.reduceBNe, Int.reduceToNat, Int.reduceAdd, Int.reduceSub, Int.reduceMul, Int.reduceNeg, strs_length, flats_strs, hards_strs, leadss_strs, refsOfs_strs, rens_strs, strs_snoc, get_strs, hf, hnm, hmd, hv2, hv3, hw, hfk, strs_set hin, ints_set, w1, w2, w3, w4, hi0, o1, wl, e1, toNat_cast, ih2]
      · have w3 : S E F.object_when [.bool false, .int .i64 4] [] = some (.int .i64 (eOrd l i), []) := by
          have e : eOrd l i = 0 := by unfold eOrd; rw [decide_eq_false hi0]; rfl
          rw [e]; exact go_when (b := false)
        simp (dsimp := false) (disch := first | omega | (simp only [LENs, etys_length, ints64_length] <;> omega) | fail) only [go_sem, reduceIte, reduceCtorEq, Nat.reduceEqDiff, Nat.reduceAdd, Nat.reduceSub, Nat.reduceMul, Nat.reduceDiv, Nat.reduceMod, Nat.reduceBEq, Nat.reduceLeDiff, Nat.reduceLT, Int.reduceEq, Int.reduceNe, Int.reduceLT, Int.reduceLE, Int.reduceBEq, Int.reduceBNe, Int.reduceToNat, Int.reduceAdd, Int.reduceSub, Int.reduceMul, Int.reduceNeg, strs_length, flats_strs, hards_strs, leadss_strs, refsOfs_strs, rens_strs, strs_snoc, get_strs, hf, hnm, hmd, hv2, hv3, hw, hfk, strs_set hin, ints_set, w1, w2, w3, w4, hi0, wl, ih2]
    · have hM2 := hM.new hin
      rw [← htake] at hM2
      have hfk : findK true (.str (eat l i).name) (strs ks) 0 = some none := by rw [findK_strs, if_neg hin]
      have hfk2 : findK true (.str (eat l i).name) (strs (ks ++ [(eat l i).name])) 0 = some (some ks.length) := by
        rw [findK_strs, if_pos (by simp), List.idxOf_append, if_neg hin]
        simp
      have hv3 : (ints64 (vs ++ [1]))[ks.length]? = some (.int .i64 1) := ints_at (by rw [← hM.len, List.getElem?_append_right (Nat.le_refl _), Nat.sub_self]; rfl)
      have w4 : S E F.object_when [.bool false, .int .i64 8] [] = some (.int .i64 (eDup l i), []) := by
        have e : eDup l i = 0 := by unfold eDup; rw [decide_eq_false (fun x => hin ((hM.mem _).2 x))]; rfl
        rw [e]; exact go_when (b := false)
      obtain ⟨ks', vs', ih2⟩ := ih (i + 1) (z + ((octT (eat l i).mode).length + (eat l i).name.length + 34)) (minE [w, eName (eat l i), eMode (eat l i), eOrd l i, eDup l i]) _ _ (by omega) (by omega) hM2
      simp only [Int.natCast_add, Int.cast_ofNat_Int] at ih2
      refine ⟨ks', vs', ?_⟩
      by_cases hi0 : 0 < i
      · have o1 := go_nOrder (a := eat l (i - 1)) (b := eat l i) (by have := hn (i - 1); omega) (by omega)
        have w3 : S E F.object_when [.bool (decide (0 ≤ cmpB (keyE (eat l (i - 1))) (keyE (eat l i)))), .int .i64 4] [] = some (.int .i64 (eOrd l i), []) := by
          have e : eOrd l i = if decide (0 ≤ cmpB (keyE (eat l (i - 1))) (keyE (eat l i))) = true then 4 else 0 := by unfold eOrd; rw [decide_eq_true hi0, Bool.true_and]
          rw [e]; exact go_when
        have e1 : (if (i : Int) - 1 < 0 then (0 : Int) else (i : Int) - 1) = ((i - 1 : Nat) : Int) := by rw [if_neg (by omega)]; omega
        simp (dsimp := false) (disch := first | omega | (simp only [LENs, etys_length, ints64_length] <;> omega) | fail) only [go_sem, reduceIte, reduceCtorEq, Nat.reduceEqDiff, Nat.reduceAdd, Nat.reduceSub, Nat.reduceMul, Nat.reduceDiv, Nat.reduceMod, Nat.reduceBEq, Nat.reduceLeDiff, Nat.reduceLT, Int.reduceEq, Int.reduceNe, Int.reduceLT, Int.reduceLE, Int.reduceBEq, Int.reduceBNe, Int.reduceToNat, Int.reduceAdd, Int.reduceSub, Int.reduceMul, Int.reduceNeg, strs_length, flats_strs, hards_strs, leadss_strs, refsOfs_strs, rens_strs, strs_snoc, get_strs, hf, hnm, hmd, hv3, hfk, hfk2, ints_snoc, w1, w2, w3, w4, hi0, o1, wl, e1, toNat_cast, ih2]
      · have w3 : S E F.object_when [.bool false, .int .i64 4] [] = some (.int .i64 (eOrd l i), []) := by
          have e : eOrd l i = 0 := by unfold eOrd; rw [decide_eq_false hi0]; rfl
          rw [e]; exact go_when (b := false)
        simp (dsimp := false) (disch := first | omega | (simp only [LENs, etys_length, ints64_length] <;> omega) | fail) only [go_sem, reduceIte, reduceCtorEq, Nat.reduceEqDiff, Nat.reduceAdd, Nat.reduceSub, Nat.reduceMul, Nat.reduceDiv, Nat.reduceMod, Nat.reduceBEq, Nat.reduceLeDiff, Nat.reduceLT, Int.reduceEq, Int.reduceNe, Int.reduceLT, Int.reduceLE, Int.reduceBEq, Int.reduceBNe, Int.reduceToNat, Int.reduceAdd, Int.reduceSub, Int.reduceMul, Int.reduceNeg, strs_length, flats_strs, hards_strs, leadss_strs, refsOfs_strs, rens_strs, strs_snoc, get_strs, hf, hnm, hmd, hv3, hfk, hfk2, ints_snoc, w1, w2, w3, w4, hi0, wl, ih2]
def entE (l : List Ety) : Int := if 4096 < l.length then 2 else minE [(entI l l.length 0 0 0).1, if decide (1048576 < (entI l l.length 0 0 0).2) then 2 else 0]
theorem entI_z (l : List Ety) (hn : ∀ i, (eat l i).name.length ≤ 1000000000) : ∀ (m i z : Nat) (w : Int), z ≤ i * 2000000000 → (entI l m i w z).2 ≤ (i + m) * 2000000000 := by
  intro m
  induction m with
  | zero => intro i z w h; exact h
  | succ m ih =>
    intro i z w h
    rw [entI]
    have := ih (i + 1) (z + ((octT (eat l i).mode).length + (eat l i).name.length + 34)) (minE [w, eName (eat l i), eMode (eat l i), eOrd l i, eDup l i]) (by have := hn i; have := octT_len (eat l i).mode; omega)
    rw [show i + (m + 1) = i + 1 + m by omega]
    exact this
theorem go_entries {l : List Ety} (hn : ∀ i, (eat l i).name.length ≤ 1000000000) (hm : ∀ i, -9223372036854775808 ≤ (eat l i).mode ∧ (eat l i).mode ≤ 9223372036854775807) (hl : l.length ≤ 1000000000) : S E F.object_entries [.lst (etys l) l.length] [] = some (.int .i64 (entE l), []) := by
  rw [S_of fn_object_entries rfl rfl]
  unfold entE
  by_cases hlen : 4096 < l.length
  · rw [if_pos hlen]
    simp (dsimp := false) (disch := first | omega | (simp only [LENs, etys_length, ints64_length] <;> omega) | fail) only [L.object_entries, go_sem, reduceIte, reduceCtorEq, Nat.reduceEqDiff, Nat.reduceAdd, Nat.reduceSub, Nat.reduceMul, Nat.reduceDiv, Nat.reduceMod, Nat.reduceBEq, Nat.reduceLeDiff, Nat.reduceLT, Int.reduceEq, Int.reduceNe, Int.reduceLT, Int.reduceLE, Int.reduceBEq, Int.reduceBNe, Int.reduceToNat, Int.reduceAdd, Int.reduceSub, Int.reduceMul, Int.reduceNeg, hlen]
  · rw [if_neg hlen]
    obtain ⟨ks, vs, h⟩ := ent_l0 (l := l) (by omega) hn hm l.length 0 0 0 [] [] (by omega) (by omega) (by simpa using MapOK.nil)
    have hz := entI_z l hn l.length 0 0 0 (by omega)
    simp only [Int.cast_ofNat_Int, show strs [] = [] from rfl, show ints64 [] = [] from rfl] at h
    simp (dsimp := false) (disch := first | omega | (simp only [LENs, etys_length, ints64_length] <;> omega) | fail) only [L.object_entries, go_sem, reduceIte, reduceCtorEq, Nat.reduceEqDiff, Nat.reduceAdd, Nat.reduceSub, Nat.reduceMul, Nat.reduceDiv, Nat.reduceMod, Nat.reduceBEq, Nat.reduceLeDiff, Nat.reduceLT, Int.reduceEq, Int.reduceNe, Int.reduceLT, Int.reduceLE, Int.reduceBEq, Int.reduceBNe, Int.reduceToNat, Int.reduceAdd, Int.reduceSub, Int.reduceMul, Int.reduceNeg, hlen]
    rw [h]
    generalize (entI l l.length 0 0 0).1 = w at *
    generalize (entI l l.length 0 0 0).2 = z at *
    have w1 : S E F.object_when [.bool (decide (1048576 < (z : Int))), .int .i64 2] [] = some (.int .i64 (if decide (1048576 < z) then 2 else 0), []) := by
      rw [show decide (1048576 < (z : Int)) = decide (1048576 < z) from decide_eq_decide.2 (by omega)]; exact go_when
    have wl := go_least (l := [w, if decide (1048576 < z) then 2 else 0]) (by simp)
    simp only [ints64, List.map_cons, List.map_nil, List.length_cons, List.length_nil] at wl
    simp (dsimp := false) (disch := first | omega | (simp only [LENs, etys_length, ints64_length] <;> omega) | fail) only [L.object_entries.r0, go_sem, reduceIte, reduceCtorEq, Nat.reduceEqDiff, Nat.reduceAdd, Nat.reduceSub, Nat.reduceMul, Nat.reduceDiv, Nat.reduceMod, Nat.reduceBEq, Nat.reduceLeDiff, Nat.reduceLT, Int.reduceEq, Int.reduceNe, Int.reduceLT, Int.reduceLE, Int.reduceBEq, Int.reduceBNe, Int.reduceToNat, Int.reduceAdd, Int.reduceSub, Int.reduceMul, Int.reduceNeg, w1, wl]
end Cod
namespace Cod
open Go Go.RowKit Go.Proofs Go.Shelf
set_option maxRecDepth 1000000
def entB (e : Ety) : List UInt8 := octT e.mode ++ [32] ++ e.name ++ [0] ++ e.id
def treeB (l : List Ety) : List UInt8 := l.flatMap entB
def TreeOK (l : List Ety) : Prop := (∀ i, (eat l i).name.length ≤ 1000000000) ∧ (∀ i, -9223372036854775808 ≤ (eat l i).mode ∧ (eat l i).mode ≤ 9223372036854775807) ∧ l.length ≤ 1000000000
theorem ent_calls {l : List Ety} (hl : TreeOK l) {a : Option Addr} {cap : Nat} {w : World} (hW : Start w) (hv : VR (ctx [] LaE w) (.lst (etys l) l.length) (.slice a l.length cap)) :
    Calls Tryz.prog 41 #[.slice a l.length cap] w fun e w' => e = .returned (.int .i64 (entE l)) ∧ Below w.heap.size w w' :=
  e_calls Tryz.func41 (by rfl) (by kernel_rfl) (go_entries hl.1 hl.2.1 hl.2.2) hW (vs := [.slice a l.length cap]) (by simp only [VRL]; exact ⟨_, _, rfl, hv, rfl⟩) (fun c z hz => by simpa [VR] using hz)
theorem fmt_calls {m : Int} (h0 : -9223372036854775808 ≤ m) (h1 : m ≤ 9223372036854775807) {w : World} (hW : Start w) :
    Calls Tryz.prog 43 #[.int .i64 m, .int .i64 8] w fun e w' => e = .returned (.string ⟨(octT m).toArray⟩) ∧ Below w.heap.size w w' :=
  e_calls Tryz.func43 (by rfl) (by kernel_rfl) (go_format8 h0 h1) hW (vs := [.int .i64 m, .int .i64 8]) (by simp [VRL, VR]) (fun c z hz => by simpa [VR] using hz)
def valsE (e : Ety) : List Value := .int .i64 e.mode :: .string ⟨e.name.toArray⟩ :: Lib.byteCells e.id
theorem valsE_len (e : Ety) : (valsE e).length = 34 := by simp [valsE, Lib.byteCells_length, e.hid]
theorem vals_one (e : Ety) : (valsE e).toArray.all (·.oneCell') = true := by
  rw [Array.all_eq_true_iff_forall_mem]
  intro v hv
  simp only [List.mem_toArray, valsE, List.mem_cons] at hv
  rcases hv with rfl | rfl | hv
  · rfl
  · rfl
  · unfold Lib.byteCells at hv
    obtain ⟨b, _, rfl⟩ := List.mem_map.1 hv
    rfl
theorem vrl_bytes {c : Ctx} : ∀ {l : List UInt8} {vs : List Value}, VRL c (ofBytes l) vs → vs = Lib.byteCells l := by
  intro l
  induction l with
  | nil => intro vs h; simp only [ofBytes, List.map_nil, VRL] at h; rw [h]; rfl
  | cons a l ih =>
    intro vs h
    simp only [ofBytes, List.map_cons, VRL] at h
    obtain ⟨v, r, rfl, h1, h2⟩ := h
    rw [ih h2]
    simp only [VR] at h1
    rw [h1]; rfl
theorem ety_range {c : Ctx} {b o : Nat} {e : Ety} (h : VRC c b o e.cells) : c.w.rangeAt b o (valsE e) := by
  obtain ⟨vs, h1, h2⟩ := VRC_list h
  unfold Ety.cells at h1
  simp only [VRL, VR] at h1
  obtain ⟨v0, r0, rfl, rfl, v1, r1, rfl, rfl, h3⟩ := h1
  rw [vrl_bytes h3] at h2
  exact h2
theorem below_sets {B b : Nat} (hb : B ≤ b) : ∀ (vs : List Value) (o : Nat) {W w : World}, Below B W w → Below B W (w.setCells b o vs) := by
  intro vs
  induction vs with
  | nil => intro o W w h; exact h
  | cons v r ih => intro o W w h; exact ih (o + 1) (h.setCell (p := ⟨b, o, none⟩) hb v)
theorem size_sets (b : Nat) : ∀ (vs : List Value) (o : Nat) (w : World), (w.setCells b o vs).heap.size = w.heap.size := by
  intro vs
  induction vs with
  | nil => intro o w; rfl
  | cons v r ih => intro o w; show ((w.setCell _ v).setCells b (o + 1) r).heap.size = _; rw [ih]; simp [World.setCell]
theorem row_sets {b : Nat} {T : TypeId} : ∀ (vs : List Value) (o : Nat) (w : World), (∃ cs fr, w.heap[b]? = some (.cells cs T fr)) → ∃ cs fr, (w.setCells b o vs).heap[b]? = some (.cells cs T fr) := by
  intro vs
  induction vs with
  | nil => intro o w h; exact h
  | cons v r ih =>
    intro o w h
    refine ih (o + 1) _ ?_
    obtain ⟨cs, fr, h⟩ := h
    refine ⟨cs.setIfInBounds o v, fr, ?_⟩
    simp only [World.setCell, Array.getElem?_modify, if_true, h]
    rfl
theorem owns_mono {w : World} {B B' : Nat} {e sz n : Nat} {v : Value} {xs : List Value} (h : w.ownsRow B e sz v n xs) (hB : B' ≤ B) : w.ownsRow B' e sz v n xs := by
  obtain ⟨h1, h2⟩ := h
  refine ⟨h1, ?_⟩
  rcases h2 with h2 | ⟨g, cap, cur, q1, q2, q3⟩
  · exact .inl h2
  · exact .inr ⟨g, cap, cur, q1, Nat.le_trans hB q2, q3⟩
structure VarAt (wr W3 : World) (T : TypeId) (vals : List Value) : Prop where
  below : Below wr.heap.size wr W3
  size : W3.heap.size = wr.heap.size + 1
  cell : ∀ j v, vals[j]? = some v → W3.cell? ⟨wr.heap.size, j, none⟩ = some v
  row : ∃ cs fr, W3.heap[wr.heap.size]? = some (.cells cs T fr)
theorem varAt_new (wr : World) (z : Array Value) (T : TypeId) (vals : List Value) (hz : z.size = vals.length) : VarAt wr ((wr.alloc (.cells z T)).setCells wr.heap.size 0 vals) T vals := by
  have hc : ∀ j, j < vals.length → ((wr.alloc (.cells z T)).cell? ⟨wr.heap.size, 0 + j, none⟩).isSome = true := by
    intro j hj
    simp only [World.cell?, heap_alloc_new]
    rw [if_neg (by simp), Nat.zero_add, Array.getElem?_eq_getElem (by omega)]
    rfl
  refine ⟨below_sets (Nat.le_refl _) _ _ ((Below.refl _ wr).alloc (Nat.le_refl _) _), ?_, ?_, row_sets _ _ _ ⟨_, _, heap_alloc_new wr _⟩⟩
  · rw [size_sets]; exact Array.size_push _
  · intro j v hv
    have hj := (List.getElem?_eq_some_iff.1 hv).1
    have := World.cell?_setCells_in wr.heap.size vals 0 _ hc j hj
    rw [Nat.zero_add] at this
    rw [this]
    rw [List.getElem?_eq_getElem hj] at hv
    exact hv
theorem with_var {wr : World} {z : Array Value} {T : TypeId} {vals : List Value} (hz : z.size = vals.length) {p : World → Prop} (h : ∀ W3, VarAt wr W3 T vals → p W3) : p ((wr.alloc (.cells z T)).setCells wr.heap.size 0 vals) := h _ (varAt_new wr z T vals hz)
theorem entB_len (e : Ety) : (entB e).length = (octT e.mode).length + e.name.length + 34 := by
  unfold entB; simp [e.hid]; omega
theorem treeB_take (l : List Ety) (k : Nat) : (treeB (l.take k)).length ≤ (treeB l).length := by
  have h : treeB l = treeB (l.take k) ++ treeB (l.drop k) := by unfold treeB; rw [← List.flatMap_append, List.take_append_drop]
  rw [h, List.length_append]; omega
theorem treeB_succ {l : List Ety} {k : Nat} (h : k < l.length) : treeB (l.take (k + 1)) = treeB (l.take k) ++ entB (eat l k) := by
  rw [List.take_succ_eq_append_getElem h]
  unfold treeB
  rw [List.flatMap_append]
  simp [eat, List.getD, h]
theorem entI_len (l : List Ety) : ∀ (m i z : Nat) (w : Int), i + m = l.length → (entI l m i w z).2 = z + (treeB (l.drop i)).length := by
  intro m
  induction m with
  | zero =>
    intro i z w h
    rw [List.drop_eq_nil_of_le (by omega)]
    simp [entI, treeB]
  | succ m ih =>
    intro i z w h
    have hlt : i < l.length := by omega
    rw [entI, ih (i + 1) _ _ (by omega), List.drop_eq_getElem_cons hlt]
    have he : eat l i = l[i] := by simp [eat, List.getD, hlt]
    have e2 : treeB (l[i] :: l.drop (i + 1)) = entB l[i] ++ treeB (l.drop (i + 1)) := by unfold treeB; rw [List.flatMap_cons]
    rw [e2, List.length_append, entB_len, he]
    omega
theorem lst2_0 (w : Int) : lst2 0 w = w := by
  unfold lst2
  by_cases h : w = 0
  · rw [h]; simp
  · rw [if_pos ⟨h, .inl rfl⟩]
theorem minE2 {w e : Int} (h : minE [w, e] = 0) : e = 0 := by
  have h1 : lst2 (lst2 0 w) e = 0 := h
  rw [lst2_0] at h1
  unfold lst2 at h1
  by_cases he : e = 0
  · exact he
  · split at h1
    · exact h1
    · rename_i h2
      exact absurd ⟨he, .inl h1⟩ h2
theorem treeB_small {l : List Ety} (h : entE l = 0) : (treeB l).length ≤ 1048576 := by
  unfold entE at h
  split at h
  · omega
  · have h2 := minE2 h
    rw [entI_len l l.length 0 0 0 (by omega), List.drop_zero] at h2
    split at h2
    · omega
    · rename_i h3
      simp at h3
      omega
theorem one_bytes : ∀ (l : List UInt8), ∀ v ∈ Lib.byteCells l, v.oneCell' = true := by
  intro l v hv
  unfold Lib.byteCells at hv
  obtain ⟨b, _, rfl⟩ := List.mem_map.1 hv
  rfl
theorem src_id {wr W3 W4 W5 : World} {e : Ety} {T : TypeId} {b : Nat} (hva : VarAt wr W3 T (valsE e)) (hT : T ≠ 5) (hb : b < wr.heap.size) (hk4 : ∀ j, j < W3.heap.size → W4.heap[j]? = W3.heap[j]?) (hk5 : Lib.OthersKept 5 (some b) W4 W5) :
    ∀ j v, (Lib.byteCells e.id)[j]? = some v → W5.cell? ((⟨wr.heap.size, 2, none⟩ : Addr).add j) = some v := by
  intro j v hj
  obtain ⟨cs, fr, hr⟩ := hva.row
  have hn1 : wr.heap.size < W3.heap.size := by rw [hva.size]; omega
  have h4 : W4.heap[wr.heap.size]? = some (.cells cs T fr) := (hk4 _ hn1).trans hr
  have h5 := hk5 _ _ h4 (by simp; omega) (fun c fz h => by cases h; exact hT rfl)
  have hc := hva.cell (j + 2) v (by simpa [valsE] using hj)
  rw [Addr.add_mid]
  simp only [World.cell?, hr, h5] at hc ⊢
  rw [Nat.add_comm]; exact hc
theorem cat_data {T1 T2 : ByteArray} {m : Int} {n : List UInt8} (d1 : T1.data.toList = octT m) (d2 : T2.data.toList = n) : (T1 ++ ⟨#[32]⟩ ++ T2 ++ ⟨#[0]⟩).data.toList = octT m ++ [32] ++ n ++ [0] := by
  simp only [ByteArray.data_append, Array.toList_append, d1, d2]
theorem cells_app (a b : List UInt8) : Lib.byteCells a ++ Lib.byteCells b = Lib.byteCells (a ++ b) := by simp [Lib.byteCells]
theorem cat_tree {T1 T2 : ByteArray} {l : List Ety} {k : Nat} (hk : k < l.length) (d1 : T1.data.toList = octT (eat l k).mode) (d2 : T2.data.toList = (eat l k).name) :
    Lib.byteCells (treeB (l.take k)) ++ Lib.byteCells (T1 ++ ⟨#[32]⟩ ++ T2 ++ ⟨#[0]⟩).data.toList ++ Lib.byteCells (eat l k).id = Lib.byteCells (treeB (l.take (k + 1))) := by
  rw [cat_data d1 d2, cells_app, cells_app, treeB_succ hk]
  congr 1
  simp [entB]
theorem below_weak {B B' : Nat} {a w : World} (h : Below B a w) (hB : B' ≤ B) : Below B' a w := ⟨h.os, h.tape, h.output, h.size, fun k hk => h.block k (Nat.lt_of_lt_of_le hk hB)⟩
theorem wrap64_succ {k : Nat} (h : k ≤ 1000000000) : wrap64 ((k : Int) + 1) = ((k + 1 : Nat) : Int) := by
  unfold wrap64; omega
end Cod

/- Headers and ids: Header, Id, DocHeader, DocId. -/
import Derived.Lib.ItoaLen
import Derived.Lib.BufferKept
import Derived.Lib.BufferWrite
import Derived.Lib.VarintMem
import Derived.Laws.BitsLemmas
import Derived.Laws.RangeAny
import Derived.Deep.MidRow
import Derived.Laws.IdiomCopy
import Derived.Deep.Cut
import Derived.Deep.RegionWith
import Derived.Lib.BufferOld
import Derived.Test.YthlnjgdoodjgoaaDoorXTxt2
import Derived.Test.YthlnjgdoodjgoaaDoorXTxt3
import Derived.Test.YthlnjgdoodjgoaaDoorXTxt1
import Derived.Test.YthlnjgdoodjgoaaDoorXShelf1
set_option linter.unusedSimpArgs false
set_option linter.unusedVariables false
namespace Cod
open Go

def wordF (k : Int) : List UInt8 := if k = 1 then [99, 111, 109, 109, 105, 116] else if k = 2 then [116, 114, 101, 101] else if k = 3 then [98, 108, 111, 98] else if k = 4 then [116, 97, 103] else []
theorem wordF_len (k : Int) : (wordF k).length ≤ 6 := by unfold wordF; split <;> (try split) <;> (try split) <;> (try split) <;> simp
theorem go_word {k : Int} : S E F.object_word [.int .i64 k] [] = some (.str (wordF k), []) := by
  rw [S_of fn_object_word rfl rfl]
  unfold wordF
  by_cases a : k = 1
  · simp (dsimp := false) (disch := first | omega | (simp only [strs_length, List.length_set, List.length_replicate, words_length, ofBytes_length, List.length_append, List.length_cons, List.length_nil, List.length_take, List.length_drop, ints64_length] <;> omega) | fail) only [L.object_word, go_sem, reduceIte, reduceCtorEq, Nat.reduceEqDiff, Nat.reduceAdd, Nat.reduceSub, Nat.reduceMul, Nat.reduceDiv, Nat.reduceMod, Nat.reduceBEq, Nat.reduceLeDiff, Nat.reduceLT, Int.reduceEq, Int.reduceNe, Int.reduceLT, Int.reduceLE, Int.reduceBEq, Int.reduceBNe, Int.reduceToNat, Int.reduceAdd, Int.reduceSub, Int.reduceMul, Int.reduceNeg, a]
  · by_cases b : k = 2
    · simp (dsimp := false) (disch := first | omega | (simp only [strs_length, List.length_set, List.length_replicate, words_length, ofBytes_length, List.length_append, List.length_cons, List.length_nil, List.length_take, List.length_drop, ints64_length] <;> omega) | fail) only [L.object_word, go_sem, reduceIte, reduceCtorEq, Nat.reduceEqDiff, Nat.reduceAdd, Nat.reduceSub, Nat.reduceMul, Nat.reduceDiv, Nat.reduceMod, Nat.reduceBEq, Nat.reduceLeDiff, Nat.reduceLT, Int.reduceEq, Int.reduceNe, Int.reduceLT, Int.reduceLE, Int.reduceBEq, Int.reduceBNe, Int.reduceToNat, Int.reduceAdd, Int.reduceSub, Int.reduceMul, Int.reduceNeg, a, b]
    · by_cases c : k = 3
      · simp (dsimp := false) (disch := first | omega | (simp only [strs_length, List.length_set, List.length_replicate, words_length, ofBytes_length, List.length_append, List.length_cons, List.length_nil, List.length_take, List.length_drop, ints64_length] <;> omega) | fail) only [L.object_word, go_sem, reduceIte, reduceCtorEq, Nat.reduceEqDiff, Nat.reduceAdd, Nat.reduceSub, Nat.reduceMul, Nat.reduceDiv, Nat.reduceMod, Nat.reduceBEq, Nat.reduceLeDiff, Nat.reduceLT, Int.reduceEq, Int.reduceNe, Int.reduceLT, Int.reduceLE, Int.reduceBEq, Int.reduceBNe, Int.reduceToNat, Int.reduceAdd, Int.reduceSub, Int.reduceMul, Int.reduceNeg, a, b, c]
      · by_cases d : k = 4
        · simp (dsimp := false) (disch := first | omega | (simp only [strs_length, List.length_set, List.length_replicate, words_length, ofBytes_length, List.length_append, List.length_cons, List.length_nil, List.length_take, List.length_drop, ints64_length] <;> omega) | fail) only [L.object_word, go_sem, reduceIte, reduceCtorEq, Nat.reduceEqDiff, Nat.reduceAdd, Nat.reduceSub, Nat.reduceMul, Nat.reduceDiv, Nat.reduceMod, Nat.reduceBEq, Nat.reduceLeDiff, Nat.reduceLT, Int.reduceEq, Int.reduceNe, Int.reduceLT, Int.reduceLE, Int.reduceBEq, Int.reduceBNe, Int.reduceToNat, Int.reduceAdd, Int.reduceSub, Int.reduceMul, Int.reduceNeg, a, b, c, d]
        · simp (dsimp := false) (disch := first | omega | (simp only [strs_length, List.length_set, List.length_replicate, words_length, ofBytes_length, List.length_append, List.length_cons, List.length_nil, List.length_take, List.length_drop, ints64_length] <;> omega) | fail) only [L.object_word, go_sem, reduceIte, reduceCtorEq, Nat.reduceEqDiff, Nat.reduceAdd, Nat.reduceSub, Nat.reduceMul, Nat.reduceDiv, Nat.reduceMod, Nat.reduceBEq, Nat.reduceLeDiff, Nat.reduceLT, Int.reduceEq, Int.reduceNe, Int.reduceLT, Int.reduceLE, Int.reduceBEq, Int.reduceBNe, Int.reduceToNat, Int.reduceAdd, Int.reduceSub, Int.reduceMul, Int.reduceNeg, a, b, c, d]
theorem go_rword {k : Int} : S E F.ref07_Word [.int .i64 k] [] = some (.str (wordF k), []) := by
  rw [S_of fn_ref07_Word rfl rfl]
  unfold wordF
  by_cases a : k = 1
  · simp (dsimp := false) (disch := first | omega | (simp only [strs_length, List.length_set, List.length_replicate, words_length, ofBytes_length, List.length_append, List.length_cons, List.length_nil, List.length_take, List.length_drop, ints64_length] <;> omega) | fail) only [L.ref07_Word, go_sem, reduceIte, reduceCtorEq, Nat.reduceEqDiff, Nat.reduceAdd, Nat.reduceSub, Nat.reduceMul, Nat.reduceDiv, Nat.reduceMod, Nat.reduceBEq, Nat.reduceLeDiff, Nat.reduceLT, Int.reduceEq, Int.reduceNe, Int.reduceLT, Int.reduceLE, Int.reduceBEq, Int.reduceBNe, Int.reduceToNat, Int.reduceAdd, Int.reduceSub, Int.reduceMul, Int.reduceNeg, a]
  · by_cases b : k = 2
    · simp (dsimp := false) (disch := first | omega | (simp only [strs_length, List.length_set, List.length_replicate, words_length, ofBytes_length, List.length_append, List.length_cons, List.length_nil, List.length_take, List.length_drop, ints64_length] <;> omega) | fail) only [L.ref07_Word, go_sem, reduceIte, reduceCtorEq, Nat.reduceEqDiff, Nat.reduceAdd, Nat.reduceSub, Nat.reduceMul, Nat.reduceDiv, Nat.reduceMod, Nat.reduceBEq, Nat.reduceLeDiff, Nat.reduceLT, Int.reduceEq, Int.reduceNe, Int.reduceLT, Int.reduceLE, Int.reduceBEq, Int.reduceBNe, Int.reduceToNat, Int.reduceAdd, Int.reduceSub, Int.reduceMul, Int.reduceNeg, a, b]
    · by_cases c : k = 3
      · simp (dsimp := false) (disch := first | omega | (simp only [strs_length, List.length_set, List.length_replicate, words_length, ofBytes_length, List.length_append, List.length_cons, List.length_nil, List.length_take, List.length_drop, ints64_length] <;> omega) | fail) only [L.ref07_Word, go_sem, reduceIte, reduceCtorEq, Nat.reduceEqDiff, Nat.reduceAdd, Nat.reduceSub, Nat.reduceMul, Nat.reduceDiv, Nat.reduceMod, Nat.reduceBEq, Nat.reduceLeDiff, Nat.reduceLT, Int.reduceEq, Int.reduceNe, Int.reduceLT, Int.reduceLE, Int.reduceBEq, Int.reduceBNe, Int.reduceToNat, Int.reduceAdd, Int.reduceSub, Int.reduceMul, Int.reduceNeg, a, b, c]
      · by_cases d : k = 4
        · simp (dsimp := false) (disch := first | omega | (simp only [strs_length, List.length_set, List.length_replicate, words_length, ofBytes_length, List.length_append, List.length_cons, List.length_nil, List.length_take, List.length_drop, ints64_length] <;> omega) | fail) only [L.ref07_Word, go_sem, reduceIte, reduceCtorEq, Nat.reduceEqDiff, Nat.reduceAdd, Nat.reduceSub, Nat.reduceMul, Nat.reduceDiv, Nat.reduceMod, Nat.reduceBEq, Nat.reduceLeDiff, Nat.reduceLT, Int.reduceEq, Int.reduceNe, Int.reduceLT, Int.reduceLE, Int.reduceBEq, Int.reduceBNe, Int.reduceToNat, Int.reduceAdd, Int.reduceSub, Int.reduceMul, Int.reduceNeg, a, b, c, d]
        · simp (dsimp := false) (disch := first | omega | (simp only [strs_length, List.length_set, List.length_replicate, words_length, ofBytes_length, List.length_append, List.length_cons, List.length_nil, List.length_take, List.length_drop, ints64_length] <;> omega) | fail) only [L.ref07_Word, go_sem, reduceIte, reduceCtorEq, Nat.reduceEqDiff, Nat.reduceAdd, Nat.reduceSub, Nat.reduceMul, Nat.reduceDiv, Nat.reduceMod, Nat.reduceBEq, Nat.reduceLeDiff, Nat.reduceLT, Int.reduceEq, Int.reduceNe, Int.reduceLT, Int.reduceLE, Int.reduceBEq, Int.reduceBNe, Int.reduceToNat, Int.reduceAdd, Int.reduceSub, Int.reduceMul, Int.reduceNeg, a, b, c, d]
theorem go_if {b : Bool} {e : Int} : S E F.ref07_If [.bool b, .int .i64 e] [] = some (.int .i64 (if b then e else 0), []) := by
  rw [S_of fn_ref07_If rfl rfl]
  cases b <;> simp (dsimp := false) (disch := first | omega | (simp only [strs_length, List.length_set, List.length_replicate, words_length, ofBytes_length, List.length_append, List.length_cons, List.length_nil, List.length_take, List.length_drop, ints64_length] <;> omega) | fail) only [L.ref07_If, go_sem, reduceIte, reduceCtorEq, Nat.reduceEqDiff, Nat.reduceAdd, Nat.reduceSub, Nat.reduceMul, Nat.reduceDiv, Nat.reduceMod, Nat.reduceBEq, Nat.reduceLeDiff, Nat.reduceLT, Int.reduceEq, Int.reduceNe, Int.reduceLT, Int.reduceLE, Int.reduceBEq, Int.reduceBNe, Int.reduceToNat, Int.reduceAdd, Int.reduceSub, Int.reduceMul, Int.reduceNeg]
theorem rleast_l0 {l : List Int} (hl : l.length ≤ 1000000) : ∀ (m i : Nat) (w : Int), i + m = l.length →
    X E [.tmp 2] (.c L.ref07_Least.x0 :: .lp [3, 6, 7, 8] L.ref07_Least.x0 :: .blk 0 :: [.c L.ref07_Least.r0]) ⟨[(3, .int .i64 w), (6, .lst (ints64 l) l.length), (7, .int .i64 l.length), (8, .int .i64 i)], []⟩ = some (.int .i64 ((l.drop i).foldl lst2 w), []) := by
  intro m
  induction m with
  | zero =>
    intro i w h
    obtain rfl : i = l.length := by omega
    rw [X_in L.ref07_Least.x0.eq_1, List.drop_length]
    simp (dsimp := false) (disch := first | omega | (simp only [strs_length, List.length_set, List.length_replicate, words_length, ofBytes_length, List.length_append, List.length_cons, List.length_nil, List.length_take, List.length_drop, ints64_length] <;> omega) | fail) only [go_sem, reduceIte, reduceCtorEq, Nat.reduceEqDiff, Nat.reduceAdd, Nat.reduceSub, Nat.reduceMul, Nat.reduceDiv, Nat.reduceMod, Nat.reduceBEq, Nat.reduceLeDiff, Nat.reduceLT, Int.reduceEq, Int.reduceNe, Int.reduceLT, Int.reduceLE, Int.reduceBEq, Int.reduceBNe, Int.reduceToNat, Int.reduceAdd, Int.reduceSub, Int.reduceMul, Int.reduceNeg, L.ref07_Least.r0, flats_i64s, refsOfs_i64s, rens_i64s]
    rfl
  | succ m ih =>
    intro i w h
    have hlt : i < l.length := by omega
    have h1 := ih (i + 1) (lst2 w (l.getD i 0)) (by omega)
    simp only [Int.natCast_add, Int.cast_ofNat_Int] at h1
    have hg := ints_get hlt
    rw [X_in L.ref07_Least.x0.eq_1, List.drop_eq_getElem_cons hlt, List.foldl_cons, show l[i] = l.getD i 0 by simp [List.getD, hlt]]
    generalize l.getD i 0 = e at *
    unfold lst2 at h1 ⊢
    by_cases e0 : e = 0
    · subst e0
      rw [if_neg (by simp)] at h1 ⊢
      simp (dsimp := false) (disch := first | omega | (simp only [strs_length, List.length_set, List.length_replicate, words_length, ofBytes_length, List.length_append, List.length_cons, List.length_nil, List.length_take, List.length_drop, ints64_length] <;> omega) | fail) only [go_sem, reduceIte, reduceCtorEq, Nat.reduceEqDiff, Nat.reduceAdd, Nat.reduceSub, Nat.reduceMul, Nat.reduceDiv, Nat.reduceMod, Nat.reduceBEq, Nat.reduceLeDiff, Nat.reduceLT, Int.reduceEq, Int.reduceNe, Int.reduceLT, Int.reduceLE, Int.reduceBEq, Int.reduceBNe, Int.reduceToNat, Int.reduceAdd, Int.reduceSub, Int.reduceMul, Int.reduceNeg, flats_i64s, refsOfs_i64s, rens_i64s, hg, h1]
    · by_cases w0 : w = 0
      · subst w0
        rw [if_pos (by simp [e0])] at h1 ⊢
        simp (dsimp := false) (disch := first | omega | (simp only [strs_length, List.length_set, List.length_replicate, words_length, ofBytes_length, List.length_append, List.length_cons, List.length_nil, List.length_take, List.length_drop, ints64_length] <;> omega) | fail) only [go_sem, reduceIte, reduceCtorEq, Nat.reduceEqDiff, Nat.reduceAdd, Nat.reduceSub, Nat.reduceMul, Nat.reduceDiv, Nat.reduceMod, Nat.reduceBEq, Nat.reduceLeDiff, Nat.reduceLT, Int.reduceEq, Int.reduceNe, Int.reduceLT, Int.reduceLE, Int.reduceBEq, Int.reduceBNe, Int.reduceToNat, Int.reduceAdd, Int.reduceSub, Int.reduceMul, Int.reduceNeg, flats_i64s, refsOfs_i64s, rens_i64s, hg, h1, e0]
      · by_cases lt : e < w
        · rw [if_pos (by simp [e0, lt])] at h1 ⊢
          simp (dsimp := false) (disch := first | omega | (simp only [strs_length, List.length_set, List.length_replicate, words_length, ofBytes_length, List.length_append, List.length_cons, List.length_nil, List.length_take, List.length_drop, ints64_length] <;> omega) | fail) only [go_sem, reduceIte, reduceCtorEq, Nat.reduceEqDiff, Nat.reduceAdd, Nat.reduceSub, Nat.reduceMul, Nat.reduceDiv, Nat.reduceMod, Nat.reduceBEq, Nat.reduceLeDiff, Nat.reduceLT, Int.reduceEq, Int.reduceNe, Int.reduceLT, Int.reduceLE, Int.reduceBEq, Int.reduceBNe, Int.reduceToNat, Int.reduceAdd, Int.reduceSub, Int.reduceMul, Int.reduceNeg, flats_i64s, refsOfs_i64s, rens_i64s, hg, h1, e0, w0, lt]
        · rw [if_neg (by simp [e0, lt, w0])] at h1 ⊢
          simp (dsimp := false) (disch := first | omega | (simp only [strs_length, List.length_set, List.length_replicate, words_length, ofBytes_length, List.length_append, List.length_cons, List.length_nil, List.length_take, List.length_drop, ints64_length] <;> omega) | fail) only [go_sem, reduceIte, reduceCtorEq, Nat.reduceEqDiff, Nat.reduceAdd, Nat.reduceSub, Nat.reduceMul, Nat.reduceDiv, Nat.reduceMod, Nat.reduceBEq, Nat.reduceLeDiff, Nat.reduceLT, Int.reduceEq, Int.reduceNe, Int.reduceLT, Int.reduceLE, Int.reduceBEq, Int.reduceBNe, Int.reduceToNat, Int.reduceAdd, Int.reduceSub, Int.reduceMul, Int.reduceNeg, flats_i64s, refsOfs_i64s, rens_i64s, hg, h1, e0, w0, lt]
theorem go_rleast {l : List Int} (hl : l.length ≤ 1000000) : S E F.ref07_Least [.lst (ints64 l) l.length] [] = some (.int .i64 (minE l), []) := by
  have h := rleast_l0 hl l.length 0 0 (by omega)
  simp only [Int.cast_ofNat_Int, List.drop_zero] at h
  rw [S_of fn_ref07_Least rfl rfl]
  simp (dsimp := false) (disch := first | omega | (simp only [strs_length, List.length_set, List.length_replicate, words_length, ofBytes_length, List.length_append, List.length_cons, List.length_nil, List.length_take, List.length_drop, ints64_length] <;> omega) | fail) only [L.ref07_Least, go_sem, reduceIte, reduceCtorEq, Nat.reduceEqDiff, Nat.reduceAdd, Nat.reduceSub, Nat.reduceMul, Nat.reduceDiv, Nat.reduceMod, Nat.reduceBEq, Nat.reduceLeDiff, Nat.reduceLT, Int.reduceEq, Int.reduceNe, Int.reduceLT, Int.reduceLE, Int.reduceBEq, Int.reduceBNe, Int.reduceToNat, Int.reduceAdd, Int.reduceSub, Int.reduceMul, Int.reduceNeg, flats_i64s, refsOfs_i64s, rens_i64s, h]
  rfl
theorem go_least2 {a b : Int} : S E F.object_least [.lst [.int .i64 a, .int .i64 b] 2] [] = some (.int .i64 (minE [a, b]), []) := go_least (l := [a, b]) (by simp)
theorem go_rleast2 {a b : Int} : S E F.ref07_Least [.lst [.int .i64 a, .int .i64 b] 2] [] = some (.int .i64 (minE [a, b]), []) := go_rleast (l := [a, b]) (by simp)
theorem minE_sw (a b : Int) : minE [a, b] = minE [b, a] := by
  simp only [minE, List.foldl_cons, List.foldl_nil, lst2]
  by_cases h1 : a = 0 <;> by_cases h2 : b = 0 <;> by_cases h3 : a < b <;> by_cases h4 : b < a <;> simp [h1, h2, h3, h4] <;> omega
/-- The header of a kind and a size. -/
def hdrT (k n : Int) : List UInt8 := wordF k ++ [32] ++ Lib.itoa n ++ [0]
def eSize (n : Int) : Int := if (decide (n < 0) || decide (1048576 < n)) = true then 1 else 0
def eWord (k : Int) : Int := if (wordF k == []) = true then 9 else 0
def hdrE (k n : Int) : Int := minE [eSize n, eWord k]
def hdrV (k n : Int) : AV := if hdrE k n = 0 then .tup [.str (hdrT k n), .int .i64 0] else .tup [.str [], .int .i64 (hdrE k n)]
theorem hdrT_len {k n : Int} (h1 : -9223372036854775808 ≤ n) (h2 : n ≤ 9223372036854775807) : (hdrT k n).length ≤ 40 := by
  have := Lib.itoa_length_le n h1 h2
  have := wordF_len k
  unfold hdrT
  simp only [List.length_append, List.length_cons, List.length_nil]
  omega
theorem go_rheader {k n : Int} (h1 : -9223372036854775808 ≤ n) (h2 : n ≤ 9223372036854775807) : S E F.ref07_Header [.int .i64 k, .int .i64 n] [] = some (.str (hdrT k n), []) := by
  have hi := S_itoa (n := n) ⟨h1, h2⟩
  have hl := Lib.itoa_length_le n h1 h2
  have hw := wordF_len k
  rw [S_of fn_ref07_Header rfl rfl]
  simp (dsimp := false) (disch := first | omega | (simp only [strs_length, List.length_set, List.length_replicate, words_length, ofBytes_length, List.length_append, List.length_cons, List.length_nil, List.length_take, List.length_drop, ints64_length] <;> omega) | fail) only [L.ref07_Header, go_sem, reduceIte, reduceCtorEq, Nat.reduceEqDiff, Nat.reduceAdd, Nat.reduceSub, Nat.reduceMul, Nat.reduceDiv, Nat.reduceMod, Nat.reduceBEq, Nat.reduceLeDiff, Nat.reduceLT, Int.reduceEq, Int.reduceNe, Int.reduceLT, Int.reduceLE, Int.reduceBEq, Int.reduceBNe, Int.reduceToNat, Int.reduceAdd, Int.reduceSub, Int.reduceMul, Int.reduceNeg, go_rword, hi]
  rfl
theorem go_docheader {k n : Int} (h1 : -9223372036854775808 ≤ n) (h2 : n ≤ 9223372036854775807) : S E F.ref07_DocHeader [.int .i64 k, .int .i64 n] [] = some (hdrV k n, []) := by
  have hr := go_rheader (k := k) h1 h2
  rw [S_of fn_ref07_DocHeader rfl rfl]
  unfold hdrV
  have w2 : S E F.ref07_If [.bool (wordF k == []), .int .i64 9] [] = some (.int .i64 (eWord k), []) := go_if
  have hd : S E F.ref07_Least [.lst [.int .i64 (eSize n), .int .i64 (eWord k)] 2] [] = some (.int .i64 (hdrE k n), []) := go_rleast2
  by_cases a : n < 0
  · have w1 : S E F.ref07_If [.bool true, .int .i64 1] [] = some (.int .i64 (eSize n), []) := by
      rw [go_if, eSize, decide_eq_true a, Bool.true_or]
    by_cases e : hdrE k n = 0
    · simp (dsimp := false) (disch := first | omega | (simp only [strs_length, List.length_set, List.length_replicate, words_length, ofBytes_length, List.length_append, List.length_cons, List.length_nil, List.length_take, List.length_drop, ints64_length] <;> omega) | fail) only [L.ref07_DocHeader, go_sem, reduceIte, reduceCtorEq, Nat.reduceEqDiff, Nat.reduceAdd, Nat.reduceSub, Nat.reduceMul, Nat.reduceDiv, Nat.reduceMod, Nat.reduceBEq, Nat.reduceLeDiff, Nat.reduceLT, Int.reduceEq, Int.reduceNe, Int.reduceLT, Int.reduceLE, Int.reduceBEq, Int.reduceBNe, Int.reduceToNat, Int.reduceAdd, Int.reduceSub, Int.reduceMul, Int.reduceNeg, go_rword, a, w1, w2, hd, e, hr]
    · simp (dsimp := false) (disch := first | omega | (simp only [strs_length, List.length_set, List.length_replicate, words_length, ofBytes_length, List.length_append, List.length_cons, List.length_nil, List.length_take, List.length_drop, ints64_length] <;> omega) | fail) only [L.ref07_DocHeader, go_sem, reduceIte, reduceCtorEq, Nat.reduceEqDiff, Nat.reduceAdd, Nat.reduceSub, Nat.reduceMul, Nat.reduceDiv, Nat.reduceMod, Nat.reduceBEq, Nat.reduceLeDiff, Nat.reduceLT, Int.reduceEq, Int.reduceNe, Int.reduceLT, Int.reduceLE, Int.reduceBEq, Int.reduceBNe, Int.reduceToNat, Int.reduceAdd, Int.reduceSub, Int.reduceMul, Int.reduceNeg, go_rword, a, w1, w2, hd, e, hr]
  · have w1 : S E F.ref07_If [.bool (decide (1048576 < n)), .int .i64 1] [] = some (.int .i64 (eSize n), []) := by
      rw [go_if, eSize, decide_eq_false a, Bool.false_or]
    by_cases e : hdrE k n = 0
    · simp (dsimp := false) (disch := first | omega | (simp only [strs_length, List.length_set, List.length_replicate, words_length, ofBytes_length, List.length_append, List.length_cons, List.length_nil, List.length_take, List.length_drop, ints64_length] <;> omega) | fail) only [L.ref07_DocHeader, go_sem, reduceIte, reduceCtorEq, Nat.reduceEqDiff, Nat.reduceAdd, Nat.reduceSub, Nat.reduceMul, Nat.reduceDiv, Nat.reduceMod, Nat.reduceBEq, Nat.reduceLeDiff, Nat.reduceLT, Int.reduceEq, Int.reduceNe, Int.reduceLT, Int.reduceLE, Int.reduceBEq, Int.reduceBNe, Int.reduceToNat, Int.reduceAdd, Int.reduceSub, Int.reduceMul, Int.reduceNeg, go_rword, a, w1, w2, hd, e, hr]
    · simp (dsimp := false) (disch := first | omega | (simp only [strs_length, List.length_set, List.length_replicate, words_length, ofBytes_length, List.length_append, List.length_cons, List.length_nil, List.length_take, List.length_drop, ints64_length] <;> omega) | fail) only [L.ref07_DocHeader, go_sem, reduceIte, reduceCtorEq, Nat.reduceEqDiff, Nat.reduceAdd, Nat.reduceSub, Nat.reduceMul, Nat.reduceDiv, Nat.reduceMod, Nat.reduceBEq, Nat.reduceLeDiff, Nat.reduceLT, Int.reduceEq, Int.reduceNe, Int.reduceLT, Int.reduceLE, Int.reduceBEq, Int.reduceBNe, Int.reduceToNat, Int.reduceAdd, Int.reduceSub, Int.reduceMul, Int.reduceNeg, go_rword, a, w1, w2, hd, e, hr]
theorem go_header {k n : Int} (h1 : -9223372036854775808 ≤ n) (h2 : n ≤ 9223372036854775807) : S E F.object_Header [.int .i64 k, .int .i64 n] [] = some (hdrV k n, []) := by
  have hi := S_itoa (n := n) ⟨h1, h2⟩
  have hl := Lib.itoa_length_le n h1 h2
  have hw := wordF_len k
  rw [S_of fn_object_Header rfl rfl]
  unfold hdrV
  have w2 : S E F.object_when [.bool (wordF k == []), .int .i64 9] [] = some (.int .i64 (eWord k), []) := go_when
  have hd : S E F.object_least [.lst [.int .i64 (eSize n), .int .i64 (eWord k)] 2] [] = some (.int .i64 (hdrE k n), []) := go_least2
  by_cases a : n < 0
  · have w1 : S E F.object_when [.bool true, .int .i64 1] [] = some (.int .i64 (eSize n), []) := by
      rw [go_when, eSize, decide_eq_true a, Bool.true_or]
    by_cases e : hdrE k n = 0
    · simp (dsimp := false) (disch := first | omega | (simp only [strs_length, List.length_set, List.length_replicate, words_length, ofBytes_length, List.length_append, List.length_cons, List.length_nil, List.length_take, List.length_drop, ints64_length] <;> omega) | fail) only [L.object_Header, go_sem, reduceIte, reduceCtorEq, Nat.reduceEqDiff, Nat.reduceAdd, Nat.reduceSub, Nat.reduceMul, Nat.reduceDiv, Nat.reduceMod, Nat.reduceBEq, Nat.reduceLeDiff, Nat.reduceLT, Int.reduceEq, Int.reduceNe, Int.reduceLT, Int.reduceLE, Int.reduceBEq, Int.reduceBNe, Int.reduceToNat, Int.reduceAdd, Int.reduceSub, Int.reduceMul, Int.reduceNeg, go_word, a, w1, w2, hd, e, hi]
      rfl
    · simp (dsimp := false) (disch := first | omega | (simp only [strs_length, List.length_set, List.length_replicate, words_length, ofBytes_length, List.length_append, List.length_cons, List.length_nil, List.length_take, List.length_drop, ints64_length] <;> omega) | fail) only [L.object_Header, go_sem, reduceIte, reduceCtorEq, Nat.reduceEqDiff, Nat.reduceAdd, Nat.reduceSub, Nat.reduceMul, Nat.reduceDiv, Nat.reduceMod, Nat.reduceBEq, Nat.reduceLeDiff, Nat.reduceLT, Int.reduceEq, Int.reduceNe, Int.reduceLT, Int.reduceLE, Int.reduceBEq, Int.reduceBNe, Int.reduceToNat, Int.reduceAdd, Int.reduceSub, Int.reduceMul, Int.reduceNeg, go_word, a, w1, w2, hd, e, hi]
  · have w1 : S E F.object_when [.bool (decide (1048576 < n)), .int .i64 1] [] = some (.int .i64 (eSize n), []) := by
      rw [go_when, eSize, decide_eq_false a, Bool.false_or]
    by_cases e : hdrE k n = 0
    · simp (dsimp := false) (disch := first | omega | (simp only [strs_length, List.length_set, List.length_replicate, words_length, ofBytes_length, List.length_append, List.length_cons, List.length_nil, List.length_take, List.length_drop, ints64_length] <;> omega) | fail) only [L.object_Header, go_sem, reduceIte, reduceCtorEq, Nat.reduceEqDiff, Nat.reduceAdd, Nat.reduceSub, Nat.reduceMul, Nat.reduceDiv, Nat.reduceMod, Nat.reduceBEq, Nat.reduceLeDiff, Nat.reduceLT, Int.reduceEq, Int.reduceNe, Int.reduceLT, Int.reduceLE, Int.reduceBEq, Int.reduceBNe, Int.reduceToNat, Int.reduceAdd, Int.reduceSub, Int.reduceMul, Int.reduceNeg, go_word, a, w1, w2, hd, e, hi]
      rfl
    · simp (dsimp := false) (disch := first | omega | (simp only [strs_length, List.length_set, List.length_replicate, words_length, ofBytes_length, List.length_append, List.length_cons, List.length_nil, List.length_take, List.length_drop, ints64_length] <;> omega) | fail) only [L.object_Header, go_sem, reduceIte, reduceCtorEq, Nat.reduceEqDiff, Nat.reduceAdd, Nat.reduceSub, Nat.reduceMul, Nat.reduceDiv, Nat.reduceMod, Nat.reduceBEq, Nat.reduceLeDiff, Nat.reduceLT, Int.reduceEq, Int.reduceNe, Int.reduceLT, Int.reduceLE, Int.reduceBEq, Int.reduceBNe, Int.reduceToNat, Int.reduceAdd, Int.reduceSub, Int.reduceMul, Int.reduceNeg, go_word, a, w1, w2, hd, e, hi]
/-- The error of an object's kind and bytes. -/
def objE (k : Int) (n : Nat) : Int := minE [if (decide (1048576 < n)) = true then 2 else 0, eWord k]
def eLong (n : Nat) : Int := if (decide (1048576 < (n : Int))) = true then 2 else 0
theorem objE_eq (k : Int) (n : Nat) : objE k n = minE [eLong n, eWord k] := by
  unfold objE eLong
  rw [show decide (1048576 < (n : Int)) = decide (1048576 < n) from decide_eq_decide.2 (by omega)]
theorem go_plain {k : Int} {p : List UInt8} {n : Nat} (hn : n = p.length) (hp : p.length ≤ 1000000000000) : S E F.object_plain [.agg [.int .i64 k, .lst (ofBytes p) n]] [] = some (.int .i64 (objE k p.length), []) := by
  subst hn
  have w1 : S E F.object_when [.bool (decide (1048576 < (p.length : Int))), .int .i64 2] [] = some (.int .i64 (eLong p.length), []) := go_when
  have w2 : S E F.object_when [.bool (wordF k == []), .int .i64 9] [] = some (.int .i64 (eWord k), []) := go_when
  have hd : S E F.object_least [.lst [.int .i64 (eLong p.length), .int .i64 (eWord k)] 2] [] = some (.int .i64 (objE k p.length), []) := by rw [objE_eq]; exact go_least2
  rw [S_of fn_object_plain rfl rfl]
  simp (dsimp := false) (disch := first | omega | (simp only [strs_length, List.length_set, List.length_replicate, words_length, ofBytes_length, List.length_append, List.length_cons, List.length_nil, List.length_take, List.length_drop, ints64_length] <;> omega) | fail) only [L.object_plain, go_sem, reduceIte, reduceCtorEq, Nat.reduceEqDiff, Nat.reduceAdd, Nat.reduceSub, Nat.reduceMul, Nat.reduceDiv, Nat.reduceMod, Nat.reduceBEq, Nat.reduceLeDiff, Nat.reduceLT, Int.reduceEq, Int.reduceNe, Int.reduceLT, Int.reduceLE, Int.reduceBEq, Int.reduceBNe, Int.reduceToNat, Int.reduceAdd, Int.reduceSub, Int.reduceMul, Int.reduceNeg, zer_bytes, app_ofBytes, ofBytes_length, flats_ofBytes, hards_ofBytes, leadss_ofBytes, refsOfs_ofBytes, rens_ofBytes, bytesOf_ofBytes, sub_ofBytes, take_ofBytes, drop_ofBytes, get_ofBytes, over_ofBytes_all, over_ofBytes, ofBytes_snoc, go_word, w1, w2, hd]
theorem go_basic {k : Int} {p : List UInt8} {n : Nat} (hn : n = p.length) (hp : p.length ≤ 1000000000000) : S E F.ref07_basic [.agg [.int .i64 k, .lst (ofBytes p) n]] [] = some (.int .i64 (objE k p.length), []) := by
  subst hn
  have w1 : S E F.ref07_If [.bool (decide (1048576 < (p.length : Int))), .int .i64 2] [] = some (.int .i64 (eLong p.length), []) := go_if
  have w2 : S E F.ref07_If [.bool (wordF k == []), .int .i64 9] [] = some (.int .i64 (eWord k), []) := go_if
  have hd : S E F.ref07_Least [.lst [.int .i64 (eWord k), .int .i64 (eLong p.length)] 2] [] = some (.int .i64 (objE k p.length), []) := by rw [objE_eq, minE_sw]; exact go_rleast2
  rw [S_of fn_ref07_basic rfl rfl]
  simp (dsimp := false) (disch := first | omega | (simp only [strs_length, List.length_set, List.length_replicate, words_length, ofBytes_length, List.length_append, List.length_cons, List.length_nil, List.length_take, List.length_drop, ints64_length] <;> omega) | fail) only [L.ref07_basic, go_sem, reduceIte, reduceCtorEq, Nat.reduceEqDiff, Nat.reduceAdd, Nat.reduceSub, Nat.reduceMul, Nat.reduceDiv, Nat.reduceMod, Nat.reduceBEq, Nat.reduceLeDiff, Nat.reduceLT, Int.reduceEq, Int.reduceNe, Int.reduceLT, Int.reduceLE, Int.reduceBEq, Int.reduceBNe, Int.reduceToNat, Int.reduceAdd, Int.reduceSub, Int.reduceMul, Int.reduceNeg, zer_bytes, app_ofBytes, ofBytes_length, flats_ofBytes, hards_ofBytes, leadss_ofBytes, refsOfs_ofBytes, rens_ofBytes, bytesOf_ofBytes, sub_ofBytes, take_ofBytes, drop_ofBytes, get_ofBytes, over_ofBytes_all, over_ofBytes, ofBytes_snoc, go_rword, w1, w2, hd]
end Cod

/- Ids: Id, DocId. -/
namespace Cod
open Go

theorem rep_bytes (n : Nat) : rep [.int .u8 0] n = ofBytes (List.replicate n 0) := by
  induction n with
  | zero => rfl
  | succ n ih => rw [rep, ih, List.replicate_succ]; rfl
theorem appV_nilsL {t : Site} {sz bytes m : Nat} {vs : List AV} {u : Ups} {ss : List Site} : appV t sz bytes m vs u ss .nils = if m * bytes ≤ 140737488355328 then mkBuf t vs m sz u else .fail := rfl
theorem appzV_intL {t : Site} {sz bytes : Nat} {zero : List AV} {s : AV} {m : Int} : appzV t sz bytes zero s (.int .i64 m) = if 0 ≤ m ∧ m ≤ 140737488355328 then appV t sz bytes m.toNat (rep zero m.toNat) [] [] s else .fail := rfl
theorem go_growB {n : Nat} (h0 : 0 < n) (hn : n ≤ 4000000) : S E F.slices_Grow_Sbyte_byte [.nils, .int .i64 n] [] =
    some (.buf (.r 0) 0 0 0 1, [(.r 0, ⟨0, true, true, false, ofBytes (List.replicate n 0)⟩)]) := by
  rw [S_of fn_slices_Grow_Sbyte_byte rfl rfl]
  simp (dsimp := false) (disch := first | omega | (simp only [strs_length, List.length_set, List.length_replicate, words_length, ofBytes_length, List.length_append, List.length_cons, List.length_nil, List.length_take, List.length_drop, ints64_length] <;> omega) | fail) only [L.slices_Grow_Sbyte_byte, go_sem, reduceIte, reduceCtorEq, Nat.reduceEqDiff, Nat.reduceAdd, Nat.reduceSub, Nat.reduceMul, Nat.reduceDiv, Nat.reduceMod, Nat.reduceBEq, Nat.reduceLeDiff, Nat.reduceLT, Int.reduceEq, Int.reduceNe, Int.reduceLT, Int.reduceLE, Int.reduceBEq, Int.reduceBNe, Int.reduceToNat, Int.reduceAdd, Int.reduceSub, Int.reduceMul, Int.reduceNeg, zer_bytes, app_ofBytes, ofBytes_length, flats_ofBytes, hards_ofBytes, leadss_ofBytes, refsOfs_ofBytes, rens_ofBytes, bytesOf_ofBytes, sub_ofBytes, take_ofBytes, drop_ofBytes, get_ofBytes, over_ofBytes_all, over_ofBytes, ofBytes_snoc, Int.sub_zero, rep_bytes, appV_nilsL, appzV_intL]
theorem sub_00B (l : List UInt8) : sub l 0 0 = [] := by simp [sub]
theorem sub_fullB {l : List UInt8} {n : Nat} (h : n = l.length) : sub l 0 n = l := by simp [sub, h]
theorem go_concat2 {a b : List UInt8} (h0 : 0 < a.length) (ha : a.length ≤ 1000000) (hb : b.length ≤ 2000000) :
    S E F.slices_Concat_Sbyte_byte [.lst [.lst (ofBytes a) a.length, .lst (ofBytes b) b.length] 2] [] =
    some (.buf (.r 0) 0 0 (a ++ b).length 1, [(.r 0, ⟨0, true, true, false, ofBytes (a ++ b)⟩)]) := by
  have hg := go_growB (n := a.length + b.length) (by omega) (by omega)
  have e1 : (0 + (a.length : Int) + b.length) = ((a.length + b.length : Nat) : Int) := by omega
  rw [S_of fn_slices_Concat_Sbyte_byte rfl rfl]
  simp (dsimp := false) (disch := first | omega | (simp only [strs_length, List.length_set, List.length_replicate, words_length, ofBytes_length, List.length_append, List.length_cons, List.length_nil, List.length_take, List.length_drop, ints64_length] <;> omega) | fail) only [L.slices_Concat_Sbyte_byte, L.slices_Concat_Sbyte_byte.x0, go_sem, reduceIte, reduceCtorEq, Nat.reduceEqDiff, Nat.reduceAdd, Nat.reduceSub, Nat.reduceMul, Nat.reduceDiv, Nat.reduceMod, Nat.reduceBEq, Nat.reduceLeDiff, Nat.reduceLT, Int.reduceEq, Int.reduceNe, Int.reduceLT, Int.reduceLE, Int.reduceBEq, Int.reduceBNe, Int.reduceToNat, Int.reduceAdd, Int.reduceSub, Int.reduceMul, Int.reduceNeg, zer_bytes, app_ofBytes, ofBytes_length, flats_ofBytes, hards_ofBytes, leadss_ofBytes, refsOfs_ofBytes, rens_ofBytes, bytesOf_ofBytes, sub_ofBytes, take_ofBytes, drop_ofBytes, get_ofBytes, over_ofBytes_all, over_ofBytes, ofBytes_snoc]
  rw [e1]
  simp (dsimp := false) (disch := first | omega | (simp only [strs_length, List.length_set, List.length_replicate, words_length, ofBytes_length, List.length_append, List.length_cons, List.length_nil, List.length_take, List.length_drop, ints64_length] <;> omega) | fail) only [L.slices_Concat_Sbyte_byte.r0, L.slices_Concat_Sbyte_byte.x1, L.slices_Concat_Sbyte_byte.r1, go_sem, reduceIte, reduceCtorEq, Nat.reduceEqDiff, Nat.reduceAdd, Nat.reduceSub, Nat.reduceMul, Nat.reduceDiv, Nat.reduceMod, Nat.reduceBEq, Nat.reduceLeDiff, Nat.reduceLT, Int.reduceEq, Int.reduceNe, Int.reduceLT, Int.reduceLE, Int.reduceBEq, Int.reduceBNe, Int.reduceToNat, Int.reduceAdd, Int.reduceSub, Int.reduceMul, Int.reduceNeg, zer_bytes, app_ofBytes, ofBytes_length, flats_ofBytes, hards_ofBytes, leadss_ofBytes, refsOfs_ofBytes, rens_ofBytes, bytesOf_ofBytes, sub_ofBytes, take_ofBytes, drop_ofBytes, get_ofBytes, over_ofBytes_all, over_ofBytes, ofBytes_snoc, hg, appV_nilsL, appzV_intL, sub_00B, Nat.zero_mul, Nat.zero_add, sub_fullB, List.nil_append]
  rw [List.length_append]
theorem go_twin {a : List UInt8} {n : Nat} (hn : n = a.length) (h : a.length ≤ 1000000000000) : S E F.ref01_Twin [.lst (ofBytes a) n] [] = some (.buf (.r 0) 0 0 n 1, [(.r 0, ⟨0, true, true, false, ofBytes a⟩)]) := by
  rw [S_of fn_ref01_Twin rfl rfl]
  simp (dsimp := false) (disch := first | omega | (simp only [strs_length, List.length_set, List.length_replicate, words_length, ofBytes_length, List.length_append, List.length_cons, List.length_nil, List.length_take, List.length_drop, ints64_length] <;> omega) | fail) only [L.ref01_Twin, go_sem, reduceIte, reduceCtorEq, Nat.reduceEqDiff, Nat.reduceAdd, Nat.reduceSub, Nat.reduceMul, Nat.reduceDiv, Nat.reduceMod, Nat.reduceBEq, Nat.reduceLeDiff, Nat.reduceLT, Int.reduceEq, Int.reduceNe, Int.reduceLT, Int.reduceLE, Int.reduceBEq, Int.reduceBNe, Int.reduceToNat, Int.reduceAdd, Int.reduceSub, Int.reduceMul, Int.reduceNeg, zer_bytes, app_ofBytes, ofBytes_length, flats_ofBytes, hards_ofBytes, leadss_ofBytes, refsOfs_ofBytes, rens_ofBytes, bytesOf_ofBytes, sub_ofBytes, take_ofBytes, drop_ofBytes, get_ofBytes, over_ofBytes_all, over_ofBytes, ofBytes_snoc]
/-- An object's id. -/
def idF (k : Int) (p : List UInt8) : List UInt8 := if objE k p.length = 0 then shaF (hdrT k p.length ++ p) else List.replicate 32 0
def idV (k : Int) (p : List UInt8) : AV := .tup [.agg (ofBytes (idF k p)), .int .i64 (objE k p.length)]
theorem hdr_of_obj {k : Int} {n : Nat} (h : objE k n = 0) : hdrE k n = 0 ∧ n ≤ 1048576 := by
  unfold objE hdrE eSize at *
  unfold minE at *
  simp only [List.foldl_cons, List.foldl_nil, lst2] at *
  have : n ≤ 1048576 := by
    by_cases h1 : 1048576 < n
    · exfalso
      rw [decide_eq_true h1] at h
      generalize eWord k = w at h
      simp only [if_true] at h
      by_cases a : w = 0 <;> by_cases b : w < 2 <;> simp [a, b] at h
    · omega
  refine ⟨?_, this⟩
  rw [decide_eq_false (by omega : ¬ 1048576 < n)] at h
  rw [decide_eq_false (by omega : ¬ (n : Int) < 0), decide_eq_false (by omega : ¬ 1048576 < (n : Int))]
  generalize eWord k = w at h
  simpa using h
theorem hdrT_pos (k n : Int) : 0 < (hdrT k n).length := by unfold hdrT; simp only [List.length_append, List.length_cons, List.length_nil]; omega
theorem go_oid {k : Int} {p : List UInt8} {n : Nat} (hn : n = p.length) (hp : p.length ≤ 1000000000000) : S E F.object_Id [.agg [.int .i64 k, .lst (ofBytes p) n]] [] = some (idV k p, []) := by
  subst hn
  have h1 := go_plain (k := k) (p := p) rfl hp
  have h2 := go_header (k := k) (n := p.length) (by omega) (by omega)
  rw [S_of fn_object_Id rfl rfl]
  unfold idV idF
  by_cases e : objE k p.length = 0
  · obtain ⟨e1, e2⟩ := hdr_of_obj e
    unfold hdrV at h2
    rw [if_pos e1] at h2
    have hl := hdrT_len (k := k) (n := p.length) (by omega) (by omega)
    have h0 := hdrT_pos k p.length
    generalize hdrT k p.length = t at *
    have h3 := go_concat2 (a := t) (b := p) h0 (by omega) (by omega)
    have h4 := go_sum (p := t ++ p) (by rw [List.length_append]; omega)
    have hs : (shaF (t ++ p)).length = 32 := by unfold shaF; simp [idOf]
    simp (dsimp := false) (disch := first | omega | (simp only [strs_length, List.length_set, List.length_replicate, words_length, ofBytes_length, List.length_append, List.length_cons, List.length_nil, List.length_take, List.length_drop, ints64_length] <;> omega) | fail) only [L.object_Id, go_sem, reduceIte, reduceCtorEq, Nat.reduceEqDiff, Nat.reduceAdd, Nat.reduceSub, Nat.reduceMul, Nat.reduceDiv, Nat.reduceMod, Nat.reduceBEq, Nat.reduceLeDiff, Nat.reduceLT, Int.reduceEq, Int.reduceNe, Int.reduceLT, Int.reduceLE, Int.reduceBEq, Int.reduceBNe, Int.reduceToNat, Int.reduceAdd, Int.reduceSub, Int.reduceMul, Int.reduceNeg, zer_bytes, app_ofBytes, ofBytes_length, flats_ofBytes, hards_ofBytes, leadss_ofBytes, refsOfs_ofBytes, rens_ofBytes, bytesOf_ofBytes, sub_ofBytes, take_ofBytes, drop_ofBytes, get_ofBytes, over_ofBytes_all, over_ofBytes, ofBytes_snoc, h1, e, h2, h3, h4]
  · simp (dsimp := false) (disch := first | omega | (simp only [strs_length, List.length_set, List.length_replicate, words_length, ofBytes_length, List.length_append, List.length_cons, List.length_nil, List.length_take, List.length_drop, ints64_length] <;> omega) | fail) only [L.object_Id, go_sem, reduceIte, reduceCtorEq, Nat.reduceEqDiff, Nat.reduceAdd, Nat.reduceSub, Nat.reduceMul, Nat.reduceDiv, Nat.reduceMod, Nat.reduceBEq, Nat.reduceLeDiff, Nat.reduceLT, Int.reduceEq, Int.reduceNe, Int.reduceLT, Int.reduceLE, Int.reduceBEq, Int.reduceBNe, Int.reduceToNat, Int.reduceAdd, Int.reduceSub, Int.reduceMul, Int.reduceNeg, zer_bytes, app_ofBytes, ofBytes_length, flats_ofBytes, hards_ofBytes, leadss_ofBytes, refsOfs_ofBytes, rens_ofBytes, bytesOf_ofBytes, sub_ofBytes, take_ofBytes, drop_ofBytes, get_ofBytes, over_ofBytes_all, over_ofBytes, ofBytes_snoc, h1, e, List.length_replicate]
theorem go_rid {k : Int} {p : List UInt8} {n : Nat} (hn : n = p.length) (hp : p.length ≤ 2000000) : S E F.ref07_Id [.agg [.int .i64 k, .lst (ofBytes p) n]] [] = some (.agg (ofBytes (shaF (hdrT k p.length ++ p))), []) := by
  subst hn
  have h2 := go_rheader (k := k) (n := p.length) (by omega) (by omega)
  have hl := hdrT_len (k := k) (n := p.length) (by omega) (by omega)
  generalize hdrT k p.length = t at *
  have h4 := go_rsum (p := t ++ p) (by rw [List.length_append]; omega)
  have hs : (shaF (t ++ p)).length = 32 := by unfold shaF; simp [idOf]
  rw [List.length_append] at h4
  rw [S_of fn_ref07_Id rfl rfl]
  simp (dsimp := false) (disch := first | omega | (simp only [strs_length, List.length_set, List.length_replicate, words_length, ofBytes_length, List.length_append, List.length_cons, List.length_nil, List.length_take, List.length_drop, ints64_length] <;> omega) | fail) only [L.ref07_Id, go_sem, reduceIte, reduceCtorEq, Nat.reduceEqDiff, Nat.reduceAdd, Nat.reduceSub, Nat.reduceMul, Nat.reduceDiv, Nat.reduceMod, Nat.reduceBEq, Nat.reduceLeDiff, Nat.reduceLT, Int.reduceEq, Int.reduceNe, Int.reduceLT, Int.reduceLE, Int.reduceBEq, Int.reduceBNe, Int.reduceToNat, Int.reduceAdd, Int.reduceSub, Int.reduceMul, Int.reduceNeg, zer_bytes, app_ofBytes, ofBytes_length, flats_ofBytes, hards_ofBytes, leadss_ofBytes, refsOfs_ofBytes, rens_ofBytes, bytesOf_ofBytes, sub_ofBytes, take_ofBytes, drop_ofBytes, get_ofBytes, over_ofBytes_all, over_ofBytes, ofBytes_snoc, h2, h4]
theorem go_docid {k : Int} {p : List UInt8} {n : Nat} (hn : n = p.length) (hp : p.length ≤ 1000000000000) : S E F.ref07_DocId [.agg [.int .i64 k, .lst (ofBytes p) n]] [] = some (idV k p, []) := by
  subst hn
  have h1 := go_basic (k := k) (p := p) rfl hp
  rw [S_of fn_ref07_DocId rfl rfl]
  unfold idV idF
  by_cases e : objE k p.length = 0
  · obtain ⟨_, e2⟩ := hdr_of_obj e
    have h2 := go_rid (k := k) (p := p) rfl (by omega)
    have hs : (shaF (hdrT k p.length ++ p)).length = 32 := by unfold shaF; simp [idOf]
    simp (dsimp := false) (disch := first | omega | (simp only [strs_length, List.length_set, List.length_replicate, words_length, ofBytes_length, List.length_append, List.length_cons, List.length_nil, List.length_take, List.length_drop, ints64_length] <;> omega) | fail) only [L.ref07_DocId, go_sem, reduceIte, reduceCtorEq, Nat.reduceEqDiff, Nat.reduceAdd, Nat.reduceSub, Nat.reduceMul, Nat.reduceDiv, Nat.reduceMod, Nat.reduceBEq, Nat.reduceLeDiff, Nat.reduceLT, Int.reduceEq, Int.reduceNe, Int.reduceLT, Int.reduceLE, Int.reduceBEq, Int.reduceBNe, Int.reduceToNat, Int.reduceAdd, Int.reduceSub, Int.reduceMul, Int.reduceNeg, zer_bytes, app_ofBytes, ofBytes_length, flats_ofBytes, hards_ofBytes, leadss_ofBytes, refsOfs_ofBytes, rens_ofBytes, bytesOf_ofBytes, sub_ofBytes, take_ofBytes, drop_ofBytes, get_ofBytes, over_ofBytes_all, over_ofBytes, ofBytes_snoc, h1, e, h2]
  · simp (dsimp := false) (disch := first | omega | (simp only [strs_length, List.length_set, List.length_replicate, words_length, ofBytes_length, List.length_append, List.length_cons, List.length_nil, List.length_take, List.length_drop, ints64_length] <;> omega) | fail) only [L.ref07_DocId, go_sem, reduceIte, reduceCtorEq, Nat.reduceEqDiff, Nat.reduceAdd, Nat.reduceSub, Nat.reduceMul, Nat.reduceDiv, Nat.reduceMod, Nat.reduceBEq, Nat.reduceLeDiff, Nat.reduceLT, Int.reduceEq, Int.reduceNe, Int.reduceLT, Int.reduceLE, Int.reduceBEq, Int.reduceBNe, Int.reduceToNat, Int.reduceAdd, Int.reduceSub, Int.reduceMul, Int.reduceNeg, zer_bytes, app_ofBytes, ofBytes_length, flats_ofBytes, hards_ofBytes, leadss_ofBytes, refsOfs_ofBytes, rens_ofBytes, bytesOf_ofBytes, sub_ofBytes, take_ofBytes, drop_ofBytes, get_ofBytes, over_ofBytes_all, over_ofBytes, ofBytes_snoc, h1, e, List.length_replicate]
theorem idF_len (k : Int) (p : List UInt8) : (idF k p).length = 32 := by
  unfold idF; split
  · unfold shaF; simp [idOf]
  · simp
end Cod

/- The error of entries: the loop. -/
namespace Cod
open Go

def modeOK (m : Int) : Bool := decide (m = 16384) || (decide (m = 33188) || (decide (m = 33261) || decide (m = 40960)))
theorem ge_mode {m : Int} : S E F.names_Mode [.int .i64 m] [] = some (.bool (modeOK m), []) := by
  rw [S_of fn_names_Mode rfl rfl]
  unfold modeOK
  by_cases a : m = 16384
  · simp (dsimp := false) (disch := first | omega | (simp only [strs_length, List.length_set, List.length_replicate, words_length, ofBytes_length, List.length_append, List.length_cons, List.length_nil, List.length_take, List.length_drop, etys_length, ints64_length] <;> omega) | fail) only [L.names_Mode, go_sem, reduceIte, reduceCtorEq, Nat.reduceEqDiff, Nat.reduceAdd, Nat.reduceSub, Nat.reduceMul, Nat.reduceDiv, Nat.reduceMod, Nat.reduceBEq, Nat.reduceLeDiff, Nat.reduceLT, Int.reduceEq, Int.reduceNe, Int.reduceLT, Int.reduceLE, Int.reduceBEq, Int.reduceBNe, Int.reduceToNat, Int.reduceAdd, Int.reduceSub, Int.reduceMul, Int.reduceNeg, a]
  · by_cases b : m = 33188
    · simp (dsimp := false) (disch := first | omega | (simp only [strs_length, List.length_set, List.length_replicate, words_length, ofBytes_length, List.length_append, List.length_cons, List.length_nil, List.length_take, List.length_drop, etys_length, ints64_length] <;> omega) | fail) only [L.names_Mode, go_sem, reduceIte, reduceCtorEq, Nat.reduceEqDiff, Nat.reduceAdd, Nat.reduceSub, Nat.reduceMul, Nat.reduceDiv, Nat.reduceMod, Nat.reduceBEq, Nat.reduceLeDiff, Nat.reduceLT, Int.reduceEq, Int.reduceNe, Int.reduceLT, Int.reduceLE, Int.reduceBEq, Int.reduceBNe, Int.reduceToNat, Int.reduceAdd, Int.reduceSub, Int.reduceMul, Int.reduceNeg, a, b]
    · by_cases c : m = 33261
      · simp (dsimp := false) (disch := first | omega | (simp only [strs_length, List.length_set, List.length_replicate, words_length, ofBytes_length, List.length_append, List.length_cons, List.length_nil, List.length_take, List.length_drop, etys_length, ints64_length] <;> omega) | fail) only [L.names_Mode, go_sem, reduceIte, reduceCtorEq, Nat.reduceEqDiff, Nat.reduceAdd, Nat.reduceSub, Nat.reduceMul, Nat.reduceDiv, Nat.reduceMod, Nat.reduceBEq, Nat.reduceLeDiff, Nat.reduceLT, Int.reduceEq, Int.reduceNe, Int.reduceLT, Int.reduceLE, Int.reduceBEq, Int.reduceBNe, Int.reduceToNat, Int.reduceAdd, Int.reduceSub, Int.reduceMul, Int.reduceNeg, a, b, c]
      · by_cases d : m = 40960
        · simp (dsimp := false) (disch := first | omega | (simp only [strs_length, List.length_set, List.length_replicate, words_length, ofBytes_length, List.length_append, List.length_cons, List.length_nil, List.length_take, List.length_drop, etys_length, ints64_length] <;> omega) | fail) only [L.names_Mode, go_sem, reduceIte, reduceCtorEq, Nat.reduceEqDiff, Nat.reduceAdd, Nat.reduceSub, Nat.reduceMul, Nat.reduceDiv, Nat.reduceMod, Nat.reduceBEq, Nat.reduceLeDiff, Nat.reduceLT, Int.reduceEq, Int.reduceNe, Int.reduceLT, Int.reduceLE, Int.reduceBEq, Int.reduceBNe, Int.reduceToNat, Int.reduceAdd, Int.reduceSub, Int.reduceMul, Int.reduceNeg, a, b, c, d]
        · simp (dsimp := false) (disch := first | omega | (simp only [strs_length, List.length_set, List.length_replicate, words_length, ofBytes_length, List.length_append, List.length_cons, List.length_nil, List.length_take, List.length_drop, etys_length, ints64_length] <;> omega) | fail) only [L.names_Mode, go_sem, reduceIte, reduceCtorEq, Nat.reduceEqDiff, Nat.reduceAdd, Nat.reduceSub, Nat.reduceMul, Nat.reduceDiv, Nat.reduceMod, Nat.reduceBEq, Nat.reduceLeDiff, Nat.reduceLT, Int.reduceEq, Int.reduceNe, Int.reduceLT, Int.reduceLE, Int.reduceBEq, Int.reduceBNe, Int.reduceToNat, Int.reduceAdd, Int.reduceSub, Int.reduceMul, Int.reduceNeg, a, b, c, d]
theorem nameOK_len {s : List UInt8} (h : nameOK s = true) : s.length ≤ 100 := by
  unfold nameOK at h
  simp only [Bool.and_eq_true, decide_eq_true_eq] at h
  exact h.1.1.1.1.1.2
theorem ge_name {s : List UInt8} : S E F.names_Name [.str s] [] = some (.bool (nameOK s), []) := by
  by_cases h : s.length ≤ 1000000
  · exact S_ext ext0 (go_name h)
  · have e : nameOK s = false := by
      cases hn : nameOK s with
      | false => rfl
      | true => have := nameOK_len hn; omega
    rw [e, S_of fn_names_Name rfl rfl]
    have e1 : (s == []) = false := by
      cases s with
      | nil => simp at h
      | cons a t => rfl
    have e2 : (s == [46]) = false := by
      rw [← Bool.not_eq_true, beq_iff_eq]; intro he; rw [he] at h; simp at h
    have e3 : (s == [46, 46]) = false := by
      rw [← Bool.not_eq_true, beq_iff_eq]; intro he; rw [he] at h; simp at h
    simp (dsimp := false) (disch := first | omega | (simp only [strs_length, List.length_set, List.length_replicate, words_length, ofBytes_length, List.length_append, List.length_cons, List.length_nil, List.length_take, List.length_drop, etys_length, ints64_length] <;> omega) | fail) only [L.names_Name, go_sem, reduceIte, reduceCtorEq, Nat.reduceEqDiff, Nat.reduceAdd, Nat.reduceSub, Nat.reduceMul, Nat.reduceDiv, Nat.reduceMod, Nat.reduceBEq, Nat.reduceLeDiff, Nat.reduceLT, Int.reduceEq, Int.reduceNe, Int.reduceLT, Int.reduceLE, Int.reduceBEq, Int.reduceBNe, Int.reduceToNat, Int.reduceAdd, Int.reduceSub, Int.reduceMul, Int.reduceNeg, e1, e2, e3]
theorem strs_set {ks : List (List UInt8)} {n : List UInt8} (h : n ∈ ks) : (strs ks).set (ks.idxOf n) (.str n) = strs ks := by
  apply List.ext_getElem?
  intro j
  rw [List.getElem?_set]
  split
  · rename_i hj
    subst hj
    have hi := List.idxOf_lt_length_of_mem h
    rw [if_pos (by simpa [strs] using hi)]
    unfold strs
    rw [List.getElem?_map, List.getElem?_eq_getElem hi]
    simp [List.getElem_idxOf]
  · rfl
theorem ints_set (vs : List Int) (j : Nat) (v : Int) : (ints64 vs).set j (.int .i64 v) = ints64 (vs.set j v) := by simp [ints64, List.map_set]
theorem ints_snoc (vs : List Int) (v : Int) : ints64 vs ++ [.int .i64 v] = ints64 (vs ++ [v]) := by simp [ints64]
theorem ints_at {vs : List Int} {j : Nat} {v : Int} (h : vs[j]? = some v) : (ints64 vs)[j]? = some (.int .i64 v) := by simp [ints64, h]
def eName (e : Ety) : Int := if !nameOK e.name then 3 else 0
def eMode (e : Ety) : Int := if !modeOK e.mode then 4 else 0
def eOrd (l : List Ety) (i : Nat) : Int := if decide (0 < i) && decide (0 ≤ cmpB (keyE (eat l (i - 1))) (keyE (eat l i))) then 4 else 0
def eDup (l : List Ety) (i : Nat) : Int := if decide ((eat l i).name ∈ (l.take i).map (·.name)) then 8 else 0
def entI (l : List Ety) : Nat → Nat → Int → Nat → Int × Nat
  | 0, _, w, z => (w, z)
  | m + 1, i, w, z => entI l m (i + 1) (minE [w, eName (eat l i), eMode (eat l i), eOrd l i, eDup l i]) (z + ((octT (eat l i).mode).length + (eat l i).name.length + 34))
theorem ent_l0 {l : List Ety} (hl : l.length ≤ 4096) (hn : ∀ i, (eat l i).name.length ≤ 1000000000) (hm : ∀ i, -9223372036854775808 ≤ (eat l i).mode ∧ (eat l i).mode ≤ 9223372036854775807) : ∀ (m i z : Nat) (w : Int) (ks : List (List UInt8)) (vs : List Int), i + m = l.length → z ≤ i * 2000000000 → MapOK ((l.take i).map (·.name)) ks vs →
    ∃ ks' vs', X E [.tmp 2] (.c L.object_entries.x0 :: .lp [0, 3, 4, 5, 12, 13, 14] L.object_entries.x0 :: .blk 0 :: [.c L.object_entries.r0]) ⟨[(0, .lst (etys l) l.length), (3, .int .i64 w), (4, .int .i64 z), (5, .mpr (.s 1000000 0) 0), (12, .lst (etys l) l.length), (13, .int .i64 l.length), (14, .int .i64 i)], [(.s 1000000 0, ⟨0, true, true, true, [.mp (strs ks) (ints64 vs)]⟩)]⟩ =
    X E [.tmp 2] [.c L.object_entries.r0] ⟨[(0, .lst (etys l) l.length), (3, .int .i64 (entI l m i w z).1), (4, .int .i64 (entI l m i w z).2), (5, .mpr (.s 1000000 0) 0), (12, .lst (etys l) l.length), (13, .int .i64 l.length), (14, .int .i64 l.length), (15, .bool false)], [(.s 1000000 0, ⟨0, true, true, true, [.mp (strs ks') (ints64 vs')]⟩)]⟩ := by
  intro m
  induction m with
  | zero =>
    intro i z w ks vs h hz hM
    obtain rfl : i = l.length := by omega
    refine ⟨ks, vs, ?_⟩
    rw [X_in L.object_entries.x0.eq_1, entI]
    simp (dsimp := false) (disch := first | omega | (simp only [strs_length, List.length_set, List.length_replicate, words_length, ofBytes_length, List.length_append, List.length_cons, List.length_nil, List.length_take, List.length_drop, etys_length, ints64_length] <;> omega) | fail) only [go_sem, reduceIte, reduceCtorEq, Nat.reduceEqDiff, Nat.reduceAdd, Nat.reduceSub, Nat.reduceMul, Nat.reduceDiv, Nat.reduceMod, Nat.reduceBEq, Nat.reduceLeDiff, Nat.reduceLT, Int.reduceEq, Int.reduceNe, Int.reduceLT, Int.reduceLE, Int.reduceBEq, Int.reduceBNe, Int.reduceToNat, Int.reduceAdd, Int.reduceSub, Int.reduceMul, Int.reduceNeg, strs_length, flats_strs, hards_strs, leadss_strs, refsOfs_strs, rens_strs, strs_snoc, get_strs]
  | succ m ih =>
    intro i z w ks vs h hz hM
    have hlt : i < l.length := by omega
    have hf := go_format8 (hm i).1 (hm i).2
    have hol := octT_len (eat l i).mode
    have hnl := hn i
    have hnm := ge_name (s := (eat l i).name)
    have hmd := ge_mode (m := (eat l i).mode)
    have w1 : S E F.object_when [.bool (!nameOK (eat l i).name), .int .i64 3] [] = some (.int .i64 (eName (eat l i)), []) := go_when
    have w2 : S E F.object_when [.bool (!modeOK (eat l i).mode), .int .i64 4] [] = some (.int .i64 (eMode (eat l i)), []) := go_when
    have wl := go_least (l := [w, eName (eat l i), eMode (eat l i), eOrd l i, eDup l i]) (by simp)
    simp only [ints64, List.map_cons, List.map_nil, List.length_cons, List.length_nil] at wl
    have htake : (l.take (i + 1)).map (·.name) = (l.take i).map (·.name) ++ [(eat l i).name] := by
      rw [List.take_succ_eq_append_getElem hlt, List.map_append]
      simp [eat, List.getD, hlt]
    have hseen : ((l.take i).map (·.name)).length ≤ 4096 := by rw [List.length_map, List.length_take]; omega
    rw [X_in L.object_entries.x0.eq_1, entI]
    by_cases hin : (eat l i).name ∈ ks
    · obtain ⟨v, hv, v1, v2, hM2⟩ := hM.old hin
      rw [← htake] at hM2
      have hv2 := ints_at hv
      have hw : IntKind.i64.wrap (v + 1) = v + 1 := wrap_i64 (by omega) (by omega)
      have hv3 : (ints64 (vs.set (ks.idxOf (eat l i).name) (v + 1)))[ks.idxOf (eat l i).name]? = some (.int .i64 (v + 1)) := ints_at (by
        rw [List.getElem?_set, if_pos rfl, if_pos (List.getElem?_eq_some_iff.1 hv).1])
      have hfk : findK true (.str (eat l i).name) (strs ks) 0 = some (some (ks.idxOf (eat l i).name)) := by rw [findK_strs, if_pos hin, Nat.zero_add]
      have w4 : S E F.object_when [.bool true, .int .i64 8] [] = some (.int .i64 (eDup l i), []) := by
        have e : eDup l i = 8 := by unfold eDup; rw [decide_eq_true ((hM.mem _).1 hin)]; rfl
        rw [e]; exact go_when (b := true)
      obtain ⟨ks', vs', ih2⟩ := ih (i + 1) (z + ((octT (eat l i).mode).length + (eat l i).name.length + 34)) (minE [w, eName (eat l i), eMode (eat l i), eOrd l i, eDup l i]) ks _ (by omega) (by omega) hM2
      simp only [Int.natCast_add, Int.cast_ofNat_Int] at ih2
      refine ⟨ks', vs', ?_⟩
      by_cases hi0 : 0 < i
      · have o1 := go_nOrder (a := eat l (i - 1)) (b := eat l i) (by have := hn (i - 1); omega) (by omega)
        have w3 : S E F.object_when [.bool (decide (0 ≤ cmpB (keyE (eat l (i - 1))) (keyE (eat l i)))), .int .i64 4] [] = some (.int .i64 (eOrd l i), []) := by
          have e : eOrd l i = if decide (0 ≤ cmpB (keyE (eat l (i - 1))) (keyE (eat l i))) = true then 4 else 0 := by unfold eOrd; rw [decide_eq_true hi0, Bool.true_and]
          rw [e]; exact go_when
        have e1 : (if (i : Int) - 1 < 0 then (0 : Int) else (i : Int) - 1) = ((i - 1 : Nat) : Int) := by rw [if_neg (by omega)]; omega
        simp (dsimp := false) (disch := first | omega | (simp only [strs_length, List.length_set, List.length_replicate, words_length, ofBytes_length, List.length_append, List.length_cons, List.length_nil, List.length_take, List.length_drop, etys_length, ints64_length] <;> omega) | fail) only [go_sem, reduceIte, reduceCtorEq, Nat.reduceEqDiff, Nat.reduceAdd, Nat.reduceSub, Nat.reduceMul, Nat.reduceDiv, Nat.reduceMod, Nat.reduceBEq, Nat.reduceLeDiff, Nat.reduceLT, Int.reduceEq, Int.reduceNe, Int.reduceLT, Int.reduceLE, Int.reduceBEq, Int.reduceBNe, Int.reduceToNat, Int.reduceAdd, Int.reduceSub, Int.reduceMul, Int.reduceNeg, strs_length, flats_strs, hards_strs, leadss_strs, refsOfs_strs, rens_strs, strs_snoc, get_strs, hf, hnm, hmd, hv2, hv3, hw, hfk, strs_set hin, ints_set, w1, w2, w3, w4, hi0, o1, wl, e1, toNat_cast, ih2]
      · have w3 : S E F.object_when [.bool false, .int .i64 4] [] = some (.int .i64 (eOrd l i), []) := by
          have e : eOrd l i = 0 := by unfold eOrd; rw [decide_eq_false hi0]; rfl
          rw [e]; exact go_when (b := false)
        simp (dsimp := false) (disch := first | omega | (simp only [strs_length, List.length_set, List.length_replicate, words_length, ofBytes_length, List.length_append, List.length_cons, List.length_nil, List.length_take, List.length_drop, etys_length, ints64_length] <;> omega) | fail) only [go_sem, reduceIte, reduceCtorEq, Nat.reduceEqDiff, Nat.reduceAdd, Nat.reduceSub, Nat.reduceMul, Nat.reduceDiv, Nat.reduceMod, Nat.reduceBEq, Nat.reduceLeDiff, Nat.reduceLT, Int.reduceEq, Int.reduceNe, Int.reduceLT, Int.reduceLE, Int.reduceBEq, Int.reduceBNe, Int.reduceToNat, Int.reduceAdd, Int.reduceSub, Int.reduceMul, Int.reduceNeg, strs_length, flats_strs, hards_strs, leadss_strs, refsOfs_strs, rens_strs, strs_snoc, get_strs, hf, hnm, hmd, hv2, hv3, hw, hfk, strs_set hin, ints_set, w1, w2, w3, w4, hi0, wl, ih2]
    · have hM2 := hM.new hin
      rw [← htake] at hM2
      have hfk : findK true (.str (eat l i).name) (strs ks) 0 = some none := by rw [findK_strs, if_neg hin]
      have hfk2 : findK true (.str (eat l i).name) (strs (ks ++ [(eat l i).name])) 0 = some (some ks.length) := by
        rw [findK_strs, if_pos (by simp), List.idxOf_append, if_neg hin]
        simp
      have hv3 : (ints64 (vs ++ [1]))[ks.length]? = some (.int .i64 1) := ints_at (by rw [← hM.len, List.getElem?_append_right (Nat.le_refl _), Nat.sub_self]; rfl)
      have w4 : S E F.object_when [.bool false, .int .i64 8] [] = some (.int .i64 (eDup l i), []) := by
        have e : eDup l i = 0 := by unfold eDup; rw [decide_eq_false (fun x => hin ((hM.mem _).2 x))]; rfl
        rw [e]; exact go_when (b := false)
      obtain ⟨ks', vs', ih2⟩ := ih (i + 1) (z + ((octT (eat l i).mode).length + (eat l i).name.length + 34)) (minE [w, eName (eat l i), eMode (eat l i), eOrd l i, eDup l i]) _ _ (by omega) (by omega) hM2
      simp only [Int.natCast_add, Int.cast_ofNat_Int] at ih2
      refine ⟨ks', vs', ?_⟩
      by_cases hi0 : 0 < i
      · have o1 := go_nOrder (a := eat l (i - 1)) (b := eat l i) (by have := hn (i - 1); omega) (by omega)
        have w3 : S E F.object_when [.bool (decide (0 ≤ cmpB (keyE (eat l (i - 1))) (keyE (eat l i)))), .int .i64 4] [] = some (.int .i64 (eOrd l i), []) := by
          have e : eOrd l i = if decide (0 ≤ cmpB (keyE (eat l (i - 1))) (keyE (eat l i))) = true then 4 else 0 := by unfold eOrd; rw [decide_eq_true hi0, Bool.true_and]
          rw [e]; exact go_when
        have e1 : (if (i : Int) - 1 < 0 then (0 : Int) else (i : Int) - 1) = ((i - 1 : Nat) : Int) := by rw [if_neg (by omega)]; omega
        simp (dsimp := false) (disch := first | omega | (simp only [strs_length, List.length_set, List.length_replicate, words_length, ofBytes_length, List.length_append, List.length_cons, List.length_nil, List.length_take, List.length_drop, etys_length, ints64_length] <;> omega) | fail) only [go_sem, reduceIte, reduceCtorEq, Nat.reduceEqDiff, Nat.reduceAdd, Nat.reduceSub, Nat.reduceMul, Nat.reduceDiv, Nat.reduceMod, Nat.reduceBEq, Nat.reduceLeDiff, Nat.reduceLT, Int.reduceEq, Int.reduceNe, Int.reduceLT, Int.reduceLE, Int.reduceBEq, Int.reduceBNe, Int.reduceToNat, Int.reduceAdd, Int.reduceSub, Int.reduceMul, Int.reduceNeg, strs_length, flats_strs, hards_strs, leadss_strs, refsOfs_strs, rens_strs, strs_snoc, get_strs, hf, hnm, hmd, hv3, hfk, hfk2, ints_snoc, w1, w2, w3, w4, hi0, o1, wl, e1, toNat_cast, ih2]
      · have w3 : S E F.object_when [.bool false, .int .i64 4] [] = some (.int .i64 (eOrd l i), []) := by
          have e : eOrd l i = 0 := by unfold eOrd; rw [decide_eq_false hi0]; rfl
          rw [e]; exact go_when (b := false)
        simp (dsimp := false) (disch := first | omega | (simp only [strs_length, List.length_set, List.length_replicate, words_length, ofBytes_length, List.length_append, List.length_cons, List.length_nil, List.length_take, List.length_drop, etys_length, ints64_length] <;> omega) | fail) only [go_sem, reduceIte, reduceCtorEq, Nat.reduceEqDiff, Nat.reduceAdd, Nat.reduceSub, Nat.reduceMul, Nat.reduceDiv, Nat.reduceMod, Nat.reduceBEq, Nat.reduceLeDiff, Nat.reduceLT, Int.reduceEq, Int.reduceNe, Int.reduceLT, Int.reduceLE, Int.reduceBEq, Int.reduceBNe, Int.reduceToNat, Int.reduceAdd, Int.reduceSub, Int.reduceMul, Int.reduceNeg, strs_length, flats_strs, hards_strs, leadss_strs, refsOfs_strs, rens_strs, strs_snoc, get_strs, hf, hnm, hmd, hv3, hfk, hfk2, ints_snoc, w1, w2, w3, w4, hi0, wl, ih2]
/-- What 'entries' answers. -/
def entE (l : List Ety) : Int := if 4096 < l.length then 2 else minE [(entI l l.length 0 0 0).1, if decide (1048576 < (entI l l.length 0 0 0).2) then 2 else 0]
theorem entI_z (l : List Ety) (hn : ∀ i, (eat l i).name.length ≤ 1000000000) : ∀ (m i z : Nat) (w : Int), z ≤ i * 2000000000 → (entI l m i w z).2 ≤ (i + m) * 2000000000 := by
  intro m
  induction m with
  | zero => intro i z w h; exact h
  | succ m ih =>
    intro i z w h
    rw [entI]
    have := ih (i + 1) (z + ((octT (eat l i).mode).length + (eat l i).name.length + 34)) (minE [w, eName (eat l i), eMode (eat l i), eOrd l i, eDup l i]) (by have := hn i; have := octT_len (eat l i).mode; omega)
    rw [show i + (m + 1) = i + 1 + m by omega]
    exact this
theorem go_entries {l : List Ety} (hn : ∀ i, (eat l i).name.length ≤ 1000000000) (hm : ∀ i, -9223372036854775808 ≤ (eat l i).mode ∧ (eat l i).mode ≤ 9223372036854775807) (hl : l.length ≤ 1000000000) : S E F.object_entries [.lst (etys l) l.length] [] = some (.int .i64 (entE l), []) := by
  rw [S_of fn_object_entries rfl rfl]
  unfold entE
  by_cases hlen : 4096 < l.length
  · rw [if_pos hlen]
    simp (dsimp := false) (disch := first | omega | (simp only [strs_length, List.length_set, List.length_replicate, words_length, ofBytes_length, List.length_append, List.length_cons, List.length_nil, List.length_take, List.length_drop, etys_length, ints64_length] <;> omega) | fail) only [L.object_entries, go_sem, reduceIte, reduceCtorEq, Nat.reduceEqDiff, Nat.reduceAdd, Nat.reduceSub, Nat.reduceMul, Nat.reduceDiv, Nat.reduceMod, Nat.reduceBEq, Nat.reduceLeDiff, Nat.reduceLT, Int.reduceEq, Int.reduceNe, Int.reduceLT, Int.reduceLE, Int.reduceBEq, Int.reduceBNe, Int.reduceToNat, Int.reduceAdd, Int.reduceSub, Int.reduceMul, Int.reduceNeg, hlen]
  · rw [if_neg hlen]
    obtain ⟨ks, vs, h⟩ := ent_l0 (l := l) (by omega) hn hm l.length 0 0 0 [] [] (by omega) (by omega) (by simpa using MapOK.nil)
    have hz := entI_z l hn l.length 0 0 0 (by omega)
    simp only [Int.cast_ofNat_Int, show strs [] = [] from rfl, show ints64 [] = [] from rfl] at h
    simp (dsimp := false) (disch := first | omega | (simp only [strs_length, List.length_set, List.length_replicate, words_length, ofBytes_length, List.length_append, List.length_cons, List.length_nil, List.length_take, List.length_drop, etys_length, ints64_length] <;> omega) | fail) only [L.object_entries, go_sem, reduceIte, reduceCtorEq, Nat.reduceEqDiff, Nat.reduceAdd, Nat.reduceSub, Nat.reduceMul, Nat.reduceDiv, Nat.reduceMod, Nat.reduceBEq, Nat.reduceLeDiff, Nat.reduceLT, Int.reduceEq, Int.reduceNe, Int.reduceLT, Int.reduceLE, Int.reduceBEq, Int.reduceBNe, Int.reduceToNat, Int.reduceAdd, Int.reduceSub, Int.reduceMul, Int.reduceNeg, hlen]
    rw [h]
    generalize (entI l l.length 0 0 0).1 = w at *
    generalize (entI l l.length 0 0 0).2 = z at *
    have w1 : S E F.object_when [.bool (decide (1048576 < (z : Int))), .int .i64 2] [] = some (.int .i64 (if decide (1048576 < z) then 2 else 0), []) := by
      rw [show decide (1048576 < (z : Int)) = decide (1048576 < z) from decide_eq_decide.2 (by omega)]; exact go_when
    have wl := go_least (l := [w, if decide (1048576 < z) then 2 else 0]) (by simp)
    simp only [ints64, List.map_cons, List.map_nil, List.length_cons, List.length_nil] at wl
    simp (dsimp := false) (disch := first | omega | (simp only [strs_length, List.length_set, List.length_replicate, words_length, ofBytes_length, List.length_append, List.length_cons, List.length_nil, List.length_take, List.length_drop, etys_length, ints64_length] <;> omega) | fail) only [L.object_entries.r0, go_sem, reduceIte, reduceCtorEq, Nat.reduceEqDiff, Nat.reduceAdd, Nat.reduceSub, Nat.reduceMul, Nat.reduceDiv, Nat.reduceMod, Nat.reduceBEq, Nat.reduceLeDiff, Nat.reduceLT, Int.reduceEq, Int.reduceNe, Int.reduceLT, Int.reduceLE, Int.reduceBEq, Int.reduceBNe, Int.reduceToNat, Int.reduceAdd, Int.reduceSub, Int.reduceMul, Int.reduceNeg, w1, wl]
end Cod

/- object.PutTree, walked in the model: what the walk needs. -/
namespace Cod
open Go Go.RowKit Go.Proofs Go.Shelf
set_option maxRecDepth 1000000

/-- The bytes of an entry, of entries. -/
def entB (e : Ety) : List UInt8 := octT e.mode ++ [32] ++ e.name ++ [0] ++ e.id
def treeB (l : List Ety) : List UInt8 := l.flatMap entB

def TreeOK (l : List Ety) : Prop := (∀ i, (eat l i).name.length ≤ 1000000000) ∧ (∀ i, -9223372036854775808 ≤ (eat l i).mode ∧ (eat l i).mode ≤ 9223372036854775807) ∧ l.length ≤ 1000000000
theorem ent_calls {l : List Ety} (hl : TreeOK l) {a : Option Addr} {cap : Nat} {w : World} (hW : Start w) (hv : VR (ctx [] LaE w) (.lst (etys l) l.length) (.slice a l.length cap)) :
    Calls Tryd.prog 24 #[.slice a l.length cap] w fun e w' => e = .returned (.int .i64 (entE l)) ∧ Below w.heap.size w w' :=
  e_calls Tryd.func24 (by rfl) (by kernel_rfl) (go_entries hl.1 hl.2.1 hl.2.2) hW (vs := [.slice a l.length cap]) (by simp only [VRL]; exact ⟨_, _, rfl, hv, rfl⟩) (fun c z hz => by simpa [VR] using hz)
theorem fmt_calls {m : Int} (h0 : -9223372036854775808 ≤ m) (h1 : m ≤ 9223372036854775807) {w : World} (hW : Start w) :
    Calls Tryd.prog 26 #[.int .i64 m, .int .i64 8] w fun e w' => e = .returned (.string ⟨(octT m).toArray⟩) ∧ Below w.heap.size w w' :=
  e_calls Tryd.func26 (by rfl) (by kernel_rfl) (go_format8 h0 h1) hW (vs := [.int .i64 m, .int .i64 8]) (by simp [VRL, VR]) (fun c z hz => by simpa [VR] using hz)
/-- An entry's cells in memory. -/
def valsE (e : Ety) : List Value := .int .i64 e.mode :: .string ⟨e.name.toArray⟩ :: Lib.byteCells e.id
theorem valsE_len (e : Ety) : (valsE e).length = 34 := by simp [valsE, Lib.byteCells_length, e.hid]
theorem vals_one (e : Ety) : (valsE e).toArray.all (·.oneCell') = true := by
  rw [Array.all_eq_true_iff_forall_mem]
  intro v hv
  simp only [List.mem_toArray, valsE, List.mem_cons] at hv
  rcases hv with rfl | rfl | hv
  · rfl
  · rfl
  · unfold Lib.byteCells at hv
    obtain ⟨b, _, rfl⟩ := List.mem_map.1 hv
    rfl
theorem vrl_bytes {c : Ctx} : ∀ {l : List UInt8} {vs : List Value}, VRL c (ofBytes l) vs → vs = Lib.byteCells l := by
  intro l
  induction l with
  | nil => intro vs h; simp only [ofBytes, List.map_nil, VRL] at h; rw [h]; rfl
  | cons a l ih =>
    intro vs h
    simp only [ofBytes, List.map_cons, VRL] at h
    obtain ⟨v, r, rfl, h1, h2⟩ := h
    rw [ih h2]
    simp only [VR] at h1
    rw [h1]; rfl
theorem ety_range {c : Ctx} {b o : Nat} {e : Ety} (h : VRC c b o e.cells) : c.w.rangeAt b o (valsE e) := by
  obtain ⟨vs, h1, h2⟩ := VRC_list h
  unfold Ety.cells at h1
  simp only [VRL, VR] at h1
  obtain ⟨v0, r0, rfl, rfl, v1, r1, rfl, rfl, h3⟩ := h1
  rw [vrl_bytes h3] at h2
  exact h2
theorem below_sets {B b : Nat} (hb : B ≤ b) : ∀ (vs : List Value) (o : Nat) {W w : World}, Below B W w → Below B W (w.setCells b o vs) := by
  intro vs
  induction vs with
  | nil => intro o W w h; exact h
  | cons v r ih => intro o W w h; exact ih (o + 1) (h.setCell (p := ⟨b, o, none⟩) hb v)
theorem size_sets (b : Nat) : ∀ (vs : List Value) (o : Nat) (w : World), (w.setCells b o vs).heap.size = w.heap.size := by
  intro vs
  induction vs with
  | nil => intro o w; rfl
  | cons v r ih => intro o w; show ((w.setCell _ v).setCells b (o + 1) r).heap.size = _; rw [ih]; simp [World.setCell]
theorem row_sets {b : Nat} {T : TypeId} : ∀ (vs : List Value) (o : Nat) (w : World), (∃ cs fr, w.heap[b]? = some (.cells cs T fr)) → ∃ cs fr, (w.setCells b o vs).heap[b]? = some (.cells cs T fr) := by
  intro vs
  induction vs with
  | nil => intro o w h; exact h
  | cons v r ih =>
    intro o w h
    refine ih (o + 1) _ ?_
    obtain ⟨cs, fr, h⟩ := h
    refine ⟨cs.setIfInBounds o v, fr, ?_⟩
    simp only [World.setCell, Array.getElem?_modify, if_true, h]
    rfl
theorem owns_mono {w : World} {B B' : Nat} {e sz n : Nat} {v : Value} {xs : List Value} (h : w.ownsRow B e sz v n xs) (hB : B' ≤ B) : w.ownsRow B' e sz v n xs := by
  obtain ⟨h1, h2⟩ := h
  refine ⟨h1, ?_⟩
  rcases h2 with h2 | ⟨g, cap, cur, q1, q2, q3⟩
  · exact .inl h2
  · exact .inr ⟨g, cap, cur, q1, Nat.le_trans hB q2, q3⟩
/-- A variable of the call's own. -/
structure VarAt (wr W3 : World) (T : TypeId) (vals : List Value) : Prop where
  below : Below wr.heap.size wr W3
  size : W3.heap.size = wr.heap.size + 1
  cell : ∀ j v, vals[j]? = some v → W3.cell? ⟨wr.heap.size, j, none⟩ = some v
  row : ∃ cs fr, W3.heap[wr.heap.size]? = some (.cells cs T fr)
theorem varAt_new (wr : World) (z : Array Value) (T : TypeId) (vals : List Value) (hz : z.size = vals.length) : VarAt wr ((wr.alloc (.cells z T)).setCells wr.heap.size 0 vals) T vals := by
  have hc : ∀ j, j < vals.length → ((wr.alloc (.cells z T)).cell? ⟨wr.heap.size, 0 + j, none⟩).isSome = true := by
    intro j hj
    simp only [World.cell?, heap_alloc_new]
    rw [if_neg (by simp), Nat.zero_add, Array.getElem?_eq_getElem (by omega)]
    rfl
  refine ⟨below_sets (Nat.le_refl _) _ _ ((Below.refl _ wr).alloc (Nat.le_refl _) _), ?_, ?_, row_sets _ _ _ ⟨_, _, heap_alloc_new wr _⟩⟩
  · rw [size_sets]; exact Array.size_push _
  · intro j v hv
    have hj := (List.getElem?_eq_some_iff.1 hv).1
    have := World.cell?_setCells_in wr.heap.size vals 0 _ hc j hj
    rw [Nat.zero_add] at this
    rw [this]
    rw [List.getElem?_eq_getElem hj] at hv
    exact hv
theorem with_var {wr : World} {z : Array Value} {T : TypeId} {vals : List Value} (hz : z.size = vals.length) {p : World → Prop} (h : ∀ W3, VarAt wr W3 T vals → p W3) : p ((wr.alloc (.cells z T)).setCells wr.heap.size 0 vals) := h _ (varAt_new wr z T vals hz)
theorem entB_len (e : Ety) : (entB e).length = (octT e.mode).length + e.name.length + 34 := by
  unfold entB; simp [e.hid]; omega
theorem treeB_take (l : List Ety) (k : Nat) : (treeB (l.take k)).length ≤ (treeB l).length := by
  have h : treeB l = treeB (l.take k) ++ treeB (l.drop k) := by unfold treeB; rw [← List.flatMap_append, List.take_append_drop]
  rw [h, List.length_append]; omega
theorem treeB_succ {l : List Ety} {k : Nat} (h : k < l.length) : treeB (l.take (k + 1)) = treeB (l.take k) ++ entB (eat l k) := by
  rw [List.take_succ_eq_append_getElem h]
  unfold treeB
  rw [List.flatMap_append]
  simp [eat, List.getD, h]
theorem entI_len (l : List Ety) : ∀ (m i z : Nat) (w : Int), i + m = l.length → (entI l m i w z).2 = z + (treeB (l.drop i)).length := by
  intro m
  induction m with
  | zero =>
    intro i z w h
    rw [List.drop_eq_nil_of_le (by omega)]
    simp [entI, treeB]
  | succ m ih =>
    intro i z w h
    have hlt : i < l.length := by omega
    rw [entI, ih (i + 1) _ _ (by omega), List.drop_eq_getElem_cons hlt]
    have he : eat l i = l[i] := by simp [eat, List.getD, hlt]
    have e2 : treeB (l[i] :: l.drop (i + 1)) = entB l[i] ++ treeB (l.drop (i + 1)) := by unfold treeB; rw [List.flatMap_cons]
    rw [e2, List.length_append, entB_len, he]
    omega
theorem lst2_0 (w : Int) : lst2 0 w = w := by
  unfold lst2
  by_cases h : w = 0
  · rw [h]; simp
  · rw [if_pos ⟨h, .inl rfl⟩]
theorem minE2 {w e : Int} (h : minE [w, e] = 0) : e = 0 := by
  have h1 : lst2 (lst2 0 w) e = 0 := h
  rw [lst2_0] at h1
  unfold lst2 at h1
  by_cases he : e = 0
  · exact he
  · split at h1
    · exact h1
    · rename_i h2
      exact absurd ⟨he, .inl h1⟩ h2
theorem treeB_small {l : List Ety} (h : entE l = 0) : (treeB l).length ≤ 1048576 := by
  unfold entE at h
  split at h
  · omega
  · have h2 := minE2 h
    rw [entI_len l l.length 0 0 0 (by omega), List.drop_zero] at h2
    split at h2
    · omega
    · rename_i h3
      simp at h3
      omega
theorem one_bytes : ∀ (l : List UInt8), ∀ v ∈ Lib.byteCells l, v.oneCell' = true := by
  intro l v hv
  unfold Lib.byteCells at hv
  obtain ⟨b, _, rfl⟩ := List.mem_map.1 hv
  rfl
/-- Where an entry's id lies behind the two calls. -/
theorem src_id {wr W3 W4 W5 : World} {e : Ety} {T : TypeId} {b : Nat} (hva : VarAt wr W3 T (valsE e)) (hT : T ≠ 5) (hb : b < wr.heap.size) (hk4 : ∀ j, j < W3.heap.size → W4.heap[j]? = W3.heap[j]?) (hk5 : Lib.OthersKept 5 (some b) W4 W5) :
    ∀ j v, (Lib.byteCells e.id)[j]? = some v → W5.cell? ((⟨wr.heap.size, 2, none⟩ : Addr).add j) = some v := by
  intro j v hj
  obtain ⟨cs, fr, hr⟩ := hva.row
  have hn1 : wr.heap.size < W3.heap.size := by rw [hva.size]; omega
  have h4 : W4.heap[wr.heap.size]? = some (.cells cs T fr) := (hk4 _ hn1).trans hr
  have h5 := hk5 _ _ h4 (by simp; omega) (fun c fz h => by cases h; exact hT rfl)
  have hc := hva.cell (j + 2) v (by simpa [valsE] using hj)
  rw [Addr.add_mid]
  simp only [World.cell?, hr, h5] at hc ⊢
  rw [Nat.add_comm]; exact hc
theorem cat_data {T1 T2 : ByteArray} {m : Int} {n : List UInt8} (d1 : T1.data.toList = octT m) (d2 : T2.data.toList = n) : (T1 ++ ⟨#[32]⟩ ++ T2 ++ ⟨#[0]⟩).data.toList = octT m ++ [32] ++ n ++ [0] := by
  simp only [ByteArray.data_append, Array.toList_append, d1, d2]
theorem cells_app (a b : List UInt8) : Lib.byteCells a ++ Lib.byteCells b = Lib.byteCells (a ++ b) := by simp [Lib.byteCells]
theorem cat_tree {T1 T2 : ByteArray} {l : List Ety} {k : Nat} (hk : k < l.length) (d1 : T1.data.toList = octT (eat l k).mode) (d2 : T2.data.toList = (eat l k).name) :
    Lib.byteCells (treeB (l.take k)) ++ Lib.byteCells (T1 ++ ⟨#[32]⟩ ++ T2 ++ ⟨#[0]⟩).data.toList ++ Lib.byteCells (eat l k).id = Lib.byteCells (treeB (l.take (k + 1))) := by
  rw [cat_data d1 d2, cells_app, cells_app, treeB_succ hk]
  congr 1
  simp [entB]
theorem below_weak {B B' : Nat} {a w : World} (h : Below B a w) (hB : B' ≤ B) : Below B' a w := ⟨h.os, h.tape, h.output, h.size, fun k hk => h.block k (Nat.lt_of_lt_of_le hk hB)⟩
theorem wrap64_succ {k : Nat} (h : k ≤ 1000000000) : wrap64 ((k : Int) + 1) = ((k + 1 : Nat) : Int) := by
  unfold wrap64; omega
end Cod

/- object.PutTree, walked in the model. -/
namespace Cod
open Go Go.RowKit Go.Proofs Go.Shelf
set_option maxRecDepth 1000000

set_option maxHeartbeats 6400000 in
theorem put_tree {l : List Ety} (hl : TreeOK l) {p : Option Addr} {b0 o0 cap : Nat} {w : World} (hW : Start w) (hv : VR (ctx [] LaE w) (.lst (etys l) l.length) (.slice p l.length cap)) (hp : 0 < l.length → p = some ⟨b0, o0, none⟩) (hrow : ∀ k, k < l.length → w.rangeAt b0 (o0 + k * 34) (valsE (eat l k))) (hb0 : 0 < l.length → b0 < w.heap.size) :
    Calls Tryd.prog 10 #[.slice p l.length cap] w fun e w' => Below w.heap.size w w' ∧ ((entE l ≠ 0 ∧ e = .returned (.tuple #[.slice none 0 0, .int .i64 (entE l)])) ∨ (entE l = 0 ∧ ∃ v, e = .returned (.tuple #[v, .int .i64 0]) ∧ w'.ownsRow w.heap.size 5 1 v (treeB l).length ((treeB l).map fun b => Value.int .u8 b.toNat))) := by
  have hi39 : (Tryd.prog.info? 39).map (·.size) = some 34 := by kernel_rfl
  by_cases he : entE l = 0
  · go_enter Tryd.func10, Tryd.ntmps10
    go_wp2_with (go_at_call 24; refine (ent_calls hl hW hv).mono ?_; rw [he]; rintro e W1 ⟨rfl, hb1⟩)
    go_loopw [15] (fun i wr => ∃ k : Nat, i = .int .i64 k ∧ k ≤ l.length ∧ Lib.IsBuffer 56 5 W1.heap.size W1.heap.size (Lib.byteCells (treeB (l.take k))) wr ∧ Below W1.heap.size W1 wr) (fun i _ => l.length - (intOf i).toNat)
    case atStart =>
      exact ⟨0, rfl, Nat.zero_le _, ⟨Nat.le_refl _, .slice none 0 0, 0, heap_alloc_new W1 _, World.ownsRow_nil _ _ _ _, by simp [Value.ownBlock]⟩, (Below.refl _ W1).alloc (Nat.le_refl _) _⟩
    case round =>
      obtain ⟨k, rfl, hk, hI, hbw⟩ := hrel
      have hbel : Below w.heap.size w wr := hb1.trans ⟨hbw.os, hbw.tape, hbw.output, hbw.size, fun j hj => hbw.block j (Nat.lt_of_lt_of_le hj hb1.size)⟩
      by_cases hlt : k < l.length
      · obtain rfl := hp (by omega)
        have hb0 := hb0 (by omega)
        have hrange : wr.rangeAt b0 (o0 + k * 34) (valsE (eat l k)) := fun j v hj => (hbel.cell (p := ⟨b0, o0 + k * 34 + j, none⟩) hb0).trans (hrow k hlt j v hj)
        go_upto_region 8 with (first | (refine wpList_load_mid rfl 39 _ rfl b0 (o0 + k * 34) (by first | rfl | simp [Addr.add_mid]) (valsE (eat l k)) _ hrange Tryd.underlying39 rfl (by rw [valsE_len]; exact hi39) ?_) | (refine wpList_store_mid rfl 39 _ _ rfl wr.heap.size 0 (valsE (eat l k)).toArray (by rfl) (by rfl) ?_ ?_ (vals_one _) ?_))
        · intro j hj
          first | rw [List.size_toArray, valsE_len] at hj | rw [valsE_len] at hj
          refine ⟨?_, ?_⟩
          · simp only [World.cell?, heap_alloc_new]
            rw [if_neg (by simp), Nat.zero_add, Array.getElem?_eq_getElem (by simpa using hj)]; rfl
          · simp only [World.frozen?, heap_alloc_new]
            simp
        · first | (rw [List.size_toArray, valsE_len]; exact hi39) | rw [valsE_len]
        · refine with_var (p := Code.wp _ _ _ _) (T := 39) (vals := valsE (eat l k)) (by rw [valsE_len]; rfl) ?_
          intro W3 hva
          have hn1 : wr.heap.size < W3.heap.size := by rw [hva.size]; omega
          have c0 : W3.cell? ⟨wr.heap.size, 0, none⟩ = some (.int .i64 (eat l k).mode) := hva.cell 0 _ rfl
          have c1 : W3.cell? ⟨wr.heap.size, 1, none⟩ = some (.string ⟨(eat l k).name.toArray⟩) := hva.cell 1 _ rfl
          have hI3 := hI.old hva.below
          have hb3 : Below w.heap.size w W3 := hbel.trans ⟨hva.below.os, hva.below.tape, hva.below.output, hva.below.size, fun j hj => hva.below.block j (Nat.lt_of_lt_of_le hj hbel.size)⟩
          have hS3 : Start W3 := hW.below hb3
          have hm := hl.2.1 k
          have hF : Calls Tryd.prog 26 #[.int .i64 (eat l k).mode, .int .i64 8] W3.drew fun e W4 => e = .returned (.string ⟨(octT (eat l k).mode).toArray⟩) ∧ W4.cell? ⟨wr.heap.size, 1, none⟩ = some (.string ⟨(eat l k).name.toArray⟩) ∧ Below wr.heap.size wr W4 ∧ W3.heap.size ≤ W4.heap.size ∧ (∀ j, j < W3.heap.size → W4.heap[j]? = W3.heap[j]?) := by
            have hSd : Start W3.drew := hS3.below ⟨rfl, rfl, rfl, Nat.le_refl _, fun _ _ => rfl⟩
            refine (fmt_calls hm.1 hm.2 hSd).mono ?_
            rintro e W4 ⟨rfl, hb4x⟩
            have hb4 : Below W3.heap.size W3 W4 := ⟨hb4x.os, hb4x.tape, hb4x.output, hb4x.size, hb4x.block⟩
            exact ⟨rfl, (hb4.cell (p := ⟨wr.heap.size, 1, none⟩) hn1).trans c1, hva.below.trans ⟨hb4.os, hb4.tape, hb4.output, hb4.size, fun j hj => hb4.block j (by omega)⟩, hb4.size, hb4.block⟩
          have hts := treeB_small he
          have htk := treeB_take l k
          have hol := octT_len (eat l k).mode
          have hnl := hl.1 k
          obtain ⟨T1, hT1⟩ : ∃ T1 : ByteArray, T1 = ⟨(octT (eat l k).mode).toArray⟩ := ⟨_, rfl⟩
          obtain ⟨T2, hT2⟩ : ∃ T2 : ByteArray, T2 = ⟨(eat l k).name.toArray⟩ := ⟨_, rfl⟩
          have z1 : T1.size ≤ 23 := by rw [hT1]; simpa [ByteArray.size] using hol
          have z2 : T2.size ≤ 1000000000 := by rw [hT2]; simpa [ByteArray.size] using hnl
          rw [← hT1, ← hT2] at hF
          rw [← hT2] at c1
          have d1 : T1.data.toList = octT (eat l k).mode := by rw [hT1]
          have d2 : T2.data.toList = (eat l k).name := by rw [hT2]
          clear hT1 hT2
          have g1 : ¬ 9223372036854775807 < T1.size + 1 := by omega
          have g2 : ¬ 9223372036854775807 < T1.size + 1 + T2.size := by omega
          have g3 : ¬ 9223372036854775807 < T1.size + 1 + T2.size + 1 := by omega
          have g4 : ¬ 9223372036854775807 ≤ T1.size := by omega
          have g5 : ¬ 9223372036854775807 ≤ T1.size + 1 + T2.size := by omega
          go_region_with (first | (go_at_call 26; refine hF.mono ?_; rintro e W4 ⟨rfl, c1', hb4, hz4, hk4⟩; have hI4 := hI.old hb4) | (go_at_call 25; refine Calls.mono (Tryd.Buffer_WriteString_kept W1.heap.size W1.heap.size _ _ W4 hI4 (by have := hbw.size; have := hb4.size; omega) (one_bytes _) (by rw [Lib.byteCells_length]; simp only [ByteArray.size_append]; have e1 : (⟨#[32]⟩ : ByteArray).size = 1 := rfl; have e2 : (⟨#[0]⟩ : ByteArray).size = 1 := rfl; omega)) ?_; rintro e W5 ⟨rfl, hI5, hb5, hk5⟩))
          all_goals have hsrc := src_id hva (by decide) hI.lt hk4 hk5
          all_goals go_wp2_with (go_at_call 27; refine Calls.mono (Tryd.Buffer_Write_any W1.heap.size W1.heap.size _ (Lib.byteCells (eat l k).id) ⟨wr.heap.size, 2, none⟩ 32 32 W5 hI5 (by have := hbw.size; have := hb4.size; have := hb5.size; omega) (by rw [cells_app]; exact one_bytes _) (by rw [Lib.byteCells_length]; exact (eat l k).hid) (by have := hI.lt; show wr.heap.size ≠ W1.heap.size; omega) hsrc (one_bytes _) (by rw [List.length_append, Lib.byteCells_length, Lib.byteCells_length, cat_data d1 d2]; simp only [List.length_append, List.length_cons, List.length_nil]; omega)) ?_; rintro e W6 ⟨rfl, hI6, hb6, hk6⟩)
          all_goals rw [cat_tree hlt d1 d2] at hI6
          all_goals go_roundw
          all_goals first
            | exact ⟨k + 1, by rw [wrap64_succ (by have := hl.2.2; omega)], by omega, hI6, hbw.trans ((below_weak hb4 hbw.size).trans (hb5.trans hb6))⟩
            | (rw [wrap64_succ (by have := hl.2.2; omega)]; simp only [intOf]; omega)
      · obtain rfl : k = l.length := by omega
        rw [List.take_length] at hI
        go_wp2_with (go_at_call 28; refine (Tryd.Buffer_Bytes W1.heap.size W1.heap.size _ wr hI).mono ?_; rintro e W2 ⟨v, rfl, hown, n, rfl⟩)
        go_ret2
        refine ⟨hbel.trans ⟨rfl, rfl, rfl, Nat.le_refl _, fun _ _ => rfl⟩, .inr ⟨he, v, rfl, ?_⟩⟩
        have e1 : Lib.byteCells (treeB l) = (treeB l).map fun b => Value.int .u8 b.toNat := rfl
        rw [e1, List.length_map] at hown
        exact owns_mono hown hb1.size
  · go_enter Tryd.func10, Tryd.ntmps10
    go_wp2_with (go_at_call 24; refine (ent_calls hl hW hv).mono ?_; rintro e W1 ⟨rfl, hb1⟩)
    go_ret2
    exact ⟨hb1, .inl ⟨he, rfl⟩⟩
end Cod

/- object.PutTree as a known function. -/
namespace Cod
open Go Go.RowKit Go.Proofs Go.Shelf

/-- What object.PutTree answers. -/
def treeV (l : List Ety) : AV × Store := if entE l = 0 then (.tup [.buf (.r 0) 0 0 (treeB l).length 1, .int .i64 0], [(.r 0, ⟨0, true, true, false, ofBytes (treeB l)⟩)]) else (.tup [.nils, .int .i64 (entE l)], [])
open Classical in
noncomputable def kPutT (args : List AV) (σ : Store) : Option (AV × Store) :=
  if h : ∃ l, args = [.lst (etys l) l.length] ∧ σ = [] ∧ TreeOK l then some (treeV (choose h)) else none
theorem ofBytes_inj : ∀ {a b : List UInt8}, ofBytes a = ofBytes b → a = b := by
  intro a
  induction a with
  | nil => intro b h; cases b with
    | nil => rfl
    | cons => simp [ofBytes] at h
  | cons x a ih =>
    intro b h
    cases b with
    | nil => simp [ofBytes] at h
    | cons y b =>
      simp only [ofBytes, List.map_cons, List.cons.injEq, AV.int.injEq, true_and] at h
      have h1 : x = y := UInt8.toNat_inj.1 (by have := h.1; omega)
      rw [h1, ih (by simpa [ofBytes] using h.2)]
theorem ety_inj {a b : Ety} (h : a.cells = b.cells) : a = b := by
  unfold Ety.cells at h
  simp only [List.cons.injEq, AV.int.injEq, AV.str.injEq, true_and] at h
  obtain ⟨h1, h2, h30⟩ := h
  have h3 := ofBytes_inj h30
  clear h30
  cases a; cases b
  simp only at h1 h2 h3
  subst h1 h2 h3
  rfl
theorem etys_inj : ∀ {a b : List Ety}, etys a = etys b → a = b := by
  intro a
  induction a with
  | nil =>
    intro b h
    have := congrArg List.length h
    rw [etys_length, etys_length] at this
    cases b with
    | nil => rfl
    | cons => simp at this
  | cons x a ih =>
    intro b h
    cases b with
    | nil => have := congrArg List.length h; rw [etys_length, etys_length] at this; simp at this
    | cons y b =>
      have h' : x.cells ++ etys a = y.cells ++ etys b := h
      obtain ⟨h1, h2⟩ := List.append_inj h' (by rw [ety_len, ety_len])
      rw [ety_inj h1, ih h2]
theorem kPutT_eq {l : List Ety} (h : TreeOK l) : kPutT [.lst (etys l) l.length] [] = some (treeV l) := by
  have hx : ∃ l', [AV.lst (etys l) l.length] = [.lst (etys l') l'.length] ∧ ([] : Store) = [] ∧ TreeOK l' := ⟨l, rfl, rfl, h⟩
  unfold kPutT
  rw [dif_pos hx]
  have key : ∀ l', [AV.lst (etys l) l.length] = [.lst (etys l') l'.length] → l' = l := by
    intro l' hc
    injection hc with hc1 _
    injection hc1 with h1 h2
    exact (etys_inj h1).symm
  rw [key _ (Classical.choose_spec hx).1]
theorem lst_start {c' : Lay} {w : World} {cs : List AV} {n : Nat} {v : Value} (h : VR (ctx [] c' w) (.lst cs n) v) : VR (ctx [] LaE w) (.lst cs n) v := by
  refine VR_le ?_ _ _ h
  refine ⟨fun s g0 al h => by simp [ctx, tabS, getS] at h, fun b _ h => ?_, fun b _ _ => rfl, fun _ _ h => h, Nat.le_refl _⟩
  rcases h with ⟨s, e, o, he, _⟩ | h
  · simp [getS] at he
  · exact h.elim
theorem ok_putT {E : Env} (hE : E.glob = globOf) : RowOK Tryd.prog E F.object_PutTree kPutT := by
  intro args σa v σr hk La w vs hr hv hup
  unfold kPutT at hk
  split at hk
  · rename_i hx
    obtain ⟨q1, q2, q3⟩ := Classical.choose_spec hx
    generalize Classical.choose hx = l at *
    subst q1 q2
    simp only [Option.some.injEq] at hk
    simp only [VRL] at hv
    obtain ⟨x, r, rfl, hx, rfl⟩ := hv
    have hS := start_of hE hr
    have hx' := lst_start hx
    have hcase : ∃ p b0 o0 cap, x = .slice p l.length cap ∧ (0 < l.length → p = some ⟨b0, o0, none⟩) ∧ (0 < l.length → b0 < w.heap.size) ∧ ∀ k, k < l.length → w.rangeAt b0 (o0 + k * 34) (valsE (eat l k)) := by
      have h2 := hx'
      simp only [VR] at h2
      obtain ⟨_, h2⟩ := h2
      rcases h2 with ⟨h3, h4, h5⟩ | ⟨b, o, cap, h3, _, h4, _, h5⟩
      · exact ⟨none, 0, 0, 0, by rw [h5, h4], fun h => by omega, fun h => by omega, fun k hk => by omega⟩
      · refine ⟨_, b, o, cap, h3, fun _ => rfl, fun _ => h4, fun k hk => ?_⟩
        have := VRC_sub h5 (k * 34) 34
        rw [sub_etys hk] at this
        exact ety_range this
    obtain ⟨p, b0, o0, cap, rfl, hp, hb0, hrow⟩ := hcase
    refine fn_of_calls Tryd.func10 (by rfl) (by kernel_rfl) ((put_tree q3 hS hx' hp hrow hb0).mono fun e w' ⟨hb, hw⟩ => ?_)
    unfold treeV at hk
    rcases hw with ⟨he, rfl⟩ | ⟨he, v', rfl, hown⟩
    · rw [if_neg he] at hk
      cases hk
      exact ⟨_, rfl, La, rel_below hr hb, by simp [VR, VRL]⟩
    · rw [if_pos he] at hk
      cases hk
      have e1 : ((treeB l).map fun b => Value.int .u8 b.toNat) = ((treeB l).map fun b => ((b.toNat : Nat) : Int)).map (Value.int .u8) := by rw [List.map_map]; rfl
      rw [e1] at hown
      obtain ⟨La', h1, h2⟩ := rel_new hr hb hown
      have e2 : ((treeB l).map fun b => ((b.toNat : Nat) : Int)).map (AV.int .u8 ·) = ofBytes (treeB l) := by unfold ofBytes; rw [List.map_map]; rfl
      rw [e2] at h1 h2
      refine ⟨_, rfl, La', h1, ?_⟩
      simp only [VR, VRL]
      exact ⟨_, rfl, _, _, rfl, h2, _, _, rfl, rfl, rfl⟩
  · cases hk
noncomputable def knownTabT : List (Nat × (List AV → Store → Option (AV × Store))) := (F.object_PutTree, kPutT) :: knownTab
noncomputable def EE : Env := ⟨fnOf, fun f => knownTabT.lookup f, globOf⟩
theorem fnsT_ok : FnsOK Tryd.prog EE := fnsOK_of (by kernel_rfl) all_ok (fun _ => rfl)
theorem knownT_ok : KnownOK Tryd.prog EE := by
  intro f h hf
  have hm := lookup_memK (show knownTabT.lookup f = some h from hf)
  unfold knownTabT at hm
  rcases List.mem_cons.1 hm with hm | hm
  · cases hm; exact ok_putT rfl
  · exact tabG_ok (E := EE) rfl (f, h) hm
theorem extE : Ext E EE where
  glob := rfl
  fn := rfl
  known f h hk := by
    show knownTabT.lookup f = some h
    have hk : knownTab.lookup f = some h := hk
    unfold knownTabT
    rw [List.lookup_cons]
    cases hb : f == F.object_PutTree with
    | false => exact hk
    | true =>
      rw [beq_iff_eq] at hb
      rw [hb, show knownTab.lookup F.object_PutTree = none from rfl] at hk
      cases hk
  none f hk := by
    have hk : knownTab.lookup f = none := hk
    by_cases hb : f = F.object_PutTree
    · right; rw [hb]; rfl
    · left
      show knownTabT.lookup f = none
      unfold knownTabT
      rw [List.lookup_cons, beq_eq_false_iff_ne.2 hb]
      exact hk
theorem S_ofT {f : Nat} {l : LFn} (hf : fnOf f = some l) (hk : EE.known f = none) {args : List AV} {σ : Store} (hn : args.length = l.np) : S EE f args σ = X EE l.results [.c l.code] ⟨params 0 args, σ⟩ := S_fn hk hf hn
theorem S_putT {l : List Ety} (h : TreeOK l) : S EE F.object_PutTree [.lst (etys l) l.length] [] = some (treeV l) := by
  rw [S_eq, show EE.known F.object_PutTree = some kPutT from rfl]
  exact kPutT_eq h
end Cod

/- Bytes compared cell by cell. -/
namespace Cod
open Go

theorem eqCells_bytes : ∀ (n : Nat) (x y : List UInt8) (ks : List Nat) (xs ys : List AV), x.length = n → y.length = n → eqCells (List.replicate n 0 ++ ks) (ofBytes x ++ xs) (ofBytes y ++ ys) = (eqCells ks xs ys).map (x == y && ·) := by
  intro n
  induction n with
  | zero =>
    intro x y ks xs ys hx hy
    obtain rfl := List.eq_nil_of_length_eq_zero hx
    obtain rfl := List.eq_nil_of_length_eq_zero hy
    simp [ofBytes]
  | succ n ih =>
    intro x y ks xs ys hx hy
    cases x with
    | nil => simp at hx
    | cons a x =>
      cases y with
      | nil => simp at hy
      | cons b y =>
        have h1 := ih x y ks xs ys (by simpa using hx) (by simpa using hy)
        have e1 : ofBytes (a :: x) = .int .u8 a.toNat :: ofBytes x := rfl
        have e2 : ofBytes (b :: y) = .int .u8 b.toNat :: ofBytes y := rfl
        rw [e1, e2, List.replicate_succ, List.cons_append, List.cons_append, List.cons_append]
        simp only [eqCells, if_true, h1, Option.map_map]
        congr 1
        funext z
        have : ((a.toNat : Int) == b.toNat) = (a == b) := by
          by_cases h : a = b
          · subst h; simp
          · have h2 : ¬ ((a.toNat : Int) = b.toNat) := fun e => h (UInt8.toNat_inj.1 (by omega))
            rw [beq_eq_false_iff_ne.2 h, beq_eq_false_iff_ne.2 h2]
        simp only [Function.comp, this, List.cons_beq_cons, Bool.and_assoc]
theorem eqCells_32 {x y : List UInt8} (hx : x.length = 32) (hy : y.length = 32) : eqCells [0, 0, 0, 0, 0, 0, 0, 0, 0, 0, 0, 0, 0, 0, 0, 0, 0, 0, 0, 0, 0, 0, 0, 0, 0, 0, 0, 0, 0, 0, 0, 0] (ofBytes x) (ofBytes y) = some (x == y) := by
  have h := eqCells_bytes 32 x y [] [] [] hx hy
  rw [List.append_nil, List.append_nil, List.append_nil] at h
  rw [show [0, 0, 0, 0, 0, 0, 0, 0, 0, 0, 0, 0, 0, 0, 0, 0, 0, 0, 0, 0, 0, 0, 0, 0, 0, 0, 0, 0, 0, 0, 0, 0] = List.replicate 32 0 from rfl, h]
  simp [eqCells]
end Cod

/- awake, the law. -/
namespace Cod
open Go

def wE : Ety := ⟨33188, [97], List.replicate 32 0, by simp⟩
theorem wE_tree : treeB [wE] = [49, 48, 48, 54, 52, 52, 32, 97, 0] ++ List.replicate 32 0 := by decide +kernel
theorem wE_ent : entE [wE] = 0 := by decide +kernel
theorem wE_ok : TreeOK [wE] := by
  refine ⟨fun i => ?_, fun i => ?_, by decide⟩
  · cases i with
    | zero => decide
    | succ i => show (default : Ety).name.length ≤ _; decide
  · cases i with
    | zero => decide
    | succ i => show _ ≤ (default : Ety).mode ∧ (default : Ety).mode ≤ _; decide
theorem go_putW : S EE F.object_PutTree [.lst (.int .i64 33188 :: .str [97] :: ofBytes (List.replicate 32 0)) 1] [] = some (.tup [.buf (.r 0) 0 0 41 1, .int .i64 0], [(.r 0, ⟨0, true, true, false, ofBytes (treeB [wE])⟩)]) := by
  have h := S_putT wE_ok
  have e : treeV [wE] = (.tup [.buf (.r 0) 0 0 41 1, .int .i64 0], [(.r 0, ⟨0, true, true, false, ofBytes (treeB [wE])⟩)]) := by
    unfold treeV; rw [if_pos wE_ent, wE_tree]; rfl
  rw [e] at h
  exact h
theorem hdr_w : hdrT 3 3 = [98, 108, 111, 98, 32, 51, 0] := by
  unfold hdrT
  rw [show (3 : Int) = ((3 : Nat) : Int) from rfl, Lib.itoa_nonneg, Lib.decDigits_one (by omega)]; rfl
theorem obj_w : objE 3 3 = 0 := by decide +kernel
theorem go_idW : S EE F.object_Id [.agg [.int .i64 3, .lst (ofBytes [97, 98, 99]) 3]] [] = some (.tup [.agg (ofBytes (shaF [98, 108, 111, 98, 32, 51, 0, 97, 98, 99])), .int .i64 0], []) := by
  have h := S_ext extE (go_oid (k := 3) (p := [97, 98, 99]) (n := 3) rfl (by simp))
  unfold idV idF at h
  simp only [List.length_cons, List.length_nil, Nat.zero_add, Nat.reduceAdd] at h
  rw [obj_w, if_pos rfl] at h
  rw [show (((3 : Nat)) : Int) = 3 from rfl, hdr_w] at h
  exact h
theorem go_awake : S EE F.law07_awake [] [] = some (.bool true, []) := by
  have h1 : S EE F.object_Id [.agg [.int .i64 3, .lst [.int .u8 97, .int .u8 98, .int .u8 99] 3]] [] = some (.tup [.agg (ofBytes (shaF [98, 108, 111, 98, 32, 51, 0, 97, 98, 99])), .int .i64 0], []) := go_idW
  have h2 := go_putW
  have h3 : S EE F.sha_Sum [.lst [.int .u8 98, .int .u8 108, .int .u8 111, .int .u8 98, .int .u8 32, .int .u8 51, .int .u8 0, .int .u8 97, .int .u8 98, .int .u8 99] 10] [] = some (.agg (ofBytes (shaF [98, 108, 111, 98, 32, 51, 0, 97, 98, 99])), []) := S_ext extE (go_sum (p := [98, 108, 111, 98, 32, 51, 0, 97, 98, 99]) (by simp))
  have hs : (shaF [98, 108, 111, 98, 32, 51, 0, 97, 98, 99]).length = 32 := by unfold shaF; simp [idOf]
  generalize shaF [98, 108, 111, 98, 32, 51, 0, 97, 98, 99] = d at *
  have ht : (treeB [wE]).length = 41 := by rw [wE_tree]; rfl
  have h9 : sub (treeB [wE]) 0 9 = [49, 48, 48, 54, 52, 52, 32, 97, 0] := by rw [wE_tree]; rfl
  have h9' : (treeB [wE]).take 9 = [49, 48, 48, 54, 52, 52, 32, 97, 0] := by rw [wE_tree]; rfl
  generalize treeB [wE] = tr at *
  have s3 : sub [AV.int .u8 97, AV.int .u8 98, AV.int .u8 99] 0 3 = [.int .u8 97, .int .u8 98, .int .u8 99] := rfl
  have s10 : sub [AV.int .u8 98, AV.int .u8 108, AV.int .u8 111, AV.int .u8 98, AV.int .u8 32, AV.int .u8 51, AV.int .u8 0, AV.int .u8 97, AV.int .u8 98, AV.int .u8 99] 0 10 = [.int .u8 98, .int .u8 108, .int .u8 111, .int .u8 98, .int .u8 32, .int .u8 51, .int .u8 0, .int .u8 97, .int .u8 98, .int .u8 99] := rfl
  have s34 : sub (AV.int .i64 33188 :: AV.str [97] :: ofBytes (List.replicate 32 0)) 0 34 = AV.int .i64 33188 :: AV.str [97] :: ofBytes (List.replicate 32 0) := rfl
  have o1 : over (default : Ety).cells 0 [AV.int .i64 33188] = AV.int .i64 33188 :: AV.str [] :: ofBytes (List.replicate 32 0) := rfl
  have o2 : over (AV.int .i64 33188 :: AV.str [] :: ofBytes (List.replicate 32 0)) 1 [AV.str [97]] = AV.int .i64 33188 :: AV.str [97] :: ofBytes (List.replicate 32 0) := rfl
  have l34 : (AV.int .i64 33188 :: AV.str [97] :: ofBytes (List.replicate 32 0)).length = 34 := rfl
  have o3 : over (default : Ety).cells 0 (AV.int .i64 33188 :: AV.str [97] :: ofBytes (List.replicate 32 0)) = AV.int .i64 33188 :: AV.str [97] :: ofBytes (List.replicate 32 0) := rfl
  have o4 : over (ofBytes (List.replicate 32 0)) 0 (ofBytes d) = ofBytes d := over_ofBytes_all (by rw [hs]; rfl)
  have q4 : eqCells [0, 0, 0, 0, 0, 0, 0, 0, 0, 0, 0, 0, 0, 0, 0, 0, 0, 0, 0, 0, 0, 0, 0, 0, 0, 0, 0, 0, 0, 0, 0, 0] (ofBytes d) (ofBytes d) = some true := by rw [eqCells_32 hs hs]; simp
  rw [S_ofT fn_law07_awake rfl rfl]
  simp (dsimp := false) (disch := first | omega | (simp only [strs_length, List.length_set, List.length_replicate, words_length, ofBytes_length, List.length_append, List.length_cons, List.length_nil, List.length_take, List.length_drop, etys_length, ints64_length, treeB_length] <;> omega) | fail) only [L.law07_awake, go_sem, reduceIte, reduceCtorEq, Nat.reduceEqDiff, Nat.reduceAdd, Nat.reduceSub, Nat.reduceMul, Nat.reduceDiv, Nat.reduceMod, Nat.reduceBEq, Nat.reduceLeDiff, Nat.reduceLT, Int.reduceEq, Int.reduceNe, Int.reduceLT, Int.reduceLE, Int.reduceBEq, Int.reduceBNe, Int.reduceToNat, Int.reduceAdd, Int.reduceSub, Int.reduceMul, Int.reduceNeg, zer_bytes, app_ofBytes, ofBytes_length, flats_ofBytes, hards_ofBytes, leadss_ofBytes, refsOfs_ofBytes, rens_ofBytes, bytesOf_ofBytes, sub_ofBytes, take_ofBytes, drop_ofBytes, get_ofBytes, over_ofBytes_all, over_ofBytes, ofBytes_snoc, h1, h2, h3, ht, h9, h9', List.isEmpty_cons, List.length_replicate, s3, s10, s34, o1, o2, o3, l34, o4, q4]
theorem go_objectIds {k n : Int} {p : List UInt8} (h1 : -9223372036854775808 ≤ n) (h2 : n ≤ 9223372036854775807) (hp : p.length ≤ 1000000000000) : S EE F.law07_ObjectIds [.int .i64 k, .int .i64 n, .lst (ofBytes p) p.length] [] = some (.bool true, []) := by
  have a1 := S_ext extE (go_header (k := k) h1 h2)
  have a2 := S_ext extE (go_docheader (k := k) h1 h2)
  have a3 := S_ext extE (go_oid (k := k) (p := p) rfl hp)
  have a4 := S_ext extE (go_docid (k := k) (p := p) rfl hp)
  have a5 := S_ext extE (go_twin (a := p) rfl hp)
  unfold idV at a3 a4
  have hs := idF_len k p
  generalize idF k p = d at *
  have o4 : over (ofBytes (List.replicate 32 0)) 0 (ofBytes d) = ofBytes d := over_ofBytes_all (by rw [hs]; rfl)
  have q4 : eqCells [0, 0, 0, 0, 0, 0, 0, 0, 0, 0, 0, 0, 0, 0, 0, 0, 0, 0, 0, 0, 0, 0, 0, 0, 0, 0, 0, 0, 0, 0, 0, 0] (ofBytes d) (ofBytes d) = some true := by rw [eqCells_32 hs hs]; simp
  rw [S_ofT fn_law07_ObjectIds rfl rfl]
  unfold hdrV at a1 a2
  by_cases e : hdrE k n = 0
  · rw [if_pos e] at a1 a2
    simp (dsimp := false) (disch := first | omega | (simp only [strs_length, List.length_set, List.length_replicate, words_length, ofBytes_length, List.length_append, List.length_cons, List.length_nil, List.length_take, List.length_drop, etys_length, ints64_length, treeB_length] <;> omega) | fail) only [L.law07_ObjectIds, go_sem, reduceIte, reduceCtorEq, Nat.reduceEqDiff, Nat.reduceAdd, Nat.reduceSub, Nat.reduceMul, Nat.reduceDiv, Nat.reduceMod, Nat.reduceBEq, Nat.reduceLeDiff, Nat.reduceLT, Int.reduceEq, Int.reduceNe, Int.reduceLT, Int.reduceLE, Int.reduceBEq, Int.reduceBNe, Int.reduceToNat, Int.reduceAdd, Int.reduceSub, Int.reduceMul, Int.reduceNeg, zer_bytes, app_ofBytes, ofBytes_length, flats_ofBytes, hards_ofBytes, leadss_ofBytes, refsOfs_ofBytes, rens_ofBytes, bytesOf_ofBytes, sub_ofBytes, take_ofBytes, drop_ofBytes, get_ofBytes, over_ofBytes_all, over_ofBytes, ofBytes_snoc, go_awake, a1, a2, a3, a4, a5, o4, q4, List.length_replicate]
  · rw [if_neg e] at a1 a2
    simp (dsimp := false) (disch := first | omega | (simp only [strs_length, List.length_set, List.length_replicate, words_length, ofBytes_length, List.length_append, List.length_cons, List.length_nil, List.length_take, List.length_drop, etys_length, ints64_length, treeB_length] <;> omega) | fail) only [L.law07_ObjectIds, go_sem, reduceIte, reduceCtorEq, Nat.reduceEqDiff, Nat.reduceAdd, Nat.reduceSub, Nat.reduceMul, Nat.reduceDiv, Nat.reduceMod, Nat.reduceBEq, Nat.reduceLeDiff, Nat.reduceLT, Int.reduceEq, Int.reduceNe, Int.reduceLT, Int.reduceLE, Int.reduceBEq, Int.reduceBNe, Int.reduceToNat, Int.reduceAdd, Int.reduceSub, Int.reduceMul, Int.reduceNeg, zer_bytes, app_ofBytes, ofBytes_length, flats_ofBytes, hards_ofBytes, leadss_ofBytes, refsOfs_ofBytes, rens_ofBytes, bytesOf_ofBytes, sub_ofBytes, take_ofBytes, drop_ofBytes, get_ofBytes, over_ofBytes_all, over_ofBytes, ofBytes_snoc, go_awake, a1, a2, a3, a4, a5, o4, q4, List.length_replicate]
end Cod

/- The arguments of the law ObjectIds. -/
namespace Cod
open Go
theorem run_ObjectIds {xs : List AV} (h : ArgsOK [(false, .int .i64), (false, .int .i64), (false, .sl (.int .u8))] xs) (hb : abulks xs ≤ 1048576) : ∃ σr, S EE 3 xs [] = some (.bool true, σr) := by
  obtain ⟨a, b, rfl, ⟨k, hk, _⟩, c, d, rfl, ⟨n, hn, hw⟩, e, f, rfl, ⟨r, hr, _, h2⟩, rfl⟩ := h
  obtain ⟨l, h3, h4⟩ := wf_bytes h2
  simp only [List.cons.injEq, and_true] at hk hn hr
  subst hk hn hr
  simp only [abulks, abulk] at hb
  simp [Lit.wf, IntKind.min, IntKind.max, IntKind.signed, IntKind.bits] at hw
  rw [h3, ← h4]
  exact ⟨[], go_objectIds (by omega) (by omega) (by omega)⟩
end Cod


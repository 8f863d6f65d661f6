/- The error of entries. -/
import Derived.Lib.BufferKept
import Derived.Lib.BufferWrite
import Derived.Lib.VarintMem
import Derived.Laws.BitsLemmas
import Derived.Laws.RangeAny
import Derived.Deep.MidRow
import Derived.Laws.IdiomCopy
import Derived.Test.YthlnjgdoodjgoaaGreatDoorXTxt2
import Derived.Test.YthlnjgdoodjgoaaGreatDoorXTxt1
import Derived.Test.YthlnjgdoodjgoaaGreatDoorXShelf1
set_option linter.unusedSimpArgs false
set_option linter.unusedVariables false
namespace Cod
open Go

def lst2 (w e : Int) : Int := if e ≠ 0 ∧ (w = 0 ∨ e < w) then e else w
def minE (l : List Int) : Int := l.foldl lst2 0
theorem go_when {b : Bool} {e : Int} : S E F.object_when [.bool b, .int .i64 e] [] = some (.int .i64 (if b then e else 0), []) := by
  rw [S_of fn_object_when rfl rfl]
  cases b <;> simp (dsimp := false) (disch := first | omega | (simp only [strs_length, List.length_set, List.length_replicate, words_length, ofBytes_length, List.length_append, List.length_cons, List.length_nil, List.length_take, List.length_drop, etys_length, ints64_length] <;> omega) | fail) only [L.object_when, go_sem, reduceIte, reduceCtorEq, Nat.reduceEqDiff, Nat.reduceAdd, Nat.reduceSub, Nat.reduceMul, Nat.reduceDiv, Nat.reduceMod, Nat.reduceBEq, Nat.reduceLeDiff, Nat.reduceLT, Int.reduceEq, Int.reduceNe, Int.reduceLT, Int.reduceLE, Int.reduceBEq, Int.reduceBNe, Int.reduceToNat, Int.reduceAdd, Int.reduceSub, Int.reduceMul, Int.reduceNeg]
theorem ints_get {l : List Int} {i : Nat} (h : i < l.length) : (ints64 l)[i]? = some (.int .i64 (l.getD i 0)) := by
  unfold ints64
  rw [List.getElem?_map, List.getElem?_eq_getElem h]
  simp [List.getD, h]
theorem flats_i64s : ∀ l : List Int, flats (ints64 l) = true := by
  intro l; induction l with
  | nil => rfl
  | cons a l ih => show flats (.int .i64 a :: ints64 l) = true; simp [flats, flat, ih]
theorem refsOfs_i64s : ∀ l : List Int, refsOfs (ints64 l) = [] := by
  intro l; induction l with
  | nil => rfl
  | cons a l ih => show refsOfs (.int .i64 a :: ints64 l) = []; simp [refsOfs, refsOf, ih]
theorem rens_i64s (f : Site → Nat → Option (Site × Nat)) : ∀ l : List Int, rens f (ints64 l) = ints64 l := fun l => rens_flats _ (flats_i64s l)
theorem least_l0 {l : List Int} (hl : l.length ≤ 1000000) : ∀ (m i : Nat) (w : Int), i + m = l.length →
    X E [.tmp 2] (.c L.object_least.x0 :: .lp [3, 6, 7, 8] L.object_least.x0 :: .blk 0 :: [.c L.object_least.r0]) ⟨[(3, .int .i64 w), (6, .lst (ints64 l) l.length), (7, .int .i64 l.length), (8, .int .i64 i)], []⟩ = some (.int .i64 ((l.drop i).foldl lst2 w), []) := by
  intro m
  induction m with
  | zero =>
    intro i w h
    obtain rfl : i = l.length := by omega
    rw [X_in L.object_least.x0.eq_1, List.drop_length]
    simp (dsimp := false) (disch := first | omega | (simp only [strs_length, List.length_set, List.length_replicate, words_length, ofBytes_length, List.length_append, List.length_cons, List.length_nil, List.length_take, List.length_drop, etys_length, ints64_length] <;> omega) | fail) only [go_sem, reduceIte, reduceCtorEq, Nat.reduceEqDiff, Nat.reduceAdd, Nat.reduceSub, Nat.reduceMul, Nat.reduceDiv, Nat.reduceMod, Nat.reduceBEq, Nat.reduceLeDiff, Nat.reduceLT, Int.reduceEq, Int.reduceNe, Int.reduceLT, Int.reduceLE, Int.reduceBEq, Int.reduceBNe, Int.reduceToNat, Int.reduceAdd, Int.reduceSub, Int.reduceMul, Int.reduceNeg, L.object_least.r0, flats_i64s, refsOfs_i64s, rens_i64s]
    rfl
  | succ m ih =>
    intro i w h
    have hlt : i < l.length := by omega
    have h1 := ih (i + 1) (lst2 w (l.getD i 0)) (by omega)
    simp only [Int.natCast_add, Int.cast_ofNat_Int] at h1
    have hg := ints_get hlt
    rw [X_in L.object_least.x0.eq_1, List.drop_eq_getElem_cons hlt, List.foldl_cons, show l[i] = l.getD i 0 by simp [List.getD, hlt]]
    generalize l.getD i 0 = e at *
    unfold lst2 at h1 ⊢
    by_cases e0 : e = 0
    · subst e0
      rw [if_neg (by simp)] at h1 ⊢
      simp (dsimp := false) (disch := first | omega | (simp only [strs_length, List.length_set, List.length_replicate, words_length, ofBytes_length, List.length_append, List.length_cons, List.length_nil, List.length_take, List.length_drop, etys_length, ints64_length] <;> omega) | fail) only [go_sem, reduceIte, reduceCtorEq, Nat.reduceEqDiff, Nat.reduceAdd, Nat.reduceSub, Nat.reduceMul, Nat.reduceDiv, Nat.reduceMod, Nat.reduceBEq, Nat.reduceLeDiff, Nat.reduceLT, Int.reduceEq, Int.reduceNe, Int.reduceLT, Int.reduceLE, Int.reduceBEq, Int.reduceBNe, Int.reduceToNat, Int.reduceAdd, Int.reduceSub, Int.reduceMul, Int.reduceNeg, flats_i64s, refsOfs_i64s, rens_i64s, hg, h1]
    · by_cases w0 : w = 0
      · subst w0
        rw [if_pos (by simp [e0])] at h1 ⊢
        simp (dsimp := false) (disch := first | omega | (simp only [strs_length, List.length_set, List.length_replicate, words_length, ofBytes_length, List.length_append, List.length_cons, List.length_nil, List.length_take, List.length_drop, etys_length, ints64_length] <;> omega) | fail) only [go_sem, reduceIte, reduceCtorEq, Nat.reduceEqDiff, Nat.reduceAdd, Nat.reduceSub, Nat.reduceMul, Nat.reduceDiv, Nat.reduceMod, Nat.reduceBEq, Nat.reduceLeDiff, Nat.reduceLT, Int.reduceEq, Int.reduceNe, Int.reduceLT, Int.reduceLE, Int.reduceBEq, Int.reduceBNe, Int.reduceToNat, Int.reduceAdd, Int.reduceSub, Int.reduceMul, Int.reduceNeg, flats_i64s, refsOfs_i64s, rens_i64s, hg, h1, e0]
      · by_cases lt : e < w
        · rw [if_pos (by simp [e0, lt])] at h1 ⊢
          simp (dsimp := false) (disch := first | omega | (simp only [strs_length, List.length_set, List.length_replicate, words_length, ofBytes_length, List.length_append, List.length_cons, List.length_nil, List.length_take, List.length_drop, etys_length, ints64_length] <;> omega) | fail) only [go_sem, reduceIte, reduceCtorEq, Nat.reduceEqDiff, Nat.reduceAdd, Nat.reduceSub, Nat.reduceMul, Nat.reduceDiv, Nat.reduceMod, Nat.reduceBEq, Nat.reduceLeDiff, Nat.reduceLT, Int.reduceEq, Int.reduceNe, Int.reduceLT, Int.reduceLE, Int.reduceBEq, Int.reduceBNe, Int.reduceToNat, Int.reduceAdd, Int.reduceSub, Int.reduceMul, Int.reduceNeg, flats_i64s, refsOfs_i64s, rens_i64s, hg, h1, e0, w0, lt]
        · rw [if_neg (by simp [e0, lt, w0])] at h1 ⊢
          simp (dsimp := false) (disch := first | omega | (simp only [strs_length, List.length_set, List.length_replicate, words_length, ofBytes_length, List.length_append, List.length_cons, List.length_nil, List.length_take, List.length_drop, etys_length, ints64_length] <;> omega) | fail) only [go_sem, reduceIte, reduceCtorEq, Nat.reduceEqDiff, Nat.reduceAdd, Nat.reduceSub, Nat.reduceMul, Nat.reduceDiv, Nat.reduceMod, Nat.reduceBEq, Nat.reduceLeDiff, Nat.reduceLT, Int.reduceEq, Int.reduceNe, Int.reduceLT, Int.reduceLE, Int.reduceBEq, Int.reduceBNe, Int.reduceToNat, Int.reduceAdd, Int.reduceSub, Int.reduceMul, Int.reduceNeg, flats_i64s, refsOfs_i64s, rens_i64s, hg, h1, e0, w0, lt]
theorem go_least {l : List Int} (hl : l.length ≤ 1000000) : S E F.object_least [.lst (ints64 l) l.length] [] = some (.int .i64 (minE l), []) := by
  have h := least_l0 hl l.length 0 0 (by omega)
  simp only [Int.cast_ofNat_Int, List.drop_zero] at h
  rw [S_of fn_object_least rfl rfl]
  simp (dsimp := false) (disch := first | omega | (simp only [strs_length, List.length_set, List.length_replicate, words_length, ofBytes_length, List.length_append, List.length_cons, List.length_nil, List.length_take, List.length_drop, etys_length, ints64_length] <;> omega) | fail) only [L.object_least, go_sem, reduceIte, reduceCtorEq, Nat.reduceEqDiff, Nat.reduceAdd, Nat.reduceSub, Nat.reduceMul, Nat.reduceDiv, Nat.reduceMod, Nat.reduceBEq, Nat.reduceLeDiff, Nat.reduceLT, Int.reduceEq, Int.reduceNe, Int.reduceLT, Int.reduceLE, Int.reduceBEq, Int.reduceBNe, Int.reduceToNat, Int.reduceAdd, Int.reduceSub, Int.reduceMul, Int.reduceNeg, flats_i64s, refsOfs_i64s, rens_i64s, h]
  rfl
end Cod

/- The error of entries: the loop. -/
namespace Cod
open Go

def modeOK (m : Int) : Bool := decide (m = 16384) || (decide (m = 33188) || (decide (m = 33261) || decide (m = 40960)))
theorem ge_mode {m : Int} : S E F.names_Mode [.int .i64 m] [] = some (.bool (modeOK m), []) := by
  rw [S_of fn_names_Mode rfl rfl]
  unfold modeOK
  by_cases a : m = 16384
  · simp (dsimp := false) (disch := first | omega | (simp only [strs_length, List.length_set, List.length_replicate, words_length, ofBytes_length, List.length_append, List.length_cons, List.length_nil, List.length_take, List.length_drop, etys_length, ints64_length] <;> omega) | fail) only [L.names_Mode, go_sem, reduceIte, reduceCtorEq, Nat.reduceEqDiff, Nat.reduceAdd, Nat.reduceSub, Nat.reduceMul, Nat.reduceDiv, Nat.reduceMod, Nat.reduceBEq, Nat.reduceLeDiff, Nat.reduceLT, Int.reduceEq, Int.reduceNe, Int.reduceLT, Int.reduceLE, Int.reduceBEq, Int.reduceBNe, Int.reduceToNat, Int.reduceAdd, Int.reduceSub, Int.reduceMul, Int.reduceNeg, a]
  · by_cases b : m = 33188
    · simp (dsimp := false) (disch := first | omega | (simp only [strs_length, List.length_set, List.length_replicate, words_length, ofBytes_length, List.length_append, List.length_cons, List.length_nil, List.length_take, List.length_drop, etys_length, ints64_length] <;> omega) | fail) only [L.names_Mode, go_sem, reduceIte, reduceCtorEq, Nat.reduceEqDiff, Nat.reduceAdd, Nat.reduceSub, Nat.reduceMul, Nat.reduceDiv, Nat.reduceMod, Nat.reduceBEq, Nat.reduceLeDiff, Nat.reduceLT, Int.reduceEq, Int.reduceNe, Int.reduceLT, Int.reduceLE, Int.reduceBEq, Int.reduceBNe, Int.reduceToNat, Int.reduceAdd, Int.reduceSub, Int.reduceMul, Int.reduceNeg, a, b]
    · by_cases c : m = 33261
      · simp (dsimp := false) (disch := first | omega | (simp only [strs_length, List.length_set, List.length_replicate, words_length, ofBytes_length, List.length_append, List.length_cons, List.length_nil, List.length_take, List.length_drop, etys_length, ints64_length] <;> omega) | fail) only [L.names_Mode, go_sem, reduceIte, reduceCtorEq, Nat.reduceEqDiff, Nat.reduceAdd, Nat.reduceSub, Nat.reduceMul, Nat.reduceDiv, Nat.reduceMod, Nat.reduceBEq, Nat.reduceLeDiff, Nat.reduceLT, Int.reduceEq, Int.reduceNe, Int.reduceLT, Int.reduceLE, Int.reduceBEq, Int.reduceBNe, Int.reduceToNat, Int.reduceAdd, Int.reduceSub, Int.reduceMul, Int.reduceNeg, a, b, c]
      · by_cases d : m = 40960
        · simp (dsimp := false) (disch := first | omega | (simp only [strs_length, List.length_set, List.length_replicate, words_length, ofBytes_length, List.length_append, List.length_cons, List.length_nil, List.length_take, List.length_drop, etys_length, ints64_length] <;> omega) | fail) only [L.names_Mode, go_sem, reduceIte, reduceCtorEq, Nat.reduceEqDiff, Nat.reduceAdd, Nat.reduceSub, Nat.reduceMul, Nat.reduceDiv, Nat.reduceMod, Nat.reduceBEq, Nat.reduceLeDiff, Nat.reduceLT, Int.reduceEq, Int.reduceNe, Int.reduceLT, Int.reduceLE, Int.reduceBEq, Int.reduceBNe, Int.reduceToNat, Int.reduceAdd, Int.reduceSub, Int.reduceMul, Int.reduceNeg, a, b, c, d]
        · simp (dsimp := false) (disch := first | omega | (simp only [strs_length, List.length_set, List.length_replicate, words_length, ofBytes_length, List.length_append, List.length_cons, List.length_nil, List.length_take, List.length_drop, etys_length, ints64_length] <;> omega) | fail) only [L.names_Mode, go_sem, reduceIte, reduceCtorEq, Nat.reduceEqDiff, Nat.reduceAdd, Nat.reduceSub, Nat.reduceMul, Nat.reduceDiv, Nat.reduceMod, Nat.reduceBEq, Nat.reduceLeDiff, Nat.reduceLT, Int.reduceEq, Int.reduceNe, Int.reduceLT, Int.reduceLE, Int.reduceBEq, Int.reduceBNe, Int.reduceToNat, Int.reduceAdd, Int.reduceSub, Int.reduceMul, Int.reduceNeg, a, b, c, d]
theorem nameOK_len {s : List UInt8} (h : nameOK s = true) : s.length ≤ 100 := by
  unfold nameOK at h
  simp only [Bool.and_eq_true, decide_eq_true_eq] at h
  exact h.1.1.1.1.1.2
theorem ge_name {s : List UInt8} : S E F.names_Name [.str s] [] = some (.bool (nameOK s), []) := by
  by_cases h : s.length ≤ 1000000
  · exact S_ext ext0 (go_name h)
  · have e : nameOK s = false := by
      cases hn : nameOK s with
      | false => rfl
      | true => have := nameOK_len hn; omega
    rw [e, S_of fn_names_Name rfl rfl]
    have e1 : (s == []) = false := by
      cases s with
      | nil => simp at h
      | cons a t => rfl
    have e2 : (s == [46]) = false := by
      rw [← Bool.not_eq_true, beq_iff_eq]; intro he; rw [he] at h; simp at h
    have e3 : (s == [46, 46]) = false := by
      rw [← Bool.not_eq_true, beq_iff_eq]; intro he; rw [he] at h; simp at h
    simp (dsimp := false) (disch := first | omega | (simp only [strs_length, List.length_set, List.length_replicate, words_length, ofBytes_length, List.length_append, List.length_cons, List.length_nil, List.length_take, List.length_drop, etys_length, ints64_length] <;> omega) | fail) only [L.names_Name, go_sem, reduceIte, reduceCtorEq, Nat.reduceEqDiff, Nat.reduceAdd, Nat.reduceSub, Nat.reduceMul, Nat.reduceDiv, Nat.reduceMod, Nat.reduceBEq, Nat.reduceLeDiff, Nat.reduceLT, Int.reduceEq, Int.reduceNe, Int.reduceLT, Int.reduceLE, Int.reduceBEq, Int.reduceBNe, Int.reduceToNat, Int.reduceAdd, Int.reduceSub, Int.reduceMul, Int.reduceNeg, e1, e2, e3]
theorem strs_set {ks : List (List UInt8)} {n : List UInt8} (h : n ∈ ks) : (strs ks).set (ks.idxOf n) (.str n) = strs ks := by
  apply List.ext_getElem?
  intro j
  rw [List.getElem?_set]
  split
  · rename_i hj
    subst hj
    have hi := List.idxOf_lt_length_of_mem h
    rw [if_pos (by simpa [strs] using hi)]
    unfold strs
    rw [List.getElem?_map, List.getElem?_eq_getElem hi]
    simp [List.getElem_idxOf]
  · rfl
theorem ints_set (vs : List Int) (j : Nat) (v : Int) : (ints64 vs).set j (.int .i64 v) = ints64 (vs.set j v) := by simp [ints64, List.map_set]
theorem ints_snoc (vs : List Int) (v : Int) : ints64 vs ++ [.int .i64 v] = ints64 (vs ++ [v]) := by simp [ints64]
theorem ints_at {vs : List Int} {j : Nat} {v : Int} (h : vs[j]? = some v) : (ints64 vs)[j]? = some (.int .i64 v) := by simp [ints64, h]
def eName (e : Ety) : Int := if !nameOK e.name then 3 else 0
def eMode (e : Ety) : Int := if !modeOK e.mode then 4 else 0
def eOrd (l : List Ety) (i : Nat) : Int := if decide (0 < i) && decide (0 ≤ cmpB (keyE (eat l (i - 1))) (keyE (eat l i))) then 4 else 0
def eDup (l : List Ety) (i : Nat) : Int := if decide ((eat l i).name ∈ (l.take i).map (·.name)) then 8 else 0
def entI (l : List Ety) : Nat → Nat → Int → Nat → Int × Nat
  | 0, _, w, z => (w, z)
  | m + 1, i, w, z => entI l m (i + 1) (minE [w, eName (eat l i), eMode (eat l i), eOrd l i, eDup l i]) (z + ((octT (eat l i).mode).length + (eat l i).name.length + 34))
theorem ent_l0 {l : List Ety} (hl : l.length ≤ 4096) (hn : ∀ i, (eat l i).name.length ≤ 1000000000) (hm : ∀ i, -9223372036854775808 ≤ (eat l i).mode ∧ (eat l i).mode ≤ 9223372036854775807) : ∀ (m i z : Nat) (w : Int) (ks : List (List UInt8)) (vs : List Int), i + m = l.length → z ≤ i * 2000000000 → MapOK ((l.take i).map (·.name)) ks vs →
    ∃ ks' vs', X E [.tmp 2] (.c L.object_entries.x0 :: .lp [0, 3, 4, 5, 12, 13, 14] L.object_entries.x0 :: .blk 0 :: [.c L.object_entries.r0]) ⟨[(0, .lst (etys l) l.length), (3, .int .i64 w), (4, .int .i64 z), (5, .mpr (.s 1000000 0) 0), (12, .lst (etys l) l.length), (13, .int .i64 l.length), (14, .int .i64 i)], [(.s 1000000 0, ⟨0, true, true, true, [.mp (strs ks) (ints64 vs)]⟩)]⟩ =
    X E [.tmp 2] [.c L.object_entries.r0] ⟨[(0, .lst (etys l) l.length), (3, .int .i64 (entI l m i w z).1), (4, .int .i64 (entI l m i w z).2), (5, .mpr (.s 1000000 0) 0), (12, .lst (etys l) l.length), (13, .int .i64 l.length), (14, .int .i64 l.length), (15, .bool false)], [(.s 1000000 0, ⟨0, true, true, true, [.mp (strs ks') (ints64 vs')]⟩)]⟩ := by
  intro m
  induction m with
  | zero =>
    intro i z w ks vs h hz hM
    obtain rfl : i = l.length := by omega
    refine ⟨ks, vs, ?_⟩
    rw [X_in L.object_entries.x0.eq_1, entI]
    simp (dsimp := false) (disch := first | omega | (simp only [strs_length, List.length_set, List.length_replicate, words_length, ofBytes_length, List.length_append, List.length_cons, List.length_nil, List.length_take, List.length_drop, etys_length, ints64_length] <;> omega) | fail) only [go_sem, reduceIte, reduceCtorEq, Nat.reduceEqDiff, Nat.reduceAdd, Nat.reduceSub, Nat.reduceMul, Nat.reduceDiv, Nat.reduceMod, Nat.reduceBEq, Nat.reduceLeDiff, Nat.reduceLT, Int.reduceEq, Int.reduceNe, Int.reduceLT, Int.reduceLE, Int.reduceBEq, Int.reduceBNe, Int.reduceToNat, Int.reduceAdd, Int.reduceSub, Int.reduceMul, Int.reduceNeg, strs_length, flats_strs, hards_strs, leadss_strs, refsOfs_strs, rens_strs, strs_snoc, get_strs]
  | succ m ih =>
    intro i z w ks vs h hz hM
    have hlt : i < l.length := by omega
    have hf := go_format8 (hm i).1 (hm i).2
    have hol := octT_len (eat l i).mode
    have hnl := hn i
    have hnm := ge_name (s := (eat l i).name)
    have hmd := ge_mode (m := (eat l i).mode)
    have w1 : S E F.object_when [.bool (!nameOK (eat l i).name), .int .i64 3] [] = some (.int .i64 (eName (eat l i)), []) := go_when
    have w2 : S E F.object_when [.bool (!modeOK (eat l i).mode), .int .i64 4] [] = some (.int .i64 (eMode (eat l i)), []) := go_when
    have wl := go_least (l := [w, eName (eat l i), eMode (eat l i), eOrd l i, eDup l i]) (by simp)
    simp only [ints64, List.map_cons, List.map_nil, List.length_cons, List.length_nil] at wl
    have htake : (l.take (i + 1)).map (·.name) = (l.take i).map (·.name) ++ [(eat l i).name] := by
      rw [List.take_succ_eq_append_getElem hlt, List.map_append]
      simp [eat, List.getD, hlt]
    have hseen : ((l.take i).map (·.name)).length ≤ 4096 := by rw [List.length_map, List.length_take]; omega
    rw [X_in L.object_entries.x0.eq_1, entI]
    by_cases hin : (eat l i).name ∈ ks
    · obtain ⟨v, hv, v1, v2, hM2⟩ := hM.old hin
      rw [← htake] at hM2
      have hv2 := ints_at hv
      have hw : IntKind.i64.wrap (v + 1) = v + 1 := wrap_i64 (by omega) (by omega)
      have hv3 : (ints64 (vs.set (ks.idxOf (eat l i).name) (v + 1)))[ks.idxOf (eat l i).name]? = some (.int .i64 (v + 1)) := ints_at (by
        rw [List.getElem?_set, if_pos rfl, if_pos (List.getElem?_eq_some_iff.1 hv).1])
      have hfk : findK true (.str (eat l i).name) (strs ks) 0 = some (some (ks.idxOf (eat l i).name)) := by rw [findK_strs, if_pos hin, Nat.zero_add]
      have w4 : S E F.object_when [.bool true, .int .i64 8] [] = some (.int .i64 (eDup l i), []) := by
        have e : eDup l i = 8 := by unfold eDup; rw [decide_eq_true ((hM.mem _).1 hin)]; rfl
        rw [e]; exact go_when (b := true)
      obtain ⟨ks', vs', ih2⟩ := ih (i + 1) (z + ((octT (eat l i).mode).length + (eat l i).name.length + 34)) (minE [w, eName (eat l i), eMode (eat l i), eOrd l i, eDup l i]) ks _ (by omega) (by omega) hM2
      simp only [Int.natCast_add, Int.cast_ofNat_Int] at ih2
      refine ⟨ks', vs', ?_⟩
      by_cases hi0 : 0 < i
      · have o1 := go_nOrder (a := eat l (i - 1)) (b := eat l i) (by have := hn (i - 1); omega) (by omega)
        have w3 : S E F.object_when [.bool (decide (0 ≤ cmpB (keyE (eat l (i - 1))) (keyE (eat l i)))), .int .i64 4] [] = some (.int .i64 (eOrd l i), []) := by
          have e : eOrd l i = if decide (0 ≤ cmpB (keyE (eat l (i - 1))) (keyE (eat l i))) = true then 4 else 0 := by unfold eOrd; rw [decide_eq_true hi0, Bool.true_and]
          rw [e]; exact go_when
        have e1 : (if (i : Int) - 1 < 0 then (0 : Int) else (i : Int) - 1) = ((i - 1 : Nat) : Int) := by rw [if_neg (by omega)]; omega
        simp (dsimp := false) (disch := first | omega | (simp only [strs_length, List.length_set, List.length_replicate, words_length, ofBytes_length, List.length_append, List.length_cons, List.length_nil, List.length_take, List.length_drop, etys_length, ints64_length] <;> omega) | fail) only [go_sem, reduceIte, reduceCtorEq, Nat.reduceEqDiff, Nat.reduceAdd, Nat.reduceSub, Nat.reduceMul, Nat.reduceDiv, Nat.reduceMod, Nat.reduceBEq, Nat.reduceLeDiff, Nat.reduceLT, Int.reduceEq, Int.reduceNe, Int.reduceLT, Int.reduceLE, Int.reduceBEq, Int.reduceBNe, Int.reduceToNat, Int.reduceAdd, Int.reduceSub, Int.reduceMul, Int.reduceNeg, strs_length, flats_strs, hards_strs, leadss_strs, refsOfs_strs, rens_strs, strs_snoc, get_strs, hf, hnm, hmd, hv2, hv3, hw, hfk, strs_set hin, ints_set, w1, w2, w3, w4, hi0, o1, wl, e1, toNat_cast, ih2]
      · have w3 : S E F.object_when [.bool false, .int .i64 4] [] = some (.int .i64 (eOrd l i), []) := by
          have e : eOrd l i = 0 := by unfold eOrd; rw [decide_eq_false hi0]; rfl
          rw [e]; exact go_when (b := false)
        simp (dsimp := false) (disch := first | omega | (simp only [strs_length, List.length_set, List.length_replicate, words_length, ofBytes_length, List.length_append, List.length_cons, List.length_nil, List.length_take, List.length_drop, etys_length, ints64_length] <;> omega) | fail) only [go_sem, reduceIte, reduceCtorEq, Nat.reduceEqDiff, Nat.reduceAdd, Nat.reduceSub, Nat.reduceMul, Nat.reduceDiv, Nat.reduceMod, Nat.reduceBEq, Nat.reduceLeDiff, Nat.reduceLT, Int.reduceEq, Int.reduceNe, Int.reduceLT, Int.reduceLE, Int.reduceBEq, Int.reduceBNe, Int.reduceToNat, Int.reduceAdd, Int.reduceSub, Int.reduceMul, Int.reduceNeg, strs_length, flats_strs, hards_strs, leadss_strs, refsOfs_strs, rens_strs, strs_snoc, get_strs, hf, hnm, hmd, hv2, hv3, hw, hfk, strs_set hin, ints_set, w1, w2, w3, w4, hi0, wl, ih2]
    · have hM2 := hM.new hin
      rw [← htake] at hM2
      have hfk : findK true (.str (eat l i).name) (strs ks) 0 = some none := by rw [findK_strs, if_neg hin]
      have hfk2 : findK true (.str (eat l i).name) (strs (ks ++ [(eat l i).name])) 0 = some (some ks.length) := by
        rw [findK_strs, if_pos (by simp), List.idxOf_append, if_neg hin]
        simp
      have hv3 : (ints64 (vs ++ [1]))[ks.length]? = some (.int .i64 1) := ints_at (by rw [← hM.len, List.getElem?_append_right (Nat.le_refl _), Nat.sub_self]; rfl)
      have w4 : S E F.object_when [.bool false, .int .i64 8] [] = some (.int .i64 (eDup l i), []) := by
        have e : eDup l i = 0 := by unfold eDup; rw [decide_eq_false (fun x => hin ((hM.mem _).2 x))]; rfl
        rw [e]; exact go_when (b := false)
      obtain ⟨ks', vs', ih2⟩ := ih (i + 1) (z + ((octT (eat l i).mode).length + (eat l i).name.length + 34)) (minE [w, eName (eat l i), eMode (eat l i), eOrd l i, eDup l i]) _ _ (by omega) (by omega) hM2
      simp only [Int.natCast_add, Int.cast_ofNat_Int] at ih2
      refine ⟨ks', vs', ?_⟩
      by_cases hi0 : 0 < i
      · have o1 := go_nOrder (a := eat l (i - 1)) (b := eat l i) (by have := hn (i - 1); omega) (by omega)
        have w3 : S E F.object_when [.bool (decide (0 ≤ cmpB (keyE (eat l (i - 1))) (keyE (eat l i)))), .int .i64 4] [] = some (.int .i64 (eOrd l i), []) := by
          have e : eOrd l i = if decide (0 ≤ cmpB (keyE (eat l (i - 1))) (keyE (eat l i))) = true then 4 else 0 := by unfold eOrd; rw [decide_eq_true hi0, Bool.true_and]
          rw [e]; exact go_when
        have e1 : (if (i : Int) - 1 < 0 then (0 : Int) else (i : Int) - 1) = ((i - 1 : Nat) : Int) := by rw [if_neg (by omega)]; omega
        simp (dsimp := false) (disch := first | omega | (simp only [strs_length, List.length_set, List.length_replicate, words_length, ofBytes_length, List.length_append, List.length_cons, List.length_nil, List.length_take, List.length_drop, etys_length, ints64_length] <;> omega) | fail) only [go_sem, reduceIte, reduceCtorEq, Nat.reduceEqDiff, Nat.reduceAdd, Nat.reduceSub, Nat.reduceMul, Nat.reduceDiv, Nat.reduceMod, Nat.reduceBEq, Nat.reduceLeDiff, Nat.reduceLT, Int.reduceEq, Int.reduceNe, Int.reduceLT, Int.reduceLE, Int.reduceBEq, Int.reduceBNe, Int.reduceToNat, Int.reduceAdd, Int.reduceSub, Int.reduceMul, Int.reduceNeg, strs_length, flats_strs, hards_strs, leadss_strs, refsOfs_strs, rens_strs, strs_snoc, get_strs, hf, hnm, hmd, hv3, hfk, hfk2, ints_snoc, w1, w2, w3, w4, hi0, o1, wl, e1, toNat_cast, ih2]
      · have w3 : S E F.object_when [.bool false, .int .i64 4] [] = some (.int .i64 (eOrd l i), []) := by
          have e : eOrd l i = 0 := by unfold eOrd; rw [decide_eq_false hi0]; rfl
          rw [e]; exact go_when (b := false)
        simp (dsimp := false) (disch := first | omega | (simp only [strs_length, List.length_set, List.length_replicate, words_length, ofBytes_length, List.length_append, List.length_cons, List.length_nil, List.length_take, List.length_drop, etys_length, ints64_length] <;> omega) | fail) only [go_sem, reduceIte, reduceCtorEq, Nat.reduceEqDiff, Nat.reduceAdd, Nat.reduceSub, Nat.reduceMul, Nat.reduceDiv, Nat.reduceMod, Nat.reduceBEq, Nat.reduceLeDiff, Nat.reduceLT, Int.reduceEq, Int.reduceNe, Int.reduceLT, Int.reduceLE, Int.reduceBEq, Int.reduceBNe, Int.reduceToNat, Int.reduceAdd, Int.reduceSub, Int.reduceMul, Int.reduceNeg, strs_length, flats_strs, hards_strs, leadss_strs, refsOfs_strs, rens_strs, strs_snoc, get_strs, hf, hnm, hmd, hv3, hfk, hfk2, ints_snoc, w1, w2, w3, w4, hi0, wl, ih2]
/-- What 'entries' answers. -/
def entE (l : List Ety) : Int := if 4096 < l.length then 2 else minE [(entI l l.length 0 0 0).1, if decide (1048576 < (entI l l.length 0 0 0).2) then 2 else 0]
theorem entI_z (l : List Ety) (hn : ∀ i, (eat l i).name.length ≤ 1000000000) : ∀ (m i z : Nat) (w : Int), z ≤ i * 2000000000 → (entI l m i w z).2 ≤ (i + m) * 2000000000 := by
  intro m
  induction m with
  | zero => intro i z w h; exact h
  | succ m ih =>
    intro i z w h
    rw [entI]
    have := ih (i + 1) (z + ((octT (eat l i).mode).length + (eat l i).name.length + 34)) (minE [w, eName (eat l i), eMode (eat l i), eOrd l i, eDup l i]) (by have := hn i; have := octT_len (eat l i).mode; omega)
    rw [show i + (m + 1) = i + 1 + m by omega]
    exact this
theorem go_entries {l : List Ety} (hn : ∀ i, (eat l i).name.length ≤ 1000000000) (hm : ∀ i, -9223372036854775808 ≤ (eat l i).mode ∧ (eat l i).mode ≤ 9223372036854775807) (hl : l.length ≤ 1000000000) : S E F.object_entries [.lst (etys l) l.length] [] = some (.int .i64 (entE l), []) := by
  rw [S_of fn_object_entries rfl rfl]
  unfold entE
  by_cases hlen : 4096 < l.length
  · rw [if_pos hlen]
    simp (dsimp := false) (disch := first | omega | (simp only [strs_length, List.length_set, List.length_replicate, words_length, ofBytes_length, List.length_append, List.length_cons, List.length_nil, List.length_take, List.length_drop, etys_length, ints64_length] <;> omega) | fail) only [L.object_entries, go_sem, reduceIte, reduceCtorEq, Nat.reduceEqDiff, Nat.reduceAdd, Nat.reduceSub, Nat.reduceMul, Nat.reduceDiv, Nat.reduceMod, Nat.reduceBEq, Nat.reduceLeDiff, Nat.reduceLT, Int.reduceEq, Int.reduceNe, Int.reduceLT, Int.reduceLE, Int.reduceBEq, Int.reduceBNe, Int.reduceToNat, Int.reduceAdd, Int.reduceSub, Int.reduceMul, Int.reduceNeg, hlen]
  · rw [if_neg hlen]
    obtain ⟨ks, vs, h⟩ := ent_l0 (l := l) (by omega) hn hm l.length 0 0 0 [] [] (by omega) (by omega) (by simpa using MapOK.nil)
    have hz := entI_z l hn l.length 0 0 0 (by omega)
    simp only [Int.cast_ofNat_Int, show strs [] = [] from rfl, show ints64 [] = [] from rfl] at h
    simp (dsimp := false) (disch := first | omega | (simp only [strs_length, List.length_set, List.length_replicate, words_length, ofBytes_length, List.length_append, List.length_cons, List.length_nil, List.length_take, List.length_drop, etys_length, ints64_length] <;> omega) | fail) only [L.object_entries, go_sem, reduceIte, reduceCtorEq, Nat.reduceEqDiff, Nat.reduceAdd, Nat.reduceSub, Nat.reduceMul, Nat.reduceDiv, Nat.reduceMod, Nat.reduceBEq, Nat.reduceLeDiff, Nat.reduceLT, Int.reduceEq, Int.reduceNe, Int.reduceLT, Int.reduceLE, Int.reduceBEq, Int.reduceBNe, Int.reduceToNat, Int.reduceAdd, Int.reduceSub, Int.reduceMul, Int.reduceNeg, hlen]
    rw [h]
    generalize (entI l l.length 0 0 0).1 = w at *
    generalize (entI l l.length 0 0 0).2 = z at *
    have w1 : S E F.object_when [.bool (decide (1048576 < (z : Int))), .int .i64 2] [] = some (.int .i64 (if decide (1048576 < z) then 2 else 0), []) := by
      rw [show decide (1048576 < (z : Int)) = decide (1048576 < z) from decide_eq_decide.2 (by omega)]; exact go_when
    have wl := go_least (l := [w, if decide (1048576 < z) then 2 else 0]) (by simp)
    simp only [ints64, List.map_cons, List.map_nil, List.length_cons, List.length_nil] at wl
    simp (dsimp := false) (disch := first | omega | (simp only [strs_length, List.length_set, List.length_replicate, words_length, ofBytes_length, List.length_append, List.length_cons, List.length_nil, List.length_take, List.length_drop, etys_length, ints64_length] <;> omega) | fail) only [L.object_entries.r0, go_sem, reduceIte, reduceCtorEq, Nat.reduceEqDiff, Nat.reduceAdd, Nat.reduceSub, Nat.reduceMul, Nat.reduceDiv, Nat.reduceMod, Nat.reduceBEq, Nat.reduceLeDiff, Nat.reduceLT, Int.reduceEq, Int.reduceNe, Int.reduceLT, Int.reduceLE, Int.reduceBEq, Int.reduceBNe, Int.reduceToNat, Int.reduceAdd, Int.reduceSub, Int.reduceMul, Int.reduceNeg, w1, wl]
end Cod

/- object.PutTree, walked in the model: what the walk needs. -/
namespace Cod
open Go Go.RowKit Go.Proofs Go.Shelf
set_option maxRecDepth 1000000

/-- The bytes of an entry, of entries. -/
def entB (e : Ety) : List UInt8 := octT e.mode ++ [32] ++ e.name ++ [0] ++ e.id
def treeB (l : List Ety) : List UInt8 := l.flatMap entB

def TreeOK (l : List Ety) : Prop := (∀ i, (eat l i).name.length ≤ 1000000000) ∧ (∀ i, -9223372036854775808 ≤ (eat l i).mode ∧ (eat l i).mode ≤ 9223372036854775807) ∧ l.length ≤ 1000000000
theorem ent_calls {l : List Ety} (hl : TreeOK l) {a : Option Addr} {cap : Nat} {w : World} (hW : Start w) (hv : VR (ctx [] LaE w) (.lst (etys l) l.length) (.slice a l.length cap)) :
    Calls Tryz.prog 41 #[.slice a l.length cap] w fun e w' => e = .returned (.int .i64 (entE l)) ∧ Below w.heap.size w w' :=
  e_calls Tryz.func41 (by rfl) (by kernel_rfl) (go_entries hl.1 hl.2.1 hl.2.2) hW (vs := [.slice a l.length cap]) (by simp only [VRL]; exact ⟨_, _, rfl, hv, rfl⟩) (fun c z hz => by simpa [VR] using hz)
theorem fmt_calls {m : Int} (h0 : -9223372036854775808 ≤ m) (h1 : m ≤ 9223372036854775807) {w : World} (hW : Start w) :
    Calls Tryz.prog 43 #[.int .i64 m, .int .i64 8] w fun e w' => e = .returned (.string ⟨(octT m).toArray⟩) ∧ Below w.heap.size w w' :=
  e_calls Tryz.func43 (by rfl) (by kernel_rfl) (go_format8 h0 h1) hW (vs := [.int .i64 m, .int .i64 8]) (by simp [VRL, VR]) (fun c z hz => by simpa [VR] using hz)
/-- An entry's cells in memory. -/
def valsE (e : Ety) : List Value := .int .i64 e.mode :: .string ⟨e.name.toArray⟩ :: Lib.byteCells e.id
theorem valsE_len (e : Ety) : (valsE e).length = 34 := by simp [valsE, Lib.byteCells_length, e.hid]
theorem vals_one (e : Ety) : (valsE e).toArray.all (·.oneCell') = true := by
  rw [Array.all_eq_true_iff_forall_mem]
  intro v hv
  simp only [List.mem_toArray, valsE, List.mem_cons] at hv
  rcases hv with rfl | rfl | hv
  · rfl
  · rfl
  · unfold Lib.byteCells at hv
    obtain ⟨b, _, rfl⟩ := List.mem_map.1 hv
    rfl
theorem vrl_bytes {c : Ctx} : ∀ {l : List UInt8} {vs : List Value}, VRL c (ofBytes l) vs → vs = Lib.byteCells l := by
  intro l
  induction l with
  | nil => intro vs h; simp only [ofBytes, List.map_nil, VRL] at h; rw [h]; rfl
  | cons a l ih =>
    intro vs h
    simp only [ofBytes, List.map_cons, VRL] at h
    obtain ⟨v, r, rfl, h1, h2⟩ := h
    rw [ih h2]
    simp only [VR] at h1
    rw [h1]; rfl
theorem ety_range {c : Ctx} {b o : Nat} {e : Ety} (h : VRC c b o e.cells) : c.w.rangeAt b o (valsE e) := by
  obtain ⟨vs, h1, h2⟩ := VRC_list h
  unfold Ety.cells at h1
  simp only [VRL, VR] at h1
  obtain ⟨v0, r0, rfl, rfl, v1, r1, rfl, rfl, h3⟩ := h1
  rw [vrl_bytes h3] at h2
  exact h2
theorem below_sets {B b : Nat} (hb : B ≤ b) : ∀ (vs : List Value) (o : Nat) {W w : World}, Below B W w → Below B W (w.setCells b o vs) := by
  intro vs
  induction vs with
  | nil => intro o W w h; exact h
  | cons v r ih => intro o W w h; exact ih (o + 1) (h.setCell (p := ⟨b, o, none⟩) hb v)
theorem size_sets (b : Nat) : ∀ (vs : List Value) (o : Nat) (w : World), (w.setCells b o vs).heap.size = w.heap.size := by
  intro vs
  induction vs with
  | nil => intro o w; rfl
  | cons v r ih => intro o w; show ((w.setCell _ v).setCells b (o + 1) r).heap.size = _; rw [ih]; simp [World.setCell]
theorem row_sets {b : Nat} {T : TypeId} : ∀ (vs : List Value) (o : Nat) (w : World), (∃ cs fr, w.heap[b]? = some (.cells cs T fr)) → ∃ cs fr, (w.setCells b o vs).heap[b]? = some (.cells cs T fr) := by
  intro vs
  induction vs with
  | nil => intro o w h; exact h
  | cons v r ih =>
    intro o w h
    refine ih (o + 1) _ ?_
    obtain ⟨cs, fr, h⟩ := h
    refine ⟨cs.setIfInBounds o v, fr, ?_⟩
    simp only [World.setCell, Array.getElem?_modify, if_true, h]
    rfl
theorem owns_mono {w : World} {B B' : Nat} {e sz n : Nat} {v : Value} {xs : List Value} (h : w.ownsRow B e sz v n xs) (hB : B' ≤ B) : w.ownsRow B' e sz v n xs := by
  obtain ⟨h1, h2⟩ := h
  refine ⟨h1, ?_⟩
  rcases h2 with h2 | ⟨g, cap, cur, q1, q2, q3⟩
  · exact .inl h2
  · exact .inr ⟨g, cap, cur, q1, Nat.le_trans hB q2, q3⟩
/-- A variable of the call's own. -/
structure VarAt (wr W3 : World) (T : TypeId) (vals : List Value) : Prop where
  below : Below wr.heap.size wr W3
  size : W3.heap.size = wr.heap.size + 1
  cell : ∀ j v, vals[j]? = some v → W3.cell? ⟨wr.heap.size, j, none⟩ = some v
  row : ∃ cs fr, W3.heap[wr.heap.size]? = some (.cells cs T fr)
theorem varAt_new (wr : World) (z : Array Value) (T : TypeId) (vals : List Value) (hz : z.size = vals.length) : VarAt wr ((wr.alloc (.cells z T)).setCells wr.heap.size 0 vals) T vals := by
  have hc : ∀ j, j < vals.length → ((wr.alloc (.cells z T)).cell? ⟨wr.heap.size, 0 + j, none⟩).isSome = true := by
    intro j hj
    simp only [World.cell?, heap_alloc_new]
    rw [if_neg (by simp), Nat.zero_add, Array.getElem?_eq_getElem (by omega)]
    rfl
  refine ⟨below_sets (Nat.le_refl _) _ _ ((Below.refl _ wr).alloc (Nat.le_refl _) _), ?_, ?_, row_sets _ _ _ ⟨_, _, heap_alloc_new wr _⟩⟩
  · rw [size_sets]; exact Array.size_push _
  · intro j v hv
    have hj := (List.getElem?_eq_some_iff.1 hv).1
    have := World.cell?_setCells_in wr.heap.size vals 0 _ hc j hj
    rw [Nat.zero_add] at this
    rw [this]
    rw [List.getElem?_eq_getElem hj] at hv
    exact hv
theorem with_var {wr : World} {z : Array Value} {T : TypeId} {vals : List Value} (hz : z.size = vals.length) {p : World → Prop} (h : ∀ W3, VarAt wr W3 T vals → p W3) : p ((wr.alloc (.cells z T)).setCells wr.heap.size 0 vals) := h _ (varAt_new wr z T vals hz)
theorem entB_len (e : Ety) : (entB e).length = (octT e.mode).length + e.name.length + 34 := by
  unfold entB; simp [e.hid]; omega
theorem treeB_take (l : List Ety) (k : Nat) : (treeB (l.take k)).length ≤ (treeB l).length := by
  have h : treeB l = treeB (l.take k) ++ treeB (l.drop k) := by unfold treeB; rw [← List.flatMap_append, List.take_append_drop]
  rw [h, List.length_append]; omega
theorem treeB_succ {l : List Ety} {k : Nat} (h : k < l.length) : treeB (l.take (k + 1)) = treeB (l.take k) ++ entB (eat l k) := by
  rw [List.take_succ_eq_append_getElem h]
  unfold treeB
  rw [List.flatMap_append]
  simp [eat, List.getD, h]
theorem entI_len (l : List Ety) : ∀ (m i z : Nat) (w : Int), i + m = l.length → (entI l m i w z).2 = z + (treeB (l.drop i)).length := by
  intro m
  induction m with
  | zero =>
    intro i z w h
    rw [List.drop_eq_nil_of_le (by omega)]
    simp [entI, treeB]
  | succ m ih =>
    intro i z w h
    have hlt : i < l.length := by omega
    rw [entI, ih (i + 1) _ _ (by omega), List.drop_eq_getElem_cons hlt]
    have he : eat l i = l[i] := by simp [eat, List.getD, hlt]
    have e2 : treeB (l[i] :: l.drop (i + 1)) = entB l[i] ++ treeB (l.drop (i + 1)) := by unfold treeB; rw [List.flatMap_cons]
    rw [e2, List.length_append, entB_len, he]
    omega
theorem lst2_0 (w : Int) : lst2 0 w = w := by
  unfold lst2
  by_cases h : w = 0
  · rw [h]; simp
  · rw [if_pos ⟨h, .inl rfl⟩]
theorem minE2 {w e : Int} (h : minE [w, e] = 0) : e = 0 := by
  have h1 : lst2 (lst2 0 w) e = 0 := h
  rw [lst2_0] at h1
  unfold lst2 at h1
  by_cases he : e = 0
  · exact he
  · split at h1
    · exact h1
    · rename_i h2
      exact absurd ⟨he, .inl h1⟩ h2
theorem treeB_small {l : List Ety} (h : entE l = 0) : (treeB l).length ≤ 1048576 := by
  unfold entE at h
  split at h
  · omega
  · have h2 := minE2 h
    rw [entI_len l l.length 0 0 0 (by omega), List.drop_zero] at h2
    split at h2
    · omega
    · rename_i h3
      simp at h3
      omega
theorem one_bytes : ∀ (l : List UInt8), ∀ v ∈ Lib.byteCells l, v.oneCell' = true := by
  intro l v hv
  unfold Lib.byteCells at hv
  obtain ⟨b, _, rfl⟩ := List.mem_map.1 hv
  rfl
/-- Where an entry's id lies behind the two calls. -/
theorem src_id {wr W3 W4 W5 : World} {e : Ety} {T : TypeId} {b : Nat} (hva : VarAt wr W3 T (valsE e)) (hT : T ≠ 5) (hb : b < wr.heap.size) (hk4 : ∀ j, j < W3.heap.size → W4.heap[j]? = W3.heap[j]?) (hk5 : Lib.OthersKept 5 (some b) W4 W5) :
    ∀ j v, (Lib.byteCells e.id)[j]? = some v → W5.cell? ((⟨wr.heap.size, 2, none⟩ : Addr).add j) = some v := by
  intro j v hj
  obtain ⟨cs, fr, hr⟩ := hva.row
  have hn1 : wr.heap.size < W3.heap.size := by rw [hva.size]; omega
  have h4 : W4.heap[wr.heap.size]? = some (.cells cs T fr) := (hk4 _ hn1).trans hr
  have h5 := hk5 _ _ h4 (by simp; omega) (fun c fz h => by cases h; exact hT rfl)
  have hc := hva.cell (j + 2) v (by simpa [valsE] using hj)
  rw [Addr.add_mid]
  simp only [World.cell?, hr, h5] at hc ⊢
  rw [Nat.add_comm]; exact hc
theorem cat_data {T1 T2 : ByteArray} {m : Int} {n : List UInt8} (d1 : T1.data.toList = octT m) (d2 : T2.data.toList = n) : (T1 ++ ⟨#[32]⟩ ++ T2 ++ ⟨#[0]⟩).data.toList = octT m ++ [32] ++ n ++ [0] := by
  simp only [ByteArray.data_append, Array.toList_append, d1, d2]
theorem cells_app (a b : List UInt8) : Lib.byteCells a ++ Lib.byteCells b = Lib.byteCells (a ++ b) := by simp [Lib.byteCells]
theorem cat_tree {T1 T2 : ByteArray} {l : List Ety} {k : Nat} (hk : k < l.length) (d1 : T1.data.toList = octT (eat l k).mode) (d2 : T2.data.toList = (eat l k).name) :
    Lib.byteCells (treeB (l.take k)) ++ Lib.byteCells (T1 ++ ⟨#[32]⟩ ++ T2 ++ ⟨#[0]⟩).data.toList ++ Lib.byteCells (eat l k).id = Lib.byteCells (treeB (l.take (k + 1))) := by
  rw [cat_data d1 d2, cells_app, cells_app, treeB_succ hk]
  congr 1
  simp [entB]
theorem below_weak {B B' : Nat} {a w : World} (h : Below B a w) (hB : B' ≤ B) : Below B' a w := ⟨h.os, h.tape, h.output, h.size, fun k hk => h.block k (Nat.lt_of_lt_of_le hk hB)⟩
theorem wrap64_succ {k : Nat} (h : k ≤ 1000000000) : wrap64 ((k : Int) + 1) = ((k + 1 : Nat) : Int) := by
  unfold wrap64; omega
end Cod

/- How entries of a tree follow one another, the reference's way. -/
namespace Cod
open Go
theorem go_rkey {e : Ety} (h : e.name.length ≤ 1000000000000) : S E F.ref06_key [.agg e.cells] [] = some (.str (keyE e), []) := by
  rw [S_of fn_ref06_key rfl rfl]
  unfold keyE
  by_cases hm : e.mode = 16384
  · rw [if_pos hm]
    simp (dsimp := false) (disch := first | omega | (simp only [strs_length, List.length_set, List.length_replicate, words_length, ofBytes_length, List.length_append, List.length_cons, List.length_nil, List.length_take, List.length_drop] <;> omega) | fail) only [L.ref06_key, go_sem, reduceIte, reduceCtorEq, Nat.reduceEqDiff, Nat.reduceAdd, Nat.reduceSub, Nat.reduceMul, Nat.reduceDiv, Nat.reduceMod, Nat.reduceBEq, Nat.reduceLeDiff, Nat.reduceLT, Int.reduceEq, Int.reduceNe, Int.reduceLT, Int.reduceLE, Int.reduceBEq, Int.reduceBNe, Int.reduceToNat, Int.reduceAdd, Int.reduceSub, Int.reduceMul, Int.reduceNeg, hm]
  · rw [if_neg hm]
    simp (dsimp := false) (disch := first | omega | (simp only [strs_length, List.length_set, List.length_replicate, words_length, ofBytes_length, List.length_append, List.length_cons, List.length_nil, List.length_take, List.length_drop] <;> omega) | fail) only [L.ref06_key, go_sem, reduceIte, reduceCtorEq, Nat.reduceEqDiff, Nat.reduceAdd, Nat.reduceSub, Nat.reduceMul, Nat.reduceDiv, Nat.reduceMod, Nat.reduceBEq, Nat.reduceLeDiff, Nat.reduceLT, Int.reduceEq, Int.reduceNe, Int.reduceLT, Int.reduceLE, Int.reduceBEq, Int.reduceBNe, Int.reduceToNat, Int.reduceAdd, Int.reduceSub, Int.reduceMul, Int.reduceNeg, hm]
theorem go_rorder {a b : Ety} (ha : a.name.length ≤ 1000000000000) (hb : b.name.length ≤ 1000000000000) : S E F.ref06_Order [.agg a.cells, .agg b.cells] [] = some (.int .i64 (cmpB (keyE a) (keyE b)), []) := by
  have h1 := go_rkey ha
  have h2 := go_rkey hb
  rw [S_of fn_ref06_Order rfl rfl]
  unfold cmpB
  generalize keyE a = x at *
  generalize keyE b = y at *
  by_cases he : x = y
  · subst he
    have hs : (x == x) = true := by simp
    simp (dsimp := false) (disch := first | omega | (simp only [strs_length, List.length_set, List.length_replicate, words_length, ofBytes_length, List.length_append, List.length_cons, List.length_nil, List.length_take, List.length_drop] <;> omega) | fail) only [L.ref06_Order, go_sem, reduceIte, reduceCtorEq, Nat.reduceEqDiff, Nat.reduceAdd, Nat.reduceSub, Nat.reduceMul, Nat.reduceDiv, Nat.reduceMod, Nat.reduceBEq, Nat.reduceLeDiff, Nat.reduceLT, Int.reduceEq, Int.reduceNe, Int.reduceLT, Int.reduceLE, Int.reduceBEq, Int.reduceBNe, Int.reduceToNat, Int.reduceAdd, Int.reduceSub, Int.reduceMul, Int.reduceNeg, h1, h2, less_self, hs, Bool.not_true]
  · have hs : (x == y) = false := by simp [he]
    rw [if_neg he]
    cases c1 : Op.bytesLess x y <;> simp (dsimp := false) (disch := first | omega | (simp only [strs_length, List.length_set, List.length_replicate, words_length, ofBytes_length, List.length_append, List.length_cons, List.length_nil, List.length_take, List.length_drop] <;> omega) | fail) only [L.ref06_Order, go_sem, reduceIte, reduceCtorEq, Nat.reduceEqDiff, Nat.reduceAdd, Nat.reduceSub, Nat.reduceMul, Nat.reduceDiv, Nat.reduceMod, Nat.reduceBEq, Nat.reduceLeDiff, Nat.reduceLT, Int.reduceEq, Int.reduceNe, Int.reduceLT, Int.reduceLE, Int.reduceBEq, Int.reduceBNe, Int.reduceToNat, Int.reduceAdd, Int.reduceSub, Int.reduceMul, Int.reduceNeg, h1, h2, c1, hs, Bool.not_false]
end Cod

/- Names, the reference's. -/
namespace Cod
open Go

theorem go_rlower (s : List UInt8) (i : Nat) : S E F.ref06_lower [.int .u8 (bat s i)] [] = some (.int .u8 ((lower (s.getD i 0)).toNat : Int), []) := by
  have h := bat_range s i
  have hb : bat s i = ((s.getD i 0).toNat : Int) := rfl
  rw [S_of fn_ref06_lower rfl rfl]
  unfold lower
  by_cases h1 : 65 ≤ bat s i
  · by_cases h2 : bat s i ≤ 90
    · have h3 : 65 ≤ s.getD i 0 ∧ s.getD i 0 ≤ 90 := by
        rw [UInt8.le_iff_toNat_le, UInt8.le_iff_toNat_le]
        simp only [UInt8.reduceToNat]
        omega
      rw [if_pos h3]
      have h4 : (bat s i + 32) % 256 = ((s.getD i 0 + 32).toNat : Int) := by
        rw [UInt8.toNat_add]
        simp only [UInt8.reduceToNat]
        omega
      simp (dsimp := false) (disch := first | omega | (simp only [strs_length, List.length_set, List.length_replicate, words_length, ofBytes_length, List.length_append, List.length_cons, List.length_nil, List.length_take, List.length_drop] <;> omega) | fail) only [L.ref06_lower, go_sem, reduceIte, reduceCtorEq, Nat.reduceEqDiff, Nat.reduceAdd, Nat.reduceSub, Nat.reduceMul, Nat.reduceDiv, Nat.reduceMod, Nat.reduceBEq, Nat.reduceLeDiff, Nat.reduceLT, Int.reduceEq, Int.reduceNe, Int.reduceLT, Int.reduceLE, Int.reduceBEq, Int.reduceBNe, Int.reduceToNat, Int.reduceAdd, Int.reduceSub, Int.reduceMul, Int.reduceNeg, h4]
    · have h3 : ¬ (65 ≤ s.getD i 0 ∧ s.getD i 0 ≤ 90) := by
        rw [UInt8.le_iff_toNat_le, UInt8.le_iff_toNat_le]
        simp only [UInt8.reduceToNat]
        omega
      rw [if_neg h3, ← hb]
      simp (dsimp := false) (disch := first | omega | (simp only [strs_length, List.length_set, List.length_replicate, words_length, ofBytes_length, List.length_append, List.length_cons, List.length_nil, List.length_take, List.length_drop] <;> omega) | fail) only [L.ref06_lower, go_sem, reduceIte, reduceCtorEq, Nat.reduceEqDiff, Nat.reduceAdd, Nat.reduceSub, Nat.reduceMul, Nat.reduceDiv, Nat.reduceMod, Nat.reduceBEq, Nat.reduceLeDiff, Nat.reduceLT, Int.reduceEq, Int.reduceNe, Int.reduceLT, Int.reduceLE, Int.reduceBEq, Int.reduceBNe, Int.reduceToNat, Int.reduceAdd, Int.reduceSub, Int.reduceMul, Int.reduceNeg]
  · have h3 : ¬ (65 ≤ s.getD i 0 ∧ s.getD i 0 ≤ 90) := by
      rw [UInt8.le_iff_toNat_le, UInt8.le_iff_toNat_le]
      simp only [UInt8.reduceToNat]
      omega
    rw [if_neg h3, ← hb]
    simp (dsimp := false) (disch := first | omega | (simp only [strs_length, List.length_set, List.length_replicate, words_length, ofBytes_length, List.length_append, List.length_cons, List.length_nil, List.length_take, List.length_drop] <;> omega) | fail) only [L.ref06_lower, go_sem, reduceIte, reduceCtorEq, Nat.reduceEqDiff, Nat.reduceAdd, Nat.reduceSub, Nat.reduceMul, Nat.reduceDiv, Nat.reduceMod, Nat.reduceBEq, Nat.reduceLeDiff, Nat.reduceLT, Int.reduceEq, Int.reduceNe, Int.reduceLT, Int.reduceLE, Int.reduceBEq, Int.reduceBNe, Int.reduceToNat, Int.reduceAdd, Int.reduceSub, Int.reduceMul, Int.reduceNeg]

theorem go_rgit {s : List UInt8} : S E F.ref06_git [.str s] [] = some (.bool (isGit s), []) := by
  rw [S_of fn_ref06_git rfl rfl]
  by_cases hl : s.length = 4
  · have hg : isGit s = (s.getD 0 0 == 46 && lower (s.getD 1 0) == 103 && lower (s.getD 2 0) == 105 && lower (s.getD 3 0) == 116) := by
      match s, hl with
      | [a, b, c, d], _ => rfl
    rw [hg]
    have b1 : byt 46 = 46 := rfl
    have b2 : byt 103 = 103 := rfl
    have b3 : byt 105 = 105 := rfl
    have b4 : byt 116 = 116 := rfl
    simp (dsimp := false) (disch := first | omega | (simp only [strs_length, List.length_set, List.length_replicate, words_length, ofBytes_length, List.length_append, List.length_cons, List.length_nil, List.length_take, List.length_drop] <;> omega) | fail) only [L.ref06_git, go_sem, reduceIte, reduceCtorEq, Nat.reduceEqDiff, Nat.reduceAdd, Nat.reduceSub, Nat.reduceMul, Nat.reduceDiv, Nat.reduceMod, Nat.reduceBEq, Nat.reduceLeDiff, Nat.reduceLT, Int.reduceEq, Int.reduceNe, Int.reduceLT, Int.reduceLE, Int.reduceBEq, Int.reduceBNe, Int.reduceToNat, Int.reduceAdd, Int.reduceSub, Int.reduceMul, Int.reduceNeg, go_rlower, bat_beq, u8_beq, b1, b2, b3, b4]
    repeat' (refine Br_split (fun h => ?_) (fun h => ?_) <;> (try simp (dsimp := false) (disch := first | omega | (simp only [strs_length, List.length_set, List.length_replicate, words_length, ofBytes_length, List.length_append, List.length_cons, List.length_nil, List.length_take, List.length_drop] <;> omega) | fail) only [go_sem, reduceIte, reduceCtorEq, Nat.reduceEqDiff, Nat.reduceAdd, Nat.reduceSub, Nat.reduceMul, Nat.reduceDiv, Nat.reduceMod, Nat.reduceBEq, Nat.reduceLeDiff, Nat.reduceLT, Int.reduceEq, Int.reduceNe, Int.reduceLT, Int.reduceLE, Int.reduceBEq, Int.reduceBNe, Int.reduceToNat, Int.reduceAdd, Int.reduceSub, Int.reduceMul, Int.reduceNeg, go_rlower, bat_beq, u8_beq, b1, b2, b3, b4, h]))
  · have hg : isGit s = false := by
      match s, hl with
      | [], _ => rfl
      | [_], _ => rfl
      | [_, _], _ => rfl
      | [_, _, _], _ => rfl
      | [_, _, _, _], h => exact absurd rfl h
      | _ :: _ :: _ :: _ :: _ :: _, _ => rfl
    rw [hg]
    simp (dsimp := false) (disch := first | omega | (simp only [strs_length, List.length_set, List.length_replicate, words_length, ofBytes_length, List.length_append, List.length_cons, List.length_nil, List.length_take, List.length_drop] <;> omega) | fail) only [L.ref06_git, go_sem, reduceIte, reduceCtorEq, Nat.reduceEqDiff, Nat.reduceAdd, Nat.reduceSub, Nat.reduceMul, Nat.reduceDiv, Nat.reduceMod, Nat.reduceBEq, Nat.reduceLeDiff, Nat.reduceLT, Int.reduceEq, Int.reduceNe, Int.reduceLT, Int.reduceLE, Int.reduceBEq, Int.reduceBNe, Int.reduceToNat, Int.reduceAdd, Int.reduceSub, Int.reduceMul, Int.reduceNeg]

theorem has_l0 {s : List UInt8} (hs : s.length ≤ 1000000000000) {c : Int} (h0 : 0 ≤ c) (h1 : c < 256) (k : List It) : ∀ (m i : Nat), i + m = s.length →
    X E [.tmp 4] (.c L.ref06_Has.x0 :: .lp [0, 1, 5] L.ref06_Has.x0 :: .blk 0 :: k) ⟨[(0, .str s), (1, .int .u8 c), (5, .int .i64 i)], []⟩ =
    if (s.drop i).contains (byt c) then some (.bool true, []) else X E [.tmp 4] k ⟨[(0, .str s), (1, .int .u8 c), (5, .int .i64 s.length), (9, .bool false)], []⟩ := by
  intro m
  induction m with
  | zero =>
    intro i h
    obtain rfl : i = s.length := by omega
    rw [X_in L.ref06_Has.x0.eq_1]
    simp (dsimp := false) (disch := first | omega | (simp only [strs_length, List.length_set, List.length_replicate, words_length, ofBytes_length, List.length_append, List.length_cons, List.length_nil, List.length_take, List.length_drop] <;> omega) | fail) only [go_sem, reduceIte, reduceCtorEq, Nat.reduceEqDiff, Nat.reduceAdd, Nat.reduceSub, Nat.reduceMul, Nat.reduceDiv, Nat.reduceMod, Nat.reduceBEq, Nat.reduceLeDiff, Nat.reduceLT, Int.reduceEq, Int.reduceNe, Int.reduceLT, Int.reduceLE, Int.reduceBEq, Int.reduceBNe, Int.reduceToNat, Int.reduceAdd, Int.reduceSub, Int.reduceMul, Int.reduceNeg, List.drop_length, List.contains_nil, Bool.false_eq_true]
  | succ m ih =>
    intro i h
    have := ih (i + 1) (by omega)
    simp only [Int.natCast_add, Int.cast_ofNat_Int] at this
    have hd : s.drop i = s.getD i 0 :: s.drop (i + 1) := by
      rw [List.getD_eq_getElem?_getD, List.getElem?_eq_getElem (by omega), Option.getD_some]
      exact List.drop_eq_getElem_cons (by omega)
    rw [X_in L.ref06_Has.x0.eq_1]
    rw [hd, List.contains_cons]
    cases hb : (s.getD i 0 == byt c) with
    | true =>
      have hb' : (byt c == s.getD i 0) = true := by rw [BEq.comm]; exact hb
      simp (dsimp := false) (disch := first | omega | (simp only [strs_length, List.length_set, List.length_replicate, words_length, ofBytes_length, List.length_append, List.length_cons, List.length_nil, List.length_take, List.length_drop] <;> omega) | fail) only [go_sem, reduceIte, reduceCtorEq, Nat.reduceEqDiff, Nat.reduceAdd, Nat.reduceSub, Nat.reduceMul, Nat.reduceDiv, Nat.reduceMod, Nat.reduceBEq, Nat.reduceLeDiff, Nat.reduceLT, Int.reduceEq, Int.reduceNe, Int.reduceLT, Int.reduceLE, Int.reduceBEq, Int.reduceBNe, Int.reduceToNat, Int.reduceAdd, Int.reduceSub, Int.reduceMul, Int.reduceNeg, bat_beq, hb, hb', Bool.true_or]
    | false =>
      have hb' : (byt c == s.getD i 0) = false := by rw [BEq.comm]; exact hb
      simp (dsimp := false) (disch := first | omega | (simp only [strs_length, List.length_set, List.length_replicate, words_length, ofBytes_length, List.length_append, List.length_cons, List.length_nil, List.length_take, List.length_drop] <;> omega) | fail) only [go_sem, reduceIte, reduceCtorEq, Nat.reduceEqDiff, Nat.reduceAdd, Nat.reduceSub, Nat.reduceMul, Nat.reduceDiv, Nat.reduceMod, Nat.reduceBEq, Nat.reduceLeDiff, Nat.reduceLT, Int.reduceEq, Int.reduceNe, Int.reduceLT, Int.reduceLE, Int.reduceBEq, Int.reduceBNe, Int.reduceToNat, Int.reduceAdd, Int.reduceSub, Int.reduceMul, Int.reduceNeg, bat_beq, hb, hb', Bool.false_or, this]
theorem go_rhas {s : List UInt8} (hs : s.length ≤ 1000000000000) {c : Int} (h0 : 0 ≤ c) (h1 : c < 256) : S E F.ref06_Has [.str s, .int .u8 c] [] = some (.bool (s.contains (byt c)), []) := by
  have h := fun k => has_l0 hs h0 h1 k s.length 0 (by omega)
  simp only [Int.cast_ofNat_Int, List.drop_zero] at h
  rw [S_of fn_ref06_Has rfl rfl]
  simp (dsimp := false) (disch := first | omega | (simp only [strs_length, List.length_set, List.length_replicate, words_length, ofBytes_length, List.length_append, List.length_cons, List.length_nil, List.length_take, List.length_drop] <;> omega) | fail) only [L.ref06_Has, go_sem, reduceIte, reduceCtorEq, Nat.reduceEqDiff, Nat.reduceAdd, Nat.reduceSub, Nat.reduceMul, Nat.reduceDiv, Nat.reduceMod, Nat.reduceBEq, Nat.reduceLeDiff, Nat.reduceLT, Int.reduceEq, Int.reduceNe, Int.reduceLT, Int.reduceLE, Int.reduceBEq, Int.reduceBNe, Int.reduceToNat, Int.reduceAdd, Int.reduceSub, Int.reduceMul, Int.reduceNeg]
  rw [h]
  cases hc : s.contains (byt c) with
  | true => simp
  | false =>
    simp (dsimp := false) (disch := first | omega | (simp only [strs_length, List.length_set, List.length_replicate, words_length, ofBytes_length, List.length_append, List.length_cons, List.length_nil, List.length_take, List.length_drop] <;> omega) | fail) only [L.ref06_Has.r0, go_sem, reduceIte, reduceCtorEq, Nat.reduceEqDiff, Nat.reduceAdd, Nat.reduceSub, Nat.reduceMul, Nat.reduceDiv, Nat.reduceMod, Nat.reduceBEq, Nat.reduceLeDiff, Nat.reduceLT, Int.reduceEq, Int.reduceNe, Int.reduceLT, Int.reduceLE, Int.reduceBEq, Int.reduceBNe, Int.reduceToNat, Int.reduceAdd, Int.reduceSub, Int.reduceMul, Int.reduceNeg, Bool.false_eq_true]

theorem go_rname {s : List UInt8} (hs : s.length ≤ 1000000000000) : S E F.ref06_Name [.str s] [] = some (.bool (nameOK s), []) := by
  have c1 := go_rhas hs (c := 47) (by omega) (by omega)
  have c2 := go_rhas hs (c := 0) (by omega) (by omega)
  rw [show byt 47 = 47 from rfl] at c1
  rw [show byt 0 = 0 from rfl] at c2
  rw [S_of fn_ref06_Name rfl rfl]
  by_cases h1 : 1 ≤ s.length
  · by_cases h2 : s.length ≤ 100
    · simp (dsimp := false) (disch := first | omega | (simp only [strs_length, List.length_set, List.length_replicate, words_length, ofBytes_length, List.length_append, List.length_cons, List.length_nil, List.length_take, List.length_drop] <;> omega) | fail) only [L.ref06_Name, go_sem, reduceIte, reduceCtorEq, Nat.reduceEqDiff, Nat.reduceAdd, Nat.reduceSub, Nat.reduceMul, Nat.reduceDiv, Nat.reduceMod, Nat.reduceBEq, Nat.reduceLeDiff, Nat.reduceLT, Int.reduceEq, Int.reduceNe, Int.reduceLT, Int.reduceLE, Int.reduceBEq, Int.reduceBNe, Int.reduceToNat, Int.reduceAdd, Int.reduceSub, Int.reduceMul, Int.reduceNeg, c1, c2, go_rgit]
      repeat' (refine Br_split (fun h => ?_) (fun h => ?_) <;> (try simp (dsimp := false) (disch := first | omega | (simp only [strs_length, List.length_set, List.length_replicate, words_length, ofBytes_length, List.length_append, List.length_cons, List.length_nil, List.length_take, List.length_drop] <;> omega) | fail) only [go_sem, reduceIte, reduceCtorEq, Nat.reduceEqDiff, Nat.reduceAdd, Nat.reduceSub, Nat.reduceMul, Nat.reduceDiv, Nat.reduceMod, Nat.reduceBEq, Nat.reduceLeDiff, Nat.reduceLT, Int.reduceEq, Int.reduceNe, Int.reduceLT, Int.reduceLE, Int.reduceBEq, Int.reduceBNe, Int.reduceToNat, Int.reduceAdd, Int.reduceSub, Int.reduceMul, Int.reduceNeg, c1, c2, go_rgit, h]))
      all_goals simp_all [nameOK]
    · have : nameOK s = false := by simp [nameOK, h2]
      rw [this]
      simp (dsimp := false) (disch := first | omega | (simp only [strs_length, List.length_set, List.length_replicate, words_length, ofBytes_length, List.length_append, List.length_cons, List.length_nil, List.length_take, List.length_drop] <;> omega) | fail) only [L.ref06_Name, go_sem, reduceIte, reduceCtorEq, Nat.reduceEqDiff, Nat.reduceAdd, Nat.reduceSub, Nat.reduceMul, Nat.reduceDiv, Nat.reduceMod, Nat.reduceBEq, Nat.reduceLeDiff, Nat.reduceLT, Int.reduceEq, Int.reduceNe, Int.reduceLT, Int.reduceLE, Int.reduceBEq, Int.reduceBNe, Int.reduceToNat, Int.reduceAdd, Int.reduceSub, Int.reduceMul, Int.reduceNeg]
  · have : nameOK s = false := by simp [nameOK, h1]
    rw [this]
    simp (dsimp := false) (disch := first | omega | (simp only [strs_length, List.length_set, List.length_replicate, words_length, ofBytes_length, List.length_append, List.length_cons, List.length_nil, List.length_take, List.length_drop] <;> omega) | fail) only [L.ref06_Name, go_sem, reduceIte, reduceCtorEq, Nat.reduceEqDiff, Nat.reduceAdd, Nat.reduceSub, Nat.reduceMul, Nat.reduceDiv, Nat.reduceMod, Nat.reduceBEq, Nat.reduceLeDiff, Nat.reduceLT, Int.reduceEq, Int.reduceNe, Int.reduceLT, Int.reduceLE, Int.reduceBEq, Int.reduceBNe, Int.reduceToNat, Int.reduceAdd, Int.reduceSub, Int.reduceMul, Int.reduceNeg]

/-! ### parts -/
end Cod

/- Words of 32 bits. -/
namespace Cod
open Go

theorem wrap32 (x : Int) : IntKind.u32.wrap x = x % 4294967296 := by
  simp only [IntKind.wrap, IntKind.signed, IntKind.bits]
  simp
theorem ofInt32 (a : BitVec 32) : BitVec.ofInt 32 (a.toNat : Int) = a := by
  apply BitVec.eq_of_toNat_eq
  rw [BitVec.toNat_ofInt]
  have := a.isLt
  omega
theorem toNat_lt32 (a : BitVec 32) : (a.toNat : Int) < 4294967296 := by have := a.isLt; omega
theorem w_add (a b : BitVec 32) : binAV .add (W a) (W b) = some (W (a + b)) := by
  simp only [W, bin_add, wrap32, BitVec.toNat_add]
  simp
theorem w_and (a b : BitVec 32) : binAV .and (W a) (W b) = some (W (a &&& b)) := by
  rw [W, W, bin_and, iand]
  show some (AV.int .u32 (IntKind.u32.wrap (((BitVec.ofInt 32 (a.toNat : Int)) &&& (BitVec.ofInt 32 (b.toNat : Int))).toNat : Int))) = some (AV.int .u32 ((a &&& b).toNat : Int))
  rw [ofInt32, ofInt32, wrap32, Int.emod_eq_of_lt (by omega) (toNat_lt32 _)]
theorem w_or (a b : BitVec 32) : binAV .or (W a) (W b) = some (W (a ||| b)) := by
  rw [W, W, bin_or, ior]
  show some (AV.int .u32 (IntKind.u32.wrap (((BitVec.ofInt 32 (a.toNat : Int)) ||| (BitVec.ofInt 32 (b.toNat : Int))).toNat : Int))) = some (AV.int .u32 ((a ||| b).toNat : Int))
  rw [ofInt32, ofInt32, wrap32, Int.emod_eq_of_lt (by omega) (toNat_lt32 _)]
theorem w_xor (a b : BitVec 32) : binAV .xor (W a) (W b) = some (W (a ^^^ b)) := by
  rw [W, W, bin_xor, ixor]
  show some (AV.int .u32 (IntKind.u32.wrap (((BitVec.ofInt 32 (a.toNat : Int)) ^^^ (BitVec.ofInt 32 (b.toNat : Int))).toNat : Int))) = some (AV.int .u32 ((a ^^^ b).toNat : Int))
  rw [ofInt32, ofInt32, wrap32, Int.emod_eq_of_lt (by omega) (toNat_lt32 _)]
theorem w_not (a : BitVec 32) : unAV .xor (W a) = some (W (~~~a)) := by
  rw [W, un_xor, inot]
  show some (AV.int .u32 (IntKind.u32.wrap (((BitVec.allOnes 32) ^^^ (BitVec.ofInt 32 (a.toNat : Int))).toNat : Int))) = some (AV.int .u32 ((~~~a).toNat : Int))
  rw [ofInt32, BitVec.allOnes_xor, wrap32, Int.emod_eq_of_lt (by omega) (toNat_lt32 _)]
theorem w_shl' (a : BitVec 32) (k : IntKind) (n : Nat) : binAV .shl (W a) (.int k (n : Int)) = some (W (a <<< n)) := by
  rw [W, bin_shl (by omega), ishl]
  show some (AV.int .u32 (IntKind.u32.wrap ((a.toNat : Int) * 2 ^ (Nat.min n 32)))) = some (AV.int .u32 ((a <<< n).toNat : Int))
  rw [wrap32, BitVec.toNat_shiftLeft, Nat.shiftLeft_eq]
  by_cases h : n ≤ 32
  · rw [show Nat.min n 32 = n from Nat.min_eq_left h, Int.natCast_emod, Int.natCast_mul, Int.natCast_pow]
    rfl
  · rw [show Nat.min n 32 = 32 from Nat.min_eq_right (by omega)]
    obtain ⟨m, rfl⟩ : ∃ m, n = 32 + m := ⟨n - 32, by omega⟩
    have h1 : a.toNat * 2 ^ (32 + m) % 2 ^ 32 = 0 := by
      rw [Nat.pow_add, ← Nat.mul_assoc, Nat.mul_right_comm]
      exact Nat.mul_mod_left _ _
    rw [h1]
    have h2 : (a.toNat : Int) * 2 ^ 32 % 4294967296 = 0 := by omega
    rw [h2]; rfl
theorem w_shr' (a : BitVec 32) (k : IntKind) (n : Nat) : binAV .shr (W a) (.int k (n : Int)) = some (W (a >>> n)) := by
  rw [W, bin_shr (by omega), ishr]
  show some (AV.int .u32 ((a.toNat : Int).fdiv (2 ^ (Nat.min n 32)))) = some (AV.int .u32 ((a >>> n).toNat : Int))
  rw [BitVec.toNat_ushiftRight, Nat.shiftRight_eq_div_pow]
  have key : ∀ m : Nat, ((a.toNat : Int)).fdiv (2 ^ m) = ((a.toNat / 2 ^ m : Nat) : Int) := by
    intro m
    rw [Int.fdiv_eq_ediv_of_nonneg _ (Int.le_of_lt (Int.pow_pos (by omega))), Int.natCast_ediv, Int.natCast_pow]
    rfl
  rw [key]
  by_cases h : n ≤ 32
  · rw [show Nat.min n 32 = n from Nat.min_eq_left h]
  · rw [show Nat.min n 32 = 32 from Nat.min_eq_right (by omega)]
    have h1 : a.toNat / 2 ^ 32 = 0 := Nat.div_eq_of_lt a.isLt
    have h2 : a.toNat / 2 ^ n = 0 := Nat.div_eq_of_lt (Nat.lt_of_lt_of_le a.isLt (Nat.pow_le_pow_right (by omega) (by omega)))
    rw [h1, h2]

theorem w_shl (a : BitVec 32) (k : IntKind) (n : Int) (h : 0 ≤ n) : binAV .shl (W a) (.int k n) = some (W (a <<< n.toNat)) := by
  obtain ⟨m, rfl⟩ := Int.eq_ofNat_of_zero_le h
  rw [w_shl']; rfl
theorem w_shr (a : BitVec 32) (k : IntKind) (n : Int) (h : 0 ≤ n) : binAV .shr (W a) (.int k n) = some (W (a >>> n.toNat)) := by
  obtain ⟨m, rfl⟩ := Int.eq_ofNat_of_zero_le h
  rw [w_shr']; rfl
theorem zer_words (n : Nat) : zer (.int .u32 0) n = words (List.replicate n 0) := by simp [zer, words, W]
theorem flats_words (l : List (BitVec 32)) : flats (words l) = true := by
  induction l with
  | nil => rfl
  | cons x l ih => simpa [words, flats, flat, W] using ih
theorem hards_words (l : List (BitVec 32)) : hards (words l) = true := by
  induction l with
  | nil => rfl
  | cons x l ih => simpa [words, hards, hard, W] using ih
theorem leadss_words (l : List (BitVec 32)) : leadss (words l) = false := by
  induction l with
  | nil => rfl
  | cons x l ih => simpa [words, leadss, leads, W] using ih
theorem refsOfs_words (l : List (BitVec 32)) : refsOfs (words l) = [] := by
  induction l with
  | nil => rfl
  | cons x l ih => simpa [words, refsOfs, refsOf, W] using ih
theorem rens_words (f : Site → Nat → Option (Site × Nat)) (l : List (BitVec 32)) : rens f (words l) = words l := by
  induction l with
  | nil => rfl
  | cons x l ih => simpa [words, rens, ren, W] using ih
theorem get_words {l : List (BitVec 32)} {i : Nat} (h : i < l.length) : (words l)[i]? = some (W (l.getD i 0)) := by simp [words, h]
theorem over_words {l : List (BitVec 32)} {i : Nat} {x : BitVec 32} (h : i < l.length) : over (words l) i [W x] = words (l.set i x) := by
  unfold over words
  rw [List.length_singleton, List.map_set, List.set_eq_take_append_cons_drop, if_pos (by simpa using h)]
  simp
theorem take_words (l : List (BitVec 32)) (n : Nat) : (words l).take n = words (l.take n) := by simp [words, List.map_take]
theorem drop_words (l : List (BitVec 32)) (n : Nat) : (words l).drop n = words (l.drop n) := by simp [words, List.map_drop]
theorem sub_words (l : List (BitVec 32)) (i n : Nat) : sub (words l) i n = words (sub l i n) := by simp [sub, words, List.map_drop, List.map_take]
theorem over_words_all {l m : List (BitVec 32)} (h : m.length = l.length) : over (words l) 0 (words m) = words m := by
  unfold over; exact overall (by rw [words_length, words_length, h])
theorem hard_W (x : BitVec 32) : hard (W x) = true := rfl
theorem flat_W (x : BitVec 32) : flat (W x) = true := rfl
theorem refsOf_W (x : BitVec 32) : refsOf (W x) = [] := rfl
theorem leads_W (x : BitVec 32) : leads (W x) = false := rfl
theorem ren_W (f : Site → Nat → Option (Site × Nat)) (x : BitVec 32) : ren f (W x) = W x := rfl
theorem view_W (x : BitVec 32) : view (W x) = .ret (W x, []) := rfl
theorem view1_W (x : BitVec 32) : view1 (W x) = .ret (W x, []) := rfl
theorem cellsO_W (x : BitVec 32) : cellsO (W x) = some [W x] := rfl
/-- A byte's word. -/
def bw (l : List UInt8) (i : Nat) : BitVec 32 := BitVec.ofNat 32 (l.getD i 0).toNat
theorem cvi_bw (l : List UInt8) (i : Nat) : cviV .u32 (.int .u8 (bat l i)) = .ret (W (bw l i), []) := by
  have h := (l.getD i 0).toNat_lt
  have : IntKind.u32.wrap (bat l i) = ((bw l i).toNat : Int) := by
    rw [wrap32]; unfold bat bw
    rw [BitVec.toNat_ofNat]
    omega
  rw [cviV_int, this]; rfl
/-- A word's lowest byte. -/
def wb (x : BitVec 32) : UInt8 := UInt8.ofNat x.toNat
theorem cvi_wb (x : BitVec 32) : cviV .u8 (W x) = .ret (.int .u8 ((wb x).toNat : Int), []) := by
  have : IntKind.u8.wrap (x.toNat : Int) = ((wb x).toNat : Int) := by
    rw [wrap_u8]; unfold wb
    simp
  rw [W, cviV_int, this]

end Cod

/- SHA-256: the program's and the reference's. -/
namespace Cod
open Go

def rotr (x : BitVec 32) (n : Nat) : BitVec 32 := x >>> n ||| x <<< (32 - n)

theorem rot_of {x : BitVec 32} {k : Int} {n : Nat} (hn : n ≤ 32) (hk : iand .u64 (IntKind.u64.wrap k) 31 = ((32 - n : Nat) : Int)) :
    S E F.bits_RotateLeft32 [W x, .int .i64 k] [] = some (W (rotr x n), []) := by
  have h1 : IntKind.u64.wrap (32 - ((32 - n : Nat) : Int)) = (n : Int) := by
    simp only [IntKind.wrap, IntKind.signed, IntKind.bits]
    simp
    omega
  rw [S_of fn_bits_RotateLeft32 rfl rfl]
  simp (disch := omega) only [L.bits_RotateLeft32, go_sem, reduceIte, reduceCtorEq, Nat.reduceEqDiff, Nat.reduceAdd, Nat.reduceSub, Nat.reduceMul, Nat.reduceDiv, Nat.reduceMod, Nat.reduceBEq, Nat.reduceLeDiff, Nat.reduceLT, Int.reduceEq, Int.reduceNe, Int.reduceLT, Int.reduceLE, Int.reduceBEq, Int.reduceBNe, Int.reduceToNat, Int.reduceAdd, Int.reduceSub, Int.reduceMul, Int.reduceNeg, take_words, drop_words, sub_words, over_words_all, zer_words, w_add, w_and, w_or, w_xor, w_not, w_shl, w_shr, flats_words, hards_words, leadss_words, refsOfs_words, rens_words, words_length, get_words, over_words, hard_W, flat_W, refsOf_W, leads_W, ren_W, view_W, view1_W, cellsO_W, cvi_bw, cvi_wb, hk, h1]
  rw [rotr, BitVec.or_comm]
theorem rot_7 {x : BitVec 32} : S E F.bits_RotateLeft32 [W x, .int .i64 (-7)] [] = some (W (rotr x 7), []) := rot_of (by omega) (by decide)
theorem rot_18 {x : BitVec 32} : S E F.bits_RotateLeft32 [W x, .int .i64 (-18)] [] = some (W (rotr x 18), []) := rot_of (by omega) (by decide)
theorem rot_17 {x : BitVec 32} : S E F.bits_RotateLeft32 [W x, .int .i64 (-17)] [] = some (W (rotr x 17), []) := rot_of (by omega) (by decide)
theorem rot_19 {x : BitVec 32} : S E F.bits_RotateLeft32 [W x, .int .i64 (-19)] [] = some (W (rotr x 19), []) := rot_of (by omega) (by decide)
theorem rot_6 {x : BitVec 32} : S E F.bits_RotateLeft32 [W x, .int .i64 (-6)] [] = some (W (rotr x 6), []) := rot_of (by omega) (by decide)
theorem rot_11 {x : BitVec 32} : S E F.bits_RotateLeft32 [W x, .int .i64 (-11)] [] = some (W (rotr x 11), []) := rot_of (by omega) (by decide)
theorem rot_25 {x : BitVec 32} : S E F.bits_RotateLeft32 [W x, .int .i64 (-25)] [] = some (W (rotr x 25), []) := rot_of (by omega) (by decide)
theorem rot_2 {x : BitVec 32} : S E F.bits_RotateLeft32 [W x, .int .i64 (-2)] [] = some (W (rotr x 2), []) := rot_of (by omega) (by decide)
theorem rot_13 {x : BitVec 32} : S E F.bits_RotateLeft32 [W x, .int .i64 (-13)] [] = some (W (rotr x 13), []) := rot_of (by omega) (by decide)
theorem rot_22 {x : BitVec 32} : S E F.bits_RotateLeft32 [W x, .int .i64 (-22)] [] = some (W (rotr x 22), []) := rot_of (by omega) (by decide)

/-- The word at four bytes. -/
def word4 (b : List UInt8) (i : Nat) : BitVec 32 := bw b (4 * i) <<< 24 ||| bw b (4 * i + 1) <<< 16 ||| bw b (4 * i + 2) <<< 8 ||| bw b (4 * i + 3)
def fill1 (b : List UInt8) : Nat → Nat → List (BitVec 32) → List (BitVec 32)
  | 0, _, ws => ws
  | m + 1, i, ws => fill1 b m (i + 1) (ws.set i (word4 b i))
def sig0 (x : BitVec 32) : BitVec 32 := rotr x 7 ^^^ rotr x 18 ^^^ x >>> 3
def sig1 (y : BitVec 32) : BitVec 32 := rotr y 17 ^^^ rotr y 19 ^^^ y >>> 10
def sched (ws : List (BitVec 32)) (i : Nat) : BitVec 32 := ws.getD (i - 16) 0 + sig0 (ws.getD (i - 15) 0) + ws.getD (i - 7) 0 + sig1 (ws.getD (i - 2) 0)
def fill2 : Nat → Nat → List (BitVec 32) → List (BitVec 32)
  | 0, _, ws => ws
  | m + 1, i, ws => fill2 m (i + 1) (ws.set i (sched ws i))
theorem fill1_length (b : List UInt8) : ∀ m i ws, (fill1 b m i ws).length = ws.length := by
  intro m
  induction m with
  | zero => intro i ws; rfl
  | succ m ih => intro i ws; simp [fill1, ih]
theorem fill2_length : ∀ m i ws, (fill2 m i ws).length = ws.length := by
  intro m
  induction m with
  | zero => intro i ws; rfl
  | succ m ih => intro i ws; simp [fill2, ih]

theorem block_l0 {h : List (BitVec 32)} {b : List UInt8} (hh : h.length = 8) (hb : b.length = 64) (k : List It) : ∀ (m i : Nat) (ws : List (BitVec 32)), i + m = 16 → ws.length = 64 →
    X E [.cell 4 (some 8)] (.c L.sha_Block.x0 :: .lp [2, 3, 4, 5, 23] L.sha_Block.x0 :: .blk 0 :: k) ⟨[(2, .ref (.s 1000000 0) 0 0), (3, .ref (.s 1000000 1) 0 0), (4, .ref (.s 1000000 2) 0 0), (5, .ref (.s 1000000 3) 0 0), (23, .int .i64 i)], [(.s 1000000 0, ⟨0, true, true, true, words h⟩), (.s 1000000 1, ⟨0, true, true, true, ofBytes b⟩), (.s 1000000 2, ⟨0, true, true, true, words (List.replicate 8 0)⟩), (.s 1000000 3, ⟨0, true, true, true, words ws⟩)]⟩ = X E [.cell 4 (some 8)] k ⟨[(2, .ref (.s 1000000 0) 0 0), (3, .ref (.s 1000000 1) 0 0), (4, .ref (.s 1000000 2) 0 0), (5, .ref (.s 1000000 3) 0 0), (23, .int .i64 16), (24, .bool false)], [(.s 1000000 0, ⟨0, true, true, true, words h⟩), (.s 1000000 1, ⟨0, true, true, true, ofBytes b⟩), (.s 1000000 2, ⟨0, true, true, true, words (List.replicate 8 0)⟩), (.s 1000000 3, ⟨0, true, true, true, words (fill1 b m i ws)⟩)]⟩ := by
  intro m
  induction m with
  | zero =>
    intro i ws h1 h2
    obtain rfl : i = 16 := by omega
    rw [X_in L.sha_Block.x0.eq_1]
    simp (disch := omega) only [go_sem, reduceIte, reduceCtorEq, Nat.reduceEqDiff, Nat.reduceAdd, Nat.reduceSub, Nat.reduceMul, Nat.reduceDiv, Nat.reduceMod, Nat.reduceBEq, Nat.reduceLeDiff, Nat.reduceLT, Int.reduceEq, Int.reduceNe, Int.reduceLT, Int.reduceLE, Int.reduceBEq, Int.reduceBNe, Int.reduceToNat, Int.reduceAdd, Int.reduceSub, Int.reduceMul, Int.reduceNeg, sub_take, take_len, sub_drop, take_words, drop_words, sub_words, over_words_all, zer_words, w_add, w_and, w_or, w_xor, w_not, w_shl, w_shr, flats_words, hards_words, leadss_words, refsOfs_words, rens_words, words_length, get_words, over_words, hard_W, flat_W, refsOf_W, leads_W, ren_W, view_W, view1_W, cellsO_W, cvi_bw, cvi_wb, zer_bytes, app_ofBytes, ofBytes_length, flats_ofBytes, hards_ofBytes, leadss_ofBytes, refsOfs_ofBytes, rens_ofBytes, bytesOf_ofBytes, sub_ofBytes, take_ofBytes, drop_ofBytes, get_ofBytes, over_ofBytes_all, over_ofBytes, ofBytes_snoc, fill1, Int.cast_ofNat_Int]
  | succ m ih =>
    intro i ws h1 h2
    have e0 : (4 * (i : Int)).toNat = 4 * i := by omega
    have e1 : (4 * (i : Int) + 1).toNat = 4 * i + 1 := by omega
    have e2 : (4 * (i : Int) + 2).toNat = 4 * i + 2 := by omega
    have e3 : (4 * (i : Int) + 3).toNat = 4 * i + 3 := by omega
    rw [X_in L.sha_Block.x0.eq_1]
    simp (disch := omega) only [go_sem, reduceIte, reduceCtorEq, Nat.reduceEqDiff, Nat.reduceAdd, Nat.reduceSub, Nat.reduceMul, Nat.reduceDiv, Nat.reduceMod, Nat.reduceBEq, Nat.reduceLeDiff, Nat.reduceLT, Int.reduceEq, Int.reduceNe, Int.reduceLT, Int.reduceLE, Int.reduceBEq, Int.reduceBNe, Int.reduceToNat, Int.reduceAdd, Int.reduceSub, Int.reduceMul, Int.reduceNeg, sub_take, take_len, sub_drop, take_words, drop_words, sub_words, over_words_all, zer_words, w_add, w_and, w_or, w_xor, w_not, w_shl, w_shr, flats_words, hards_words, leadss_words, refsOfs_words, rens_words, words_length, get_words, over_words, hard_W, flat_W, refsOf_W, leads_W, ren_W, view_W, view1_W, cellsO_W, cvi_bw, cvi_wb, zer_bytes, app_ofBytes, ofBytes_length, flats_ofBytes, hards_ofBytes, leadss_ofBytes, refsOfs_ofBytes, rens_ofBytes, bytesOf_ofBytes, sub_ofBytes, take_ofBytes, drop_ofBytes, get_ofBytes, over_ofBytes_all, over_ofBytes, ofBytes_snoc, fill1, e0, e1, e2, e3]
    have := ih (i + 1) (ws.set i (word4 b i)) (by omega) (by simpa using h2)
    simp only [Int.natCast_add, Int.cast_ofNat_Int] at this
    exact this

theorem block_l1 {h : List (BitVec 32)} (hh : h.length = 8) (k : List It) : ∀ (m i : Nat) (ws : List (BitVec 32)), i + m = 64 → 16 ≤ i → ws.length = 64 →
    X E [.cell 4 (some 8)] (.c L.sha_Block.x1 :: .lp [2, 4, 5, 7] L.sha_Block.x1 :: .blk 2 :: k) ⟨[(2, .ref (.s 1000000 0) 0 0), (4, .ref (.s 1000000 1) 0 0), (5, .ref (.s 1000000 2) 0 0), (7, .int .i64 i)], [(.s 1000000 0, ⟨0, true, true, true, words h⟩), (.s 1000000 1, ⟨0, true, true, true, words (List.replicate 8 0)⟩), (.s 1000000 2, ⟨0, true, true, true, words ws⟩)]⟩ = X E [.cell 4 (some 8)] k ⟨[(2, .ref (.s 1000000 0) 0 0), (4, .ref (.s 1000000 1) 0 0), (5, .ref (.s 1000000 2) 0 0), (7, .int .i64 64), (59, .bool false)], [(.s 1000000 0, ⟨0, true, true, true, words h⟩), (.s 1000000 1, ⟨0, true, true, true, words (List.replicate 8 0)⟩), (.s 1000000 2, ⟨0, true, true, true, words (fill2 m i ws)⟩)]⟩ := by
  intro m
  induction m with
  | zero =>
    intro i ws h1 h0 h2
    obtain rfl : i = 64 := by omega
    rw [X_in L.sha_Block.x1.eq_1]
    simp (disch := omega) only [go_sem, reduceIte, reduceCtorEq, Nat.reduceEqDiff, Nat.reduceAdd, Nat.reduceSub, Nat.reduceMul, Nat.reduceDiv, Nat.reduceMod, Nat.reduceBEq, Nat.reduceLeDiff, Nat.reduceLT, Int.reduceEq, Int.reduceNe, Int.reduceLT, Int.reduceLE, Int.reduceBEq, Int.reduceBNe, Int.reduceToNat, Int.reduceAdd, Int.reduceSub, Int.reduceMul, Int.reduceNeg, sub_take, take_len, sub_drop, take_words, drop_words, sub_words, over_words_all, zer_words, w_add, w_and, w_or, w_xor, w_not, w_shl, w_shr, flats_words, hards_words, leadss_words, refsOfs_words, rens_words, words_length, get_words, over_words, hard_W, flat_W, refsOf_W, leads_W, ren_W, view_W, view1_W, cellsO_W, cvi_bw, cvi_wb, zer_bytes, app_ofBytes, ofBytes_length, flats_ofBytes, hards_ofBytes, leadss_ofBytes, refsOfs_ofBytes, rens_ofBytes, bytesOf_ofBytes, sub_ofBytes, take_ofBytes, drop_ofBytes, get_ofBytes, over_ofBytes_all, over_ofBytes, ofBytes_snoc, fill2, Int.cast_ofNat_Int]
  | succ m ih =>
    intro i ws h1 h0 h2
    have e0 : ((i : Int) - 16).toNat = i - 16 := by omega
    have e1 : ((i : Int) - 15).toNat = i - 15 := by omega
    have e2 : ((i : Int) - 7).toNat = i - 7 := by omega
    have e3 : ((i : Int) - 2).toNat = i - 2 := by omega
    rw [X_in L.sha_Block.x1.eq_1]
    simp (disch := omega) only [go_sem, reduceIte, reduceCtorEq, Nat.reduceEqDiff, Nat.reduceAdd, Nat.reduceSub, Nat.reduceMul, Nat.reduceDiv, Nat.reduceMod, Nat.reduceBEq, Nat.reduceLeDiff, Nat.reduceLT, Int.reduceEq, Int.reduceNe, Int.reduceLT, Int.reduceLE, Int.reduceBEq, Int.reduceBNe, Int.reduceToNat, Int.reduceAdd, Int.reduceSub, Int.reduceMul, Int.reduceNeg, sub_take, take_len, sub_drop, take_words, drop_words, sub_words, over_words_all, zer_words, w_add, w_and, w_or, w_xor, w_not, w_shl, w_shr, flats_words, hards_words, leadss_words, refsOfs_words, rens_words, words_length, get_words, over_words, hard_W, flat_W, refsOf_W, leads_W, ren_W, view_W, view1_W, cellsO_W, cvi_bw, cvi_wb, zer_bytes, app_ofBytes, ofBytes_length, flats_ofBytes, hards_ofBytes, leadss_ofBytes, refsOfs_ofBytes, rens_ofBytes, bytesOf_ofBytes, sub_ofBytes, take_ofBytes, drop_ofBytes, get_ofBytes, over_ofBytes_all, over_ofBytes, ofBytes_snoc, fill2, e0, e1, e2, e3, rot_7, rot_18, rot_17, rot_19]
    have := ih (i + 1) (ws.set i (sched ws i)) (by omega) (by omega) (by simpa using h2)
    simp only [Int.natCast_add, Int.cast_ofNat_Int] at this
    exact this

structure S8 where
  a : BitVec 32
  b : BitVec 32
  c : BitVec 32
  d : BitVec 32
  e : BitVec 32
  f : BitVec 32
  g : BitVec 32
  h : BitVec 32
def su1 (e : BitVec 32) : BitVec 32 := rotr e 6 ^^^ rotr e 11 ^^^ rotr e 25
def su0 (a : BitVec 32) : BitVec 32 := rotr a 2 ^^^ rotr a 13 ^^^ rotr a 22
def rndU (k w : BitVec 32) (s : S8) : BitVec 32 := s.h + su1 s.e + (s.e &&& s.f ||| ~~~s.e &&& s.g) + k + w
def rndV (s : S8) : BitVec 32 := su0 s.a + (s.a &&& s.b ^^^ s.a &&& s.c ^^^ s.b &&& s.c)
def rnd (k w : BitVec 32) (s : S8) : S8 := ⟨rndU k w s + rndV s, s.a, s.b, s.c, s.d + rndU k w s, s.e, s.f, s.g⟩
def rnds (ws : List (BitVec 32)) : Nat → Nat → S8 → S8
  | 0, _, s => s
  | m + 1, i, s => rnds ws m (i + 1) (rnd (kTab.getD i 0) (ws.getD i 0) s)
def S8.of (h : List (BitVec 32)) : S8 := ⟨h.getD 0 0, h.getD 1 0, h.getD 2 0, h.getD 3 0, h.getD 4 0, h.getD 5 0, h.getD 6 0, h.getD 7 0⟩
def S8.plus (h : List (BitVec 32)) (s : S8) : List (BitVec 32) := [h.getD 0 0 + s.a, h.getD 1 0 + s.b, h.getD 2 0 + s.c, h.getD 3 0 + s.d, h.getD 4 0 + s.e, h.getD 5 0 + s.f, h.getD 6 0 + s.g, h.getD 7 0 + s.h]
def msch (b : List UInt8) : List (BitVec 32) := fill2 48 16 (fill1 b 16 0 (List.replicate 64 0))
/-- A block. -/
def blockF (h : List (BitVec 32)) (b : List UInt8) : List (BitVec 32) := S8.plus h (rnds (msch b) 64 0 (S8.of h))
theorem msch_length (b : List UInt8) : (msch b).length = 64 := by rw [msch, fill2_length, fill1_length]; simp
theorem blockF_length (h : List (BitVec 32)) (b : List UInt8) : (blockF h b).length = 8 := rfl
theorem kTab_length : kTab.length = 64 := rfl

theorem block_l2 {h ws : List (BitVec 32)} (hh : h.length = 8) (hw : ws.length = 64) (k : List It) : ∀ (m i : Nat) (s : S8), i + m = 64 →
    X E [.cell 4 (some 8)] (.c L.sha_Block.x2 :: .lp [2, 4, 5, 12, 13, 14, 15, 16, 17, 18, 19, 117] L.sha_Block.x2 :: .blk 4 :: k) ⟨[(2, .ref (.s 1000000 0) 0 0), (4, .ref (.s 1000000 1) 0 0), (5, .ref (.s 1000000 2) 0 0), (12, W s.a), (13, W s.b), (14, W s.c), (15, W s.d), (16, W s.e), (17, W s.f), (18, W s.g), (19, W s.h), (117, .int .i64 i)], [(.s 1000000 0, ⟨0, true, true, true, words h⟩), (.s 1000000 1, ⟨0, true, true, true, words (List.replicate 8 0)⟩), (.s 1000000 2, ⟨0, true, true, true, words ws⟩)]⟩ = X E [.cell 4 (some 8)] k ⟨[(2, .ref (.s 1000000 0) 0 0), (4, .ref (.s 1000000 1) 0 0), (5, .ref (.s 1000000 2) 0 0), (12, W (rnds ws m i s).a), (13, W (rnds ws m i s).b), (14, W (rnds ws m i s).c), (15, W (rnds ws m i s).d), (16, W (rnds ws m i s).e), (17, W (rnds ws m i s).f), (18, W (rnds ws m i s).g), (19, W (rnds ws m i s).h), (117, .int .i64 64), (118, .bool false)], [(.s 1000000 0, ⟨0, true, true, true, words h⟩), (.s 1000000 1, ⟨0, true, true, true, words (List.replicate 8 0)⟩), (.s 1000000 2, ⟨0, true, true, true, words ws⟩)]⟩ := by
  intro m
  have hk := kTab_length
  induction m with
  | zero =>
    intro i s h1
    obtain rfl : i = 64 := by omega
    rw [X_in L.sha_Block.x2.eq_1]
    simp (disch := omega) only [go_sem, reduceIte, reduceCtorEq, Nat.reduceEqDiff, Nat.reduceAdd, Nat.reduceSub, Nat.reduceMul, Nat.reduceDiv, Nat.reduceMod, Nat.reduceBEq, Nat.reduceLeDiff, Nat.reduceLT, Int.reduceEq, Int.reduceNe, Int.reduceLT, Int.reduceLE, Int.reduceBEq, Int.reduceBNe, Int.reduceToNat, Int.reduceAdd, Int.reduceSub, Int.reduceMul, Int.reduceNeg, sub_take, take_len, sub_drop, take_words, drop_words, sub_words, over_words_all, zer_words, w_add, w_and, w_or, w_xor, w_not, w_shl, w_shr, flats_words, hards_words, leadss_words, refsOfs_words, rens_words, words_length, get_words, over_words, hard_W, flat_W, refsOf_W, leads_W, ren_W, view_W, view1_W, cellsO_W, cvi_bw, cvi_wb, zer_bytes, app_ofBytes, ofBytes_length, flats_ofBytes, hards_ofBytes, leadss_ofBytes, refsOfs_ofBytes, rens_ofBytes, bytesOf_ofBytes, sub_ofBytes, take_ofBytes, drop_ofBytes, get_ofBytes, over_ofBytes_all, over_ofBytes, ofBytes_snoc, rnds, Int.cast_ofNat_Int]
  | succ m ih =>
    intro i s h1
    rw [X_in L.sha_Block.x2.eq_1]
    simp (disch := omega) only [go_sem, reduceIte, reduceCtorEq, Nat.reduceEqDiff, Nat.reduceAdd, Nat.reduceSub, Nat.reduceMul, Nat.reduceDiv, Nat.reduceMod, Nat.reduceBEq, Nat.reduceLeDiff, Nat.reduceLT, Int.reduceEq, Int.reduceNe, Int.reduceLT, Int.reduceLE, Int.reduceBEq, Int.reduceBNe, Int.reduceToNat, Int.reduceAdd, Int.reduceSub, Int.reduceMul, Int.reduceNeg, sub_take, take_len, sub_drop, take_words, drop_words, sub_words, over_words_all, zer_words, w_add, w_and, w_or, w_xor, w_not, w_shl, w_shr, flats_words, hards_words, leadss_words, refsOfs_words, rens_words, words_length, get_words, over_words, hard_W, flat_W, refsOf_W, leads_W, ren_W, view_W, view1_W, cellsO_W, cvi_bw, cvi_wb, zer_bytes, app_ofBytes, ofBytes_length, flats_ofBytes, hards_ofBytes, leadss_ofBytes, refsOfs_ofBytes, rens_ofBytes, bytesOf_ofBytes, sub_ofBytes, take_ofBytes, drop_ofBytes, get_ofBytes, over_ofBytes_all, over_ofBytes, ofBytes_snoc, rnds, glob_k, rot_6, rot_11, rot_25, rot_2, rot_13, rot_22]
    have := ih (i + 1) (rnd (kTab.getD i 0) (ws.getD i 0) s) (by omega)
    simp only [Int.natCast_add, Int.cast_ofNat_Int] at this
    exact this

theorem block_r2 {h ws : List (BitVec 32)} (hh : h.length = 8) (R : S8) : X E [.cell 4 (some 8)] [.c L.sha_Block.r2] ⟨[(2, .ref (.s 1000000 0) 0 0), (4, .ref (.s 1000000 1) 0 0), (5, .ref (.s 1000000 2) 0 0), (12, W R.a), (13, W R.b), (14, W R.c), (15, W R.d), (16, W R.e), (17, W R.f), (18, W R.g), (19, W R.h), (117, .int .i64 64), (118, .bool false)], [(.s 1000000 0, ⟨0, true, true, true, words h⟩), (.s 1000000 1, ⟨0, true, true, true, words (List.replicate 8 0)⟩), (.s 1000000 2, ⟨0, true, true, true, words ws⟩)]⟩ = some (.agg (words (S8.plus h R)), []) := by
  simp (dsimp := false) (disch := first | omega | (simp only [strs_length, List.length_set, List.length_replicate, words_length, ofBytes_length, List.length_append, List.length_cons, List.length_nil, List.length_take, List.length_drop] <;> omega) | fail) only [L.sha_Block.r2, go_sem, reduceIte, reduceCtorEq, Nat.reduceEqDiff, Nat.reduceAdd, Nat.reduceSub, Nat.reduceMul, Nat.reduceDiv, Nat.reduceMod, Nat.reduceBEq, Nat.reduceLeDiff, Nat.reduceLT, Int.reduceEq, Int.reduceNe, Int.reduceLT, Int.reduceLE, Int.reduceBEq, Int.reduceBNe, Int.reduceToNat, Int.reduceAdd, Int.reduceSub, Int.reduceMul, Int.reduceNeg, sub_take, take_len, sub_drop, take_words, drop_words, sub_words, over_words_all, zer_words, w_add, w_and, w_or, w_xor, w_not, w_shl, w_shr, flats_words, hards_words, leadss_words, refsOfs_words, rens_words, words_length, get_words, over_words, hard_W, flat_W, refsOf_W, leads_W, ren_W, view_W, view1_W, cellsO_W, cvi_bw, cvi_wb, zer_bytes, app_ofBytes, ofBytes_length, flats_ofBytes, hards_ofBytes, leadss_ofBytes, refsOfs_ofBytes, rens_ofBytes, bytesOf_ofBytes, sub_ofBytes, take_ofBytes, drop_ofBytes, get_ofBytes, over_ofBytes_all, over_ofBytes, ofBytes_snoc, List.length_replicate, List.length_set]
  rfl

theorem block_r1 {h ws : List (BitVec 32)} (hh : h.length = 8) (hw : ws.length = 64) : X E [.cell 4 (some 8)] [.c L.sha_Block.r1] ⟨[(2, .ref (.s 1000000 0) 0 0), (4, .ref (.s 1000000 1) 0 0), (5, .ref (.s 1000000 2) 0 0), (7, .int .i64 64), (59, .bool false)], [(.s 1000000 0, ⟨0, true, true, true, words h⟩), (.s 1000000 1, ⟨0, true, true, true, words (List.replicate 8 0)⟩), (.s 1000000 2, ⟨0, true, true, true, words ws⟩)]⟩ = some (.agg (words (S8.plus h (rnds ws 64 0 (S8.of h)))), []) := by
  rw [← block_r2 (ws := ws) hh]
  have := block_l2 hh hw [.c L.sha_Block.r2] 64 0 (S8.of h) (by omega)
  simp only [Int.cast_ofNat_Int] at this
  rw [← this]
  simp (dsimp := false) (disch := first | omega | (simp only [strs_length, List.length_set, List.length_replicate, words_length, ofBytes_length, List.length_append, List.length_cons, List.length_nil, List.length_take, List.length_drop] <;> omega) | fail) only [L.sha_Block.r1, go_sem, reduceIte, reduceCtorEq, Nat.reduceEqDiff, Nat.reduceAdd, Nat.reduceSub, Nat.reduceMul, Nat.reduceDiv, Nat.reduceMod, Nat.reduceBEq, Nat.reduceLeDiff, Nat.reduceLT, Int.reduceEq, Int.reduceNe, Int.reduceLT, Int.reduceLE, Int.reduceBEq, Int.reduceBNe, Int.reduceToNat, Int.reduceAdd, Int.reduceSub, Int.reduceMul, Int.reduceNeg, sub_take, take_len, sub_drop, take_words, drop_words, sub_words, over_words_all, zer_words, w_add, w_and, w_or, w_xor, w_not, w_shl, w_shr, flats_words, hards_words, leadss_words, refsOfs_words, rens_words, words_length, get_words, over_words, hard_W, flat_W, refsOf_W, leads_W, ren_W, view_W, view1_W, cellsO_W, cvi_bw, cvi_wb, zer_bytes, app_ofBytes, ofBytes_length, flats_ofBytes, hards_ofBytes, leadss_ofBytes, refsOfs_ofBytes, rens_ofBytes, bytesOf_ofBytes, sub_ofBytes, take_ofBytes, drop_ofBytes, get_ofBytes, over_ofBytes_all, over_ofBytes, ofBytes_snoc, S8.of]

theorem go_block {h : List (BitVec 32)} {b : List UInt8} (hh : h.length = 8) (hb : b.length = 64) : S E F.sha_Block [.agg (words h), .agg (ofBytes b)] [] = some (.agg (words (blockF h b)), []) := by
  have l1 : (fill1 b 16 0 (List.replicate 64 0)).length = 64 := by rw [fill1_length]; simp
  rw [blockF, ← block_r1 hh (msch_length b), msch]
  have := block_l1 hh [.c L.sha_Block.r1] 48 16 _ (by omega) (by omega) l1
  simp only [Int.cast_ofNat_Int] at this
  rw [← this]
  rw [S_of fn_sha_Block rfl rfl]
  simp (dsimp := false) (disch := first | omega | (simp only [strs_length, List.length_set, List.length_replicate, words_length, ofBytes_length, List.length_append, List.length_cons, List.length_nil, List.length_take, List.length_drop] <;> omega) | fail) only [L.sha_Block, go_sem, reduceIte, reduceCtorEq, Nat.reduceEqDiff, Nat.reduceAdd, Nat.reduceSub, Nat.reduceMul, Nat.reduceDiv, Nat.reduceMod, Nat.reduceBEq, Nat.reduceLeDiff, Nat.reduceLT, Int.reduceEq, Int.reduceNe, Int.reduceLT, Int.reduceLE, Int.reduceBEq, Int.reduceBNe, Int.reduceToNat, Int.reduceAdd, Int.reduceSub, Int.reduceMul, Int.reduceNeg, sub_take, take_len, sub_drop, take_words, drop_words, sub_words, over_words_all, zer_words, w_add, w_and, w_or, w_xor, w_not, w_shl, w_shr, flats_words, hards_words, leadss_words, refsOfs_words, rens_words, words_length, get_words, over_words, hard_W, flat_W, refsOf_W, leads_W, ren_W, view_W, view1_W, cellsO_W, cvi_bw, cvi_wb, zer_bytes, app_ofBytes, ofBytes_length, flats_ofBytes, hards_ofBytes, leadss_ofBytes, refsOfs_ofBytes, rens_ofBytes, bytesOf_ofBytes, sub_ofBytes, take_ofBytes, drop_ofBytes, get_ofBytes, over_ofBytes_all, over_ofBytes, ofBytes_snoc]
  have := block_l0 hh hb [.c L.sha_Block.r0] 16 0 (List.replicate 64 0) (by omega) (by simp)
  simp only [Int.cast_ofNat_Int] at this
  rw [this]
  simp (dsimp := false) (disch := first | omega | (simp only [strs_length, List.length_set, List.length_replicate, words_length, ofBytes_length, List.length_append, List.length_cons, List.length_nil, List.length_take, List.length_drop] <;> omega) | fail) only [L.sha_Block.r0, go_sem, reduceIte, reduceCtorEq, Nat.reduceEqDiff, Nat.reduceAdd, Nat.reduceSub, Nat.reduceMul, Nat.reduceDiv, Nat.reduceMod, Nat.reduceBEq, Nat.reduceLeDiff, Nat.reduceLT, Int.reduceEq, Int.reduceNe, Int.reduceLT, Int.reduceLE, Int.reduceBEq, Int.reduceBNe, Int.reduceToNat, Int.reduceAdd, Int.reduceSub, Int.reduceMul, Int.reduceNeg, sub_take, take_len, sub_drop, take_words, drop_words, sub_words, over_words_all, zer_words, w_add, w_and, w_or, w_xor, w_not, w_shl, w_shr, flats_words, hards_words, leadss_words, refsOfs_words, rens_words, words_length, get_words, over_words, hard_W, flat_W, refsOf_W, leads_W, ren_W, view_W, view1_W, cellsO_W, cvi_bw, cvi_wb, zer_bytes, app_ofBytes, ofBytes_length, flats_ofBytes, hards_ofBytes, leadss_ofBytes, refsOfs_ofBytes, rens_ofBytes, bytesOf_ofBytes, sub_ofBytes, take_ofBytes, drop_ofBytes, get_ofBytes, over_ofBytes_all, over_ofBytes, ofBytes_snoc]
end Cod


/- An index: order, one slot, all slots. -/
import Derived.Test.YtaahcmnekjlacaaDoorXTxt1
set_option linter.unusedSimpArgs false
set_option linter.unusedVariables false
namespace Cod
open Go

theorem go_cmp {a b : List UInt8} : S E F.strings_Compare [.str a, .str b] [] = some (.int .i64 (cmpB a b), []) := by
  have h : S E F.bytealg_CompareString [.str a, .str b] [] = some (.int .i64 (cmpB a b), []) := by
    rw [S_of fn_bytealg_CompareString rfl rfl]
    simp (dsimp := false) (disch := first | omega | (simp only [strs_length, List.length_set, List.length_replicate, words_length, ofBytes_length, List.length_append, List.length_cons, List.length_nil, List.length_take, List.length_drop] <;> omega) | fail) only [L.bytealg_CompareString, go_sem, reduceIte, reduceCtorEq, Nat.reduceEqDiff, Nat.reduceAdd, Nat.reduceSub, Nat.reduceMul, Nat.reduceDiv, Nat.reduceMod, Nat.reduceBEq, Nat.reduceLeDiff, Nat.reduceLT, Int.reduceEq, Int.reduceNe, Int.reduceLT, Int.reduceLE, Int.reduceBEq, Int.reduceBNe, Int.reduceToNat, Int.reduceAdd, Int.reduceSub, Int.reduceMul, Int.reduceNeg, S_cmp]
  rw [S_of fn_strings_Compare rfl rfl]
  simp (dsimp := false) (disch := first | omega | (simp only [strs_length, List.length_set, List.length_replicate, words_length, ofBytes_length, List.length_append, List.length_cons, List.length_nil, List.length_take, List.length_drop] <;> omega) | fail) only [L.strings_Compare, go_sem, reduceIte, reduceCtorEq, Nat.reduceEqDiff, Nat.reduceAdd, Nat.reduceSub, Nat.reduceMul, Nat.reduceDiv, Nat.reduceMod, Nat.reduceBEq, Nat.reduceLeDiff, Nat.reduceLT, Int.reduceEq, Int.reduceNe, Int.reduceLT, Int.reduceLE, Int.reduceBEq, Int.reduceBNe, Int.reduceToNat, Int.reduceAdd, Int.reduceSub, Int.reduceMul, Int.reduceNeg, h]
def modeOK (m : Int) : Bool := m == 16384 || m == 33188 || m == 33261 || m == 40960
theorem go_mode {m : Int} : S E F.names_Mode [.int .i64 m] [] = some (.bool (modeOK m), []) := by
  rw [S_of fn_names_Mode rfl rfl]
  by_cases h1 : m = 16384
  · subst h1; simp (dsimp := false) (disch := first | omega | (simp only [strs_length, List.length_set, List.length_replicate, words_length, ofBytes_length, List.length_append, List.length_cons, List.length_nil, List.length_take, List.length_drop] <;> omega) | fail) only [L.names_Mode, go_sem, reduceIte, reduceCtorEq, Nat.reduceEqDiff, Nat.reduceAdd, Nat.reduceSub, Nat.reduceMul, Nat.reduceDiv, Nat.reduceMod, Nat.reduceBEq, Nat.reduceLeDiff, Nat.reduceLT, Int.reduceEq, Int.reduceNe, Int.reduceLT, Int.reduceLE, Int.reduceBEq, Int.reduceBNe, Int.reduceToNat, Int.reduceAdd, Int.reduceSub, Int.reduceMul, Int.reduceNeg]; rfl
  · by_cases h2 : m = 33188
    · subst h2; simp (dsimp := false) (disch := first | omega | (simp only [strs_length, List.length_set, List.length_replicate, words_length, ofBytes_length, List.length_append, List.length_cons, List.length_nil, List.length_take, List.length_drop] <;> omega) | fail) only [L.names_Mode, go_sem, reduceIte, reduceCtorEq, Nat.reduceEqDiff, Nat.reduceAdd, Nat.reduceSub, Nat.reduceMul, Nat.reduceDiv, Nat.reduceMod, Nat.reduceBEq, Nat.reduceLeDiff, Nat.reduceLT, Int.reduceEq, Int.reduceNe, Int.reduceLT, Int.reduceLE, Int.reduceBEq, Int.reduceBNe, Int.reduceToNat, Int.reduceAdd, Int.reduceSub, Int.reduceMul, Int.reduceNeg]; rfl
    · by_cases h3 : m = 33261
      · subst h3; simp (dsimp := false) (disch := first | omega | (simp only [strs_length, List.length_set, List.length_replicate, words_length, ofBytes_length, List.length_append, List.length_cons, List.length_nil, List.length_take, List.length_drop] <;> omega) | fail) only [L.names_Mode, go_sem, reduceIte, reduceCtorEq, Nat.reduceEqDiff, Nat.reduceAdd, Nat.reduceSub, Nat.reduceMul, Nat.reduceDiv, Nat.reduceMod, Nat.reduceBEq, Nat.reduceLeDiff, Nat.reduceLT, Int.reduceEq, Int.reduceNe, Int.reduceLT, Int.reduceLE, Int.reduceBEq, Int.reduceBNe, Int.reduceToNat, Int.reduceAdd, Int.reduceSub, Int.reduceMul, Int.reduceNeg]; rfl
      · by_cases h4 : m = 40960
        · subst h4; simp (dsimp := false) (disch := first | omega | (simp only [strs_length, List.length_set, List.length_replicate, words_length, ofBytes_length, List.length_append, List.length_cons, List.length_nil, List.length_take, List.length_drop] <;> omega) | fail) only [L.names_Mode, go_sem, reduceIte, reduceCtorEq, Nat.reduceEqDiff, Nat.reduceAdd, Nat.reduceSub, Nat.reduceMul, Nat.reduceDiv, Nat.reduceMod, Nat.reduceBEq, Nat.reduceLeDiff, Nat.reduceLT, Int.reduceEq, Int.reduceNe, Int.reduceLT, Int.reduceLE, Int.reduceBEq, Int.reduceBNe, Int.reduceToNat, Int.reduceAdd, Int.reduceSub, Int.reduceMul, Int.reduceNeg]; rfl
        · simp (dsimp := false) (disch := first | omega | (simp only [strs_length, List.length_set, List.length_replicate, words_length, ofBytes_length, List.length_append, List.length_cons, List.length_nil, List.length_take, List.length_drop] <;> omega) | fail) only [L.names_Mode, go_sem, reduceIte, reduceCtorEq, Nat.reduceEqDiff, Nat.reduceAdd, Nat.reduceSub, Nat.reduceMul, Nat.reduceDiv, Nat.reduceMod, Nat.reduceBEq, Nat.reduceLeDiff, Nat.reduceLT, Int.reduceEq, Int.reduceNe, Int.reduceLT, Int.reduceLE, Int.reduceBEq, Int.reduceBNe, Int.reduceToNat, Int.reduceAdd, Int.reduceSub, Int.reduceMul, Int.reduceNeg]
          simp [modeOK, h1, h2, h3, h4]

def worse (a b : Int) : Int := if a = 0 ∨ (b ≠ 0 ∧ b < a) then b else a
theorem go_worse {a b : Int} : S E F.index_worse [.int .i64 a, .int .i64 b] [] = some (.int .i64 (worse a b), []) := by
  rw [S_of fn_index_worse rfl rfl]
  unfold worse
  by_cases h1 : a = 0
  · simp (dsimp := false) (disch := first | omega | (simp only [strs_length, List.length_set, List.length_replicate, words_length, ofBytes_length, List.length_append, List.length_cons, List.length_nil, List.length_take, List.length_drop] <;> omega) | fail) only [L.index_worse, go_sem, reduceIte, reduceCtorEq, Nat.reduceEqDiff, Nat.reduceAdd, Nat.reduceSub, Nat.reduceMul, Nat.reduceDiv, Nat.reduceMod, Nat.reduceBEq, Nat.reduceLeDiff, Nat.reduceLT, Int.reduceEq, Int.reduceNe, Int.reduceLT, Int.reduceLE, Int.reduceBEq, Int.reduceBNe, Int.reduceToNat, Int.reduceAdd, Int.reduceSub, Int.reduceMul, Int.reduceNeg, h1, true_or]
  · by_cases h2 : b = 0
    · simp (dsimp := false) (disch := first | omega | (simp only [strs_length, List.length_set, List.length_replicate, words_length, ofBytes_length, List.length_append, List.length_cons, List.length_nil, List.length_take, List.length_drop] <;> omega) | fail) only [L.index_worse, go_sem, reduceIte, reduceCtorEq, Nat.reduceEqDiff, Nat.reduceAdd, Nat.reduceSub, Nat.reduceMul, Nat.reduceDiv, Nat.reduceMod, Nat.reduceBEq, Nat.reduceLeDiff, Nat.reduceLT, Int.reduceEq, Int.reduceNe, Int.reduceLT, Int.reduceLE, Int.reduceBEq, Int.reduceBNe, Int.reduceToNat, Int.reduceAdd, Int.reduceSub, Int.reduceMul, Int.reduceNeg, h1, h2, ne_eq, not_true_eq_false, false_and, or_self]
    · by_cases h3 : b < a
      · simp (dsimp := false) (disch := first | omega | (simp only [strs_length, List.length_set, List.length_replicate, words_length, ofBytes_length, List.length_append, List.length_cons, List.length_nil, List.length_take, List.length_drop] <;> omega) | fail) only [L.index_worse, go_sem, reduceIte, reduceCtorEq, Nat.reduceEqDiff, Nat.reduceAdd, Nat.reduceSub, Nat.reduceMul, Nat.reduceDiv, Nat.reduceMod, Nat.reduceBEq, Nat.reduceLeDiff, Nat.reduceLT, Int.reduceEq, Int.reduceNe, Int.reduceLT, Int.reduceLE, Int.reduceBEq, Int.reduceBNe, Int.reduceToNat, Int.reduceAdd, Int.reduceSub, Int.reduceMul, Int.reduceNeg, h1, h2, h3, ne_eq, not_false_eq_true, or_true]
      · simp (dsimp := false) (disch := first | omega | (simp only [strs_length, List.length_set, List.length_replicate, words_length, ofBytes_length, List.length_append, List.length_cons, List.length_nil, List.length_take, List.length_drop] <;> omega) | fail) only [L.index_worse, go_sem, reduceIte, reduceCtorEq, Nat.reduceEqDiff, Nat.reduceAdd, Nat.reduceSub, Nat.reduceMul, Nat.reduceDiv, Nat.reduceMod, Nat.reduceBEq, Nat.reduceLeDiff, Nat.reduceLT, Int.reduceEq, Int.reduceNe, Int.reduceLT, Int.reduceLE, Int.reduceBEq, Int.reduceBNe, Int.reduceToNat, Int.reduceAdd, Int.reduceSub, Int.reduceMul, Int.reduceNeg, h1, h2, h3, and_false, or_self]

def order (a b : Slot) : Int := if cmpB a.path b.path ≠ 0 then cmpB a.path b.path else IntKind.i64.wrap (a.stage - b.stage)
theorem go_order {a b : Slot} : S E F.index_order [.agg a.cells, .agg b.cells] [] = some (.int .i64 (order a b), []) := by
  rw [S_of fn_index_order rfl rfl]
  unfold order
  by_cases h : cmpB a.path b.path = 0
  · simp (dsimp := false) (disch := first | omega | (simp only [strs_length, List.length_set, List.length_replicate, words_length, ofBytes_length, List.length_append, List.length_cons, List.length_nil, List.length_take, List.length_drop] <;> omega) | fail) only [L.index_order, go_sem, reduceIte, reduceCtorEq, Nat.reduceEqDiff, Nat.reduceAdd, Nat.reduceSub, Nat.reduceMul, Nat.reduceDiv, Nat.reduceMod, Nat.reduceBEq, Nat.reduceLeDiff, Nat.reduceLT, Int.reduceEq, Int.reduceNe, Int.reduceLT, Int.reduceLE, Int.reduceBEq, Int.reduceBNe, Int.reduceToNat, Int.reduceAdd, Int.reduceSub, Int.reduceMul, Int.reduceNeg, slot0, slot0z, cells_length, flats_cells, hards_cells, leadss_cells, refsOfs_cells, rens_cells, cells_0, cells_1, cells_2, cells_35, cells_36, cells_id, over_cells, sub_cells, take_cells, slots_length, flats_slots, hards_slots, leadss_slots, refsOfs_slots, rens_slots, sub_slots, slots_0, slots_1, slots_2, slots_35, slots_36, slots_snoc, go_cmp, h, ne_eq, not_true_eq_false]
  · simp (dsimp := false) (disch := first | omega | (simp only [strs_length, List.length_set, List.length_replicate, words_length, ofBytes_length, List.length_append, List.length_cons, List.length_nil, List.length_take, List.length_drop] <;> omega) | fail) only [L.index_order, go_sem, reduceIte, reduceCtorEq, Nat.reduceEqDiff, Nat.reduceAdd, Nat.reduceSub, Nat.reduceMul, Nat.reduceDiv, Nat.reduceMod, Nat.reduceBEq, Nat.reduceLeDiff, Nat.reduceLT, Int.reduceEq, Int.reduceNe, Int.reduceLT, Int.reduceLE, Int.reduceBEq, Int.reduceBNe, Int.reduceToNat, Int.reduceAdd, Int.reduceSub, Int.reduceMul, Int.reduceNeg, slot0, slot0z, cells_length, flats_cells, hards_cells, leadss_cells, refsOfs_cells, rens_cells, cells_0, cells_1, cells_2, cells_35, cells_36, cells_id, over_cells, sub_cells, take_cells, slots_length, flats_slots, hards_slots, leadss_slots, refsOfs_slots, rens_slots, sub_slots, slots_0, slots_1, slots_2, slots_35, slots_36, slots_snoc, go_cmp, h, ne_eq, not_false_eq_true]

def badNum (s : Slot) : Bool := decide (s.stage < 0) || decide (3 < s.stage) || decide (s.size < 0) || decide (4294967296 ≤ s.size) || decide (s.time < 0) || decide (4294967296 ≤ s.time)
def badMode (s : Slot) : Bool := !modeOK s.mode || s.mode == 16384
def oneF (s : Slot) : Int := if badNum s then 1 else if pathOK s.path then (if badMode s then 4 else 0) else 3
theorem go_one {s : Slot} : S E F.index_one [.agg s.cells] [] = some (.int .i64 (oneF s), []) := by
  rw [S_of fn_index_one rfl rfl]
  by_cases hb : badNum s = true
  · rw [oneF, if_pos hb]
    unfold badNum at hb
    simp only [Bool.or_eq_true, decide_eq_true_eq] at hb
    by_cases h1 : s.stage < 0
    · simp (dsimp := false) (disch := first | omega | (simp only [strs_length, List.length_set, List.length_replicate, words_length, ofBytes_length, List.length_append, List.length_cons, List.length_nil, List.length_take, List.length_drop] <;> omega) | fail) only [L.index_one, go_sem, reduceIte, reduceCtorEq, Nat.reduceEqDiff, Nat.reduceAdd, Nat.reduceSub, Nat.reduceMul, Nat.reduceDiv, Nat.reduceMod, Nat.reduceBEq, Nat.reduceLeDiff, Nat.reduceLT, Int.reduceEq, Int.reduceNe, Int.reduceLT, Int.reduceLE, Int.reduceBEq, Int.reduceBNe, Int.reduceToNat, Int.reduceAdd, Int.reduceSub, Int.reduceMul, Int.reduceNeg, slot0, slot0z, cells_length, flats_cells, hards_cells, leadss_cells, refsOfs_cells, rens_cells, cells_0, cells_1, cells_2, cells_35, cells_36, cells_id, over_cells, sub_cells, take_cells, slots_length, flats_slots, hards_slots, leadss_slots, refsOfs_slots, rens_slots, sub_slots, slots_0, slots_1, slots_2, slots_35, slots_36, slots_snoc]
    · by_cases h2 : 3 < s.stage
      · simp (dsimp := false) (disch := first | omega | (simp only [strs_length, List.length_set, List.length_replicate, words_length, ofBytes_length, List.length_append, List.length_cons, List.length_nil, List.length_take, List.length_drop] <;> omega) | fail) only [L.index_one, go_sem, reduceIte, reduceCtorEq, Nat.reduceEqDiff, Nat.reduceAdd, Nat.reduceSub, Nat.reduceMul, Nat.reduceDiv, Nat.reduceMod, Nat.reduceBEq, Nat.reduceLeDiff, Nat.reduceLT, Int.reduceEq, Int.reduceNe, Int.reduceLT, Int.reduceLE, Int.reduceBEq, Int.reduceBNe, Int.reduceToNat, Int.reduceAdd, Int.reduceSub, Int.reduceMul, Int.reduceNeg, slot0, slot0z, cells_length, flats_cells, hards_cells, leadss_cells, refsOfs_cells, rens_cells, cells_0, cells_1, cells_2, cells_35, cells_36, cells_id, over_cells, sub_cells, take_cells, slots_length, flats_slots, hards_slots, leadss_slots, refsOfs_slots, rens_slots, sub_slots, slots_0, slots_1, slots_2, slots_35, slots_36, slots_snoc]
      · by_cases h3 : s.size < 0
        · simp (dsimp := false) (disch := first | omega | (simp only [strs_length, List.length_set, List.length_replicate, words_length, ofBytes_length, List.length_append, List.length_cons, List.length_nil, List.length_take, List.length_drop] <;> omega) | fail) only [L.index_one, go_sem, reduceIte, reduceCtorEq, Nat.reduceEqDiff, Nat.reduceAdd, Nat.reduceSub, Nat.reduceMul, Nat.reduceDiv, Nat.reduceMod, Nat.reduceBEq, Nat.reduceLeDiff, Nat.reduceLT, Int.reduceEq, Int.reduceNe, Int.reduceLT, Int.reduceLE, Int.reduceBEq, Int.reduceBNe, Int.reduceToNat, Int.reduceAdd, Int.reduceSub, Int.reduceMul, Int.reduceNeg, slot0, slot0z, cells_length, flats_cells, hards_cells, leadss_cells, refsOfs_cells, rens_cells, cells_0, cells_1, cells_2, cells_35, cells_36, cells_id, over_cells, sub_cells, take_cells, slots_length, flats_slots, hards_slots, leadss_slots, refsOfs_slots, rens_slots, sub_slots, slots_0, slots_1, slots_2, slots_35, slots_36, slots_snoc]
        · by_cases h4 : 4294967296 ≤ s.size
          · simp (dsimp := false) (disch := first | omega | (simp only [strs_length, List.length_set, List.length_replicate, words_length, ofBytes_length, List.length_append, List.length_cons, List.length_nil, List.length_take, List.length_drop] <;> omega) | fail) only [L.index_one, go_sem, reduceIte, reduceCtorEq, Nat.reduceEqDiff, Nat.reduceAdd, Nat.reduceSub, Nat.reduceMul, Nat.reduceDiv, Nat.reduceMod, Nat.reduceBEq, Nat.reduceLeDiff, Nat.reduceLT, Int.reduceEq, Int.reduceNe, Int.reduceLT, Int.reduceLE, Int.reduceBEq, Int.reduceBNe, Int.reduceToNat, Int.reduceAdd, Int.reduceSub, Int.reduceMul, Int.reduceNeg, slot0, slot0z, cells_length, flats_cells, hards_cells, leadss_cells, refsOfs_cells, rens_cells, cells_0, cells_1, cells_2, cells_35, cells_36, cells_id, over_cells, sub_cells, take_cells, slots_length, flats_slots, hards_slots, leadss_slots, refsOfs_slots, rens_slots, sub_slots, slots_0, slots_1, slots_2, slots_35, slots_36, slots_snoc]
          · by_cases h5 : s.time < 0
            · simp (dsimp := false) (disch := first | omega | (simp only [strs_length, List.length_set, List.length_replicate, words_length, ofBytes_length, List.length_append, List.length_cons, List.length_nil, List.length_take, List.length_drop] <;> omega) | fail) only [L.index_one, go_sem, reduceIte, reduceCtorEq, Nat.reduceEqDiff, Nat.reduceAdd, Nat.reduceSub, Nat.reduceMul, Nat.reduceDiv, Nat.reduceMod, Nat.reduceBEq, Nat.reduceLeDiff, Nat.reduceLT, Int.reduceEq, Int.reduceNe, Int.reduceLT, Int.reduceLE, Int.reduceBEq, Int.reduceBNe, Int.reduceToNat, Int.reduceAdd, Int.reduceSub, Int.reduceMul, Int.reduceNeg, slot0, slot0z, cells_length, flats_cells, hards_cells, leadss_cells, refsOfs_cells, rens_cells, cells_0, cells_1, cells_2, cells_35, cells_36, cells_id, over_cells, sub_cells, take_cells, slots_length, flats_slots, hards_slots, leadss_slots, refsOfs_slots, rens_slots, sub_slots, slots_0, slots_1, slots_2, slots_35, slots_36, slots_snoc]
            · simp (dsimp := false) (disch := first | omega | (simp only [strs_length, List.length_set, List.length_replicate, words_length, ofBytes_length, List.length_append, List.length_cons, List.length_nil, List.length_take, List.length_drop] <;> omega) | fail) only [L.index_one, go_sem, reduceIte, reduceCtorEq, Nat.reduceEqDiff, Nat.reduceAdd, Nat.reduceSub, Nat.reduceMul, Nat.reduceDiv, Nat.reduceMod, Nat.reduceBEq, Nat.reduceLeDiff, Nat.reduceLT, Int.reduceEq, Int.reduceNe, Int.reduceLT, Int.reduceLE, Int.reduceBEq, Int.reduceBNe, Int.reduceToNat, Int.reduceAdd, Int.reduceSub, Int.reduceMul, Int.reduceNeg, slot0, slot0z, cells_length, flats_cells, hards_cells, leadss_cells, refsOfs_cells, rens_cells, cells_0, cells_1, cells_2, cells_35, cells_36, cells_id, over_cells, sub_cells, take_cells, slots_length, flats_slots, hards_slots, leadss_slots, refsOfs_slots, rens_slots, sub_slots, slots_0, slots_1, slots_2, slots_35, slots_36, slots_snoc]
  · rw [oneF, if_neg hb]
    unfold badNum at hb
    simp only [Bool.or_eq_true, decide_eq_true_eq, not_or] at hb
    cases hp : pathOK s.path with
    | false => simp (dsimp := false) (disch := first | omega | (simp only [strs_length, List.length_set, List.length_replicate, words_length, ofBytes_length, List.length_append, List.length_cons, List.length_nil, List.length_take, List.length_drop] <;> omega) | fail) only [L.index_one, go_sem, reduceIte, reduceCtorEq, Nat.reduceEqDiff, Nat.reduceAdd, Nat.reduceSub, Nat.reduceMul, Nat.reduceDiv, Nat.reduceMod, Nat.reduceBEq, Nat.reduceLeDiff, Nat.reduceLT, Int.reduceEq, Int.reduceNe, Int.reduceLT, Int.reduceLE, Int.reduceBEq, Int.reduceBNe, Int.reduceToNat, Int.reduceAdd, Int.reduceSub, Int.reduceMul, Int.reduceNeg, slot0, slot0z, cells_length, flats_cells, hards_cells, leadss_cells, refsOfs_cells, rens_cells, cells_0, cells_1, cells_2, cells_35, cells_36, cells_id, over_cells, sub_cells, take_cells, slots_length, flats_slots, hards_slots, leadss_slots, refsOfs_slots, rens_slots, sub_slots, slots_0, slots_1, slots_2, slots_35, slots_36, slots_snoc, S_path, hp, Bool.false_eq_true]
    | true =>
      unfold badMode
      cases hm : modeOK s.mode with
      | false => simp (dsimp := false) (disch := first | omega | (simp only [strs_length, List.length_set, List.length_replicate, words_length, ofBytes_length, List.length_append, List.length_cons, List.length_nil, List.length_take, List.length_drop] <;> omega) | fail) only [L.index_one, go_sem, reduceIte, reduceCtorEq, Nat.reduceEqDiff, Nat.reduceAdd, Nat.reduceSub, Nat.reduceMul, Nat.reduceDiv, Nat.reduceMod, Nat.reduceBEq, Nat.reduceLeDiff, Nat.reduceLT, Int.reduceEq, Int.reduceNe, Int.reduceLT, Int.reduceLE, Int.reduceBEq, Int.reduceBNe, Int.reduceToNat, Int.reduceAdd, Int.reduceSub, Int.reduceMul, Int.reduceNeg, slot0, slot0z, cells_length, flats_cells, hards_cells, leadss_cells, refsOfs_cells, rens_cells, cells_0, cells_1, cells_2, cells_35, cells_36, cells_id, over_cells, sub_cells, take_cells, slots_length, flats_slots, hards_slots, leadss_slots, refsOfs_slots, rens_slots, sub_slots, slots_0, slots_1, slots_2, slots_35, slots_36, slots_snoc, S_path, hp, go_mode, hm]
      | true =>
        by_cases ht : s.mode = 16384
        · simp (dsimp := false) (disch := first | omega | (simp only [strs_length, List.length_set, List.length_replicate, words_length, ofBytes_length, List.length_append, List.length_cons, List.length_nil, List.length_take, List.length_drop] <;> omega) | fail) only [L.index_one, go_sem, reduceIte, reduceCtorEq, Nat.reduceEqDiff, Nat.reduceAdd, Nat.reduceSub, Nat.reduceMul, Nat.reduceDiv, Nat.reduceMod, Nat.reduceBEq, Nat.reduceLeDiff, Nat.reduceLT, Int.reduceEq, Int.reduceNe, Int.reduceLT, Int.reduceLE, Int.reduceBEq, Int.reduceBNe, Int.reduceToNat, Int.reduceAdd, Int.reduceSub, Int.reduceMul, Int.reduceNeg, slot0, slot0z, cells_length, flats_cells, hards_cells, leadss_cells, refsOfs_cells, rens_cells, cells_0, cells_1, cells_2, cells_35, cells_36, cells_id, over_cells, sub_cells, take_cells, slots_length, flats_slots, hards_slots, leadss_slots, refsOfs_slots, rens_slots, sub_slots, slots_0, slots_1, slots_2, slots_35, slots_36, slots_snoc, S_path, hp, go_mode, hm]
        · simp (dsimp := false) (disch := first | omega | (simp only [strs_length, List.length_set, List.length_replicate, words_length, ofBytes_length, List.length_append, List.length_cons, List.length_nil, List.length_take, List.length_drop] <;> omega) | fail) only [L.index_one, go_sem, reduceIte, reduceCtorEq, Nat.reduceEqDiff, Nat.reduceAdd, Nat.reduceSub, Nat.reduceMul, Nat.reduceDiv, Nat.reduceMod, Nat.reduceBEq, Nat.reduceLeDiff, Nat.reduceLT, Int.reduceEq, Int.reduceNe, Int.reduceLT, Int.reduceLE, Int.reduceBEq, Int.reduceBNe, Int.reduceToNat, Int.reduceAdd, Int.reduceSub, Int.reduceMul, Int.reduceNeg, slot0, slot0z, cells_length, flats_cells, hards_cells, leadss_cells, refsOfs_cells, rens_cells, cells_0, cells_1, cells_2, cells_35, cells_36, cells_id, over_cells, sub_cells, take_cells, slots_length, flats_slots, hards_slots, leadss_slots, refsOfs_slots, rens_slots, sub_slots, slots_0, slots_1, slots_2, slots_35, slots_36, slots_snoc, S_path, hp, go_mode, hm, Bool.false_eq_true]

/-- Does a slot stand badly behind the one ahead of it? -/
def badPair (b s : Slot) : Bool := decide (0 ≤ order b s) || (b.path == s.path && b.stage == 0)
def stepC (l : List Slot) (i : Nat) (e : Int) : Int :=
  if 0 < i ∧ badPair (lat l (i - 1)) (lat l i) = true then worse (worse e (oneF (lat l i))) 4 else worse e (oneF (lat l i))
def checkI (l : List Slot) : Nat → Nat → Int → Int
  | 0, _, e => e
  | m + 1, i, e => checkI l m (i + 1) (stepC l i e)
def checkF (l : List Slot) : Int := checkI l l.length 0 (if 4096 < l.length then 2 else 0)

theorem check_l0 {l : List Slot} (hl : l.length ≤ 1000000000000) (k : List It) : ∀ (m i : Nat) (e : Int), i + m = l.length →
    X E [.tmp 2] (.c L.index_Check.x0 :: .lp [0, 3, 9, 10, 11] L.index_Check.x0 :: .blk 0 :: k) ⟨[(0, .lst (slots l) l.length), (3, .int .i64 e), (9, .lst (slots l) l.length), (10, .int .i64 l.length), (11, .int .i64 i)], []⟩ =
    X E [.tmp 2] k ⟨[(0, .lst (slots l) l.length), (3, .int .i64 (checkI l m i e)), (9, .lst (slots l) l.length), (10, .int .i64 l.length), (11, .int .i64 l.length), (12, .bool false)], []⟩ := by
  intro m
  induction m with
  | zero =>
    intro i e h1
    obtain rfl : i = l.length := by omega
    rw [X_in L.index_Check.x0.eq_1]
    simp (dsimp := false) (disch := first | omega | (simp only [strs_length, List.length_set, List.length_replicate, words_length, ofBytes_length, List.length_append, List.length_cons, List.length_nil, List.length_take, List.length_drop] <;> omega) | fail) only [go_sem, reduceIte, reduceCtorEq, Nat.reduceEqDiff, Nat.reduceAdd, Nat.reduceSub, Nat.reduceMul, Nat.reduceDiv, Nat.reduceMod, Nat.reduceBEq, Nat.reduceLeDiff, Nat.reduceLT, Int.reduceEq, Int.reduceNe, Int.reduceLT, Int.reduceLE, Int.reduceBEq, Int.reduceBNe, Int.reduceToNat, Int.reduceAdd, Int.reduceSub, Int.reduceMul, Int.reduceNeg, slot0, slot0z, cells_length, flats_cells, hards_cells, leadss_cells, refsOfs_cells, rens_cells, cells_0, cells_1, cells_2, cells_35, cells_36, cells_id, over_cells, sub_cells, take_cells, slots_length, flats_slots, hards_slots, leadss_slots, refsOfs_slots, rens_slots, sub_slots, slots_0, slots_1, slots_2, slots_35, slots_36, slots_snoc, checkI]
  | succ m ih =>
    intro i e h1
    have := ih (i + 1) (stepC l i e) (by omega)
    simp only [Int.natCast_add, Int.cast_ofNat_Int] at this
    rw [checkI, ← this]
    rw [X_in L.index_Check.x0.eq_1]
    unfold stepC
    have e0 : ((i : Int) - 1).toNat = i - 1 := by omega
    by_cases h0 : 0 < i
    · have hi : i - 1 < l.length := by omega
      unfold badPair
      by_cases ho : 0 ≤ order (lat l (i - 1)) (lat l i)
      · simp (dsimp := false) (disch := first | omega | (simp only [strs_length, List.length_set, List.length_replicate, words_length, ofBytes_length, List.length_append, List.length_cons, List.length_nil, List.length_take, List.length_drop] <;> omega) | fail) only [go_sem, reduceIte, reduceCtorEq, Nat.reduceEqDiff, Nat.reduceAdd, Nat.reduceSub, Nat.reduceMul, Nat.reduceDiv, Nat.reduceMod, Nat.reduceBEq, Nat.reduceLeDiff, Nat.reduceLT, Int.reduceEq, Int.reduceNe, Int.reduceLT, Int.reduceLE, Int.reduceBEq, Int.reduceBNe, Int.reduceToNat, Int.reduceAdd, Int.reduceSub, Int.reduceMul, Int.reduceNeg, slot0, slot0z, cells_length, flats_cells, hards_cells, leadss_cells, refsOfs_cells, rens_cells, cells_0, cells_1, cells_2, cells_35, cells_36, cells_id, over_cells, sub_cells, take_cells, slots_length, flats_slots, hards_slots, leadss_slots, refsOfs_slots, rens_slots, sub_slots, slots_0, slots_1, slots_2, slots_35, slots_36, slots_snoc, go_one, go_worse, go_order, e0, h0, true_and, Bool.true_or]
      · cases hp : ((lat l (i - 1)).path == (lat l i).path) with
        | false => simp (dsimp := false) (disch := first | omega | (simp only [strs_length, List.length_set, List.length_replicate, words_length, ofBytes_length, List.length_append, List.length_cons, List.length_nil, List.length_take, List.length_drop] <;> omega) | fail) only [go_sem, reduceIte, reduceCtorEq, Nat.reduceEqDiff, Nat.reduceAdd, Nat.reduceSub, Nat.reduceMul, Nat.reduceDiv, Nat.reduceMod, Nat.reduceBEq, Nat.reduceLeDiff, Nat.reduceLT, Int.reduceEq, Int.reduceNe, Int.reduceLT, Int.reduceLE, Int.reduceBEq, Int.reduceBNe, Int.reduceToNat, Int.reduceAdd, Int.reduceSub, Int.reduceMul, Int.reduceNeg, slot0, slot0z, cells_length, flats_cells, hards_cells, leadss_cells, refsOfs_cells, rens_cells, cells_0, cells_1, cells_2, cells_35, cells_36, cells_id, over_cells, sub_cells, take_cells, slots_length, flats_slots, hards_slots, leadss_slots, refsOfs_slots, rens_slots, sub_slots, slots_0, slots_1, slots_2, slots_35, slots_36, slots_snoc, go_one, go_worse, go_order, e0, h0, hp, Bool.false_eq_true, Bool.false_or, Bool.false_and, and_false]
        | true =>
          by_cases hs : (lat l (i - 1)).stage = 0
          · simp (dsimp := false) (disch := first | omega | (simp only [strs_length, List.length_set, List.length_replicate, words_length, ofBytes_length, List.length_append, List.length_cons, List.length_nil, List.length_take, List.length_drop] <;> omega) | fail) only [go_sem, reduceIte, reduceCtorEq, Nat.reduceEqDiff, Nat.reduceAdd, Nat.reduceSub, Nat.reduceMul, Nat.reduceDiv, Nat.reduceMod, Nat.reduceBEq, Nat.reduceLeDiff, Nat.reduceLT, Int.reduceEq, Int.reduceNe, Int.reduceLT, Int.reduceLE, Int.reduceBEq, Int.reduceBNe, Int.reduceToNat, Int.reduceAdd, Int.reduceSub, Int.reduceMul, Int.reduceNeg, slot0, slot0z, cells_length, flats_cells, hards_cells, leadss_cells, refsOfs_cells, rens_cells, cells_0, cells_1, cells_2, cells_35, cells_36, cells_id, over_cells, sub_cells, take_cells, slots_length, flats_slots, hards_slots, leadss_slots, refsOfs_slots, rens_slots, sub_slots, slots_0, slots_1, slots_2, slots_35, slots_36, slots_snoc, go_one, go_worse, go_order, e0, h0, hp, Bool.false_or, Bool.true_and, true_and]
          · simp (dsimp := false) (disch := first | omega | (simp only [strs_length, List.length_set, List.length_replicate, words_length, ofBytes_length, List.length_append, List.length_cons, List.length_nil, List.length_take, List.length_drop] <;> omega) | fail) only [go_sem, reduceIte, reduceCtorEq, Nat.reduceEqDiff, Nat.reduceAdd, Nat.reduceSub, Nat.reduceMul, Nat.reduceDiv, Nat.reduceMod, Nat.reduceBEq, Nat.reduceLeDiff, Nat.reduceLT, Int.reduceEq, Int.reduceNe, Int.reduceLT, Int.reduceLE, Int.reduceBEq, Int.reduceBNe, Int.reduceToNat, Int.reduceAdd, Int.reduceSub, Int.reduceMul, Int.reduceNeg, slot0, slot0z, cells_length, flats_cells, hards_cells, leadss_cells, refsOfs_cells, rens_cells, cells_0, cells_1, cells_2, cells_35, cells_36, cells_id, over_cells, sub_cells, take_cells, slots_length, flats_slots, hards_slots, leadss_slots, refsOfs_slots, rens_slots, sub_slots, slots_0, slots_1, slots_2, slots_35, slots_36, slots_snoc, go_one, go_worse, go_order, e0, h0, hp, Bool.false_eq_true, Bool.false_or, Bool.true_and, and_false]
    · have hn : ¬ (0 < i ∧ badPair (lat l (i - 1)) (lat l i) = true) := fun h => h0 h.1
      rw [if_neg hn]
      simp (dsimp := false) (disch := first | omega | (simp only [strs_length, List.length_set, List.length_replicate, words_length, ofBytes_length, List.length_append, List.length_cons, List.length_nil, List.length_take, List.length_drop] <;> omega) | fail) only [go_sem, reduceIte, reduceCtorEq, Nat.reduceEqDiff, Nat.reduceAdd, Nat.reduceSub, Nat.reduceMul, Nat.reduceDiv, Nat.reduceMod, Nat.reduceBEq, Nat.reduceLeDiff, Nat.reduceLT, Int.reduceEq, Int.reduceNe, Int.reduceLT, Int.reduceLE, Int.reduceBEq, Int.reduceBNe, Int.reduceToNat, Int.reduceAdd, Int.reduceSub, Int.reduceMul, Int.reduceNeg, slot0, slot0z, cells_length, flats_cells, hards_cells, leadss_cells, refsOfs_cells, rens_cells, cells_0, cells_1, cells_2, cells_35, cells_36, cells_id, over_cells, sub_cells, take_cells, slots_length, flats_slots, hards_slots, leadss_slots, refsOfs_slots, rens_slots, sub_slots, slots_0, slots_1, slots_2, slots_35, slots_36, slots_snoc, go_one, go_worse]

theorem go_check {l : List Slot} (hl : l.length ≤ 1000000000000) : S E F.index_Check [.lst (slots l) l.length] [] = some (.int .i64 (checkF l), []) := by
  have h := fun k e => check_l0 hl k l.length 0 e (by omega)
  simp only [Int.cast_ofNat_Int] at h
  rw [S_of fn_index_Check rfl rfl]
  unfold checkF
  by_cases h0 : 4096 < l.length
  · simp (dsimp := false) (disch := first | omega | (simp only [strs_length, List.length_set, List.length_replicate, words_length, ofBytes_length, List.length_append, List.length_cons, List.length_nil, List.length_take, List.length_drop] <;> omega) | fail) only [L.index_Check, go_sem, reduceIte, reduceCtorEq, Nat.reduceEqDiff, Nat.reduceAdd, Nat.reduceSub, Nat.reduceMul, Nat.reduceDiv, Nat.reduceMod, Nat.reduceBEq, Nat.reduceLeDiff, Nat.reduceLT, Int.reduceEq, Int.reduceNe, Int.reduceLT, Int.reduceLE, Int.reduceBEq, Int.reduceBNe, Int.reduceToNat, Int.reduceAdd, Int.reduceSub, Int.reduceMul, Int.reduceNeg, slot0, slot0z, cells_length, flats_cells, hards_cells, leadss_cells, refsOfs_cells, rens_cells, cells_0, cells_1, cells_2, cells_35, cells_36, cells_id, over_cells, sub_cells, take_cells, slots_length, flats_slots, hards_slots, leadss_slots, refsOfs_slots, rens_slots, sub_slots, slots_0, slots_1, slots_2, slots_35, slots_36, slots_snoc]
    rw [h, if_pos h0]
    simp (dsimp := false) (disch := first | omega | (simp only [strs_length, List.length_set, List.length_replicate, words_length, ofBytes_length, List.length_append, List.length_cons, List.length_nil, List.length_take, List.length_drop] <;> omega) | fail) only [L.index_Check.r0, go_sem, reduceIte, reduceCtorEq, Nat.reduceEqDiff, Nat.reduceAdd, Nat.reduceSub, Nat.reduceMul, Nat.reduceDiv, Nat.reduceMod, Nat.reduceBEq, Nat.reduceLeDiff, Nat.reduceLT, Int.reduceEq, Int.reduceNe, Int.reduceLT, Int.reduceLE, Int.reduceBEq, Int.reduceBNe, Int.reduceToNat, Int.reduceAdd, Int.reduceSub, Int.reduceMul, Int.reduceNeg, slot0, slot0z, cells_length, flats_cells, hards_cells, leadss_cells, refsOfs_cells, rens_cells, cells_0, cells_1, cells_2, cells_35, cells_36, cells_id, over_cells, sub_cells, take_cells, slots_length, flats_slots, hards_slots, leadss_slots, refsOfs_slots, rens_slots, sub_slots, slots_0, slots_1, slots_2, slots_35, slots_36, slots_snoc]
  · simp (dsimp := false) (disch := first | omega | (simp only [strs_length, List.length_set, List.length_replicate, words_length, ofBytes_length, List.length_append, List.length_cons, List.length_nil, List.length_take, List.length_drop] <;> omega) | fail) only [L.index_Check, go_sem, reduceIte, reduceCtorEq, Nat.reduceEqDiff, Nat.reduceAdd, Nat.reduceSub, Nat.reduceMul, Nat.reduceDiv, Nat.reduceMod, Nat.reduceBEq, Nat.reduceLeDiff, Nat.reduceLT, Int.reduceEq, Int.reduceNe, Int.reduceLT, Int.reduceLE, Int.reduceBEq, Int.reduceBNe, Int.reduceToNat, Int.reduceAdd, Int.reduceSub, Int.reduceMul, Int.reduceNeg, slot0, slot0z, cells_length, flats_cells, hards_cells, leadss_cells, refsOfs_cells, rens_cells, cells_0, cells_1, cells_2, cells_35, cells_36, cells_id, over_cells, sub_cells, take_cells, slots_length, flats_slots, hards_slots, leadss_slots, refsOfs_slots, rens_slots, sub_slots, slots_0, slots_1, slots_2, slots_35, slots_36, slots_snoc]
    rw [h, if_neg h0]
    simp (dsimp := false) (disch := first | omega | (simp only [strs_length, List.length_set, List.length_replicate, words_length, ofBytes_length, List.length_append, List.length_cons, List.length_nil, List.length_take, List.length_drop] <;> omega) | fail) only [L.index_Check.r0, go_sem, reduceIte, reduceCtorEq, Nat.reduceEqDiff, Nat.reduceAdd, Nat.reduceSub, Nat.reduceMul, Nat.reduceDiv, Nat.reduceMod, Nat.reduceBEq, Nat.reduceLeDiff, Nat.reduceLT, Int.reduceEq, Int.reduceNe, Int.reduceLT, Int.reduceLE, Int.reduceBEq, Int.reduceBNe, Int.reduceToNat, Int.reduceAdd, Int.reduceSub, Int.reduceMul, Int.reduceNeg, slot0, slot0z, cells_length, flats_cells, hards_cells, leadss_cells, refsOfs_cells, rens_cells, cells_0, cells_1, cells_2, cells_35, cells_36, cells_id, over_cells, sub_cells, take_cells, slots_length, flats_slots, hards_slots, leadss_slots, refsOfs_slots, rens_slots, sub_slots, slots_0, slots_1, slots_2, slots_35, slots_36, slots_snoc]
end Cod

/- Names, the reference's. -/
namespace Cod
open Go

/-! ### parts -/
end Cod

/- Paths, the reference's. -/
namespace Cod
open Go

theorem parts_ne (s : List UInt8) : ∃ p r, parts s = p :: r := by
  cases s with
  | nil => exact ⟨[], [], rfl⟩
  | cons c t =>
    unfold parts
    by_cases h : c = 47
    · rw [if_pos h]; exact ⟨_, _, rfl⟩
    · rw [if_neg h]
      split <;> exact ⟨_, _, rfl⟩
end Cod

/- An index, the reference's checks. -/
namespace Cod
open Go

def ifB (b : Bool) (e : Int) : Int := if b then e else 0
/-! ### the least error -/
def leastStep (m e : Int) : Int := if e ≠ 0 ∧ (m = 0 ∨ e < m) then e else m
def leastI (l : List Int) : Nat → Nat → Int → Int
  | 0, _, e => e
  | m + 1, i, e => leastI l m (i + 1) (leastStep e (l.getD i 0))
/-! ### the check -/
def badPairR (b s : Slot) : Bool := !(Op.bytesLess b.path s.path || b.path == s.path) || (b.path == s.path && (decide (s.stage ≤ b.stage) || b.stage == 0))
def stepR (l : List Slot) (i : Nat) (x : Bool × Bool × Bool) : Bool × Bool × Bool :=
  (x.1 || badNum (lat l i), x.2.1 || !pathOK (lat l i).path, (x.2.2 || badMode (lat l i)) || (decide (0 < i) && badPairR (lat l (i - 1)) (lat l i)))
def checkR (l : List Slot) : Nat → Nat → Bool × Bool × Bool → Bool × Bool × Bool
  | 0, _, x => x
  | m + 1, i, x => checkR l m (i + 1) (stepR l i x)

def docCheck (l : List Slot) : Int :=
  let x := checkR l l.length 0 (false, false, false)
  leastI [ifB x.1 1, ifB (decide (4096 < l.length)) 2, ifB x.2.1 3, ifB x.2.2 4] 4 0 0
end Cod

/- The two checks of an index are one. -/
namespace Cod
open Go

def mn (a g n f : Bool) : Int := if a then 1 else if g then 2 else if n then 3 else if f then 4 else 0
theorem worse_mn (a g n f a' g' n' f' : Bool) : worse (mn a g n f) (mn a' g' n' f') = mn (a || a') (g || g') (n || n') (f || f') := by
  cases a <;> cases g <;> cases n <;> cases f <;> cases a' <;> cases g' <;> cases n' <;> cases f' <;> rfl
theorem oneF_mn (s : Slot) : oneF s = mn (badNum s) false (!pathOK s.path) (badMode s) := by
  unfold oneF mn
  cases badNum s <;> cases pathOK s.path <;> cases badMode s <;> rfl
theorem least_mn (a g n f : Bool) : leastI [ifB a 1, ifB g 2, ifB n 3, ifB f 4] 4 0 0 = mn a g n f := by
  cases a <;> cases g <;> cases n <;> cases f <;> rfl
theorem stepC_mn (l : List Slot) (i : Nat) (a g n f : Bool) : stepC l i (mn a g n f) = mn (a || badNum (lat l i)) g (n || !pathOK (lat l i).path) ((f || badMode (lat l i)) || (decide (0 < i) && badPair (lat l (i - 1)) (lat l i))) := by
  unfold stepC
  rw [oneF_mn, worse_mn, Bool.or_false]
  by_cases h : 0 < i ∧ badPair (lat l (i - 1)) (lat l i) = true
  · rw [if_pos h, show (4 : Int) = mn false false false true from rfl, worse_mn]
    simp [h.1, h.2]
  · rw [if_neg h]
    have : (decide (0 < i) && badPair (lat l (i - 1)) (lat l i)) = false := by
      cases hb : badPair (lat l (i - 1)) (lat l i) <;> simp_all
    rw [this, Bool.or_false]
theorem num_range {s : Slot} (h : badNum s = false) : 0 ≤ s.stage ∧ s.stage ≤ 3 ∧ 0 ≤ s.size ∧ s.size < 4294967296 ∧ 0 ≤ s.time ∧ s.time < 4294967296 := by
  unfold badNum at h
  simp only [Bool.or_eq_false_iff, decide_eq_false_iff_not] at h
  omega
theorem pair_same {b s : Slot} (hb : badNum b = false) (hs : badNum s = false) : badPair b s = badPairR b s := by
  have r1 := num_range hb
  have r2 := num_range hs
  unfold badPair badPairR order cmpB
  by_cases hp : b.path = s.path
  · have hw : IntKind.i64.wrap (b.stage - s.stage) = b.stage - s.stage := wrap_i64 (by omega) (by omega)
    simp only [hp, if_true, ne_eq, not_true_eq_false, if_false, hw, beq_self_eq_true, Bool.true_and, Bool.or_true, Bool.not_true, Bool.false_or]
    congr 1
    exact decide_eq_decide.2 (by omega)
  · have hpb : (b.path == s.path) = false := by simp [hp]
    simp only [hp, if_false, hpb, Bool.false_and, Bool.or_false]
    cases Op.bytesLess b.path s.path <;> simp
theorem check_same (l : List Slot) (g : Bool) : ∀ (m i : Nat) (a n f f' : Bool), (a = false → f = f' ∧ ∀ j, j < i → badNum (lat l j) = false) →
    checkI l m i (mn a g n f) = (fun x => mn x.1 g x.2.1 x.2.2) (checkR l m i (a, n, f')) := by
  intro m
  induction m with
  | zero =>
    intro i a n f f' h
    simp only [checkI, checkR]
    cases a with
    | true => rfl
    | false => rw [(h rfl).1]
  | succ m ih =>
    intro i a n f f' h
    rw [checkI, checkR, stepC_mn, stepR]
    refine ih (i + 1) _ _ _ _ fun ha => ?_
    simp only [Bool.or_eq_false_iff] at ha
    obtain ⟨h1, h2⟩ := h ha.1
    refine ⟨?_, fun j hj => ?_⟩
    · rw [h1]
      by_cases h0 : 0 < i
      · rw [pair_same (h2 (i - 1) (by omega)) ha.2]
      · simp [h0]
    · by_cases hji : j = i
      · rw [hji]; exact ha.2
      · exact h2 j (by omega)
theorem check_doc (l : List Slot) : checkF l = docCheck l := by
  unfold checkF docCheck
  have h1 : (if 4096 < l.length then (2 : Int) else 0) = mn false (decide (4096 < l.length)) false false := by
    by_cases h : 4096 < l.length <;> simp [h, mn]
  rw [h1, check_same l _ l.length 0 false false false false (fun _ => ⟨rfl, fun j hj => by omega⟩), least_mn]
/-- What a check that is passed says. -/
theorem checkF_range (l : List Slot) : 0 ≤ checkF l ∧ checkF l ≤ 4 := by
  rw [check_doc]
  unfold docCheck
  rw [least_mn]
  unfold mn
  split <;> (try split) <;> (try split) <;> (try split) <;> omega
theorem checkR_false (l : List Slot) : ∀ (m i : Nat) (x : Bool × Bool × Bool),
    ((checkR l m i x).1 = false → x.1 = false ∧ ∀ j, i ≤ j → j < i + m → badNum (lat l j) = false) ∧
    ((checkR l m i x).2.1 = false → x.2.1 = false ∧ ∀ j, i ≤ j → j < i + m → pathOK (lat l j).path = true) ∧
    ((checkR l m i x).2.2 = false → x.2.2 = false ∧ ∀ j, i ≤ j → j < i + m → badMode (lat l j) = false ∧ (0 < j → badPairR (lat l (j - 1)) (lat l j) = false)) := by
  intro m
  induction m with
  | zero => intro i x; exact ⟨fun h => ⟨h, fun j h1 h2 => by omega⟩, fun h => ⟨h, fun j h1 h2 => by omega⟩, fun h => ⟨h, fun j h1 h2 => by omega⟩⟩
  | succ m ih =>
    intro i x
    obtain ⟨h1, h2, h3⟩ := ih (i + 1) (stepR l i x)
    simp only [checkR]
    refine ⟨fun h => ?_, fun h => ?_, fun h => ?_⟩
    · obtain ⟨a, b⟩ := h1 h
      simp only [stepR, Bool.or_eq_false_iff] at a
      refine ⟨a.1, fun j hj hj2 => ?_⟩
      by_cases e : j = i
      · rw [e]; exact a.2
      · exact b j (by omega) (by omega)
    · obtain ⟨a, b⟩ := h2 h
      simp only [stepR, Bool.or_eq_false_iff, Bool.not_eq_false'] at a
      refine ⟨a.1, fun j hj hj2 => ?_⟩
      by_cases e : j = i
      · rw [e]; exact a.2
      · exact b j (by omega) (by omega)
    · obtain ⟨a, b⟩ := h3 h
      simp only [stepR, Bool.or_eq_false_iff, Bool.and_eq_false_iff, decide_eq_false_iff_not] at a
      refine ⟨a.1.1, fun j hj hj2 => ?_⟩
      by_cases e : j = i
      · rw [e]; exact ⟨a.1.2, fun h0 => a.2.resolve_left (by omega)⟩
      · exact b j (by omega) (by omega)
/-- A list that is in form. -/
structure SlotsOK (l : List Slot) : Prop where
  len : l.length ≤ 4096
  num : ∀ j, j < l.length → badNum (lat l j) = false
  path : ∀ j, j < l.length → pathOK (lat l j).path = true
  mode : ∀ j, j < l.length → badMode (lat l j) = false
  pair : ∀ j, j < l.length → 0 < j → badPairR (lat l (j - 1)) (lat l j) = false
theorem check_good {l : List Slot} (h : checkF l = 0) : SlotsOK l := by
  rw [check_doc] at h
  unfold docCheck at h
  simp only [least_mn] at h
  obtain ⟨h1, h2, h3⟩ := checkR_false l l.length 0 (false, false, false)
  generalize checkR l l.length 0 (false, false, false) = x at *
  unfold mn at h
  cases ha : x.1 <;> rw [ha] at h <;> simp at h
  cases hg : decide (4096 < l.length) <;> simp only [decide_eq_true_eq, decide_eq_false_iff_not] at hg
  · simp only [hg, if_false] at h
    cases hn : x.2.1 <;> rw [hn] at h <;> simp at h
    cases hf : x.2.2 <;> rw [hf] at h <;> simp at h
    exact ⟨by omega, fun j hj => (h1 ha).2 j (by omega) (by omega), fun j hj => (h2 hn).2 j (by omega) (by omega), fun j hj => ((h3 hf).2 j (by omega) (by omega)).1, fun j hj h0 => ((h3 hf).2 j (by omega) (by omega)).2 h0⟩
  · simp [hg] at h
theorem lat_out {l : List Slot} {j : Nat} (h : ¬ j < l.length) : lat l j = default := by
  unfold lat
  rw [List.getD_eq_getElem?_getD, List.getElem?_eq_none (by omega)]; rfl
theorem path_len {s : List UInt8} (h : pathOK s = true) : s.length ≤ 200 := by
  unfold pathOK at h
  simp only [Bool.and_eq_true, decide_eq_true_eq] at h
  exact h.1
theorem SlotsOK.plen {l : List Slot} (h : SlotsOK l) (i : Nat) : (lat l i).path.length ≤ 200 := by
  by_cases hi : i < l.length
  · exact path_len (h.path i hi)
  · rw [lat_out hi]; simp [default]
end Cod

/- Words of 32 bits. -/
namespace Cod
open Go

theorem wrap32 (x : Int) : IntKind.u32.wrap x = x % 4294967296 := by
  simp only [IntKind.wrap, IntKind.signed, IntKind.bits]
  simp
theorem ofInt32 (a : BitVec 32) : BitVec.ofInt 32 (a.toNat : Int) = a := by
  apply BitVec.eq_of_toNat_eq
  rw [BitVec.toNat_ofInt]
  have := a.isLt
  omega
theorem toNat_lt32 (a : BitVec 32) : (a.toNat : Int) < 4294967296 := by have := a.isLt; omega
theorem w_add (a b : BitVec 32) : binAV .add (W a) (W b) = some (W (a + b)) := by
  simp only [W, bin_add, wrap32, BitVec.toNat_add]
  simp
theorem w_and (a b : BitVec 32) : binAV .and (W a) (W b) = some (W (a &&& b)) := by
  rw [W, W, bin_and, iand]
  show some (AV.int .u32 (IntKind.u32.wrap (((BitVec.ofInt 32 (a.toNat : Int)) &&& (BitVec.ofInt 32 (b.toNat : Int))).toNat : Int))) = some (AV.int .u32 ((a &&& b).toNat : Int))
  rw [ofInt32, ofInt32, wrap32, Int.emod_eq_of_lt (by omega) (toNat_lt32 _)]
theorem w_or (a b : BitVec 32) : binAV .or (W a) (W b) = some (W (a ||| b)) := by
  rw [W, W, bin_or, ior]
  show some (AV.int .u32 (IntKind.u32.wrap (((BitVec.ofInt 32 (a.toNat : Int)) ||| (BitVec.ofInt 32 (b.toNat : Int))).toNat : Int))) = some (AV.int .u32 ((a ||| b).toNat : Int))
  rw [ofInt32, ofInt32, wrap32, Int.emod_eq_of_lt (by omega) (toNat_lt32 _)]
theorem w_xor (a b : BitVec 32) : binAV .xor (W a) (W b) = some (W (a ^^^ b)) := by
  rw [W, W, bin_xor, ixor]
  show some (AV.int .u32 (IntKind.u32.wrap (((BitVec.ofInt 32 (a.toNat : Int)) ^^^ (BitVec.ofInt 32 (b.toNat : Int))).toNat : Int))) = some (AV.int .u32 ((a ^^^ b).toNat : Int))
  rw [ofInt32, ofInt32, wrap32, Int.emod_eq_of_lt (by omega) (toNat_lt32 _)]
theorem w_not (a : BitVec 32) : unAV .xor (W a) = some (W (~~~a)) := by
  rw [W, un_xor, inot]
  show some (AV.int .u32 (IntKind.u32.wrap (((BitVec.allOnes 32) ^^^ (BitVec.ofInt 32 (a.toNat : Int))).toNat : Int))) = some (AV.int .u32 ((~~~a).toNat : Int))
  rw [ofInt32, BitVec.allOnes_xor, wrap32, Int.emod_eq_of_lt (by omega) (toNat_lt32 _)]
theorem w_shl' (a : BitVec 32) (k : IntKind) (n : Nat) : binAV .shl (W a) (.int k (n : Int)) = some (W (a <<< n)) := by
  rw [W, bin_shl (by omega), ishl]
  show some (AV.int .u32 (IntKind.u32.wrap ((a.toNat : Int) * 2 ^ (Nat.min n 32)))) = some (AV.int .u32 ((a <<< n).toNat : Int))
  rw [wrap32, BitVec.toNat_shiftLeft, Nat.shiftLeft_eq]
  by_cases h : n ≤ 32
  · rw [show Nat.min n 32 = n from Nat.min_eq_left h, Int.natCast_emod, Int.natCast_mul, Int.natCast_pow]
    rfl
  · rw [show Nat.min n 32 = 32 from Nat.min_eq_right (by omega)]
    obtain ⟨m, rfl⟩ : ∃ m, n = 32 + m := ⟨n - 32, by omega⟩
    have h1 : a.toNat * 2 ^ (32 + m) % 2 ^ 32 = 0 := by
      rw [Nat.pow_add, ← Nat.mul_assoc, Nat.mul_right_comm]
      exact Nat.mul_mod_left _ _
    rw [h1]
    have h2 : (a.toNat : Int) * 2 ^ 32 % 4294967296 = 0 := by omega
    rw [h2]; rfl
theorem w_shr' (a : BitVec 32) (k : IntKind) (n : Nat) : binAV .shr (W a) (.int k (n : Int)) = some (W (a >>> n)) := by
  rw [W, bin_shr (by omega), ishr]
  show some (AV.int .u32 ((a.toNat : Int).fdiv (2 ^ (Nat.min n 32)))) = some (AV.int .u32 ((a >>> n).toNat : Int))
  rw [BitVec.toNat_ushiftRight, Nat.shiftRight_eq_div_pow]
  have key : ∀ m : Nat, ((a.toNat : Int)).fdiv (2 ^ m) = ((a.toNat / 2 ^ m : Nat) : Int) := by
    intro m
    rw [Int.fdiv_eq_ediv_of_nonneg _ (Int.le_of_lt (Int.pow_pos (by omega))), Int.natCast_ediv, Int.natCast_pow]
    rfl
  rw [key]
  by_cases h : n ≤ 32
  · rw [show Nat.min n 32 = n from Nat.min_eq_left h]
  · rw [show Nat.min n 32 = 32 from Nat.min_eq_right (by omega)]
    have h1 : a.toNat / 2 ^ 32 = 0 := Nat.div_eq_of_lt a.isLt
    have h2 : a.toNat / 2 ^ n = 0 := Nat.div_eq_of_lt (Nat.lt_of_lt_of_le a.isLt (Nat.pow_le_pow_right (by omega) (by omega)))
    rw [h1, h2]

theorem w_shl (a : BitVec 32) (k : IntKind) (n : Int) (h : 0 ≤ n) : binAV .shl (W a) (.int k n) = some (W (a <<< n.toNat)) := by
  obtain ⟨m, rfl⟩ := Int.eq_ofNat_of_zero_le h
  rw [w_shl']; rfl
theorem w_shr (a : BitVec 32) (k : IntKind) (n : Int) (h : 0 ≤ n) : binAV .shr (W a) (.int k n) = some (W (a >>> n.toNat)) := by
  obtain ⟨m, rfl⟩ := Int.eq_ofNat_of_zero_le h
  rw [w_shr']; rfl
theorem zer_words (n : Nat) : zer (.int .u32 0) n = words (List.replicate n 0) := by simp [zer, words, W]
theorem flats_words (l : List (BitVec 32)) : flats (words l) = true := by
  induction l with
  | nil => rfl
  | cons x l ih => simpa [words, flats, flat, W] using ih
theorem hards_words (l : List (BitVec 32)) : hards (words l) = true := by
  induction l with
  | nil => rfl
  | cons x l ih => simpa [words, hards, hard, W] using ih
theorem leadss_words (l : List (BitVec 32)) : leadss (words l) = false := by
  induction l with
  | nil => rfl
  | cons x l ih => simpa [words, leadss, leads, W] using ih
theorem refsOfs_words (l : List (BitVec 32)) : refsOfs (words l) = [] := by
  induction l with
  | nil => rfl
  | cons x l ih => simpa [words, refsOfs, refsOf, W] using ih
theorem rens_words (f : Site → Nat → Option (Site × Nat)) (l : List (BitVec 32)) : rens f (words l) = words l := by
  induction l with
  | nil => rfl
  | cons x l ih => simpa [words, rens, ren, W] using ih
theorem get_words {l : List (BitVec 32)} {i : Nat} (h : i < l.length) : (words l)[i]? = some (W (l.getD i 0)) := by simp [words, h]
theorem over_words {l : List (BitVec 32)} {i : Nat} {x : BitVec 32} (h : i < l.length) : over (words l) i [W x] = words (l.set i x) := by
  unfold over words
  rw [List.length_singleton, List.map_set, List.set_eq_take_append_cons_drop, if_pos (by simpa using h)]
  simp
theorem take_words (l : List (BitVec 32)) (n : Nat) : (words l).take n = words (l.take n) := by simp [words, List.map_take]
theorem drop_words (l : List (BitVec 32)) (n : Nat) : (words l).drop n = words (l.drop n) := by simp [words, List.map_drop]
theorem sub_words (l : List (BitVec 32)) (i n : Nat) : sub (words l) i n = words (sub l i n) := by simp [sub, words, List.map_drop, List.map_take]
theorem over_words_all {l m : List (BitVec 32)} (h : m.length = l.length) : over (words l) 0 (words m) = words m := by
  unfold over; exact overall (by rw [words_length, words_length, h])
theorem hard_W (x : BitVec 32) : hard (W x) = true := rfl
theorem flat_W (x : BitVec 32) : flat (W x) = true := rfl
theorem refsOf_W (x : BitVec 32) : refsOf (W x) = [] := rfl
theorem leads_W (x : BitVec 32) : leads (W x) = false := rfl
theorem ren_W (f : Site → Nat → Option (Site × Nat)) (x : BitVec 32) : ren f (W x) = W x := rfl
theorem view_W (x : BitVec 32) : view (W x) = .ret (W x, []) := rfl
theorem view1_W (x : BitVec 32) : view1 (W x) = .ret (W x, []) := rfl
theorem cellsO_W (x : BitVec 32) : cellsO (W x) = some [W x] := rfl
/-- A byte's word. -/
def bw (l : List UInt8) (i : Nat) : BitVec 32 := BitVec.ofNat 32 (l.getD i 0).toNat
theorem cvi_bw (l : List UInt8) (i : Nat) : cviV .u32 (.int .u8 (bat l i)) = .ret (W (bw l i), []) := by
  have h := (l.getD i 0).toNat_lt
  have : IntKind.u32.wrap (bat l i) = ((bw l i).toNat : Int) := by
    rw [wrap32]; unfold bat bw
    rw [BitVec.toNat_ofNat]
    omega
  rw [cviV_int, this]; rfl
/-- A word's lowest byte. -/
def wb (x : BitVec 32) : UInt8 := UInt8.ofNat x.toNat
theorem cvi_wb (x : BitVec 32) : cviV .u8 (W x) = .ret (.int .u8 ((wb x).toNat : Int), []) := by
  have : IntKind.u8.wrap (x.toNat : Int) = ((wb x).toNat : Int) := by
    rw [wrap_u8]; unfold wb
    simp
  rw [W, cviV_int, this]

end Cod


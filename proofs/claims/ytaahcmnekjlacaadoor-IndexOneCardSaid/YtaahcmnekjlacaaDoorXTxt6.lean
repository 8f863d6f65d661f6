/- index.Set. -/
import Derived.Test.YtaahcmnekjlacaaDoorXTxt5
set_option linter.unusedSimpArgs false
set_option linter.unusedVariables false
namespace Cod
open Go

theorem setL_length (p : List UInt8) (l : List Slot) : ∀ (m i : Nat) (b a : List Slot) (t : Bool), (setL p l m i b a t).1.length + (setL p l m i b a t).2.length ≤ b.length + a.length + m := by
  intro m
  induction m with
  | zero => intro i b a t; simp [setL]
  | succ m ih =>
    intro i b a t
    rw [setL]
    split
    · split
      · have := ih (i + 1) b a true; omega
      · have := ih (i + 1) b (a ++ [lat l i]) true; simp at this; omega
    · have := ih (i + 1) (b ++ [lat l i]) a false; simp at this; omega
def setM (p : List UInt8) (l w : List Slot) : List Slot := (setL p l l.length 0 [] [] false).1 ++ w ++ (setL p l l.length 0 [] [] false).2
def setE (p : List UInt8) (l w : List Slot) : Int := worse (if pathOK p = false ∨ 0 ≤ idxF p w w.length 0 then worse (checkF l) 3 else checkF l) (checkF (setM p l w))
def setN (p : List UInt8) (l w : List Slot) : Int := if pathOK p = false ∨ 0 ≤ idxF p w w.length 0 then worse (checkF l) 3 else checkF l
theorem setE_eq (p : List UInt8) (l w : List Slot) : setE p l w = worse (setN p l w) (checkF (setM p l w)) := rfl
theorem go_setr {l w : List Slot} {p : List UInt8} {e t' : Int} (hl : l.length ≤ 1000000) (hw : w.length ≤ 1000000) (b a : List Slot) (hb : b.length + a.length ≤ 1000000) :
    X E [.tmp 6, .tmp 7] [.c L.index_Set.r0] ⟨[(2, .lst (slots w) w.length), (4, .ref (.s 1000000 0) 0 0), (8, .int .i64 e), (9, .buf (.s 1000000 1) 0 0 b.length 37), (10, .buf (.s 1000000 2) 0 0 a.length 37), (11, .int .i64 t'), (27, .lst (slots l) l.length), (28, .int .i64 l.length), (29, .int .i64 l.length), (30, .bool false)],
      [(.s 1000000 0, ⟨0, true, true, true, [.str p]⟩), (.s 1000000 1, ⟨0, true, true, false, slots b⟩), (.s 1000000 2, ⟨0, true, true, false, slots a⟩)]⟩ =
    if worse e (checkF (b ++ w ++ a)) = 0 then some (.tup [.buf (.r 0) 0 0 (b ++ w ++ a).length 37, .int .i64 0], [(.r 0, ⟨0, true, true, false, slots (b ++ w ++ a)⟩)])
    else some (.tup [.buf (.r 0) 0 0 0 37, .int .i64 (worse e (checkF (b ++ w ++ a)))], [(.r 0, ⟨0, true, true, false, []⟩)]) := by
  have hc := go_concat3 (a := b) (b := w) (c := a) (by omega) hw (by omega)
  have hk := go_check (l := b ++ w ++ a) (by simp; omega)
  generalize b ++ w ++ a = m at *
  rw [X_in L.index_Set.r0.eq_1]
  by_cases h : worse e (checkF m) = 0
  · rw [if_pos h]
    simp (dsimp := false) (disch := first | omega | (simp only [strs_length, List.length_set, List.length_replicate, words_length, ofBytes_length, List.length_append, List.length_cons, List.length_nil, List.length_take, List.length_drop, slots_length] <;> omega) | fail) only [go_sem, reduceIte, reduceCtorEq, Nat.reduceEqDiff, Nat.reduceAdd, Nat.reduceSub, Nat.reduceMul, Nat.reduceDiv, Nat.reduceMod, Nat.reduceBEq, Nat.reduceLeDiff, Nat.reduceLT, Int.reduceEq, Int.reduceNe, Int.reduceLT, Int.reduceLE, Int.reduceBEq, Int.reduceBNe, Int.reduceToNat, Int.reduceAdd, Int.reduceSub, Int.reduceMul, Int.reduceNeg, zer_bytes, app_ofBytes, ofBytes_length, flats_ofBytes, hards_ofBytes, leadss_ofBytes, refsOfs_ofBytes, rens_ofBytes, bytesOf_ofBytes, sub_ofBytes, take_ofBytes, drop_ofBytes, get_ofBytes, over_ofBytes_all, over_ofBytes, ofBytes_snoc, slot0, slot0z, cells_length, flats_cells, hards_cells, leadss_cells, refsOfs_cells, rens_cells, cells_0, cells_1, cells_2, cells_35, cells_36, cells_id, over_cells, sub_cells, take_cells, slots_length, flats_slots, hards_slots, leadss_slots, refsOfs_slots, rens_slots, sub_slots, slots_0, slots_1, slots_2, slots_35, slots_36, slots_snoc, sub_sl, hc, hk, go_worse, h]
  · rw [if_neg h]
    simp (dsimp := false) (disch := first | omega | (simp only [strs_length, List.length_set, List.length_replicate, words_length, ofBytes_length, List.length_append, List.length_cons, List.length_nil, List.length_take, List.length_drop, slots_length] <;> omega) | fail) only [go_sem, reduceIte, reduceCtorEq, Nat.reduceEqDiff, Nat.reduceAdd, Nat.reduceSub, Nat.reduceMul, Nat.reduceDiv, Nat.reduceMod, Nat.reduceBEq, Nat.reduceLeDiff, Nat.reduceLT, Int.reduceEq, Int.reduceNe, Int.reduceLT, Int.reduceLE, Int.reduceBEq, Int.reduceBNe, Int.reduceToNat, Int.reduceAdd, Int.reduceSub, Int.reduceMul, Int.reduceNeg, zer_bytes, app_ofBytes, ofBytes_length, flats_ofBytes, hards_ofBytes, leadss_ofBytes, refsOfs_ofBytes, rens_ofBytes, bytesOf_ofBytes, sub_ofBytes, take_ofBytes, drop_ofBytes, get_ofBytes, over_ofBytes_all, over_ofBytes, ofBytes_snoc, slot0, slot0z, cells_length, flats_cells, hards_cells, leadss_cells, refsOfs_cells, rens_cells, cells_0, cells_1, cells_2, cells_35, cells_36, cells_id, over_cells, sub_cells, take_cells, slots_length, flats_slots, hards_slots, leadss_slots, refsOfs_slots, rens_slots, sub_slots, slots_0, slots_1, slots_2, slots_35, slots_36, slots_snoc, sub_sl, hc, hk, go_worse, h]
theorem go_idxSet {l w : List Slot} {p : List UInt8} (hl : l.length ≤ 100000) (hw : w.length ≤ 100000) : S E F.index_Set [.lst (slots l) l.length, .str p, .lst (slots w) w.length] [] =
    if setE p l w = 0 then some (.tup [.buf (.r 0) 0 0 (setM p l w).length 37, .int .i64 0], [(.r 0, ⟨0, true, true, false, slots (setM p l w)⟩)])
    else some (.tup [.buf (.r 0) 0 0 0 37, .int .i64 (setE p l w)], [(.r 0, ⟨0, true, true, false, []⟩)]) := by
  have hk := go_check (l := l) (by omega)
  have hc := go_containsF (l := w) (p := p) (by omega)
  have hlen := setL_length p l l.length 0 [] [] false
  simp only [List.length_nil] at hlen
  obtain ⟨t', h0⟩ := set_l0 (l := l) (w := w) (p := p) (e := setN p l w) (by omega) [.c L.index_Set.r0] l.length 0 [] [] false (by omega) (by simp) (fun _ => rfl)
  rw [go_setr (by omega) (by omega) _ _ (by omega)] at h0
  simp only [List.length_nil, lateV, if_neg Bool.false_ne_true, Int.cast_ofNat_Int, slots_nil] at h0
  rw [setE_eq]
  unfold setM
  rw [← h0]
  rw [S_of fn_index_Set rfl rfl]
  cases hp : pathOK p with
  | false =>
    rw [setN, if_pos (.inl hp)]
    simp (dsimp := false) (disch := first | omega | (simp only [strs_length, List.length_set, List.length_replicate, words_length, ofBytes_length, List.length_append, List.length_cons, List.length_nil, List.length_take, List.length_drop, slots_length] <;> omega) | fail) only [L.index_Set, go_sem, reduceIte, reduceCtorEq, Nat.reduceEqDiff, Nat.reduceAdd, Nat.reduceSub, Nat.reduceMul, Nat.reduceDiv, Nat.reduceMod, Nat.reduceBEq, Nat.reduceLeDiff, Nat.reduceLT, Int.reduceEq, Int.reduceNe, Int.reduceLT, Int.reduceLE, Int.reduceBEq, Int.reduceBNe, Int.reduceToNat, Int.reduceAdd, Int.reduceSub, Int.reduceMul, Int.reduceNeg, zer_bytes, app_ofBytes, ofBytes_length, flats_ofBytes, hards_ofBytes, leadss_ofBytes, refsOfs_ofBytes, rens_ofBytes, bytesOf_ofBytes, sub_ofBytes, take_ofBytes, drop_ofBytes, get_ofBytes, over_ofBytes_all, over_ofBytes, ofBytes_snoc, slot0, slot0z, cells_length, flats_cells, hards_cells, leadss_cells, refsOfs_cells, rens_cells, cells_0, cells_1, cells_2, cells_35, cells_36, cells_id, over_cells, sub_cells, take_cells, slots_length, flats_slots, hards_slots, leadss_slots, refsOfs_slots, rens_slots, sub_slots, slots_0, slots_1, slots_2, slots_35, slots_36, slots_snoc, S_path, hp, hk, go_worse, Bool.not_false]
  | true =>
    by_cases hi : 0 ≤ idxF p w w.length 0
    · rw [setN, if_pos (.inr hi)]
      simp (dsimp := false) (disch := first | omega | (simp only [strs_length, List.length_set, List.length_replicate, words_length, ofBytes_length, List.length_append, List.length_cons, List.length_nil, List.length_take, List.length_drop, slots_length] <;> omega) | fail) only [L.index_Set, go_sem, reduceIte, reduceCtorEq, Nat.reduceEqDiff, Nat.reduceAdd, Nat.reduceSub, Nat.reduceMul, Nat.reduceDiv, Nat.reduceMod, Nat.reduceBEq, Nat.reduceLeDiff, Nat.reduceLT, Int.reduceEq, Int.reduceNe, Int.reduceLT, Int.reduceLE, Int.reduceBEq, Int.reduceBNe, Int.reduceToNat, Int.reduceAdd, Int.reduceSub, Int.reduceMul, Int.reduceNeg, zer_bytes, app_ofBytes, ofBytes_length, flats_ofBytes, hards_ofBytes, leadss_ofBytes, refsOfs_ofBytes, rens_ofBytes, bytesOf_ofBytes, sub_ofBytes, take_ofBytes, drop_ofBytes, get_ofBytes, over_ofBytes_all, over_ofBytes, ofBytes_snoc, slot0, slot0z, cells_length, flats_cells, hards_cells, leadss_cells, refsOfs_cells, rens_cells, cells_0, cells_1, cells_2, cells_35, cells_36, cells_id, over_cells, sub_cells, take_cells, slots_length, flats_slots, hards_slots, leadss_slots, refsOfs_slots, rens_slots, sub_slots, slots_0, slots_1, slots_2, slots_35, slots_36, slots_snoc, S_path, hp, hk, go_worse, Bool.not_true, hc, hi, decide_true]
    · rw [setN, if_neg (by simp [hp, hi])]
      simp (dsimp := false) (disch := first | omega | (simp only [strs_length, List.length_set, List.length_replicate, words_length, ofBytes_length, List.length_append, List.length_cons, List.length_nil, List.length_take, List.length_drop, slots_length] <;> omega) | fail) only [L.index_Set, go_sem, reduceIte, reduceCtorEq, Nat.reduceEqDiff, Nat.reduceAdd, Nat.reduceSub, Nat.reduceMul, Nat.reduceDiv, Nat.reduceMod, Nat.reduceBEq, Nat.reduceLeDiff, Nat.reduceLT, Int.reduceEq, Int.reduceNe, Int.reduceLT, Int.reduceLE, Int.reduceBEq, Int.reduceBNe, Int.reduceToNat, Int.reduceAdd, Int.reduceSub, Int.reduceMul, Int.reduceNeg, zer_bytes, app_ofBytes, ofBytes_length, flats_ofBytes, hards_ofBytes, leadss_ofBytes, refsOfs_ofBytes, rens_ofBytes, bytesOf_ofBytes, sub_ofBytes, take_ofBytes, drop_ofBytes, get_ofBytes, over_ofBytes_all, over_ofBytes, ofBytes_snoc, slot0, slot0z, cells_length, flats_cells, hards_cells, leadss_cells, refsOfs_cells, rens_cells, cells_0, cells_1, cells_2, cells_35, cells_36, cells_id, over_cells, sub_cells, take_cells, slots_length, flats_slots, hards_slots, leadss_slots, refsOfs_slots, rens_slots, sub_slots, slots_0, slots_1, slots_2, slots_35, slots_36, slots_snoc, S_path, hp, hk, go_worse, Bool.not_true, hc, hi, decide_false]
/-! ### Find -/
def bsI (l : List Slot) (t : Slot) : Nat → Nat → Nat → Nat
  | 0, i, _ => i
  | m + 1, i, j => if i < j then (if order (lat l ((i + j) / 2)) t < 0 then bsI l t m ((i + j) / 2 + 1) j else bsI l t m i ((i + j) / 2)) else i
theorem bs_l0 {l : List Slot} {t : Slot} (hl : l.length ≤ 1000000) (k : List It) : ∀ (m i j : Nat), j < i + m → i ≤ j → j ≤ l.length →
    X E [.tmp 6, .tmp 7] (.c L.slices_BinarySearchFunc_Sapi_Slot_api_Slot_api_Slot.x0 :: .lp [0, 2, 4, 8, 9, 10] L.slices_BinarySearchFunc_Sapi_Slot_api_Slot_api_Slot.x0 :: .blk 0 :: k) ⟨[(0, .lst (slots l) l.length), (2, .clo F.index_order []), (4, .ref (.s 1000000 0) 0 0), (8, .int .i64 l.length), (9, .int .i64 i), (10, .int .i64 j)], [(.s 1000000 0, ⟨0, true, true, true, t.cells⟩)]⟩ =
    X E [.tmp 6, .tmp 7] k ⟨[(0, .lst (slots l) l.length), (2, .clo F.index_order []), (4, .ref (.s 1000000 0) 0 0), (8, .int .i64 l.length), (9, .int .i64 (bsI l t m i j)), (10, .int .i64 (bsI l t m i j)), (17, .bool false)], [(.s 1000000 0, ⟨0, true, true, true, t.cells⟩)]⟩ := by
  intro m
  induction m with
  | zero => intro i j hij hi hj; omega
  | succ m ih =>
    intro i j hij hi hj
    rw [X_in L.slices_BinarySearchFunc_Sapi_Slot_api_Slot_api_Slot.x0.eq_1, bsI]
    by_cases h : i < j
    · rw [if_pos h]
      have e1 : IntKind.u64.wrap ((i : Int) + j) = (i : Int) + j := wrap_u64 (by omega) (by omega)
      have e2 : IntKind.i64.wrap (ishr IntKind.u64 ((i : Int) + j) 1) = (((i + j) / 2 : Nat) : Int) := by
        rw [show (1 : Int) = ((1 : Nat) : Int) from rfl, ishr_any (by simp [IntKind.bits]), wrap_i64 (by omega) (by omega)]
        omega
      have e3 : (i + j) / 2 < l.length := by omega
      have ih1 := ih ((i + j) / 2 + 1) j (by omega) (by omega) hj
      have ih2 := ih i ((i + j) / 2) (by omega) (by omega) (by omega)
      generalize hq : (i + j) / 2 = q at *
      by_cases ho : order (lat l q) t < 0
      · rw [if_pos ho, ← ih1]
        simp (dsimp := false) (disch := first | omega | (simp only [strs_length, List.length_set, List.length_replicate, words_length, ofBytes_length, List.length_append, List.length_cons, List.length_nil, List.length_take, List.length_drop, slots_length] <;> omega) | fail) only [go_sem, reduceIte, reduceCtorEq, Nat.reduceEqDiff, Nat.reduceAdd, Nat.reduceSub, Nat.reduceMul, Nat.reduceDiv, Nat.reduceMod, Nat.reduceBEq, Nat.reduceLeDiff, Nat.reduceLT, Int.reduceEq, Int.reduceNe, Int.reduceLT, Int.reduceLE, Int.reduceBEq, Int.reduceBNe, Int.reduceToNat, Int.reduceAdd, Int.reduceSub, Int.reduceMul, Int.reduceNeg, zer_bytes, app_ofBytes, ofBytes_length, flats_ofBytes, hards_ofBytes, leadss_ofBytes, refsOfs_ofBytes, rens_ofBytes, bytesOf_ofBytes, sub_ofBytes, take_ofBytes, drop_ofBytes, get_ofBytes, over_ofBytes_all, over_ofBytes, ofBytes_snoc, slot0, slot0z, cells_length, flats_cells, hards_cells, leadss_cells, refsOfs_cells, rens_cells, cells_0, cells_1, cells_2, cells_35, cells_36, cells_id, over_cells, sub_cells, take_cells, slots_length, flats_slots, hards_slots, leadss_slots, refsOfs_slots, rens_slots, sub_slots, slots_0, slots_1, slots_2, slots_35, slots_36, slots_snoc, go_order, e1, e2, Int.natCast_add, Int.cast_ofNat_Int]
      · rw [if_neg ho, ← ih2]
        simp (dsimp := false) (disch := first | omega | (simp only [strs_length, List.length_set, List.length_replicate, words_length, ofBytes_length, List.length_append, List.length_cons, List.length_nil, List.length_take, List.length_drop, slots_length] <;> omega) | fail) only [go_sem, reduceIte, reduceCtorEq, Nat.reduceEqDiff, Nat.reduceAdd, Nat.reduceSub, Nat.reduceMul, Nat.reduceDiv, Nat.reduceMod, Nat.reduceBEq, Nat.reduceLeDiff, Nat.reduceLT, Int.reduceEq, Int.reduceNe, Int.reduceLT, Int.reduceLE, Int.reduceBEq, Int.reduceBNe, Int.reduceToNat, Int.reduceAdd, Int.reduceSub, Int.reduceMul, Int.reduceNeg, zer_bytes, app_ofBytes, ofBytes_length, flats_ofBytes, hards_ofBytes, leadss_ofBytes, refsOfs_ofBytes, rens_ofBytes, bytesOf_ofBytes, sub_ofBytes, take_ofBytes, drop_ofBytes, get_ofBytes, over_ofBytes_all, over_ofBytes, ofBytes_snoc, slot0, slot0z, cells_length, flats_cells, hards_cells, leadss_cells, refsOfs_cells, rens_cells, cells_0, cells_1, cells_2, cells_35, cells_36, cells_id, over_cells, sub_cells, take_cells, slots_length, flats_slots, hards_slots, leadss_slots, refsOfs_slots, rens_slots, sub_slots, slots_0, slots_1, slots_2, slots_35, slots_36, slots_snoc, go_order, e1, e2]
    · rw [if_neg h]
      obtain rfl : i = j := by omega
      simp (dsimp := false) (disch := first | omega | (simp only [strs_length, List.length_set, List.length_replicate, words_length, ofBytes_length, List.length_append, List.length_cons, List.length_nil, List.length_take, List.length_drop, slots_length] <;> omega) | fail) only [go_sem, reduceIte, reduceCtorEq, Nat.reduceEqDiff, Nat.reduceAdd, Nat.reduceSub, Nat.reduceMul, Nat.reduceDiv, Nat.reduceMod, Nat.reduceBEq, Nat.reduceLeDiff, Nat.reduceLT, Int.reduceEq, Int.reduceNe, Int.reduceLT, Int.reduceLE, Int.reduceBEq, Int.reduceBNe, Int.reduceToNat, Int.reduceAdd, Int.reduceSub, Int.reduceMul, Int.reduceNeg, zer_bytes, app_ofBytes, ofBytes_length, flats_ofBytes, hards_ofBytes, leadss_ofBytes, refsOfs_ofBytes, rens_ofBytes, bytesOf_ofBytes, sub_ofBytes, take_ofBytes, drop_ofBytes, get_ofBytes, over_ofBytes_all, over_ofBytes, ofBytes_snoc, slot0, slot0z, cells_length, flats_cells, hards_cells, leadss_cells, refsOfs_cells, rens_cells, cells_0, cells_1, cells_2, cells_35, cells_36, cells_id, over_cells, sub_cells, take_cells, slots_length, flats_slots, hards_slots, leadss_slots, refsOfs_slots, rens_slots, sub_slots, slots_0, slots_1, slots_2, slots_35, slots_36, slots_snoc]
theorem bsI_le (l : List Slot) (t : Slot) : ∀ (m i j : Nat), i ≤ j → bsI l t m i j ≤ j := by
  intro m
  induction m with
  | zero => intro i j h; exact h
  | succ m ih =>
    intro i j h
    rw [bsI]
    split
    · split
      · exact ih _ _ (by omega)
      · exact Nat.le_trans (ih _ _ (by omega)) (by omega)
    · exact h
def bsF (l : List Slot) (t : Slot) : Nat := bsI l t (l.length + 1) 0 l.length
theorem go_bs {l : List Slot} {t : Slot} (hl : l.length ≤ 1000000) : S E F.slices_BinarySearchFunc_Sapi_Slot_api_Slot_api_Slot [.lst (slots l) l.length, .agg t.cells, .clo F.index_order []] [] =
    some (.tup [.int .i64 (bsF l t), .bool (decide (bsF l t < l.length ∧ order (lat l (bsF l t)) t = 0))], []) := by
  have h0 := bs_l0 (t := t) hl [.c L.slices_BinarySearchFunc_Sapi_Slot_api_Slot_api_Slot.r0] (l.length + 1) 0 l.length (by omega) (by omega) (by omega)
  have hle := bsI_le l t (l.length + 1) 0 l.length (by omega)
  simp only [Int.cast_ofNat_Int] at h0
  unfold bsF
  rw [S_of fn_slices_BinarySearchFunc_Sapi_Slot_api_Slot_api_Slot rfl rfl]
  simp (dsimp := false) (disch := first | omega | (simp only [strs_length, List.length_set, List.length_replicate, words_length, ofBytes_length, List.length_append, List.length_cons, List.length_nil, List.length_take, List.length_drop, slots_length] <;> omega) | fail) only [L.slices_BinarySearchFunc_Sapi_Slot_api_Slot_api_Slot, go_sem, reduceIte, reduceCtorEq, Nat.reduceEqDiff, Nat.reduceAdd, Nat.reduceSub, Nat.reduceMul, Nat.reduceDiv, Nat.reduceMod, Nat.reduceBEq, Nat.reduceLeDiff, Nat.reduceLT, Int.reduceEq, Int.reduceNe, Int.reduceLT, Int.reduceLE, Int.reduceBEq, Int.reduceBNe, Int.reduceToNat, Int.reduceAdd, Int.reduceSub, Int.reduceMul, Int.reduceNeg, zer_bytes, app_ofBytes, ofBytes_length, flats_ofBytes, hards_ofBytes, leadss_ofBytes, refsOfs_ofBytes, rens_ofBytes, bytesOf_ofBytes, sub_ofBytes, take_ofBytes, drop_ofBytes, get_ofBytes, over_ofBytes_all, over_ofBytes, ofBytes_snoc, slot0, slot0z, cells_length, flats_cells, hards_cells, leadss_cells, refsOfs_cells, rens_cells, cells_0, cells_1, cells_2, cells_35, cells_36, cells_id, over_cells, sub_cells, take_cells, slots_length, flats_slots, hards_slots, leadss_slots, refsOfs_slots, rens_slots, sub_slots, slots_0, slots_1, slots_2, slots_35, slots_36, slots_snoc, h0]
  generalize bsI l t (l.length + 1) 0 l.length = q at *
  by_cases h : q < l.length
  · by_cases ho : order (lat l q) t = 0
    · simp (dsimp := false) (disch := first | omega | (simp only [strs_length, List.length_set, List.length_replicate, words_length, ofBytes_length, List.length_append, List.length_cons, List.length_nil, List.length_take, List.length_drop, slots_length] <;> omega) | fail) only [L.slices_BinarySearchFunc_Sapi_Slot_api_Slot_api_Slot.r0, go_sem, reduceIte, reduceCtorEq, Nat.reduceEqDiff, Nat.reduceAdd, Nat.reduceSub, Nat.reduceMul, Nat.reduceDiv, Nat.reduceMod, Nat.reduceBEq, Nat.reduceLeDiff, Nat.reduceLT, Int.reduceEq, Int.reduceNe, Int.reduceLT, Int.reduceLE, Int.reduceBEq, Int.reduceBNe, Int.reduceToNat, Int.reduceAdd, Int.reduceSub, Int.reduceMul, Int.reduceNeg, zer_bytes, app_ofBytes, ofBytes_length, flats_ofBytes, hards_ofBytes, leadss_ofBytes, refsOfs_ofBytes, rens_ofBytes, bytesOf_ofBytes, sub_ofBytes, take_ofBytes, drop_ofBytes, get_ofBytes, over_ofBytes_all, over_ofBytes, ofBytes_snoc, slot0, slot0z, cells_length, flats_cells, hards_cells, leadss_cells, refsOfs_cells, rens_cells, cells_0, cells_1, cells_2, cells_35, cells_36, cells_id, over_cells, sub_cells, take_cells, slots_length, flats_slots, hards_slots, leadss_slots, refsOfs_slots, rens_slots, sub_slots, slots_0, slots_1, slots_2, slots_35, slots_36, slots_snoc, go_order, h, ho, decide_true, and_self]
    · simp (dsimp := false) (disch := first | omega | (simp only [strs_length, List.length_set, List.length_replicate, words_length, ofBytes_length, List.length_append, List.length_cons, List.length_nil, List.length_take, List.length_drop, slots_length] <;> omega) | fail) only [L.slices_BinarySearchFunc_Sapi_Slot_api_Slot_api_Slot.r0, go_sem, reduceIte, reduceCtorEq, Nat.reduceEqDiff, Nat.reduceAdd, Nat.reduceSub, Nat.reduceMul, Nat.reduceDiv, Nat.reduceMod, Nat.reduceBEq, Nat.reduceLeDiff, Nat.reduceLT, Int.reduceEq, Int.reduceNe, Int.reduceLT, Int.reduceLE, Int.reduceBEq, Int.reduceBNe, Int.reduceToNat, Int.reduceAdd, Int.reduceSub, Int.reduceMul, Int.reduceNeg, zer_bytes, app_ofBytes, ofBytes_length, flats_ofBytes, hards_ofBytes, leadss_ofBytes, refsOfs_ofBytes, rens_ofBytes, bytesOf_ofBytes, sub_ofBytes, take_ofBytes, drop_ofBytes, get_ofBytes, over_ofBytes_all, over_ofBytes, ofBytes_snoc, slot0, slot0z, cells_length, flats_cells, hards_cells, leadss_cells, refsOfs_cells, rens_cells, cells_0, cells_1, cells_2, cells_35, cells_36, cells_id, over_cells, sub_cells, take_cells, slots_length, flats_slots, hards_slots, leadss_slots, refsOfs_slots, rens_slots, sub_slots, slots_0, slots_1, slots_2, slots_35, slots_36, slots_snoc, go_order, h, ho, decide_false, and_false]
  · simp (dsimp := false) (disch := first | omega | (simp only [strs_length, List.length_set, List.length_replicate, words_length, ofBytes_length, List.length_append, List.length_cons, List.length_nil, List.length_take, List.length_drop, slots_length] <;> omega) | fail) only [L.slices_BinarySearchFunc_Sapi_Slot_api_Slot_api_Slot.r0, go_sem, reduceIte, reduceCtorEq, Nat.reduceEqDiff, Nat.reduceAdd, Nat.reduceSub, Nat.reduceMul, Nat.reduceDiv, Nat.reduceMod, Nat.reduceBEq, Nat.reduceLeDiff, Nat.reduceLT, Int.reduceEq, Int.reduceNe, Int.reduceLT, Int.reduceLE, Int.reduceBEq, Int.reduceBNe, Int.reduceToNat, Int.reduceAdd, Int.reduceSub, Int.reduceMul, Int.reduceNeg, zer_bytes, app_ofBytes, ofBytes_length, flats_ofBytes, hards_ofBytes, leadss_ofBytes, refsOfs_ofBytes, rens_ofBytes, bytesOf_ofBytes, sub_ofBytes, take_ofBytes, drop_ofBytes, get_ofBytes, over_ofBytes_all, over_ofBytes, ofBytes_snoc, slot0, slot0z, cells_length, flats_cells, hards_cells, leadss_cells, refsOfs_cells, rens_cells, cells_0, cells_1, cells_2, cells_35, cells_36, cells_id, over_cells, sub_cells, take_cells, slots_length, flats_slots, hards_slots, leadss_slots, refsOfs_slots, rens_slots, sub_slots, slots_0, slots_1, slots_2, slots_35, slots_36, slots_snoc, go_order, h, decide_false, false_and]
theorem go_bsN {l : List Slot} {t : Slot} (hl : l.length ≤ 1000000) : S E F.slices_BinarySearchFunc_Sapi_Slot_api_Slot_api_Slot [.lst (slots l) l.length, .agg t.cells, .clo 35 []] [] =
    some (.tup [.int .i64 (bsF l t), .bool (decide (bsF l t < l.length ∧ order (lat l (bsF l t)) t = 0))], []) := go_bs hl
def key (p : List UInt8) (n : Int) : Slot := ⟨p, n, 0, List.replicate 32 0, 0, 0, rfl⟩
theorem key_cells (p : List UInt8) (n : Int) (h : (default : Slot).id.length = 32) : Slot.cells ⟨p, n, (default : Slot).mode, (default : Slot).id, (default : Slot).size, (default : Slot).time, h⟩ = (key p n).cells := rfl
theorem key_cells2 (p : List UInt8) (m n : Int) (h : (key p m).id.length = 32) : Slot.cells ⟨(key p m).path, n, (key p m).mode, (key p m).id, (key p m).size, (key p m).time, h⟩ = (key p n).cells := rfl
def findF (l : List Slot) (p : List UInt8) (n : Int) : Slot × Int :=
  if checkF l = 0 then (if bsF l (key p n) < l.length ∧ order (lat l (bsF l (key p n))) (key p n) = 0 then (lat l (bsF l (key p n)), 0) else (default, 7)) else (default, checkF l)
theorem go_find {l : List Slot} {p : List UInt8} {n : Int} (hl : l.length ≤ 1000000) : S E F.index_Find [.lst (slots l) l.length, .str p, .int .i64 n] [] =
    some (.tup [.agg (findF l p n).1.cells, .int .i64 (findF l p n).2], []) := by
  have hk := go_check (l := l) (by omega)
  have hb := go_bsN (t := key p n) hl
  unfold findF
  rw [S_of fn_index_Find rfl rfl]
  by_cases h : checkF l = 0
  · rw [if_pos h]
    by_cases hf : bsF l (key p n) < l.length ∧ order (lat l (bsF l (key p n))) (key p n) = 0
    · rw [if_pos hf]
      have h1 := hf.1
      simp (dsimp := false) (disch := first | omega | (simp only [strs_length, List.length_set, List.length_replicate, words_length, ofBytes_length, List.length_append, List.length_cons, List.length_nil, List.length_take, List.length_drop, slots_length] <;> omega) | fail) only [L.index_Find, go_sem, reduceIte, reduceCtorEq, Nat.reduceEqDiff, Nat.reduceAdd, Nat.reduceSub, Nat.reduceMul, Nat.reduceDiv, Nat.reduceMod, Nat.reduceBEq, Nat.reduceLeDiff, Nat.reduceLT, Int.reduceEq, Int.reduceNe, Int.reduceLT, Int.reduceLE, Int.reduceBEq, Int.reduceBNe, Int.reduceToNat, Int.reduceAdd, Int.reduceSub, Int.reduceMul, Int.reduceNeg, zer_bytes, app_ofBytes, ofBytes_length, flats_ofBytes, hards_ofBytes, leadss_ofBytes, refsOfs_ofBytes, rens_ofBytes, bytesOf_ofBytes, sub_ofBytes, take_ofBytes, drop_ofBytes, get_ofBytes, over_ofBytes_all, over_ofBytes, ofBytes_snoc, slot0, slot0z, cells_length, flats_cells, hards_cells, leadss_cells, refsOfs_cells, rens_cells, cells_0, cells_1, cells_2, cells_35, cells_36, cells_id, over_cells, sub_cells, take_cells, slots_length, flats_slots, hards_slots, leadss_slots, refsOfs_slots, rens_slots, sub_slots, slots_0, slots_1, slots_2, slots_35, slots_36, slots_snoc, hk, h, over_c0, over_c1, key_cells, key_cells2, hb, hf, decide_true, and_self]
    · rw [if_neg hf]
      simp (dsimp := false) (disch := first | omega | (simp only [strs_length, List.length_set, List.length_replicate, words_length, ofBytes_length, List.length_append, List.length_cons, List.length_nil, List.length_take, List.length_drop, slots_length] <;> omega) | fail) only [L.index_Find, go_sem, reduceIte, reduceCtorEq, Nat.reduceEqDiff, Nat.reduceAdd, Nat.reduceSub, Nat.reduceMul, Nat.reduceDiv, Nat.reduceMod, Nat.reduceBEq, Nat.reduceLeDiff, Nat.reduceLT, Int.reduceEq, Int.reduceNe, Int.reduceLT, Int.reduceLE, Int.reduceBEq, Int.reduceBNe, Int.reduceToNat, Int.reduceAdd, Int.reduceSub, Int.reduceMul, Int.reduceNeg, zer_bytes, app_ofBytes, ofBytes_length, flats_ofBytes, hards_ofBytes, leadss_ofBytes, refsOfs_ofBytes, rens_ofBytes, bytesOf_ofBytes, sub_ofBytes, take_ofBytes, drop_ofBytes, get_ofBytes, over_ofBytes_all, over_ofBytes, ofBytes_snoc, slot0, slot0z, cells_length, flats_cells, hards_cells, leadss_cells, refsOfs_cells, rens_cells, cells_0, cells_1, cells_2, cells_35, cells_36, cells_id, over_cells, sub_cells, take_cells, slots_length, flats_slots, hards_slots, leadss_slots, refsOfs_slots, rens_slots, sub_slots, slots_0, slots_1, slots_2, slots_35, slots_36, slots_snoc, hk, h, over_c0, over_c1, key_cells, key_cells2, hb, hf, decide_false]
  · rw [if_neg h]
    simp (dsimp := false) (disch := first | omega | (simp only [strs_length, List.length_set, List.length_replicate, words_length, ofBytes_length, List.length_append, List.length_cons, List.length_nil, List.length_take, List.length_drop, slots_length] <;> omega) | fail) only [L.index_Find, go_sem, reduceIte, reduceCtorEq, Nat.reduceEqDiff, Nat.reduceAdd, Nat.reduceSub, Nat.reduceMul, Nat.reduceDiv, Nat.reduceMod, Nat.reduceBEq, Nat.reduceLeDiff, Nat.reduceLT, Int.reduceEq, Int.reduceNe, Int.reduceLT, Int.reduceLE, Int.reduceBEq, Int.reduceBNe, Int.reduceToNat, Int.reduceAdd, Int.reduceSub, Int.reduceMul, Int.reduceNeg, zer_bytes, app_ofBytes, ofBytes_length, flats_ofBytes, hards_ofBytes, leadss_ofBytes, refsOfs_ofBytes, rens_ofBytes, bytesOf_ofBytes, sub_ofBytes, take_ofBytes, drop_ofBytes, get_ofBytes, over_ofBytes_all, over_ofBytes, ofBytes_snoc, slot0, slot0z, cells_length, flats_cells, hards_cells, leadss_cells, refsOfs_cells, rens_cells, cells_0, cells_1, cells_2, cells_35, cells_36, cells_id, over_cells, sub_cells, take_cells, slots_length, flats_slots, hards_slots, leadss_slots, refsOfs_slots, rens_slots, sub_slots, slots_0, slots_1, slots_2, slots_35, slots_36, slots_snoc, hk, h]
end Cod

/- Slots in order: Find finds what is there. -/
namespace Cod
open Go

theorem less_irr : ∀ a : List UInt8, Op.bytesLess a a = false := by
  intro a
  induction a with
  | nil => rfl
  | cons x a ih => rw [Op.bytesLess, ih]; simp
theorem less_trans : ∀ {a b c : List UInt8}, Op.bytesLess a b = true → Op.bytesLess b c = true → Op.bytesLess a c = true := by
  intro a
  induction a with
  | nil =>
    intro b c h1 h2
    cases c with
    | nil => cases b <;> simp [Op.bytesLess] at h2
    | cons z c => rfl
  | cons x a ih =>
    intro b c h1 h2
    cases b with
    | nil => simp [Op.bytesLess] at h1
    | cons y b =>
      cases c with
      | nil => simp [Op.bytesLess] at h2
      | cons z c =>
        simp only [Op.bytesLess, Bool.or_eq_true, decide_eq_true_eq, Bool.and_eq_true, beq_iff_eq] at h1 h2 ⊢
        rcases h1 with h1 | ⟨rfl, h1⟩
        · rcases h2 with h2 | ⟨rfl, h2⟩
          · exact .inl (UInt8.lt_trans h1 h2)
          · exact .inl h1
        · rcases h2 with h2 | ⟨rfl, h2⟩
          · exact .inl h2
          · exact .inr ⟨rfl, ih h1 h2⟩
def slt (a b : Slot) : Prop := Op.bytesLess a.path b.path = true ∨ (a.path = b.path ∧ a.stage < b.stage)
theorem slt_trans {a b c : Slot} (h1 : slt a b) (h2 : slt b c) : slt a c := by
  rcases h1 with h1 | ⟨h1, h1'⟩
  · rcases h2 with h2 | ⟨h2, h2'⟩
    · exact .inl (less_trans h1 h2)
    · exact .inl (by rw [← h2]; exact h1)
  · rcases h2 with h2 | ⟨h2, h2'⟩
    · exact .inl (by rw [h1]; exact h2)
    · exact .inr ⟨h1.trans h2, by omega⟩
theorem slt_irr {a : Slot} : ¬ slt a a := by
  rintro (h | ⟨_, h⟩)
  · rw [less_irr] at h; cases h
  · omega
theorem slt_of_pair {a b : Slot} (h : badPairR a b = false) : slt a b := by
  unfold badPairR at h
  simp only [Bool.or_eq_false_iff, Bool.not_eq_false', Bool.or_eq_true, beq_iff_eq, Bool.and_eq_false_iff, beq_eq_false_iff_ne, decide_eq_false_iff_not] at h
  obtain ⟨h1, h2⟩ := h
  rcases h1 with h1 | h1
  · exact .inl h1
  · rcases h2 with h2 | h2
    · exact absurd h1 h2
    · exact .inr ⟨h1, by omega⟩
theorem slt_of_ok {l : List Slot} (h : SlotsOK l) : ∀ (d i : Nat), i + d + 1 < l.length → slt (lat l i) (lat l (i + d + 1)) := by
  intro d
  induction d with
  | zero => intro i hi; exact slt_of_pair (by simpa using h.pair (i + 1) (by omega) (by omega))
  | succ d ih =>
    intro i hi
    have h1 := ih i (by omega)
    have h2 := slt_of_pair (h.pair (i + (d + 1) + 1) (by omega) (by omega))
    rw [show i + (d + 1) + 1 - 1 = i + d + 1 by omega] at h2
    exact slt_trans h1 h2
theorem slt_lt {l : List Slot} (h : SlotsOK l) {i j : Nat} (hij : i < j) (hj : j < l.length) : slt (lat l i) (lat l j) := by
  have := slt_of_ok h (j - i - 1) i (by omega)
  rwa [show i + (j - i - 1) + 1 = j by omega] at this
theorem order_slt {a t : Slot} (ha : 0 ≤ a.stage ∧ a.stage ≤ 3) (ht : 0 ≤ t.stage ∧ t.stage ≤ 3) : (order a t < 0 ↔ slt a t) ∧ (order a t = 0 ↔ (a.path = t.path ∧ a.stage = t.stage)) := by
  have hw : IntKind.i64.wrap (a.stage - t.stage) = a.stage - t.stage := wrap_i64 (by omega) (by omega)
  unfold order cmpB slt
  by_cases hp : a.path = t.path
  · simp [hp, hw, less_irr]; omega
  · simp only [hp, if_false, false_and, or_false]
    cases hb : Op.bytesLess a.path t.path <;> simp
theorem bsI_find {l : List Slot} (h : SlotsOK l) {k : Nat} (hk : k < l.length) {t : Slot} (hp : (lat l k).path = t.path) (hn : (lat l k).stage = t.stage) :
    ∀ (m i j : Nat), j < i + m → i ≤ k → k ≤ j → j ≤ l.length → bsI l t m i j = k := by
  have hr := fun q hq => num_range (h.num q hq)
  have ht : 0 ≤ t.stage ∧ t.stage ≤ 3 := by rw [← hn]; exact ⟨(hr k hk).1, (hr k hk).2.1⟩
  have hs : ∀ a, slt a t ↔ slt a (lat l k) := fun a => by unfold slt; rw [hp, hn]
  intro m
  induction m with
  | zero => intro i j h1 h2 h3; omega
  | succ m ih =>
    intro i j h1 h2 h3 h4
    rw [bsI]
    by_cases hij : i < j
    · rw [if_pos hij]
      have hq : (i + j) / 2 < l.length := by omega
      have hq2 : i ≤ (i + j) / 2 ∧ (i + j) / 2 < j := by omega
      generalize (i + j) / 2 = q at *
      have ho := (order_slt ⟨(hr q hq).1, (hr q hq).2.1⟩ ht).1
      by_cases hlt : order (lat l q) t < 0
      · rw [if_pos hlt]
        rw [ho, hs] at hlt
        have : q < k := by
          apply Classical.byContradiction
          intro hc
          by_cases he : q = k
          · rw [he] at hlt; exact slt_irr hlt
          · exact slt_irr (slt_trans hlt (slt_lt h (by omega : k < q) hq))
        exact ih _ _ (by omega) (by omega) h3 h4
      · rw [if_neg hlt]
        rw [ho, hs] at hlt
        have : k ≤ q := by
          apply Classical.byContradiction
          intro hc
          exact hlt (slt_lt h (by omega : q < k) hk)
        exact ih _ _ (by omega) h2 this (by omega)
    · rw [if_neg hij]; omega
theorem find_at {l : List Slot} (h : checkF l = 0) {k : Nat} (hk : k < l.length) : findF l (lat l k).path (lat l k).stage = (lat l k, 0) := by
  have hok := check_good h
  have hr := num_range (hok.num k hk)
  have hb : bsF l (key (lat l k).path (lat l k).stage) = k := bsI_find hok hk (t := key (lat l k).path (lat l k).stage) rfl rfl _ _ _ (by omega) (by omega) (by omega) (by omega)
  unfold findF
  rw [if_pos h, hb, if_pos]
  refine ⟨hk, ?_⟩
  rw [(order_slt (t := key (lat l k).path (lat l k).stage) ⟨hr.1, hr.2.1⟩ ⟨hr.1, hr.2.1⟩).2]
  exact ⟨rfl, rfl⟩
theorem lat_mem {l : List Slot} {s : Slot} (h : s ∈ l) : ∃ k, k < l.length ∧ lat l k = s := by
  obtain ⟨k, hk, he⟩ := List.mem_iff_getElem.1 h
  exact ⟨k, hk, by unfold lat; rw [List.getD_eq_getElem?_getD, List.getElem?_eq_getElem hk]; exact he⟩
theorem find_mem {l : List Slot} (h : checkF l = 0) {s : Slot} (hs : s ∈ l) : findF l s.path s.stage = (s, 0) := by
  obtain ⟨k, hk, rfl⟩ := lat_mem hs
  exact find_at h hk
/-! ### what Set leaves -/
def cntL (p : List UInt8) (l : List Slot) : Nat → Nat → Nat
  | 0, _ => 0
  | m + 1, i => (if (lat l i).path = p then 0 else 1) + cntL p l m (i + 1)
theorem setL_keeps (p : List UInt8) (l : List Slot) : ∀ (m i : Nat) (b a : List Slot) (t : Bool),
    (setL p l m i b a t).1.length + (setL p l m i b a t).2.length = b.length + a.length + cntL p l m i ∧
    (∀ s, s ∈ b ∨ s ∈ a → s ∈ (setL p l m i b a t).1 ∨ s ∈ (setL p l m i b a t).2) ∧
    (∀ j, i ≤ j → j < i + m → (lat l j).path ≠ p → lat l j ∈ (setL p l m i b a t).1 ∨ lat l j ∈ (setL p l m i b a t).2) := by
  intro m
  induction m with
  | zero => intro i b a t; exact ⟨by simp [setL, cntL], fun s h => h, fun j h1 h2 => by omega⟩
  | succ m ih =>
    intro i b a t
    rw [setL, cntL]
    split
    · split
      · rename_i hp
        obtain ⟨h1, h2, h3⟩ := ih (i + 1) b a true
        refine ⟨by rw [h1]; omega, h2, fun j g1 g2 g3 => ?_⟩
        by_cases hj : j = i
        · subst hj; exact absurd hp g3
        · exact h3 j (by omega) (by omega) g3
      · obtain ⟨h1, h2, h3⟩ := ih (i + 1) b (a ++ [lat l i]) true
        refine ⟨by rw [h1, List.length_append, List.length_singleton]; omega, fun s hs => h2 s (by rcases hs with hs | hs <;> simp [hs]), fun j g1 g2 g3 => ?_⟩
        by_cases hj : j = i
        · subst hj; exact h2 _ (by simp)
        · exact h3 j (by omega) (by omega) g3
    · rename_i hc
      rw [not_or] at hc
      have hlt : Op.bytesLess (lat l i).path p = true := by simpa using hc.2
      have hne : (lat l i).path ≠ p := fun e => by rw [e, less_irr] at hlt; cases hlt
      obtain ⟨h1, h2, h3⟩ := ih (i + 1) (b ++ [lat l i]) a false
      refine ⟨by rw [h1, if_neg hne, List.length_append, List.length_singleton]; omega, fun s hs => h2 s (by rcases hs with hs | hs <;> simp [hs]), fun j g1 g2 g3 => ?_⟩
      by_cases hj : j = i
      · subst hj; exact h2 _ (by simp)
      · exact h3 j (by omega) (by omega) g3
theorem setM_length (p : List UInt8) (l w : List Slot) : (setM p l w).length = cntL p l l.length 0 + w.length := by
  have := (setL_keeps p l l.length 0 [] [] false).1
  simp only [List.length_nil] at this
  unfold setM
  rw [List.length_append, List.length_append]
  omega
theorem setM_mem {p : List UInt8} {l w : List Slot} {j : Nat} (hj : j < l.length) (hp : (lat l j).path ≠ p) : lat l j ∈ setM p l w := by
  have := (setL_keeps p l l.length 0 [] [] false).2.2 j (by omega) (by omega) hp
  unfold setM
  rcases this with h | h <;> simp [h]
theorem setM_with {p : List UInt8} {l w : List Slot} {s : Slot} (h : s ∈ w) : s ∈ setM p l w := by unfold setM; simp [h]
theorem idxF_neg (p : List UInt8) (l : List Slot) : ∀ (m i : Nat), idxF p l m i < 0 → ∀ j, i ≤ j → j < i + m → (lat l j).path = p := by
  intro m
  induction m with
  | zero => intro i _ j h1 h2; omega
  | succ m ih =>
    intro i h j h1 h2
    rw [idxF] at h
    split at h
    · omega
    · rename_i hp
      by_cases hj : j = i
      · subst hj; exact Classical.byContradiction hp
      · exact ih (i + 1) h j (by omega) (by omega)
theorem worse_zero {a b : Int} (h : worse a b = 0) (ha : 0 ≤ a) (hb : 0 ≤ b) : a = 0 ∧ b = 0 := by
  unfold worse at h
  split at h
  · rename_i hc
    rcases hc with hc | ⟨hc, hd⟩
    · exact ⟨hc, h⟩
    · omega
  · rename_i hc
    rw [not_or] at hc
    omega
theorem set_good {p : List UInt8} {l w : List Slot} (h : setE p l w = 0) : checkF (setM p l w) = 0 ∧ ∀ j, j < w.length → (lat w j).path = p := by
  have h1 := checkF_range l
  have h2 := checkF_range (setM p l w)
  have h3 : 0 ≤ worse (checkF l) 3 := by unfold worse; split <;> omega
  have h4 : 0 ≤ setN p l w := by unfold setN; split <;> omega
  obtain ⟨h5, h6⟩ := worse_zero h h4 h2.1
  refine ⟨h6, fun j hj => ?_⟩
  split at h5
  · have := (worse_zero h5 h1.1 (by omega)).2
    omega
  · rename_i hc
    rw [not_or] at hc
    exact idxF_neg p w w.length 0 (by omega) j (by omega) (by omega)
end Cod

/- The law IndexOne. -/
namespace Cod
open Go

theorem slotEq_refl (s : Slot) : slotEq s s = true := (slotEq_iff s s).2 rfl
theorem one_l0 {l w m : List Slot} {p : List UInt8} (hw : w.length ≤ 100000) (hm : m.length ≤ 1000000) (hf : ∀ j, j < w.length → findF m p (lat w j).stage = (lat w j, 0)) (k : List It) : ∀ (n i : Nat), i + n = w.length →
    X E [.tmp 8] (.c L.law17_IndexOne.x0 :: .lp [0, 1, 2, 9, 45, 46, 47] L.law17_IndexOne.x0 :: .blk 0 :: k) ⟨[(0, .lst (slots l) l.length), (1, .str p), (2, .lst (slots w) w.length), (9, .buf (.s 1000000 0) 0 0 m.length 37), (45, .lst (slots w) w.length), (46, .int .i64 w.length), (47, .int .i64 i)], [(.s 1000000 0, ⟨0, true, true, false, slots m⟩)]⟩ =
    X E [.tmp 8] k ⟨[(0, .lst (slots l) l.length), (1, .str p), (2, .lst (slots w) w.length), (9, .buf (.s 1000000 0) 0 0 m.length 37), (45, .lst (slots w) w.length), (46, .int .i64 w.length), (47, .int .i64 w.length), (48, .bool false)], [(.s 1000000 0, ⟨0, true, true, false, slots m⟩)]⟩ := by
  intro n
  induction n with
  | zero =>
    intro i hi
    obtain rfl : i = w.length := by omega
    rw [X_in L.law17_IndexOne.x0.eq_1]
    simp (dsimp := false) (disch := first | omega | (simp only [strs_length, List.length_set, List.length_replicate, words_length, ofBytes_length, List.length_append, List.length_cons, List.length_nil, List.length_take, List.length_drop, slots_length] <;> omega) | fail) only [go_sem, reduceIte, reduceCtorEq, Nat.reduceEqDiff, Nat.reduceAdd, Nat.reduceSub, Nat.reduceMul, Nat.reduceDiv, Nat.reduceMod, Nat.reduceBEq, Nat.reduceLeDiff, Nat.reduceLT, Int.reduceEq, Int.reduceNe, Int.reduceLT, Int.reduceLE, Int.reduceBEq, Int.reduceBNe, Int.reduceToNat, Int.reduceAdd, Int.reduceSub, Int.reduceMul, Int.reduceNeg, zer_bytes, app_ofBytes, ofBytes_length, flats_ofBytes, hards_ofBytes, leadss_ofBytes, refsOfs_ofBytes, rens_ofBytes, bytesOf_ofBytes, sub_ofBytes, take_ofBytes, drop_ofBytes, get_ofBytes, over_ofBytes_all, over_ofBytes, ofBytes_snoc, slot0, slot0z, cells_length, flats_cells, hards_cells, leadss_cells, refsOfs_cells, rens_cells, cells_0, cells_1, cells_2, cells_35, cells_36, cells_id, over_cells, sub_cells, take_cells, slots_length, flats_slots, hards_slots, leadss_slots, refsOfs_slots, rens_slots, sub_slots, slots_0, slots_1, slots_2, slots_35, slots_36, slots_snoc]
  | succ n ih =>
    intro i hi
    have hs := ih (i + 1) (by omega)
    simp only [Int.natCast_add, Int.cast_ofNat_Int] at hs
    have hg := go_find (l := m) (p := p) (n := (lat w i).stage) (by omega)
    rw [hf i (by omega)] at hg
    rw [X_in L.law17_IndexOne.x0.eq_1, ← hs]
    simp (dsimp := false) (disch := first | omega | (simp only [strs_length, List.length_set, List.length_replicate, words_length, ofBytes_length, List.length_append, List.length_cons, List.length_nil, List.length_take, List.length_drop, slots_length] <;> omega) | fail) only [go_sem, reduceIte, reduceCtorEq, Nat.reduceEqDiff, Nat.reduceAdd, Nat.reduceSub, Nat.reduceMul, Nat.reduceDiv, Nat.reduceMod, Nat.reduceBEq, Nat.reduceLeDiff, Nat.reduceLT, Int.reduceEq, Int.reduceNe, Int.reduceLT, Int.reduceLE, Int.reduceBEq, Int.reduceBNe, Int.reduceToNat, Int.reduceAdd, Int.reduceSub, Int.reduceMul, Int.reduceNeg, zer_bytes, app_ofBytes, ofBytes_length, flats_ofBytes, hards_ofBytes, leadss_ofBytes, refsOfs_ofBytes, rens_ofBytes, bytesOf_ofBytes, sub_ofBytes, take_ofBytes, drop_ofBytes, get_ofBytes, over_ofBytes_all, over_ofBytes, ofBytes_snoc, slot0, slot0z, cells_length, flats_cells, hards_cells, leadss_cells, refsOfs_cells, rens_cells, cells_0, cells_1, cells_2, cells_35, cells_36, cells_id, over_cells, sub_cells, take_cells, slots_length, flats_slots, hards_slots, leadss_slots, refsOfs_slots, rens_slots, sub_slots, slots_0, slots_1, slots_2, slots_35, slots_36, slots_snoc, sub_sl, hg, eqCells_slots, slotEq_refl, Option.map_some, Bool.not_true]
theorem one_l1 {l w m : List Slot} {p : List UInt8} (hl : l.length ≤ 100000) (hm : m.length ≤ 1000000) (hf : ∀ j, j < l.length → (lat l j).path ≠ p → findF m (lat l j).path (lat l j).stage = (lat l j, 0)) (k : List It) : ∀ (n i c : Nat), i + n = l.length → c ≤ i →
    X E [.tmp 8] (.c L.law17_IndexOne.x1 :: .lp [1, 2, 9, 15, 67, 68, 69] L.law17_IndexOne.x1 :: .blk 2 :: k) ⟨[(1, .str p), (2, .lst (slots w) w.length), (9, .buf (.s 1000000 0) 0 0 m.length 37), (15, .int .i64 c), (67, .lst (slots l) l.length), (68, .int .i64 l.length), (69, .int .i64 i)], [(.s 1000000 0, ⟨0, true, true, false, slots m⟩)]⟩ =
    X E [.tmp 8] k ⟨[(1, .str p), (2, .lst (slots w) w.length), (9, .buf (.s 1000000 0) 0 0 m.length 37), (15, .int .i64 ((c + cntL p l n i : Nat) : Int)), (67, .lst (slots l) l.length), (68, .int .i64 l.length), (69, .int .i64 l.length), (70, .bool false)], [(.s 1000000 0, ⟨0, true, true, false, slots m⟩)]⟩ := by
  intro n
  induction n with
  | zero =>
    intro i c hi hc
    obtain rfl : i = l.length := by omega
    rw [X_in L.law17_IndexOne.x1.eq_1, cntL]
    simp (dsimp := false) (disch := first | omega | (simp only [strs_length, List.length_set, List.length_replicate, words_length, ofBytes_length, List.length_append, List.length_cons, List.length_nil, List.length_take, List.length_drop, slots_length] <;> omega) | fail) only [go_sem, reduceIte, reduceCtorEq, Nat.reduceEqDiff, Nat.reduceAdd, Nat.reduceSub, Nat.reduceMul, Nat.reduceDiv, Nat.reduceMod, Nat.reduceBEq, Nat.reduceLeDiff, Nat.reduceLT, Int.reduceEq, Int.reduceNe, Int.reduceLT, Int.reduceLE, Int.reduceBEq, Int.reduceBNe, Int.reduceToNat, Int.reduceAdd, Int.reduceSub, Int.reduceMul, Int.reduceNeg, zer_bytes, app_ofBytes, ofBytes_length, flats_ofBytes, hards_ofBytes, leadss_ofBytes, refsOfs_ofBytes, rens_ofBytes, bytesOf_ofBytes, sub_ofBytes, take_ofBytes, drop_ofBytes, get_ofBytes, over_ofBytes_all, over_ofBytes, ofBytes_snoc, slot0, slot0z, cells_length, flats_cells, hards_cells, leadss_cells, refsOfs_cells, rens_cells, cells_0, cells_1, cells_2, cells_35, cells_36, cells_id, over_cells, sub_cells, take_cells, slots_length, flats_slots, hards_slots, leadss_slots, refsOfs_slots, rens_slots, sub_slots, slots_0, slots_1, slots_2, slots_35, slots_36, slots_snoc, Nat.add_zero]
  | succ n ih =>
    intro i c hi hc
    rw [X_in L.law17_IndexOne.x1.eq_1, cntL]
    by_cases hp : (lat l i).path = p
    · have hs := ih (i + 1) c (by omega) (by omega)
      simp only [Int.natCast_add, Int.cast_ofNat_Int] at hs
      rw [if_pos hp, Nat.zero_add]
      simp only [Int.natCast_add, Int.cast_ofNat_Int]
      rw [← hs]
      simp (dsimp := false) (disch := first | omega | (simp only [strs_length, List.length_set, List.length_replicate, words_length, ofBytes_length, List.length_append, List.length_cons, List.length_nil, List.length_take, List.length_drop, slots_length] <;> omega) | fail) only [go_sem, reduceIte, reduceCtorEq, Nat.reduceEqDiff, Nat.reduceAdd, Nat.reduceSub, Nat.reduceMul, Nat.reduceDiv, Nat.reduceMod, Nat.reduceBEq, Nat.reduceLeDiff, Nat.reduceLT, Int.reduceEq, Int.reduceNe, Int.reduceLT, Int.reduceLE, Int.reduceBEq, Int.reduceBNe, Int.reduceToNat, Int.reduceAdd, Int.reduceSub, Int.reduceMul, Int.reduceNeg, zer_bytes, app_ofBytes, ofBytes_length, flats_ofBytes, hards_ofBytes, leadss_ofBytes, refsOfs_ofBytes, rens_ofBytes, bytesOf_ofBytes, sub_ofBytes, take_ofBytes, drop_ofBytes, get_ofBytes, over_ofBytes_all, over_ofBytes, ofBytes_snoc, slot0, slot0z, cells_length, flats_cells, hards_cells, leadss_cells, refsOfs_cells, rens_cells, cells_0, cells_1, cells_2, cells_35, cells_36, cells_id, over_cells, sub_cells, take_cells, slots_length, flats_slots, hards_slots, leadss_slots, refsOfs_slots, rens_slots, sub_slots, slots_0, slots_1, slots_2, slots_35, slots_36, slots_snoc, hp]
    · have hs := ih (i + 1) (c + 1) (by omega) (by omega)
      have hg := go_find (l := m) (p := (lat l i).path) (n := (lat l i).stage) (by omega)
      rw [hf i (by omega) hp] at hg
      have hq : ((lat l i).path == p) = false := by simp [hp]
      rw [if_neg hp, ← Nat.add_assoc]
      simp only [Int.natCast_add, Int.cast_ofNat_Int] at hs ⊢
      rw [← hs]
      simp (dsimp := false) (disch := first | omega | (simp only [strs_length, List.length_set, List.length_replicate, words_length, ofBytes_length, List.length_append, List.length_cons, List.length_nil, List.length_take, List.length_drop, slots_length] <;> omega) | fail) only [go_sem, reduceIte, reduceCtorEq, Nat.reduceEqDiff, Nat.reduceAdd, Nat.reduceSub, Nat.reduceMul, Nat.reduceDiv, Nat.reduceMod, Nat.reduceBEq, Nat.reduceLeDiff, Nat.reduceLT, Int.reduceEq, Int.reduceNe, Int.reduceLT, Int.reduceLE, Int.reduceBEq, Int.reduceBNe, Int.reduceToNat, Int.reduceAdd, Int.reduceSub, Int.reduceMul, Int.reduceNeg, zer_bytes, app_ofBytes, ofBytes_length, flats_ofBytes, hards_ofBytes, leadss_ofBytes, refsOfs_ofBytes, rens_ofBytes, bytesOf_ofBytes, sub_ofBytes, take_ofBytes, drop_ofBytes, get_ofBytes, over_ofBytes_all, over_ofBytes, ofBytes_snoc, slot0, slot0z, cells_length, flats_cells, hards_cells, leadss_cells, refsOfs_cells, rens_cells, cells_0, cells_1, cells_2, cells_35, cells_36, cells_id, over_cells, sub_cells, take_cells, slots_length, flats_slots, hards_slots, leadss_slots, refsOfs_slots, rens_slots, sub_slots, slots_0, slots_1, slots_2, slots_35, slots_36, slots_snoc, hq, sub_sl, hg, eqCells_slots, slotEq_refl, Option.map_some, Bool.not_true]
theorem go_indexOne {l w : List Slot} {p : List UInt8} {st : Int} :
    S E F.law17_IndexOne [.lst (slots l) l.length, .str p, .lst (slots w) w.length, .int .i64 st] [] = some (.bool true, []) := by
  rw [S_of fn_law17_IndexOne rfl rfl]
  by_cases h1 : 100 < l.length
  · simp (dsimp := false) (disch := first | omega | (simp only [strs_length, List.length_set, List.length_replicate, words_length, ofBytes_length, List.length_append, List.length_cons, List.length_nil, List.length_take, List.length_drop, slots_length] <;> omega) | fail) only [L.law17_IndexOne, go_sem, reduceIte, reduceCtorEq, Nat.reduceEqDiff, Nat.reduceAdd, Nat.reduceSub, Nat.reduceMul, Nat.reduceDiv, Nat.reduceMod, Nat.reduceBEq, Nat.reduceLeDiff, Nat.reduceLT, Int.reduceEq, Int.reduceNe, Int.reduceLT, Int.reduceLE, Int.reduceBEq, Int.reduceBNe, Int.reduceToNat, Int.reduceAdd, Int.reduceSub, Int.reduceMul, Int.reduceNeg, zer_bytes, app_ofBytes, ofBytes_length, flats_ofBytes, hards_ofBytes, leadss_ofBytes, refsOfs_ofBytes, rens_ofBytes, bytesOf_ofBytes, sub_ofBytes, take_ofBytes, drop_ofBytes, get_ofBytes, over_ofBytes_all, over_ofBytes, ofBytes_snoc, slot0, slot0z, cells_length, flats_cells, hards_cells, leadss_cells, refsOfs_cells, rens_cells, cells_0, cells_1, cells_2, cells_35, cells_36, cells_id, over_cells, sub_cells, take_cells, slots_length, flats_slots, hards_slots, leadss_slots, refsOfs_slots, rens_slots, sub_slots, slots_0, slots_1, slots_2, slots_35, slots_36, slots_snoc, go_awake, h1, Bool.not_true]
  · by_cases h2 : 10 < w.length
    · simp (dsimp := false) (disch := first | omega | (simp only [strs_length, List.length_set, List.length_replicate, words_length, ofBytes_length, List.length_append, List.length_cons, List.length_nil, List.length_take, List.length_drop, slots_length] <;> omega) | fail) only [L.law17_IndexOne, go_sem, reduceIte, reduceCtorEq, Nat.reduceEqDiff, Nat.reduceAdd, Nat.reduceSub, Nat.reduceMul, Nat.reduceDiv, Nat.reduceMod, Nat.reduceBEq, Nat.reduceLeDiff, Nat.reduceLT, Int.reduceEq, Int.reduceNe, Int.reduceLT, Int.reduceLE, Int.reduceBEq, Int.reduceBNe, Int.reduceToNat, Int.reduceAdd, Int.reduceSub, Int.reduceMul, Int.reduceNeg, zer_bytes, app_ofBytes, ofBytes_length, flats_ofBytes, hards_ofBytes, leadss_ofBytes, refsOfs_ofBytes, rens_ofBytes, bytesOf_ofBytes, sub_ofBytes, take_ofBytes, drop_ofBytes, get_ofBytes, over_ofBytes_all, over_ofBytes, ofBytes_snoc, slot0, slot0z, cells_length, flats_cells, hards_cells, leadss_cells, refsOfs_cells, rens_cells, cells_0, cells_1, cells_2, cells_35, cells_36, cells_id, over_cells, sub_cells, take_cells, slots_length, flats_slots, hards_slots, leadss_slots, refsOfs_slots, rens_slots, sub_slots, slots_0, slots_1, slots_2, slots_35, slots_36, slots_snoc, go_awake, h1, h2, Bool.not_true]
    · have hset := go_idxSet (l := l) (w := w) (p := p) (by omega) (by omega)
      by_cases he : setE p l w = 0
      · rw [if_pos he] at hset
        obtain ⟨hc, hp⟩ := set_good he
        have hlen := setM_length p l w
        have hcnt : cntL p l l.length 0 ≤ l.length := by
          have := (setL_keeps p l l.length 0 [] [] false).1
          have h4 := setL_length p l l.length 0 [] [] false
          simp only [List.length_nil] at this h4
          omega
        have hk := go_check (l := setM p l w) (by omega)
        rw [hc] at hk
        have hf0 : ∀ j, j < w.length → findF (setM p l w) p (lat w j).stage = (lat w j, 0) := fun j hj => by
          have hmem : lat w j ∈ w := by
            unfold lat; rw [List.getD_eq_getElem?_getD, List.getElem?_eq_getElem hj]; exact List.getElem_mem hj
          have := find_mem hc (setM_with (p := p) (l := l) hmem)
          rwa [hp j hj] at this
        have hf1 : ∀ j, j < l.length → (lat l j).path ≠ p → findF (setM p l w) (lat l j).path (lat l j).stage = (lat l j, 0) := fun j hj hne => find_mem hc (setM_mem hj hne)
        generalize setM p l w = m at *
        have h0 := one_l0 (l := l) (p := p) (by omega) (by omega) hf0 [.c L.law17_IndexOne.r0] w.length 0 (by omega)
        have h3 := one_l1 (w := w) (by omega) (by omega) hf1 [.c L.law17_IndexOne.r1] l.length 0 0 (by omega) (by omega)
        simp only [Int.cast_ofNat_Int, Nat.zero_add] at h0 h3
        have hl2 : (m.length : Int) = (cntL p l l.length 0 : Int) + w.length := by omega
        generalize cntL p l l.length 0 = c at *
        simp (dsimp := false) (disch := first | omega | (simp only [strs_length, List.length_set, List.length_replicate, words_length, ofBytes_length, List.length_append, List.length_cons, List.length_nil, List.length_take, List.length_drop, slots_length] <;> omega) | fail) only [L.law17_IndexOne, go_sem, reduceIte, reduceCtorEq, Nat.reduceEqDiff, Nat.reduceAdd, Nat.reduceSub, Nat.reduceMul, Nat.reduceDiv, Nat.reduceMod, Nat.reduceBEq, Nat.reduceLeDiff, Nat.reduceLT, Int.reduceEq, Int.reduceNe, Int.reduceLT, Int.reduceLE, Int.reduceBEq, Int.reduceBNe, Int.reduceToNat, Int.reduceAdd, Int.reduceSub, Int.reduceMul, Int.reduceNeg, zer_bytes, app_ofBytes, ofBytes_length, flats_ofBytes, hards_ofBytes, leadss_ofBytes, refsOfs_ofBytes, rens_ofBytes, bytesOf_ofBytes, sub_ofBytes, take_ofBytes, drop_ofBytes, get_ofBytes, over_ofBytes_all, over_ofBytes, ofBytes_snoc, slot0, slot0z, cells_length, flats_cells, hards_cells, leadss_cells, refsOfs_cells, rens_cells, cells_0, cells_1, cells_2, cells_35, cells_36, cells_id, over_cells, sub_cells, take_cells, slots_length, flats_slots, hards_slots, leadss_slots, refsOfs_slots, rens_slots, sub_slots, slots_0, slots_1, slots_2, slots_35, slots_36, slots_snoc, go_awake, h1, h2, Bool.not_true, hset, he, hk, sub_sl, h0]
        simp (dsimp := false) (disch := first | omega | (simp only [strs_length, List.length_set, List.length_replicate, words_length, ofBytes_length, List.length_append, List.length_cons, List.length_nil, List.length_take, List.length_drop, slots_length] <;> omega) | fail) only [L.law17_IndexOne.r0, go_sem, reduceIte, reduceCtorEq, Nat.reduceEqDiff, Nat.reduceAdd, Nat.reduceSub, Nat.reduceMul, Nat.reduceDiv, Nat.reduceMod, Nat.reduceBEq, Nat.reduceLeDiff, Nat.reduceLT, Int.reduceEq, Int.reduceNe, Int.reduceLT, Int.reduceLE, Int.reduceBEq, Int.reduceBNe, Int.reduceToNat, Int.reduceAdd, Int.reduceSub, Int.reduceMul, Int.reduceNeg, zer_bytes, app_ofBytes, ofBytes_length, flats_ofBytes, hards_ofBytes, leadss_ofBytes, refsOfs_ofBytes, rens_ofBytes, bytesOf_ofBytes, sub_ofBytes, take_ofBytes, drop_ofBytes, get_ofBytes, over_ofBytes_all, over_ofBytes, ofBytes_snoc, slot0, slot0z, cells_length, flats_cells, hards_cells, leadss_cells, refsOfs_cells, rens_cells, cells_0, cells_1, cells_2, cells_35, cells_36, cells_id, over_cells, sub_cells, take_cells, slots_length, flats_slots, hards_slots, leadss_slots, refsOfs_slots, rens_slots, sub_slots, slots_0, slots_1, slots_2, slots_35, slots_36, slots_snoc, h3]
        simp (dsimp := false) (disch := first | omega | (simp only [strs_length, List.length_set, List.length_replicate, words_length, ofBytes_length, List.length_append, List.length_cons, List.length_nil, List.length_take, List.length_drop, slots_length] <;> omega) | fail) only [L.law17_IndexOne.r1, go_sem, reduceIte, reduceCtorEq, Nat.reduceEqDiff, Nat.reduceAdd, Nat.reduceSub, Nat.reduceMul, Nat.reduceDiv, Nat.reduceMod, Nat.reduceBEq, Nat.reduceLeDiff, Nat.reduceLT, Int.reduceEq, Int.reduceNe, Int.reduceLT, Int.reduceLE, Int.reduceBEq, Int.reduceBNe, Int.reduceToNat, Int.reduceAdd, Int.reduceSub, Int.reduceMul, Int.reduceNeg, zer_bytes, app_ofBytes, ofBytes_length, flats_ofBytes, hards_ofBytes, leadss_ofBytes, refsOfs_ofBytes, rens_ofBytes, bytesOf_ofBytes, sub_ofBytes, take_ofBytes, drop_ofBytes, get_ofBytes, over_ofBytes_all, over_ofBytes, ofBytes_snoc, slot0, slot0z, cells_length, flats_cells, hards_cells, leadss_cells, refsOfs_cells, rens_cells, cells_0, cells_1, cells_2, cells_35, cells_36, cells_id, over_cells, sub_cells, take_cells, slots_length, flats_slots, hards_slots, leadss_slots, refsOfs_slots, rens_slots, sub_slots, slots_0, slots_1, slots_2, slots_35, slots_36, slots_snoc, hl2]
      · rw [if_neg he] at hset
        simp (dsimp := false) (disch := first | omega | (simp only [strs_length, List.length_set, List.length_replicate, words_length, ofBytes_length, List.length_append, List.length_cons, List.length_nil, List.length_take, List.length_drop, slots_length] <;> omega) | fail) only [L.law17_IndexOne, go_sem, reduceIte, reduceCtorEq, Nat.reduceEqDiff, Nat.reduceAdd, Nat.reduceSub, Nat.reduceMul, Nat.reduceDiv, Nat.reduceMod, Nat.reduceBEq, Nat.reduceLeDiff, Nat.reduceLT, Int.reduceEq, Int.reduceNe, Int.reduceLT, Int.reduceLE, Int.reduceBEq, Int.reduceBNe, Int.reduceToNat, Int.reduceAdd, Int.reduceSub, Int.reduceMul, Int.reduceNeg, zer_bytes, app_ofBytes, ofBytes_length, flats_ofBytes, hards_ofBytes, leadss_ofBytes, refsOfs_ofBytes, rens_ofBytes, bytesOf_ofBytes, sub_ofBytes, take_ofBytes, drop_ofBytes, get_ofBytes, over_ofBytes_all, over_ofBytes, ofBytes_snoc, slot0, slot0z, cells_length, flats_cells, hards_cells, leadss_cells, refsOfs_cells, rens_cells, cells_0, cells_1, cells_2, cells_35, cells_36, cells_id, over_cells, sub_cells, take_cells, slots_length, flats_slots, hards_slots, leadss_slots, refsOfs_slots, rens_slots, sub_slots, slots_0, slots_1, slots_2, slots_35, slots_36, slots_snoc, go_awake, h1, h2, Bool.not_true, hset, he]
end Cod


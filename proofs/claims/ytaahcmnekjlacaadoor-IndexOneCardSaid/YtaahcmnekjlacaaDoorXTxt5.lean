/- The law's own functions. -/
import Derived.Test.YtaahcmnekjlacaaDoorXTxt4
set_option linter.unusedSimpArgs false
set_option linter.unusedVariables false
namespace Cod
open Go

def aw : Slot := ⟨[97], 0, 33188, (List.replicate 32 0).set 0 1, 5, 9, rfl⟩
theorem aw_check : checkF [aw] = 0 := by decide +kernel
theorem aw_len : (putF [aw]).length = 124 := by
  rw [putF, List.length_append, shaF_length]
  rfl
theorem go_awake : S E F.law17_awake [] [] = some (.bool true, []) := by
  have hp := go_put (l := [aw]) (by simp)
  rw [if_pos aw_check, aw_len, aw_check] at hp
  simp only [List.length_singleton] at hp
  have hw : ∀ h, Slot.cells ⟨[97], (default : Slot).stage, 33188, (List.replicate 32 0).set 0 (UInt8.ofNat 1), 5, 9, h⟩ = slots [aw] := fun _ => rfl
  have hq := go_parse (p := putF [aw]) (n := 124) aw_len.symm (by rw [aw_len]; omega)
  rw [parse_put aw_check] at hq
  simp only [List.length_singleton] at hq
  have hs := go_slotsame (a := [aw]) (b := [aw]) (n := 1) (m := 1) rfl rfl (by simp) (by simp)
  have e1 : sub (putF [aw]) 0 124 = putF [aw] := sub_full (by rw [aw_len]; omega)
  have e2 : sub (slots [aw]) 0 37 = slots [aw] := rfl
  rw [S_of fn_law17_awake rfl rfl]
  simp (dsimp := false) (disch := first | omega | (simp only [strs_length, List.length_set, List.length_replicate, words_length, ofBytes_length, List.length_append, List.length_cons, List.length_nil, List.length_take, List.length_drop] <;> omega) | fail) only [L.law17_awake, go_sem, reduceIte, reduceCtorEq, Nat.reduceEqDiff, Nat.reduceAdd, Nat.reduceSub, Nat.reduceMul, Nat.reduceDiv, Nat.reduceMod, Nat.reduceBEq, Nat.reduceLeDiff, Nat.reduceLT, Int.reduceEq, Int.reduceNe, Int.reduceLT, Int.reduceLE, Int.reduceBEq, Int.reduceBNe, Int.reduceToNat, Int.reduceAdd, Int.reduceSub, Int.reduceMul, Int.reduceNeg, zer_bytes, app_ofBytes, ofBytes_length, flats_ofBytes, hards_ofBytes, leadss_ofBytes, refsOfs_ofBytes, rens_ofBytes, bytesOf_ofBytes, sub_ofBytes, take_ofBytes, drop_ofBytes, get_ofBytes, over_ofBytes_all, over_ofBytes, ofBytes_snoc, slot0, slot0z, cells_length, flats_cells, hards_cells, leadss_cells, refsOfs_cells, rens_cells, cells_0, cells_1, cells_2, cells_35, cells_36, cells_id, over_cells, sub_cells, take_cells, slots_length, flats_slots, hards_slots, leadss_slots, refsOfs_slots, rens_slots, sub_slots, slots_0, slots_1, slots_2, slots_35, slots_36, slots_snoc, over_c0, over_c1, over_c2, over_c3, over_c35, over_c36]
  simp only [hw]
  simp (dsimp := false) (disch := first | omega | (simp only [strs_length, List.length_set, List.length_replicate, words_length, ofBytes_length, List.length_append, List.length_cons, List.length_nil, List.length_take, List.length_drop] <;> omega) | fail) only [go_sem, reduceIte, reduceCtorEq, Nat.reduceEqDiff, Nat.reduceAdd, Nat.reduceSub, Nat.reduceMul, Nat.reduceDiv, Nat.reduceMod, Nat.reduceBEq, Nat.reduceLeDiff, Nat.reduceLT, Int.reduceEq, Int.reduceNe, Int.reduceLT, Int.reduceLE, Int.reduceBEq, Int.reduceBNe, Int.reduceToNat, Int.reduceAdd, Int.reduceSub, Int.reduceMul, Int.reduceNeg, zer_bytes, app_ofBytes, ofBytes_length, flats_ofBytes, hards_ofBytes, leadss_ofBytes, refsOfs_ofBytes, rens_ofBytes, bytesOf_ofBytes, sub_ofBytes, take_ofBytes, drop_ofBytes, get_ofBytes, over_ofBytes_all, over_ofBytes, ofBytes_snoc, slot0, slot0z, cells_length, flats_cells, hards_cells, leadss_cells, refsOfs_cells, rens_cells, cells_0, cells_1, cells_2, cells_35, cells_36, cells_id, over_cells, sub_cells, take_cells, slots_length, flats_slots, hards_slots, leadss_slots, refsOfs_slots, rens_slots, sub_slots, slots_0, slots_1, slots_2, slots_35, slots_36, slots_snoc, hw, hp, hq, hs, decide_true, aw_len, e1, e2]
end Cod

/- An index is parsed, by the reference: numbers, a slot. -/
namespace Cod
open Go

end Cod

/- An index is parsed, by the reference: the whole; it answers as Parse does. -/
namespace Cod
open Go

end Cod

/- The law IndexReads. -/
namespace Cod
open Go

end Cod

/- The law IndexFixed. -/
namespace Cod
open Go

theorem rep_slots (n : Nat) : rep (default : Slot).cells n = slots (List.replicate n default) := by
  induction n with
  | zero => rfl
  | succ n ih => rw [rep, ih, List.replicate_succ]; rfl
theorem slots_one (a : Slot) : slots [a] = a.cells := by simp [slots]
end Cod

/- index.Set, its parts. -/
namespace Cod
open Go

theorem view1_ref {s : Site} {g off : Nat} : view1 (.ref s g off) = (look s g).bindW (viewR off s) ⟨⟩ := rfl
theorem view_clo {f : Nat} {cs : List AV} : view (.clo f cs) = (views cs).bindW (fun p => .ret (.clo f p.1, p.2)) ⟨⟩ := rfl
attribute [go_sem] view_clo view1_ref
theorem app_slots (a b : List Slot) : slots a ++ slots b = slots (a ++ b) := (slots_append a b).symm
theorem sub_00 (l : List AV) : sub l 0 0 = slots [] := by simp [sub, slots]
theorem appV_nilsL {t : Site} {sz bytes m : Nat} {vs : List AV} {u : Ups} {ss : List Site} : appV t sz bytes m vs u ss .nils = if m * bytes ≤ 140737488355328 then mkBuf t vs m sz u else .fail := rfl
theorem appzV_intL {t : Site} {sz bytes : Nat} {zero : List AV} {s : AV} {m : Int} : appzV t sz bytes zero s (.int .i64 m) = if 0 ≤ m ∧ m ≤ 140737488355328 then appV t sz bytes m.toNat (rep zero m.toNat) [] [] s else .fail := rfl
theorem go_setfn {s : Slot} {p : List UInt8} : S E F.index_Set_fn1 [.agg s.cells, .fp [.str p] 0] [] = some (.bool (decide (s.path ≠ p)), []) := by
  rw [S_of fn_index_Set_fn1 rfl rfl]
  by_cases h : s.path = p
  · simp (dsimp := false) (disch := first | omega | (simp only [strs_length, List.length_set, List.length_replicate, words_length, ofBytes_length, List.length_append, List.length_cons, List.length_nil, List.length_take, List.length_drop, slots_length] <;> omega) | fail) only [L.index_Set_fn1, go_sem, reduceIte, reduceCtorEq, Nat.reduceEqDiff, Nat.reduceAdd, Nat.reduceSub, Nat.reduceMul, Nat.reduceDiv, Nat.reduceMod, Nat.reduceBEq, Nat.reduceLeDiff, Nat.reduceLT, Int.reduceEq, Int.reduceNe, Int.reduceLT, Int.reduceLE, Int.reduceBEq, Int.reduceBNe, Int.reduceToNat, Int.reduceAdd, Int.reduceSub, Int.reduceMul, Int.reduceNeg, zer_bytes, app_ofBytes, ofBytes_length, flats_ofBytes, hards_ofBytes, leadss_ofBytes, refsOfs_ofBytes, rens_ofBytes, bytesOf_ofBytes, sub_ofBytes, take_ofBytes, drop_ofBytes, get_ofBytes, over_ofBytes_all, over_ofBytes, ofBytes_snoc, slot0, slot0z, cells_length, flats_cells, hards_cells, leadss_cells, refsOfs_cells, rens_cells, cells_0, cells_1, cells_2, cells_35, cells_36, cells_id, over_cells, sub_cells, take_cells, slots_length, flats_slots, hards_slots, leadss_slots, refsOfs_slots, rens_slots, sub_slots, slots_0, slots_1, slots_2, slots_35, slots_36, slots_snoc, h, ne_eq, not_true_eq_false, decide_false]
  · have hb : (s.path == p) = false := by simp [h]
    simp (dsimp := false) (disch := first | omega | (simp only [strs_length, List.length_set, List.length_replicate, words_length, ofBytes_length, List.length_append, List.length_cons, List.length_nil, List.length_take, List.length_drop, slots_length] <;> omega) | fail) only [L.index_Set_fn1, go_sem, reduceIte, reduceCtorEq, Nat.reduceEqDiff, Nat.reduceAdd, Nat.reduceSub, Nat.reduceMul, Nat.reduceDiv, Nat.reduceMod, Nat.reduceBEq, Nat.reduceLeDiff, Nat.reduceLT, Int.reduceEq, Int.reduceNe, Int.reduceLT, Int.reduceLE, Int.reduceBEq, Int.reduceBNe, Int.reduceToNat, Int.reduceAdd, Int.reduceSub, Int.reduceMul, Int.reduceNeg, zer_bytes, app_ofBytes, ofBytes_length, flats_ofBytes, hards_ofBytes, leadss_ofBytes, refsOfs_ofBytes, rens_ofBytes, bytesOf_ofBytes, sub_ofBytes, take_ofBytes, drop_ofBytes, get_ofBytes, over_ofBytes_all, over_ofBytes, ofBytes_snoc, slot0, slot0z, cells_length, flats_cells, hards_cells, leadss_cells, refsOfs_cells, rens_cells, cells_0, cells_1, cells_2, cells_35, cells_36, cells_id, over_cells, sub_cells, take_cells, slots_length, flats_slots, hards_slots, leadss_slots, refsOfs_slots, rens_slots, sub_slots, slots_0, slots_1, slots_2, slots_35, slots_36, slots_snoc, h, hb, ne_eq, not_false_eq_true, decide_true, Bool.not_false]
def idxF (p : List UInt8) (l : List Slot) : Nat → Nat → Int
  | 0, _ => -1
  | m + 1, i => if (lat l i).path ≠ p then (i : Int) else idxF p l m (i + 1)
theorem if_l0 {l : List Slot} {p : List UInt8} (hl : l.length ≤ 1000000000000) : ∀ (m i : Nat), i + m = l.length →
    X E [.tmp 4] (.c L.slices_IndexFunc_Sapi_Slot_api_Slot.x0 :: .lp [0, 1, 7, 8] L.slices_IndexFunc_Sapi_Slot_api_Slot.x0 :: .blk 0 :: [.c L.slices_IndexFunc_Sapi_Slot_api_Slot.r0]) ⟨[(0, .lst (slots l) l.length), (1, .clo F.index_Set_fn1 [.fp [.str p] 0]), (7, .int .i64 l.length), (8, .int .i64 i)], []⟩ =
    some (.int .i64 (idxF p l m i), []) := by
  intro m
  induction m with
  | zero =>
    intro i hi
    obtain rfl : i = l.length := by omega
    rw [X_in L.slices_IndexFunc_Sapi_Slot_api_Slot.x0.eq_1, idxF]
    simp (dsimp := false) (disch := first | omega | (simp only [strs_length, List.length_set, List.length_replicate, words_length, ofBytes_length, List.length_append, List.length_cons, List.length_nil, List.length_take, List.length_drop, slots_length] <;> omega) | fail) only [go_sem, reduceIte, reduceCtorEq, Nat.reduceEqDiff, Nat.reduceAdd, Nat.reduceSub, Nat.reduceMul, Nat.reduceDiv, Nat.reduceMod, Nat.reduceBEq, Nat.reduceLeDiff, Nat.reduceLT, Int.reduceEq, Int.reduceNe, Int.reduceLT, Int.reduceLE, Int.reduceBEq, Int.reduceBNe, Int.reduceToNat, Int.reduceAdd, Int.reduceSub, Int.reduceMul, Int.reduceNeg, slot0, slot0z, cells_length, flats_cells, hards_cells, leadss_cells, refsOfs_cells, rens_cells, cells_0, cells_1, cells_2, cells_35, cells_36, cells_id, over_cells, sub_cells, take_cells, slots_length, flats_slots, hards_slots, leadss_slots, refsOfs_slots, rens_slots, sub_slots, slots_0, slots_1, slots_2, slots_35, slots_36, slots_snoc, L.slices_IndexFunc_Sapi_Slot_api_Slot.r0]
  | succ m ih =>
    intro i hi
    have hs := ih (i + 1) (by omega)
    simp only [Int.natCast_add, Int.cast_ofNat_Int] at hs
    rw [X_in L.slices_IndexFunc_Sapi_Slot_api_Slot.x0.eq_1, idxF]
    by_cases h : (lat l i).path = p
    · rw [if_neg (by simp [h]), ← hs]
      simp (dsimp := false) (disch := first | omega | (simp only [strs_length, List.length_set, List.length_replicate, words_length, ofBytes_length, List.length_append, List.length_cons, List.length_nil, List.length_take, List.length_drop, slots_length] <;> omega) | fail) only [go_sem, reduceIte, reduceCtorEq, Nat.reduceEqDiff, Nat.reduceAdd, Nat.reduceSub, Nat.reduceMul, Nat.reduceDiv, Nat.reduceMod, Nat.reduceBEq, Nat.reduceLeDiff, Nat.reduceLT, Int.reduceEq, Int.reduceNe, Int.reduceLT, Int.reduceLE, Int.reduceBEq, Int.reduceBNe, Int.reduceToNat, Int.reduceAdd, Int.reduceSub, Int.reduceMul, Int.reduceNeg, slot0, slot0z, cells_length, flats_cells, hards_cells, leadss_cells, refsOfs_cells, rens_cells, cells_0, cells_1, cells_2, cells_35, cells_36, cells_id, over_cells, sub_cells, take_cells, slots_length, flats_slots, hards_slots, leadss_slots, refsOfs_slots, rens_slots, sub_slots, slots_0, slots_1, slots_2, slots_35, slots_36, slots_snoc, go_setfn, h, ne_eq, not_true_eq_false, decide_false]
    · rw [if_pos h]
      simp (dsimp := false) (disch := first | omega | (simp only [strs_length, List.length_set, List.length_replicate, words_length, ofBytes_length, List.length_append, List.length_cons, List.length_nil, List.length_take, List.length_drop, slots_length] <;> omega) | fail) only [go_sem, reduceIte, reduceCtorEq, Nat.reduceEqDiff, Nat.reduceAdd, Nat.reduceSub, Nat.reduceMul, Nat.reduceDiv, Nat.reduceMod, Nat.reduceBEq, Nat.reduceLeDiff, Nat.reduceLT, Int.reduceEq, Int.reduceNe, Int.reduceLT, Int.reduceLE, Int.reduceBEq, Int.reduceBNe, Int.reduceToNat, Int.reduceAdd, Int.reduceSub, Int.reduceMul, Int.reduceNeg, slot0, slot0z, cells_length, flats_cells, hards_cells, leadss_cells, refsOfs_cells, rens_cells, cells_0, cells_1, cells_2, cells_35, cells_36, cells_id, over_cells, sub_cells, take_cells, slots_length, flats_slots, hards_slots, leadss_slots, refsOfs_slots, rens_slots, sub_slots, slots_0, slots_1, slots_2, slots_35, slots_36, slots_snoc, go_setfn, h, ne_eq, not_false_eq_true, decide_true]
theorem go_containsF {l : List Slot} {p : List UInt8} (hl : l.length ≤ 1000000000000) : S E F.slices_ContainsFunc_Sapi_Slot_api_Slot [.lst (slots l) l.length, .clo F.index_Set_fn1 [.fp [.str p] 0]] [] = some (.bool (decide (0 ≤ idxF p l l.length 0)), []) := by
  have h0 := if_l0 (p := p) hl l.length 0 (by omega)
  simp only [Int.cast_ofNat_Int] at h0
  have h1 : S E F.slices_IndexFunc_Sapi_Slot_api_Slot [.lst (slots l) l.length, .clo F.index_Set_fn1 [.fp [.str p] 0]] [] = some (.int .i64 (idxF p l l.length 0), []) := by
    rw [S_of fn_slices_IndexFunc_Sapi_Slot_api_Slot rfl rfl]
    simp (dsimp := false) (disch := first | omega | (simp only [strs_length, List.length_set, List.length_replicate, words_length, ofBytes_length, List.length_append, List.length_cons, List.length_nil, List.length_take, List.length_drop, slots_length] <;> omega) | fail) only [L.slices_IndexFunc_Sapi_Slot_api_Slot, go_sem, reduceIte, reduceCtorEq, Nat.reduceEqDiff, Nat.reduceAdd, Nat.reduceSub, Nat.reduceMul, Nat.reduceDiv, Nat.reduceMod, Nat.reduceBEq, Nat.reduceLeDiff, Nat.reduceLT, Int.reduceEq, Int.reduceNe, Int.reduceLT, Int.reduceLE, Int.reduceBEq, Int.reduceBNe, Int.reduceToNat, Int.reduceAdd, Int.reduceSub, Int.reduceMul, Int.reduceNeg, slot0, slot0z, cells_length, flats_cells, hards_cells, leadss_cells, refsOfs_cells, rens_cells, cells_0, cells_1, cells_2, cells_35, cells_36, cells_id, over_cells, sub_cells, take_cells, slots_length, flats_slots, hards_slots, leadss_slots, refsOfs_slots, rens_slots, sub_slots, slots_0, slots_1, slots_2, slots_35, slots_36, slots_snoc, h0]
  rw [S_of fn_slices_ContainsFunc_Sapi_Slot_api_Slot rfl rfl]
  simp (dsimp := false) (disch := first | omega | (simp only [strs_length, List.length_set, List.length_replicate, words_length, ofBytes_length, List.length_append, List.length_cons, List.length_nil, List.length_take, List.length_drop, slots_length] <;> omega) | fail) only [L.slices_ContainsFunc_Sapi_Slot_api_Slot, go_sem, reduceIte, reduceCtorEq, Nat.reduceEqDiff, Nat.reduceAdd, Nat.reduceSub, Nat.reduceMul, Nat.reduceDiv, Nat.reduceMod, Nat.reduceBEq, Nat.reduceLeDiff, Nat.reduceLT, Int.reduceEq, Int.reduceNe, Int.reduceLT, Int.reduceLE, Int.reduceBEq, Int.reduceBNe, Int.reduceToNat, Int.reduceAdd, Int.reduceSub, Int.reduceMul, Int.reduceNeg, slot0, slot0z, cells_length, flats_cells, hards_cells, leadss_cells, refsOfs_cells, rens_cells, cells_0, cells_1, cells_2, cells_35, cells_36, cells_id, over_cells, sub_cells, take_cells, slots_length, flats_slots, hards_slots, leadss_slots, refsOfs_slots, rens_slots, sub_slots, slots_0, slots_1, slots_2, slots_35, slots_36, slots_snoc, h1]
theorem sub_sl {a : List Slot} {n : Nat} (h : n = 37 * a.length) : sub (slots a) 0 n = slots a := sub_full (by rw [h, slots_length]; omega)
theorem go_grow {n : Nat} (hn : n ≤ 4000000) : S E F.slices_Grow_Sapi_Slot_api_Slot [.nils, .int .i64 n] [] =
    if n = 0 then some (.nils, []) else some (.buf (.r 0) 0 0 0 37, [(.r 0, ⟨0, true, true, false, slots (List.replicate n default)⟩)]) := by
  rw [S_of fn_slices_Grow_Sapi_Slot_api_Slot rfl rfl]
  by_cases h : n = 0
  · subst h
    simp (dsimp := false) (disch := first | omega | (simp only [strs_length, List.length_set, List.length_replicate, words_length, ofBytes_length, List.length_append, List.length_cons, List.length_nil, List.length_take, List.length_drop, slots_length] <;> omega) | fail) only [L.slices_Grow_Sapi_Slot_api_Slot, go_sem, reduceIte, reduceCtorEq, Nat.reduceEqDiff, Nat.reduceAdd, Nat.reduceSub, Nat.reduceMul, Nat.reduceDiv, Nat.reduceMod, Nat.reduceBEq, Nat.reduceLeDiff, Nat.reduceLT, Int.reduceEq, Int.reduceNe, Int.reduceLT, Int.reduceLE, Int.reduceBEq, Int.reduceBNe, Int.reduceToNat, Int.reduceAdd, Int.reduceSub, Int.reduceMul, Int.reduceNeg, zer_bytes, app_ofBytes, ofBytes_length, flats_ofBytes, hards_ofBytes, leadss_ofBytes, refsOfs_ofBytes, rens_ofBytes, bytesOf_ofBytes, sub_ofBytes, take_ofBytes, drop_ofBytes, get_ofBytes, over_ofBytes_all, over_ofBytes, ofBytes_snoc, slot0, slot0z, cells_length, flats_cells, hards_cells, leadss_cells, refsOfs_cells, rens_cells, cells_0, cells_1, cells_2, cells_35, cells_36, cells_id, over_cells, sub_cells, take_cells, slots_length, flats_slots, hards_slots, leadss_slots, refsOfs_slots, rens_slots, sub_slots, slots_0, slots_1, slots_2, slots_35, slots_36, slots_snoc]
  · rw [if_neg h]
    simp (dsimp := false) (disch := first | omega | (simp only [strs_length, List.length_set, List.length_replicate, words_length, ofBytes_length, List.length_append, List.length_cons, List.length_nil, List.length_take, List.length_drop, slots_length] <;> omega) | fail) only [L.slices_Grow_Sapi_Slot_api_Slot, go_sem, reduceIte, reduceCtorEq, Nat.reduceEqDiff, Nat.reduceAdd, Nat.reduceSub, Nat.reduceMul, Nat.reduceDiv, Nat.reduceMod, Nat.reduceBEq, Nat.reduceLeDiff, Nat.reduceLT, Int.reduceEq, Int.reduceNe, Int.reduceLT, Int.reduceLE, Int.reduceBEq, Int.reduceBNe, Int.reduceToNat, Int.reduceAdd, Int.reduceSub, Int.reduceMul, Int.reduceNeg, zer_bytes, app_ofBytes, ofBytes_length, flats_ofBytes, hards_ofBytes, leadss_ofBytes, refsOfs_ofBytes, rens_ofBytes, bytesOf_ofBytes, sub_ofBytes, take_ofBytes, drop_ofBytes, get_ofBytes, over_ofBytes_all, over_ofBytes, ofBytes_snoc, slot0, slot0z, cells_length, flats_cells, hards_cells, leadss_cells, refsOfs_cells, rens_cells, cells_0, cells_1, cells_2, cells_35, cells_36, cells_id, over_cells, sub_cells, take_cells, slots_length, flats_slots, hards_slots, leadss_slots, refsOfs_slots, rens_slots, sub_slots, slots_0, slots_1, slots_2, slots_35, slots_36, slots_snoc, Int.sub_zero, rep_slots, appV_nilsL, appzV_intL]
theorem go_concat3 {a b c : List Slot} (ha : a.length ≤ 1000000) (hb : b.length ≤ 1000000) (hc : c.length ≤ 1000000) :
    S E F.slices_Concat_Sapi_Slot_api_Slot [.lst [.lst (slots a) a.length, .lst (slots b) b.length, .lst (slots c) c.length] 3] [] =
    some (.buf (.r 0) 0 0 (a ++ b ++ c).length 37, [(.r 0, ⟨0, true, true, false, slots (a ++ b ++ c)⟩)]) := by
  have hg := go_grow (n := a.length + b.length + c.length) (by omega)
  have e1 : (0 + (a.length : Int) + b.length + c.length) = ((a.length + b.length + c.length : Nat) : Int) := by omega
  rw [S_of fn_slices_Concat_Sapi_Slot_api_Slot rfl rfl]
  simp (dsimp := false) (disch := first | omega | (simp only [strs_length, List.length_set, List.length_replicate, words_length, ofBytes_length, List.length_append, List.length_cons, List.length_nil, List.length_take, List.length_drop, slots_length] <;> omega) | fail) only [L.slices_Concat_Sapi_Slot_api_Slot, L.slices_Concat_Sapi_Slot_api_Slot.x0, go_sem, reduceIte, reduceCtorEq, Nat.reduceEqDiff, Nat.reduceAdd, Nat.reduceSub, Nat.reduceMul, Nat.reduceDiv, Nat.reduceMod, Nat.reduceBEq, Nat.reduceLeDiff, Nat.reduceLT, Int.reduceEq, Int.reduceNe, Int.reduceLT, Int.reduceLE, Int.reduceBEq, Int.reduceBNe, Int.reduceToNat, Int.reduceAdd, Int.reduceSub, Int.reduceMul, Int.reduceNeg, zer_bytes, app_ofBytes, ofBytes_length, flats_ofBytes, hards_ofBytes, leadss_ofBytes, refsOfs_ofBytes, rens_ofBytes, bytesOf_ofBytes, sub_ofBytes, take_ofBytes, drop_ofBytes, get_ofBytes, over_ofBytes_all, over_ofBytes, ofBytes_snoc, slot0, slot0z, cells_length, flats_cells, hards_cells, leadss_cells, refsOfs_cells, rens_cells, cells_0, cells_1, cells_2, cells_35, cells_36, cells_id, over_cells, sub_cells, take_cells, slots_length, flats_slots, hards_slots, leadss_slots, refsOfs_slots, rens_slots, sub_slots, slots_0, slots_1, slots_2, slots_35, slots_36, slots_snoc]
  rw [e1]
  by_cases h : a.length + b.length + c.length = 0
  · rw [if_pos h] at hg
    simp (dsimp := false) (disch := first | omega | (simp only [strs_length, List.length_set, List.length_replicate, words_length, ofBytes_length, List.length_append, List.length_cons, List.length_nil, List.length_take, List.length_drop, slots_length] <;> omega) | fail) only [L.slices_Concat_Sapi_Slot_api_Slot.r0, L.slices_Concat_Sapi_Slot_api_Slot.x1, L.slices_Concat_Sapi_Slot_api_Slot.r1, go_sem, reduceIte, reduceCtorEq, Nat.reduceEqDiff, Nat.reduceAdd, Nat.reduceSub, Nat.reduceMul, Nat.reduceDiv, Nat.reduceMod, Nat.reduceBEq, Nat.reduceLeDiff, Nat.reduceLT, Int.reduceEq, Int.reduceNe, Int.reduceLT, Int.reduceLE, Int.reduceBEq, Int.reduceBNe, Int.reduceToNat, Int.reduceAdd, Int.reduceSub, Int.reduceMul, Int.reduceNeg, zer_bytes, app_ofBytes, ofBytes_length, flats_ofBytes, hards_ofBytes, leadss_ofBytes, refsOfs_ofBytes, rens_ofBytes, bytesOf_ofBytes, sub_ofBytes, take_ofBytes, drop_ofBytes, get_ofBytes, over_ofBytes_all, over_ofBytes, ofBytes_snoc, slot0, slot0z, cells_length, flats_cells, hards_cells, leadss_cells, refsOfs_cells, rens_cells, cells_0, cells_1, cells_2, cells_35, cells_36, cells_id, over_cells, sub_cells, take_cells, slots_length, flats_slots, hards_slots, leadss_slots, refsOfs_slots, rens_slots, sub_slots, slots_0, slots_1, slots_2, slots_35, slots_36, slots_snoc, hg, appV_nilsL, appzV_intL, app_slots, sub_00, Nat.zero_mul, Nat.zero_add, sub_sl]
    rw [List.length_append, List.length_append]
  · rw [if_neg h] at hg
    simp (dsimp := false) (disch := first | omega | (simp only [strs_length, List.length_set, List.length_replicate, words_length, ofBytes_length, List.length_append, List.length_cons, List.length_nil, List.length_take, List.length_drop, slots_length] <;> omega) | fail) only [L.slices_Concat_Sapi_Slot_api_Slot.r0, L.slices_Concat_Sapi_Slot_api_Slot.x1, L.slices_Concat_Sapi_Slot_api_Slot.r1, go_sem, reduceIte, reduceCtorEq, Nat.reduceEqDiff, Nat.reduceAdd, Nat.reduceSub, Nat.reduceMul, Nat.reduceDiv, Nat.reduceMod, Nat.reduceBEq, Nat.reduceLeDiff, Nat.reduceLT, Int.reduceEq, Int.reduceNe, Int.reduceLT, Int.reduceLE, Int.reduceBEq, Int.reduceBNe, Int.reduceToNat, Int.reduceAdd, Int.reduceSub, Int.reduceMul, Int.reduceNeg, zer_bytes, app_ofBytes, ofBytes_length, flats_ofBytes, hards_ofBytes, leadss_ofBytes, refsOfs_ofBytes, rens_ofBytes, bytesOf_ofBytes, sub_ofBytes, take_ofBytes, drop_ofBytes, get_ofBytes, over_ofBytes_all, over_ofBytes, ofBytes_snoc, slot0, slot0z, cells_length, flats_cells, hards_cells, leadss_cells, refsOfs_cells, rens_cells, cells_0, cells_1, cells_2, cells_35, cells_36, cells_id, over_cells, sub_cells, take_cells, slots_length, flats_slots, hards_slots, leadss_slots, refsOfs_slots, rens_slots, sub_slots, slots_0, slots_1, slots_2, slots_35, slots_36, slots_snoc, hg, appV_nilsL, appzV_intL, app_slots, sub_00, Nat.zero_mul, Nat.zero_add, sub_sl]
    rw [List.length_append, List.length_append]
def setL (p : List UInt8) (l : List Slot) : Nat → Nat → List Slot → List Slot → Bool → List Slot × List Slot
  | 0, _, b, a, _ => (b, a)
  | m + 1, i, b, a, t => if t = true ∨ Op.bytesLess (lat l i).path p = false then (if (lat l i).path = p then setL p l m (i + 1) b a true else setL p l m (i + 1) b (a ++ [lat l i]) true) else setL p l m (i + 1) (b ++ [lat l i]) a false
def lateV (t : Bool) : Int := if t = true then 1 else 0
theorem set_l0 {l w : List Slot} {p : List UInt8} {e : Int} (hl : l.length ≤ 1000000) (k : List It) : ∀ (m i : Nat) (b a : List Slot) (t : Bool), i + m = l.length → b.length + a.length ≤ i → (t = false → a = []) → ∃ t',
    X E [.tmp 6, .tmp 7] (.c L.index_Set.x0 :: .lp [2, 4, 8, 9, 10, 11, 27, 28, 29] L.index_Set.x0 :: .blk 0 :: k) ⟨[(2, .lst (slots w) w.length), (4, .ref (.s 1000000 0) 0 0), (8, .int .i64 e), (9, .buf (.s 1000000 1) 0 0 (b).length 37), (10, .buf (.s 1000000 2) 0 0 (a).length 37), (11, .int .i64 (lateV t)), (27, .lst (slots l) l.length), (28, .int .i64 l.length), (29, .int .i64 i)], [(.s 1000000 0, ⟨0, true, true, true, [.str p]⟩), (.s 1000000 1, ⟨0, true, true, false, slots b⟩), (.s 1000000 2, ⟨0, true, true, false, slots a⟩)]⟩ =
    X E [.tmp 6, .tmp 7] k ⟨[(2, .lst (slots w) w.length), (4, .ref (.s 1000000 0) 0 0), (8, .int .i64 e), (9, .buf (.s 1000000 1) 0 0 ((setL p l m i b a t).1).length 37), (10, .buf (.s 1000000 2) 0 0 ((setL p l m i b a t).2).length 37), (11, .int .i64 t'), (27, .lst (slots l) l.length), (28, .int .i64 l.length), (29, .int .i64 l.length), (30, .bool false)], [(.s 1000000 0, ⟨0, true, true, true, [.str p]⟩), (.s 1000000 1, ⟨0, true, true, false, slots (setL p l m i b a t).1⟩), (.s 1000000 2, ⟨0, true, true, false, slots (setL p l m i b a t).2⟩)]⟩ := by
  intro m
  induction m with
  | zero =>
    intro i b a t hi hba ht
    obtain rfl : i = l.length := by omega
    refine ⟨lateV t, ?_⟩
    rw [X_in L.index_Set.x0.eq_1, setL]
    simp (dsimp := false) (disch := first | omega | (simp only [strs_length, List.length_set, List.length_replicate, words_length, ofBytes_length, List.length_append, List.length_cons, List.length_nil, List.length_take, List.length_drop, slots_length] <;> omega) | fail) only [go_sem, reduceIte, reduceCtorEq, Nat.reduceEqDiff, Nat.reduceAdd, Nat.reduceSub, Nat.reduceMul, Nat.reduceDiv, Nat.reduceMod, Nat.reduceBEq, Nat.reduceLeDiff, Nat.reduceLT, Int.reduceEq, Int.reduceNe, Int.reduceLT, Int.reduceLE, Int.reduceBEq, Int.reduceBNe, Int.reduceToNat, Int.reduceAdd, Int.reduceSub, Int.reduceMul, Int.reduceNeg, zer_bytes, app_ofBytes, ofBytes_length, flats_ofBytes, hards_ofBytes, leadss_ofBytes, refsOfs_ofBytes, rens_ofBytes, bytesOf_ofBytes, sub_ofBytes, take_ofBytes, drop_ofBytes, get_ofBytes, over_ofBytes_all, over_ofBytes, ofBytes_snoc, slot0, slot0z, cells_length, flats_cells, hards_cells, leadss_cells, refsOfs_cells, rens_cells, cells_0, cells_1, cells_2, cells_35, cells_36, cells_id, over_cells, sub_cells, take_cells, slots_length, flats_slots, hards_slots, leadss_slots, refsOfs_slots, rens_slots, sub_slots, slots_0, slots_1, slots_2, slots_35, slots_36, slots_snoc]
  | succ m ih =>
    intro i b a t hi hba ht
    rw [X_in L.index_Set.x0.eq_1, setL]
    cases t with
    | true =>
      rw [if_pos (.inl rfl)]
      by_cases hp : (lat l i).path = p
      · obtain ⟨t', hs⟩ := ih (i + 1) b a true (by omega) (by omega) (fun h => by cases h)
        refine ⟨t', ?_⟩
        rw [if_pos hp, ← hs]
        simp (dsimp := false) (disch := first | omega | (simp only [strs_length, List.length_set, List.length_replicate, words_length, ofBytes_length, List.length_append, List.length_cons, List.length_nil, List.length_take, List.length_drop, slots_length] <;> omega) | fail) only [go_sem, reduceIte, reduceCtorEq, Nat.reduceEqDiff, Nat.reduceAdd, Nat.reduceSub, Nat.reduceMul, Nat.reduceDiv, Nat.reduceMod, Nat.reduceBEq, Nat.reduceLeDiff, Nat.reduceLT, Int.reduceEq, Int.reduceNe, Int.reduceLT, Int.reduceLE, Int.reduceBEq, Int.reduceBNe, Int.reduceToNat, Int.reduceAdd, Int.reduceSub, Int.reduceMul, Int.reduceNeg, zer_bytes, app_ofBytes, ofBytes_length, flats_ofBytes, hards_ofBytes, leadss_ofBytes, refsOfs_ofBytes, rens_ofBytes, bytesOf_ofBytes, sub_ofBytes, take_ofBytes, drop_ofBytes, get_ofBytes, over_ofBytes_all, over_ofBytes, ofBytes_snoc, slot0, slot0z, cells_length, flats_cells, hards_cells, leadss_cells, refsOfs_cells, rens_cells, cells_0, cells_1, cells_2, cells_35, cells_36, cells_id, over_cells, sub_cells, take_cells, slots_length, flats_slots, hards_slots, leadss_slots, refsOfs_slots, rens_slots, sub_slots, slots_0, slots_1, slots_2, slots_35, slots_36, slots_snoc, slots_one, lateV, hp, Int.natCast_add, Int.cast_ofNat_Int]
      · obtain ⟨t', hs⟩ := ih (i + 1) b (a ++ [lat l i]) true (by omega) (by simp; omega) (fun h => by cases h)
        have hq : ((lat l i).path == p) = false := by simp [hp]
        refine ⟨t', ?_⟩
        rw [if_neg hp, ← hs]
        simp (dsimp := false) (disch := first | omega | (simp only [strs_length, List.length_set, List.length_replicate, words_length, ofBytes_length, List.length_append, List.length_cons, List.length_nil, List.length_take, List.length_drop, slots_length] <;> omega) | fail) only [go_sem, reduceIte, reduceCtorEq, Nat.reduceEqDiff, Nat.reduceAdd, Nat.reduceSub, Nat.reduceMul, Nat.reduceDiv, Nat.reduceMod, Nat.reduceBEq, Nat.reduceLeDiff, Nat.reduceLT, Int.reduceEq, Int.reduceNe, Int.reduceLT, Int.reduceLE, Int.reduceBEq, Int.reduceBNe, Int.reduceToNat, Int.reduceAdd, Int.reduceSub, Int.reduceMul, Int.reduceNeg, zer_bytes, app_ofBytes, ofBytes_length, flats_ofBytes, hards_ofBytes, leadss_ofBytes, refsOfs_ofBytes, rens_ofBytes, bytesOf_ofBytes, sub_ofBytes, take_ofBytes, drop_ofBytes, get_ofBytes, over_ofBytes_all, over_ofBytes, ofBytes_snoc, slot0, slot0z, cells_length, flats_cells, hards_cells, leadss_cells, refsOfs_cells, rens_cells, cells_0, cells_1, cells_2, cells_35, cells_36, cells_id, over_cells, sub_cells, take_cells, slots_length, flats_slots, hards_slots, leadss_slots, refsOfs_slots, rens_slots, sub_slots, slots_0, slots_1, slots_2, slots_35, slots_36, slots_snoc, slots_one, lateV, hq, hp, Bool.not_false, Int.natCast_add, Int.cast_ofNat_Int, app_slots, List.nil_append, List.length_append, List.length_singleton, sub_sl]
    | false =>
      obtain rfl := ht rfl
      cases hb : Op.bytesLess (lat l i).path p with
      | true =>
        obtain ⟨t', hs⟩ := ih (i + 1) (b ++ [lat l i]) [] false (by omega) (by simp; omega) (fun _ => rfl)
        refine ⟨t', ?_⟩
        rw [if_neg (by simp), ← hs]
        simp (dsimp := false) (disch := first | omega | (simp only [strs_length, List.length_set, List.length_replicate, words_length, ofBytes_length, List.length_append, List.length_cons, List.length_nil, List.length_take, List.length_drop, slots_length] <;> omega) | fail) only [go_sem, reduceIte, reduceCtorEq, Nat.reduceEqDiff, Nat.reduceAdd, Nat.reduceSub, Nat.reduceMul, Nat.reduceDiv, Nat.reduceMod, Nat.reduceBEq, Nat.reduceLeDiff, Nat.reduceLT, Int.reduceEq, Int.reduceNe, Int.reduceLT, Int.reduceLE, Int.reduceBEq, Int.reduceBNe, Int.reduceToNat, Int.reduceAdd, Int.reduceSub, Int.reduceMul, Int.reduceNeg, zer_bytes, app_ofBytes, ofBytes_length, flats_ofBytes, hards_ofBytes, leadss_ofBytes, refsOfs_ofBytes, rens_ofBytes, bytesOf_ofBytes, sub_ofBytes, take_ofBytes, drop_ofBytes, get_ofBytes, over_ofBytes_all, over_ofBytes, ofBytes_snoc, slot0, slot0z, cells_length, flats_cells, hards_cells, leadss_cells, refsOfs_cells, rens_cells, cells_0, cells_1, cells_2, cells_35, cells_36, cells_id, over_cells, sub_cells, take_cells, slots_length, flats_slots, hards_slots, leadss_slots, refsOfs_slots, rens_slots, sub_slots, slots_0, slots_1, slots_2, slots_35, slots_36, slots_snoc, slots_one, lateV, hb, Bool.not_false, Bool.not_true, Int.natCast_add, Int.cast_ofNat_Int, app_slots, List.nil_append, List.length_append, List.length_singleton, sub_sl]
      | false =>
        rw [if_pos (.inr rfl)]
        by_cases hp : (lat l i).path = p
        · obtain ⟨t', hs⟩ := ih (i + 1) b [] true (by omega) (by simp at hba ⊢; omega) (fun h => by cases h)
          refine ⟨t', ?_⟩
          rw [if_pos hp, ← hs]
          rw [hp] at hb
          simp (dsimp := false) (disch := first | omega | (simp only [strs_length, List.length_set, List.length_replicate, words_length, ofBytes_length, List.length_append, List.length_cons, List.length_nil, List.length_take, List.length_drop, slots_length] <;> omega) | fail) only [go_sem, reduceIte, reduceCtorEq, Nat.reduceEqDiff, Nat.reduceAdd, Nat.reduceSub, Nat.reduceMul, Nat.reduceDiv, Nat.reduceMod, Nat.reduceBEq, Nat.reduceLeDiff, Nat.reduceLT, Int.reduceEq, Int.reduceNe, Int.reduceLT, Int.reduceLE, Int.reduceBEq, Int.reduceBNe, Int.reduceToNat, Int.reduceAdd, Int.reduceSub, Int.reduceMul, Int.reduceNeg, zer_bytes, app_ofBytes, ofBytes_length, flats_ofBytes, hards_ofBytes, leadss_ofBytes, refsOfs_ofBytes, rens_ofBytes, bytesOf_ofBytes, sub_ofBytes, take_ofBytes, drop_ofBytes, get_ofBytes, over_ofBytes_all, over_ofBytes, ofBytes_snoc, slot0, slot0z, cells_length, flats_cells, hards_cells, leadss_cells, refsOfs_cells, rens_cells, cells_0, cells_1, cells_2, cells_35, cells_36, cells_id, over_cells, sub_cells, take_cells, slots_length, flats_slots, hards_slots, leadss_slots, refsOfs_slots, rens_slots, sub_slots, slots_0, slots_1, slots_2, slots_35, slots_36, slots_snoc, slots_one, lateV, hp, hb, Bool.not_false, Int.natCast_add, Int.cast_ofNat_Int]
        · obtain ⟨t', hs⟩ := ih (i + 1) b ([] ++ [lat l i]) true (by omega) (by simp at hba ⊢; omega) (fun h => by cases h)
          have hq : ((lat l i).path == p) = false := by simp [hp]
          refine ⟨t', ?_⟩
          rw [if_neg hp, ← hs]
          simp (dsimp := false) (disch := first | omega | (simp only [strs_length, List.length_set, List.length_replicate, words_length, ofBytes_length, List.length_append, List.length_cons, List.length_nil, List.length_take, List.length_drop, slots_length] <;> omega) | fail) only [go_sem, reduceIte, reduceCtorEq, Nat.reduceEqDiff, Nat.reduceAdd, Nat.reduceSub, Nat.reduceMul, Nat.reduceDiv, Nat.reduceMod, Nat.reduceBEq, Nat.reduceLeDiff, Nat.reduceLT, Int.reduceEq, Int.reduceNe, Int.reduceLT, Int.reduceLE, Int.reduceBEq, Int.reduceBNe, Int.reduceToNat, Int.reduceAdd, Int.reduceSub, Int.reduceMul, Int.reduceNeg, zer_bytes, app_ofBytes, ofBytes_length, flats_ofBytes, hards_ofBytes, leadss_ofBytes, refsOfs_ofBytes, rens_ofBytes, bytesOf_ofBytes, sub_ofBytes, take_ofBytes, drop_ofBytes, get_ofBytes, over_ofBytes_all, over_ofBytes, ofBytes_snoc, slot0, slot0z, cells_length, flats_cells, hards_cells, leadss_cells, refsOfs_cells, rens_cells, cells_0, cells_1, cells_2, cells_35, cells_36, cells_id, over_cells, sub_cells, take_cells, slots_length, flats_slots, hards_slots, leadss_slots, refsOfs_slots, rens_slots, sub_slots, slots_0, slots_1, slots_2, slots_35, slots_36, slots_snoc, slots_one, lateV, hp, hq, hb, Bool.not_false, Int.natCast_add, Int.cast_ofNat_Int, app_slots, List.nil_append, List.length_append, List.length_singleton, sub_sl]
end Cod


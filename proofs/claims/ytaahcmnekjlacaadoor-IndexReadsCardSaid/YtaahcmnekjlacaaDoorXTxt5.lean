/- The law's own functions. -/
import Derived.Test.YtaahcmnekjlacaaDoorXTxt4
set_option linter.unusedSimpArgs false
set_option linter.unusedVariables false
namespace Cod
open Go

def aw : Slot := ⟨[97], 0, 33188, (List.replicate 32 0).set 0 1, 5, 9, rfl⟩
theorem aw_check : checkF [aw] = 0 := by decide +kernel
theorem aw_len : (putF [aw]).length = 124 := by
  rw [putF, List.length_append, shaF_length]
  rfl
theorem go_awake : S E F.law17_awake [] [] = some (.bool true, []) := by
  have hp := go_put (l := [aw]) (by simp)
  rw [if_pos aw_check, aw_len, aw_check] at hp
  simp only [List.length_singleton] at hp
  have hw : ∀ h, Slot.cells ⟨[97], (default : Slot).stage, 33188, (List.replicate 32 0).set 0 (UInt8.ofNat 1), 5, 9, h⟩ = slots [aw] := fun _ => rfl
  have hq := go_parse (p := putF [aw]) (n := 124) aw_len.symm (by rw [aw_len]; omega)
  rw [parse_put aw_check] at hq
  simp only [List.length_singleton] at hq
  have hs := go_slotsame (a := [aw]) (b := [aw]) (n := 1) (m := 1) rfl rfl (by simp) (by simp)
  have e1 : sub (putF [aw]) 0 124 = putF [aw] := sub_full (by rw [aw_len]; omega)
  have e2 : sub (slots [aw]) 0 37 = slots [aw] := rfl
  rw [S_of fn_law17_awake rfl rfl]
  simp (dsimp := false) (disch := first | omega | (simp only [strs_length, List.length_set, List.length_replicate, words_length, ofBytes_length, List.length_append, List.length_cons, List.length_nil, List.length_take, List.length_drop] <;> omega) | fail) only [L.law17_awake, go_sem, reduceIte, reduceCtorEq, Nat.reduceEqDiff, Nat.reduceAdd, Nat.reduceSub, Nat.reduceMul, Nat.reduceDiv, Nat.reduceMod, Nat.reduceBEq, Nat.reduceLeDiff, Nat.reduceLT, Int.reduceEq, Int.reduceNe, Int.reduceLT, Int.reduceLE, Int.reduceBEq, Int.reduceBNe, Int.reduceToNat, Int.reduceAdd, Int.reduceSub, Int.reduceMul, Int.reduceNeg, zer_bytes, app_ofBytes, ofBytes_length, flats_ofBytes, hards_ofBytes, leadss_ofBytes, refsOfs_ofBytes, rens_ofBytes, bytesOf_ofBytes, sub_ofBytes, take_ofBytes, drop_ofBytes, get_ofBytes, over_ofBytes_all, over_ofBytes, ofBytes_snoc, slot0, slot0z, cells_length, flats_cells, hards_cells, leadss_cells, refsOfs_cells, rens_cells, cells_0, cells_1, cells_2, cells_35, cells_36, cells_id, over_cells, sub_cells, take_cells, slots_length, flats_slots, hards_slots, leadss_slots, refsOfs_slots, rens_slots, sub_slots, slots_0, slots_1, slots_2, slots_35, slots_36, slots_snoc, over_c0, over_c1, over_c2, over_c3, over_c35, over_c36]
  simp only [hw]
  simp (dsimp := false) (disch := first | omega | (simp only [strs_length, List.length_set, List.length_replicate, words_length, ofBytes_length, List.length_append, List.length_cons, List.length_nil, List.length_take, List.length_drop] <;> omega) | fail) only [go_sem, reduceIte, reduceCtorEq, Nat.reduceEqDiff, Nat.reduceAdd, Nat.reduceSub, Nat.reduceMul, Nat.reduceDiv, Nat.reduceMod, Nat.reduceBEq, Nat.reduceLeDiff, Nat.reduceLT, Int.reduceEq, Int.reduceNe, Int.reduceLT, Int.reduceLE, Int.reduceBEq, Int.reduceBNe, Int.reduceToNat, Int.reduceAdd, Int.reduceSub, Int.reduceMul, Int.reduceNeg, zer_bytes, app_ofBytes, ofBytes_length, flats_ofBytes, hards_ofBytes, leadss_ofBytes, refsOfs_ofBytes, rens_ofBytes, bytesOf_ofBytes, sub_ofBytes, take_ofBytes, drop_ofBytes, get_ofBytes, over_ofBytes_all, over_ofBytes, ofBytes_snoc, slot0, slot0z, cells_length, flats_cells, hards_cells, leadss_cells, refsOfs_cells, rens_cells, cells_0, cells_1, cells_2, cells_35, cells_36, cells_id, over_cells, sub_cells, take_cells, slots_length, flats_slots, hards_slots, leadss_slots, refsOfs_slots, rens_slots, sub_slots, slots_0, slots_1, slots_2, slots_35, slots_36, slots_snoc, hw, hp, hq, hs, decide_true, aw_len, e1, e2]
theorem go_small {x : List AV} {n : Nat} (hn : n ≤ 1000000000000) : S E F.law17_small [.lst x n] [] = some (.bool (decide (n ≤ 200) || decide (4096 < n)), []) := by
  rw [S_of fn_law17_small rfl rfl]
  by_cases h : n ≤ 200
  · simp (dsimp := false) (disch := first | omega | (simp only [strs_length, List.length_set, List.length_replicate, words_length, ofBytes_length, List.length_append, List.length_cons, List.length_nil, List.length_take, List.length_drop] <;> omega) | fail) only [L.law17_small, go_sem, reduceIte, reduceCtorEq, Nat.reduceEqDiff, Nat.reduceAdd, Nat.reduceSub, Nat.reduceMul, Nat.reduceDiv, Nat.reduceMod, Nat.reduceBEq, Nat.reduceLeDiff, Nat.reduceLT, Int.reduceEq, Int.reduceNe, Int.reduceLT, Int.reduceLE, Int.reduceBEq, Int.reduceBNe, Int.reduceToNat, Int.reduceAdd, Int.reduceSub, Int.reduceMul, Int.reduceNeg, zer_bytes, app_ofBytes, ofBytes_length, flats_ofBytes, hards_ofBytes, leadss_ofBytes, refsOfs_ofBytes, rens_ofBytes, bytesOf_ofBytes, sub_ofBytes, take_ofBytes, drop_ofBytes, get_ofBytes, over_ofBytes_all, over_ofBytes, ofBytes_snoc, slot0, slot0z, cells_length, flats_cells, hards_cells, leadss_cells, refsOfs_cells, rens_cells, cells_0, cells_1, cells_2, cells_35, cells_36, cells_id, over_cells, sub_cells, take_cells, slots_length, flats_slots, hards_slots, leadss_slots, refsOfs_slots, rens_slots, sub_slots, slots_0, slots_1, slots_2, slots_35, slots_36, slots_snoc, h]
  · by_cases h2 : 4096 < n
    · simp (dsimp := false) (disch := first | omega | (simp only [strs_length, List.length_set, List.length_replicate, words_length, ofBytes_length, List.length_append, List.length_cons, List.length_nil, List.length_take, List.length_drop] <;> omega) | fail) only [L.law17_small, go_sem, reduceIte, reduceCtorEq, Nat.reduceEqDiff, Nat.reduceAdd, Nat.reduceSub, Nat.reduceMul, Nat.reduceDiv, Nat.reduceMod, Nat.reduceBEq, Nat.reduceLeDiff, Nat.reduceLT, Int.reduceEq, Int.reduceNe, Int.reduceLT, Int.reduceLE, Int.reduceBEq, Int.reduceBNe, Int.reduceToNat, Int.reduceAdd, Int.reduceSub, Int.reduceMul, Int.reduceNeg, zer_bytes, app_ofBytes, ofBytes_length, flats_ofBytes, hards_ofBytes, leadss_ofBytes, refsOfs_ofBytes, rens_ofBytes, bytesOf_ofBytes, sub_ofBytes, take_ofBytes, drop_ofBytes, get_ofBytes, over_ofBytes_all, over_ofBytes, ofBytes_snoc, slot0, slot0z, cells_length, flats_cells, hards_cells, leadss_cells, refsOfs_cells, rens_cells, cells_0, cells_1, cells_2, cells_35, cells_36, cells_id, over_cells, sub_cells, take_cells, slots_length, flats_slots, hards_slots, leadss_slots, refsOfs_slots, rens_slots, sub_slots, slots_0, slots_1, slots_2, slots_35, slots_36, slots_snoc, h, h2]
    · simp (dsimp := false) (disch := first | omega | (simp only [strs_length, List.length_set, List.length_replicate, words_length, ofBytes_length, List.length_append, List.length_cons, List.length_nil, List.length_take, List.length_drop] <;> omega) | fail) only [L.law17_small, go_sem, reduceIte, reduceCtorEq, Nat.reduceEqDiff, Nat.reduceAdd, Nat.reduceSub, Nat.reduceMul, Nat.reduceDiv, Nat.reduceMod, Nat.reduceBEq, Nat.reduceLeDiff, Nat.reduceLT, Int.reduceEq, Int.reduceNe, Int.reduceLT, Int.reduceLE, Int.reduceBEq, Int.reduceBNe, Int.reduceToNat, Int.reduceAdd, Int.reduceSub, Int.reduceMul, Int.reduceNeg, zer_bytes, app_ofBytes, ofBytes_length, flats_ofBytes, hards_ofBytes, leadss_ofBytes, refsOfs_ofBytes, rens_ofBytes, bytesOf_ofBytes, sub_ofBytes, take_ofBytes, drop_ofBytes, get_ofBytes, over_ofBytes_all, over_ofBytes, ofBytes_snoc, slot0, slot0z, cells_length, flats_cells, hards_cells, leadss_cells, refsOfs_cells, rens_cells, cells_0, cells_1, cells_2, cells_35, cells_36, cells_id, over_cells, sub_cells, take_cells, slots_length, flats_slots, hards_slots, leadss_slots, refsOfs_slots, rens_slots, sub_slots, slots_0, slots_1, slots_2, slots_35, slots_36, slots_snoc, h, h2]
theorem go_indexWrites {l : List Slot} (hl : l.length ≤ 1000000000) (hp : ∀ i, (lat l i).path.length ≤ 1000000000) : S E F.law17_IndexWrites [.lst (slots l) l.length] [] = some (.bool true, []) := by
  have h1 := go_put (l := l) (by omega)
  have h2 := go_docput (l := l) (by omega) hp
  have h3 := go_check (l := l) (by omega)
  rw [S_of fn_law17_IndexWrites rfl rfl]
  by_cases hs : (decide (l.length ≤ 200) || decide (4096 < l.length)) = true
  · simp (dsimp := false) (disch := first | omega | (simp only [strs_length, List.length_set, List.length_replicate, words_length, ofBytes_length, List.length_append, List.length_cons, List.length_nil, List.length_take, List.length_drop] <;> omega) | fail) only [L.law17_IndexWrites, go_sem, reduceIte, reduceCtorEq, Nat.reduceEqDiff, Nat.reduceAdd, Nat.reduceSub, Nat.reduceMul, Nat.reduceDiv, Nat.reduceMod, Nat.reduceBEq, Nat.reduceLeDiff, Nat.reduceLT, Int.reduceEq, Int.reduceNe, Int.reduceLT, Int.reduceLE, Int.reduceBEq, Int.reduceBNe, Int.reduceToNat, Int.reduceAdd, Int.reduceSub, Int.reduceMul, Int.reduceNeg, zer_bytes, app_ofBytes, ofBytes_length, flats_ofBytes, hards_ofBytes, leadss_ofBytes, refsOfs_ofBytes, rens_ofBytes, bytesOf_ofBytes, sub_ofBytes, take_ofBytes, drop_ofBytes, get_ofBytes, over_ofBytes_all, over_ofBytes, ofBytes_snoc, slot0, slot0z, cells_length, flats_cells, hards_cells, leadss_cells, refsOfs_cells, rens_cells, cells_0, cells_1, cells_2, cells_35, cells_36, cells_id, over_cells, sub_cells, take_cells, slots_length, flats_slots, hards_slots, leadss_slots, refsOfs_slots, rens_slots, sub_slots, slots_0, slots_1, slots_2, slots_35, slots_36, slots_snoc, go_awake, go_small (x := slots l) (n := l.length) (by omega), hs, h1, h2, h3, go_same]
  · simp only [Bool.not_eq_true] at hs
    simp (dsimp := false) (disch := first | omega | (simp only [strs_length, List.length_set, List.length_replicate, words_length, ofBytes_length, List.length_append, List.length_cons, List.length_nil, List.length_take, List.length_drop] <;> omega) | fail) only [L.law17_IndexWrites, go_sem, reduceIte, reduceCtorEq, Nat.reduceEqDiff, Nat.reduceAdd, Nat.reduceSub, Nat.reduceMul, Nat.reduceDiv, Nat.reduceMod, Nat.reduceBEq, Nat.reduceLeDiff, Nat.reduceLT, Int.reduceEq, Int.reduceNe, Int.reduceLT, Int.reduceLE, Int.reduceBEq, Int.reduceBNe, Int.reduceToNat, Int.reduceAdd, Int.reduceSub, Int.reduceMul, Int.reduceNeg, zer_bytes, app_ofBytes, ofBytes_length, flats_ofBytes, hards_ofBytes, leadss_ofBytes, refsOfs_ofBytes, rens_ofBytes, bytesOf_ofBytes, sub_ofBytes, take_ofBytes, drop_ofBytes, get_ofBytes, over_ofBytes_all, over_ofBytes, ofBytes_snoc, slot0, slot0z, cells_length, flats_cells, hards_cells, leadss_cells, refsOfs_cells, rens_cells, cells_0, cells_1, cells_2, cells_35, cells_36, cells_id, over_cells, sub_cells, take_cells, slots_length, flats_slots, hards_slots, leadss_slots, refsOfs_slots, rens_slots, sub_slots, slots_0, slots_1, slots_2, slots_35, slots_36, slots_snoc, go_awake, go_small (x := slots l) (n := l.length) (by omega), hs]
end Cod

/- An index is parsed, by the reference: numbers, a slot. -/
namespace Cod
open Go

theorem shl_byte {v b : Nat} (hv : v < 72057594037927936) (hb : b < 256) : IntKind.u64.wrap (ishl .u64 (v : Int) 8 + (b : Int)) = ((256 * v + b : Nat) : Int) := by
  have hs : ishl .u64 (v : Int) 8 = ((v * 256 : Nat) : Int) := by
    rw [show (8 : Int) = ((8 : Nat) : Int) from rfl, ishl_u64 (by omega)]
    omega
  rw [hs, wrap_u64 (by omega) (by omega)]
  omega
theorem rbig_l0 (k : List It) (l : List UInt8) (hl : l.length ≤ 8) : ∀ (m i : Nat), i + m = l.length →
    X E [.tmp 6] (.c L.ref02_Big.x0 :: .lp [7, 15, 16, 17] L.ref02_Big.x0 :: .blk 0 :: k) ⟨[(7, .int .u64 (bigN (l.take i))), (15, .lst (ofBytes l) l.length), (16, .int .i64 l.length), (17, .int .i64 i)], []⟩ =
    X E [.tmp 6] k ⟨[(7, .int .u64 (bigN l)), (15, .lst (ofBytes l) l.length), (16, .int .i64 l.length), (17, .int .i64 l.length), (18, .bool false)], []⟩ := by
  intro m
  induction m with
  | zero =>
    intro i h1
    obtain rfl : i = l.length := by omega
    rw [X_in L.ref02_Big.x0.eq_1]
    simp (dsimp := false) (disch := first | omega | (simp only [strs_length, List.length_set, List.length_replicate, words_length, ofBytes_length, List.length_append, List.length_cons, List.length_nil, List.length_take, List.length_drop, sub_len, slots_length] <;> omega) | fail) only [go_sem, reduceIte, reduceCtorEq, Nat.reduceEqDiff, Nat.reduceAdd, Nat.reduceSub, Nat.reduceMul, Nat.reduceDiv, Nat.reduceMod, Nat.reduceBEq, Nat.reduceLeDiff, Nat.reduceLT, Int.reduceEq, Int.reduceNe, Int.reduceLT, Int.reduceLE, Int.reduceBEq, Int.reduceBNe, Int.reduceToNat, Int.reduceAdd, Int.reduceSub, Int.reduceMul, Int.reduceNeg, zer_bytes, app_ofBytes, ofBytes_length, flats_ofBytes, hards_ofBytes, leadss_ofBytes, refsOfs_ofBytes, rens_ofBytes, bytesOf_ofBytes, sub_ofBytes, take_ofBytes, drop_ofBytes, get_ofBytes, over_ofBytes_all, over_ofBytes, ofBytes_snoc, List.take_length]
  | succ m ih =>
    intro i h1
    have hv : bigN (l.take i) < 72057594037927936 := by
      have := bigN_lt (l.take i)
      have h2 : (l.take i).length ≤ 7 := by simp; omega
      have h3 : 256 ^ (l.take i).length ≤ 256 ^ 7 := Nat.pow_le_pow_right (by omega) h2
      omega
    have e1 : bigN (l.take (i + 1)) = 256 * bigN (l.take i) + (l.getD i 0).toNat := by
      rw [List.take_add_one, List.getElem?_eq_getElem (by omega)]
      simp only [Option.toList_some, bigN_snoc]
      congr 2
      simp [List.getD, show i < l.length by omega]
    have e2 : IntKind.u64.wrap (ishl .u64 (bigN (l.take i)) 8 + bat l i) = _ := shl_byte hv (l.getD i 0).toNat_lt
    have := ih (i + 1) (by omega)
    rw [e1, Int.natCast_add] at this
    rw [X_in L.ref02_Big.x0.eq_1]
    simp (dsimp := false) (disch := first | omega | (simp only [strs_length, List.length_set, List.length_replicate, words_length, ofBytes_length, List.length_append, List.length_cons, List.length_nil, List.length_take, List.length_drop, sub_len, slots_length] <;> omega) | fail) only [go_sem, reduceIte, reduceCtorEq, Nat.reduceEqDiff, Nat.reduceAdd, Nat.reduceSub, Nat.reduceMul, Nat.reduceDiv, Nat.reduceMod, Nat.reduceBEq, Nat.reduceLeDiff, Nat.reduceLT, Int.reduceEq, Int.reduceNe, Int.reduceLT, Int.reduceLE, Int.reduceBEq, Int.reduceBNe, Int.reduceToNat, Int.reduceAdd, Int.reduceSub, Int.reduceMul, Int.reduceNeg, zer_bytes, app_ofBytes, ofBytes_length, flats_ofBytes, hards_ofBytes, leadss_ofBytes, refsOfs_ofBytes, rens_ofBytes, bytesOf_ofBytes, sub_ofBytes, take_ofBytes, drop_ofBytes, get_ofBytes, over_ofBytes_all, over_ofBytes, ofBytes_snoc, wrap_bat, e2]
    exact this
theorem go_r2big {l : List UInt8} {at_ n k : Nat} (hk : k = l.length) (h : at_ + n ≤ l.length) (hn : n ≤ 8) (hl : l.length ≤ 1000000000) :
    S E F.ref02_Big [.lst (ofBytes l) k, .int .i64 at_, .int .i64 n] [] = some (.int .u64 (bigN ((l.drop at_).take n)), []) := by
  subst hk
  have hs : (sub l at_ n).length = n := by rw [sub_len]; omega
  have h2 := rbig_l0 [.c L.ref02_Big.r0] (sub l at_ n) (by omega) n 0 (by omega)
  rw [List.take_zero, hs] at h2
  simp only [show bigN [] = 0 from rfl, Int.cast_ofNat_Int] at h2
  have e3 : ((at_ : Int) + (n : Int)).toNat = at_ + n := by omega
  have e4 : at_ + n - at_ = n := by omega
  rw [S_of fn_ref02_Big rfl rfl]
  simp (dsimp := false) (disch := first | omega | (simp only [strs_length, List.length_set, List.length_replicate, words_length, ofBytes_length, List.length_append, List.length_cons, List.length_nil, List.length_take, List.length_drop, sub_len, slots_length] <;> omega) | fail) only [L.ref02_Big, go_sem, reduceIte, reduceCtorEq, Nat.reduceEqDiff, Nat.reduceAdd, Nat.reduceSub, Nat.reduceMul, Nat.reduceDiv, Nat.reduceMod, Nat.reduceBEq, Nat.reduceLeDiff, Nat.reduceLT, Int.reduceEq, Int.reduceNe, Int.reduceLT, Int.reduceLE, Int.reduceBEq, Int.reduceBNe, Int.reduceToNat, Int.reduceAdd, Int.reduceSub, Int.reduceMul, Int.reduceNeg, zer_bytes, app_ofBytes, ofBytes_length, flats_ofBytes, hards_ofBytes, leadss_ofBytes, refsOfs_ofBytes, rens_ofBytes, bytesOf_ofBytes, sub_ofBytes, take_ofBytes, drop_ofBytes, get_ofBytes, over_ofBytes_all, over_ofBytes, ofBytes_snoc, e3, e4]
  rw [h2]
  simp (dsimp := false) (disch := first | omega | (simp only [strs_length, List.length_set, List.length_replicate, words_length, ofBytes_length, List.length_append, List.length_cons, List.length_nil, List.length_take, List.length_drop, sub_len, slots_length] <;> omega) | fail) only [L.ref02_Big.r0, go_sem, reduceIte, reduceCtorEq, Nat.reduceEqDiff, Nat.reduceAdd, Nat.reduceSub, Nat.reduceMul, Nat.reduceDiv, Nat.reduceMod, Nat.reduceBEq, Nat.reduceLeDiff, Nat.reduceLT, Int.reduceEq, Int.reduceNe, Int.reduceLT, Int.reduceLE, Int.reduceBEq, Int.reduceBNe, Int.reduceToNat, Int.reduceAdd, Int.reduceSub, Int.reduceMul, Int.reduceNeg, zer_bytes, app_ofBytes, ofBytes_length, flats_ofBytes, hards_ofBytes, leadss_ofBytes, refsOfs_ofBytes, rens_ofBytes, bytesOf_ofBytes, sub_ofBytes, take_ofBytes, drop_ofBytes, get_ofBytes, over_ofBytes_all, over_ofBytes, ofBytes_snoc]
  rfl

theorem over_cid {s : Slot} {i : Nat} {x : Int} (hi : i < 32) (h0 : 0 ≤ x) (h1 : x < 256) : over s.cells (3 + i) [.int .u8 x] = ({ s with id := s.id.set i (byt x), hid := by rw [List.length_set]; exact s.hid } : Slot).cells := by
  have hid := s.hid
  have := over_ofBytes (l := s.id) (i := i) (x := x) (by omega) h0 h1
  unfold Slot.cells
  rw [show 3 + i = ((i + 1) + 1) + 1 by omega, over_S, over_S, over_S]
  congr 3
  unfold over at this ⊢
  simp only [List.length_singleton] at this ⊢
  rw [List.take_append_of_le_length (by rw [ofBytes_length]; omega), List.drop_append_of_le_length (by rw [ofBytes_length]; omega), ← List.append_assoc, this]
  rfl

theorem bytbat (l : List UInt8) (i : Nat) : byt (bat l i) = l.getD i 0 := by
  unfold byt bat
  rw [Int.toNat_natCast, UInt8.ofNat_toNat]
theorem dslot_l0 (k : List It) {l : List UInt8} {at_ : Nat} (h : at_ + 72 ≤ l.length) (hl : l.length ≤ 1000000000) : ∀ (m i : Nat) (s : Slot), i + m = 32 → ∃ h2,
    X E [.cell 4 (some 37), .tmp 5, .tmp 6] (.c L.ref17_slot.x0 :: .lp [0, 1, 4, 7, 8] L.ref17_slot.x0 :: .blk 0 :: k) ⟨[(0, .lst (ofBytes l) l.length), (1, .int .i64 at_), (4, .ref (.s 1000000 0) 0 0), (7, .ref (.s 1000000 1) 0 0), (8, .int .i64 i)], [(.s 1000000 0, ⟨0, true, true, true, (default : Slot).cells⟩), (.s 1000000 1, ⟨0, true, true, true, Slot.cells s⟩)]⟩ =
    X E [.cell 4 (some 37), .tmp 5, .tmp 6] k ⟨[(0, .lst (ofBytes l) l.length), (1, .int .i64 at_), (4, .ref (.s 1000000 0) 0 0), (7, .ref (.s 1000000 1) 0 0), (8, .int .i64 32), (41, .bool false)], [(.s 1000000 0, ⟨0, true, true, true, (default : Slot).cells⟩), (.s 1000000 1, ⟨0, true, true, true, Slot.cells ({ s with id := s.id.take i ++ (l.drop (at_ + 40 + i)).take m, hid := h2 } : Slot)⟩)]⟩ := by
  intro m
  induction m with
  | zero =>
    intro i s h1
    obtain rfl : i = 32 := by omega
    have hid := s.hid
    refine ⟨by simp [hid], ?_⟩
    have e : ({ s with id := s.id.take 32 ++ (l.drop (at_ + 40 + 32)).take 0, hid := by simp [hid] } : Slot) = s := by
      cases s; simp only [Slot.mk.injEq, true_and, and_true]
      rw [List.take_zero, List.append_nil, List.take_of_length_le (by simp only at hid; omega)]
    rw [e, X_in L.ref17_slot.x0.eq_1]
    simp (dsimp := false) (disch := first | omega | (simp only [strs_length, List.length_set, List.length_replicate, words_length, ofBytes_length, List.length_append, List.length_cons, List.length_nil, List.length_take, List.length_drop, sub_len, slots_length] <;> omega) | fail) only [go_sem, reduceIte, reduceCtorEq, Nat.reduceEqDiff, Nat.reduceAdd, Nat.reduceSub, Nat.reduceMul, Nat.reduceDiv, Nat.reduceMod, Nat.reduceBEq, Nat.reduceLeDiff, Nat.reduceLT, Int.reduceEq, Int.reduceNe, Int.reduceLT, Int.reduceLE, Int.reduceBEq, Int.reduceBNe, Int.reduceToNat, Int.reduceAdd, Int.reduceSub, Int.reduceMul, Int.reduceNeg, zer_bytes, app_ofBytes, ofBytes_length, flats_ofBytes, hards_ofBytes, leadss_ofBytes, refsOfs_ofBytes, rens_ofBytes, bytesOf_ofBytes, sub_ofBytes, take_ofBytes, drop_ofBytes, get_ofBytes, over_ofBytes_all, over_ofBytes, ofBytes_snoc, slot0, slot0z, cells_length, flats_cells, hards_cells, leadss_cells, refsOfs_cells, rens_cells, cells_0, cells_1, cells_2, cells_35, cells_36, cells_id, over_cells, sub_cells, take_cells, slots_length, flats_slots, hards_slots, leadss_slots, refsOfs_slots, rens_slots, sub_slots, slots_0, slots_1, slots_2, slots_35, slots_36, slots_snoc]
    rfl
  | succ m ih =>
    intro i s h1
    have hid := s.hid
    obtain ⟨b0, b1⟩ := bat_range l (at_ + 40 + i)
    obtain ⟨h2, h3⟩ := ih (i + 1) ({ s with id := s.id.set i (byt (bat l (at_ + 40 + i))), hid := by rw [List.length_set]; exact hid } : Slot) (by omega)
    have e : (s.id.set i (byt (bat l (at_ + 40 + i)))).take (i + 1) ++ (l.drop (at_ + 40 + (i + 1))).take m = s.id.take i ++ (l.drop (at_ + 40 + i)).take (m + 1) := by
      rw [bytbat, drop_getD (by omega : at_ + 40 + i < l.length), show (default : UInt8) = 0 from rfl, List.take_succ_cons, List.take_add_one, List.getElem?_set_self (by omega), List.take_set_of_le (Nat.le_refl _)]
      simp only [Option.toList_some, List.append_assoc, List.cons_append, List.nil_append]
      rw [Nat.add_assoc (at_ + 40)]
    simp only [e] at h2 h3
    refine ⟨h2, ?_⟩
    rw [← h3]
    have e3 : ((at_ : Int) + 40 + (i : Int)).toNat = at_ + 40 + i := by omega
    have e4 : over s.cells (3 + i) [.int .u8 (bat l (at_ + 40 + i))] = _ := over_cid (s := s) (by omega) b0 b1
    rw [X_in L.ref17_slot.x0.eq_1]
    simp (dsimp := false) (disch := first | omega | (simp only [strs_length, List.length_set, List.length_replicate, words_length, ofBytes_length, List.length_append, List.length_cons, List.length_nil, List.length_take, List.length_drop, sub_len, slots_length] <;> omega) | fail) only [go_sem, reduceIte, reduceCtorEq, Nat.reduceEqDiff, Nat.reduceAdd, Nat.reduceSub, Nat.reduceMul, Nat.reduceDiv, Nat.reduceMod, Nat.reduceBEq, Nat.reduceLeDiff, Nat.reduceLT, Int.reduceEq, Int.reduceNe, Int.reduceLT, Int.reduceLE, Int.reduceBEq, Int.reduceBNe, Int.reduceToNat, Int.reduceAdd, Int.reduceSub, Int.reduceMul, Int.reduceNeg, zer_bytes, app_ofBytes, ofBytes_length, flats_ofBytes, hards_ofBytes, leadss_ofBytes, refsOfs_ofBytes, rens_ofBytes, bytesOf_ofBytes, sub_ofBytes, take_ofBytes, drop_ofBytes, get_ofBytes, over_ofBytes_all, over_ofBytes, ofBytes_snoc, slot0, slot0z, cells_length, flats_cells, hards_cells, leadss_cells, refsOfs_cells, rens_cells, cells_0, cells_1, cells_2, cells_35, cells_36, cells_id, over_cells, sub_cells, take_cells, slots_length, flats_slots, hards_slots, leadss_slots, refsOfs_slots, rens_slots, sub_slots, slots_0, slots_1, slots_2, slots_35, slots_36, slots_snoc, e3, e4]
    rfl
theorem idx_lt_ne {c : UInt8} : ∀ {l : List UInt8} {i : Nat}, i < l.idxOf c → l.getD i 0 ≠ c := by
  intro l
  induction l with
  | nil => intro i h; simp at h
  | cons x l ih =>
    intro i h
    rw [List.idxOf_cons] at h
    by_cases hx : x = c
    · subst hx; simp at h
    · have : (x == c) = false := by simpa using hx
      rw [this] at h
      cases i with
      | zero => simpa using hx
      | succ i => exact ih (by simpa using h)
theorem idx_at {c : UInt8} {l : List UInt8} (h : l.idxOf c < l.length) : l.getD (l.idxOf c) 0 = c := by
  rw [List.getD_eq_getElem?_getD, List.getElem?_eq_getElem h, Option.getD_some]
  exact List.getElem_idxOf h
theorem bat0 {l : List UInt8} {i : Nat} : bat l i = 0 ↔ l.getD i 0 = 0 := by
  unfold bat
  constructor
  · intro h; exact UInt8.toNat_inj.1 (by simpa using h)
  · intro h; rw [h]; rfl
theorem dslot_l1 (k : List It) {l : List UInt8} {at_ : Nat} (h : at_ + 74 ≤ l.length) (hl : l.length ≤ 1000000000) (s : Slot) : ∀ (m n : Nat), n + m = (l.drop (at_ + 74)).idxOf 0 →
    X E [.cell 4 (some 37), .tmp 5, .tmp 6] (.c L.ref17_slot.x1 :: .lp [0, 1, 4, 7, 9] L.ref17_slot.x1 :: .blk 2 :: k) ⟨[(0, .lst (ofBytes l) l.length), (1, .int .i64 at_), (4, .ref (.s 1000000 0) 0 0), (7, .ref (.s 1000000 1) 0 0), (9, .int .i64 n)], [(.s 1000000 0, ⟨0, true, true, true, (default : Slot).cells⟩), (.s 1000000 1, ⟨0, true, true, true, Slot.cells s⟩)]⟩ =
    X E [.cell 4 (some 37), .tmp 5, .tmp 6] k ⟨[(0, .lst (ofBytes l) l.length), (1, .int .i64 at_), (4, .ref (.s 1000000 0) 0 0), (7, .ref (.s 1000000 1) 0 0), (9, .int .i64 ((l.drop (at_ + 74)).idxOf 0 : Nat)), (70, .bool false)], [(.s 1000000 0, ⟨0, true, true, true, (default : Slot).cells⟩), (.s 1000000 1, ⟨0, true, true, true, Slot.cells s⟩)]⟩ := by
  have hle : (l.drop (at_ + 74)).idxOf 0 ≤ l.length - (at_ + 74) := by
    have := List.idxOf_le_length (a := (0 : UInt8)) (l := l.drop (at_ + 74))
    rwa [List.length_drop] at this
  have e3 : ∀ n : Nat, ((at_ : Int) + 74 + (n : Int)).toNat = at_ + 74 + n := fun n => by omega
  intro m
  induction m with
  | zero =>
    intro n h1
    obtain rfl : n = (l.drop (at_ + 74)).idxOf 0 := by omega
    rw [X_in L.ref17_slot.x1.eq_1]
    by_cases hz : at_ + 74 + (l.drop (at_ + 74)).idxOf 0 < l.length
    · have hb : bat l (at_ + 74 + (l.drop (at_ + 74)).idxOf 0) = 0 := by
        rw [bat0]
        have := idx_at (c := 0) (l := l.drop (at_ + 74)) (by rw [List.length_drop]; omega)
        simpa [List.getD, List.getElem?_drop] using this
      have hd : decide ((at_ : Int) + 74 + ((l.drop (at_ + 74)).idxOf 0 : Nat) < l.length) = true := dec_t (by omega)
      have hn : ((0 : Int) != 0) = false := rfl
      generalize (l.drop (at_ + 74)).idxOf 0 = z at *
      simp (dsimp := false) (disch := first | omega | (simp only [strs_length, List.length_set, List.length_replicate, words_length, ofBytes_length, List.length_append, List.length_cons, List.length_nil, List.length_take, List.length_drop, sub_len, slots_length] <;> omega) | fail) only [go_sem, reduceIte, reduceCtorEq, Nat.reduceEqDiff, Nat.reduceAdd, Nat.reduceSub, Nat.reduceMul, Nat.reduceDiv, Nat.reduceMod, Nat.reduceBEq, Nat.reduceLeDiff, Nat.reduceLT, Int.reduceEq, Int.reduceNe, Int.reduceLT, Int.reduceLE, Int.reduceBEq, Int.reduceBNe, Int.reduceToNat, Int.reduceAdd, Int.reduceSub, Int.reduceMul, Int.reduceNeg, zer_bytes, app_ofBytes, ofBytes_length, flats_ofBytes, hards_ofBytes, leadss_ofBytes, refsOfs_ofBytes, rens_ofBytes, bytesOf_ofBytes, sub_ofBytes, take_ofBytes, drop_ofBytes, get_ofBytes, over_ofBytes_all, over_ofBytes, ofBytes_snoc, slot0, slot0z, cells_length, flats_cells, hards_cells, leadss_cells, refsOfs_cells, rens_cells, cells_0, cells_1, cells_2, cells_35, cells_36, cells_id, over_cells, sub_cells, take_cells, slots_length, flats_slots, hards_slots, leadss_slots, refsOfs_slots, rens_slots, sub_slots, slots_0, slots_1, slots_2, slots_35, slots_36, slots_snoc, e3, hb, hd, hn]
    · have hd : decide ((at_ : Int) + 74 + ((l.drop (at_ + 74)).idxOf 0 : Nat) < l.length) = false := dec_f (by omega)
      generalize (l.drop (at_ + 74)).idxOf 0 = z at *
      simp (dsimp := false) (disch := first | omega | (simp only [strs_length, List.length_set, List.length_replicate, words_length, ofBytes_length, List.length_append, List.length_cons, List.length_nil, List.length_take, List.length_drop, sub_len, slots_length] <;> omega) | fail) only [go_sem, reduceIte, reduceCtorEq, Nat.reduceEqDiff, Nat.reduceAdd, Nat.reduceSub, Nat.reduceMul, Nat.reduceDiv, Nat.reduceMod, Nat.reduceBEq, Nat.reduceLeDiff, Nat.reduceLT, Int.reduceEq, Int.reduceNe, Int.reduceLT, Int.reduceLE, Int.reduceBEq, Int.reduceBNe, Int.reduceToNat, Int.reduceAdd, Int.reduceSub, Int.reduceMul, Int.reduceNeg, zer_bytes, app_ofBytes, ofBytes_length, flats_ofBytes, hards_ofBytes, leadss_ofBytes, refsOfs_ofBytes, rens_ofBytes, bytesOf_ofBytes, sub_ofBytes, take_ofBytes, drop_ofBytes, get_ofBytes, over_ofBytes_all, over_ofBytes, ofBytes_snoc, slot0, slot0z, cells_length, flats_cells, hards_cells, leadss_cells, refsOfs_cells, rens_cells, cells_0, cells_1, cells_2, cells_35, cells_36, cells_id, over_cells, sub_cells, take_cells, slots_length, flats_slots, hards_slots, leadss_slots, refsOfs_slots, rens_slots, sub_slots, slots_0, slots_1, slots_2, slots_35, slots_36, slots_snoc, hd]
  | succ m ih =>
    intro n h1
    have h2 := ih (n + 1) (by omega)
    rw [← h2]
    have hb : (bat l (at_ + 74 + n) != 0) = true := by
      apply bne_t
      rw [Ne, bat0]
      have := idx_lt_ne (c := 0) (l := l.drop (at_ + 74)) (i := n) (by omega)
      simpa [List.getD, List.getElem?_drop] using this
    have hd : decide ((at_ : Int) + 74 + (n : Int) < l.length) = true := dec_t (by omega)
    rw [X_in L.ref17_slot.x1.eq_1]
    generalize (l.drop (at_ + 74)).idxOf 0 = z at *
    simp (dsimp := false) (disch := first | omega | (simp only [strs_length, List.length_set, List.length_replicate, words_length, ofBytes_length, List.length_append, List.length_cons, List.length_nil, List.length_take, List.length_drop, sub_len, slots_length] <;> omega) | fail) only [go_sem, reduceIte, reduceCtorEq, Nat.reduceEqDiff, Nat.reduceAdd, Nat.reduceSub, Nat.reduceMul, Nat.reduceDiv, Nat.reduceMod, Nat.reduceBEq, Nat.reduceLeDiff, Nat.reduceLT, Int.reduceEq, Int.reduceNe, Int.reduceLT, Int.reduceLE, Int.reduceBEq, Int.reduceBNe, Int.reduceToNat, Int.reduceAdd, Int.reduceSub, Int.reduceMul, Int.reduceNeg, zer_bytes, app_ofBytes, ofBytes_length, flats_ofBytes, hards_ofBytes, leadss_ofBytes, refsOfs_ofBytes, rens_ofBytes, bytesOf_ofBytes, sub_ofBytes, take_ofBytes, drop_ofBytes, get_ofBytes, over_ofBytes_all, over_ofBytes, ofBytes_snoc, slot0, slot0z, cells_length, flats_cells, hards_cells, leadss_cells, refsOfs_cells, rens_cells, cells_0, cells_1, cells_2, cells_35, cells_36, cells_id, over_cells, sub_cells, take_cells, slots_length, flats_slots, hards_slots, leadss_slots, refsOfs_slots, rens_slots, sub_slots, slots_0, slots_1, slots_2, slots_35, slots_36, slots_snoc, e3, hb, hd]
    rfl

/-- The reference's slot at a place. -/
theorem go_dslot_t {l : List UInt8} {n at_ : Nat} (hn : n = l.length) (h : at_ + 75 ≤ l.length) (hl : l.length ≤ 1000000000) :
    S E F.ref17_slot [.lst (ofBytes l) n, .int .i64 at_] [] = some (.tup [.agg (slotAt (l.drop at_)).cells, .int .i64 (at_ + slotLen (l.drop at_) : Nat), .bool true], []) := by
  subst hn
  have hzle : zAt (l.drop at_) ≤ l.length - (at_ + 74) := by
    unfold zAt
    have := List.idxOf_le_length (a := (0 : UInt8)) (l := (l.drop at_).drop 74)
    rwa [List.length_drop, List.length_drop, Nat.sub_sub] at this
  have hz : (l.drop (at_ + 74)).idxOf 0 = zAt (l.drop at_) := by unfold zAt; rw [List.drop_drop]
  have f8 := @go_r2big l (at_ + 8) 4 l.length rfl (by omega) (by omega) hl
  have f24 := @go_r2big l (at_ + 24) 4 l.length rfl (by omega) (by omega) hl
  have f36 := @go_r2big l (at_ + 36) 4 l.length rfl (by omega) (by omega) hl
  simp only [Int.natCast_add, Int.cast_ofNat_Int] at f8 f24 f36
  have g8 : bigN ((l.drop (at_ + 8)).take 4) = bigN (((l.drop at_).drop 8).take 4) := by rw [List.drop_drop]
  have g24 : bigN ((l.drop (at_ + 24)).take 4) = bigN (((l.drop at_).drop 24).take 4) := by rw [List.drop_drop]
  have g36 : bigN ((l.drop (at_ + 36)).take 4) = bigN (((l.drop at_).drop 36).take 4) := by rw [List.drop_drop]
  have w : ∀ q : List UInt8, IntKind.i64.wrap (bigN (q.take 4) : Int) = bigN (q.take 4) := fun q => by
    have := bigN_lt (q.take 4)
    have h2 : (q.take 4).length ≤ 4 := by simp; omega
    have h3 : 256 ^ (q.take 4).length ≤ 256 ^ 4 := Nat.pow_le_pow_right (by omega) h2
    exact wrap_i64 (by omega) (by omega)
  have e72 : ((at_ : Int) + 72).toNat = at_ + 72 := by omega
  have hst : (bat l (at_ + 72)).tdiv 16 % 256 % 4 = stg ((l.drop at_).getD 72 0) := by
    have := bat_range l (at_ + 72)
    rw [Int.tdiv_eq_ediv_of_nonneg (by omega)]
    unfold stg bat
    rw [show (l.drop at_).getD 72 0 = l.getD (at_ + 72) 0 by simp [List.getD, List.getElem?_drop]]
    omega
  obtain ⟨h2, hx⟩ := dslot_l0 [.c L.ref17_slot.r0] (l := l) (at_ := at_) (by omega) hl 32 0 (⟨[], stg ((l.drop at_).getD 72 0), bigN (((l.drop at_).drop 24).take 4), List.replicate 32 0, bigN (((l.drop at_).drop 36).take 4), bigN (((l.drop at_).drop 8).take 4), rfl⟩) (by omega)
  rw [S_of fn_ref17_slot rfl rfl]
  simp (dsimp := false) (disch := first | omega | (simp only [strs_length, List.length_set, List.length_replicate, words_length, ofBytes_length, List.length_append, List.length_cons, List.length_nil, List.length_take, List.length_drop, sub_len, slots_length] <;> omega) | fail) only [L.ref17_slot, go_sem, reduceIte, reduceCtorEq, Nat.reduceEqDiff, Nat.reduceAdd, Nat.reduceSub, Nat.reduceMul, Nat.reduceDiv, Nat.reduceMod, Nat.reduceBEq, Nat.reduceLeDiff, Nat.reduceLT, Int.reduceEq, Int.reduceNe, Int.reduceLT, Int.reduceLE, Int.reduceBEq, Int.reduceBNe, Int.reduceToNat, Int.reduceAdd, Int.reduceSub, Int.reduceMul, Int.reduceNeg, zer_bytes, app_ofBytes, ofBytes_length, flats_ofBytes, hards_ofBytes, leadss_ofBytes, refsOfs_ofBytes, rens_ofBytes, bytesOf_ofBytes, sub_ofBytes, take_ofBytes, drop_ofBytes, get_ofBytes, over_ofBytes_all, over_ofBytes, ofBytes_snoc, slot0, slot0z, cells_length, flats_cells, hards_cells, leadss_cells, refsOfs_cells, rens_cells, cells_0, cells_1, cells_2, cells_35, cells_36, cells_id, over_cells, sub_cells, take_cells, slots_length, flats_slots, hards_slots, leadss_slots, refsOfs_slots, rens_slots, sub_slots, slots_0, slots_1, slots_2, slots_35, slots_36, slots_snoc, f8, f24, f36, w, g8, g24, g36, e72, hst, over_c0, over_c1, over_c2, over_c3, over_c35, over_c36]
  refine hx.trans ?_
  have hid : (List.take 0 (List.replicate 32 (0 : UInt8)) ++ List.take 32 (List.drop (at_ + 40 + 0) l)) = idAt (l.drop at_) := by
    rw [idAt_eq (by rw [List.length_drop]; omega)]
    simp [sub, List.drop_drop]
  simp only [hid] at h2
  have hS : ∀ h, (⟨[], stg ((l.drop at_).getD 72 0), bigN (((l.drop at_).drop 24).take 4), List.take 0 (List.replicate 32 (0 : UInt8)) ++ List.take 32 (List.drop (at_ + 40 + 0) l), bigN (((l.drop at_).drop 36).take 4), bigN (((l.drop at_).drop 8).take 4), h⟩ : Slot) =
      ⟨[], stg ((l.drop at_).getD 72 0), bigN (((l.drop at_).drop 24).take 4), idAt (l.drop at_), bigN (((l.drop at_).drop 36).take 4), bigN (((l.drop at_).drop 8).take 4), h2⟩ := by
    intro h
    simp only [Slot.mk.injEq, true_and, and_true]
    exact hid
  simp only [hS]
  generalize hs0 : (⟨[], stg ((l.drop at_).getD 72 0), bigN (((l.drop at_).drop 24).take 4), idAt (l.drop at_), bigN (((l.drop at_).drop 36).take 4), bigN (((l.drop at_).drop 8).take 4), h2⟩ : Slot) = s0
  have hl1 := dslot_l1 [.c L.ref17_slot.r1] (l := l) (at_ := at_) (by omega) hl s0 _ 0 (Nat.zero_add _)
  simp only [Int.cast_ofNat_Int] at hl1
  simp (dsimp := false) (disch := first | omega | (simp only [strs_length, List.length_set, List.length_replicate, words_length, ofBytes_length, List.length_append, List.length_cons, List.length_nil, List.length_take, List.length_drop, sub_len, slots_length] <;> omega) | fail) only [L.ref17_slot.r0, go_sem, reduceIte, reduceCtorEq, Nat.reduceEqDiff, Nat.reduceAdd, Nat.reduceSub, Nat.reduceMul, Nat.reduceDiv, Nat.reduceMod, Nat.reduceBEq, Nat.reduceLeDiff, Nat.reduceLT, Int.reduceEq, Int.reduceNe, Int.reduceLT, Int.reduceLE, Int.reduceBEq, Int.reduceBNe, Int.reduceToNat, Int.reduceAdd, Int.reduceSub, Int.reduceMul, Int.reduceNeg, zer_bytes, app_ofBytes, ofBytes_length, flats_ofBytes, hards_ofBytes, leadss_ofBytes, refsOfs_ofBytes, rens_ofBytes, bytesOf_ofBytes, sub_ofBytes, take_ofBytes, drop_ofBytes, get_ofBytes, over_ofBytes_all, over_ofBytes, ofBytes_snoc, slot0, slot0z, cells_length, flats_cells, hards_cells, leadss_cells, refsOfs_cells, rens_cells, cells_0, cells_1, cells_2, cells_35, cells_36, cells_id, over_cells, sub_cells, take_cells, slots_length, flats_slots, hards_slots, leadss_slots, refsOfs_slots, rens_slots, sub_slots, slots_0, slots_1, slots_2, slots_35, slots_36, slots_snoc]
  refine hl1.trans ?_
  rw [hz]
  have e74 : ((at_ : Int) + 74).toNat = at_ + 74 := by omega
  have ez : ((at_ : Int) + 74 + (zAt (l.drop at_) : Int)).toNat = at_ + 74 + zAt (l.drop at_) := by omega
  have ez2 : at_ + 74 + zAt (l.drop at_) - (at_ + 74) = zAt (l.drop at_) := by omega
  have hsub : sub l (at_ + 74) (zAt (l.drop at_)) = sub (l.drop at_) 74 (zAt (l.drop at_)) := by simp [sub, List.drop_drop]
  have hfin : ({ s0 with path := sub (l.drop at_) 74 (zAt (l.drop at_)) } : Slot) = slotAt (l.drop at_) := by rw [← hs0]; rfl
  have hnext : (at_ : Int) + (74 + (zAt (l.drop at_) : Int)) / 8 * 8 + 8 = ((at_ + slotLen (l.drop at_) : Nat) : Int) := by
    unfold slotLen
    omega
  generalize zAt (l.drop at_) = z at *
  generalize slotLen (l.drop at_) = sl at *
  simp (dsimp := false) (disch := first | omega | (simp only [strs_length, List.length_set, List.length_replicate, words_length, ofBytes_length, List.length_append, List.length_cons, List.length_nil, List.length_take, List.length_drop, sub_len, slots_length] <;> omega) | fail) only [L.ref17_slot.r1, go_sem, reduceIte, reduceCtorEq, Nat.reduceEqDiff, Nat.reduceAdd, Nat.reduceSub, Nat.reduceMul, Nat.reduceDiv, Nat.reduceMod, Nat.reduceBEq, Nat.reduceLeDiff, Nat.reduceLT, Int.reduceEq, Int.reduceNe, Int.reduceLT, Int.reduceLE, Int.reduceBEq, Int.reduceBNe, Int.reduceToNat, Int.reduceAdd, Int.reduceSub, Int.reduceMul, Int.reduceNeg, zer_bytes, app_ofBytes, ofBytes_length, flats_ofBytes, hards_ofBytes, leadss_ofBytes, refsOfs_ofBytes, rens_ofBytes, bytesOf_ofBytes, sub_ofBytes, take_ofBytes, drop_ofBytes, get_ofBytes, over_ofBytes_all, over_ofBytes, ofBytes_snoc, slot0, slot0z, cells_length, flats_cells, hards_cells, leadss_cells, refsOfs_cells, rens_cells, cells_0, cells_1, cells_2, cells_35, cells_36, cells_id, over_cells, sub_cells, take_cells, slots_length, flats_slots, hards_slots, leadss_slots, refsOfs_slots, rens_slots, sub_slots, slots_0, slots_1, slots_2, slots_35, slots_36, slots_snoc, e74, ez, ez2, hsub, over_c0, hfin, hnext]
theorem go_dslot_f {l : List UInt8} {n at_ : Nat} (hn : n = l.length) (h : l.length < at_ + 75) (hl : l.length ≤ 1000000000) (hat : at_ ≤ 2000000000) :
    S E F.ref17_slot [.lst (ofBytes l) n, .int .i64 at_] [] = some (.tup [.agg (default : Slot).cells, .int .i64 0, .bool false], []) := by
  rw [S_of fn_ref17_slot rfl rfl]
  have hd : decide ((n : Int) - at_ < 75) = true := dec_t (by omega)
  simp (dsimp := false) (disch := first | omega | (simp only [strs_length, List.length_set, List.length_replicate, words_length, ofBytes_length, List.length_append, List.length_cons, List.length_nil, List.length_take, List.length_drop, sub_len, slots_length] <;> omega) | fail) only [L.ref17_slot, go_sem, reduceIte, reduceCtorEq, Nat.reduceEqDiff, Nat.reduceAdd, Nat.reduceSub, Nat.reduceMul, Nat.reduceDiv, Nat.reduceMod, Nat.reduceBEq, Nat.reduceLeDiff, Nat.reduceLT, Int.reduceEq, Int.reduceNe, Int.reduceLT, Int.reduceLE, Int.reduceBEq, Int.reduceBNe, Int.reduceToNat, Int.reduceAdd, Int.reduceSub, Int.reduceMul, Int.reduceNeg, zer_bytes, app_ofBytes, ofBytes_length, flats_ofBytes, hards_ofBytes, leadss_ofBytes, refsOfs_ofBytes, rens_ofBytes, bytesOf_ofBytes, sub_ofBytes, take_ofBytes, drop_ofBytes, get_ofBytes, over_ofBytes_all, over_ofBytes, ofBytes_snoc, slot0, slot0z, cells_length, flats_cells, hards_cells, leadss_cells, refsOfs_cells, rens_cells, cells_0, cells_1, cells_2, cells_35, cells_36, cells_id, over_cells, sub_cells, take_cells, slots_length, flats_slots, hards_slots, leadss_slots, refsOfs_slots, rens_slots, sub_slots, slots_0, slots_1, slots_2, slots_35, slots_36, slots_snoc, hd]
/-- The slots that the reference finds. -/
def docL : Nat → List UInt8 → List Slot → Option (List Slot)
  | 0, _, _ => none
  | m + 1, rest, acc => if rest.length = 0 then some acc else
      if rest.length < 75 ∨ acc.length = 4096 then none else docL m (rest.drop (slotLen rest)) (acc ++ [slotAt rest])
theorem docL_l0 (k : List It) (p : List UInt8) (q : Nat) (hq : q ≤ p.length) (hp : p.length ≤ 100000000) : ∀ (m at_ : Nat) (acc : List Slot), ((p.take q).drop at_).length < m → at_ ≤ q + 200000000 → acc.length ≤ 4096 → ∃ jk,
    X E [.tmp 2, .tmp 3] (.c L.ref17_DocParse.x0 :: .lp [0, 4, 5, 6] L.ref17_DocParse.x0 :: .blk 0 :: k) ⟨[(0, .lst (ofBytes p) p.length), (4, .int .i64 q), (5, .buf (.s 1000000 0) 0 0 acc.length 37), (6, .int .i64 at_)], [(.s 1000000 0, ⟨0, true, true, false, slots acc⟩)]⟩ =
    match docL m ((p.take q).drop at_) acc with
    | some l => X E [.tmp 2, .tmp 3] k ⟨[(0, .lst (ofBytes p) p.length), (4, .int .i64 q), (5, .buf (.s 1000000 0) 0 0 l.length 37), (6, jk), (20, .bool false)], [(.s 1000000 0, ⟨0, true, true, false, slots l⟩)]⟩
    | none => some (.tup [.buf (.r 0) 0 0 0 37, .int .i64 4], [(.r 0, ⟨0, true, true, false, []⟩)]) := by
  have hql : (p.take q).length = q := by rw [List.length_take]; omega
  have es : sub p 0 q = p.take q := rfl
  intro m
  induction m with
  | zero => intro at_ acc h; omega
  | succ m ih =>
    intro at_ acc h1 h2 h3
    have hrl : ((p.take q).drop at_).length = q - at_ := by rw [List.length_drop, hql]
    rw [X_in L.ref17_DocParse.x0.eq_1]
    unfold docL
    by_cases h0 : ((p.take q).drop at_).length = 0
    · refine ⟨.int .i64 at_, ?_⟩
      rw [if_pos h0]
      have hd : decide ((at_ : Int) < q) = false := dec_f (by omega)
      simp (dsimp := false) (disch := first | omega | (simp only [strs_length, List.length_set, List.length_replicate, words_length, ofBytes_length, List.length_append, List.length_cons, List.length_nil, List.length_take, List.length_drop, sub_len, slots_length] <;> omega) | fail) only [go_sem, reduceIte, reduceCtorEq, Nat.reduceEqDiff, Nat.reduceAdd, Nat.reduceSub, Nat.reduceMul, Nat.reduceDiv, Nat.reduceMod, Nat.reduceBEq, Nat.reduceLeDiff, Nat.reduceLT, Int.reduceEq, Int.reduceNe, Int.reduceLT, Int.reduceLE, Int.reduceBEq, Int.reduceBNe, Int.reduceToNat, Int.reduceAdd, Int.reduceSub, Int.reduceMul, Int.reduceNeg, zer_bytes, app_ofBytes, ofBytes_length, flats_ofBytes, hards_ofBytes, leadss_ofBytes, refsOfs_ofBytes, rens_ofBytes, bytesOf_ofBytes, sub_ofBytes, take_ofBytes, drop_ofBytes, get_ofBytes, over_ofBytes_all, over_ofBytes, ofBytes_snoc, slot0, slot0z, cells_length, flats_cells, hards_cells, leadss_cells, refsOfs_cells, rens_cells, cells_0, cells_1, cells_2, cells_35, cells_36, cells_id, over_cells, sub_cells, take_cells, slots_length, flats_slots, hards_slots, leadss_slots, refsOfs_slots, rens_slots, sub_slots, slots_0, slots_1, slots_2, slots_35, slots_36, slots_snoc, hd]
    · rw [if_neg h0]
      have hd : decide ((at_ : Int) < q) = true := dec_t (by omega)
      by_cases hs : q < at_ + 75
      · have hg := go_dslot_f (l := p.take q) (n := q) (at_ := at_) hql.symm (by omega) (by omega) (by omega)
        rw [if_pos (.inl (by omega))]
        refine ⟨.und, ?_⟩
        simp (dsimp := false) (disch := first | omega | (simp only [strs_length, List.length_set, List.length_replicate, words_length, ofBytes_length, List.length_append, List.length_cons, List.length_nil, List.length_take, List.length_drop, sub_len, slots_length] <;> omega) | fail) only [go_sem, reduceIte, reduceCtorEq, Nat.reduceEqDiff, Nat.reduceAdd, Nat.reduceSub, Nat.reduceMul, Nat.reduceDiv, Nat.reduceMod, Nat.reduceBEq, Nat.reduceLeDiff, Nat.reduceLT, Int.reduceEq, Int.reduceNe, Int.reduceLT, Int.reduceLE, Int.reduceBEq, Int.reduceBNe, Int.reduceToNat, Int.reduceAdd, Int.reduceSub, Int.reduceMul, Int.reduceNeg, zer_bytes, app_ofBytes, ofBytes_length, flats_ofBytes, hards_ofBytes, leadss_ofBytes, refsOfs_ofBytes, rens_ofBytes, bytesOf_ofBytes, sub_ofBytes, take_ofBytes, drop_ofBytes, get_ofBytes, over_ofBytes_all, over_ofBytes, ofBytes_snoc, slot0, slot0z, cells_length, flats_cells, hards_cells, leadss_cells, refsOfs_cells, rens_cells, cells_0, cells_1, cells_2, cells_35, cells_36, cells_id, over_cells, sub_cells, take_cells, slots_length, flats_slots, hards_slots, leadss_slots, refsOfs_slots, rens_slots, sub_slots, slots_0, slots_1, slots_2, slots_35, slots_36, slots_snoc, hd, Nat.sub_zero, es, hg]
      · have hg := go_dslot_t (l := p.take q) (n := q) (at_ := at_) hql.symm (by omega) (by omega)
        have hsl : slotLen ((p.take q).drop at_) ≤ 100000100 := by
          unfold slotLen zAt
          have := List.idxOf_le_length (a := (0 : UInt8)) (l := ((p.take q).drop at_).drop 74)
          rw [List.length_drop] at this
          omega
        by_cases hc : acc.length = 4096
        · rw [if_pos (.inr hc)]
          refine ⟨.und, ?_⟩
          simp (dsimp := false) (disch := first | omega | (simp only [strs_length, List.length_set, List.length_replicate, words_length, ofBytes_length, List.length_append, List.length_cons, List.length_nil, List.length_take, List.length_drop, sub_len, slots_length] <;> omega) | fail) only [go_sem, reduceIte, reduceCtorEq, Nat.reduceEqDiff, Nat.reduceAdd, Nat.reduceSub, Nat.reduceMul, Nat.reduceDiv, Nat.reduceMod, Nat.reduceBEq, Nat.reduceLeDiff, Nat.reduceLT, Int.reduceEq, Int.reduceNe, Int.reduceLT, Int.reduceLE, Int.reduceBEq, Int.reduceBNe, Int.reduceToNat, Int.reduceAdd, Int.reduceSub, Int.reduceMul, Int.reduceNeg, zer_bytes, app_ofBytes, ofBytes_length, flats_ofBytes, hards_ofBytes, leadss_ofBytes, refsOfs_ofBytes, rens_ofBytes, bytesOf_ofBytes, sub_ofBytes, take_ofBytes, drop_ofBytes, get_ofBytes, over_ofBytes_all, over_ofBytes, ofBytes_snoc, slot0, slot0z, cells_length, flats_cells, hards_cells, leadss_cells, refsOfs_cells, rens_cells, cells_0, cells_1, cells_2, cells_35, cells_36, cells_id, over_cells, sub_cells, take_cells, slots_length, flats_slots, hards_slots, leadss_slots, refsOfs_slots, rens_slots, sub_slots, slots_0, slots_1, slots_2, slots_35, slots_36, slots_snoc, hd, Nat.sub_zero, es, hg, hc]
        · rw [if_neg (by omega)]
          obtain ⟨jk, hi⟩ := ih (at_ + slotLen ((p.take q).drop at_)) (acc ++ [slotAt ((p.take q).drop at_)]) (by rw [← List.drop_drop, List.length_drop]; have := slotLen_pos ((p.take q).drop at_); omega) (by omega) (by simp; omega)
          refine ⟨jk, ?_⟩
          rw [List.drop_drop, ← hi]
          simp (dsimp := false) (disch := first | omega | (simp only [strs_length, List.length_set, List.length_replicate, words_length, ofBytes_length, List.length_append, List.length_cons, List.length_nil, List.length_take, List.length_drop, sub_len, slots_length] <;> omega) | fail) only [go_sem, reduceIte, reduceCtorEq, Nat.reduceEqDiff, Nat.reduceAdd, Nat.reduceSub, Nat.reduceMul, Nat.reduceDiv, Nat.reduceMod, Nat.reduceBEq, Nat.reduceLeDiff, Nat.reduceLT, Int.reduceEq, Int.reduceNe, Int.reduceLT, Int.reduceLE, Int.reduceBEq, Int.reduceBNe, Int.reduceToNat, Int.reduceAdd, Int.reduceSub, Int.reduceMul, Int.reduceNeg, zer_bytes, app_ofBytes, ofBytes_length, flats_ofBytes, hards_ofBytes, leadss_ofBytes, refsOfs_ofBytes, rens_ofBytes, bytesOf_ofBytes, sub_ofBytes, take_ofBytes, drop_ofBytes, get_ofBytes, over_ofBytes_all, over_ofBytes, ofBytes_snoc, slot0, slot0z, cells_length, flats_cells, hards_cells, leadss_cells, refsOfs_cells, rens_cells, cells_0, cells_1, cells_2, cells_35, cells_36, cells_id, over_cells, sub_cells, take_cells, slots_length, flats_slots, hards_slots, leadss_slots, refsOfs_slots, rens_slots, sub_slots, slots_0, slots_1, slots_2, slots_35, slots_36, slots_snoc, hd, Nat.sub_zero, es, hg, List.length_append, List.length_singleton]
end Cod

/- An index is parsed, by the reference: the whole; it answers as Parse does. -/
namespace Cod
open Go

/-- What the program finds, the reference finds. -/
theorem docL_of_parseL : ∀ (m : Nat) (rest : List UInt8) (acc l : List Slot), parseL m rest acc = some l → docL m rest acc = some l := by
  intro m
  induction m with
  | zero => intro rest acc l h; simp [parseL] at h
  | succ m ih =>
    intro rest acc l h
    unfold parseL at h
    unfold docL
    by_cases h0 : rest.length = 0
    · rw [if_pos h0] at h ⊢; exact h
    · rw [if_neg h0] at h ⊢
      by_cases hs : hasSlot rest
      · rw [if_pos hs] at h
        by_cases hc : rest.length < slotLen rest ∨ acc.length = 4096
        · rw [if_pos hc] at h; cases h
        · rw [if_neg hc] at h
          rw [not_or] at hc
          have := hs.1
          rw [if_neg (by omega)]
          exact ih _ _ _ h
      · rw [if_neg hs] at h; cases h
theorem docL_length : ∀ {m : Nat} {rest : List UInt8} {acc l : List Slot}, docL m rest acc = some l → acc.length ≤ 4096 → l.length ≤ 4096 := by
  intro m
  induction m with
  | zero => intro rest acc l h; simp [docL] at h
  | succ m ih =>
    intro rest acc l h ha
    unfold docL at h
    split at h
    · cases h; exact ha
    · split at h
      · cases h
      · rename_i hc
        rw [not_or] at hc
        exact ih h (by simp; omega)
theorem docL_mono : ∀ (m : Nat) (rest : List UInt8) (acc l : List Slot), docL m rest acc = some l → ∀ k, m ≤ k → docL k rest acc = some l := by
  intro m
  induction m with
  | zero => intro rest acc l h; simp [docL] at h
  | succ m ih =>
    intro rest acc l h k hk
    obtain ⟨k, rfl⟩ : ∃ k', k = k' + 1 := ⟨k - 1, by omega⟩
    unfold docL at h ⊢
    split
    · rename_i h0; rw [if_pos h0] at h; exact h
    · rename_i h0
      rw [if_neg h0] at h
      split
      · rename_i hc; rw [if_pos hc] at h; cases h
      · rename_i hc; rw [if_neg hc] at h; exact ih _ _ _ h k (by omega)
theorem slotAt_path (l : List UInt8) : (slotAt l).path.length ≤ l.length := by
  show (sub l 74 (zAt l)).length ≤ _
  rw [sub_len]; omega
theorem docL_paths : ∀ (m : Nat) (rest : List UInt8) (acc l : List Slot) (B : Nat), docL m rest acc = some l → rest.length ≤ B → (∀ i, (lat acc i).path.length ≤ B) → ∀ i, (lat l i).path.length ≤ B := by
  intro m
  induction m with
  | zero => intro rest acc l B h; simp [docL] at h
  | succ m ih =>
    intro rest acc l B h hB ha
    unfold docL at h
    split at h
    · cases h; exact ha
    · split at h
      · cases h
      · refine ih _ _ l B h (by rw [List.length_drop]; omega) fun i => ?_
        unfold lat at ha ⊢
        rw [List.getD_eq_getElem?_getD, List.getElem?_append]
        split
        · have := ha i
          rwa [List.getD_eq_getElem?_getD] at this
        · have h1 := slotAt_path rest
          rcases Nat.lt_or_ge (i - acc.length) 1 with hi | hi
          · have : i - acc.length = 0 := by omega
            rw [this]
            simp only [List.getElem?_cons_zero, Option.getD_some]
            omega
          · rw [List.getElem?_eq_none (by simpa using hi)]
            simp [default, instInhabitedSlot]
theorem putF_take {l : List Slot} : (putF l).take ((putF l).length - 32) = bodyF l := by
  have hs := shaF_length (bodyF l)
  rw [putF, List.length_append, hs, Nat.add_sub_cancel, List.take_left']
  rfl
theorem dparse_end {p : List UInt8} {l : List Slot} {jk : AV} (h1 : p.length ≤ 2097152) (h2 : 44 ≤ p.length) (hll : l.length ≤ 4096) (hp : ∀ i, (lat l i).path.length ≤ 1000000000) :
    X E [.tmp 2, .tmp 3] [.c L.ref17_DocParse.r0] ⟨[(0, .lst (ofBytes p) p.length), (4, .int .i64 (p.length - 32 : Nat)), (5, .buf (.s 1000000 0) 0 0 l.length 37), (6, jk), (20, .bool false)], [(.s 1000000 0, ⟨0, true, true, false, slots l⟩)]⟩ =
    some (.tup [.buf (.r 0) 0 0 (parseG p l).1.length 37, .int .i64 (parseG p l).2], [(.r 0, ⟨0, true, true, false, slots (parseG p l).1⟩)]) := by
  have hd := go_doccheck (l := l) (by omega) hp
  rw [← check_doc] at hd
  have e2 : sub p 0 (p.length - 32) = p.take (p.length - 32) := rfl
  have e3 : (((p.length - 32 : Nat) : Int)).toNat = p.length - 32 := by omega
  unfold parseG
  rw [putF_take]
  by_cases hc : checkF l = 0
  · have hg := check_good hc
    rw [hc] at hd
    simp only [hc, true_and]
    by_cases ht : bodyF l = p.take (p.length - 32)
    · have ht' : (bodyF l == p.take (p.length - 32)) = true := by simpa using ht
      rw [if_pos ht]
      by_cases he : putF l = p
      · have he' : (putF l == p) = true := by simpa using he
        rw [if_pos he]
        simp (dsimp := false) (disch := first | omega | (simp only [strs_length, List.length_set, List.length_replicate, words_length, ofBytes_length, List.length_append, List.length_cons, List.length_nil, List.length_take, List.length_drop, sub_len, slots_length] <;> omega) | fail) only [L.ref17_DocParse.r0, go_sem, reduceIte, reduceCtorEq, Nat.reduceEqDiff, Nat.reduceAdd, Nat.reduceSub, Nat.reduceMul, Nat.reduceDiv, Nat.reduceMod, Nat.reduceBEq, Nat.reduceLeDiff, Nat.reduceLT, Int.reduceEq, Int.reduceNe, Int.reduceLT, Int.reduceLE, Int.reduceBEq, Int.reduceBNe, Int.reduceToNat, Int.reduceAdd, Int.reduceSub, Int.reduceMul, Int.reduceNeg, zer_bytes, app_ofBytes, ofBytes_length, flats_ofBytes, hards_ofBytes, leadss_ofBytes, refsOfs_ofBytes, rens_ofBytes, bytesOf_ofBytes, sub_ofBytes, take_ofBytes, drop_ofBytes, get_ofBytes, over_ofBytes_all, over_ofBytes, ofBytes_snoc, slot0, slot0z, cells_length, flats_cells, hards_cells, leadss_cells, refsOfs_cells, rens_cells, cells_0, cells_1, cells_2, cells_35, cells_36, cells_id, over_cells, sub_cells, take_cells, slots_length, flats_slots, hards_slots, leadss_slots, refsOfs_slots, rens_slots, sub_slots, slots_0, slots_1, slots_2, slots_35, slots_36, slots_snoc, hd, go_rbody hg, go_rput hg, e2, e3, Nat.sub_zero, go_same, ht', he', List.length_take]
      · have he' : (putF l == p) = false := by simpa using he
        rw [if_neg he]
        simp (dsimp := false) (disch := first | omega | (simp only [strs_length, List.length_set, List.length_replicate, words_length, ofBytes_length, List.length_append, List.length_cons, List.length_nil, List.length_take, List.length_drop, sub_len, slots_length] <;> omega) | fail) only [L.ref17_DocParse.r0, go_sem, reduceIte, reduceCtorEq, Nat.reduceEqDiff, Nat.reduceAdd, Nat.reduceSub, Nat.reduceMul, Nat.reduceDiv, Nat.reduceMod, Nat.reduceBEq, Nat.reduceLeDiff, Nat.reduceLT, Int.reduceEq, Int.reduceNe, Int.reduceLT, Int.reduceLE, Int.reduceBEq, Int.reduceBNe, Int.reduceToNat, Int.reduceAdd, Int.reduceSub, Int.reduceMul, Int.reduceNeg, zer_bytes, app_ofBytes, ofBytes_length, flats_ofBytes, hards_ofBytes, leadss_ofBytes, refsOfs_ofBytes, rens_ofBytes, bytesOf_ofBytes, sub_ofBytes, take_ofBytes, drop_ofBytes, get_ofBytes, over_ofBytes_all, over_ofBytes, ofBytes_snoc, slot0, slot0z, cells_length, flats_cells, hards_cells, leadss_cells, refsOfs_cells, rens_cells, cells_0, cells_1, cells_2, cells_35, cells_36, cells_id, over_cells, sub_cells, take_cells, slots_length, flats_slots, hards_slots, leadss_slots, refsOfs_slots, rens_slots, sub_slots, slots_0, slots_1, slots_2, slots_35, slots_36, slots_snoc, hd, go_rbody hg, go_rput hg, e2, e3, Nat.sub_zero, go_same, ht', he', List.length_take]
        rfl
    · have ht' : (bodyF l == p.take (p.length - 32)) = false := by simpa using ht
      rw [if_neg ht]
      simp (dsimp := false) (disch := first | omega | (simp only [strs_length, List.length_set, List.length_replicate, words_length, ofBytes_length, List.length_append, List.length_cons, List.length_nil, List.length_take, List.length_drop, sub_len, slots_length] <;> omega) | fail) only [L.ref17_DocParse.r0, go_sem, reduceIte, reduceCtorEq, Nat.reduceEqDiff, Nat.reduceAdd, Nat.reduceSub, Nat.reduceMul, Nat.reduceDiv, Nat.reduceMod, Nat.reduceBEq, Nat.reduceLeDiff, Nat.reduceLT, Int.reduceEq, Int.reduceNe, Int.reduceLT, Int.reduceLE, Int.reduceBEq, Int.reduceBNe, Int.reduceToNat, Int.reduceAdd, Int.reduceSub, Int.reduceMul, Int.reduceNeg, zer_bytes, app_ofBytes, ofBytes_length, flats_ofBytes, hards_ofBytes, leadss_ofBytes, refsOfs_ofBytes, rens_ofBytes, bytesOf_ofBytes, sub_ofBytes, take_ofBytes, drop_ofBytes, get_ofBytes, over_ofBytes_all, over_ofBytes, ofBytes_snoc, slot0, slot0z, cells_length, flats_cells, hards_cells, leadss_cells, refsOfs_cells, rens_cells, cells_0, cells_1, cells_2, cells_35, cells_36, cells_id, over_cells, sub_cells, take_cells, slots_length, flats_slots, hards_slots, leadss_slots, refsOfs_slots, rens_slots, sub_slots, slots_0, slots_1, slots_2, slots_35, slots_36, slots_snoc, hd, go_rbody hg, go_rput hg, e2, e3, Nat.sub_zero, go_same, ht', List.length_take]
      rfl
  · rw [if_neg (fun h => hc h.1)]
    have hb : (checkF l != 0) = true := bne_t hc
    simp (dsimp := false) (disch := first | omega | (simp only [strs_length, List.length_set, List.length_replicate, words_length, ofBytes_length, List.length_append, List.length_cons, List.length_nil, List.length_take, List.length_drop, sub_len, slots_length] <;> omega) | fail) only [L.ref17_DocParse.r0, go_sem, reduceIte, reduceCtorEq, Nat.reduceEqDiff, Nat.reduceAdd, Nat.reduceSub, Nat.reduceMul, Nat.reduceDiv, Nat.reduceMod, Nat.reduceBEq, Nat.reduceLeDiff, Nat.reduceLT, Int.reduceEq, Int.reduceNe, Int.reduceLT, Int.reduceLE, Int.reduceBEq, Int.reduceBNe, Int.reduceToNat, Int.reduceAdd, Int.reduceSub, Int.reduceMul, Int.reduceNeg, zer_bytes, app_ofBytes, ofBytes_length, flats_ofBytes, hards_ofBytes, leadss_ofBytes, refsOfs_ofBytes, rens_ofBytes, bytesOf_ofBytes, sub_ofBytes, take_ofBytes, drop_ofBytes, get_ofBytes, over_ofBytes_all, over_ofBytes, ofBytes_snoc, slot0, slot0z, cells_length, flats_cells, hards_cells, leadss_cells, refsOfs_cells, rens_cells, cells_0, cells_1, cells_2, cells_35, cells_36, cells_id, over_cells, sub_cells, take_cells, slots_length, flats_slots, hards_slots, leadss_slots, refsOfs_slots, rens_slots, sub_slots, slots_0, slots_1, slots_2, slots_35, slots_36, slots_snoc, hd, hb]
    rfl
/-- The reference answers as the program does. -/
theorem go_docparse {p : List UInt8} {n : Nat} (hn : n = p.length) (hp : p.length ≤ 1000000000000) : S E F.ref17_DocParse [.lst (ofBytes p) n] [] =
    some (.tup [.buf (.r 0) 0 0 (parseF p).1.length 37, .int .i64 (parseF p).2], [(.r 0, ⟨0, true, true, false, slots (parseF p).1⟩)]) := by
  subst hn
  rw [S_of fn_ref17_DocParse rfl rfl]
  unfold parseF
  by_cases h1 : 2097152 < p.length
  · rw [if_pos h1]
    simp (dsimp := false) (disch := first | omega | (simp only [strs_length, List.length_set, List.length_replicate, words_length, ofBytes_length, List.length_append, List.length_cons, List.length_nil, List.length_take, List.length_drop, sub_len, slots_length] <;> omega) | fail) only [L.ref17_DocParse, go_sem, reduceIte, reduceCtorEq, Nat.reduceEqDiff, Nat.reduceAdd, Nat.reduceSub, Nat.reduceMul, Nat.reduceDiv, Nat.reduceMod, Nat.reduceBEq, Nat.reduceLeDiff, Nat.reduceLT, Int.reduceEq, Int.reduceNe, Int.reduceLT, Int.reduceLE, Int.reduceBEq, Int.reduceBNe, Int.reduceToNat, Int.reduceAdd, Int.reduceSub, Int.reduceMul, Int.reduceNeg, zer_bytes, app_ofBytes, ofBytes_length, flats_ofBytes, hards_ofBytes, leadss_ofBytes, refsOfs_ofBytes, rens_ofBytes, bytesOf_ofBytes, sub_ofBytes, take_ofBytes, drop_ofBytes, get_ofBytes, over_ofBytes_all, over_ofBytes, ofBytes_snoc, slot0, slot0z, cells_length, flats_cells, hards_cells, leadss_cells, refsOfs_cells, rens_cells, cells_0, cells_1, cells_2, cells_35, cells_36, cells_id, over_cells, sub_cells, take_cells, slots_length, flats_slots, hards_slots, leadss_slots, refsOfs_slots, rens_slots, sub_slots, slots_0, slots_1, slots_2, slots_35, slots_36, slots_snoc]
    rfl
  · rw [if_neg h1]
    by_cases h2 : p.length < 44
    · rw [if_pos h2]
      simp (dsimp := false) (disch := first | omega | (simp only [strs_length, List.length_set, List.length_replicate, words_length, ofBytes_length, List.length_append, List.length_cons, List.length_nil, List.length_take, List.length_drop, sub_len, slots_length] <;> omega) | fail) only [L.ref17_DocParse, go_sem, reduceIte, reduceCtorEq, Nat.reduceEqDiff, Nat.reduceAdd, Nat.reduceSub, Nat.reduceMul, Nat.reduceDiv, Nat.reduceMod, Nat.reduceBEq, Nat.reduceLeDiff, Nat.reduceLT, Int.reduceEq, Int.reduceNe, Int.reduceLT, Int.reduceLE, Int.reduceBEq, Int.reduceBNe, Int.reduceToNat, Int.reduceAdd, Int.reduceSub, Int.reduceMul, Int.reduceNeg, zer_bytes, app_ofBytes, ofBytes_length, flats_ofBytes, hards_ofBytes, leadss_ofBytes, refsOfs_ofBytes, rens_ofBytes, bytesOf_ofBytes, sub_ofBytes, take_ofBytes, drop_ofBytes, get_ofBytes, over_ofBytes_all, over_ofBytes, ofBytes_snoc, slot0, slot0z, cells_length, flats_cells, hards_cells, leadss_cells, refsOfs_cells, rens_cells, cells_0, cells_1, cells_2, cells_35, cells_36, cells_id, over_cells, sub_cells, take_cells, slots_length, flats_slots, hards_slots, leadss_slots, refsOfs_slots, rens_slots, sub_slots, slots_0, slots_1, slots_2, slots_35, slots_36, slots_snoc]
      rfl
    · rw [if_neg h2]
      obtain ⟨jk, h⟩ := docL_l0 [.c L.ref17_DocParse.r0] p (p.length - 32) (by omega) (by omega) (p.length + 1) 12 [] (by rw [List.length_drop, List.length_take]; omega) (by omega) (by simp)
      have hr : (p.take (p.length - 32)).drop 12 = sub p 12 (p.length - 44) := by
        unfold sub
        rw [List.drop_take, show p.length - 32 - 12 = p.length - 44 by omega]
      rw [hr] at h
      have hcast : ((p.length : Int) - 32) = ((p.length - 32 : Nat) : Int) := by omega
      simp only [List.length_nil, show slots [] = [] from rfl, Int.cast_ofNat_Int] at h
      simp (dsimp := false) (disch := first | omega | (simp only [strs_length, List.length_set, List.length_replicate, words_length, ofBytes_length, List.length_append, List.length_cons, List.length_nil, List.length_take, List.length_drop, sub_len, slots_length] <;> omega) | fail) only [L.ref17_DocParse, go_sem, reduceIte, reduceCtorEq, Nat.reduceEqDiff, Nat.reduceAdd, Nat.reduceSub, Nat.reduceMul, Nat.reduceDiv, Nat.reduceMod, Nat.reduceBEq, Nat.reduceLeDiff, Nat.reduceLT, Int.reduceEq, Int.reduceNe, Int.reduceLT, Int.reduceLE, Int.reduceBEq, Int.reduceBNe, Int.reduceToNat, Int.reduceAdd, Int.reduceSub, Int.reduceMul, Int.reduceNeg, zer_bytes, app_ofBytes, ofBytes_length, flats_ofBytes, hards_ofBytes, leadss_ofBytes, refsOfs_ofBytes, rens_ofBytes, bytesOf_ofBytes, sub_ofBytes, take_ofBytes, drop_ofBytes, get_ofBytes, over_ofBytes_all, over_ofBytes, ofBytes_snoc, slot0, slot0z, cells_length, flats_cells, hards_cells, leadss_cells, refsOfs_cells, rens_cells, cells_0, cells_1, cells_2, cells_35, cells_36, cells_id, over_cells, sub_cells, take_cells, slots_length, flats_slots, hards_slots, leadss_slots, refsOfs_slots, rens_slots, sub_slots, slots_0, slots_1, slots_2, slots_35, slots_36, slots_snoc, hcast]
      rw [h]
      cases hd : docL (p.length + 1) (sub p 12 (p.length - 44)) [] with
      | none =>
        have : parseL (p.length + 1) (sub p 12 (p.length - 44)) [] = none := by
          cases hl : parseL (p.length + 1) (sub p 12 (p.length - 44)) [] with
          | none => rfl
          | some l => rw [docL_of_parseL _ _ _ _ hl] at hd; cases hd
        rw [this]; rfl
      | some l =>
        simp only
        have hll := docL_length hd (by simp)
        have hpp := docL_paths _ _ _ _ 1000000000 hd (by rw [sub_len]; omega) (fun i => by simp [lat, default, instInhabitedSlot])
        refine (dparse_end (by omega) (by omega) hll hpp).trans ?_
        cases hl : parseL (p.length + 1) (sub p 12 (p.length - 44)) [] with
        | some l' =>
          rw [docL_of_parseL _ _ _ _ hl] at hd
          cases hd
          rfl
        | none =>
          have hno : ¬ (checkF l = 0 ∧ (putF l).take ((putF l).length - 32) = p.take (p.length - 32)) := by
            rintro ⟨hc, ht⟩
            rw [putF_take] at ht
            have hg := check_good hc
            have hm : magicB.length = 8 := rfl
            have hflat : sub p 12 (p.length - 44) = l.flatMap slotB := by
              rw [← hr, ← ht]
              unfold bodyF
              rw [List.drop_left' (by simp [beI_length, hm])]
            have hlen : l.length < p.length + 1 := by
              have h3 : l.length ≤ (l.flatMap slotB).length := by
                clear hflat hl hpp hll hd h ht hg hc
                induction l with
                | nil => simp
                | cons s l ih => have := slotB_length s; rw [List.flatMap_cons, List.length_append, List.length_cons]; omega
              rw [← hflat, sub_len] at h3
              omega
            have := parseL_back l [] (p.length + 1) (form_of hg) (by simpa using hll) hlen
            rw [← hflat, hl] at this
            cases this
          unfold parseG
          rw [if_neg hno]
end Cod

/- The law IndexReads. -/
namespace Cod
open Go

theorem parseF_length (p : List UInt8) : (parseF p).1.length ≤ 4096 := by
  unfold parseF
  split
  · simp
  · split
    · simp
    · split
      · simp
      · rename_i l hl
        unfold parseG
        split
        · split
          · exact parseL_length hl (by simp)
          · simp
        · simp
theorem go_indexReads {p : List UInt8} : S E F.law17_IndexReads [.lst (ofBytes p) p.length] [] = some (.bool true, []) := by
  rw [S_of fn_law17_IndexReads rfl rfl]
  by_cases h : 10000 < p.length
  · have hb : decide (10000 < (p.length : Int)) = true := dec_t (by omega)
    simp (dsimp := false) (disch := first | omega | (simp only [strs_length, List.length_set, List.length_replicate, words_length, ofBytes_length, List.length_append, List.length_cons, List.length_nil, List.length_take, List.length_drop, slots_length] <;> omega) | fail) only [L.law17_IndexReads, go_sem, reduceIte, reduceCtorEq, Nat.reduceEqDiff, Nat.reduceAdd, Nat.reduceSub, Nat.reduceMul, Nat.reduceDiv, Nat.reduceMod, Nat.reduceBEq, Nat.reduceLeDiff, Nat.reduceLT, Int.reduceEq, Int.reduceNe, Int.reduceLT, Int.reduceLE, Int.reduceBEq, Int.reduceBNe, Int.reduceToNat, Int.reduceAdd, Int.reduceSub, Int.reduceMul, Int.reduceNeg, zer_bytes, app_ofBytes, ofBytes_length, flats_ofBytes, hards_ofBytes, leadss_ofBytes, refsOfs_ofBytes, rens_ofBytes, bytesOf_ofBytes, sub_ofBytes, take_ofBytes, drop_ofBytes, get_ofBytes, over_ofBytes_all, over_ofBytes, ofBytes_snoc, slot0, slot0z, cells_length, flats_cells, hards_cells, leadss_cells, refsOfs_cells, rens_cells, cells_0, cells_1, cells_2, cells_35, cells_36, cells_id, over_cells, sub_cells, take_cells, slots_length, flats_slots, hards_slots, leadss_slots, refsOfs_slots, rens_slots, sub_slots, slots_0, slots_1, slots_2, slots_35, slots_36, slots_snoc, go_awake, hb]
  · have hd := go_docparse (p := p) (n := p.length) rfl (by omega)
    have hq := go_parse (p := p) (n := p.length) rfl (by omega)
    have hl := parseF_length p
    have hs := go_slotsame (a := (parseF p).1) (b := (parseF p).1) (n := (parseF p).1.length) (m := (parseF p).1.length) rfl rfl (by omega) (by omega)
    have hb : decide (10000 < (p.length : Int)) = false := dec_f (by omega)
    have ht := go_twin (a := p) (n := p.length) rfl (by omega)
    simp (dsimp := false) (disch := first | omega | (simp only [strs_length, List.length_set, List.length_replicate, words_length, ofBytes_length, List.length_append, List.length_cons, List.length_nil, List.length_take, List.length_drop, slots_length] <;> omega) | fail) only [L.law17_IndexReads, go_sem, reduceIte, reduceCtorEq, Nat.reduceEqDiff, Nat.reduceAdd, Nat.reduceSub, Nat.reduceMul, Nat.reduceDiv, Nat.reduceMod, Nat.reduceBEq, Nat.reduceLeDiff, Nat.reduceLT, Int.reduceEq, Int.reduceNe, Int.reduceLT, Int.reduceLE, Int.reduceBEq, Int.reduceBNe, Int.reduceToNat, Int.reduceAdd, Int.reduceSub, Int.reduceMul, Int.reduceNeg, zer_bytes, app_ofBytes, ofBytes_length, flats_ofBytes, hards_ofBytes, leadss_ofBytes, refsOfs_ofBytes, rens_ofBytes, bytesOf_ofBytes, sub_ofBytes, take_ofBytes, drop_ofBytes, get_ofBytes, over_ofBytes_all, over_ofBytes, ofBytes_snoc, slot0, slot0z, cells_length, flats_cells, hards_cells, leadss_cells, refsOfs_cells, rens_cells, cells_0, cells_1, cells_2, cells_35, cells_36, cells_id, over_cells, sub_cells, take_cells, slots_length, flats_slots, hards_slots, leadss_slots, refsOfs_slots, rens_slots, sub_slots, slots_0, slots_1, slots_2, slots_35, slots_36, slots_snoc, go_awake, hb, ht, hq, hd, hs, decide_true]
end Cod


/- The law's own functions. -/
import Derived.Test.YtaahcmnekjlacaaDoorXTxt4
set_option linter.unusedSimpArgs false
set_option linter.unusedVariables false
namespace Cod
open Go

def aw : Slot := ⟨[97], 0, 33188, (List.replicate 32 0).set 0 1, 5, 9, rfl⟩
theorem aw_check : checkF [aw] = 0 := by decide +kernel
theorem aw_len : (putF [aw]).length = 124 := by
  rw [putF, List.length_append, shaF_length]
  rfl
theorem go_awake : S E F.law17_awake [] [] = some (.bool true, []) := by
  have hp := go_put (l := [aw]) (by simp)
  rw [if_pos aw_check, aw_len, aw_check] at hp
  simp only [List.length_singleton] at hp
  have hw : ∀ h, Slot.cells ⟨[97], (default : Slot).stage, 33188, (List.replicate 32 0).set 0 (UInt8.ofNat 1), 5, 9, h⟩ = slots [aw] := fun _ => rfl
  have hq := go_parse (p := putF [aw]) (n := 124) aw_len.symm (by rw [aw_len]; omega)
  rw [parse_put aw_check] at hq
  simp only [List.length_singleton] at hq
  have hs := go_slotsame (a := [aw]) (b := [aw]) (n := 1) (m := 1) rfl rfl (by simp) (by simp)
  have e1 : sub (putF [aw]) 0 124 = putF [aw] := sub_full (by rw [aw_len]; omega)
  have e2 : sub (slots [aw]) 0 37 = slots [aw] := rfl
  rw [S_of fn_law17_awake rfl rfl]
  simp (dsimp := false) (disch := first | omega | (simp only [strs_length, List.length_set, List.length_replicate, words_length, ofBytes_length, List.length_append, List.length_cons, List.length_nil, List.length_take, List.length_drop] <;> omega) | fail) only [L.law17_awake, go_sem, reduceIte, reduceCtorEq, Nat.reduceEqDiff, Nat.reduceAdd, Nat.reduceSub, Nat.reduceMul, Nat.reduceDiv, Nat.reduceMod, Nat.reduceBEq, Nat.reduceLeDiff, Nat.reduceLT, Int.reduceEq, Int.reduceNe, Int.reduceLT, Int.reduceLE, Int.reduceBEq, Int.reduceBNe, Int.reduceToNat, Int.reduceAdd, Int.reduceSub, Int.reduceMul, Int.reduceNeg, zer_bytes, app_ofBytes, ofBytes_length, flats_ofBytes, hards_ofBytes, leadss_ofBytes, refsOfs_ofBytes, rens_ofBytes, bytesOf_ofBytes, sub_ofBytes, take_ofBytes, drop_ofBytes, get_ofBytes, over_ofBytes_all, over_ofBytes, ofBytes_snoc, slot0, slot0z, cells_length, flats_cells, hards_cells, leadss_cells, refsOfs_cells, rens_cells, cells_0, cells_1, cells_2, cells_35, cells_36, cells_id, over_cells, sub_cells, take_cells, slots_length, flats_slots, hards_slots, leadss_slots, refsOfs_slots, rens_slots, sub_slots, slots_0, slots_1, slots_2, slots_35, slots_36, slots_snoc, over_c0, over_c1, over_c2, over_c3, over_c35, over_c36]
  simp only [hw]
  simp (dsimp := false) (disch := first | omega | (simp only [strs_length, List.length_set, List.length_replicate, words_length, ofBytes_length, List.length_append, List.length_cons, List.length_nil, List.length_take, List.length_drop] <;> omega) | fail) only [go_sem, reduceIte, reduceCtorEq, Nat.reduceEqDiff, Nat.reduceAdd, Nat.reduceSub, Nat.reduceMul, Nat.reduceDiv, Nat.reduceMod, Nat.reduceBEq, Nat.reduceLeDiff, Nat.reduceLT, Int.reduceEq, Int.reduceNe, Int.reduceLT, Int.reduceLE, Int.reduceBEq, Int.reduceBNe, Int.reduceToNat, Int.reduceAdd, Int.reduceSub, Int.reduceMul, Int.reduceNeg, zer_bytes, app_ofBytes, ofBytes_length, flats_ofBytes, hards_ofBytes, leadss_ofBytes, refsOfs_ofBytes, rens_ofBytes, bytesOf_ofBytes, sub_ofBytes, take_ofBytes, drop_ofBytes, get_ofBytes, over_ofBytes_all, over_ofBytes, ofBytes_snoc, slot0, slot0z, cells_length, flats_cells, hards_cells, leadss_cells, refsOfs_cells, rens_cells, cells_0, cells_1, cells_2, cells_35, cells_36, cells_id, over_cells, sub_cells, take_cells, slots_length, flats_slots, hards_slots, leadss_slots, refsOfs_slots, rens_slots, sub_slots, slots_0, slots_1, slots_2, slots_35, slots_36, slots_snoc, hw, hp, hq, hs, decide_true, aw_len, e1, e2]
end Cod

/- An index is parsed, by the reference: numbers, a slot. -/
namespace Cod
open Go

end Cod

/- An index is parsed, by the reference: the whole; it answers as Parse does. -/
namespace Cod
open Go

end Cod

/- The law IndexReads. -/
namespace Cod
open Go

end Cod

/- The law IndexFixed. -/
namespace Cod
open Go

def fa1 : Slot := ⟨[97], 0, 33188, List.replicate 32 0, 0, 0, rfl⟩
def fb1 : Slot := ⟨[97], 2, 33188, List.replicate 32 0, 0, 0, rfl⟩
def ft1 : Slot := ⟨[97], 0, 16384, List.replicate 32 0, 0, 0, rfl⟩
def fc1 : Slot := ⟨[97], 4, 33188, List.replicate 32 0, 0, 0, rfl⟩
def fd1 : Slot := ⟨[97, 47, 47, 98], 0, 7, List.replicate 32 0, 0, 0, rfl⟩
theorem chk_ab : checkF [fa1, fb1] = 4 := by decide +kernel
theorem chk_ba : checkF [fb1, fa1] = 4 := by decide +kernel
theorem chk_t : checkF [ft1] = 4 := by decide +kernel
theorem chk_c : checkF [fc1] = 1 := by decide +kernel
theorem chk_d : checkF [fd1] = 3 := by decide +kernel
theorem lat_rep (n i : Nat) : lat (List.replicate n default) i = default := by
  unfold lat
  rw [List.getD_eq_getElem?_getD, List.getElem?_replicate]
  split <;> rfl
theorem rep_bytes (n : Nat) : rep [.int .u8 0] n = ofBytes (List.replicate n 0) := by
  induction n with
  | zero => rfl
  | succ n ih => rw [rep, ih, List.replicate_succ]; rfl
theorem rep_slots (n : Nat) : rep (default : Slot).cells n = slots (List.replicate n default) := by
  induction n with
  | zero => rfl
  | succ n ih => rw [rep, ih, List.replicate_succ]; rfl
theorem step2 (n i : Nat) : stepC (List.replicate n default) i 2 = 2 := by
  have h1 : oneF (default : Slot) = 3 := by decide +kernel
  unfold stepC
  rw [lat_rep, lat_rep, h1]
  split <;> rfl
theorem chk_many {n : Nat} (h : 4096 < n) : checkF (List.replicate n default) = 2 := by
  unfold checkF
  rw [List.length_replicate, if_pos h]
  have : ∀ m i, checkI (List.replicate n default) m i 2 = 2 := by
    intro m
    induction m with
    | zero => intro i; rfl
    | succ m ih => intro i; rw [checkI, step2, ih]
  exact this _ _
theorem over_first {x y z : List AV} (h : z.length = x.length) : over (x ++ y) 0 z = z ++ y := by
  unfold over; rw [List.take_zero, List.nil_append, Nat.zero_add, h, List.drop_left]
theorem over_second {x y z : List AV} {n : Nat} (h : x.length = n) (h2 : z.length = y.length) : over (x ++ y) n z = x ++ z := by
  unfold over; rw [List.take_left' h, List.drop_of_length_le (by rw [List.length_append, h, h2]; omega), List.append_nil]
theorem over_only {x z : List AV} (h : z.length = x.length) : over x 0 z = z := by
  unfold over; rw [List.take_zero, List.nil_append, Nat.zero_add, h, List.drop_length, List.append_nil]
theorem slots_one (a : Slot) : slots [a] = a.cells := by simp [slots]
theorem slots_two (a b : Slot) : a.cells ++ b.cells = slots [a, b] := by simp [slots]
theorem over_s0 (a b c : Slot) : over (slots [a, b]) 0 c.cells = slots [c, b] := by
  rw [← slots_two, over_first (by rw [cells_length, cells_length]), slots_two]
theorem over_s1 (a b c : Slot) : over (slots [a, b]) 37 c.cells = slots [a, c] := by
  rw [← slots_two, over_second (cells_length _) (by rw [cells_length, cells_length]), slots_two]
theorem over_s (a c : Slot) : over (slots [a]) 0 c.cells = slots [c] := by
  rw [slots_one, over_only (by rw [cells_length, cells_length]), slots_one]
theorem put_nil : (putF []).length = 44 := by
  rw [putF, List.length_append, shaF_length]; rfl
theorem go_indexFixed : S E F.law17_IndexFixed [] [] = some (.bool true, []) := by
  have hp := go_put (l := []) (by simp)
  simp only [show checkF [] = 0 from rfl, if_true, put_nil, List.length_nil, show slots [] = [] from rfl] at hp
  have hq := go_parse (p := []) (n := 0) rfl (by simp)
  simp only [show parseF [] = ([], 4) from rfl, show ofBytes [] = [] from rfl, List.length_nil, show slots [] = [] from rfl] at hq
  obtain ⟨N, hN⟩ : ∃ N : Nat, N = 2097153 := ⟨_, rfl⟩
  obtain ⟨M, hM⟩ : ∃ M : Nat, M = 4097 := ⟨_, rfl⟩
  have hbig : parseF (List.replicate N 0) = ([], 2) := by
    unfold parseF; rw [if_pos (by rw [List.length_replicate]; omega)]
  have hq2 := go_parse (p := List.replicate N 0) (n := N) (by rw [List.length_replicate]) (by rw [List.length_replicate]; omega)
  simp only [hbig, List.length_nil, show slots [] = [] from rfl] at hq2
  have hab := go_check (l := [fa1, fb1]) (by simp)
  have hba := go_check (l := [fb1, fa1]) (by simp)
  have ht := go_check (l := [ft1]) (by simp)
  have hc := go_check (l := [fc1]) (by simp)
  have hd := go_check (l := [fd1]) (by simp)
  have hm := go_check (l := List.replicate M default) (by rw [List.length_replicate]; omega)
  rw [chk_many (by omega), List.length_replicate] at hm
  rw [chk_ab] at hab
  rw [chk_ba] at hba
  rw [chk_t, slots_one] at ht
  rw [chk_c, slots_one] at hc
  rw [chk_d, slots_one] at hd
  simp only [List.length_cons, List.length_nil, Nat.reduceAdd] at hab hba ht hc hd
  have e1 : rep [.int .u8 0] (Int.toNat 2097153) = ofBytes (List.replicate N 0) := by
    rw [hN]; exact (congrArg (rep _) (show Int.toNat 2097153 = 2097153 from rfl)).trans (rep_bytes 2097153)
  have e2 : rep (default : Slot).cells (Int.toNat 4097) = slots (List.replicate M default) := by
    rw [hM]; exact (congrArg (rep _) (show Int.toNat 4097 = 4097 from rfl)).trans (rep_slots 4097)
  have f1 : Int.toNat 2097153 = N := by rw [hN]; rfl
  have f2 : Int.toNat 4097 = M := by rw [hM]; rfl
  have wa : ∀ h, Slot.cells ⟨[97], (default : Slot).stage, 33188, (default : Slot).id, (default : Slot).size, (default : Slot).time, h⟩ = fa1.cells := fun _ => rfl
  have wb : ∀ h, Slot.cells ⟨fa1.path, 2, fa1.mode, fa1.id, fa1.size, fa1.time, h⟩ = fb1.cells := fun _ => rfl
  have wt : ∀ h, Slot.cells ⟨[97], (default : Slot).stage, 16384, (default : Slot).id, (default : Slot).size, (default : Slot).time, h⟩ = ft1.cells := fun _ => rfl
  have wc : ∀ h, Slot.cells ⟨fa1.path, 4, fa1.mode, fa1.id, fa1.size, fa1.time, h⟩ = fc1.cells := fun _ => rfl
  have wd : ∀ h, Slot.cells ⟨[97, 47, 47, 98], (default : Slot).stage, 7, (default : Slot).id, (default : Slot).size, (default : Slot).time, h⟩ = fd1.cells := fun _ => rfl
  rw [S_of fn_law17_IndexFixed rfl rfl]
  simp (dsimp := false) (disch := first | omega | (simp only [strs_length, List.length_set, List.length_replicate, words_length, ofBytes_length, List.length_append, List.length_cons, List.length_nil, List.length_take, List.length_drop, slots_length] <;> omega) | fail) only [L.law17_IndexFixed, go_sem, reduceIte, reduceCtorEq, Nat.reduceEqDiff, Nat.reduceAdd, Nat.reduceSub, Nat.reduceMul, Nat.reduceDiv, Nat.reduceMod, Nat.reduceBEq, Nat.reduceLeDiff, Nat.reduceLT, Int.reduceEq, Int.reduceNe, Int.reduceLT, Int.reduceLE, Int.reduceBEq, Int.reduceBNe, Int.reduceToNat, Int.reduceAdd, Int.reduceSub, Int.reduceMul, Int.reduceNeg, zer_bytes, app_ofBytes, ofBytes_length, flats_ofBytes, hards_ofBytes, leadss_ofBytes, refsOfs_ofBytes, rens_ofBytes, bytesOf_ofBytes, sub_ofBytes, take_ofBytes, drop_ofBytes, get_ofBytes, over_ofBytes_all, over_ofBytes, ofBytes_snoc, slot0, slot0z, cells_length, flats_cells, hards_cells, leadss_cells, refsOfs_cells, rens_cells, cells_0, cells_1, cells_2, cells_35, cells_36, cells_id, over_cells, sub_cells, take_cells, slots_length, flats_slots, hards_slots, leadss_slots, refsOfs_slots, rens_slots, sub_slots, slots_0, slots_1, slots_2, slots_35, slots_36, slots_snoc, go_awake, hp, hq, over_c0, over_c1, over_c2, ↓e1, ↓e2, ↓f1, ↓f2, wa, wb, wt, wc, wd, hq2, hab, hba, ht, hc, hd, hm, slots_two, over_s0, over_s1, over_s, slots_length]
  done
end Cod


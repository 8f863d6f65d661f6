/- An index is put. -/
import Derived.Test.YtaahcmnekjlacaaDoorXTxt2
import Derived.Test.YtaahcmnekjlacaaDoorXTxt3
set_option linter.unusedSimpArgs false
set_option linter.unusedVariables false
namespace Cod
open Go

/-- The n lowest bytes of a number, the highest first. -/
def beI (v : Int) : Nat → List UInt8
  | 0 => []
  | n + 1 => byt (v / 2 ^ (8 * n) % 256) :: beI v n
theorem beI_length (v : Int) (n : Nat) : (beI v n).length = n := by
  induction n with
  | zero => rfl
  | succ n ih => simp [beI, ih]

theorem big_l0 (k : List It) (v : Int) : ∀ (m : Nat) (i : Int) (acc : List UInt8), i + 1 = m → m ≤ 8 → acc.length + m ≤ 1000000000 →
    X E [.tmp 6] (.c L.index_big.x0 :: .lp [0, 1, 7] L.index_big.x0 :: .blk 0 :: k) ⟨[(0, .buf (.s 1000000 0) 0 0 acc.length 1), (1, .int .i64 v), (7, .int .i64 i)], [(.s 1000000 0, ⟨0, true, true, false, ofBytes acc⟩)]⟩ =
    X E [.tmp 6] k ⟨[(0, .buf (.s 1000000 0) 0 0 (acc.length + m) 1), (1, .int .i64 v), (7, .int .i64 (-1)), (11, .bool false)], [(.s 1000000 0, ⟨0, true, true, false, ofBytes (acc ++ beI v m)⟩)]⟩ := by
  intro m
  induction m with
  | zero =>
    intro i acc h1 h2 h3
    obtain rfl : i = -1 := by omega
    rw [X_in L.index_big.x0.eq_1]
    simp (dsimp := false) (disch := first | omega | (simp only [strs_length, List.length_set, List.length_replicate, words_length, ofBytes_length, List.length_append, List.length_cons, List.length_nil, List.length_take, List.length_drop, beI_length] <;> omega) | fail) only [go_sem, reduceIte, reduceCtorEq, Nat.reduceEqDiff, Nat.reduceAdd, Nat.reduceSub, Nat.reduceMul, Nat.reduceDiv, Nat.reduceMod, Nat.reduceBEq, Nat.reduceLeDiff, Nat.reduceLT, Int.reduceEq, Int.reduceNe, Int.reduceLT, Int.reduceLE, Int.reduceBEq, Int.reduceBNe, Int.reduceToNat, Int.reduceAdd, Int.reduceSub, Int.reduceMul, Int.reduceNeg, zer_bytes, app_ofBytes, ofBytes_length, flats_ofBytes, hards_ofBytes, leadss_ofBytes, refsOfs_ofBytes, rens_ofBytes, bytesOf_ofBytes, sub_ofBytes, take_ofBytes, drop_ofBytes, get_ofBytes, over_ofBytes_all, over_ofBytes, ofBytes_snoc, beI, List.append_nil]
  | succ m ih =>
    intro i acc h1 h2 h3
    obtain rfl : i = (m : Int) := by omega
    have e1 : ishr .i64 v (8 * (m : Int)) = v / 2 ^ (8 * m) := by
      rw [show (8 * (m : Int)) = ((8 * m : Nat) : Int) by omega, ishr_any (by simp [IntKind.bits]; omega)]
    rw [X_in L.index_big.x0.eq_1]
    simp (dsimp := false) (disch := first | omega | (simp only [strs_length, List.length_set, List.length_replicate, words_length, ofBytes_length, List.length_append, List.length_cons, List.length_nil, List.length_take, List.length_drop, beI_length] <;> omega) | fail) only [go_sem, reduceIte, reduceCtorEq, Nat.reduceEqDiff, Nat.reduceAdd, Nat.reduceSub, Nat.reduceMul, Nat.reduceDiv, Nat.reduceMod, Nat.reduceBEq, Nat.reduceLeDiff, Nat.reduceLT, Int.reduceEq, Int.reduceNe, Int.reduceLT, Int.reduceLE, Int.reduceBEq, Int.reduceBNe, Int.reduceToNat, Int.reduceAdd, Int.reduceSub, Int.reduceMul, Int.reduceNeg, zer_bytes, app_ofBytes, ofBytes_length, flats_ofBytes, hards_ofBytes, leadss_ofBytes, refsOfs_ofBytes, rens_ofBytes, bytesOf_ofBytes, sub_ofBytes, take_ofBytes, drop_ofBytes, get_ofBytes, over_ofBytes_all, over_ofBytes, ofBytes_snoc, e1]
    have := ih ((m : Int) - 1) (acc ++ [byt (v / 2 ^ (8 * m) % 256)]) (by omega) (by omega) (by simp; omega)
    rw [List.length_append, List.length_singleton, List.append_assoc, show acc.length + 1 + m = acc.length + (m + 1) by omega] at this
    exact this
theorem go_big {x : Site} {g : Nat} {acc : List UInt8} {v : Int} {n : Nat} (h0 : 0 < n) (hn : n ≤ 8) (ha : acc.length ≤ 900000000) :
    S E F.index_big [.buf (.up x) g 0 acc.length 1, .int .i64 v, .int .i64 n] [(.up x, ⟨g, true, true, false, ofBytes acc⟩)] = some (.buf (.r 0) 0 0 (acc.length + n) 1, [(.r 0, ⟨0, true, true, false, ofBytes (acc ++ beI v n)⟩)]) := by
  obtain ⟨m, rfl⟩ : ∃ m, n = m + 1 := ⟨n - 1, by omega⟩
  have e0 : ((m + 1 : Nat) : Int) - 1 = (m : Int) := by omega
  have e1 : ishr .i64 v (8 * (m : Int)) = v / 2 ^ (8 * m) := by
    rw [show (8 * (m : Int)) = ((8 * m : Nat) : Int) by omega, ishr_any (by simp [IntKind.bits]; omega)]
  have h := big_l0 [.c L.index_big.r0] v m ((m : Int) - 1) (acc ++ [byt (v / 2 ^ (8 * m) % 256)]) (by omega) (by omega) (by simp; omega)
  rw [List.length_append, List.length_singleton, List.append_assoc, show acc.length + 1 + m = acc.length + (m + 1) by omega] at h
  rw [S_of fn_index_big rfl rfl]
  simp (dsimp := false) (disch := first | omega | (simp only [strs_length, List.length_set, List.length_replicate, words_length, ofBytes_length, List.length_append, List.length_cons, List.length_nil, List.length_take, List.length_drop, beI_length] <;> omega) | fail) only [L.index_big, go_sem, reduceIte, reduceCtorEq, Nat.reduceEqDiff, Nat.reduceAdd, Nat.reduceSub, Nat.reduceMul, Nat.reduceDiv, Nat.reduceMod, Nat.reduceBEq, Nat.reduceLeDiff, Nat.reduceLT, Int.reduceEq, Int.reduceNe, Int.reduceLT, Int.reduceLE, Int.reduceBEq, Int.reduceBNe, Int.reduceToNat, Int.reduceAdd, Int.reduceSub, Int.reduceMul, Int.reduceNeg, zer_bytes, app_ofBytes, ofBytes_length, flats_ofBytes, hards_ofBytes, leadss_ofBytes, refsOfs_ofBytes, rens_ofBytes, bytesOf_ofBytes, sub_ofBytes, take_ofBytes, drop_ofBytes, get_ofBytes, over_ofBytes_all, over_ofBytes, ofBytes_snoc, e0]
  rw [X_in L.index_big.x0.eq_1]
  simp (dsimp := false) (disch := first | omega | (simp only [strs_length, List.length_set, List.length_replicate, words_length, ofBytes_length, List.length_append, List.length_cons, List.length_nil, List.length_take, List.length_drop, beI_length] <;> omega) | fail) only [go_sem, reduceIte, reduceCtorEq, Nat.reduceEqDiff, Nat.reduceAdd, Nat.reduceSub, Nat.reduceMul, Nat.reduceDiv, Nat.reduceMod, Nat.reduceBEq, Nat.reduceLeDiff, Nat.reduceLT, Int.reduceEq, Int.reduceNe, Int.reduceLT, Int.reduceLE, Int.reduceBEq, Int.reduceBNe, Int.reduceToNat, Int.reduceAdd, Int.reduceSub, Int.reduceMul, Int.reduceNeg, zer_bytes, app_ofBytes, ofBytes_length, flats_ofBytes, hards_ofBytes, leadss_ofBytes, refsOfs_ofBytes, rens_ofBytes, bytesOf_ofBytes, sub_ofBytes, take_ofBytes, drop_ofBytes, get_ofBytes, over_ofBytes_all, over_ofBytes, ofBytes_snoc, e1]
  rw [h]
  simp (dsimp := false) (disch := first | omega | (simp only [strs_length, List.length_set, List.length_replicate, words_length, ofBytes_length, List.length_append, List.length_cons, List.length_nil, List.length_take, List.length_drop, beI_length] <;> omega) | fail) only [L.index_big.r0, go_sem, reduceIte, reduceCtorEq, Nat.reduceEqDiff, Nat.reduceAdd, Nat.reduceSub, Nat.reduceMul, Nat.reduceDiv, Nat.reduceMod, Nat.reduceBEq, Nat.reduceLeDiff, Nat.reduceLT, Int.reduceEq, Int.reduceNe, Int.reduceLT, Int.reduceLE, Int.reduceBEq, Int.reduceBNe, Int.reduceToNat, Int.reduceAdd, Int.reduceSub, Int.reduceMul, Int.reduceNeg, zer_bytes, app_ofBytes, ofBytes_length, flats_ofBytes, hards_ofBytes, leadss_ofBytes, refsOfs_ofBytes, rens_ofBytes, bytesOf_ofBytes, sub_ofBytes, take_ofBytes, drop_ofBytes, get_ofBytes, over_ofBytes_all, over_ofBytes, ofBytes_snoc]
  rfl
theorem go_zeros {x : Site} {g n : Nat} {acc : List UInt8} (hn : n ≤ 1000) (ha : acc.length ≤ 900000000) :
    S E F.index_zeros [.buf (.up x) g 0 acc.length 1, .int .i64 n] [(.up x, ⟨g, true, true, false, ofBytes acc⟩)] = some (.buf (.r 0) 0 0 (acc.length + n) 1, [(.r 0, ⟨0, true, true, false, ofBytes (acc ++ List.replicate n 0)⟩)]) := by
  rw [S_of fn_index_zeros rfl rfl]
  simp (dsimp := false) (disch := first | omega | (simp only [strs_length, List.length_set, List.length_replicate, words_length, ofBytes_length, List.length_append, List.length_cons, List.length_nil, List.length_take, List.length_drop, beI_length] <;> omega) | fail) only [L.index_zeros, go_sem, reduceIte, reduceCtorEq, Nat.reduceEqDiff, Nat.reduceAdd, Nat.reduceSub, Nat.reduceMul, Nat.reduceDiv, Nat.reduceMod, Nat.reduceBEq, Nat.reduceLeDiff, Nat.reduceLT, Int.reduceEq, Int.reduceNe, Int.reduceLT, Int.reduceLE, Int.reduceBEq, Int.reduceBNe, Int.reduceToNat, Int.reduceAdd, Int.reduceSub, Int.reduceMul, Int.reduceNeg, zer_bytes, app_ofBytes, ofBytes_length, flats_ofBytes, hards_ofBytes, leadss_ofBytes, refsOfs_ofBytes, rens_ofBytes, bytesOf_ofBytes, sub_ofBytes, take_ofBytes, drop_ofBytes, get_ofBytes, over_ofBytes_all, over_ofBytes, ofBytes_snoc, rep_zero]

theorem go_big4 {x : Site} {g k : Nat} {acc : List UInt8} {v : Int} (hk : k = acc.length) (ha : acc.length ≤ 900000000) :
    S E F.index_big [.buf (.up x) g 0 k 1, .int .i64 v, .int .i64 4] [(.up x, ⟨g, true, true, false, ofBytes acc⟩)] = some (.buf (.r 0) 0 0 (k + 4) 1, [(.r 0, ⟨0, true, true, false, ofBytes (acc ++ beI v 4)⟩)]) := by
  subst hk; exact go_big (n := 4) (by omega) (by omega) ha
theorem go_big2 {x : Site} {g k : Nat} {acc : List UInt8} {v : Int} (hk : k = acc.length) (ha : acc.length ≤ 900000000) :
    S E F.index_big [.buf (.up x) g 0 k 1, .int .i64 v, .int .i64 2] [(.up x, ⟨g, true, true, false, ofBytes acc⟩)] = some (.buf (.r 0) 0 0 (k + 2) 1, [(.r 0, ⟨0, true, true, false, ofBytes (acc ++ beI v 2)⟩)]) := by
  subst hk; exact go_big (n := 2) (by omega) (by omega) ha
theorem go_zerosK {x : Site} {g k : Nat} {n : Int} {acc : List UInt8} (hk : k = acc.length) (h0 : 0 ≤ n) (hn : n ≤ 1000) (ha : acc.length ≤ 900000000) :
    S E F.index_zeros [.buf (.up x) g 0 k 1, .int .i64 n] [(.up x, ⟨g, true, true, false, ofBytes acc⟩)] = some (.buf (.r 0) 0 0 (k + n.toNat) 1, [(.r 0, ⟨0, true, true, false, ofBytes (acc ++ List.replicate n.toNat 0)⟩)]) := by
  subst hk
  obtain ⟨m, rfl⟩ := Int.eq_ofNat_of_zero_le h0
  exact go_zeros (n := m) (by omega) ha

def magicB : List UInt8 := [68, 73, 82, 67, 0, 0, 0, 2]
theorem magic_eq : [AV.int .u8 68, .int .u8 73, .int .u8 82, .int .u8 67, .int .u8 0, .int .u8 0, .int .u8 0, .int .u8 2] = ofBytes magicB := rfl
theorem magic_ne : (ofBytes magicB).isEmpty = false := rfl
def stageF (s : Slot) : Int := ior .i64 (ishl .i64 s.stage 12) (if 4095 < (s.path.length : Int) then 4095 else s.path.length)
/-- The bytes of a slot. -/
def slotB (s : Slot) : List UInt8 :=
  List.replicate 8 0 ++ beI s.time 4 ++ List.replicate 12 0 ++ beI s.mode 4 ++ List.replicate 8 0 ++ beI s.size 4 ++ s.id ++ beI (stageF s) 2 ++ s.path ++ List.replicate (8 - (74 + s.path.length) % 8) 0
theorem slotB_length (s : Slot) : (slotB s).length = 74 + s.path.length + (8 - (74 + s.path.length) % 8) := by
  simp only [slotB, List.length_append, List.length_replicate, beI_length, s.hid]
def bodyI (l : List Slot) : Nat → Nat → List UInt8 → List UInt8
  | 0, _, p => p
  | m + 1, i, p => bodyI l m (i + 1) (p ++ slotB (lat l i))
theorem bodyI_eq (l : List Slot) : ∀ m i p, i + m = l.length → bodyI l m i p = p ++ (l.drop i).flatMap slotB := by
  intro m
  induction m with
  | zero => intro i p h; rw [List.drop_of_length_le (by omega)]; simp [bodyI]
  | succ m ih =>
    intro i p h
    rw [bodyI, ih (i + 1) _ (by omega), drop_getD (by omega : i < l.length), List.flatMap_cons, List.append_assoc]
    rfl
def bodyF (l : List Slot) : List UInt8 := magicB ++ beI l.length 4 ++ l.flatMap slotB
def putF (l : List Slot) : List UInt8 := bodyF l ++ shaF (bodyF l)

theorem put_l0 {l : List Slot} (hl : l.length ≤ 4096) (hp : ∀ i, (lat l i).path.length ≤ 200) (k : List It) : ∀ (m i : Nat) (p : List UInt8), i + m = l.length → p.length + 300 * m ≤ 10000000 →
    X E [.tmp 2, .tmp 3] (.c L.index_Put.x0 :: .lp [5, 19, 20, 21] L.index_Put.x0 :: .blk 0 :: k) ⟨[(5, .buf (.s 1000000 0) 0 0 (p).length 1), (19, .lst (slots l) l.length), (20, .int .i64 l.length), (21, .int .i64 i)], [(.s 1000000 0, ⟨0, true, true, false, ofBytes p⟩)]⟩ =
    X E [.tmp 2, .tmp 3] k ⟨[(5, .buf (.s 1000000 0) 0 0 ((bodyI l m i p)).length 1), (19, .lst (slots l) l.length), (20, .int .i64 l.length), (21, .int .i64 l.length), (22, .bool false)], [(.s 1000000 0, ⟨0, true, true, false, ofBytes (bodyI l m i p)⟩)]⟩ := by
  intro m
  induction m with
  | zero =>
    intro i p h1 h2
    obtain rfl : i = l.length := by omega
    rw [X_in L.index_Put.x0.eq_1]
    simp (dsimp := false) (disch := first | omega | (simp only [strs_length, List.length_set, List.length_replicate, words_length, ofBytes_length, List.length_append, List.length_cons, List.length_nil, List.length_take, List.length_drop, beI_length] <;> omega) | fail) only [go_sem, reduceIte, reduceCtorEq, Nat.reduceEqDiff, Nat.reduceAdd, Nat.reduceSub, Nat.reduceMul, Nat.reduceDiv, Nat.reduceMod, Nat.reduceBEq, Nat.reduceLeDiff, Nat.reduceLT, Int.reduceEq, Int.reduceNe, Int.reduceLT, Int.reduceLE, Int.reduceBEq, Int.reduceBNe, Int.reduceToNat, Int.reduceAdd, Int.reduceSub, Int.reduceMul, Int.reduceNeg, bodyI]
  | succ m ih =>
    intro i p h1 h2
    have hsl := slotB_length (lat l i)
    have hpl := hp i
    have hid := (lat l i).hid
    have b1 := fun v => beI_length v 4
    have b2 := fun v => beI_length v 2
    have e0 : (8 - (74 + ((lat l i).path.length : Int)) % 8).toNat = 8 - (74 + (lat l i).path.length) % 8 := by omega
    have := ih (i + 1) (p ++ slotB (lat l i)) (by omega) (by simp only [List.length_append]; omega)
    simp only [Int.natCast_add, Int.cast_ofNat_Int] at this
    rw [bodyI, ← this]
    rw [X_in L.index_Put.x0.eq_1]
    simp (dsimp := false) (disch := first | omega | (simp only [strs_length, List.length_set, List.length_replicate, words_length, ofBytes_length, List.length_append, List.length_cons, List.length_nil, List.length_take, List.length_drop, beI_length] <;> omega) | fail) only [go_sem, reduceIte, reduceCtorEq, Nat.reduceEqDiff, Nat.reduceAdd, Nat.reduceSub, Nat.reduceMul, Nat.reduceDiv, Nat.reduceMod, Nat.reduceBEq, Nat.reduceLeDiff, Nat.reduceLT, Int.reduceEq, Int.reduceNe, Int.reduceLT, Int.reduceLE, Int.reduceBEq, Int.reduceBNe, Int.reduceToNat, Int.reduceAdd, Int.reduceSub, Int.reduceMul, Int.reduceNeg, slot0, slot0z, cells_length, flats_cells, hards_cells, leadss_cells, refsOfs_cells, rens_cells, cells_0, cells_1, cells_2, cells_35, cells_36, cells_id, over_cells, sub_cells, take_cells, slots_length, flats_slots, hards_slots, leadss_slots, refsOfs_slots, rens_slots, sub_slots, slots_0, slots_1, slots_2, slots_35, slots_36, slots_snoc, zer_bytes, app_ofBytes, ofBytes_length, flats_ofBytes, hards_ofBytes, leadss_ofBytes, refsOfs_ofBytes, rens_ofBytes, bytesOf_ofBytes, sub_ofBytes, take_ofBytes, drop_ofBytes, get_ofBytes, over_ofBytes_all, over_ofBytes, ofBytes_snoc, go_big4, go_big2, go_zerosK, beI_length]
    have hA : p ++ List.replicate 8 0 ++ beI (lat l i).time 4 ++ List.replicate 12 0 ++ beI (lat l i).mode 4 ++ List.replicate 8 0 ++ beI (lat l i).size 4 ++ (lat l i).id ++
        beI (ior .i64 (ishl .i64 (lat l i).stage 12) (if 4095 < ((lat l i).path.length : Int) then 4095 else ((lat l i).path.length : Int))) 2 ++ (lat l i).path ++ List.replicate (8 - (74 + (lat l i).path.length) % 8) 0 = p ++ slotB (lat l i) := by
      simp only [slotB, stageF, List.append_assoc]
    have hL : p.length + 8 + 4 + 12 + 4 + 8 + 4 + 32 + 2 + (lat l i).path.length + (8 - (74 + (lat l i).path.length) % 8) = (p ++ slotB (lat l i)).length := by rw [List.length_append, hsl]; omega
    rw [e0, hA, hL]

theorem flat_len {l : List Slot} (h : ∀ s ∈ l, s.path.length ≤ 200) : (l.flatMap slotB).length ≤ 300 * l.length := by
  induction l with
  | nil => simp
  | cons s l ih =>
    have h1 := ih fun x hx => h x (List.mem_cons_of_mem _ hx)
    have h2 := h s (by simp)
    have h3 := slotB_length s
    rw [List.flatMap_cons, List.length_append, List.length_cons]
    omega
theorem mem_lat {l : List Slot} {s : Slot} (h : s ∈ l) : ∃ i, i < l.length ∧ lat l i = s := by
  obtain ⟨i, hi, rfl⟩ := List.getElem_of_mem h
  exact ⟨i, hi, by unfold lat; rw [List.getD_eq_getElem?_getD, List.getElem?_eq_getElem hi]; rfl⟩
theorem SlotsOK.body {l : List Slot} (h : SlotsOK l) : (bodyF l).length ≤ 2000000 := by
  have h1 := flat_len (l := l) fun s hs => by obtain ⟨i, _, rfl⟩ := mem_lat hs; exact h.plen i
  have h2 := h.len
  have h3 : magicB.length = 8 := rfl
  unfold bodyF
  simp only [List.length_append, beI_length, h3]
  omega
theorem go_put {l : List Slot} (hl : l.length ≤ 1000000000000) : S E F.index_Put [.lst (slots l) l.length] [] =
    some (.tup [.buf (.r 0) 0 0 (if checkF l = 0 then putF l else []).length 1, .int .i64 (checkF l)], [(.r 0, ⟨0, true, true, false, ofBytes (if checkF l = 0 then putF l else [])⟩)]) := by
  have hm : magicB.length = 8 := rfl
  rw [S_of fn_index_Put rfl rfl]
  by_cases hc : checkF l = 0
  · have hg := check_good hc
    have hb := bodyI_eq l l.length 0 (magicB ++ beI l.length 4) (by omega)
    rw [List.drop_zero, ← bodyF] at hb
    have h0 := put_l0 hg.len hg.plen [.c L.index_Put.r0] l.length 0 (magicB ++ beI l.length 4) (by omega) (by have := hg.len; simp only [List.length_append, beI_length, hm]; omega)
    rw [hb] at h0
    simp only [List.length_append, beI_length, hm, Int.cast_ofNat_Int, Nat.reduceAdd] at h0
    simp (dsimp := false) (disch := first | omega | (simp only [strs_length, List.length_set, List.length_replicate, words_length, ofBytes_length, List.length_append, List.length_cons, List.length_nil, List.length_take, List.length_drop, beI_length] <;> omega) | fail) only [L.index_Put, go_sem, reduceIte, reduceCtorEq, Nat.reduceEqDiff, Nat.reduceAdd, Nat.reduceSub, Nat.reduceMul, Nat.reduceDiv, Nat.reduceMod, Nat.reduceBEq, Nat.reduceLeDiff, Nat.reduceLT, Int.reduceEq, Int.reduceNe, Int.reduceLT, Int.reduceLE, Int.reduceBEq, Int.reduceBNe, Int.reduceToNat, Int.reduceAdd, Int.reduceSub, Int.reduceMul, Int.reduceNeg, slot0, slot0z, cells_length, flats_cells, hards_cells, leadss_cells, refsOfs_cells, rens_cells, cells_0, cells_1, cells_2, cells_35, cells_36, cells_id, over_cells, sub_cells, take_cells, slots_length, flats_slots, hards_slots, leadss_slots, refsOfs_slots, rens_slots, sub_slots, slots_0, slots_1, slots_2, slots_35, slots_36, slots_snoc, zer_bytes, app_ofBytes, ofBytes_length, flats_ofBytes, hards_ofBytes, leadss_ofBytes, refsOfs_ofBytes, rens_ofBytes, bytesOf_ofBytes, sub_ofBytes, take_ofBytes, drop_ofBytes, get_ofBytes, over_ofBytes_all, over_ofBytes, ofBytes_snoc, go_check hl, hc, magic_eq, magic_ne, go_big4]
    rw [h0]
    have hbl := hg.body
    have hsh := shaF_length (bodyF l)
    have hpl : (bodyF l).length + 32 = (putF l).length := by rw [putF, List.length_append, hsh]
    have hs := go_sum (p := bodyF l) (by omega)
    simp (dsimp := false) (disch := first | omega | (simp only [strs_length, List.length_set, List.length_replicate, words_length, ofBytes_length, List.length_append, List.length_cons, List.length_nil, List.length_take, List.length_drop, beI_length] <;> omega) | fail) only [L.index_Put.r0, go_sem, reduceIte, reduceCtorEq, Nat.reduceEqDiff, Nat.reduceAdd, Nat.reduceSub, Nat.reduceMul, Nat.reduceDiv, Nat.reduceMod, Nat.reduceBEq, Nat.reduceLeDiff, Nat.reduceLT, Int.reduceEq, Int.reduceNe, Int.reduceLT, Int.reduceLE, Int.reduceBEq, Int.reduceBNe, Int.reduceToNat, Int.reduceAdd, Int.reduceSub, Int.reduceMul, Int.reduceNeg, slot0, slot0z, cells_length, flats_cells, hards_cells, leadss_cells, refsOfs_cells, rens_cells, cells_0, cells_1, cells_2, cells_35, cells_36, cells_id, over_cells, sub_cells, take_cells, slots_length, flats_slots, hards_slots, leadss_slots, refsOfs_slots, rens_slots, sub_slots, slots_0, slots_1, slots_2, slots_35, slots_36, slots_snoc, zer_bytes, app_ofBytes, ofBytes_length, flats_ofBytes, hards_ofBytes, leadss_ofBytes, refsOfs_ofBytes, rens_ofBytes, bytesOf_ofBytes, sub_ofBytes, take_ofBytes, drop_ofBytes, get_ofBytes, over_ofBytes_all, over_ofBytes, ofBytes_snoc, hs, hpl]
    rfl
  · simp (dsimp := false) (disch := first | omega | (simp only [strs_length, List.length_set, List.length_replicate, words_length, ofBytes_length, List.length_append, List.length_cons, List.length_nil, List.length_take, List.length_drop, beI_length] <;> omega) | fail) only [L.index_Put, go_sem, reduceIte, reduceCtorEq, Nat.reduceEqDiff, Nat.reduceAdd, Nat.reduceSub, Nat.reduceMul, Nat.reduceDiv, Nat.reduceMod, Nat.reduceBEq, Nat.reduceLeDiff, Nat.reduceLT, Int.reduceEq, Int.reduceNe, Int.reduceLT, Int.reduceLE, Int.reduceBEq, Int.reduceBNe, Int.reduceToNat, Int.reduceAdd, Int.reduceSub, Int.reduceMul, Int.reduceNeg, slot0, slot0z, cells_length, flats_cells, hards_cells, leadss_cells, refsOfs_cells, rens_cells, cells_0, cells_1, cells_2, cells_35, cells_36, cells_id, over_cells, sub_cells, take_cells, slots_length, flats_slots, hards_slots, leadss_slots, refsOfs_slots, rens_slots, sub_slots, slots_0, slots_1, slots_2, slots_35, slots_36, slots_snoc, zer_bytes, app_ofBytes, ofBytes_length, flats_ofBytes, hards_ofBytes, leadss_ofBytes, refsOfs_ofBytes, rens_ofBytes, bytesOf_ofBytes, sub_ofBytes, take_ofBytes, drop_ofBytes, get_ofBytes, over_ofBytes_all, over_ofBytes, ofBytes_snoc, go_check hl, hc, List.length_nil, ofBytes_nil]
end Cod

/- An index is put, the reference's way. -/
namespace Cod
open Go

/-- stage<<12 | n, where that is a sum. -/
theorem stage_or {s n : Int} (h0 : 0 ≤ s) (h1 : s ≤ 3) (h2 : 0 ≤ n) (h3 : n ≤ 4095) : ior .i64 (ishl .i64 s 12) n = 4096 * s + n := by
  obtain ⟨a, rfl⟩ := Int.eq_ofNat_of_zero_le h0
  obtain ⟨b, rfl⟩ := Int.eq_ofNat_of_zero_le h2
  have hs : ishl .i64 (a : Int) 12 = ((a * 4096 : Nat) : Int) := by
    unfold ishl
    rw [show ((12 : Int)).toNat = 12 from rfl, show Nat.min 12 (IntKind.i64.bits) = 12 from rfl, wrap_i64 (by omega) (by omega)]
    omega
  have hor : (BitVec.ofInt 64 ((a * 4096 : Nat) : Int) ||| BitVec.ofInt 64 (b : Int)).toNat = a * 4096 + b := by
    rw [BitVec.ofInt_natCast, BitVec.ofInt_natCast, BitVec.toNat_or, BitVec.toNat_ofNat, BitVec.toNat_ofNat, Nat.mod_eq_of_lt (by omega), Nat.mod_eq_of_lt (by omega)]
    have := Nat.shiftLeft_add_eq_or_of_lt (b := b) (i := 12) (by omega) a
    rw [Nat.shiftLeft_eq, show a * 2 ^ 12 = a * 4096 from rfl] at this
    omega
  unfold ior
  rw [hs]
  show IntKind.i64.wrap ((BitVec.ofInt 64 ((a * 4096 : Nat) : Int) ||| BitVec.ofInt 64 (b : Int)).toNat : Int) = _
  rw [hor, wrap_i64 (by omega) (by omega)]
  omega

theorem go_bequal {a b : List UInt8} {n m : Nat} (hn : n = a.length) (hm : m = b.length) : S E F.bytes_Equal [.lst (ofBytes a) n, .lst (ofBytes b) m] [] = some (.bool (a == b), []) := by
  rw [S_of fn_bytes_Equal rfl rfl]
  simp (dsimp := false) (disch := first | omega | (simp only [strs_length, List.length_set, List.length_replicate, words_length, ofBytes_length, List.length_append, List.length_cons, List.length_nil, List.length_take, List.length_drop, beI_length] <;> omega) | fail) only [L.bytes_Equal, go_sem, reduceIte, reduceCtorEq, Nat.reduceEqDiff, Nat.reduceAdd, Nat.reduceSub, Nat.reduceMul, Nat.reduceDiv, Nat.reduceMod, Nat.reduceBEq, Nat.reduceLeDiff, Nat.reduceLT, Int.reduceEq, Int.reduceNe, Int.reduceLT, Int.reduceLE, Int.reduceBEq, Int.reduceBNe, Int.reduceToNat, Int.reduceAdd, Int.reduceSub, Int.reduceMul, Int.reduceNeg, zer_bytes, app_ofBytes, ofBytes_length, flats_ofBytes, hards_ofBytes, leadss_ofBytes, refsOfs_ofBytes, rens_ofBytes, bytesOf_ofBytes, sub_ofBytes, take_ofBytes, drop_ofBytes, get_ofBytes, over_ofBytes_all, over_ofBytes, ofBytes_snoc]
end Cod

/- A number out of bytes, the highest first. -/
namespace Cod
open Go

def bigN (l : List UInt8) : Nat := l.foldl (fun v b => 256 * v + b.toNat) 0
theorem bigN_snoc (l : List UInt8) (b : UInt8) : bigN (l ++ [b]) = 256 * bigN l + b.toNat := by simp [bigN]
theorem bigN_lt (l : List UInt8) : bigN l < 256 ^ l.length := by
  have h : ∀ (l : List UInt8) (v : Nat), l.foldl (fun v b => 256 * v + b.toNat) v < (v + 1) * 256 ^ l.length := by
    intro l
    induction l with
    | nil => intro v; simp
    | cons b l ih =>
      intro v
      have h1 := ih (256 * v + b.toNat)
      have h2 := b.toNat_lt
      have h3 : (256 * v + b.toNat + 1) * 256 ^ l.length ≤ (256 * (v + 1)) * 256 ^ l.length := Nat.mul_le_mul_right _ (by omega)
      rw [List.foldl_cons, List.length_cons, Nat.pow_succ, Nat.mul_comm (256 ^ l.length) 256, ← Nat.mul_assoc, Nat.mul_comm (v + 1) 256]
      omega
  simpa [bigN] using h l 0

theorem or_byte {v b : Nat} (hv : v < 72057594037927936) (hb : b < 256) : ior .u64 (ishl .u64 (v : Int) 8) (b : Int) = ((256 * v + b : Nat) : Int) := by
  have hs : ishl .u64 (v : Int) 8 = ((v * 256 : Nat) : Int) := by
    rw [show (8 : Int) = ((8 : Nat) : Int) from rfl, ishl_u64 (by omega)]
    omega
  have hor : (BitVec.ofInt 64 ((v * 256 : Nat) : Int) ||| BitVec.ofInt 64 (b : Int)).toNat = v * 256 + b := by
    rw [BitVec.ofInt_natCast, BitVec.ofInt_natCast, BitVec.toNat_or, BitVec.toNat_ofNat, BitVec.toNat_ofNat, Nat.mod_eq_of_lt (by omega), Nat.mod_eq_of_lt (by omega)]
    have := Nat.shiftLeft_add_eq_or_of_lt (b := b) (i := 8) (by omega) v
    rw [Nat.shiftLeft_eq, show v * 2 ^ 8 = v * 256 from rfl] at this
    omega
  unfold ior
  rw [hs]
  show IntKind.u64.wrap ((BitVec.ofInt 64 ((v * 256 : Nat) : Int) ||| BitVec.ofInt 64 (b : Int)).toNat : Int) = _
  rw [hor, wrap_u64 (by omega) (by omega)]
  omega

theorem wrap_bat {l : List UInt8} {i : Nat} : IntKind.u64.wrap (bat l i) = bat l i := by have := bat_range l i; exact wrap_u64 (by omega) (by omega)

theorem numbig_l0 (k : List It) (l : List UInt8) (at_ n : Nat) (h : at_ + n ≤ l.length) (hn : n ≤ 8) (hl : l.length ≤ 1000000000) : ∀ (m i : Nat), i + m = n →
    X E [.tmp 6, .tmp 7] (.c L.num_Big.x0 :: .lp [0, 1, 8, 26, 27] L.num_Big.x0 :: .blk 0 :: k) ⟨[(0, .lst (ofBytes l) l.length), (1, .int .i64 at_), (8, .int .u64 (bigN ((l.drop at_).take i))), (26, .int .i64 n), (27, .int .i64 i)], []⟩ =
    X E [.tmp 6, .tmp 7] k ⟨[(0, .lst (ofBytes l) l.length), (1, .int .i64 at_), (8, .int .u64 (bigN ((l.drop at_).take n))), (26, .int .i64 n), (27, .int .i64 n), (28, .bool false)], []⟩ := by
  intro m
  induction m with
  | zero =>
    intro i h1
    obtain rfl : i = n := by omega
    rw [X_in L.num_Big.x0.eq_1]
    simp (dsimp := false) (disch := first | omega | (simp only [strs_length, List.length_set, List.length_replicate, words_length, ofBytes_length, List.length_append, List.length_cons, List.length_nil, List.length_take, List.length_drop] <;> omega) | fail) only [go_sem, reduceIte, reduceCtorEq, Nat.reduceEqDiff, Nat.reduceAdd, Nat.reduceSub, Nat.reduceMul, Nat.reduceDiv, Nat.reduceMod, Nat.reduceBEq, Nat.reduceLeDiff, Nat.reduceLT, Int.reduceEq, Int.reduceNe, Int.reduceLT, Int.reduceLE, Int.reduceBEq, Int.reduceBNe, Int.reduceToNat, Int.reduceAdd, Int.reduceSub, Int.reduceMul, Int.reduceNeg, zer_bytes, app_ofBytes, ofBytes_length, flats_ofBytes, hards_ofBytes, leadss_ofBytes, refsOfs_ofBytes, rens_ofBytes, bytesOf_ofBytes, sub_ofBytes, take_ofBytes, drop_ofBytes, get_ofBytes, over_ofBytes_all, over_ofBytes, ofBytes_snoc]
  | succ m ih =>
    intro i h1
    have hv : bigN ((l.drop at_).take i) < 72057594037927936 := by
      have := bigN_lt ((l.drop at_).take i)
      have h2 : ((l.drop at_).take i).length ≤ 7 := by simp; omega
      have h3 : 256 ^ ((l.drop at_).take i).length ≤ 256 ^ 7 := Nat.pow_le_pow_right (by omega) h2
      omega
    have e1 : bigN ((l.drop at_).take (i + 1)) = 256 * bigN ((l.drop at_).take i) + (l.getD (at_ + i) 0).toNat := by
      rw [List.take_add_one, List.getElem?_drop, List.getElem?_eq_getElem (by omega)]
      simp only [Option.toList_some, bigN_snoc]
      congr 2
      simp [List.getD, show at_ + i < l.length by omega]
    have e2 : ior .u64 (ishl .u64 (bigN ((l.drop at_).take i)) 8) (bat l (at_ + i)) = _ := or_byte hv (l.getD (at_ + i) 0).toNat_lt
    have e3 : ((at_ : Int) + (i : Int)).toNat = at_ + i := by omega
    have := ih (i + 1) (by omega)
    rw [e1, Int.natCast_add] at this
    rw [X_in L.num_Big.x0.eq_1]
    simp (dsimp := false) (disch := first | omega | (simp only [strs_length, List.length_set, List.length_replicate, words_length, ofBytes_length, List.length_append, List.length_cons, List.length_nil, List.length_take, List.length_drop] <;> omega) | fail) only [go_sem, reduceIte, reduceCtorEq, Nat.reduceEqDiff, Nat.reduceAdd, Nat.reduceSub, Nat.reduceMul, Nat.reduceDiv, Nat.reduceMod, Nat.reduceBEq, Nat.reduceLeDiff, Nat.reduceLT, Int.reduceEq, Int.reduceNe, Int.reduceLT, Int.reduceLE, Int.reduceBEq, Int.reduceBNe, Int.reduceToNat, Int.reduceAdd, Int.reduceSub, Int.reduceMul, Int.reduceNeg, zer_bytes, app_ofBytes, ofBytes_length, flats_ofBytes, hards_ofBytes, leadss_ofBytes, refsOfs_ofBytes, rens_ofBytes, bytesOf_ofBytes, sub_ofBytes, take_ofBytes, drop_ofBytes, get_ofBytes, over_ofBytes_all, over_ofBytes, ofBytes_snoc, e3, wrap_bat, e2]
    exact this
theorem go_numbig {l : List UInt8} {at_ n k : Nat} (hk : k = l.length) (h : at_ + n ≤ l.length) (h1 : 1 ≤ n) (hn : n ≤ 8) (hl : l.length ≤ 1000000000) :
    S E F.num_Big [.lst (ofBytes l) k, .int .i64 at_, .int .i64 n] [] = some (.tup [.int .u64 (bigN ((l.drop at_).take n)), .int .i64 0], []) := by
  subst hk
  have h := numbig_l0 [.c L.num_Big.r0] l at_ n h hn hl n 0 (by omega)
  rw [List.take_zero] at h
  simp only [show bigN [] = 0 from rfl, Int.cast_ofNat_Int] at h
  rw [S_of fn_num_Big rfl rfl]
  simp (dsimp := false) (disch := first | omega | (simp only [strs_length, List.length_set, List.length_replicate, words_length, ofBytes_length, List.length_append, List.length_cons, List.length_nil, List.length_take, List.length_drop] <;> omega) | fail) only [L.num_Big, go_sem, reduceIte, reduceCtorEq, Nat.reduceEqDiff, Nat.reduceAdd, Nat.reduceSub, Nat.reduceMul, Nat.reduceDiv, Nat.reduceMod, Nat.reduceBEq, Nat.reduceLeDiff, Nat.reduceLT, Int.reduceEq, Int.reduceNe, Int.reduceLT, Int.reduceLE, Int.reduceBEq, Int.reduceBNe, Int.reduceToNat, Int.reduceAdd, Int.reduceSub, Int.reduceMul, Int.reduceNeg, zer_bytes, app_ofBytes, ofBytes_length, flats_ofBytes, hards_ofBytes, leadss_ofBytes, refsOfs_ofBytes, rens_ofBytes, bytesOf_ofBytes, sub_ofBytes, take_ofBytes, drop_ofBytes, get_ofBytes, over_ofBytes_all, over_ofBytes, ofBytes_snoc]
  rw [h]
  simp (dsimp := false) (disch := first | omega | (simp only [strs_length, List.length_set, List.length_replicate, words_length, ofBytes_length, List.length_append, List.length_cons, List.length_nil, List.length_take, List.length_drop] <;> omega) | fail) only [L.num_Big.r0, go_sem, reduceIte, reduceCtorEq, Nat.reduceEqDiff, Nat.reduceAdd, Nat.reduceSub, Nat.reduceMul, Nat.reduceDiv, Nat.reduceMod, Nat.reduceBEq, Nat.reduceLeDiff, Nat.reduceLT, Int.reduceEq, Int.reduceNe, Int.reduceLT, Int.reduceLE, Int.reduceBEq, Int.reduceBNe, Int.reduceToNat, Int.reduceAdd, Int.reduceSub, Int.reduceMul, Int.reduceNeg, zer_bytes, app_ofBytes, ofBytes_length, flats_ofBytes, hards_ofBytes, leadss_ofBytes, refsOfs_ofBytes, rens_ofBytes, bytesOf_ofBytes, sub_ofBytes, take_ofBytes, drop_ofBytes, get_ofBytes, over_ofBytes_all, over_ofBytes, ofBytes_snoc]
theorem go_indexbyte {l : List UInt8} {n : Nat} {c : Int} (h : n = l.length) : S E F.bytes_IndexByte [.lst (ofBytes l) n, .int .u8 c] [] = some (.int .i64 (indexB l (byt c)), []) := by
  rw [S_of fn_bytes_IndexByte rfl rfl]
  simp (dsimp := false) (disch := first | omega | (simp only [strs_length, List.length_set, List.length_replicate, words_length, ofBytes_length, List.length_append, List.length_cons, List.length_nil, List.length_take, List.length_drop] <;> omega) | fail) only [L.bytes_IndexByte, go_sem, reduceIte, reduceCtorEq, Nat.reduceEqDiff, Nat.reduceAdd, Nat.reduceSub, Nat.reduceMul, Nat.reduceDiv, Nat.reduceMod, Nat.reduceBEq, Nat.reduceLeDiff, Nat.reduceLT, Int.reduceEq, Int.reduceNe, Int.reduceLT, Int.reduceLE, Int.reduceBEq, Int.reduceBNe, Int.reduceToNat, Int.reduceAdd, Int.reduceSub, Int.reduceMul, Int.reduceNeg, zer_bytes, app_ofBytes, ofBytes_length, flats_ofBytes, hards_ofBytes, leadss_ofBytes, refsOfs_ofBytes, rens_ofBytes, bytesOf_ofBytes, sub_ofBytes, take_ofBytes, drop_ofBytes, get_ofBytes, over_ofBytes_all, over_ofBytes, ofBytes_snoc, S_indexByte]
end Cod

/- An index is parsed. -/
namespace Cod
open Go
theorem sub_len {α : Type} {l : List α} {a n : Nat} : (sub l a n).length = min n (l.length - a) := by simp [sub]

theorem go_four {l : List UInt8} {at_ k : Nat} (hk : k = l.length) (h : at_ + 4 ≤ l.length) (hl : l.length ≤ 1000000000) :
    S E F.index_slot_fn1 [.int .i64 at_, .fp [.lst (ofBytes l) k] 0] [] = some (.int .i64 (bigN ((l.drop at_).take 4)), []) := by
  have h1 : S E F.num_Big [.lst (ofBytes l) k, .int .i64 at_, .int .i64 4] [] = _ := go_numbig (n := 4) hk h (by omega) (by omega) hl
  have h2 : bigN ((l.drop at_).take 4) < 4294967296 := by
    have := bigN_lt ((l.drop at_).take 4)
    rw [show ((l.drop at_).take 4).length = 4 by simp; omega] at this
    exact this
  rw [S_of fn_index_slot_fn1 rfl rfl]
  simp (dsimp := false) (disch := first | omega | (simp only [strs_length, List.length_set, List.length_replicate, words_length, ofBytes_length, List.length_append, List.length_cons, List.length_nil, List.length_take, List.length_drop, sub_len] <;> omega) | fail) only [L.index_slot_fn1, go_sem, reduceIte, reduceCtorEq, Nat.reduceEqDiff, Nat.reduceAdd, Nat.reduceSub, Nat.reduceMul, Nat.reduceDiv, Nat.reduceMod, Nat.reduceBEq, Nat.reduceLeDiff, Nat.reduceLT, Int.reduceEq, Int.reduceNe, Int.reduceLT, Int.reduceLE, Int.reduceBEq, Int.reduceBNe, Int.reduceToNat, Int.reduceAdd, Int.reduceSub, Int.reduceMul, Int.reduceNeg, zer_bytes, app_ofBytes, ofBytes_length, flats_ofBytes, hards_ofBytes, leadss_ofBytes, refsOfs_ofBytes, rens_ofBytes, bytesOf_ofBytes, sub_ofBytes, take_ofBytes, drop_ofBytes, get_ofBytes, over_ofBytes_all, over_ofBytes, ofBytes_snoc, h1]

/-- The stage that a byte bears. -/
def stg (b : UInt8) : Int := ((b.toNat / 16 % 4 : Nat) : Int)
theorem stg_range (b : UInt8) : 0 ≤ stg b ∧ stg b ≤ 3 := by unfold stg; omega
theorem and3 (n : Nat) : n &&& 3 = n % 4 := Nat.and_two_pow_sub_one_eq_mod n 2
theorem stg_eq (l : List UInt8) (i : Nat) : iand .u8 (ishr .u8 (bat l i) 4) 3 = stg (l.getD i 0) := by
  have h := (l.getD i 0).toNat_lt
  have e1 : ishr .u8 (bat l i) 4 = (((l.getD i 0).toNat / 16 : Nat) : Int) := by
    rw [show (4 : Int) = ((4 : Nat) : Int) from rfl, ishr_any (by simp [IntKind.bits])]
    unfold bat
    omega
  have hand : (BitVec.ofInt 8 (((l.getD i 0).toNat / 16 : Nat) : Int) &&& BitVec.ofInt 8 3).toNat = (l.getD i 0).toNat / 16 % 4 := by
    rw [BitVec.ofInt_natCast, BitVec.toNat_and, BitVec.toNat_ofNat, Nat.mod_eq_of_lt (by omega), show (BitVec.ofInt 8 3).toNat = 3 from rfl, and3]
  unfold iand
  rw [e1]
  show IntKind.u8.wrap ((BitVec.ofInt 8 (((l.getD i 0).toNat / 16 : Nat) : Int) &&& BitVec.ofInt 8 3).toNat : Int) = _
  rw [hand, wrap_u8]
  unfold stg
  omega

theorem over_c0 {s : Slot} {p : List UInt8} : over s.cells 0 [.str p] = ({ s with path := p } : Slot).cells := rfl
theorem over_c1 {s : Slot} {p : Int} : over s.cells 1 [.int .i64 p] = ({ s with stage := p } : Slot).cells := rfl
theorem over_c2 {s : Slot} {p : Int} : over s.cells 2 [.int .i64 p] = ({ s with mode := p } : Slot).cells := rfl
theorem over_c3 {s : Slot} {p : List UInt8} (h : p.length = 32) : over s.cells 3 (ofBytes p) = ({ s with id := p, hid := h } : Slot).cells := by
  have := s.hid
  unfold over Slot.cells
  simp only [List.take_succ_cons, List.take_zero, List.cons_append, List.nil_append, ofBytes_length, h]
  rw [show 3 + 32 = 32 + 3 from rfl]
  simp only [List.drop_succ_cons]
  rw [List.drop_append_of_le_length (by simp [ofBytes_length, this]), List.drop_of_length_le (by simp [ofBytes_length, this]), List.nil_append]
theorem over_c35 {s : Slot} {p : Int} : over s.cells 35 [.int .i64 p] = ({ s with size := p } : Slot).cells := by
  have := s.hid
  unfold over Slot.cells
  simp only [List.take_succ_cons, List.cons_append, List.drop_succ_cons, List.length_singleton]
  rw [List.take_append_of_le_length (by simp [ofBytes_length, this]), List.take_of_length_le (by simp [ofBytes_length, this]), List.drop_append, List.drop_of_length_le (by simp [ofBytes_length, this])]
  simp [ofBytes_length, this]
theorem over_c36 {s : Slot} {p : Int} : over s.cells 36 [.int .i64 p] = ({ s with time := p } : Slot).cells := by
  have := s.hid
  unfold over Slot.cells
  simp only [List.take_succ_cons, List.cons_append, List.drop_succ_cons, List.length_singleton]
  rw [List.take_append, List.take_of_length_le (by simp [ofBytes_length, this]), List.drop_append, List.drop_of_length_le (by simp [ofBytes_length, this])]
  simp [ofBytes_length, this]
theorem indexB_pos {l : List UInt8} {c : UInt8} (h : c ∈ l) : indexB l c = (l.idxOf c : Nat) := by simp [indexB, h]
theorem indexB_neg {l : List UInt8} {c : UInt8} (h : c ∉ l) : indexB l c = -1 := by simp [indexB, h]

/-- 32 bytes from 40 on. -/
def idAt (l : List UInt8) : List UInt8 := (sub l 40 32 ++ List.replicate 32 0).take 32
theorem idAt_length (l : List UInt8) : (idAt l).length = 32 := by simp [idAt]
theorem idAt_eq {l : List UInt8} (h : 72 ≤ l.length) : idAt l = sub l 40 32 := by
  unfold idAt
  rw [List.take_append_of_le_length (by rw [sub_len]; omega), List.take_of_length_le (by rw [sub_len]; omega)]
/-- How long the path of a slot is. -/
def zAt (l : List UInt8) : Nat := (l.drop 74).idxOf 0
def slotAt (l : List UInt8) : Slot := ⟨sub l 74 (zAt l), stg (l.getD 72 0), bigN ((l.drop 24).take 4), idAt l, bigN ((l.drop 36).take 4), bigN ((l.drop 8).take 4), idAt_length l⟩
def hasSlot (l : List UInt8) : Prop := 74 < l.length ∧ 0 ∈ l.drop 74
instance (l : List UInt8) : Decidable (hasSlot l) := by unfold hasSlot; infer_instance
def slotLen (l : List UInt8) : Nat := (74 + zAt l) / 8 * 8 + 8

theorem go_slot_t {l : List UInt8} {n : Nat} (hn : n = l.length) (hs : hasSlot l) (hl : l.length ≤ 1000000000) :
    S E F.index_slot [.lst (ofBytes l) n] [] = some (.tup [.agg (slotAt l).cells, .int .i64 (slotLen l), .bool true], []) := by
  obtain ⟨h, hm⟩ := hs
  have hz : indexB (l.drop 74) 0 = (zAt l : Nat) := indexB_pos hm
  have hzl : 74 + zAt l < l.length := by
    have := List.idxOf_lt_length_of_mem hm
    rw [List.length_drop] at this
    unfold zAt; omega
  have hid := idAt_eq (l := l) (by omega)
  unfold slotAt slotLen
  generalize zAt l = z at hz hzl
  have e1 : sub l 74 (n - 74) = l.drop 74 := by subst hn; exact sub_drop (by omega)
  have e2 : byt 0 = 0 := rfl
  have e3 : (74 + (z : Int)).toNat = 74 + z := by omega
  have e4 : 74 + z - 74 = z := by omega
  have f8 := @go_four l 8 n hn (by omega) hl
  have f24 := @go_four l 24 n hn (by omega) hl
  have f36 := @go_four l 36 n hn (by omega) hl
  simp only [Int.cast_ofNat_Int] at f8 f24 f36
  have hs := stg_range (l.getD 72 0)
  rw [S_of fn_index_slot rfl rfl]
  simp (dsimp := false) (disch := first | omega | (simp only [strs_length, List.length_set, List.length_replicate, words_length, ofBytes_length, List.length_append, List.length_cons, List.length_nil, List.length_take, List.length_drop, sub_len] <;> omega) | fail) only [L.index_slot, go_sem, reduceIte, reduceCtorEq, Nat.reduceEqDiff, Nat.reduceAdd, Nat.reduceSub, Nat.reduceMul, Nat.reduceDiv, Nat.reduceMod, Nat.reduceBEq, Nat.reduceLeDiff, Nat.reduceLT, Int.reduceEq, Int.reduceNe, Int.reduceLT, Int.reduceLE, Int.reduceBEq, Int.reduceBNe, Int.reduceToNat, Int.reduceAdd, Int.reduceSub, Int.reduceMul, Int.reduceNeg, zer_bytes, app_ofBytes, ofBytes_length, flats_ofBytes, hards_ofBytes, leadss_ofBytes, refsOfs_ofBytes, rens_ofBytes, bytesOf_ofBytes, sub_ofBytes, take_ofBytes, drop_ofBytes, get_ofBytes, over_ofBytes_all, over_ofBytes, ofBytes_snoc, go_indexbyte, e1, e2, hz, e3, e4, f8, f24, f36, stg_eq, over_c0, over_c1, over_c2, over_c3, over_c35, over_c36, slot0, slot0z, cells_length, flats_cells, hards_cells, leadss_cells, refsOfs_cells, rens_cells, cells_0, cells_1, cells_2, cells_35, cells_36, cells_id, over_cells, sub_cells, take_cells, slots_length, flats_slots, hards_slots, leadss_slots, refsOfs_slots, rens_slots, sub_slots, slots_0, slots_1, slots_2, slots_35, slots_36, slots_snoc]
  simp only [hid]
  congr 5
theorem go_slot_f {l : List UInt8} {n : Nat} (hn : n = l.length) (hs : ¬ hasSlot l) (hl : l.length ≤ 1000000000) :
    S E F.index_slot [.lst (ofBytes l) n] [] = some (.tup [.agg (default : Slot).cells, .int .i64 0, .bool false], []) := by
  have e2 : byt 0 = 0 := rfl
  rw [S_of fn_index_slot rfl rfl]
  by_cases h : 74 < l.length
  · have hz : indexB (l.drop 74) 0 = -1 := indexB_neg fun hm => hs ⟨h, hm⟩
    have e1 : sub l 74 (n - 74) = l.drop 74 := by subst hn; exact sub_drop (by omega)
    simp (dsimp := false) (disch := first | omega | (simp only [strs_length, List.length_set, List.length_replicate, words_length, ofBytes_length, List.length_append, List.length_cons, List.length_nil, List.length_take, List.length_drop, sub_len] <;> omega) | fail) only [L.index_slot, go_sem, reduceIte, reduceCtorEq, Nat.reduceEqDiff, Nat.reduceAdd, Nat.reduceSub, Nat.reduceMul, Nat.reduceDiv, Nat.reduceMod, Nat.reduceBEq, Nat.reduceLeDiff, Nat.reduceLT, Int.reduceEq, Int.reduceNe, Int.reduceLT, Int.reduceLE, Int.reduceBEq, Int.reduceBNe, Int.reduceToNat, Int.reduceAdd, Int.reduceSub, Int.reduceMul, Int.reduceNeg, zer_bytes, app_ofBytes, ofBytes_length, flats_ofBytes, hards_ofBytes, leadss_ofBytes, refsOfs_ofBytes, rens_ofBytes, bytesOf_ofBytes, sub_ofBytes, take_ofBytes, drop_ofBytes, get_ofBytes, over_ofBytes_all, over_ofBytes, ofBytes_snoc, go_indexbyte, e1, e2, hz, slot0, slot0z, cells_length, flats_cells, hards_cells, leadss_cells, refsOfs_cells, rens_cells, cells_0, cells_1, cells_2, cells_35, cells_36, cells_id, over_cells, sub_cells, take_cells, slots_length, flats_slots, hards_slots, leadss_slots, refsOfs_slots, rens_slots, sub_slots, slots_0, slots_1, slots_2, slots_35, slots_36, slots_snoc]
  · simp (dsimp := false) (disch := first | omega | (simp only [strs_length, List.length_set, List.length_replicate, words_length, ofBytes_length, List.length_append, List.length_cons, List.length_nil, List.length_take, List.length_drop, sub_len] <;> omega) | fail) only [L.index_slot, go_sem, reduceIte, reduceCtorEq, Nat.reduceEqDiff, Nat.reduceAdd, Nat.reduceSub, Nat.reduceMul, Nat.reduceDiv, Nat.reduceMod, Nat.reduceBEq, Nat.reduceLeDiff, Nat.reduceLT, Int.reduceEq, Int.reduceNe, Int.reduceLT, Int.reduceLE, Int.reduceBEq, Int.reduceBNe, Int.reduceToNat, Int.reduceAdd, Int.reduceSub, Int.reduceMul, Int.reduceNeg, zer_bytes, app_ofBytes, ofBytes_length, flats_ofBytes, hards_ofBytes, leadss_ofBytes, refsOfs_ofBytes, rens_ofBytes, bytesOf_ofBytes, sub_ofBytes, take_ofBytes, drop_ofBytes, get_ofBytes, over_ofBytes_all, over_ofBytes, ofBytes_snoc, slot0, slot0z, cells_length, flats_cells, hards_cells, leadss_cells, refsOfs_cells, rens_cells, cells_0, cells_1, cells_2, cells_35, cells_36, cells_id, over_cells, sub_cells, take_cells, slots_length, flats_slots, hards_slots, leadss_slots, refsOfs_slots, rens_slots, sub_slots, slots_0, slots_1, slots_2, slots_35, slots_36, slots_snoc]
end Cod

/- An index is parsed: the whole. -/
namespace Cod
open Go

/-- The slots of bytes, each behind the one ahead. -/
def parseL : Nat → List UInt8 → List Slot → Option (List Slot)
  | 0, _, _ => none
  | m + 1, rest, acc => if rest.length = 0 then some acc else
      if hasSlot rest then (if rest.length < slotLen rest ∨ acc.length = 4096 then none else parseL m (rest.drop (slotLen rest)) (acc ++ [slotAt rest])) else none

theorem slotLen_pos (l : List UInt8) : 74 < slotLen l := by unfold slotLen; omega
theorem parse_l0 (k : List It) (p : List UInt8) : ∀ (m : Nat) (rest : List UInt8) (acc : List Slot), rest.length < m → rest.length ≤ 100000000 → acc.length ≤ 4096 → ∃ jk,
    X E [.tmp 2, .tmp 3] (.c L.index_Parse.x0 :: .lp [0, 4, 5] L.index_Parse.x0 :: .blk 0 :: k) ⟨[(0, .lst (ofBytes p) p.length), (4, .buf (.s 1000000 0) 0 0 acc.length 37), (5, .lst (ofBytes rest) rest.length)], [(.s 1000000 0, ⟨0, true, true, false, slots acc⟩)]⟩ =
    match parseL m rest acc with
    | some l => X E [.tmp 2, .tmp 3] k ⟨[(0, .lst (ofBytes p) p.length), (4, .buf (.s 1000000 0) 0 0 l.length 37), (5, jk), (24, .bool false)], [(.s 1000000 0, ⟨0, true, true, false, slots l⟩)]⟩
    | none => some (.tup [.buf (.r 0) 0 0 0 37, .int .i64 4], [(.r 0, ⟨0, true, true, false, []⟩)]) := by
  intro m
  induction m with
  | zero => intro rest acc h; omega
  | succ m ih =>
    intro rest acc h1 h2 h3
    rw [X_in L.index_Parse.x0.eq_1]
    unfold parseL
    by_cases h0 : rest.length = 0
    · refine ⟨.lst (ofBytes rest) rest.length, ?_⟩
      rw [if_pos h0]
      simp (dsimp := false) (disch := first | omega | (simp only [strs_length, List.length_set, List.length_replicate, words_length, ofBytes_length, List.length_append, List.length_cons, List.length_nil, List.length_take, List.length_drop, sub_len, slots_length] <;> omega) | fail) only [go_sem, reduceIte, reduceCtorEq, Nat.reduceEqDiff, Nat.reduceAdd, Nat.reduceSub, Nat.reduceMul, Nat.reduceDiv, Nat.reduceMod, Nat.reduceBEq, Nat.reduceLeDiff, Nat.reduceLT, Int.reduceEq, Int.reduceNe, Int.reduceLT, Int.reduceLE, Int.reduceBEq, Int.reduceBNe, Int.reduceToNat, Int.reduceAdd, Int.reduceSub, Int.reduceMul, Int.reduceNeg, zer_bytes, app_ofBytes, ofBytes_length, flats_ofBytes, hards_ofBytes, leadss_ofBytes, refsOfs_ofBytes, rens_ofBytes, bytesOf_ofBytes, sub_ofBytes, take_ofBytes, drop_ofBytes, get_ofBytes, over_ofBytes_all, over_ofBytes, ofBytes_snoc, slot0, slot0z, cells_length, flats_cells, hards_cells, leadss_cells, refsOfs_cells, rens_cells, cells_0, cells_1, cells_2, cells_35, cells_36, cells_id, over_cells, sub_cells, take_cells, slots_length, flats_slots, hards_slots, leadss_slots, refsOfs_slots, rens_slots, sub_slots, slots_0, slots_1, slots_2, slots_35, slots_36, slots_snoc]
    · rw [if_neg h0]
      by_cases hs : hasSlot rest
      · rw [if_pos hs]
        have hg := go_slot_t rfl hs (by omega)
        have hp := slotLen_pos rest
        by_cases hc : rest.length < slotLen rest ∨ acc.length = 4096
        · rw [if_pos hc]
          refine ⟨.und, ?_⟩
          by_cases hc1 : rest.length < slotLen rest
          · simp (dsimp := false) (disch := first | omega | (simp only [strs_length, List.length_set, List.length_replicate, words_length, ofBytes_length, List.length_append, List.length_cons, List.length_nil, List.length_take, List.length_drop, sub_len, slots_length] <;> omega) | fail) only [go_sem, reduceIte, reduceCtorEq, Nat.reduceEqDiff, Nat.reduceAdd, Nat.reduceSub, Nat.reduceMul, Nat.reduceDiv, Nat.reduceMod, Nat.reduceBEq, Nat.reduceLeDiff, Nat.reduceLT, Int.reduceEq, Int.reduceNe, Int.reduceLT, Int.reduceLE, Int.reduceBEq, Int.reduceBNe, Int.reduceToNat, Int.reduceAdd, Int.reduceSub, Int.reduceMul, Int.reduceNeg, zer_bytes, app_ofBytes, ofBytes_length, flats_ofBytes, hards_ofBytes, leadss_ofBytes, refsOfs_ofBytes, rens_ofBytes, bytesOf_ofBytes, sub_ofBytes, take_ofBytes, drop_ofBytes, get_ofBytes, over_ofBytes_all, over_ofBytes, ofBytes_snoc, slot0, slot0z, cells_length, flats_cells, hards_cells, leadss_cells, refsOfs_cells, rens_cells, cells_0, cells_1, cells_2, cells_35, cells_36, cells_id, over_cells, sub_cells, take_cells, slots_length, flats_slots, hards_slots, leadss_slots, refsOfs_slots, rens_slots, sub_slots, slots_0, slots_1, slots_2, slots_35, slots_36, slots_snoc, hg]
          · have hc2 := hc.resolve_left hc1
            simp (dsimp := false) (disch := first | omega | (simp only [strs_length, List.length_set, List.length_replicate, words_length, ofBytes_length, List.length_append, List.length_cons, List.length_nil, List.length_take, List.length_drop, sub_len, slots_length] <;> omega) | fail) only [go_sem, reduceIte, reduceCtorEq, Nat.reduceEqDiff, Nat.reduceAdd, Nat.reduceSub, Nat.reduceMul, Nat.reduceDiv, Nat.reduceMod, Nat.reduceBEq, Nat.reduceLeDiff, Nat.reduceLT, Int.reduceEq, Int.reduceNe, Int.reduceLT, Int.reduceLE, Int.reduceBEq, Int.reduceBNe, Int.reduceToNat, Int.reduceAdd, Int.reduceSub, Int.reduceMul, Int.reduceNeg, zer_bytes, app_ofBytes, ofBytes_length, flats_ofBytes, hards_ofBytes, leadss_ofBytes, refsOfs_ofBytes, rens_ofBytes, bytesOf_ofBytes, sub_ofBytes, take_ofBytes, drop_ofBytes, get_ofBytes, over_ofBytes_all, over_ofBytes, ofBytes_snoc, slot0, slot0z, cells_length, flats_cells, hards_cells, leadss_cells, refsOfs_cells, rens_cells, cells_0, cells_1, cells_2, cells_35, cells_36, cells_id, over_cells, sub_cells, take_cells, slots_length, flats_slots, hards_slots, leadss_slots, refsOfs_slots, rens_slots, sub_slots, slots_0, slots_1, slots_2, slots_35, slots_36, slots_snoc, hg]
        · rw [if_neg hc]
          rw [not_or] at hc
          obtain ⟨hc1, hc2⟩ := hc
          obtain ⟨jk, hi⟩ := ih (rest.drop (slotLen rest)) (acc ++ [slotAt rest]) (by rw [List.length_drop]; omega) (by rw [List.length_drop]; omega) (by simp; omega)
          refine ⟨jk, ?_⟩
          rw [← hi]
          simp (dsimp := false) (disch := first | omega | (simp only [strs_length, List.length_set, List.length_replicate, words_length, ofBytes_length, List.length_append, List.length_cons, List.length_nil, List.length_take, List.length_drop, sub_len, slots_length] <;> omega) | fail) only [go_sem, reduceIte, reduceCtorEq, Nat.reduceEqDiff, Nat.reduceAdd, Nat.reduceSub, Nat.reduceMul, Nat.reduceDiv, Nat.reduceMod, Nat.reduceBEq, Nat.reduceLeDiff, Nat.reduceLT, Int.reduceEq, Int.reduceNe, Int.reduceLT, Int.reduceLE, Int.reduceBEq, Int.reduceBNe, Int.reduceToNat, Int.reduceAdd, Int.reduceSub, Int.reduceMul, Int.reduceNeg, zer_bytes, app_ofBytes, ofBytes_length, flats_ofBytes, hards_ofBytes, leadss_ofBytes, refsOfs_ofBytes, rens_ofBytes, bytesOf_ofBytes, sub_ofBytes, take_ofBytes, drop_ofBytes, get_ofBytes, over_ofBytes_all, over_ofBytes, ofBytes_snoc, slot0, slot0z, cells_length, flats_cells, hards_cells, leadss_cells, refsOfs_cells, rens_cells, cells_0, cells_1, cells_2, cells_35, cells_36, cells_id, over_cells, sub_cells, take_cells, slots_length, flats_slots, hards_slots, leadss_slots, refsOfs_slots, rens_slots, sub_slots, slots_0, slots_1, slots_2, slots_35, slots_36, slots_snoc, hg, List.length_append, List.length_singleton, List.length_drop, sub_take, take_len, sub_drop]
      · rw [if_neg hs]
        have hg := go_slot_f rfl hs (by omega)
        refine ⟨.und, ?_⟩
        simp (dsimp := false) (disch := first | omega | (simp only [strs_length, List.length_set, List.length_replicate, words_length, ofBytes_length, List.length_append, List.length_cons, List.length_nil, List.length_take, List.length_drop, sub_len, slots_length] <;> omega) | fail) only [go_sem, reduceIte, reduceCtorEq, Nat.reduceEqDiff, Nat.reduceAdd, Nat.reduceSub, Nat.reduceMul, Nat.reduceDiv, Nat.reduceMod, Nat.reduceBEq, Nat.reduceLeDiff, Nat.reduceLT, Int.reduceEq, Int.reduceNe, Int.reduceLT, Int.reduceLE, Int.reduceBEq, Int.reduceBNe, Int.reduceToNat, Int.reduceAdd, Int.reduceSub, Int.reduceMul, Int.reduceNeg, zer_bytes, app_ofBytes, ofBytes_length, flats_ofBytes, hards_ofBytes, leadss_ofBytes, refsOfs_ofBytes, rens_ofBytes, bytesOf_ofBytes, sub_ofBytes, take_ofBytes, drop_ofBytes, get_ofBytes, over_ofBytes_all, over_ofBytes, ofBytes_snoc, slot0, slot0z, cells_length, flats_cells, hards_cells, leadss_cells, refsOfs_cells, rens_cells, cells_0, cells_1, cells_2, cells_35, cells_36, cells_id, over_cells, sub_cells, take_cells, slots_length, flats_slots, hards_slots, leadss_slots, refsOfs_slots, rens_slots, sub_slots, slots_0, slots_1, slots_2, slots_35, slots_36, slots_snoc, hg]

theorem parseL_length : ∀ {m : Nat} {rest : List UInt8} {acc l : List Slot}, parseL m rest acc = some l → acc.length ≤ 4096 → l.length ≤ 4096 := by
  intro m
  induction m with
  | zero => intro rest acc l h; simp [parseL] at h
  | succ m ih =>
    intro rest acc l h ha
    unfold parseL at h
    split at h
    · cases h; exact ha
    · split at h
      · split at h
        · cases h
        · rename_i hc
          rw [not_or] at hc
          exact ih h (by simp; omega)
      · cases h

theorem putF_len {l : List Slot} (h : checkF l = 0) : 44 ≤ (putF l).length ∧ (putF l).length ≤ 2000032 := by
  have hb := (check_good h).body
  have hs := shaF_length (bodyF l)
  have hm : magicB.length = 8 := rfl
  have h1 : 12 ≤ (bodyF l).length := by unfold bodyF; simp only [List.length_append, beI_length, hm]; omega
  rw [putF, List.length_append, hs]
  omega
/-- What Parse answers of slots that it found. -/
def parseG (p : List UInt8) (l : List Slot) : List Slot × Int :=
  if checkF l = 0 ∧ (putF l).take ((putF l).length - 32) = p.take (p.length - 32) then (if putF l = p then (l, 0) else ([], 6)) else ([], 4)

theorem parse_end {p : List UInt8} {l : List Slot} {jk : AV} (h1 : p.length ≤ 2097152) (h2 : 44 ≤ p.length) (hll : l.length ≤ 4096) :
    X E [.tmp 2, .tmp 3] [.c L.index_Parse.r0] ⟨[(0, .lst (ofBytes p) p.length), (4, .buf (.s 1000000 0) 0 0 l.length 37), (5, jk), (24, .bool false)], [(.s 1000000 0, ⟨0, true, true, false, slots l⟩)]⟩ =
    some (.tup [.buf (.r 0) 0 0 (parseG p l).1.length 37, .int .i64 (parseG p l).2], [(.r 0, ⟨0, true, true, false, slots (parseG p l).1⟩)]) := by
  have hput := go_put (l := l) (by omega)
  have e2 : ((p.length : Int) - 32).toNat = p.length - 32 := by omega
  unfold parseG
  by_cases hc : checkF l = 0
  · simp only [hc, if_true] at hput
    have hlen := putF_len hc
    have e3 : (((putF l).length : Int) - 32).toNat = (putF l).length - 32 := by omega
    simp only [hc, true_and]
    by_cases ht : (putF l).take ((putF l).length - 32) = p.take (p.length - 32)
    · have ht' : ((putF l).take ((putF l).length - 32) == p.take (p.length - 32)) = true := by simpa using ht
      rw [if_pos ht]
      by_cases he : putF l = p
      · have he' : (putF l == p) = true := by simpa using he
        rw [if_pos he]
        simp (dsimp := false) (disch := first | omega | (simp only [strs_length, List.length_set, List.length_replicate, words_length, ofBytes_length, List.length_append, List.length_cons, List.length_nil, List.length_take, List.length_drop, sub_len, slots_length] <;> omega) | fail) only [L.index_Parse.r0, go_sem, reduceIte, reduceCtorEq, Nat.reduceEqDiff, Nat.reduceAdd, Nat.reduceSub, Nat.reduceMul, Nat.reduceDiv, Nat.reduceMod, Nat.reduceBEq, Nat.reduceLeDiff, Nat.reduceLT, Int.reduceEq, Int.reduceNe, Int.reduceLT, Int.reduceLE, Int.reduceBEq, Int.reduceBNe, Int.reduceToNat, Int.reduceAdd, Int.reduceSub, Int.reduceMul, Int.reduceNeg, zer_bytes, app_ofBytes, ofBytes_length, flats_ofBytes, hards_ofBytes, leadss_ofBytes, refsOfs_ofBytes, rens_ofBytes, bytesOf_ofBytes, sub_ofBytes, take_ofBytes, drop_ofBytes, get_ofBytes, over_ofBytes_all, over_ofBytes, ofBytes_snoc, slot0, slot0z, cells_length, flats_cells, hards_cells, leadss_cells, refsOfs_cells, rens_cells, cells_0, cells_1, cells_2, cells_35, cells_36, cells_id, over_cells, sub_cells, take_cells, slots_length, flats_slots, hards_slots, leadss_slots, refsOfs_slots, rens_slots, sub_slots, slots_0, slots_1, slots_2, slots_35, slots_36, slots_snoc, sub_take, take_len, sub_drop, hput, hc, e2, e3, Nat.sub_zero, go_bequal, ht', he']
      · have he' : (putF l == p) = false := by simpa using he
        rw [if_neg he]
        simp (dsimp := false) (disch := first | omega | (simp only [strs_length, List.length_set, List.length_replicate, words_length, ofBytes_length, List.length_append, List.length_cons, List.length_nil, List.length_take, List.length_drop, sub_len, slots_length] <;> omega) | fail) only [L.index_Parse.r0, go_sem, reduceIte, reduceCtorEq, Nat.reduceEqDiff, Nat.reduceAdd, Nat.reduceSub, Nat.reduceMul, Nat.reduceDiv, Nat.reduceMod, Nat.reduceBEq, Nat.reduceLeDiff, Nat.reduceLT, Int.reduceEq, Int.reduceNe, Int.reduceLT, Int.reduceLE, Int.reduceBEq, Int.reduceBNe, Int.reduceToNat, Int.reduceAdd, Int.reduceSub, Int.reduceMul, Int.reduceNeg, zer_bytes, app_ofBytes, ofBytes_length, flats_ofBytes, hards_ofBytes, leadss_ofBytes, refsOfs_ofBytes, rens_ofBytes, bytesOf_ofBytes, sub_ofBytes, take_ofBytes, drop_ofBytes, get_ofBytes, over_ofBytes_all, over_ofBytes, ofBytes_snoc, slot0, slot0z, cells_length, flats_cells, hards_cells, leadss_cells, refsOfs_cells, rens_cells, cells_0, cells_1, cells_2, cells_35, cells_36, cells_id, over_cells, sub_cells, take_cells, slots_length, flats_slots, hards_slots, leadss_slots, refsOfs_slots, rens_slots, sub_slots, slots_0, slots_1, slots_2, slots_35, slots_36, slots_snoc, sub_take, take_len, sub_drop, hput, hc, e2, e3, Nat.sub_zero, go_bequal, ht', he']
        rfl
    · have ht' : ((putF l).take ((putF l).length - 32) == p.take (p.length - 32)) = false := by simpa using ht
      rw [if_neg ht]
      simp (dsimp := false) (disch := first | omega | (simp only [strs_length, List.length_set, List.length_replicate, words_length, ofBytes_length, List.length_append, List.length_cons, List.length_nil, List.length_take, List.length_drop, sub_len, slots_length] <;> omega) | fail) only [L.index_Parse.r0, go_sem, reduceIte, reduceCtorEq, Nat.reduceEqDiff, Nat.reduceAdd, Nat.reduceSub, Nat.reduceMul, Nat.reduceDiv, Nat.reduceMod, Nat.reduceBEq, Nat.reduceLeDiff, Nat.reduceLT, Int.reduceEq, Int.reduceNe, Int.reduceLT, Int.reduceLE, Int.reduceBEq, Int.reduceBNe, Int.reduceToNat, Int.reduceAdd, Int.reduceSub, Int.reduceMul, Int.reduceNeg, zer_bytes, app_ofBytes, ofBytes_length, flats_ofBytes, hards_ofBytes, leadss_ofBytes, refsOfs_ofBytes, rens_ofBytes, bytesOf_ofBytes, sub_ofBytes, take_ofBytes, drop_ofBytes, get_ofBytes, over_ofBytes_all, over_ofBytes, ofBytes_snoc, slot0, slot0z, cells_length, flats_cells, hards_cells, leadss_cells, refsOfs_cells, rens_cells, cells_0, cells_1, cells_2, cells_35, cells_36, cells_id, over_cells, sub_cells, take_cells, slots_length, flats_slots, hards_slots, leadss_slots, refsOfs_slots, rens_slots, sub_slots, slots_0, slots_1, slots_2, slots_35, slots_36, slots_snoc, sub_take, take_len, sub_drop, hput, hc, e2, e3, Nat.sub_zero, go_bequal, ht']
      rfl
  · simp only [hc, if_false] at hput
    rw [if_neg (fun h => hc h.1)]
    simp (dsimp := false) (disch := first | omega | (simp only [strs_length, List.length_set, List.length_replicate, words_length, ofBytes_length, List.length_append, List.length_cons, List.length_nil, List.length_take, List.length_drop, sub_len, slots_length] <;> omega) | fail) only [L.index_Parse.r0, go_sem, reduceIte, reduceCtorEq, Nat.reduceEqDiff, Nat.reduceAdd, Nat.reduceSub, Nat.reduceMul, Nat.reduceDiv, Nat.reduceMod, Nat.reduceBEq, Nat.reduceLeDiff, Nat.reduceLT, Int.reduceEq, Int.reduceNe, Int.reduceLT, Int.reduceLE, Int.reduceBEq, Int.reduceBNe, Int.reduceToNat, Int.reduceAdd, Int.reduceSub, Int.reduceMul, Int.reduceNeg, zer_bytes, app_ofBytes, ofBytes_length, flats_ofBytes, hards_ofBytes, leadss_ofBytes, refsOfs_ofBytes, rens_ofBytes, bytesOf_ofBytes, sub_ofBytes, take_ofBytes, drop_ofBytes, get_ofBytes, over_ofBytes_all, over_ofBytes, ofBytes_snoc, slot0, slot0z, cells_length, flats_cells, hards_cells, leadss_cells, refsOfs_cells, rens_cells, cells_0, cells_1, cells_2, cells_35, cells_36, cells_id, over_cells, sub_cells, take_cells, slots_length, flats_slots, hards_slots, leadss_slots, refsOfs_slots, rens_slots, sub_slots, slots_0, slots_1, slots_2, slots_35, slots_36, slots_snoc, sub_take, take_len, sub_drop, hput, hc]
    rfl
/-- What Parse answers. -/
def parseF (p : List UInt8) : List Slot × Int :=
  if 2097152 < p.length then ([], 2) else if p.length < 44 then ([], 4) else
  match parseL (p.length + 1) (sub p 12 (p.length - 44)) [] with
  | none => ([], 4)
  | some l => parseG p l
theorem go_parse {p : List UInt8} {n : Nat} (hn : n = p.length) (hp : p.length ≤ 1000000000000) : S E F.index_Parse [.lst (ofBytes p) n] [] =
    some (.tup [.buf (.r 0) 0 0 (parseF p).1.length 37, .int .i64 (parseF p).2], [(.r 0, ⟨0, true, true, false, slots (parseF p).1⟩)]) := by
  subst hn
  rw [S_of fn_index_Parse rfl rfl]
  unfold parseF
  by_cases h1 : 2097152 < p.length
  · rw [if_pos h1]
    simp (dsimp := false) (disch := first | omega | (simp only [strs_length, List.length_set, List.length_replicate, words_length, ofBytes_length, List.length_append, List.length_cons, List.length_nil, List.length_take, List.length_drop, sub_len, slots_length] <;> omega) | fail) only [L.index_Parse, go_sem, reduceIte, reduceCtorEq, Nat.reduceEqDiff, Nat.reduceAdd, Nat.reduceSub, Nat.reduceMul, Nat.reduceDiv, Nat.reduceMod, Nat.reduceBEq, Nat.reduceLeDiff, Nat.reduceLT, Int.reduceEq, Int.reduceNe, Int.reduceLT, Int.reduceLE, Int.reduceBEq, Int.reduceBNe, Int.reduceToNat, Int.reduceAdd, Int.reduceSub, Int.reduceMul, Int.reduceNeg, zer_bytes, app_ofBytes, ofBytes_length, flats_ofBytes, hards_ofBytes, leadss_ofBytes, refsOfs_ofBytes, rens_ofBytes, bytesOf_ofBytes, sub_ofBytes, take_ofBytes, drop_ofBytes, get_ofBytes, over_ofBytes_all, over_ofBytes, ofBytes_snoc, slot0, slot0z, cells_length, flats_cells, hards_cells, leadss_cells, refsOfs_cells, rens_cells, cells_0, cells_1, cells_2, cells_35, cells_36, cells_id, over_cells, sub_cells, take_cells, slots_length, flats_slots, hards_slots, leadss_slots, refsOfs_slots, rens_slots, sub_slots, slots_0, slots_1, slots_2, slots_35, slots_36, slots_snoc]
    rfl
  · by_cases h2 : p.length < 44
    · rw [if_neg h1, if_pos h2]
      simp (dsimp := false) (disch := first | omega | (simp only [strs_length, List.length_set, List.length_replicate, words_length, ofBytes_length, List.length_append, List.length_cons, List.length_nil, List.length_take, List.length_drop, sub_len, slots_length] <;> omega) | fail) only [L.index_Parse, go_sem, reduceIte, reduceCtorEq, Nat.reduceEqDiff, Nat.reduceAdd, Nat.reduceSub, Nat.reduceMul, Nat.reduceDiv, Nat.reduceMod, Nat.reduceBEq, Nat.reduceLeDiff, Nat.reduceLT, Int.reduceEq, Int.reduceNe, Int.reduceLT, Int.reduceLE, Int.reduceBEq, Int.reduceBNe, Int.reduceToNat, Int.reduceAdd, Int.reduceSub, Int.reduceMul, Int.reduceNeg, zer_bytes, app_ofBytes, ofBytes_length, flats_ofBytes, hards_ofBytes, leadss_ofBytes, refsOfs_ofBytes, rens_ofBytes, bytesOf_ofBytes, sub_ofBytes, take_ofBytes, drop_ofBytes, get_ofBytes, over_ofBytes_all, over_ofBytes, ofBytes_snoc, slot0, slot0z, cells_length, flats_cells, hards_cells, leadss_cells, refsOfs_cells, rens_cells, cells_0, cells_1, cells_2, cells_35, cells_36, cells_id, over_cells, sub_cells, take_cells, slots_length, flats_slots, hards_slots, leadss_slots, refsOfs_slots, rens_slots, sub_slots, slots_0, slots_1, slots_2, slots_35, slots_36, slots_snoc]
      rfl
    · rw [if_neg h1, if_neg h2]
      have e1 : p.length - 32 - 12 = p.length - 44 := by omega
      have e2 : ((p.length : Int) - 32).toNat = p.length - 32 := by omega
      obtain ⟨jk, h⟩ := parse_l0 [.c L.index_Parse.r0] p (p.length + 1) (sub p 12 (p.length - 44)) [] (by rw [sub_len]; omega) (by rw [sub_len]; omega) (by simp)
      rw [show (sub p 12 (p.length - 44)).length = p.length - 44 by rw [sub_len]; omega] at h
      simp only [List.length_nil, show slots [] = [] from rfl] at h
      simp (dsimp := false) (disch := first | omega | (simp only [strs_length, List.length_set, List.length_replicate, words_length, ofBytes_length, List.length_append, List.length_cons, List.length_nil, List.length_take, List.length_drop, sub_len, slots_length] <;> omega) | fail) only [L.index_Parse, go_sem, reduceIte, reduceCtorEq, Nat.reduceEqDiff, Nat.reduceAdd, Nat.reduceSub, Nat.reduceMul, Nat.reduceDiv, Nat.reduceMod, Nat.reduceBEq, Nat.reduceLeDiff, Nat.reduceLT, Int.reduceEq, Int.reduceNe, Int.reduceLT, Int.reduceLE, Int.reduceBEq, Int.reduceBNe, Int.reduceToNat, Int.reduceAdd, Int.reduceSub, Int.reduceMul, Int.reduceNeg, zer_bytes, app_ofBytes, ofBytes_length, flats_ofBytes, hards_ofBytes, leadss_ofBytes, refsOfs_ofBytes, rens_ofBytes, bytesOf_ofBytes, sub_ofBytes, take_ofBytes, drop_ofBytes, get_ofBytes, over_ofBytes_all, over_ofBytes, ofBytes_snoc, slot0, slot0z, cells_length, flats_cells, hards_cells, leadss_cells, refsOfs_cells, rens_cells, cells_0, cells_1, cells_2, cells_35, cells_36, cells_id, over_cells, sub_cells, take_cells, slots_length, flats_slots, hards_slots, leadss_slots, refsOfs_slots, rens_slots, sub_slots, slots_0, slots_1, slots_2, slots_35, slots_36, slots_snoc, e1, e2]
      rw [h]
      cases hl : parseL (p.length + 1) (sub p 12 (p.length - 44)) [] with
      | none => rfl
      | some l => exact parse_end (by omega) (by omega) (parseL_length hl (by simp))
end Cod

/- Slots, compared. -/
namespace Cod
open Go

def slotEq (a b : Slot) : Bool := (a.path == b.path) && ((a.stage == b.stage) && ((a.mode == b.mode) && ((a.id == b.id) && ((a.size == b.size) && (a.time == b.time)))))
theorem slotEq_iff (a b : Slot) : slotEq a b = true ↔ a = b := by
  cases a; cases b
  simp [slotEq]
instance : DecidableEq Slot := fun a b => decidable_of_iff (slotEq a b = true) (slotEq_iff a b)
theorem eqCells_bytes : ∀ (n : Nat) (x y : List UInt8) (ks : List Nat) (xs ys : List AV), x.length = n → y.length = n → eqCells (List.replicate n 0 ++ ks) (ofBytes x ++ xs) (ofBytes y ++ ys) = (eqCells ks xs ys).map (x == y && ·) := by
  intro n
  induction n with
  | zero =>
    intro x y ks xs ys hx hy
    obtain rfl := List.eq_nil_of_length_eq_zero hx
    obtain rfl := List.eq_nil_of_length_eq_zero hy
    simp [ofBytes]
  | succ n ih =>
    intro x y ks xs ys hx hy
    cases x with
    | nil => simp at hx
    | cons a x =>
      cases y with
      | nil => simp at hy
      | cons b y =>
        have h1 := ih x y ks xs ys (by simpa using hx) (by simpa using hy)
        have e1 : ofBytes (a :: x) = .int .u8 a.toNat :: ofBytes x := rfl
        have e2 : ofBytes (b :: y) = .int .u8 b.toNat :: ofBytes y := rfl
        rw [e1, e2, List.replicate_succ, List.cons_append, List.cons_append, List.cons_append]
        simp only [eqCells, if_true, h1, Option.map_map]
        congr 1
        funext z
        have : ((a.toNat : Int) == b.toNat) = (a == b) := by
          by_cases h : a = b
          · subst h; simp
          · have h2 : ¬ ((a.toNat : Int) = b.toNat) := fun e => h (UInt8.toNat_inj.1 (by omega))
            rw [beq_eq_false_iff_ne.2 h, beq_eq_false_iff_ne.2 h2]
        simp only [Function.comp, this, List.cons_beq_cons, Bool.and_assoc]
theorem eqCells_slots {a b : Slot} : eqCells [2, 0, 0, 0, 0, 0, 0, 0, 0, 0, 0, 0, 0, 0, 0, 0, 0, 0, 0, 0, 0, 0, 0, 0, 0, 0, 0, 0, 0, 0, 0, 0, 0, 0, 0, 0, 0] a.cells b.cells = some (slotEq a b) := by
  show eqCells (2 :: 0 :: 0 :: (List.replicate 32 0 ++ [0, 0])) (.str a.path :: .int .i64 a.stage :: .int .i64 a.mode :: (ofBytes a.id ++ [.int .i64 a.size, .int .i64 a.time])) (.str b.path :: .int .i64 b.stage :: .int .i64 b.mode :: (ofBytes b.id ++ [.int .i64 b.size, .int .i64 b.time])) = _
  simp only [eqCells, if_true, eqCells_bytes 32 _ _ _ _ _ a.hid b.hid, Option.map_some, Bool.and_true]
  rfl

def sameL (a b : List Slot) : Nat → Nat → Bool
  | 0, _ => true
  | m + 1, i => slotEq (lat a i) (lat b i) && sameL a b m (i + 1)
theorem sameL_eq (a b : List Slot) (h : a.length = b.length) : ∀ m i, i + m = a.length → (sameL a b m i = true ↔ a.drop i = b.drop i) := by
  intro m
  induction m with
  | zero => intro i hi; rw [List.drop_of_length_le (by omega), List.drop_of_length_le (by omega)]; simp [sameL]
  | succ m ih =>
    intro i hi
    rw [sameL, Bool.and_eq_true, ih (i + 1) (by omega), slotEq_iff, drop_getD (by omega : i < a.length), drop_getD (by omega : i < b.length), List.cons.injEq]
    rfl
theorem same_l0 {a b : List Slot} (h : a.length = b.length) (ha : a.length ≤ 1000000000000) (k : List It) : ∀ (m i : Nat), i + m = a.length →
    X E [.tmp 4] (.c L.ref17_Same.x0 :: .lp [0, 1, 12, 13] L.ref17_Same.x0 :: .blk 0 :: k) ⟨[(0, .lst (slots a) a.length), (1, .lst (slots b) b.length), (12, .int .i64 a.length), (13, .int .i64 i)], []⟩ =
    if sameL a b m i then X E [.tmp 4] k ⟨[(0, .lst (slots a) a.length), (1, .lst (slots b) b.length), (12, .int .i64 a.length), (13, .int .i64 a.length), (14, .bool false)], []⟩ else some (.bool false, []) := by
  intro m
  induction m with
  | zero =>
    intro i hi
    obtain rfl : i = a.length := by omega
    rw [X_in L.ref17_Same.x0.eq_1, sameL]
    simp (dsimp := false) (disch := first | omega | (simp only [strs_length, List.length_set, List.length_replicate, words_length, ofBytes_length, List.length_append, List.length_cons, List.length_nil, List.length_take, List.length_drop] <;> omega) | fail) only [go_sem, reduceIte, reduceCtorEq, Nat.reduceEqDiff, Nat.reduceAdd, Nat.reduceSub, Nat.reduceMul, Nat.reduceDiv, Nat.reduceMod, Nat.reduceBEq, Nat.reduceLeDiff, Nat.reduceLT, Int.reduceEq, Int.reduceNe, Int.reduceLT, Int.reduceLE, Int.reduceBEq, Int.reduceBNe, Int.reduceToNat, Int.reduceAdd, Int.reduceSub, Int.reduceMul, Int.reduceNeg, slot0, slot0z, cells_length, flats_cells, hards_cells, leadss_cells, refsOfs_cells, rens_cells, cells_0, cells_1, cells_2, cells_35, cells_36, cells_id, over_cells, sub_cells, take_cells, slots_length, flats_slots, hards_slots, leadss_slots, refsOfs_slots, rens_slots, sub_slots, slots_0, slots_1, slots_2, slots_35, slots_36, slots_snoc]
  | succ m ih =>
    intro i hi
    have hs := ih (i + 1) (by omega)
    simp only [Int.natCast_add, Int.cast_ofNat_Int] at hs
    rw [X_in L.ref17_Same.x0.eq_1, sameL]
    cases hq : slotEq (lat a i) (lat b i) with
    | true =>
      rw [Bool.true_and, ← hs]
      simp (dsimp := false) (disch := first | omega | (simp only [strs_length, List.length_set, List.length_replicate, words_length, ofBytes_length, List.length_append, List.length_cons, List.length_nil, List.length_take, List.length_drop] <;> omega) | fail) only [go_sem, reduceIte, reduceCtorEq, Nat.reduceEqDiff, Nat.reduceAdd, Nat.reduceSub, Nat.reduceMul, Nat.reduceDiv, Nat.reduceMod, Nat.reduceBEq, Nat.reduceLeDiff, Nat.reduceLT, Int.reduceEq, Int.reduceNe, Int.reduceLT, Int.reduceLE, Int.reduceBEq, Int.reduceBNe, Int.reduceToNat, Int.reduceAdd, Int.reduceSub, Int.reduceMul, Int.reduceNeg, slot0, slot0z, cells_length, flats_cells, hards_cells, leadss_cells, refsOfs_cells, rens_cells, cells_0, cells_1, cells_2, cells_35, cells_36, cells_id, over_cells, sub_cells, take_cells, slots_length, flats_slots, hards_slots, leadss_slots, refsOfs_slots, rens_slots, sub_slots, slots_0, slots_1, slots_2, slots_35, slots_36, slots_snoc, eqCells_slots, hq, Option.map_some]
    | false =>
      rw [Bool.false_and]
      simp (dsimp := false) (disch := first | omega | (simp only [strs_length, List.length_set, List.length_replicate, words_length, ofBytes_length, List.length_append, List.length_cons, List.length_nil, List.length_take, List.length_drop] <;> omega) | fail) only [go_sem, reduceIte, reduceCtorEq, Nat.reduceEqDiff, Nat.reduceAdd, Nat.reduceSub, Nat.reduceMul, Nat.reduceDiv, Nat.reduceMod, Nat.reduceBEq, Nat.reduceLeDiff, Nat.reduceLT, Int.reduceEq, Int.reduceNe, Int.reduceLT, Int.reduceLE, Int.reduceBEq, Int.reduceBNe, Int.reduceToNat, Int.reduceAdd, Int.reduceSub, Int.reduceMul, Int.reduceNeg, slot0, slot0z, cells_length, flats_cells, hards_cells, leadss_cells, refsOfs_cells, rens_cells, cells_0, cells_1, cells_2, cells_35, cells_36, cells_id, over_cells, sub_cells, take_cells, slots_length, flats_slots, hards_slots, leadss_slots, refsOfs_slots, rens_slots, sub_slots, slots_0, slots_1, slots_2, slots_35, slots_36, slots_snoc, eqCells_slots, hq, Option.map_some, Bool.false_eq_true]
theorem go_slotsame {a b : List Slot} {n m : Nat} (hn : n = a.length) (hm : m = b.length) (ha : a.length ≤ 1000000000000) (hb : b.length ≤ 1000000000000) :
    S E F.ref17_Same [.lst (slots a) n, .lst (slots b) m] [] = some (.bool (decide (a = b)), []) := by
  subst hn hm
  rw [S_of fn_ref17_Same rfl rfl]
  by_cases h : a.length = b.length
  · have h0 := same_l0 h ha [.c L.ref17_Same.r0] a.length 0 (by omega)
    simp only [Int.cast_ofNat_Int] at h0
    simp (dsimp := false) (disch := first | omega | (simp only [strs_length, List.length_set, List.length_replicate, words_length, ofBytes_length, List.length_append, List.length_cons, List.length_nil, List.length_take, List.length_drop] <;> omega) | fail) only [L.ref17_Same, go_sem, reduceIte, reduceCtorEq, Nat.reduceEqDiff, Nat.reduceAdd, Nat.reduceSub, Nat.reduceMul, Nat.reduceDiv, Nat.reduceMod, Nat.reduceBEq, Nat.reduceLeDiff, Nat.reduceLT, Int.reduceEq, Int.reduceNe, Int.reduceLT, Int.reduceLE, Int.reduceBEq, Int.reduceBNe, Int.reduceToNat, Int.reduceAdd, Int.reduceSub, Int.reduceMul, Int.reduceNeg, slot0, slot0z, cells_length, flats_cells, hards_cells, leadss_cells, refsOfs_cells, rens_cells, cells_0, cells_1, cells_2, cells_35, cells_36, cells_id, over_cells, sub_cells, take_cells, slots_length, flats_slots, hards_slots, leadss_slots, refsOfs_slots, rens_slots, sub_slots, slots_0, slots_1, slots_2, slots_35, slots_36, slots_snoc]
    rw [h0]
    have hs := sameL_eq a b h a.length 0 (by omega)
    rw [List.drop_zero, List.drop_zero] at hs
    by_cases he : a = b
    · rw [if_pos (hs.2 he)]
      simp (dsimp := false) (disch := first | omega | (simp only [strs_length, List.length_set, List.length_replicate, words_length, ofBytes_length, List.length_append, List.length_cons, List.length_nil, List.length_take, List.length_drop] <;> omega) | fail) only [L.ref17_Same.r0, go_sem, reduceIte, reduceCtorEq, Nat.reduceEqDiff, Nat.reduceAdd, Nat.reduceSub, Nat.reduceMul, Nat.reduceDiv, Nat.reduceMod, Nat.reduceBEq, Nat.reduceLeDiff, Nat.reduceLT, Int.reduceEq, Int.reduceNe, Int.reduceLT, Int.reduceLE, Int.reduceBEq, Int.reduceBNe, Int.reduceToNat, Int.reduceAdd, Int.reduceSub, Int.reduceMul, Int.reduceNeg, he]
    · rw [if_neg (fun e => he (hs.1 e))]
      simp only [he, decide_false]
  · have he : ¬ a = b := fun e => h (by rw [e])
    simp (dsimp := false) (disch := first | omega | (simp only [strs_length, List.length_set, List.length_replicate, words_length, ofBytes_length, List.length_append, List.length_cons, List.length_nil, List.length_take, List.length_drop] <;> omega) | fail) only [L.ref17_Same, go_sem, reduceIte, reduceCtorEq, Nat.reduceEqDiff, Nat.reduceAdd, Nat.reduceSub, Nat.reduceMul, Nat.reduceDiv, Nat.reduceMod, Nat.reduceBEq, Nat.reduceLeDiff, Nat.reduceLT, Int.reduceEq, Int.reduceNe, Int.reduceLT, Int.reduceLE, Int.reduceBEq, Int.reduceBNe, Int.reduceToNat, Int.reduceAdd, Int.reduceSub, Int.reduceMul, Int.reduceNeg, slot0, slot0z, cells_length, flats_cells, hards_cells, leadss_cells, refsOfs_cells, rens_cells, cells_0, cells_1, cells_2, cells_35, cells_36, cells_id, over_cells, sub_cells, take_cells, slots_length, flats_slots, hards_slots, leadss_slots, refsOfs_slots, rens_slots, sub_slots, slots_0, slots_1, slots_2, slots_35, slots_36, slots_snoc, he]
end Cod

/- What is put is parsed again. -/
namespace Cod
open Go

theorem bigN_append (a b : List UInt8) : bigN (a ++ b) = bigN a * 256 ^ b.length + bigN b := by
  have h : ∀ (b : List UInt8) (v : Nat), b.foldl (fun v b => 256 * v + b.toNat) v = v * 256 ^ b.length + bigN b := by
    intro b
    induction b with
    | nil => intro v; simp [bigN]
    | cons x b ih =>
      intro v
      have hx : bigN (x :: b) = x.toNat * 256 ^ b.length + bigN b := by
        show b.foldl (fun v b => 256 * v + b.toNat) (256 * 0 + x.toNat) = _
        rw [ih]; simp
      rw [List.foldl_cons, ih, hx, List.length_cons, Nat.pow_succ, Nat.add_mul, Nat.mul_comm 256 v, Nat.mul_assoc, Nat.mul_comm 256 (256 ^ b.length)]
      omega
  rw [bigN, List.foldl_append, h b]; rfl
theorem bigN_beN (a : Nat) : ∀ n, bigN (beI (a : Int) n) = a % 256 ^ n := by
  intro n
  induction n with
  | zero => simp [beI, bigN, Nat.mod_one]
  | succ n ih =>
    have e : beI (a : Int) (n + 1) = [byt ((a : Int) / 2 ^ (8 * n) % 256)] ++ beI a n := rfl
    rw [e, bigN_append, ih, beI_length]
    have e2 : (a : Int) / 2 ^ (8 * n) % 256 = ((a / 256 ^ n % 256 : Nat) : Int) := by
      have e4 : (2 : Int) ^ (8 * n) = ((256 ^ n : Nat) : Int) := by rw [Int.pow_mul, Int.natCast_pow]; rfl
      rw [e4]; rfl
    have e3 : bigN [byt ((a : Int) / 2 ^ (8 * n) % 256)] = a / 256 ^ n % 256 := by
      rw [e2]
      have : a / 256 ^ n % 256 < 256 := Nat.mod_lt _ (by omega)
      simp only [bigN, byt, List.foldl_cons, List.foldl_nil, Int.toNat_natCast, UInt8.toNat_ofNat']
      omega
    rw [e3, Nat.pow_succ, Nat.mod_mul]
    rw [Nat.mul_comm (256 ^ n), Nat.add_comm]
theorem bigN_be {v : Int} (h0 : 0 ≤ v) (h1 : v < 4294967296) : (bigN (beI v 4) : Int) = v := by
  obtain ⟨a, rfl⟩ := Int.eq_ofNat_of_zero_le h0
  rw [bigN_beN]
  omega

theorem seg {α : Type} {a b c l : List α} {i n : Nat} (h : l = a ++ (b ++ c)) (hi : a.length = i) (hn : b.length = n) : (l.drop i).take n = b := by
  subst h hi hn
  rw [List.drop_append_of_le_length (Nat.le_refl _), List.drop_length, List.nil_append, List.take_append_of_le_length (Nat.le_refl _), List.take_length]
theorem mem_parts {c : UInt8} : ∀ {s : List UInt8}, c ∈ s → c = 47 ∨ ∃ p ∈ parts s, c ∈ p := by
  intro s
  induction s with
  | nil => intro h; simp at h
  | cons d t ih =>
    intro h
    unfold parts
    split
    · rename_i hd
      rcases List.mem_cons.1 h with rfl | h
      · exact .inl hd
      · rcases ih h with h | ⟨p, hp, hc⟩
        · exact .inl h
        · exact .inr ⟨p, List.mem_cons_of_mem _ hp, hc⟩
    · obtain ⟨p, r, hpr⟩ := parts_ne t
      rw [hpr] at ih ⊢
      rcases List.mem_cons.1 h with rfl | h
      · exact .inr ⟨c :: p, by simp, by simp⟩
      · rcases ih h with h | ⟨q, hq, hc⟩
        · exact .inl h
        · rcases List.mem_cons.1 hq with rfl | hq
          · exact .inr ⟨d :: q, by simp, by simp [hc]⟩
          · exact .inr ⟨q, by simp [hq], hc⟩
theorem path_no0 {s : List UInt8} (h : pathOK s = true) : (0 : UInt8) ∉ s := by
  intro h0
  unfold pathOK at h
  simp only [Bool.and_eq_true, decide_eq_true_eq, List.all_eq_true] at h
  rcases mem_parts h0 with h1 | ⟨p, hp, hc⟩
  · cases h1
  · have := h.2 p hp
    unfold nameOK at this
    simp only [Bool.and_eq_true, Bool.not_eq_true'] at this
    have h2 := this.1.1.1.2
    simp at h2
    exact h2 hc

/-- A slot in form. -/
structure Form (s : Slot) : Prop where
  st0 : 0 ≤ s.stage
  st1 : s.stage ≤ 3
  md0 : 0 ≤ s.mode
  md1 : s.mode < 4294967296
  sz0 : 0 ≤ s.size
  sz1 : s.size < 4294967296
  tm0 : 0 ≤ s.time
  tm1 : s.time < 4294967296
  len : s.path.length ≤ 200
  no0 : (0 : UInt8) ∉ s.path
theorem stageF_eq {s : Slot} (h : Form s) : stageF s = 4096 * s.stage + s.path.length := by
  have := h.len
  unfold stageF
  rw [if_neg (by omega), stage_or h.st0 h.st1 (by omega) (by omega)]
theorem stg_back {s : Slot} (h : Form s) : beI (stageF s) 2 = [byt (16 * s.stage), byt s.path.length] := by
  have h1 := h.len
  have h2 := h.st0
  have h3 := h.st1
  rw [stageF_eq h]
  show [byt ((4096 * s.stage + s.path.length) / 2 ^ (8 * 1) % 256), byt ((4096 * s.stage + s.path.length) / 2 ^ (8 * 0) % 256)] = _
  congr 2
  · omega
  · congr 1
    omega

theorem idx_notMem {c : UInt8} : ∀ {p r : List UInt8}, c ∉ p → (p ++ c :: r).idxOf c = p.length := by
  intro p
  induction p with
  | nil => intro r _; simp
  | cons x p ih =>
    intro r h
    simp only [List.mem_cons, not_or] at h
    rw [List.cons_append, List.idxOf_cons, ih h.2, List.length_cons]
    have : (x == c) = false := by simp; exact fun e => h.1 e.symm
    rw [this]; rfl
theorem slot_back {s : Slot} (h : Form s) (t : List UInt8) : hasSlot (slotB s ++ t) ∧ slotLen (slotB s ++ t) = (slotB s).length ∧ slotAt (slotB s ++ t) = s := by
  have hl := slotB_length s
  have b4 := fun v => beI_length v 4
  have hst := stg_back h
  have hr : ∃ r, List.replicate (8 - (74 + s.path.length) % 8) (0 : UInt8) = 0 :: r := by
    obtain ⟨m, hm⟩ : ∃ m, 8 - (74 + s.path.length) % 8 = m + 1 := ⟨8 - (74 + s.path.length) % 8 - 1, by omega⟩
    exact ⟨List.replicate m 0, by rw [hm]; rfl⟩
  obtain ⟨r, hr⟩ := hr
  have hd : (slotB s ++ t).drop 74 = s.path ++ (0 :: (r ++ t)) := by
    have e : slotB s ++ t = (List.replicate 8 0 ++ beI s.time 4 ++ List.replicate 12 0 ++ beI s.mode 4 ++ List.replicate 8 0 ++ beI s.size 4 ++ s.id ++ beI (stageF s) 2) ++ (s.path ++ (0 :: (r ++ t))) := by
      simp only [slotB, hr, List.append_assoc, List.cons_append]
    rw [e]
    exact List.drop_left' (by simp only [List.length_append, List.length_replicate, beI_length, s.hid])
  have hz : zAt (slotB s ++ t) = s.path.length := by
    unfold zAt
    rw [hd, idx_notMem h.no0]
  refine ⟨⟨by rw [List.length_append]; omega, by rw [hd]; simp⟩, ?_, ?_⟩
  · unfold slotLen
    rw [hz]; omega
  · have f1 : sub (slotB s ++ t) 74 s.path.length = s.path := by
      unfold sub
      rw [hd, List.take_left]
    have f2 : ((slotB s ++ t).drop 24).take 4 = beI s.mode 4 := seg (a := List.replicate 8 0 ++ beI s.time 4 ++ List.replicate 12 0)
      (by simp only [slotB, List.append_assoc]; rfl) (by simp [beI_length]) (b4 _)
    have f3 : ((slotB s ++ t).drop 36).take 4 = beI s.size 4 := seg (a := List.replicate 8 0 ++ beI s.time 4 ++ List.replicate 12 0 ++ beI s.mode 4 ++ List.replicate 8 0)
      (by simp only [slotB, List.append_assoc]; rfl) (by simp [beI_length]) (b4 _)
    have f4 : ((slotB s ++ t).drop 8).take 4 = beI s.time 4 := seg (a := List.replicate 8 0)
      (by simp only [slotB, List.append_assoc]; rfl) (by simp) (b4 _)
    have f5 : idAt (slotB s ++ t) = s.id := by
      rw [idAt_eq (by rw [List.length_append]; omega)]
      exact seg (a := List.replicate 8 0 ++ beI s.time 4 ++ List.replicate 12 0 ++ beI s.mode 4 ++ List.replicate 8 0 ++ beI s.size 4)
        (by simp only [slotB, List.append_assoc]; rfl) (by simp [beI_length]) s.hid
    have f6 : (slotB s ++ t).getD 72 0 = byt (16 * s.stage) := by
      have := seg (i := 72) (n := 2) (a := List.replicate 8 0 ++ beI s.time 4 ++ List.replicate 12 0 ++ beI s.mode 4 ++ List.replicate 8 0 ++ beI s.size 4 ++ s.id) (b := beI (stageF s) 2) (l := slotB s ++ t)
        (by simp only [slotB, List.append_assoc]; rfl) (by simp [beI_length, s.hid]) (beI_length _ 2)
      rw [hst] at this
      have h0 := congrArg (·[0]?) this
      simp only [List.getElem?_take, List.getElem?_drop] at h0
      simpa [List.getD] using congrArg (·.getD 0) h0
    have f7 : stg (byt (16 * s.stage)) = s.stage := by
      have h2 := h.st0
      have h3 := h.st1
      unfold stg byt
      have : (UInt8.ofNat (16 * s.stage).toNat).toNat = (16 * s.stage).toNat := by simp; omega
      rw [this]; omega
    unfold slotAt
    simp only [hz, f1, f2, f3, f4, f5, f6, f7, bigN_be h.md0 h.md1, bigN_be h.sz0 h.sz1, bigN_be h.tm0 h.tm1]

theorem form_of {l : List Slot} (h : SlotsOK l) : ∀ s ∈ l, Form s := by
  intro s hs
  obtain ⟨i, hi, rfl⟩ := mem_lat hs
  have hn := num_range (h.num i hi)
  have hp := h.path i hi
  have hm := h.mode i hi
  have hmode : 0 ≤ (lat l i).mode ∧ (lat l i).mode < 4294967296 := by
    unfold badMode modeOK at hm
    simp only [Bool.or_eq_false_iff, Bool.not_eq_false', Bool.or_eq_true, beq_iff_eq] at hm
    omega
  exact ⟨hn.1, hn.2.1, hmode.1, hmode.2, hn.2.2.1, hn.2.2.2.1, hn.2.2.2.2.1, hn.2.2.2.2.2, path_len hp, path_no0 hp⟩
theorem parseL_back : ∀ (l acc : List Slot) (m : Nat), (∀ s ∈ l, Form s) → acc.length + l.length ≤ 4096 → l.length < m → parseL m (l.flatMap slotB) acc = some (acc ++ l) := by
  intro l
  induction l with
  | nil =>
    intro acc m _ _ hm
    obtain ⟨n, rfl⟩ : ∃ n, m = n + 1 := ⟨m - 1, by simp at hm; omega⟩
    simp [parseL]
  | cons s l ih =>
    intro acc m hf hl hm
    obtain ⟨n, rfl⟩ : ∃ n, m = n + 1 := ⟨m - 1, by simp at hm; omega⟩
    obtain ⟨h1, h2, h3⟩ := slot_back (hf s (by simp)) (l.flatMap slotB)
    have hb := slotB_length s
    rw [List.length_cons] at hl hm
    rw [List.flatMap_cons, parseL, if_neg (by rw [List.length_append]; omega), if_pos h1, if_neg (by rw [h2, List.length_append]; omega), h2, h3, List.drop_left,
      ih (acc ++ [s]) n (fun x hx => hf x (by simp [hx])) (by rw [List.length_append, List.length_singleton]; omega) (by omega)]
    simp
/-- What is put is parsed again. -/
theorem parse_put {l : List Slot} (h : checkF l = 0) : parseF (putF l) = (l, 0) := by
  have hg := check_good h
  have hb := hg.body
  have hs := shaF_length (bodyF l)
  have hm : magicB.length = 8 := rfl
  have hlen := putF_len h
  have hp : (putF l).length = (bodyF l).length + 32 := by rw [putF, List.length_append, hs]
  have hbody : (bodyF l).length = 12 + (l.flatMap slotB).length := by
    unfold bodyF
    simp only [List.length_append, beI_length, hm]
  have hsub : sub (putF l) 12 ((putF l).length - 44) = l.flatMap slotB := seg (a := magicB ++ beI l.length 4) (c := shaF (bodyF l)) (by
      show bodyF l ++ _ = _
      rw [bodyF, List.append_assoc]) (by simp [beI_length, hm]) (by omega)
  unfold parseF
  rw [if_neg (by omega), if_neg (by omega), hsub, parseL_back l [] _ (form_of hg) (by have := hg.len; simpa using this) (by
    have : l.length ≤ (l.flatMap slotB).length := by
      clear hsub hbody hp hlen hm hs hb hg h
      induction l with
      | nil => simp
      | cons s l ih => have := slotB_length s; rw [List.flatMap_cons, List.length_append, List.length_cons]; omega
    omega), List.nil_append]
  show parseG (putF l) l = _
  unfold parseG
  rw [if_pos ⟨h, rfl⟩, if_pos rfl]
end Cod


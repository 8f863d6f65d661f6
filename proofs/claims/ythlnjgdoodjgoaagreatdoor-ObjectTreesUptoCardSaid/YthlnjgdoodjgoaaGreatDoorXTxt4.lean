/- SHA-256: padding and sums, the program's. -/
import Derived.KernelRfl
import Derived.Lib.ItoaLen
import Derived.Test.YthlnjgdoodjgoaaGreatDoorXTxt3
set_option linter.unusedSimpArgs false
set_option linter.unusedVariables false
namespace Cod
open Go

def h0w : List (BitVec 32) := [0x6a09e667, 0xbb67ae85, 0x3c6ef372, 0xa54ff53a, 0x510e527f, 0x9b05688c, 0x1f83d9ab, 0x5be0cd19]
def blocksN : Nat → List (BitVec 32) → List UInt8 → List (BitVec 32)
  | 0, h, _ => h
  | m + 1, h, l => blocksN m (blockF h (l.take 64)) (l.drop 64)
def be8 (v : Nat) : List UInt8 := [UInt8.ofNat (v / 2 ^ 56 % 256), UInt8.ofNat (v / 2 ^ 48 % 256), UInt8.ofNat (v / 2 ^ 40 % 256), UInt8.ofNat (v / 2 ^ 32 % 256), UInt8.ofNat (v / 2 ^ 24 % 256), UInt8.ofNat (v / 2 ^ 16 % 256), UInt8.ofNat (v / 2 ^ 8 % 256), UInt8.ofNat (v / 2 ^ 0 % 256)]
/-- What stands behind n bytes. -/
def padF (n : Nat) : List UInt8 := 128 :: (List.replicate ((119 - n % 64) % 64) 0 ++ be8 (8 * n))
def idOf (h : List (BitVec 32)) : List UInt8 := (List.range 32).map fun i => wb (h.getD (i / 4) 0 >>> (24 - 8 * (i % 4)))
/-- The SHA-256 of bytes. -/
def shaF (p : List UInt8) : List UInt8 :=
  idOf (blocksN ((p.drop (p.length / 64 * 64) ++ padF p.length).length / 64) (blocksN (p.length / 64) h0w p) (p.drop (p.length / 64 * 64) ++ padF p.length))
theorem blocksN_length : ∀ (m : Nat) (h : List (BitVec 32)) (l : List UInt8), h.length = 8 → (blocksN m h l).length = 8 := by
  intro m
  induction m with
  | zero => intro h l hh; exact hh
  | succ m ih => intro h l _; exact ih _ _ (blockF_length _ _)

/-! ### the padding -/
def padSet (n : Nat) : Nat → Nat → List UInt8 → List UInt8
  | 0, _, l => l
  | m + 1, i, l => padSet n m (i + 1) (l.set (l.length - 1 - i) (UInt8.ofNat (8 * n / 2 ^ (8 * i) % 256)))
theorem pad_l0 {n : Nat} (hn : n ≤ 1000000000000) (k : List It) : ∀ (m i : Nat) (l : List UInt8), i + m = 8 → 8 ≤ l.length → l.length ≤ 100 →
    X E [.tmp 2] (.c L.sha_Pad.x0 :: .lp [0, 3, 16] L.sha_Pad.x0 :: .blk 0 :: k) ⟨[(0, .int .i64 n), (3, .buf (.s 1000000 0) 0 0 (l).length 1), (16, .int .i64 i)], [(.s 1000000 0, ⟨0, true, true, false, ofBytes l⟩)]⟩ = X E [.tmp 2] k ⟨[(0, .int .i64 n), (3, .buf (.s 1000000 0) 0 0 ((padSet n m i l)).length 1), (16, .int .i64 8), (17, .bool false)], [(.s 1000000 0, ⟨0, true, true, false, ofBytes (padSet n m i l)⟩)]⟩ := by
  intro m
  induction m with
  | zero =>
    intro i l h1 h2 h3
    obtain rfl : i = 8 := by omega
    rw [X_in L.sha_Pad.x0.eq_1]
    simp (dsimp := false) (disch := first | omega | (simp only [strs_length, List.length_set, List.length_replicate, words_length, ofBytes_length, List.length_append, List.length_cons, List.length_nil, List.length_take, List.length_drop] <;> omega) | fail) only [go_sem, reduceIte, reduceCtorEq, Nat.reduceEqDiff, Nat.reduceAdd, Nat.reduceSub, Nat.reduceMul, Nat.reduceDiv, Nat.reduceMod, Nat.reduceBEq, Nat.reduceLeDiff, Nat.reduceLT, Int.reduceEq, Int.reduceNe, Int.reduceLT, Int.reduceLE, Int.reduceBEq, Int.reduceBNe, Int.reduceToNat, Int.reduceAdd, Int.reduceSub, Int.reduceMul, Int.reduceNeg, sub_take, take_len, sub_drop, zer_bytes, app_ofBytes, ofBytes_length, flats_ofBytes, hards_ofBytes, leadss_ofBytes, refsOfs_ofBytes, rens_ofBytes, bytesOf_ofBytes, sub_ofBytes, take_ofBytes, drop_ofBytes, get_ofBytes, over_ofBytes_all, over_ofBytes, ofBytes_snoc, padSet, Int.cast_ofNat_Int]
  | succ m ih =>
    intro i l h1 h2 h3
    have e0 : ((l.length : Int) - 1 - i).toNat = l.length - 1 - i := by omega
    have e1 : ishr .u64 (ishl .u64 (n : Int) 3) (8 * (i : Int)) = ((8 * n / 2 ^ (8 * i) : Nat) : Int) := by
      rw [show (8 * (i : Int)) = ((8 * i : Nat) : Int) by omega, ishr_any (by simp [IntKind.bits]; omega), show (3 : Int) = ((3 : Nat) : Int) from rfl, ishl_u64 (by omega), Int.natCast_ediv, Int.natCast_pow]
      congr 1
      omega
    have e2 : ((8 * n / 2 ^ (8 * i) : Nat) : Int) % 256 = ((8 * n / 2 ^ (8 * i) % 256 : Nat) : Int) := by omega
    have e3 : (((8 * n / 2 ^ (8 * i) % 256 : Nat) : Int)).toNat = 8 * n / 2 ^ (8 * i) % 256 := by omega
    rw [X_in L.sha_Pad.x0.eq_1]
    simp (dsimp := false) (disch := first | omega | (simp only [strs_length, List.length_set, List.length_replicate, words_length, ofBytes_length, List.length_append, List.length_cons, List.length_nil, List.length_take, List.length_drop] <;> omega) | fail) only [go_sem, reduceIte, reduceCtorEq, Nat.reduceEqDiff, Nat.reduceAdd, Nat.reduceSub, Nat.reduceMul, Nat.reduceDiv, Nat.reduceMod, Nat.reduceBEq, Nat.reduceLeDiff, Nat.reduceLT, Int.reduceEq, Int.reduceNe, Int.reduceLT, Int.reduceLE, Int.reduceBEq, Int.reduceBNe, Int.reduceToNat, Int.reduceAdd, Int.reduceSub, Int.reduceMul, Int.reduceNeg, sub_take, take_len, sub_drop, zer_bytes, app_ofBytes, ofBytes_length, flats_ofBytes, hards_ofBytes, leadss_ofBytes, refsOfs_ofBytes, rens_ofBytes, bytesOf_ofBytes, sub_ofBytes, take_ofBytes, drop_ofBytes, get_ofBytes, over_ofBytes_all, over_ofBytes, ofBytes_snoc, padSet, e0, e1, e2, e3]
    have := ih (i + 1) (l.set (l.length - 1 - i) (UInt8.ofNat (8 * n / 2 ^ (8 * i) % 256))) (by omega) (by simpa using h2) (by simpa using h3)
    simp only [Int.natCast_add, Int.cast_ofNat_Int, List.length_set] at this
    exact this

theorem padSet_pad (n z : Nat) (a : List UInt8) : padSet n 8 0 (a ++ List.replicate 8 0) = a ++ be8 (8 * n) := by
  have key : ∀ (i : Nat) (x : UInt8) (t : List UInt8), t.length = 8 → i < 8 → (a ++ t).set ((a ++ t).length - 1 - i) x = a ++ t.set (7 - i) x := by
    intro i x t ht hi
    rw [List.length_append, ht, List.set_append, if_neg (by omega)]
    congr 2
    omega
  simp only [padSet]
  rw [key 0 _ _ (by simp) (by omega), key 1 _ _ (by simp) (by omega), key 2 _ _ (by simp) (by omega), key 3 _ _ (by simp) (by omega), key 4 _ _ (by simp) (by omega), key 5 _ _ (by simp) (by omega), key 6 _ _ (by simp) (by omega), key 7 _ _ (by simp) (by omega)]
  rfl

theorem rep_zero (m : Nat) : rep [AV.int .u8 0] m = ofBytes (List.replicate m 0) := by
  induction m with
  | zero => rfl
  | succ m ih => rw [rep, ih]; rfl

theorem go_pad {n : Nat} (h1 : n ≤ 1000000000000) : S E F.sha_Pad [.int .i64 n] [] = some (.buf (.r 0) 0 0 (padF n).length 1, [(.r 0, ⟨0, true, true, false, ofBytes (padF n)⟩)]) := by
  have hm3 : (1 + (119 - (n : Int) % 64) % 64 + 8).toNat = (119 - n % 64) % 64 + 9 := by omega
  have hlt : (119 - n % 64) % 64 < 64 := by omega
  have hr : List.replicate ((119 - n % 64) % 64 + 9) (0 : UInt8) = 0 :: (List.replicate ((119 - n % 64) % 64) 0 ++ List.replicate 8 0) := by
    rw [List.replicate_append_replicate]; rfl
  have hn0 : ¬ (n : Int) < 0 := by omega
  generalize hz : (119 - n % 64) % 64 = z at *
  have hl := pad_l0 h1 [.c L.sha_Pad.r0] 8 0 (128 :: (List.replicate z 0 ++ List.replicate 8 0)) (by omega) (by simp) (by simp; omega)
  have hp : padSet n 8 0 (128 :: (List.replicate z 0 ++ List.replicate 8 0)) = padF n := by
    have := padSet_pad n z (128 :: List.replicate z 0)
    rw [List.cons_append] at this
    rw [this, padF, hz]; rfl
  rw [hp] at hl
  have hlen : (padF n).length = z + 9 := by rw [padF, hz]; simp [be8]
  simp only [Int.cast_ofNat_Int] at hl
  rw [S_of fn_sha_Pad rfl rfl]
  simp (dsimp := false) (disch := first | omega | (simp only [strs_length, List.length_set, List.length_replicate, words_length, ofBytes_length, List.length_append, List.length_cons, List.length_nil, List.length_take, List.length_drop] <;> omega) | fail) only [L.sha_Pad, go_sem, reduceIte, reduceCtorEq, Nat.reduceEqDiff, Nat.reduceAdd, Nat.reduceSub, Nat.reduceMul, Nat.reduceDiv, Nat.reduceMod, Nat.reduceBEq, Nat.reduceLeDiff, Nat.reduceLT, Int.reduceEq, Int.reduceNe, Int.reduceLT, Int.reduceLE, Int.reduceBEq, Int.reduceBNe, Int.reduceToNat, Int.reduceAdd, Int.reduceSub, Int.reduceMul, Int.reduceNeg, sub_take, take_len, sub_drop, zer_bytes, app_ofBytes, ofBytes_length, flats_ofBytes, hards_ofBytes, leadss_ofBytes, refsOfs_ofBytes, rens_ofBytes, bytesOf_ofBytes, sub_ofBytes, take_ofBytes, drop_ofBytes, get_ofBytes, over_ofBytes_all, over_ofBytes, ofBytes_snoc, hn0, hm3, rep_zero, hr, List.set_cons_zero, Int.toNat_zero, UInt8.reduceOfNat]
  have hb : (128 :: (List.replicate z 0 ++ List.replicate 8 (0 : UInt8))).length = z + 9 := by simp
  rw [hb] at hl
  rw [hl]
  simp (dsimp := false) (disch := first | omega | (simp only [strs_length, List.length_set, List.length_replicate, words_length, ofBytes_length, List.length_append, List.length_cons, List.length_nil, List.length_take, List.length_drop] <;> omega) | fail) only [L.sha_Pad.r0, go_sem, reduceIte, reduceCtorEq, Nat.reduceEqDiff, Nat.reduceAdd, Nat.reduceSub, Nat.reduceMul, Nat.reduceDiv, Nat.reduceMod, Nat.reduceBEq, Nat.reduceLeDiff, Nat.reduceLT, Int.reduceEq, Int.reduceNe, Int.reduceLT, Int.reduceLE, Int.reduceBEq, Int.reduceBNe, Int.reduceToNat, Int.reduceAdd, Int.reduceSub, Int.reduceMul, Int.reduceNeg, sub_take, take_len, sub_drop, zer_bytes, app_ofBytes, ofBytes_length, flats_ofBytes, hards_ofBytes, leadss_ofBytes, refsOfs_ofBytes, rens_ofBytes, bytesOf_ofBytes, sub_ofBytes, take_ofBytes, drop_ofBytes, get_ofBytes, over_ofBytes_all, over_ofBytes, ofBytes_snoc, hlen]

/-! ### the sum -/
theorem sum_l0 {p : List UInt8} (k : List It) : ∀ (m : Nat) (r : List UInt8) (n : Nat) (h : List (BitVec 32)), n = r.length → n / 64 = m → n ≤ 1000000000000 → h.length = 8 →
    X E [.cell 2 (some 32)] (.c L.sha_Sum.x0 :: .lp [0, 2, 3, 4] L.sha_Sum.x0 :: .blk 0 :: k) ⟨[(0, .lst (ofBytes p) p.length), (2, .ref (.s 1000000 0) 0 0), (3, .ref (.s 1000000 1) 0 0), (4, .lst (ofBytes r) n)], [(.s 1000000 0, ⟨0, true, true, true, ofBytes (List.replicate 32 0)⟩), (.s 1000000 1, ⟨0, true, true, true, words h⟩)]⟩ =
    X E [.cell 2 (some 32)] k ⟨[(0, .lst (ofBytes p) p.length), (2, .ref (.s 1000000 0) 0 0), (3, .ref (.s 1000000 1) 0 0), (4, .lst (ofBytes (r.drop (64 * m))) (n - 64 * m)), (13, .bool false)], [(.s 1000000 0, ⟨0, true, true, true, ofBytes (List.replicate 32 0)⟩), (.s 1000000 1, ⟨0, true, true, true, words (blocksN m h r)⟩)]⟩ := by
  intro m
  induction m with
  | zero =>
    intro r n h h1 h2 h3 h4
    rw [X_in L.sha_Sum.x0.eq_1]
    simp (dsimp := false) (disch := first | omega | (simp only [strs_length, List.length_set, List.length_replicate, words_length, ofBytes_length, List.length_append, List.length_cons, List.length_nil, List.length_take, List.length_drop] <;> omega) | fail) only [go_sem, reduceIte, reduceCtorEq, Nat.reduceEqDiff, Nat.reduceAdd, Nat.reduceSub, Nat.reduceMul, Nat.reduceDiv, Nat.reduceMod, Nat.reduceBEq, Nat.reduceLeDiff, Nat.reduceLT, Int.reduceEq, Int.reduceNe, Int.reduceLT, Int.reduceLE, Int.reduceBEq, Int.reduceBNe, Int.reduceToNat, Int.reduceAdd, Int.reduceSub, Int.reduceMul, Int.reduceNeg, sub_take, take_len, sub_drop, zer_bytes, app_ofBytes, ofBytes_length, flats_ofBytes, hards_ofBytes, leadss_ofBytes, refsOfs_ofBytes, rens_ofBytes, bytesOf_ofBytes, sub_ofBytes, take_ofBytes, drop_ofBytes, get_ofBytes, over_ofBytes_all, over_ofBytes, ofBytes_snoc, take_words, drop_words, sub_words, over_words_all, zer_words, w_add, w_and, w_or, w_xor, w_not, w_shl, w_shr, flats_words, hards_words, leadss_words, refsOfs_words, rens_words, words_length, get_words, over_words, hard_W, flat_W, refsOf_W, leads_W, ren_W, view_W, view1_W, cellsO_W, cvi_bw, cvi_wb, blocksN, List.drop_zero, Nat.sub_zero, Nat.mul_zero]
  | succ m ih =>
    intro r n h h1 h2 h3 h4
    have hb : (r.take 64).length = 64 := by rw [List.length_take]; omega
    have hbl := blockF_length h (r.take 64)
    rw [X_in L.sha_Sum.x0.eq_1]
    simp (dsimp := false) (disch := first | omega | (simp only [strs_length, List.length_set, List.length_replicate, words_length, ofBytes_length, List.length_append, List.length_cons, List.length_nil, List.length_take, List.length_drop] <;> omega) | fail) only [go_sem, reduceIte, reduceCtorEq, Nat.reduceEqDiff, Nat.reduceAdd, Nat.reduceSub, Nat.reduceMul, Nat.reduceDiv, Nat.reduceMod, Nat.reduceBEq, Nat.reduceLeDiff, Nat.reduceLT, Int.reduceEq, Int.reduceNe, Int.reduceLT, Int.reduceLE, Int.reduceBEq, Int.reduceBNe, Int.reduceToNat, Int.reduceAdd, Int.reduceSub, Int.reduceMul, Int.reduceNeg, sub_take, take_len, sub_drop, zer_bytes, app_ofBytes, ofBytes_length, flats_ofBytes, hards_ofBytes, leadss_ofBytes, refsOfs_ofBytes, rens_ofBytes, bytesOf_ofBytes, sub_ofBytes, take_ofBytes, drop_ofBytes, get_ofBytes, over_ofBytes_all, over_ofBytes, ofBytes_snoc, take_words, drop_words, sub_words, over_words_all, zer_words, w_add, w_and, w_or, w_xor, w_not, w_shl, w_shr, flats_words, hards_words, leadss_words, refsOfs_words, rens_words, words_length, get_words, over_words, hard_W, flat_W, refsOf_W, leads_W, ren_W, view_W, view1_W, cellsO_W, cvi_bw, cvi_wb, blocksN, go_block h4 hb]
    have := ih (r.drop 64) (n - 64) (blockF h (r.take 64)) (by simp [h1]) (by omega) (by omega) (blockF_length _ _)
    rw [List.drop_drop, show 64 + 64 * m = 64 * (m + 1) by omega, show n - 64 - 64 * m = n - 64 * (m + 1) by omega] at this
    exact this

theorem sum_l1 {full : List UInt8} (hf : full.length ≤ 1000000000100) (k : List It) : ∀ (m off n : Nat) (h : List (BitVec 32)), off + n = full.length → n / 64 = m → h.length = 8 →
    X E [.cell 2 (some 32)] (.c L.sha_Sum.x1 :: .lp [2, 3, 4] L.sha_Sum.x1 :: .blk 2 :: k) ⟨[(2, .ref (.s 1000000 0) 0 0), (3, .ref (.s 1000000 1) 0 0), (4, .buf (.s 1000000 2) 0 off n 1)], [(.s 1000000 0, ⟨0, true, true, true, ofBytes (List.replicate 32 0)⟩), (.s 1000000 1, ⟨0, true, true, true, words h⟩), (.s 1000000 2, ⟨0, true, true, false, ofBytes full⟩)]⟩ =
    X E [.cell 2 (some 32)] k ⟨[(2, .ref (.s 1000000 0) 0 0), (3, .ref (.s 1000000 1) 0 0), (4, .buf (.s 1000000 2) 0 (off + 64 * m) (n - 64 * m) 1), (29, .bool false)], [(.s 1000000 0, ⟨0, true, true, true, ofBytes (List.replicate 32 0)⟩), (.s 1000000 1, ⟨0, true, true, true, words (blocksN m h (full.drop off))⟩), (.s 1000000 2, ⟨0, true, true, false, ofBytes full⟩)]⟩ := by
  intro m
  induction m with
  | zero =>
    intro off n h h1 h2 h4
    rw [X_in L.sha_Sum.x1.eq_1]
    simp (dsimp := false) (disch := first | omega | (simp only [strs_length, List.length_set, List.length_replicate, words_length, ofBytes_length, List.length_append, List.length_cons, List.length_nil, List.length_take, List.length_drop] <;> omega) | fail) only [go_sem, reduceIte, reduceCtorEq, Nat.reduceEqDiff, Nat.reduceAdd, Nat.reduceSub, Nat.reduceMul, Nat.reduceDiv, Nat.reduceMod, Nat.reduceBEq, Nat.reduceLeDiff, Nat.reduceLT, Int.reduceEq, Int.reduceNe, Int.reduceLT, Int.reduceLE, Int.reduceBEq, Int.reduceBNe, Int.reduceToNat, Int.reduceAdd, Int.reduceSub, Int.reduceMul, Int.reduceNeg, sub_take, take_len, sub_drop, zer_bytes, app_ofBytes, ofBytes_length, flats_ofBytes, hards_ofBytes, leadss_ofBytes, refsOfs_ofBytes, rens_ofBytes, bytesOf_ofBytes, sub_ofBytes, take_ofBytes, drop_ofBytes, get_ofBytes, over_ofBytes_all, over_ofBytes, ofBytes_snoc, take_words, drop_words, sub_words, over_words_all, zer_words, w_add, w_and, w_or, w_xor, w_not, w_shl, w_shr, flats_words, hards_words, leadss_words, refsOfs_words, rens_words, words_length, get_words, over_words, hard_W, flat_W, refsOf_W, leads_W, ren_W, view_W, view1_W, cellsO_W, cvi_bw, cvi_wb, blocksN, List.drop_zero, Nat.sub_zero, Nat.mul_zero]
  | succ m ih =>
    intro off n h h1 h2 h4
    have hb : ((full.drop off).take 64).length = 64 := by rw [List.length_take, List.length_drop]; omega
    have hbl := blockF_length h ((full.drop off).take 64)
    have hs : sub full off 64 = (full.drop off).take 64 := rfl
    rw [X_in L.sha_Sum.x1.eq_1]
    simp (dsimp := false) (disch := first | omega | (simp only [strs_length, List.length_set, List.length_replicate, words_length, ofBytes_length, List.length_append, List.length_cons, List.length_nil, List.length_take, List.length_drop] <;> omega) | fail) only [go_sem, reduceIte, reduceCtorEq, Nat.reduceEqDiff, Nat.reduceAdd, Nat.reduceSub, Nat.reduceMul, Nat.reduceDiv, Nat.reduceMod, Nat.reduceBEq, Nat.reduceLeDiff, Nat.reduceLT, Int.reduceEq, Int.reduceNe, Int.reduceLT, Int.reduceLE, Int.reduceBEq, Int.reduceBNe, Int.reduceToNat, Int.reduceAdd, Int.reduceSub, Int.reduceMul, Int.reduceNeg, sub_take, take_len, sub_drop, zer_bytes, app_ofBytes, ofBytes_length, flats_ofBytes, hards_ofBytes, leadss_ofBytes, refsOfs_ofBytes, rens_ofBytes, bytesOf_ofBytes, sub_ofBytes, take_ofBytes, drop_ofBytes, get_ofBytes, over_ofBytes_all, over_ofBytes, ofBytes_snoc, take_words, drop_words, sub_words, over_words_all, zer_words, w_add, w_and, w_or, w_xor, w_not, w_shl, w_shr, flats_words, hards_words, leadss_words, refsOfs_words, rens_words, words_length, get_words, over_words, hard_W, flat_W, refsOf_W, leads_W, ren_W, view_W, view1_W, cellsO_W, cvi_bw, cvi_wb, blocksN, hs, go_block h4 hb]
    have := ih (off + 64) (n - 64) (blockF h ((full.drop off).take 64)) (by omega) (by omega) (blockF_length _ _)
    rw [show off + 64 + 64 * m = off + 64 * (m + 1) by omega, show n - 64 - 64 * m = n - 64 * (m + 1) by omega, ← List.drop_drop] at this
    exact this

def idSet1 (x : BitVec 32) (i : Nat) : Nat → Nat → List UInt8 → List UInt8
  | 0, _, l => l
  | m + 1, j, l => idSet1 x i m (j + 1) (l.set (4 * i + j) (wb (x >>> (24 - 8 * j))))
def idSet (h : List (BitVec 32)) : Nat → Nat → List UInt8 → List UInt8
  | 0, _, l => l
  | m + 1, i, l => idSet h m (i + 1) (idSet1 (h.getD i 0) i 4 0 l)
theorem idSet1_length (x : BitVec 32) (i : Nat) : ∀ m j l, (idSet1 x i m j l).length = l.length := by
  intro m
  induction m with
  | zero => intro j l; rfl
  | succ m ih => intro j l; simp [idSet1, ih]
theorem sum_l3 {h : List (BitVec 32)} {x : BitVec 32} {i : Nat} (hi : i < 8) (k : List It) : ∀ (m j : Nat) (l : List UInt8), j + m = 4 → l.length = 32 →
    X E [.cell 2 (some 32)] (.c L.sha_Sum.x3 :: .lp [2, 5, 6, 7, 37, 38, 42] L.sha_Sum.x3 :: .blk 6 :: k) ⟨[(2, .ref (.s 1000000 0) 0 0), (5, .ref (.s 1000000 1) 0 0), (6, .int .i64 i), (7, W x), (37, .agg (words h)), (38, .int .i64 i), (42, .int .i64 j)], [(.s 1000000 0, ⟨0, true, true, true, ofBytes (List.replicate 32 0)⟩), (.s 1000000 1, ⟨0, true, true, true, ofBytes l⟩)]⟩ =
    X E [.cell 2 (some 32)] k ⟨[(2, .ref (.s 1000000 0) 0 0), (5, .ref (.s 1000000 1) 0 0), (6, .int .i64 i), (7, W x), (37, .agg (words h)), (38, .int .i64 i), (42, .int .i64 4), (43, .bool false)], [(.s 1000000 0, ⟨0, true, true, true, ofBytes (List.replicate 32 0)⟩), (.s 1000000 1, ⟨0, true, true, true, ofBytes (idSet1 x i m j l)⟩)]⟩ := by
  intro m
  induction m with
  | zero =>
    intro j l h1 h2
    obtain rfl : j = 4 := by omega
    rw [X_in L.sha_Sum.x3.eq_1]
    simp (dsimp := false) (disch := first | omega | (simp only [strs_length, List.length_set, List.length_replicate, words_length, ofBytes_length, List.length_append, List.length_cons, List.length_nil, List.length_take, List.length_drop] <;> omega) | fail) only [go_sem, reduceIte, reduceCtorEq, Nat.reduceEqDiff, Nat.reduceAdd, Nat.reduceSub, Nat.reduceMul, Nat.reduceDiv, Nat.reduceMod, Nat.reduceBEq, Nat.reduceLeDiff, Nat.reduceLT, Int.reduceEq, Int.reduceNe, Int.reduceLT, Int.reduceLE, Int.reduceBEq, Int.reduceBNe, Int.reduceToNat, Int.reduceAdd, Int.reduceSub, Int.reduceMul, Int.reduceNeg, sub_take, take_len, sub_drop, zer_bytes, app_ofBytes, ofBytes_length, flats_ofBytes, hards_ofBytes, leadss_ofBytes, refsOfs_ofBytes, rens_ofBytes, bytesOf_ofBytes, sub_ofBytes, take_ofBytes, drop_ofBytes, get_ofBytes, over_ofBytes_all, over_ofBytes, ofBytes_snoc, take_words, drop_words, sub_words, over_words_all, zer_words, w_add, w_and, w_or, w_xor, w_not, w_shl, w_shr, flats_words, hards_words, leadss_words, refsOfs_words, rens_words, words_length, get_words, over_words, hard_W, flat_W, refsOf_W, leads_W, ren_W, view_W, view1_W, cellsO_W, cvi_bw, cvi_wb, idSet1, Int.cast_ofNat_Int]
  | succ m ih =>
    intro j l h1 h2
    have e0 : (4 * (i : Int) + j).toNat = 4 * i + j := by omega
    have e1 : (24 - 8 * (j : Int)).toNat = 24 - 8 * j := by omega
    have hw := (wb (x >>> (24 - 8 * j))).toNat_lt
    have e2 : UInt8.ofNat (wb (x >>> (24 - 8 * j))).toNat = wb (x >>> (24 - 8 * j)) := UInt8.ofNat_toNat
    rw [X_in L.sha_Sum.x3.eq_1]
    simp (dsimp := false) (disch := first | omega | (simp only [strs_length, List.length_set, List.length_replicate, words_length, ofBytes_length, List.length_append, List.length_cons, List.length_nil, List.length_take, List.length_drop] <;> omega) | fail) only [go_sem, reduceIte, reduceCtorEq, Nat.reduceEqDiff, Nat.reduceAdd, Nat.reduceSub, Nat.reduceMul, Nat.reduceDiv, Nat.reduceMod, Nat.reduceBEq, Nat.reduceLeDiff, Nat.reduceLT, Int.reduceEq, Int.reduceNe, Int.reduceLT, Int.reduceLE, Int.reduceBEq, Int.reduceBNe, Int.reduceToNat, Int.reduceAdd, Int.reduceSub, Int.reduceMul, Int.reduceNeg, sub_take, take_len, sub_drop, zer_bytes, app_ofBytes, ofBytes_length, flats_ofBytes, hards_ofBytes, leadss_ofBytes, refsOfs_ofBytes, rens_ofBytes, bytesOf_ofBytes, sub_ofBytes, take_ofBytes, drop_ofBytes, get_ofBytes, over_ofBytes_all, over_ofBytes, ofBytes_snoc, take_words, drop_words, sub_words, over_words_all, zer_words, w_add, w_and, w_or, w_xor, w_not, w_shl, w_shr, flats_words, hards_words, leadss_words, refsOfs_words, rens_words, words_length, get_words, over_words, hard_W, flat_W, refsOf_W, leads_W, ren_W, view_W, view1_W, cellsO_W, cvi_bw, cvi_wb, idSet1, e0, e1, e2]
    have := ih (j + 1) (l.set (4 * i + j) (wb (x >>> (24 - 8 * j)))) (by omega) (by simpa using h2)
    simp only [Int.natCast_add, Int.cast_ofNat_Int] at this
    exact this

theorem sum_l2 {h : List (BitVec 32)} (hh : h.length = 8) (k : List It) : ∀ (m i : Nat) (l : List UInt8), i + m = 8 → l.length = 32 →
    X E [.cell 2 (some 32)] (.c L.sha_Sum.x2 :: .lp [2, 5, 37, 38] L.sha_Sum.x2 :: .blk 4 :: k) ⟨[(2, .ref (.s 1000000 0) 0 0), (5, .ref (.s 1000000 1) 0 0), (37, .agg (words h)), (38, .int .i64 i)], [(.s 1000000 0, ⟨0, true, true, true, ofBytes (List.replicate 32 0)⟩), (.s 1000000 1, ⟨0, true, true, true, ofBytes l⟩)]⟩ =
    X E [.cell 2 (some 32)] k ⟨[(2, .ref (.s 1000000 0) 0 0), (5, .ref (.s 1000000 1) 0 0), (37, .agg (words h)), (38, .int .i64 8), (39, .bool false)], [(.s 1000000 0, ⟨0, true, true, true, ofBytes (List.replicate 32 0)⟩), (.s 1000000 1, ⟨0, true, true, true, ofBytes (idSet h m i l)⟩)]⟩ := by
  intro m
  induction m with
  | zero =>
    intro i l h1 h2
    obtain rfl : i = 8 := by omega
    rw [X_in L.sha_Sum.x2.eq_1]
    simp (dsimp := false) (disch := first | omega | (simp only [strs_length, List.length_set, List.length_replicate, words_length, ofBytes_length, List.length_append, List.length_cons, List.length_nil, List.length_take, List.length_drop] <;> omega) | fail) only [go_sem, reduceIte, reduceCtorEq, Nat.reduceEqDiff, Nat.reduceAdd, Nat.reduceSub, Nat.reduceMul, Nat.reduceDiv, Nat.reduceMod, Nat.reduceBEq, Nat.reduceLeDiff, Nat.reduceLT, Int.reduceEq, Int.reduceNe, Int.reduceLT, Int.reduceLE, Int.reduceBEq, Int.reduceBNe, Int.reduceToNat, Int.reduceAdd, Int.reduceSub, Int.reduceMul, Int.reduceNeg, sub_take, take_len, sub_drop, zer_bytes, app_ofBytes, ofBytes_length, flats_ofBytes, hards_ofBytes, leadss_ofBytes, refsOfs_ofBytes, rens_ofBytes, bytesOf_ofBytes, sub_ofBytes, take_ofBytes, drop_ofBytes, get_ofBytes, over_ofBytes_all, over_ofBytes, ofBytes_snoc, take_words, drop_words, sub_words, over_words_all, zer_words, w_add, w_and, w_or, w_xor, w_not, w_shl, w_shr, flats_words, hards_words, leadss_words, refsOfs_words, rens_words, words_length, get_words, over_words, hard_W, flat_W, refsOf_W, leads_W, ren_W, view_W, view1_W, cellsO_W, cvi_bw, cvi_wb, idSet, Int.cast_ofNat_Int]
  | succ m ih =>
    intro i l h1 h2
    rw [X_in L.sha_Sum.x2.eq_1]
    simp (dsimp := false) (disch := first | omega | (simp only [strs_length, List.length_set, List.length_replicate, words_length, ofBytes_length, List.length_append, List.length_cons, List.length_nil, List.length_take, List.length_drop] <;> omega) | fail) only [go_sem, reduceIte, reduceCtorEq, Nat.reduceEqDiff, Nat.reduceAdd, Nat.reduceSub, Nat.reduceMul, Nat.reduceDiv, Nat.reduceMod, Nat.reduceBEq, Nat.reduceLeDiff, Nat.reduceLT, Int.reduceEq, Int.reduceNe, Int.reduceLT, Int.reduceLE, Int.reduceBEq, Int.reduceBNe, Int.reduceToNat, Int.reduceAdd, Int.reduceSub, Int.reduceMul, Int.reduceNeg, sub_take, take_len, sub_drop, zer_bytes, app_ofBytes, ofBytes_length, flats_ofBytes, hards_ofBytes, leadss_ofBytes, refsOfs_ofBytes, rens_ofBytes, bytesOf_ofBytes, sub_ofBytes, take_ofBytes, drop_ofBytes, get_ofBytes, over_ofBytes_all, over_ofBytes, ofBytes_snoc, take_words, drop_words, sub_words, over_words_all, zer_words, w_add, w_and, w_or, w_xor, w_not, w_shl, w_shr, flats_words, hards_words, leadss_words, refsOfs_words, rens_words, words_length, get_words, over_words, hard_W, flat_W, refsOf_W, leads_W, ren_W, view_W, view1_W, cellsO_W, cvi_bw, cvi_wb, idSet]
    have h3 := sum_l3 (h := h) (x := h.getD i 0) (i := i) (by omega) (.blk 5 :: .c L.sha_Sum.r2 :: .lp [2, 5, 37, 38] L.sha_Sum.x2 :: .blk 4 :: k) 4 0 l (by omega) h2
    simp only [Int.cast_ofNat_Int] at h3
    rw [h3]
    simp (dsimp := false) (disch := first | omega | (simp only [strs_length, List.length_set, List.length_replicate, words_length, ofBytes_length, List.length_append, List.length_cons, List.length_nil, List.length_take, List.length_drop] <;> omega) | fail) only [L.sha_Sum.r2, go_sem, reduceIte, reduceCtorEq, Nat.reduceEqDiff, Nat.reduceAdd, Nat.reduceSub, Nat.reduceMul, Nat.reduceDiv, Nat.reduceMod, Nat.reduceBEq, Nat.reduceLeDiff, Nat.reduceLT, Int.reduceEq, Int.reduceNe, Int.reduceLT, Int.reduceLE, Int.reduceBEq, Int.reduceBNe, Int.reduceToNat, Int.reduceAdd, Int.reduceSub, Int.reduceMul, Int.reduceNeg, sub_take, take_len, sub_drop, zer_bytes, app_ofBytes, ofBytes_length, flats_ofBytes, hards_ofBytes, leadss_ofBytes, refsOfs_ofBytes, rens_ofBytes, bytesOf_ofBytes, sub_ofBytes, take_ofBytes, drop_ofBytes, get_ofBytes, over_ofBytes_all, over_ofBytes, ofBytes_snoc, take_words, drop_words, sub_words, over_words_all, zer_words, w_add, w_and, w_or, w_xor, w_not, w_shl, w_shr, flats_words, hards_words, leadss_words, refsOfs_words, rens_words, words_length, get_words, over_words, hard_W, flat_W, refsOf_W, leads_W, ren_W, view_W, view1_W, cellsO_W, cvi_bw, cvi_wb]
    have := ih (i + 1) (idSet1 (h.getD i 0) i 4 0 l) (by omega) (by rw [idSet1_length]; exact h2)
    simp only [Int.natCast_add, Int.cast_ofNat_Int] at this
    exact this

theorem idSet_id {h : List (BitVec 32)} (hh : h.length = 8) : idSet h 8 0 (List.replicate 32 0) = idOf h := by
  match h, hh with
  | [a, b, c, d, e, f, g, i], _ =>
    show idSet [a, b, c, d, e, f, g, i] 8 0 (List.replicate 32 0) = idOf [a, b, c, d, e, f, g, i]
    kernel_rfl

theorem fill_h0 {sl loc : List (Nat × AV)} : fillO (evR E sl loc) [(0, 1, .k (.int .u32 1779033703)), (1, 1, .k (.int .u32 3144134277)), (2, 1, .k (.int .u32 1013904242)), (3, 1, .k (.int .u32 2773480762)), (4, 1, .k (.int .u32 1359893119)), (5, 1, .k (.int .u32 2600822924)), (6, 1, .k (.int .u32 528734635)), (7, 1, .k (.int .u32 1541459225))] (some (words (List.replicate 8 0))) = some (words h0w) := by kernel_rfl

theorem go_sum {p : List UInt8} (hp : p.length ≤ 1000000000000) : S E F.sha_Sum [.lst (ofBytes p) p.length] [] = some (.agg (ofBytes (shaF p)), []) := by
  have hh0 : h0w.length = 8 := rfl
  have hbl := blocksN_length (p.length / 64) h0w p hh0
  have hpl : (padF p.length).length ≤ 100 := by rw [padF]; simp [be8]; omega
  rw [S_of fn_sha_Sum rfl rfl]
  simp (dsimp := false) (disch := first | omega | (simp only [strs_length, List.length_set, List.length_replicate, words_length, ofBytes_length, List.length_append, List.length_cons, List.length_nil, List.length_take, List.length_drop] <;> omega) | fail) only [↓fill_h0, L.sha_Sum, go_sem, reduceIte, reduceCtorEq, Nat.reduceEqDiff, Nat.reduceAdd, Nat.reduceSub, Nat.reduceMul, Nat.reduceDiv, Nat.reduceMod, Nat.reduceBEq, Nat.reduceLeDiff, Nat.reduceLT, Int.reduceEq, Int.reduceNe, Int.reduceLT, Int.reduceLE, Int.reduceBEq, Int.reduceBNe, Int.reduceToNat, Int.reduceAdd, Int.reduceSub, Int.reduceMul, Int.reduceNeg, sub_take, take_len, sub_drop, take_words, drop_words, sub_words, over_words_all, zer_words, w_add, w_and, w_or, w_xor, w_not, w_shl, w_shr, flats_words, hards_words, leadss_words, refsOfs_words, rens_words, words_length, get_words, over_words, hard_W, flat_W, refsOf_W, leads_W, ren_W, view_W, view1_W, cellsO_W, cvi_bw, cvi_wb, zer_bytes, app_ofBytes, ofBytes_length, flats_ofBytes, hards_ofBytes, leadss_ofBytes, refsOfs_ofBytes, rens_ofBytes, bytesOf_ofBytes, sub_ofBytes, take_ofBytes, drop_ofBytes, get_ofBytes, over_ofBytes_all, over_ofBytes, ofBytes_snoc]
  rw [sum_l0 (p := p) [.c L.sha_Sum.r0] (p.length / 64) p p.length h0w rfl rfl hp hh0]
  simp (dsimp := false) (disch := first | omega | (simp only [strs_length, List.length_set, List.length_replicate, words_length, ofBytes_length, List.length_append, List.length_cons, List.length_nil, List.length_take, List.length_drop] <;> omega) | fail) only [L.sha_Sum.r0, go_sem, reduceIte, reduceCtorEq, Nat.reduceEqDiff, Nat.reduceAdd, Nat.reduceSub, Nat.reduceMul, Nat.reduceDiv, Nat.reduceMod, Nat.reduceBEq, Nat.reduceLeDiff, Nat.reduceLT, Int.reduceEq, Int.reduceNe, Int.reduceLT, Int.reduceLE, Int.reduceBEq, Int.reduceBNe, Int.reduceToNat, Int.reduceAdd, Int.reduceSub, Int.reduceMul, Int.reduceNeg, sub_take, take_len, sub_drop, take_words, drop_words, sub_words, over_words_all, zer_words, w_add, w_and, w_or, w_xor, w_not, w_shl, w_shr, flats_words, hards_words, leadss_words, refsOfs_words, rens_words, words_length, get_words, over_words, hard_W, flat_W, refsOf_W, leads_W, ren_W, view_W, view1_W, cellsO_W, cvi_bw, cvi_wb, zer_bytes, app_ofBytes, ofBytes_length, flats_ofBytes, hards_ofBytes, leadss_ofBytes, refsOfs_ofBytes, rens_ofBytes, bytesOf_ofBytes, sub_ofBytes, take_ofBytes, drop_ofBytes, get_ofBytes, over_ofBytes_all, over_ofBytes, ofBytes_snoc, S_clone, go_pad hp]
  generalize hfull : p.drop (64 * (p.length / 64)) ++ padF p.length = full
  have hfl : full.length = p.length - 64 * (p.length / 64) + (padF p.length).length := by rw [← hfull]; simp
  have := sum_l1 (full := full) (by omega) [.c L.sha_Sum.r1] (full.length / 64) 0 full.length (blocksN (p.length / 64) h0w p) (by omega) rfl hbl
  simp only [Nat.zero_add, List.drop_zero] at this
  rw [← hfl, this]
  clear this
  have hbl2 := blocksN_length (full.length / 64) (blocksN (p.length / 64) h0w p) full hbl
  simp (dsimp := false) (disch := first | omega | (simp only [strs_length, List.length_set, List.length_replicate, words_length, ofBytes_length, List.length_append, List.length_cons, List.length_nil, List.length_take, List.length_drop] <;> omega) | fail) only [L.sha_Sum.r1, go_sem, reduceIte, reduceCtorEq, Nat.reduceEqDiff, Nat.reduceAdd, Nat.reduceSub, Nat.reduceMul, Nat.reduceDiv, Nat.reduceMod, Nat.reduceBEq, Nat.reduceLeDiff, Nat.reduceLT, Int.reduceEq, Int.reduceNe, Int.reduceLT, Int.reduceLE, Int.reduceBEq, Int.reduceBNe, Int.reduceToNat, Int.reduceAdd, Int.reduceSub, Int.reduceMul, Int.reduceNeg, sub_take, take_len, sub_drop, take_words, drop_words, sub_words, over_words_all, zer_words, w_add, w_and, w_or, w_xor, w_not, w_shl, w_shr, flats_words, hards_words, leadss_words, refsOfs_words, rens_words, words_length, get_words, over_words, hard_W, flat_W, refsOf_W, leads_W, ren_W, view_W, view1_W, cellsO_W, cvi_bw, cvi_wb, zer_bytes, app_ofBytes, ofBytes_length, flats_ofBytes, hards_ofBytes, leadss_ofBytes, refsOfs_ofBytes, rens_ofBytes, bytesOf_ofBytes, sub_ofBytes, take_ofBytes, drop_ofBytes, get_ofBytes, over_ofBytes_all, over_ofBytes, ofBytes_snoc]
  have := sum_l2 hbl2 [.c L.sha_Sum.r3] 8 0 (List.replicate 32 0) (by omega) (by simp)
  simp only [Int.cast_ofNat_Int] at this
  rw [this, idSet_id hbl2]
  clear this
  have hid : (idOf (blocksN (full.length / 64) (blocksN (p.length / 64) h0w p) full)).length = 32 := by simp [idOf]
  have hsha : shaF p = idOf (blocksN (full.length / 64) (blocksN (p.length / 64) h0w p) full) := by
    rw [shaF, show p.length / 64 * 64 = 64 * (p.length / 64) by omega, hfull]
  rw [hsha]
  simp (dsimp := false) (disch := first | omega | (simp only [strs_length, List.length_set, List.length_replicate, words_length, ofBytes_length, List.length_append, List.length_cons, List.length_nil, List.length_take, List.length_drop] <;> omega) | fail) only [L.sha_Sum.r3, go_sem, reduceIte, reduceCtorEq, Nat.reduceEqDiff, Nat.reduceAdd, Nat.reduceSub, Nat.reduceMul, Nat.reduceDiv, Nat.reduceMod, Nat.reduceBEq, Nat.reduceLeDiff, Nat.reduceLT, Int.reduceEq, Int.reduceNe, Int.reduceLT, Int.reduceLE, Int.reduceBEq, Int.reduceBNe, Int.reduceToNat, Int.reduceAdd, Int.reduceSub, Int.reduceMul, Int.reduceNeg, sub_take, take_len, sub_drop, take_words, drop_words, sub_words, over_words_all, zer_words, w_add, w_and, w_or, w_xor, w_not, w_shl, w_shr, flats_words, hards_words, leadss_words, refsOfs_words, rens_words, words_length, get_words, over_words, hard_W, flat_W, refsOf_W, leads_W, ren_W, view_W, view1_W, cellsO_W, cvi_bw, cvi_wb, zer_bytes, app_ofBytes, ofBytes_length, flats_ofBytes, hards_ofBytes, leadss_ofBytes, refsOfs_ofBytes, rens_ofBytes, bytesOf_ofBytes, sub_ofBytes, take_ofBytes, drop_ofBytes, get_ofBytes, over_ofBytes_all, over_ofBytes, ofBytes_snoc]
end Cod

/- Headers and ids: Header, Id, DocHeader, DocId. -/
namespace Cod
open Go

def wordF (k : Int) : List UInt8 := if k = 1 then [99, 111, 109, 109, 105, 116] else if k = 2 then [116, 114, 101, 101] else if k = 3 then [98, 108, 111, 98] else if k = 4 then [116, 97, 103] else []
theorem wordF_len (k : Int) : (wordF k).length ≤ 6 := by unfold wordF; split <;> (try split) <;> (try split) <;> (try split) <;> simp
theorem go_word {k : Int} : S E F.object_word [.int .i64 k] [] = some (.str (wordF k), []) := by
  rw [S_of fn_object_word rfl rfl]
  unfold wordF
  by_cases a : k = 1
  · simp (dsimp := false) (disch := first | omega | (simp only [strs_length, List.length_set, List.length_replicate, words_length, ofBytes_length, List.length_append, List.length_cons, List.length_nil, List.length_take, List.length_drop, ints64_length] <;> omega) | fail) only [L.object_word, go_sem, reduceIte, reduceCtorEq, Nat.reduceEqDiff, Nat.reduceAdd, Nat.reduceSub, Nat.reduceMul, Nat.reduceDiv, Nat.reduceMod, Nat.reduceBEq, Nat.reduceLeDiff, Nat.reduceLT, Int.reduceEq, Int.reduceNe, Int.reduceLT, Int.reduceLE, Int.reduceBEq, Int.reduceBNe, Int.reduceToNat, Int.reduceAdd, Int.reduceSub, Int.reduceMul, Int.reduceNeg, a]
  · by_cases b : k = 2
    · simp (dsimp := false) (disch := first | omega | (simp only [strs_length, List.length_set, List.length_replicate, words_length, ofBytes_length, List.length_append, List.length_cons, List.length_nil, List.length_take, List.length_drop, ints64_length] <;> omega) | fail) only [L.object_word, go_sem, reduceIte, reduceCtorEq, Nat.reduceEqDiff, Nat.reduceAdd, Nat.reduceSub, Nat.reduceMul, Nat.reduceDiv, Nat.reduceMod, Nat.reduceBEq, Nat.reduceLeDiff, Nat.reduceLT, Int.reduceEq, Int.reduceNe, Int.reduceLT, Int.reduceLE, Int.reduceBEq, Int.reduceBNe, Int.reduceToNat, Int.reduceAdd, Int.reduceSub, Int.reduceMul, Int.reduceNeg, a, b]
    · by_cases c : k = 3
      · simp (dsimp := false) (disch := first | omega | (simp only [strs_length, List.length_set, List.length_replicate, words_length, ofBytes_length, List.length_append, List.length_cons, List.length_nil, List.length_take, List.length_drop, ints64_length] <;> omega) | fail) only [L.object_word, go_sem, reduceIte, reduceCtorEq, Nat.reduceEqDiff, Nat.reduceAdd, Nat.reduceSub, Nat.reduceMul, Nat.reduceDiv, Nat.reduceMod, Nat.reduceBEq, Nat.reduceLeDiff, Nat.reduceLT, Int.reduceEq, Int.reduceNe, Int.reduceLT, Int.reduceLE, Int.reduceBEq, Int.reduceBNe, Int.reduceToNat, Int.reduceAdd, Int.reduceSub, Int.reduceMul, Int.reduceNeg, a, b, c]
      · by_cases d : k = 4
        · simp (dsimp := false) (disch := first | omega | (simp only [strs_length, List.length_set, List.length_replicate, words_length, ofBytes_length, List.length_append, List.length_cons, List.length_nil, List.length_take, List.length_drop, ints64_length] <;> omega) | fail) only [L.object_word, go_sem, reduceIte, reduceCtorEq, Nat.reduceEqDiff, Nat.reduceAdd, Nat.reduceSub, Nat.reduceMul, Nat.reduceDiv, Nat.reduceMod, Nat.reduceBEq, Nat.reduceLeDiff, Nat.reduceLT, Int.reduceEq, Int.reduceNe, Int.reduceLT, Int.reduceLE, Int.reduceBEq, Int.reduceBNe, Int.reduceToNat, Int.reduceAdd, Int.reduceSub, Int.reduceMul, Int.reduceNeg, a, b, c, d]
        · simp (dsimp := false) (disch := first | omega | (simp only [strs_length, List.length_set, List.length_replicate, words_length, ofBytes_length, List.length_append, List.length_cons, List.length_nil, List.length_take, List.length_drop, ints64_length] <;> omega) | fail) only [L.object_word, go_sem, reduceIte, reduceCtorEq, Nat.reduceEqDiff, Nat.reduceAdd, Nat.reduceSub, Nat.reduceMul, Nat.reduceDiv, Nat.reduceMod, Nat.reduceBEq, Nat.reduceLeDiff, Nat.reduceLT, Int.reduceEq, Int.reduceNe, Int.reduceLT, Int.reduceLE, Int.reduceBEq, Int.reduceBNe, Int.reduceToNat, Int.reduceAdd, Int.reduceSub, Int.reduceMul, Int.reduceNeg, a, b, c, d]
theorem go_if {b : Bool} {e : Int} : S E F.ref07_If [.bool b, .int .i64 e] [] = some (.int .i64 (if b then e else 0), []) := by
  rw [S_of fn_ref07_If rfl rfl]
  cases b <;> simp (dsimp := false) (disch := first | omega | (simp only [strs_length, List.length_set, List.length_replicate, words_length, ofBytes_length, List.length_append, List.length_cons, List.length_nil, List.length_take, List.length_drop, ints64_length] <;> omega) | fail) only [L.ref07_If, go_sem, reduceIte, reduceCtorEq, Nat.reduceEqDiff, Nat.reduceAdd, Nat.reduceSub, Nat.reduceMul, Nat.reduceDiv, Nat.reduceMod, Nat.reduceBEq, Nat.reduceLeDiff, Nat.reduceLT, Int.reduceEq, Int.reduceNe, Int.reduceLT, Int.reduceLE, Int.reduceBEq, Int.reduceBNe, Int.reduceToNat, Int.reduceAdd, Int.reduceSub, Int.reduceMul, Int.reduceNeg]
theorem rleast_l0 {l : List Int} (hl : l.length ≤ 1000000) : ∀ (m i : Nat) (w : Int), i + m = l.length →
    X E [.tmp 2] (.c L.ref07_Least.x0 :: .lp [3, 6, 7, 8] L.ref07_Least.x0 :: .blk 0 :: [.c L.ref07_Least.r0]) ⟨[(3, .int .i64 w), (6, .lst (ints64 l) l.length), (7, .int .i64 l.length), (8, .int .i64 i)], []⟩ = some (.int .i64 ((l.drop i).foldl lst2 w), []) := by
  intro m
  induction m with
  | zero =>
    intro i w h
    obtain rfl : i = l.length := by omega
    rw [X_in L.ref07_Least.x0.eq_1, List.drop_length]
    simp (dsimp := false) (disch := first | omega | (simp only [strs_length, List.length_set, List.length_replicate, words_length, ofBytes_length, List.length_append, List.length_cons, List.length_nil, List.length_take, List.length_drop, ints64_length] <;> omega) | fail) only [go_sem, reduceIte, reduceCtorEq, Nat.reduceEqDiff, Nat.reduceAdd, Nat.reduceSub, Nat.reduceMul, Nat.reduceDiv, Nat.reduceMod, Nat.reduceBEq, Nat.reduceLeDiff, Nat.reduceLT, Int.reduceEq, Int.reduceNe, Int.reduceLT, Int.reduceLE, Int.reduceBEq, Int.reduceBNe, Int.reduceToNat, Int.reduceAdd, Int.reduceSub, Int.reduceMul, Int.reduceNeg, L.ref07_Least.r0, flats_i64s, refsOfs_i64s, rens_i64s]
    rfl
  | succ m ih =>
    intro i w h
    have hlt : i < l.length := by omega
    have h1 := ih (i + 1) (lst2 w (l.getD i 0)) (by omega)
    simp only [Int.natCast_add, Int.cast_ofNat_Int] at h1
    have hg := ints_get hlt
    rw [X_in L.ref07_Least.x0.eq_1, List.drop_eq_getElem_cons hlt, List.foldl_cons, show l[i] = l.getD i 0 by simp [List.getD, hlt]]
    generalize l.getD i 0 = e at *
    unfold lst2 at h1 ⊢
    by_cases e0 : e = 0
    · subst e0
      rw [if_neg (by simp)] at h1 ⊢
      simp (dsimp := false) (disch := first | omega | (simp only [strs_length, List.length_set, List.length_replicate, words_length, ofBytes_length, List.length_append, List.length_cons, List.length_nil, List.length_take, List.length_drop, ints64_length] <;> omega) | fail) only [go_sem, reduceIte, reduceCtorEq, Nat.reduceEqDiff, Nat.reduceAdd, Nat.reduceSub, Nat.reduceMul, Nat.reduceDiv, Nat.reduceMod, Nat.reduceBEq, Nat.reduceLeDiff, Nat.reduceLT, Int.reduceEq, Int.reduceNe, Int.reduceLT, Int.reduceLE, Int.reduceBEq, Int.reduceBNe, Int.reduceToNat, Int.reduceAdd, Int.reduceSub, Int.reduceMul, Int.reduceNeg, flats_i64s, refsOfs_i64s, rens_i64s, hg, h1]
    · by_cases w0 : w = 0
      · subst w0
        rw [if_pos (by simp [e0])] at h1 ⊢
        simp (dsimp := false) (disch := first | omega | (simp only [strs_length, List.length_set, List.length_replicate, words_length, ofBytes_length, List.length_append, List.length_cons, List.length_nil, List.length_take, List.length_drop, ints64_length] <;> omega) | fail) only [go_sem, reduceIte, reduceCtorEq, Nat.reduceEqDiff, Nat.reduceAdd, Nat.reduceSub, Nat.reduceMul, Nat.reduceDiv, Nat.reduceMod, Nat.reduceBEq, Nat.reduceLeDiff, Nat.reduceLT, Int.reduceEq, Int.reduceNe, Int.reduceLT, Int.reduceLE, Int.reduceBEq, Int.reduceBNe, Int.reduceToNat, Int.reduceAdd, Int.reduceSub, Int.reduceMul, Int.reduceNeg, flats_i64s, refsOfs_i64s, rens_i64s, hg, h1, e0]
      · by_cases lt : e < w
        · rw [if_pos (by simp [e0, lt])] at h1 ⊢
          simp (dsimp := false) (disch := first | omega | (simp only [strs_length, List.length_set, List.length_replicate, words_length, ofBytes_length, List.length_append, List.length_cons, List.length_nil, List.length_take, List.length_drop, ints64_length] <;> omega) | fail) only [go_sem, reduceIte, reduceCtorEq, Nat.reduceEqDiff, Nat.reduceAdd, Nat.reduceSub, Nat.reduceMul, Nat.reduceDiv, Nat.reduceMod, Nat.reduceBEq, Nat.reduceLeDiff, Nat.reduceLT, Int.reduceEq, Int.reduceNe, Int.reduceLT, Int.reduceLE, Int.reduceBEq, Int.reduceBNe, Int.reduceToNat, Int.reduceAdd, Int.reduceSub, Int.reduceMul, Int.reduceNeg, flats_i64s, refsOfs_i64s, rens_i64s, hg, h1, e0, w0, lt]
        · rw [if_neg (by simp [e0, lt, w0])] at h1 ⊢
          simp (dsimp := false) (disch := first | omega | (simp only [strs_length, List.length_set, List.length_replicate, words_length, ofBytes_length, List.length_append, List.length_cons, List.length_nil, List.length_take, List.length_drop, ints64_length] <;> omega) | fail) only [go_sem, reduceIte, reduceCtorEq, Nat.reduceEqDiff, Nat.reduceAdd, Nat.reduceSub, Nat.reduceMul, Nat.reduceDiv, Nat.reduceMod, Nat.reduceBEq, Nat.reduceLeDiff, Nat.reduceLT, Int.reduceEq, Int.reduceNe, Int.reduceLT, Int.reduceLE, Int.reduceBEq, Int.reduceBNe, Int.reduceToNat, Int.reduceAdd, Int.reduceSub, Int.reduceMul, Int.reduceNeg, flats_i64s, refsOfs_i64s, rens_i64s, hg, h1, e0, w0, lt]
theorem go_rleast {l : List Int} (hl : l.length ≤ 1000000) : S E F.ref07_Least [.lst (ints64 l) l.length] [] = some (.int .i64 (minE l), []) := by
  have h := rleast_l0 hl l.length 0 0 (by omega)
  simp only [Int.cast_ofNat_Int, List.drop_zero] at h
  rw [S_of fn_ref07_Least rfl rfl]
  simp (dsimp := false) (disch := first | omega | (simp only [strs_length, List.length_set, List.length_replicate, words_length, ofBytes_length, List.length_append, List.length_cons, List.length_nil, List.length_take, List.length_drop, ints64_length] <;> omega) | fail) only [L.ref07_Least, go_sem, reduceIte, reduceCtorEq, Nat.reduceEqDiff, Nat.reduceAdd, Nat.reduceSub, Nat.reduceMul, Nat.reduceDiv, Nat.reduceMod, Nat.reduceBEq, Nat.reduceLeDiff, Nat.reduceLT, Int.reduceEq, Int.reduceNe, Int.reduceLT, Int.reduceLE, Int.reduceBEq, Int.reduceBNe, Int.reduceToNat, Int.reduceAdd, Int.reduceSub, Int.reduceMul, Int.reduceNeg, flats_i64s, refsOfs_i64s, rens_i64s, h]
  rfl
theorem go_least2 {a b : Int} : S E F.object_least [.lst [.int .i64 a, .int .i64 b] 2] [] = some (.int .i64 (minE [a, b]), []) := go_least (l := [a, b]) (by simp)
/-- The header of a kind and a size. -/
def hdrT (k n : Int) : List UInt8 := wordF k ++ [32] ++ Lib.itoa n ++ [0]
def eSize (n : Int) : Int := if (decide (n < 0) || decide (1048576 < n)) = true then 1 else 0
def eWord (k : Int) : Int := if (wordF k == []) = true then 9 else 0
def hdrE (k n : Int) : Int := minE [eSize n, eWord k]
def hdrV (k n : Int) : AV := if hdrE k n = 0 then .tup [.str (hdrT k n), .int .i64 0] else .tup [.str [], .int .i64 (hdrE k n)]
theorem hdrT_len {k n : Int} (h1 : -9223372036854775808 ≤ n) (h2 : n ≤ 9223372036854775807) : (hdrT k n).length ≤ 40 := by
  have := Lib.itoa_length_le n h1 h2
  have := wordF_len k
  unfold hdrT
  simp only [List.length_append, List.length_cons, List.length_nil]
  omega
theorem go_header {k n : Int} (h1 : -9223372036854775808 ≤ n) (h2 : n ≤ 9223372036854775807) : S E F.object_Header [.int .i64 k, .int .i64 n] [] = some (hdrV k n, []) := by
  have hi := S_itoa (n := n) ⟨h1, h2⟩
  have hl := Lib.itoa_length_le n h1 h2
  have hw := wordF_len k
  rw [S_of fn_object_Header rfl rfl]
  unfold hdrV
  have w2 : S E F.object_when [.bool (wordF k == []), .int .i64 9] [] = some (.int .i64 (eWord k), []) := go_when
  have hd : S E F.object_least [.lst [.int .i64 (eSize n), .int .i64 (eWord k)] 2] [] = some (.int .i64 (hdrE k n), []) := go_least2
  by_cases a : n < 0
  · have w1 : S E F.object_when [.bool true, .int .i64 1] [] = some (.int .i64 (eSize n), []) := by
      rw [go_when, eSize, decide_eq_true a, Bool.true_or]
    by_cases e : hdrE k n = 0
    · simp (dsimp := false) (disch := first | omega | (simp only [strs_length, List.length_set, List.length_replicate, words_length, ofBytes_length, List.length_append, List.length_cons, List.length_nil, List.length_take, List.length_drop, ints64_length] <;> omega) | fail) only [L.object_Header, go_sem, reduceIte, reduceCtorEq, Nat.reduceEqDiff, Nat.reduceAdd, Nat.reduceSub, Nat.reduceMul, Nat.reduceDiv, Nat.reduceMod, Nat.reduceBEq, Nat.reduceLeDiff, Nat.reduceLT, Int.reduceEq, Int.reduceNe, Int.reduceLT, Int.reduceLE, Int.reduceBEq, Int.reduceBNe, Int.reduceToNat, Int.reduceAdd, Int.reduceSub, Int.reduceMul, Int.reduceNeg, go_word, a, w1, w2, hd, e, hi]
      rfl
    · simp (dsimp := false) (disch := first | omega | (simp only [strs_length, List.length_set, List.length_replicate, words_length, ofBytes_length, List.length_append, List.length_cons, List.length_nil, List.length_take, List.length_drop, ints64_length] <;> omega) | fail) only [L.object_Header, go_sem, reduceIte, reduceCtorEq, Nat.reduceEqDiff, Nat.reduceAdd, Nat.reduceSub, Nat.reduceMul, Nat.reduceDiv, Nat.reduceMod, Nat.reduceBEq, Nat.reduceLeDiff, Nat.reduceLT, Int.reduceEq, Int.reduceNe, Int.reduceLT, Int.reduceLE, Int.reduceBEq, Int.reduceBNe, Int.reduceToNat, Int.reduceAdd, Int.reduceSub, Int.reduceMul, Int.reduceNeg, go_word, a, w1, w2, hd, e, hi]
  · have w1 : S E F.object_when [.bool (decide (1048576 < n)), .int .i64 1] [] = some (.int .i64 (eSize n), []) := by
      rw [go_when, eSize, decide_eq_false a, Bool.false_or]
    by_cases e : hdrE k n = 0
    · simp (dsimp := false) (disch := first | omega | (simp only [strs_length, List.length_set, List.length_replicate, words_length, ofBytes_length, List.length_append, List.length_cons, List.length_nil, List.length_take, List.length_drop, ints64_length] <;> omega) | fail) only [L.object_Header, go_sem, reduceIte, reduceCtorEq, Nat.reduceEqDiff, Nat.reduceAdd, Nat.reduceSub, Nat.reduceMul, Nat.reduceDiv, Nat.reduceMod, Nat.reduceBEq, Nat.reduceLeDiff, Nat.reduceLT, Int.reduceEq, Int.reduceNe, Int.reduceLT, Int.reduceLE, Int.reduceBEq, Int.reduceBNe, Int.reduceToNat, Int.reduceAdd, Int.reduceSub, Int.reduceMul, Int.reduceNeg, go_word, a, w1, w2, hd, e, hi]
      rfl
    · simp (dsimp := false) (disch := first | omega | (simp only [strs_length, List.length_set, List.length_replicate, words_length, ofBytes_length, List.length_append, List.length_cons, List.length_nil, List.length_take, List.length_drop, ints64_length] <;> omega) | fail) only [L.object_Header, go_sem, reduceIte, reduceCtorEq, Nat.reduceEqDiff, Nat.reduceAdd, Nat.reduceSub, Nat.reduceMul, Nat.reduceDiv, Nat.reduceMod, Nat.reduceBEq, Nat.reduceLeDiff, Nat.reduceLT, Int.reduceEq, Int.reduceNe, Int.reduceLT, Int.reduceLE, Int.reduceBEq, Int.reduceBNe, Int.reduceToNat, Int.reduceAdd, Int.reduceSub, Int.reduceMul, Int.reduceNeg, go_word, a, w1, w2, hd, e, hi]
/-- The error of an object's kind and bytes. -/
def objE (k : Int) (n : Nat) : Int := minE [if (decide (1048576 < n)) = true then 2 else 0, eWord k]
def eLong (n : Nat) : Int := if (decide (1048576 < (n : Int))) = true then 2 else 0
theorem objE_eq (k : Int) (n : Nat) : objE k n = minE [eLong n, eWord k] := by
  unfold objE eLong
  rw [show decide (1048576 < (n : Int)) = decide (1048576 < n) from decide_eq_decide.2 (by omega)]
theorem go_plain {k : Int} {p : List UInt8} {n : Nat} (hn : n = p.length) (hp : p.length ≤ 1000000000000) : S E F.object_plain [.agg [.int .i64 k, .lst (ofBytes p) n]] [] = some (.int .i64 (objE k p.length), []) := by
  subst hn
  have w1 : S E F.object_when [.bool (decide (1048576 < (p.length : Int))), .int .i64 2] [] = some (.int .i64 (eLong p.length), []) := go_when
  have w2 : S E F.object_when [.bool (wordF k == []), .int .i64 9] [] = some (.int .i64 (eWord k), []) := go_when
  have hd : S E F.object_least [.lst [.int .i64 (eLong p.length), .int .i64 (eWord k)] 2] [] = some (.int .i64 (objE k p.length), []) := by rw [objE_eq]; exact go_least2
  rw [S_of fn_object_plain rfl rfl]
  simp (dsimp := false) (disch := first | omega | (simp only [strs_length, List.length_set, List.length_replicate, words_length, ofBytes_length, List.length_append, List.length_cons, List.length_nil, List.length_take, List.length_drop, ints64_length] <;> omega) | fail) only [L.object_plain, go_sem, reduceIte, reduceCtorEq, Nat.reduceEqDiff, Nat.reduceAdd, Nat.reduceSub, Nat.reduceMul, Nat.reduceDiv, Nat.reduceMod, Nat.reduceBEq, Nat.reduceLeDiff, Nat.reduceLT, Int.reduceEq, Int.reduceNe, Int.reduceLT, Int.reduceLE, Int.reduceBEq, Int.reduceBNe, Int.reduceToNat, Int.reduceAdd, Int.reduceSub, Int.reduceMul, Int.reduceNeg, zer_bytes, app_ofBytes, ofBytes_length, flats_ofBytes, hards_ofBytes, leadss_ofBytes, refsOfs_ofBytes, rens_ofBytes, bytesOf_ofBytes, sub_ofBytes, take_ofBytes, drop_ofBytes, get_ofBytes, over_ofBytes_all, over_ofBytes, ofBytes_snoc, go_word, w1, w2, hd]
end Cod

/- Ids: Id, DocId. -/
namespace Cod
open Go

theorem rep_bytes (n : Nat) : rep [.int .u8 0] n = ofBytes (List.replicate n 0) := by
  induction n with
  | zero => rfl
  | succ n ih => rw [rep, ih, List.replicate_succ]; rfl
theorem appV_nilsL {t : Site} {sz bytes m : Nat} {vs : List AV} {u : Ups} {ss : List Site} : appV t sz bytes m vs u ss .nils = if m * bytes ≤ 140737488355328 then mkBuf t vs m sz u else .fail := rfl
theorem appzV_intL {t : Site} {sz bytes : Nat} {zero : List AV} {s : AV} {m : Int} : appzV t sz bytes zero s (.int .i64 m) = if 0 ≤ m ∧ m ≤ 140737488355328 then appV t sz bytes m.toNat (rep zero m.toNat) [] [] s else .fail := rfl
theorem go_growB {n : Nat} (h0 : 0 < n) (hn : n ≤ 4000000) : S E F.slices_Grow_Sbyte_byte [.nils, .int .i64 n] [] =
    some (.buf (.r 0) 0 0 0 1, [(.r 0, ⟨0, true, true, false, ofBytes (List.replicate n 0)⟩)]) := by
  rw [S_of fn_slices_Grow_Sbyte_byte rfl rfl]
  simp (dsimp := false) (disch := first | omega | (simp only [strs_length, List.length_set, List.length_replicate, words_length, ofBytes_length, List.length_append, List.length_cons, List.length_nil, List.length_take, List.length_drop, ints64_length] <;> omega) | fail) only [L.slices_Grow_Sbyte_byte, go_sem, reduceIte, reduceCtorEq, Nat.reduceEqDiff, Nat.reduceAdd, Nat.reduceSub, Nat.reduceMul, Nat.reduceDiv, Nat.reduceMod, Nat.reduceBEq, Nat.reduceLeDiff, Nat.reduceLT, Int.reduceEq, Int.reduceNe, Int.reduceLT, Int.reduceLE, Int.reduceBEq, Int.reduceBNe, Int.reduceToNat, Int.reduceAdd, Int.reduceSub, Int.reduceMul, Int.reduceNeg, zer_bytes, app_ofBytes, ofBytes_length, flats_ofBytes, hards_ofBytes, leadss_ofBytes, refsOfs_ofBytes, rens_ofBytes, bytesOf_ofBytes, sub_ofBytes, take_ofBytes, drop_ofBytes, get_ofBytes, over_ofBytes_all, over_ofBytes, ofBytes_snoc, Int.sub_zero, rep_bytes, appV_nilsL, appzV_intL]
theorem sub_00B (l : List UInt8) : sub l 0 0 = [] := by simp [sub]
theorem sub_fullB {l : List UInt8} {n : Nat} (h : n = l.length) : sub l 0 n = l := by simp [sub, h]
theorem go_concat2 {a b : List UInt8} (h0 : 0 < a.length) (ha : a.length ≤ 1000000) (hb : b.length ≤ 2000000) :
    S E F.slices_Concat_Sbyte_byte [.lst [.lst (ofBytes a) a.length, .lst (ofBytes b) b.length] 2] [] =
    some (.buf (.r 0) 0 0 (a ++ b).length 1, [(.r 0, ⟨0, true, true, false, ofBytes (a ++ b)⟩)]) := by
  have hg := go_growB (n := a.length + b.length) (by omega) (by omega)
  have e1 : (0 + (a.length : Int) + b.length) = ((a.length + b.length : Nat) : Int) := by omega
  rw [S_of fn_slices_Concat_Sbyte_byte rfl rfl]
  simp (dsimp := false) (disch := first | omega | (simp only [strs_length, List.length_set, List.length_replicate, words_length, ofBytes_length, List.length_append, List.length_cons, List.length_nil, List.length_take, List.length_drop, ints64_length] <;> omega) | fail) only [L.slices_Concat_Sbyte_byte, L.slices_Concat_Sbyte_byte.x0, go_sem, reduceIte, reduceCtorEq, Nat.reduceEqDiff, Nat.reduceAdd, Nat.reduceSub, Nat.reduceMul, Nat.reduceDiv, Nat.reduceMod, Nat.reduceBEq, Nat.reduceLeDiff, Nat.reduceLT, Int.reduceEq, Int.reduceNe, Int.reduceLT, Int.reduceLE, Int.reduceBEq, Int.reduceBNe, Int.reduceToNat, Int.reduceAdd, Int.reduceSub, Int.reduceMul, Int.reduceNeg, zer_bytes, app_ofBytes, ofBytes_length, flats_ofBytes, hards_ofBytes, leadss_ofBytes, refsOfs_ofBytes, rens_ofBytes, bytesOf_ofBytes, sub_ofBytes, take_ofBytes, drop_ofBytes, get_ofBytes, over_ofBytes_all, over_ofBytes, ofBytes_snoc]
  rw [e1]
  simp (dsimp := false) (disch := first | omega | (simp only [strs_length, List.length_set, List.length_replicate, words_length, ofBytes_length, List.length_append, List.length_cons, List.length_nil, List.length_take, List.length_drop, ints64_length] <;> omega) | fail) only [L.slices_Concat_Sbyte_byte.r0, L.slices_Concat_Sbyte_byte.x1, L.slices_Concat_Sbyte_byte.r1, go_sem, reduceIte, reduceCtorEq, Nat.reduceEqDiff, Nat.reduceAdd, Nat.reduceSub, Nat.reduceMul, Nat.reduceDiv, Nat.reduceMod, Nat.reduceBEq, Nat.reduceLeDiff, Nat.reduceLT, Int.reduceEq, Int.reduceNe, Int.reduceLT, Int.reduceLE, Int.reduceBEq, Int.reduceBNe, Int.reduceToNat, Int.reduceAdd, Int.reduceSub, Int.reduceMul, Int.reduceNeg, zer_bytes, app_ofBytes, ofBytes_length, flats_ofBytes, hards_ofBytes, leadss_ofBytes, refsOfs_ofBytes, rens_ofBytes, bytesOf_ofBytes, sub_ofBytes, take_ofBytes, drop_ofBytes, get_ofBytes, over_ofBytes_all, over_ofBytes, ofBytes_snoc, hg, appV_nilsL, appzV_intL, sub_00B, Nat.zero_mul, Nat.zero_add, sub_fullB, List.nil_append]
  rw [List.length_append]
theorem go_twin {a : List UInt8} {n : Nat} (hn : n = a.length) (h : a.length ≤ 1000000000000) : S E F.ref01_Twin [.lst (ofBytes a) n] [] = some (.buf (.r 0) 0 0 n 1, [(.r 0, ⟨0, true, true, false, ofBytes a⟩)]) := by
  rw [S_of fn_ref01_Twin rfl rfl]
  simp (dsimp := false) (disch := first | omega | (simp only [strs_length, List.length_set, List.length_replicate, words_length, ofBytes_length, List.length_append, List.length_cons, List.length_nil, List.length_take, List.length_drop, ints64_length] <;> omega) | fail) only [L.ref01_Twin, go_sem, reduceIte, reduceCtorEq, Nat.reduceEqDiff, Nat.reduceAdd, Nat.reduceSub, Nat.reduceMul, Nat.reduceDiv, Nat.reduceMod, Nat.reduceBEq, Nat.reduceLeDiff, Nat.reduceLT, Int.reduceEq, Int.reduceNe, Int.reduceLT, Int.reduceLE, Int.reduceBEq, Int.reduceBNe, Int.reduceToNat, Int.reduceAdd, Int.reduceSub, Int.reduceMul, Int.reduceNeg, zer_bytes, app_ofBytes, ofBytes_length, flats_ofBytes, hards_ofBytes, leadss_ofBytes, refsOfs_ofBytes, rens_ofBytes, bytesOf_ofBytes, sub_ofBytes, take_ofBytes, drop_ofBytes, get_ofBytes, over_ofBytes_all, over_ofBytes, ofBytes_snoc]
/-- An object's id. -/
def idF (k : Int) (p : List UInt8) : List UInt8 := if objE k p.length = 0 then shaF (hdrT k p.length ++ p) else List.replicate 32 0
def idV (k : Int) (p : List UInt8) : AV := .tup [.agg (ofBytes (idF k p)), .int .i64 (objE k p.length)]
theorem hdr_of_obj {k : Int} {n : Nat} (h : objE k n = 0) : hdrE k n = 0 ∧ n ≤ 1048576 := by
  unfold objE hdrE eSize at *
  unfold minE at *
  simp only [List.foldl_cons, List.foldl_nil, lst2] at *
  have : n ≤ 1048576 := by
    by_cases h1 : 1048576 < n
    · exfalso
      rw [decide_eq_true h1] at h
      generalize eWord k = w at h
      simp only [if_true] at h
      by_cases a : w = 0 <;> by_cases b : w < 2 <;> simp [a, b] at h
    · omega
  refine ⟨?_, this⟩
  rw [decide_eq_false (by omega : ¬ 1048576 < n)] at h
  rw [decide_eq_false (by omega : ¬ (n : Int) < 0), decide_eq_false (by omega : ¬ 1048576 < (n : Int))]
  generalize eWord k = w at h
  simpa using h
theorem hdrT_pos (k n : Int) : 0 < (hdrT k n).length := by unfold hdrT; simp only [List.length_append, List.length_cons, List.length_nil]; omega
theorem go_oid {k : Int} {p : List UInt8} {n : Nat} (hn : n = p.length) (hp : p.length ≤ 1000000000000) : S E F.object_Id [.agg [.int .i64 k, .lst (ofBytes p) n]] [] = some (idV k p, []) := by
  subst hn
  have h1 := go_plain (k := k) (p := p) rfl hp
  have h2 := go_header (k := k) (n := p.length) (by omega) (by omega)
  rw [S_of fn_object_Id rfl rfl]
  unfold idV idF
  by_cases e : objE k p.length = 0
  · obtain ⟨e1, e2⟩ := hdr_of_obj e
    unfold hdrV at h2
    rw [if_pos e1] at h2
    have hl := hdrT_len (k := k) (n := p.length) (by omega) (by omega)
    have h0 := hdrT_pos k p.length
    generalize hdrT k p.length = t at *
    have h3 := go_concat2 (a := t) (b := p) h0 (by omega) (by omega)
    have h4 := go_sum (p := t ++ p) (by rw [List.length_append]; omega)
    have hs : (shaF (t ++ p)).length = 32 := by unfold shaF; simp [idOf]
    simp (dsimp := false) (disch := first | omega | (simp only [strs_length, List.length_set, List.length_replicate, words_length, ofBytes_length, List.length_append, List.length_cons, List.length_nil, List.length_take, List.length_drop, ints64_length] <;> omega) | fail) only [L.object_Id, go_sem, reduceIte, reduceCtorEq, Nat.reduceEqDiff, Nat.reduceAdd, Nat.reduceSub, Nat.reduceMul, Nat.reduceDiv, Nat.reduceMod, Nat.reduceBEq, Nat.reduceLeDiff, Nat.reduceLT, Int.reduceEq, Int.reduceNe, Int.reduceLT, Int.reduceLE, Int.reduceBEq, Int.reduceBNe, Int.reduceToNat, Int.reduceAdd, Int.reduceSub, Int.reduceMul, Int.reduceNeg, zer_bytes, app_ofBytes, ofBytes_length, flats_ofBytes, hards_ofBytes, leadss_ofBytes, refsOfs_ofBytes, rens_ofBytes, bytesOf_ofBytes, sub_ofBytes, take_ofBytes, drop_ofBytes, get_ofBytes, over_ofBytes_all, over_ofBytes, ofBytes_snoc, h1, e, h2, h3, h4]
  · simp (dsimp := false) (disch := first | omega | (simp only [strs_length, List.length_set, List.length_replicate, words_length, ofBytes_length, List.length_append, List.length_cons, List.length_nil, List.length_take, List.length_drop, ints64_length] <;> omega) | fail) only [L.object_Id, go_sem, reduceIte, reduceCtorEq, Nat.reduceEqDiff, Nat.reduceAdd, Nat.reduceSub, Nat.reduceMul, Nat.reduceDiv, Nat.reduceMod, Nat.reduceBEq, Nat.reduceLeDiff, Nat.reduceLT, Int.reduceEq, Int.reduceNe, Int.reduceLT, Int.reduceLE, Int.reduceBEq, Int.reduceBNe, Int.reduceToNat, Int.reduceAdd, Int.reduceSub, Int.reduceMul, Int.reduceNeg, zer_bytes, app_ofBytes, ofBytes_length, flats_ofBytes, hards_ofBytes, leadss_ofBytes, refsOfs_ofBytes, rens_ofBytes, bytesOf_ofBytes, sub_ofBytes, take_ofBytes, drop_ofBytes, get_ofBytes, over_ofBytes_all, over_ofBytes, ofBytes_snoc, h1, e, List.length_replicate]
end Cod

/- The reference's tree: its bytes and its error. -/
namespace Cod
open Go

def mkT (v : Int) (n d : List UInt8) : Ety := if h : d.length = 32 then ⟨v, n, d, h⟩ else default
theorem mkT_cells {v : Int} {n d : List UInt8} (h : d.length = 32) : (mkT v n d).cells = .int .i64 v :: .str n :: ofBytes d := by unfold mkT; rw [dif_pos h]; rfl
theorem treeB_cons (e : Ety) (l : List Ety) : treeB (e :: l) = entB e ++ treeB l := rfl
theorem drop_eat {l : List Ety} {i : Nat} (h : i < l.length) : l.drop i = eat l i :: l.drop (i + 1) := by
  rw [List.drop_eq_getElem_cons h]; simp [eat, List.getD, h]
theorem treeB_le {l : List Ety} {B : Nat} (h : ∀ i, (eat l i).name.length ≤ B) : (treeB l).length ≤ l.length * (B + 60) := by
  have : ∀ m i, i + m = l.length → (treeB (l.drop i)).length ≤ m * (B + 60) := by
    intro m
    induction m with
    | zero => intro i hi; rw [List.drop_of_length_le (by omega)]; simp [treeB]
    | succ m ih =>
      intro i hi
      rw [drop_eat (by omega), treeB_cons, List.length_append, entB_len, Nat.succ_mul]
      have := ih (i + 1) (by omega)
      have := h i
      have := octT_len (eat l i).mode
      omega
  simpa using this l.length 0 (by omega)
theorem rTree_l0 {l : List Ety} {B : Nat} (hb : ∀ i, (eat l i).name.length ≤ B) (hB : B ≤ 1000000000) (hl : l.length ≤ 4096) (hm : ∀ i, -9223372036854775808 ≤ (eat l i).mode ∧ (eat l i).mode ≤ 9223372036854775807) : ∀ (m i : Nat) (p : List UInt8), i + m = l.length → p.length ≤ i * (B + 60) →
    X E [.tmp 2] (.c L.ref07_Tree.x0 :: .lp [3, 7, 8, 9] L.ref07_Tree.x0 :: .blk 0 :: [.c L.ref07_Tree.r0]) ⟨[(3, .buf (.s 1000000 0) 0 0 p.length 1), (7, .lst (etys l) l.length), (8, .int .i64 l.length), (9, .int .i64 i)], [(.s 1000000 0, ⟨0, true, true, false, ofBytes p⟩)]⟩ =
    some (.buf (.r 0) 0 0 (p ++ treeB (l.drop i)).length 1, [(.r 0, ⟨0, true, true, false, ofBytes (p ++ treeB (l.drop i))⟩)]) := by
  intro m
  induction m with
  | zero =>
    intro i p hi hp
    obtain rfl : i = l.length := by omega
    rw [X_in L.ref07_Tree.x0.eq_1, List.drop_length, show treeB [] = [] from rfl, List.append_nil]
    simp (dsimp := false) (disch := first | omega | (simp only [strs_length, List.length_set, List.length_replicate, words_length, ofBytes_length, List.length_append, List.length_cons, List.length_nil, List.length_take, List.length_drop, etys_length, ints64_length] <;> omega) | fail) only [go_sem, reduceIte, reduceCtorEq, Nat.reduceEqDiff, Nat.reduceAdd, Nat.reduceSub, Nat.reduceMul, Nat.reduceDiv, Nat.reduceMod, Nat.reduceBEq, Nat.reduceLeDiff, Nat.reduceLT, Int.reduceEq, Int.reduceNe, Int.reduceLT, Int.reduceLE, Int.reduceBEq, Int.reduceBNe, Int.reduceToNat, Int.reduceAdd, Int.reduceSub, Int.reduceMul, Int.reduceNeg, zer_bytes, app_ofBytes, ofBytes_length, flats_ofBytes, hards_ofBytes, leadss_ofBytes, refsOfs_ofBytes, rens_ofBytes, bytesOf_ofBytes, sub_ofBytes, take_ofBytes, drop_ofBytes, get_ofBytes, over_ofBytes_all, over_ofBytes, ofBytes_snoc, L.ref07_Tree.r0]
  | succ m ih =>
    intro i p hi hp
    have hlt : i < l.length := by omega
    have hf := go_format8 (hm i).1 (hm i).2
    have hol := octT_len (eat l i).mode
    have hnl := hb i
    have hid := (eat l i).hid
    have hpp : p.length ≤ 4096 * (B + 60) := Nat.le_trans hp (Nat.mul_le_mul_right _ (by omega))
    have h1 := ih (i + 1) (p ++ entB (eat l i)) (by omega) (by rw [List.length_append, entB_len, Nat.succ_mul]; omega)
    simp only [Int.natCast_add, Int.cast_ofNat_Int] at h1
    rw [List.append_assoc, ← treeB_cons, ← drop_eat hlt] at h1
    rw [X_in L.ref07_Tree.x0.eq_1, ← h1]
    have e : p ++ entB (eat l i) = p ++ (octT (eat l i).mode ++ [32] ++ (eat l i).name ++ [0]) ++ (eat l i).id := by unfold entB; simp only [List.append_assoc]
    rw [e]
    have hln : (p ++ (octT (eat l i).mode ++ [32] ++ (eat l i).name ++ [0]) ++ (eat l i).id).length = p.length + (octT (eat l i).mode ++ [32] ++ (eat l i).name ++ [0]).length + 32 := by rw [List.length_append, List.length_append, hid]
    simp (dsimp := false) (disch := first | omega | (simp only [strs_length, List.length_set, List.length_replicate, words_length, ofBytes_length, List.length_append, List.length_cons, List.length_nil, List.length_take, List.length_drop, etys_length, ints64_length] <;> omega) | fail) only [go_sem, reduceIte, reduceCtorEq, Nat.reduceEqDiff, Nat.reduceAdd, Nat.reduceSub, Nat.reduceMul, Nat.reduceDiv, Nat.reduceMod, Nat.reduceBEq, Nat.reduceLeDiff, Nat.reduceLT, Int.reduceEq, Int.reduceNe, Int.reduceLT, Int.reduceLE, Int.reduceBEq, Int.reduceBNe, Int.reduceToNat, Int.reduceAdd, Int.reduceSub, Int.reduceMul, Int.reduceNeg, zer_bytes, app_ofBytes, ofBytes_length, flats_ofBytes, hards_ofBytes, leadss_ofBytes, refsOfs_ofBytes, rens_ofBytes, bytesOf_ofBytes, sub_ofBytes, take_ofBytes, drop_ofBytes, get_ofBytes, over_ofBytes_all, over_ofBytes, ofBytes_snoc, hf, ety_id, hid]
    rw [hln]
theorem go_rTree {l : List Ety} {B : Nat} (hb : ∀ i, (eat l i).name.length ≤ B) (hB : B ≤ 1000000000) (hl : l.length ≤ 4096) (hm : ∀ i, -9223372036854775808 ≤ (eat l i).mode ∧ (eat l i).mode ≤ 9223372036854775807) :
    S E F.ref07_Tree [.lst (etys l) l.length] [] = some (.buf (.r 0) 0 0 (treeB l).length 1, [(.r 0, ⟨0, true, true, false, ofBytes (treeB l)⟩)]) := by
  have h := rTree_l0 hb hB hl hm l.length 0 [] (by omega) (by simp)
  simp only [Int.cast_ofNat_Int, List.drop_zero, List.nil_append, List.length_nil] at h
  rw [ofBytes_nil] at h
  rw [S_of fn_ref07_Tree rfl rfl]
  simp (dsimp := false) (disch := first | omega | (simp only [strs_length, List.length_set, List.length_replicate, words_length, ofBytes_length, List.length_append, List.length_cons, List.length_nil, List.length_take, List.length_drop, etys_length, ints64_length] <;> omega) | fail) only [L.ref07_Tree, go_sem, reduceIte, reduceCtorEq, Nat.reduceEqDiff, Nat.reduceAdd, Nat.reduceSub, Nat.reduceMul, Nat.reduceDiv, Nat.reduceMod, Nat.reduceBEq, Nat.reduceLeDiff, Nat.reduceLT, Int.reduceEq, Int.reduceNe, Int.reduceLT, Int.reduceLE, Int.reduceBEq, Int.reduceBNe, Int.reduceToNat, Int.reduceAdd, Int.reduceSub, Int.reduceMul, Int.reduceNeg, zer_bytes, app_ofBytes, ofBytes_length, flats_ofBytes, hards_ofBytes, leadss_ofBytes, refsOfs_ofBytes, rens_ofBytes, bytesOf_ofBytes, sub_ofBytes, take_ofBytes, drop_ofBytes, get_ofBytes, over_ofBytes_all, over_ofBytes, ofBytes_snoc, h]
/-! ### names twice -/
def tw (l : List Ety) : Nat → Nat → Bool
  | 0, _ => false
  | m + 1, i => decide ((eat l i).name ∈ (l.take i).map (·.name)) || tw l m (i + 1)
def twI (l : List Ety) (i : Nat) : Nat → Nat → Bool
  | 0, _ => false
  | m + 1, j => decide ((eat l i).name = (eat l j).name) || twI l i m (j + 1)
theorem take_cons_map {l : List Ety} {i : Nat} (h : i < l.length) : (l.take (i + 1)).map (·.name) = (l.take i).map (·.name) ++ [(eat l i).name] := by
  rw [List.take_succ_eq_append_getElem h, List.map_append]
  simp [eat, List.getD, h]
theorem twI_mem {l : List Ety} {i : Nat} (hi : i ≤ l.length) : ∀ (m j : Nat), j + m = i → (twI l i m j || decide ((eat l i).name ∈ (l.take j).map (·.name))) = decide ((eat l i).name ∈ (l.take i).map (·.name)) := by
  intro m
  induction m with
  | zero => intro j h; obtain rfl : j = i := by omega
            rw [twI, Bool.false_or]
  | succ m ih =>
    intro j h
    rw [← ih (j + 1) (by omega), take_cons_map (by omega), twI]
    cases twI l i m (j + 1)
    · by_cases h1 : (eat l i).name = (eat l j).name <;> by_cases h2 : (eat l i).name ∈ (l.take j).map (·.name) <;> simp [h1, h2] <;> simp_all
    · simp
theorem tw_l1 {l : List Ety} (hl : l.length ≤ 4096) {i : Nat} (hi : i < l.length) : ∀ (m j : Nat), j + m = i →
    X E [.tmp 2] (.c L.ref07_twice.x1 :: .lp [0, 3, 6, 7, 13, 14] L.ref07_twice.x1 :: .blk 2 :: .blk 1 :: .c L.ref07_twice.r0 :: .lp [0, 6, 7] L.ref07_twice.x0 :: .blk 0 :: [.c L.ref07_twice.r1]) ⟨[(0, .lst (etys l) l.length), (3, .int .i64 i), (6, .int .i64 l.length), (7, .int .i64 i), (13, .int .i64 i), (14, .int .i64 j)], []⟩ =
    if twI l i m j = true then some (.bool true, []) else X E [.tmp 2] (.c L.ref07_twice.x0 :: .lp [0, 6, 7] L.ref07_twice.x0 :: .blk 0 :: [.c L.ref07_twice.r1]) ⟨[(0, .lst (etys l) l.length), (6, .int .i64 l.length), (7, .int .i64 ((i + 1 : Nat) : Int))], []⟩ := by
  intro m
  induction m with
  | zero =>
    intro j h
    obtain rfl : j = i := by omega
    rw [X_in L.ref07_twice.x1.eq_1, twI]
    simp (dsimp := false) (disch := first | omega | (simp only [strs_length, List.length_set, List.length_replicate, words_length, ofBytes_length, List.length_append, List.length_cons, List.length_nil, List.length_take, List.length_drop, etys_length, ints64_length] <;> omega) | fail) only [go_sem, reduceIte, reduceCtorEq, Nat.reduceEqDiff, Nat.reduceAdd, Nat.reduceSub, Nat.reduceMul, Nat.reduceDiv, Nat.reduceMod, Nat.reduceBEq, Nat.reduceLeDiff, Nat.reduceLT, Int.reduceEq, Int.reduceNe, Int.reduceLT, Int.reduceLE, Int.reduceBEq, Int.reduceBNe, Int.reduceToNat, Int.reduceAdd, Int.reduceSub, Int.reduceMul, Int.reduceNeg, L.ref07_twice.r0]
    rfl
  | succ m ih =>
    intro j h
    have h1 := ih (j + 1) (by omega)
    simp only [Int.natCast_add, Int.cast_ofNat_Int] at h1
    have g1 : (etys l)[i * 34 + 1]? = some (.str (eat l i).name) := (etys_at hi (by omega)).trans (ety_1 _)
    have g2 : (etys l)[j * 34 + 1]? = some (.str (eat l j).name) := (etys_at (by omega) (by omega)).trans (ety_1 _)
    rw [X_in L.ref07_twice.x1.eq_1, twI]
    by_cases hn : (eat l i).name = (eat l j).name
    · have hb : ((eat l i).name == (eat l j).name) = true := by simp [hn]
      rw [decide_eq_true hn, Bool.true_or, if_pos rfl]
      simp (dsimp := false) (disch := first | omega | (simp only [strs_length, List.length_set, List.length_replicate, words_length, ofBytes_length, List.length_append, List.length_cons, List.length_nil, List.length_take, List.length_drop, etys_length, ints64_length] <;> omega) | fail) only [go_sem, reduceIte, reduceCtorEq, Nat.reduceEqDiff, Nat.reduceAdd, Nat.reduceSub, Nat.reduceMul, Nat.reduceDiv, Nat.reduceMod, Nat.reduceBEq, Nat.reduceLeDiff, Nat.reduceLT, Int.reduceEq, Int.reduceNe, Int.reduceLT, Int.reduceLE, Int.reduceBEq, Int.reduceBNe, Int.reduceToNat, Int.reduceAdd, Int.reduceSub, Int.reduceMul, Int.reduceNeg, g1, g2, hb]
    · have hb : ((eat l i).name == (eat l j).name) = false := by simp [hn]
      rw [decide_eq_false hn, Bool.false_or]
      simp (dsimp := false) (disch := first | omega | (simp only [strs_length, List.length_set, List.length_replicate, words_length, ofBytes_length, List.length_append, List.length_cons, List.length_nil, List.length_take, List.length_drop, etys_length, ints64_length] <;> omega) | fail) only [go_sem, reduceIte, reduceCtorEq, Nat.reduceEqDiff, Nat.reduceAdd, Nat.reduceSub, Nat.reduceMul, Nat.reduceDiv, Nat.reduceMod, Nat.reduceBEq, Nat.reduceLeDiff, Nat.reduceLT, Int.reduceEq, Int.reduceNe, Int.reduceLT, Int.reduceLE, Int.reduceBEq, Int.reduceBNe, Int.reduceToNat, Int.reduceAdd, Int.reduceSub, Int.reduceMul, Int.reduceNeg, g1, g2, hb, h1]
      rfl
theorem tw_l0 {l : List Ety} (hl : l.length ≤ 4096) : ∀ (m i : Nat), i + m = l.length →
    X E [.tmp 2] (.c L.ref07_twice.x0 :: .lp [0, 6, 7] L.ref07_twice.x0 :: .blk 0 :: [.c L.ref07_twice.r1]) ⟨[(0, .lst (etys l) l.length), (6, .int .i64 l.length), (7, .int .i64 i)], []⟩ = some (.bool (tw l m i), []) := by
  intro m
  induction m with
  | zero =>
    intro i h
    obtain rfl : i = l.length := by omega
    rw [X_in L.ref07_twice.x0.eq_1, tw]
    simp (dsimp := false) (disch := first | omega | (simp only [strs_length, List.length_set, List.length_replicate, words_length, ofBytes_length, List.length_append, List.length_cons, List.length_nil, List.length_take, List.length_drop, etys_length, ints64_length] <;> omega) | fail) only [go_sem, reduceIte, reduceCtorEq, Nat.reduceEqDiff, Nat.reduceAdd, Nat.reduceSub, Nat.reduceMul, Nat.reduceDiv, Nat.reduceMod, Nat.reduceBEq, Nat.reduceLeDiff, Nat.reduceLT, Int.reduceEq, Int.reduceNe, Int.reduceLT, Int.reduceLE, Int.reduceBEq, Int.reduceBNe, Int.reduceToNat, Int.reduceAdd, Int.reduceSub, Int.reduceMul, Int.reduceNeg, L.ref07_twice.r1]
  | succ m ih =>
    intro i h
    have h1 := tw_l1 hl (i := i) (by omega) i 0 (by omega)
    have hm := twI_mem (l := l) (i := i) (by omega) i 0 (by omega)
    simp only [Int.cast_ofNat_Int] at h1
    rw [ih (i + 1) (by omega)] at h1
    simp only [List.take_zero, List.map_nil, List.not_mem_nil, decide_false, Bool.or_false] at hm
    rw [X_in L.ref07_twice.x0.eq_1, tw, ← hm]
    simp (dsimp := false) (disch := first | omega | (simp only [strs_length, List.length_set, List.length_replicate, words_length, ofBytes_length, List.length_append, List.length_cons, List.length_nil, List.length_take, List.length_drop, etys_length, ints64_length] <;> omega) | fail) only [go_sem, reduceIte, reduceCtorEq, Nat.reduceEqDiff, Nat.reduceAdd, Nat.reduceSub, Nat.reduceMul, Nat.reduceDiv, Nat.reduceMod, Nat.reduceBEq, Nat.reduceLeDiff, Nat.reduceLT, Int.reduceEq, Int.reduceNe, Int.reduceLT, Int.reduceLE, Int.reduceBEq, Int.reduceBNe, Int.reduceToNat, Int.reduceAdd, Int.reduceSub, Int.reduceMul, Int.reduceNeg, Nat.sub_zero]
    rw [h1]
    cases twI l i i 0 <;> simp
theorem go_twice {l : List Ety} (hl : l.length ≤ 4096) : S E F.ref07_twice [.lst (etys l) l.length] [] = some (.bool (tw l l.length 0), []) := by
  have h := tw_l0 hl l.length 0 (by omega)
  simp only [Int.cast_ofNat_Int] at h
  rw [S_of fn_ref07_twice rfl rfl]
  simp (dsimp := false) (disch := first | omega | (simp only [strs_length, List.length_set, List.length_replicate, words_length, ofBytes_length, List.length_append, List.length_cons, List.length_nil, List.length_take, List.length_drop, etys_length, ints64_length] <;> omega) | fail) only [L.ref07_twice, go_sem, reduceIte, reduceCtorEq, Nat.reduceEqDiff, Nat.reduceAdd, Nat.reduceSub, Nat.reduceMul, Nat.reduceDiv, Nat.reduceMod, Nat.reduceBEq, Nat.reduceLeDiff, Nat.reduceLT, Int.reduceEq, Int.reduceNe, Int.reduceLT, Int.reduceLE, Int.reduceBEq, Int.reduceBNe, Int.reduceToNat, Int.reduceAdd, Int.reduceSub, Int.reduceMul, Int.reduceNeg, h]
/-! ### the error -/
theorem modeOKr (m : Int) : S E F.ref06_Mode [.int .i64 m] [] = some (.bool (modeOK m), []) := by
  rw [S_of fn_ref06_Mode rfl rfl]
  unfold modeOK
  by_cases a : m = 16384
  · simp (dsimp := false) (disch := first | omega | (simp only [strs_length, List.length_set, List.length_replicate, words_length, ofBytes_length, List.length_append, List.length_cons, List.length_nil, List.length_take, List.length_drop, etys_length, ints64_length] <;> omega) | fail) only [L.ref06_Mode, go_sem, reduceIte, reduceCtorEq, Nat.reduceEqDiff, Nat.reduceAdd, Nat.reduceSub, Nat.reduceMul, Nat.reduceDiv, Nat.reduceMod, Nat.reduceBEq, Nat.reduceLeDiff, Nat.reduceLT, Int.reduceEq, Int.reduceNe, Int.reduceLT, Int.reduceLE, Int.reduceBEq, Int.reduceBNe, Int.reduceToNat, Int.reduceAdd, Int.reduceSub, Int.reduceMul, Int.reduceNeg, a]
  · by_cases b : m = 33188
    · simp (dsimp := false) (disch := first | omega | (simp only [strs_length, List.length_set, List.length_replicate, words_length, ofBytes_length, List.length_append, List.length_cons, List.length_nil, List.length_take, List.length_drop, etys_length, ints64_length] <;> omega) | fail) only [L.ref06_Mode, go_sem, reduceIte, reduceCtorEq, Nat.reduceEqDiff, Nat.reduceAdd, Nat.reduceSub, Nat.reduceMul, Nat.reduceDiv, Nat.reduceMod, Nat.reduceBEq, Nat.reduceLeDiff, Nat.reduceLT, Int.reduceEq, Int.reduceNe, Int.reduceLT, Int.reduceLE, Int.reduceBEq, Int.reduceBNe, Int.reduceToNat, Int.reduceAdd, Int.reduceSub, Int.reduceMul, Int.reduceNeg, a, b]
    · by_cases c : m = 33261
      · simp (dsimp := false) (disch := first | omega | (simp only [strs_length, List.length_set, List.length_replicate, words_length, ofBytes_length, List.length_append, List.length_cons, List.length_nil, List.length_take, List.length_drop, etys_length, ints64_length] <;> omega) | fail) only [L.ref06_Mode, go_sem, reduceIte, reduceCtorEq, Nat.reduceEqDiff, Nat.reduceAdd, Nat.reduceSub, Nat.reduceMul, Nat.reduceDiv, Nat.reduceMod, Nat.reduceBEq, Nat.reduceLeDiff, Nat.reduceLT, Int.reduceEq, Int.reduceNe, Int.reduceLT, Int.reduceLE, Int.reduceBEq, Int.reduceBNe, Int.reduceToNat, Int.reduceAdd, Int.reduceSub, Int.reduceMul, Int.reduceNeg, a, b, c]
      · by_cases d : m = 40960
        · simp (dsimp := false) (disch := first | omega | (simp only [strs_length, List.length_set, List.length_replicate, words_length, ofBytes_length, List.length_append, List.length_cons, List.length_nil, List.length_take, List.length_drop, etys_length, ints64_length] <;> omega) | fail) only [L.ref06_Mode, go_sem, reduceIte, reduceCtorEq, Nat.reduceEqDiff, Nat.reduceAdd, Nat.reduceSub, Nat.reduceMul, Nat.reduceDiv, Nat.reduceMod, Nat.reduceBEq, Nat.reduceLeDiff, Nat.reduceLT, Int.reduceEq, Int.reduceNe, Int.reduceLT, Int.reduceLE, Int.reduceBEq, Int.reduceBNe, Int.reduceToNat, Int.reduceAdd, Int.reduceSub, Int.reduceMul, Int.reduceNeg, a, b, c, d]
        · simp (dsimp := false) (disch := first | omega | (simp only [strs_length, List.length_set, List.length_replicate, words_length, ofBytes_length, List.length_append, List.length_cons, List.length_nil, List.length_take, List.length_drop, etys_length, ints64_length] <;> omega) | fail) only [L.ref06_Mode, go_sem, reduceIte, reduceCtorEq, Nat.reduceEqDiff, Nat.reduceAdd, Nat.reduceSub, Nat.reduceMul, Nat.reduceDiv, Nat.reduceMod, Nat.reduceBEq, Nat.reduceLeDiff, Nat.reduceLT, Int.reduceEq, Int.reduceNe, Int.reduceLT, Int.reduceLE, Int.reduceBEq, Int.reduceBNe, Int.reduceToNat, Int.reduceAdd, Int.reduceSub, Int.reduceMul, Int.reduceNeg, a, b, c, d]
def casc (n f d : Bool) : Int := if n then 3 else if f then 4 else if d then 8 else 0
theorem casc_step (n f d a b c g : Bool) : minE [casc n f d, if a then 3 else 0, if b then 4 else 0, if c then 4 else 0, if g then 8 else 0] = casc (n || a) (f || b || c) (d || g) := by
  cases n <;> cases f <;> cases d <;> cases a <;> cases b <;> cases c <;> cases g <;> rfl
def ordB (l : List Ety) (i : Nat) : Bool := decide (0 < i) && decide (0 ≤ cmpB (keyE (eat l (i - 1))) (keyE (eat l i)))
def nmI (l : List Ety) : Nat → Nat → Bool → Bool
  | 0, _, n => n
  | m + 1, i, n => nmI l m (i + 1) (n || !nameOK (eat l i).name)
def fmI (l : List Ety) : Nat → Nat → Bool → Bool
  | 0, _, f => f
  | m + 1, i, f => fmI l m (i + 1) (f || !modeOK (eat l i).mode || ordB l i)
theorem entI_casc (l : List Ety) : ∀ (m i z : Nat) (n f d : Bool), (entI l m i (casc n f d) z).1 = casc (nmI l m i n) (fmI l m i f) (d || tw l m i) := by
  intro m
  induction m with
  | zero => intro i z n f d; rw [entI, nmI, fmI, tw, Bool.or_false]
  | succ m ih =>
    intro i z n f d
    have e : minE [casc n f d, eName (eat l i), eMode (eat l i), eOrd l i, eDup l i] = casc (n || !nameOK (eat l i).name) (f || !modeOK (eat l i).mode || ordB l i) (d || decide ((eat l i).name ∈ (l.take i).map (·.name))) := casc_step _ _ _ _ _ _ _
    rw [entI, e, ih, nmI, fmI, tw]
    simp only [Bool.or_assoc]
def errT (n f d s : Bool) : Int := minE [if n then 3 else 0, if f then 4 else 0, if d then 8 else 0, if s then 2 else 0]
theorem entE_eq (l : List Ety) (h : l.length ≤ 4096) : entE l = errT (nmI l l.length 0 false) (fmI l l.length 0 false) (tw l l.length 0) (decide (1048576 < (treeB l).length)) := by
  have h2 := entI_len l l.length 0 0 0 (by omega)
  have h1 := entI_casc l l.length 0 0 false false false
  rw [show casc false false false = 0 from rfl, Bool.false_or] at h1
  rw [entE, if_neg (by omega), h1, h2, Nat.zero_add, List.drop_zero]
  generalize nmI l l.length 0 false = a
  generalize fmI l l.length 0 false = b
  generalize tw l l.length 0 = c
  generalize decide (1048576 < (treeB l).length) = d
  cases a <;> cases b <;> cases c <;> cases d <;> rfl
theorem if_e (b : Bool) (e : Int) : S E F.ref07_If [.bool b, .int .i64 e] [] = some (.int .i64 (if b then e else 0), []) := go_if
theorem rtree_l0 {l : List Ety} {B : Nat} (hb : ∀ i, (eat l i).name.length ≤ B) (hB : B ≤ 1000000000) (hl : l.length ≤ 4096) (k : List It) : ∀ (m i : Nat) (n f : Bool), i + m = l.length →
    X E [.tmp 2] (.c L.ref07_tree.x0 :: .lp [0, 3, 4, 10, 11, 12] L.ref07_tree.x0 :: .blk 0 :: k) ⟨[(0, .lst (etys l) l.length), (3, .bool n), (4, .bool f), (10, .lst (etys l) l.length), (11, .int .i64 l.length), (12, .int .i64 i)], []⟩ =
    X E [.tmp 2] k ⟨[(0, .lst (etys l) l.length), (3, .bool (nmI l m i n)), (4, .bool (fmI l m i f)), (10, .lst (etys l) l.length), (11, .int .i64 l.length), (12, .int .i64 l.length), (13, .bool false)], []⟩ := by
  intro m
  induction m with
  | zero =>
    intro i n f h
    obtain rfl : i = l.length := by omega
    rw [X_in L.ref07_tree.x0.eq_1, nmI, fmI]
    simp (dsimp := false) (disch := first | omega | (simp only [strs_length, List.length_set, List.length_replicate, words_length, ofBytes_length, List.length_append, List.length_cons, List.length_nil, List.length_take, List.length_drop, etys_length, ints64_length] <;> omega) | fail) only [go_sem, reduceIte, reduceCtorEq, Nat.reduceEqDiff, Nat.reduceAdd, Nat.reduceSub, Nat.reduceMul, Nat.reduceDiv, Nat.reduceMod, Nat.reduceBEq, Nat.reduceLeDiff, Nat.reduceLT, Int.reduceEq, Int.reduceNe, Int.reduceLT, Int.reduceLE, Int.reduceBEq, Int.reduceBNe, Int.reduceToNat, Int.reduceAdd, Int.reduceSub, Int.reduceMul, Int.reduceNeg]
  | succ m ih =>
    intro i n f h
    have hlt : i < l.length := by omega
    have h1 := ih (i + 1) (n || !nameOK (eat l i).name) (f || !modeOK (eat l i).mode || ordB l i) (by omega)
    simp only [Int.natCast_add, Int.cast_ofNat_Int] at h1
    have hnm := go_rname (s := (eat l i).name) (by have := hb i; omega)
    have hmd := modeOKr (eat l i).mode
    have o1 := go_rorder (a := eat l (i - 1)) (b := eat l i) (by have := hb (i - 1); omega) (by have := hb i; omega)
    rw [X_in L.ref07_tree.x0.eq_1, nmI, fmI, ← h1]
    unfold ordB
    by_cases hi : 0 < i
    · have e1 : ((i : Int) - 1).toNat = i - 1 := by omega
      cases n <;> cases f <;> cases hM : modeOK (eat l i).mode <;> simp (dsimp := false) (disch := first | omega | (simp only [strs_length, List.length_set, List.length_replicate, words_length, ofBytes_length, List.length_append, List.length_cons, List.length_nil, List.length_take, List.length_drop, etys_length, ints64_length] <;> omega) | fail) only [go_sem, reduceIte, reduceCtorEq, Nat.reduceEqDiff, Nat.reduceAdd, Nat.reduceSub, Nat.reduceMul, Nat.reduceDiv, Nat.reduceMod, Nat.reduceBEq, Nat.reduceLeDiff, Nat.reduceLT, Int.reduceEq, Int.reduceNe, Int.reduceLT, Int.reduceLE, Int.reduceBEq, Int.reduceBNe, Int.reduceToNat, Int.reduceAdd, Int.reduceSub, Int.reduceMul, Int.reduceNeg, hnm, hmd, o1, hi, e1, hM, decide_true, Bool.true_and, Bool.false_or, Bool.true_or, Bool.not_true, Bool.not_false]
    · cases n <;> cases f <;> cases hM : modeOK (eat l i).mode <;> simp (dsimp := false) (disch := first | omega | (simp only [strs_length, List.length_set, List.length_replicate, words_length, ofBytes_length, List.length_append, List.length_cons, List.length_nil, List.length_take, List.length_drop, etys_length, ints64_length] <;> omega) | fail) only [go_sem, reduceIte, reduceCtorEq, Nat.reduceEqDiff, Nat.reduceAdd, Nat.reduceSub, Nat.reduceMul, Nat.reduceDiv, Nat.reduceMod, Nat.reduceBEq, Nat.reduceLeDiff, Nat.reduceLT, Int.reduceEq, Int.reduceNe, Int.reduceLT, Int.reduceLE, Int.reduceBEq, Int.reduceBNe, Int.reduceToNat, Int.reduceAdd, Int.reduceSub, Int.reduceMul, Int.reduceNeg, hnm, hmd, hi, hM, decide_false, Bool.false_and, Bool.false_or, Bool.true_or, Bool.or_false, Bool.not_true, Bool.not_false]
theorem go_rtree {l : List Ety} {B : Nat} (hb : ∀ i, (eat l i).name.length ≤ B) (hB : B ≤ 1000000000) (hm : ∀ i, -9223372036854775808 ≤ (eat l i).mode ∧ (eat l i).mode ≤ 9223372036854775807) (hl : l.length ≤ 1000000000) :
    S E F.ref07_tree [.lst (etys l) l.length] [] = some (.int .i64 (entE l), []) := by
  rw [S_of fn_ref07_tree rfl rfl]
  by_cases hlen : 4096 < l.length
  · rw [entE, if_pos hlen]
    simp (dsimp := false) (disch := first | omega | (simp only [strs_length, List.length_set, List.length_replicate, words_length, ofBytes_length, List.length_append, List.length_cons, List.length_nil, List.length_take, List.length_drop, etys_length, ints64_length] <;> omega) | fail) only [L.ref07_tree, go_sem, reduceIte, reduceCtorEq, Nat.reduceEqDiff, Nat.reduceAdd, Nat.reduceSub, Nat.reduceMul, Nat.reduceDiv, Nat.reduceMod, Nat.reduceBEq, Nat.reduceLeDiff, Nat.reduceLT, Int.reduceEq, Int.reduceNe, Int.reduceLT, Int.reduceLE, Int.reduceBEq, Int.reduceBNe, Int.reduceToNat, Int.reduceAdd, Int.reduceSub, Int.reduceMul, Int.reduceNeg, hlen]
  · have h := rtree_l0 hb hB (by omega) [.c L.ref07_tree.r0] l.length 0 false false (by omega)
    have ht := go_twice (l := l) (by omega)
    have hT := go_rTree hb hB (by omega) hm
    have hle := treeB_le hb
    have hle2 : (treeB l).length ≤ 4096 * (B + 60) := Nat.le_trans hle (Nat.mul_le_mul_right _ (by omega))
    have hL := go_rleast (l := [if nmI l l.length 0 false then 3 else 0, if fmI l l.length 0 false then 4 else 0, if tw l l.length 0 then 8 else 0, if decide (1048576 < (treeB l).length) then 2 else 0]) (by simp)
    simp only [ints64, List.map_cons, List.map_nil, List.length_cons, List.length_nil] at hL
    rw [show minE [if nmI l l.length 0 false then 3 else 0, if fmI l l.length 0 false then 4 else 0, if tw l l.length 0 then 8 else 0, if decide (1048576 < (treeB l).length) then 2 else 0] = entE l from (entE_eq l (by omega)).symm] at hL
    simp only [Int.cast_ofNat_Int] at h
    have q1 := if_e (nmI l l.length 0 false) 3
    have q2 := if_e (fmI l l.length 0 false) 4
    have q3 := if_e (tw l l.length 0) 8
    have q4 : S E F.ref07_If [.bool (decide (1048576 < ((treeB l).length : Int))), .int .i64 2] [] = some (.int .i64 (if decide (1048576 < (treeB l).length) then 2 else 0), []) := by
      rw [show decide (1048576 < ((treeB l).length : Int)) = decide (1048576 < (treeB l).length) from decide_eq_decide.2 (by omega)]; exact if_e _ _
    simp (dsimp := false) (disch := first | omega | (simp only [strs_length, List.length_set, List.length_replicate, words_length, ofBytes_length, List.length_append, List.length_cons, List.length_nil, List.length_take, List.length_drop, etys_length, ints64_length] <;> omega) | fail) only [L.ref07_tree, go_sem, reduceIte, reduceCtorEq, Nat.reduceEqDiff, Nat.reduceAdd, Nat.reduceSub, Nat.reduceMul, Nat.reduceDiv, Nat.reduceMod, Nat.reduceBEq, Nat.reduceLeDiff, Nat.reduceLT, Int.reduceEq, Int.reduceNe, Int.reduceLT, Int.reduceLE, Int.reduceBEq, Int.reduceBNe, Int.reduceToNat, Int.reduceAdd, Int.reduceSub, Int.reduceMul, Int.reduceNeg, hlen]
    rw [h]
    generalize nmI l l.length 0 false = a1 at *
    generalize fmI l l.length 0 false = a2 at *
    generalize tw l l.length 0 = a3 at *
    generalize (if a1 = true then (3 : Int) else 0) = b1 at *
    generalize (if a2 = true then (4 : Int) else 0) = b2 at *
    generalize (if a3 = true then (8 : Int) else 0) = b3 at *
    generalize (if decide (1048576 < (treeB l).length) = true then (2 : Int) else 0) = b4 at *
    simp (dsimp := false) (disch := first | omega | (simp only [strs_length, List.length_set, List.length_replicate, words_length, ofBytes_length, List.length_append, List.length_cons, List.length_nil, List.length_take, List.length_drop, etys_length, ints64_length] <;> omega) | fail) only [L.ref07_tree.r0, go_sem, reduceIte, reduceCtorEq, Nat.reduceEqDiff, Nat.reduceAdd, Nat.reduceSub, Nat.reduceMul, Nat.reduceDiv, Nat.reduceMod, Nat.reduceBEq, Nat.reduceLeDiff, Nat.reduceLT, Int.reduceEq, Int.reduceNe, Int.reduceLT, Int.reduceLE, Int.reduceBEq, Int.reduceBNe, Int.reduceToNat, Int.reduceAdd, Int.reduceSub, Int.reduceMul, Int.reduceNeg, zer_bytes, app_ofBytes, ofBytes_length, flats_ofBytes, hards_ofBytes, leadss_ofBytes, refsOfs_ofBytes, rens_ofBytes, bytesOf_ofBytes, sub_ofBytes, take_ofBytes, drop_ofBytes, get_ofBytes, over_ofBytes_all, over_ofBytes, ofBytes_snoc, q1, q2, q3, q4, ht, hT, hL]
end Cod


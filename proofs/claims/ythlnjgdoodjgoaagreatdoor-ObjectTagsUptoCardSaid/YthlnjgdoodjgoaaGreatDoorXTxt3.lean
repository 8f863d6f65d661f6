/- SHA-256: padding and sums, the program's. -/
import Derived.KernelRfl
import Derived.Lib.ItoaLen
import Derived.Test.YthlnjgdoodjgoaaGreatDoorXTxt2
import Derived.Test.YthlnjgdoodjgoaaGreatDoorXTxt1
set_option linter.unusedSimpArgs false
set_option linter.unusedVariables false
namespace Cod
open Go
def h0w : List (BitVec 32) := [0x6a09e667, 0xbb67ae85, 0x3c6ef372, 0xa54ff53a, 0x510e527f, 0x9b05688c, 0x1f83d9ab, 0x5be0cd19]
def blocksN : Nat → List (BitVec 32) → List UInt8 → List (BitVec 32)
  | 0, h, _ => h
  | m + 1, h, l => blocksN m (blockF h (l.take 64)) (l.drop 64)
def be8 (v : Nat) : List UInt8 := [UInt8.ofNat (v / 2 ^ 56 % 256), UInt8.ofNat (v / 2 ^ 48 % 256), UInt8.ofNat (v / 2 ^ 40 % 256), UInt8.ofNat (v / 2 ^ 32 % 256), UInt8.ofNat (v / 2 ^ 24 % 256), UInt8.ofNat (v / 2 ^ 16 % 256), UInt8.ofNat (v / 2 ^ 8 % 256), UInt8.ofNat (v / 2 ^ 0 % 256)]
def padF (n : Nat) : List UInt8 := 128 :: (List.replicate ((119 - n % 64) % 64) 0 ++ be8 (8 * n))
def idOf (h : List (BitVec 32)) : List UInt8 := (List.range 32).map fun i => wb (h.getD (i / 4) 0 >>> (24 - 8 * (i % 4)))
def shaF (p : List UInt8) : List UInt8 :=
  idOf (blocksN ((p.drop (p.length / 64 * 64) ++ padF p.length).length / 64) (blocksN (p.length / 64) h0w p) (p.drop (p.length / 64 * 64) ++ padF p.length))
theorem blocksN_length : ∀ (m : Nat) (h : List (BitVec 32)) (l : List UInt8), h.length = 8 → (blocksN m h l).length = 8 := by
  intro m
  induction m with
  | zero => intro h l hh; exact hh
  | succ m ih => intro h l _; exact ih _ _ (blockF_length _ _)
def padSet (n : Nat) : Nat → Nat → List UInt8 → List UInt8
  | 0, _, l => l
  | m + 1, i, l => padSet n m (i + 1) (l.set (l.length - 1 - i) (UInt8.ofNat (8 * n / 2 ^ (8 * i) % 256)))
theorem pad_l0 {n : Nat} (hn : n ≤ 1000000000000) (k : List It) : ∀ (m i : Nat) (l : List UInt8), i + m = 8 → 8 ≤ l.length → l.length ≤ 100 →
    X E [.tmp 2] (.c L.sha_Pad.x0 :: .lp [0, 3, 16] L.sha_Pad.x0 :: .blk 0 :: k) ⟨[(0, .int .i64 n), (3, .buf (.s 1000000 0) 0 0 (l).length 1), (16, .int .i64 i)], [(.s 1000000 0, ⟨0, true, true, false, ofBytes l⟩)]⟩ = X E [.tmp 2] k ⟨[(0, .int .i64 n), (3, .buf (.s 1000000 0) 0 0 ((padSet n m i l)).length 1), (16, .int .i64 8), (17, .bool false)], [(.s 1000000 0, ⟨0, true, true, false, ofBytes (padSet n m i l)⟩)]⟩ := by
  intro m
  induction m with
  | zero =>
    intro i l h1 h2 h3
    obtain rfl : i = 8 := by omega
    rw [X_in L.sha_Pad.x0.eq_1]
    simp (dsimp := false) (disch := first | omega | (simp only [LENs] <;> omega) | fail) only [go_sem, reduceIte, reduceCtorEq, Nat.reduceEqDiff, Nat.reduceAdd, Nat.reduceSub, Nat.reduceMul, Nat.reduceDiv, Nat.reduceMod, Nat.reduceBEq, Nat.reduceLeDiff, Nat.reduceLT, Int.reduceEq, Int.reduceNe, Int.reduceLT, Int.reduceLE, Int.reduceBEq, Int.reduceBNe, Int.reduceToNat, Int.reduceAdd, Int.reduceSub, Int.reduceMul, Int.reduceNeg, sub_take, take_len, sub_drop, BYs, padSet, Int.cast_ofNat_Int]
  | succ m ih =>
    intro i l h1 h2 h3
    have e0 : ((l.length : Int) - 1 - i).toNat = l.length - 1 - i := by omega
    have e1 : ishr .u64 (ishl .u64 (n : Int) 3) (8 * (i : Int)) = ((8 * n / 2 ^ (8 * i) : Nat) : Int) := by
      rw [show (8 * (i : Int)) = ((8 * i : Nat) : Int) by omega, ishr_any (by simp [IntKind.bits]; omega), show (3 : Int) = ((3 : Nat) : Int) from rfl, ishl_u64 (by omega), Int.natCast_ediv, Int.natCast_pow]
      congr 1
      omega
    have e2 : ((8 * n / 2 ^ (8 * i) : Nat) : Int) % 256 = ((8 * n / 2 ^ (8 * i) % 256 : Nat) : Int) := by omega
    have e3 : (((8 * n / 2 ^ (8 * i) % 256 : Nat) : Int)).toNat = 8 * n / 2 ^ (8 * i) % 256 := by omega
    rw [X_in L.sha_Pad.x0.eq_1]
    simp (dsimp := false) (disch := first | omega | (simp only [LENs] <;> omega) | fail) only [go_sem, reduceIte, reduceCtorEq, Nat.reduceEqDiff, Nat.reduceAdd, Nat.reduceSub, Nat.reduceMul, Nat.reduceDiv, Nat.reduceMod, Nat.reduceBEq, Nat.reduceLeDiff, Nat.reduceLT, Int.reduceEq, Int.reduceNe, Int.reduceLT, Int.reduceLE, Int.reduceBEq, Int.reduceBNe, Int.reduceToNat, Int.reduceAdd, Int.reduceSub, Int.reduceMul, Int.reduceNeg, sub_take, take_len, sub_drop, BYs, padSet, e0, e1, e2, e3]
    have := ih (i + 1) (l.set (l.length - 1 - i) (UInt8.ofNat (8 * n / 2 ^ (8 * i) % 256))) (by omega) (by simpa using h2) (by simpa using h3)
    simp only [Int.natCast_add, Int.cast_ofNat_Int, List.length_set] at this
    exact this
theorem padSet_pad (n z : Nat) (a : List UInt8) : padSet n 8 0 (a ++ List.replicate 8 0) = a ++ be8 (8 * n) := by
  have key : ∀ (i : Nat) (x : UInt8) (t : List UInt8), t.length = 8 → i < 8 → (a ++ t).set ((a ++ t).length - 1 - i) x = a ++ t.set (7 - i) x := by
    intro i x t ht hi
    rw [List.length_append, ht, List.set_append, if_neg (by omega)]
    congr 2
    omega
  simp only [padSet]
  rw [key 0 _ _ (by simp) (by omega), key 1 _ _ (by simp) (by omega), key 2 _ _ (by simp) (by omega), key 3 _ _ (by simp) (by omega), key 4 _ _ (by simp) (by omega), key 5 _ _ (by simp) (by omega), key 6 _ _ (by simp) (by omega), key 7 _ _ (by simp) (by omega)]
  rfl
theorem rep_zero (m : Nat) : rep [AV.int .u8 0] m = ofBytes (List.replicate m 0) := by
  induction m with
  | zero => rfl
  | succ m ih => rw [rep, ih]; rfl
theorem go_pad {n : Nat} (h1 : n ≤ 1000000000000) : S E F.sha_Pad [.int .i64 n] [] = some (.buf (.r 0) 0 0 (padF n).length 1, [(.r 0, ⟨0, true, true, false, ofBytes (padF n)⟩)]) := by
  have hm3 : (1 + (119 - (n : Int) % 64) % 64 + 8).toNat = (119 - n % 64) % 64 + 9 := by omega
  have hlt : (119 - n % 64) % 64 < 64 := by omega
  have hr : List.replicate ((119 - n % 64) % 64 + 9) (0 : UInt8) = 0 :: (List.replicate ((119 - n % 64) % 64) 0 ++ List.replicate 8 0) := by
    rw [List.replicate_append_replicate]; rfl
  have hn0 : ¬ (n : Int) < 0 := by omega
  generalize hz : (119 - n % 64) % 64 = z at *
  have hl := pad_l0 h1 [.c L.sha_Pad.r0] 8 0 (128 :: (List.replicate z 0 ++ List.replicate 8 0)) (by omega) (by simp) (by simp; omega)
  have hp : padSet n 8 0 (128 :: (List.replicate z 0 ++ List.replicate 8 0)) = padF n := by
    have := padSet_pad n z (128 :: List.replicate z 0)
    rw [List.cons_append] at this
    rw [this, padF, hz]; rfl
  rw [hp] at hl
  have hlen : (padF n).length = z + 9 := by rw [padF, hz]; simp [be8]
  simp only [Int.cast_ofNat_Int] at hl
  rw [S_of fn_sha_Pad rfl rfl]
  simp (dsimp := false) (disch := first | omega | (simp only [LENs] <;> omega) | fail) only [L.sha_Pad, go_sem, reduceIte, reduceCtorEq, Nat.reduceEqDiff, Nat.reduceAdd, Nat.reduceSub, Nat.reduceMul, Nat.reduceDiv, Nat.reduceMod, Nat.reduceBEq, Nat.reduceLeDiff, Nat.reduceLT, Int.reduceEq, Int.reduceNe, Int.reduceLT, Int.reduceLE, Int.reduceBEq, Int.reduceBNe, Int.reduceToNat, Int.reduceAdd, Int.reduceSub, Int.reduceMul, Int.reduceNeg, sub_take, take_len, sub_drop, BYs, hn0, hm3, rep_zero, hr, List.set_cons_zero, Int.toNat_zero, UInt8.reduceOfNat]
  have hb : (128 :: (List.replicate z 0 ++ List.replicate 8 (0 : UInt8))).length = z + 9 := by simp
  rw [hb] at hl
  rw [hl]
  simp (dsimp := false) (disch := first | omega | (simp only [LENs] <;> omega) | fail) only [L.sha_Pad.r0, go_sem, reduceIte, reduceCtorEq, Nat.reduceEqDiff, Nat.reduceAdd, Nat.reduceSub, Nat.reduceMul, Nat.reduceDiv, Nat.reduceMod, Nat.reduceBEq, Nat.reduceLeDiff, Nat.reduceLT, Int.reduceEq, Int.reduceNe, Int.reduceLT, Int.reduceLE, Int.reduceBEq, Int.reduceBNe, Int.reduceToNat, Int.reduceAdd, Int.reduceSub, Int.reduceMul, Int.reduceNeg, sub_take, take_len, sub_drop, BYs, hlen]
theorem sum_l0 {p : List UInt8} (k : List It) : ∀ (m : Nat) (r : List UInt8) (n : Nat) (h : List (BitVec 32)), n = r.length → n / 64 = m → n ≤ 1000000000000 → h.length = 8 →
    X E [.cell 2 (some 32)] (.c L.sha_Sum.x0 :: .lp [0, 2, 3, 4] L.sha_Sum.x0 :: .blk 0 :: k) ⟨[(0, .lst (ofBytes p) p.length), (2, .ref (.s 1000000 0) 0 0), (3, .ref (.s 1000000 1) 0 0), (4, .lst (ofBytes r) n)], [(.s 1000000 0, ⟨0, true, true, true, ofBytes (List.replicate 32 0)⟩), (.s 1000000 1, ⟨0, true, true, true, words h⟩)]⟩ =
    X E [.cell 2 (some 32)] k ⟨[(0, .lst (ofBytes p) p.length), (2, .ref (.s 1000000 0) 0 0), (3, .ref (.s 1000000 1) 0 0), (4, .lst (ofBytes (r.drop (64 * m))) (n - 64 * m)), (13, .bool false)], [(.s 1000000 0, ⟨0, true, true, true, ofBytes (List.replicate 32 0)⟩), (.s 1000000 1, ⟨0, true, true, true, words (blocksN m h r)⟩)]⟩ := by
  intro m
  induction m with
  | zero =>
    intro r n h h1 h2 h3 h4
    rw [X_in L.sha_Sum.x0.eq_1]
    simp (dsimp := false) (disch := first | omega | (simp only [LENs] <;> omega) | fail) only [go_sem, reduceIte, reduceCtorEq, Nat.reduceEqDiff, Nat.reduceAdd, Nat.reduceSub, Nat.reduceMul, Nat.reduceDiv, Nat.reduceMod, Nat.reduceBEq, Nat.reduceLeDiff, Nat.reduceLT, Int.reduceEq, Int.reduceNe, Int.reduceLT, Int.reduceLE, Int.reduceBEq, Int.reduceBNe, Int.reduceToNat, Int.reduceAdd, Int.reduceSub, Int.reduceMul, Int.reduceNeg, sub_take, take_len, sub_drop, BYs, WDs, blocksN, List.drop_zero, Nat.sub_zero, Nat.mul_zero]
  | succ m ih =>
    intro r n h h1 h2 h3 h4
    have hb : (r.take 64).length = 64 := by rw [List.length_take]; omega
    have hbl := blockF_length h (r.take 64)
    rw [X_in L.sha_Sum.x0.eq_1]
    simp (dsimp := false) (disch := first | omega | (simp only [LENs] <;> omega) | fail) only [go_sem, reduceIte, reduceCtorEq, Nat.reduceEqDiff, Nat.reduceAdd, Nat.reduceSub, Nat.reduceMul, Nat.reduceDiv, Nat.reduceMod, Nat.reduceBEq, Nat.reduceLeDiff, Nat.reduceLT, Int.reduceEq, Int.reduceNe, Int.reduceLT, Int.reduceLE, Int.reduceBEq, Int.reduceBNe, Int.reduceToNat, Int.reduceAdd, Int.reduceSub, Int.reduceMul, Int.reduceNeg, sub_take, take_len, sub_drop, BYs, WDs, blocksN, go_block h4 hb]
    have := ih (r.drop 64) (n - 64) (blockF h (r.take 64)) (by simp [h1]) (by omega) (by omega) (blockF_length _ _)
    rw [List.drop_drop, show 64 + 64 * m = 64 * (m + 1) by omega, show n - 64 - 64 * m = n - 64 * (m + 1) by omega] at this
    exact this
theorem sum_l1 {full : List UInt8} (hf : full.length ≤ 1000000000100) (k : List It) : ∀ (m off n : Nat) (h : List (BitVec 32)), off + n = full.length → n / 64 = m → h.length = 8 →
    X E [.cell 2 (some 32)] (.c L.sha_Sum.x1 :: .lp [2, 3, 4] L.sha_Sum.x1 :: .blk 2 :: k) ⟨[(2, .ref (.s 1000000 0) 0 0), (3, .ref (.s 1000000 1) 0 0), (4, .buf (.s 1000000 2) 0 off n 1)], [(.s 1000000 0, ⟨0, true, true, true, ofBytes (List.replicate 32 0)⟩), (.s 1000000 1, ⟨0, true, true, true, words h⟩), (.s 1000000 2, ⟨0, true, true, false, ofBytes full⟩)]⟩ =
    X E [.cell 2 (some 32)] k ⟨[(2, .ref (.s 1000000 0) 0 0), (3, .ref (.s 1000000 1) 0 0), (4, .buf (.s 1000000 2) 0 (off + 64 * m) (n - 64 * m) 1), (29, .bool false)], [(.s 1000000 0, ⟨0, true, true, true, ofBytes (List.replicate 32 0)⟩), (.s 1000000 1, ⟨0, true, true, true, words (blocksN m h (full.drop off))⟩), (.s 1000000 2, ⟨0, true, true, false, ofBytes full⟩)]⟩ := by
  intro m
  induction m with
  | zero =>
    intro off n h h1 h2 h4
    rw [X_in L.sha_Sum.x1.eq_1]
    simp (dsimp := false) (disch := first | omega | (simp only [LENs] <;> omega) | fail) only [go_sem, reduceIte, reduceCtorEq, Nat.reduceEqDiff, Nat.reduceAdd, Nat.reduceSub, Nat.reduceMul, Nat.reduceDiv, Nat.reduceMod, Nat.reduceBEq, Nat.reduceLeDiff, Nat.reduceLT, Int.reduceEq, Int.reduceNe, Int.reduceLT, Int.reduceLE, Int.reduceBEq, Int.reduceBNe, Int.reduceToNat, Int.reduceAdd, Int.reduceSub, Int.reduceMul, Int.reduceNeg, sub_take, take_len, sub_drop, BYs, WDs, blocksN, List.drop_zero, Nat.sub_zero, Nat.mul_zero]
  | succ m ih =>
    intro off n h h1 h2 h4
    have hb : ((full.drop off).take 64).length = 64 := by rw [List.length_take, List.length_drop]; omega
    have hbl := blockF_length h ((full.drop off).take 64)
    have hs : sub full off 64 = (full.drop off).take 64 := rfl
    rw [X_in L.sha_Sum.x1.eq_1]
    simp (dsimp := false) (disch := first | omega | (simp only [LENs] <;> omega) | fail) only [go_sem, reduceIte, reduceCtorEq, Nat.reduceEqDiff, Nat.reduceAdd, Nat.reduceSub, Nat.reduceMul, Nat.reduceDiv, Nat.reduceMod, Nat.reduceBEq, Nat.reduceLeDiff, Nat.reduceLT, Int.reduceEq, Int.reduceNe, Int.reduceLT, Int.reduceLE, Int.reduceBEq, Int.reduceBNe, Int.reduceToNat, Int.reduceAdd, Int.reduceSub, Int.reduceMul, Int.reduceNeg, sub_take, take_len, sub_drop, BYs, WDs, blocksN, hs, go_block h4 hb]
    have := ih (off + 64) (n - 64) (blockF h ((full.drop off).take 64)) (by omega) (by omega) (blockF_length _ _)
    rw [show off + 64 + 64 * m = off + 64 * (m + 1) by omega, show n - 64 - 64 * m = n - 64 * (m + 1) by omega, ← List.drop_drop] at this
    exact this
def idSet1 (x : BitVec 32) (i : Nat) : Nat → Nat → List UInt8 → List UInt8
  | 0, _, l => l
  | m + 1, j, l => idSet1 x i m (j + 1) (l.set (4 * i + j) (wb (x >>> (24 - 8 * j))))
def idSet (h : List (BitVec 32)) : Nat → Nat → List UInt8 → List UInt8
  | 0, _, l => l
  | m + 1, i, l => idSet h m (i + 1) (idSet1 (h.getD i 0) i 4 0 l)
theorem idSet1_length (x : BitVec 32) (i : Nat) : ∀ m j l, (idSet1 x i m j l).length = l.length := by
  intro m
  induction m with
  | zero => intro j l; rfl
  | succ m ih => intro j l; simp [idSet1, ih]
theorem sum_l3 {h : List (BitVec 32)} {x : BitVec 32} {i : Nat} (hi : i < 8) (k : List It) : ∀ (m j : Nat) (l : List UInt8), j + m = 4 → l.length = 32 →
    X E [.cell 2 (some 32)] (.c L.sha_Sum.x3 :: .lp [2, 5, 6, 7, 37, 38, 42] L.sha_Sum.x3 :: .blk 6 :: k) ⟨[(2, .ref (.s 1000000 0) 0 0), (5, .ref (.s 1000000 1) 0 0), (6, .int .i64 i), (7, W x), (37, .agg (words h)), (38, .int .i64 i), (42, .int .i64 j)], [(.s 1000000 0, ⟨0, true, true, true, ofBytes (List.replicate 32 0)⟩), (.s 1000000 1, ⟨0, true, true, true, ofBytes l⟩)]⟩ =
    X E [.cell 2 (some 32)] k ⟨[(2, .ref (.s 1000000 0) 0 0), (5, .ref (.s 1000000 1) 0 0), (6, .int .i64 i), (7, W x), (37, .agg (words h)), (38, .int .i64 i), (42, .int .i64 4), (43, .bool false)], [(.s 1000000 0, ⟨0, true, true, true, ofBytes (List.replicate 32 0)⟩), (.s 1000000 1, ⟨0, true, true, true, ofBytes (idSet1 x i m j l)⟩)]⟩ := by
  intro m
  induction m with
  | zero =>
    intro j l h1 h2
    obtain rfl : j = 4 := by omega
    rw [X_in L.sha_Sum.x3.eq_1]
    simp (dsimp := false) (disch := first | omega | (simp only [LENs] <;> omega) | fail) only [go_sem, reduceIte, reduceCtorEq, Nat.reduceEqDiff, Nat.reduceAdd, Nat.reduceSub, Nat.reduceMul, Nat.reduceDiv, Nat.reduceMod, Nat.reduceBEq, Nat.reduceLeDiff, Nat.reduceLT, Int.reduceEq, Int.reduceNe, Int.reduceLT, Int.reduceLE, Int.reduceBEq, Int.reduceBNe, Int.reduceToNat, Int.reduceAdd, Int.reduceSub, Int.reduceMul, Int.reduceNeg, sub_take, take_len, sub_drop, BYs, WDs, idSet1, Int.cast_ofNat_Int]
  | succ m ih =>
    intro j l h1 h2
    have e0 : (4 * (i : Int) + j).toNat = 4 * i + j := by omega
    have e1 : (24 - 8 * (j : Int)).toNat = 24 - 8 * j := by omega
    have hw := (wb (x >>> (24 - 8 * j))).toNat_lt
    have e2 : UInt8.ofNat (wb (x >>> (24 - 8 * j))).toNat = wb (x >>> (24 - 8 * j)) := UInt8.ofNat_toNat
    rw [X_in L.sha_Sum.x3.eq_1]
    simp (dsimp := false) (disch := first | omega | (simp only [LENs] <;> omega) | fail) only [go_sem, reduceIte, reduceCtorEq, Nat.reduceEqDiff, Nat.reduceAdd, Nat.reduceSub, Nat.reduceMul, Nat.reduceDiv, Nat.reduceMod, Nat.reduceBEq, Nat.reduceLeDiff, Nat.reduceLT, Int.reduceEq, Int.reduceNe, Int.reduceLT, Int.reduceLE, Int.reduceBEq, Int.reduceBNe, Int.reduceToNat, Int.reduceAdd, Int.reduceSub, Int.reduceMul, Int.reduceNeg, sub_take, take_len, sub_drop, BYs, WDs, idSet1, e0, e1, e2]
    have := ih (j + 1) (l.set (4 * i + j) (wb (x >>> (24 - 8 * j)))) (by omega) (by simpa using h2)
    simp only [Int.natCast_add, Int.cast_ofNat_Int] at this
    exact this
theorem sum_l2 {h : List (BitVec 32)} (hh : h.length = 8) (k : List It) : ∀ (m i : Nat) (l : List UInt8), i + m = 8 → l.length = 32 →
    X E [.cell 2 (some 32)] (.c L.sha_Sum.x2 :: .lp [2, 5, 37, 38] L.sha_Sum.x2 :: .blk 4 :: k) ⟨[(2, .ref (.s 1000000 0) 0 0), (5, .ref (.s 1000000 1) 0 0), (37, .agg (words h)), (38, .int .i64 i)], [(.s 1000000 0, ⟨0, true, true, true, ofBytes (List.replicate 32 0)⟩), (.s 1000000 1, ⟨0, true, true, true, ofBytes l⟩)]⟩ =
    X E [.cell 2 (some 32)] k ⟨[(2, .ref (.s 1000000 0) 0 0), (5, .ref (.s 1000000 1) 0 0), (37, .agg (words h)), (38, .int .i64 8), (39, .bool false)], [(.s 1000000 0, ⟨0, true, true, true, ofBytes (List.replicate 32 0)⟩), (.s 1000000 1, ⟨0, true, true, true, ofBytes (idSet h m i l)⟩)]⟩ := by
  intro m
  induction m with
  | zero =>
    intro i l h1 h2
    obtain rfl : i = 8 := by omega
    rw [X_in L.sha_Sum.x2.eq_1]
    simp (dsimp := false) (disch := first | omega | (simp only [LENs] <;> omega) | fail) only [go_sem, reduceIte, reduceCtorEq, Nat.reduceEqDiff, Nat.reduceAdd, Nat.reduceSub, Nat.reduceMul, Nat.reduceDiv, Nat.reduceMod, Nat.reduceBEq, Nat.reduceLeDiff, Nat.reduceLT, Int.reduceEq, Int.reduceNe, Int.reduceLT, Int.reduceLE, Int.reduceBEq, Int.reduceBNe, Int.reduceToNat, Int.reduceAdd, Int.reduceSub, Int.reduceMul, Int.reduceNeg, sub_take, take_len, sub_drop, BYs, WDs, idSet, Int.cast_ofNat_Int]
  | succ m ih =>
    intro i l h1 h2
    rw [X_in L.sha_Sum.x2.eq_1]
    simp (dsimp := false) (disch := first | omega | (simp only [LENs] <;> omega) | fail) only [go_sem, reduceIte, reduceCtorEq, Nat.reduceEqDiff, Nat.reduceAdd, Nat.reduceSub, Nat.reduceMul, Nat.reduceDiv, Nat.reduceMod, Nat.reduceBEq, Nat.reduceLeDiff, Nat.reduceLT, Int.reduceEq, Int.reduceNe, Int.reduceLT, Int.reduceLE, Int.reduceBEq, Int.reduceBNe, Int.reduceToNat, Int.reduceAdd, Int.reduceSub, Int.reduceMul, Int.reduceNeg, sub_take, take_len, sub_drop, BYs, WDs, idSet]
    have h3 := sum_l3 (h := h) (x := h.getD i 0) (i := i) (by omega) (.blk 5 :: .c L.sha_Sum.r2 :: .lp [2, 5, 37, 38] L.sha_Sum.x2 :: .blk 4 :: k) 4 0 l (by omega) h2
    simp only [Int.cast_ofNat_Int] at h3
    rw [h3]
    simp (dsimp := false) (disch := first | omega | (simp only [LENs] <;> omega) | fail) only [L.sha_Sum.r2, go_sem, reduceIte, reduceCtorEq, Nat.reduceEqDiff, Nat.reduceAdd, Nat.reduceSub, Nat.reduceMul, Nat.reduceDiv, Nat.reduceMod, Nat.reduceBEq, Nat.reduceLeDiff, Nat.reduceLT, Int.reduceEq, Int.reduceNe, Int.reduceLT, Int.reduceLE, Int.reduceBEq, Int.reduceBNe, Int.reduceToNat, Int.reduceAdd, Int.reduceSub, Int.reduceMul, Int.reduceNeg, sub_take, take_len, sub_drop, BYs, WDs]
    have := ih (i + 1) (idSet1 (h.getD i 0) i 4 0 l) (by omega) (by rw [idSet1_length]; exact h2)
    simp only [Int.natCast_add, Int.cast_ofNat_Int] at this
    exact this
theorem idSet_id {h : List (BitVec 32)} (hh : h.length = 8) : idSet h 8 0 (List.replicate 32 0) = idOf h := by
  match h, hh with
  | [a, b, c, d, e, f, g, i], _ =>
    show idSet [a, b, c, d, e, f, g, i] 8 0 (List.replicate 32 0) = idOf [a, b, c, d, e, f, g, i]
    kernel_rfl
theorem fill_h0 {sl loc : List (Nat × AV)} : fillO (evR E sl loc) [(0, 1, .k (.int .u32 1779033703)), (1, 1, .k (.int .u32 3144134277)), (2, 1, .k (.int .u32 1013904242)), (3, 1, .k (.int .u32 2773480762)), (4, 1, .k (.int .u32 1359893119)), (5, 1, .k (.int .u32 2600822924)), (6, 1, .k (.int .u32 528734635)), (7, 1, .k (.int .u32 1541459225))] (some (words (List.replicate 8 0))) = some (words h0w) := by kernel_rfl
theorem go_sum {p : List UInt8} (hp : p.length ≤ 1000000000000) : S E F.sha_Sum [.lst (ofBytes p) p.length] [] = some (.agg (ofBytes (shaF p)), []) := by
  have hh0 : h0w.length = 8 := rfl
  have hbl := blocksN_length (p.length / 64) h0w p hh0
  have hpl : (padF p.length).length ≤ 100 := by rw [padF]; simp [be8]; omega
  rw [S_of fn_sha_Sum rfl rfl]
  simp (dsimp := false) (disch := first | omega | (simp only [LENs] <;> omega) | fail) only [↓fill_h0, L.sha_Sum, go_sem, reduceIte, reduceCtorEq, Nat.reduceEqDiff, Nat.reduceAdd, Nat.reduceSub, Nat.reduceMul, Nat.reduceDiv, Nat.reduceMod, Nat.reduceBEq, Nat.reduceLeDiff, Nat.reduceLT, Int.reduceEq, Int.reduceNe, Int.reduceLT, Int.reduceLE, Int.reduceBEq, Int.reduceBNe, Int.reduceToNat, Int.reduceAdd, Int.reduceSub, Int.reduceMul, Int.reduceNeg, sub_take, take_len, sub_drop, WDs, BYs]
  rw [sum_l0 (p := p) [.c L.sha_Sum.r0] (p.length / 64) p p.length h0w rfl rfl hp hh0]
  simp (dsimp := false) (disch := first | omega | (simp only [LENs] <;> omega) | fail) only [L.sha_Sum.r0, go_sem, reduceIte, reduceCtorEq, Nat.reduceEqDiff, Nat.reduceAdd, Nat.reduceSub, Nat.reduceMul, Nat.reduceDiv, Nat.reduceMod, Nat.reduceBEq, Nat.reduceLeDiff, Nat.reduceLT, Int.reduceEq, Int.reduceNe, Int.reduceLT, Int.reduceLE, Int.reduceBEq, Int.reduceBNe, Int.reduceToNat, Int.reduceAdd, Int.reduceSub, Int.reduceMul, Int.reduceNeg, sub_take, take_len, sub_drop, WDs, BYs, S_clone, go_pad hp]
  generalize hfull : p.drop (64 * (p.length / 64)) ++ padF p.length = full
  have hfl : full.length = p.length - 64 * (p.length / 64) + (padF p.length).length := by rw [← hfull]; simp
  have := sum_l1 (full := full) (by omega) [.c L.sha_Sum.r1] (full.length / 64) 0 full.length (blocksN (p.length / 64) h0w p) (by omega) rfl hbl
  simp only [Nat.zero_add, List.drop_zero] at this
  rw [← hfl, this]
  clear this
  have hbl2 := blocksN_length (full.length / 64) (blocksN (p.length / 64) h0w p) full hbl
  simp (dsimp := false) (disch := first | omega | (simp only [LENs] <;> omega) | fail) only [L.sha_Sum.r1, go_sem, reduceIte, reduceCtorEq, Nat.reduceEqDiff, Nat.reduceAdd, Nat.reduceSub, Nat.reduceMul, Nat.reduceDiv, Nat.reduceMod, Nat.reduceBEq, Nat.reduceLeDiff, Nat.reduceLT, Int.reduceEq, Int.reduceNe, Int.reduceLT, Int.reduceLE, Int.reduceBEq, Int.reduceBNe, Int.reduceToNat, Int.reduceAdd, Int.reduceSub, Int.reduceMul, Int.reduceNeg, sub_take, take_len, sub_drop, WDs, BYs]
  have := sum_l2 hbl2 [.c L.sha_Sum.r3] 8 0 (List.replicate 32 0) (by omega) (by simp)
  simp only [Int.cast_ofNat_Int] at this
  rw [this, idSet_id hbl2]
  clear this
  have hid : (idOf (blocksN (full.length / 64) (blocksN (p.length / 64) h0w p) full)).length = 32 := by simp [idOf]
  have hsha : shaF p = idOf (blocksN (full.length / 64) (blocksN (p.length / 64) h0w p) full) := by
    rw [shaF, show p.length / 64 * 64 = 64 * (p.length / 64) by omega, hfull]
  rw [hsha]
  simp (dsimp := false) (disch := first | omega | (simp only [LENs] <;> omega) | fail) only [L.sha_Sum.r3, go_sem, reduceIte, reduceCtorEq, Nat.reduceEqDiff, Nat.reduceAdd, Nat.reduceSub, Nat.reduceMul, Nat.reduceDiv, Nat.reduceMod, Nat.reduceBEq, Nat.reduceLeDiff, Nat.reduceLT, Int.reduceEq, Int.reduceNe, Int.reduceLT, Int.reduceLE, Int.reduceBEq, Int.reduceBNe, Int.reduceToNat, Int.reduceAdd, Int.reduceSub, Int.reduceMul, Int.reduceNeg, sub_take, take_len, sub_drop, WDs, BYs]
end Cod
namespace Cod
open Go
def wordF (k : Int) : List UInt8 := if k = 1 then [99, 111, 109, 109, 105, 116] else if k = 2 then [116, 114, 101, 101] else if k = 3 then [98, 108, 111, 98] else if k = 4 then [116, 97, 103] else []
theorem wordF_len (k : Int) : (wordF k).length ≤ 6 := by unfold wordF; split <;> (try split) <;> (try split) <;> (try split) <;> simp
theorem go_word {k : Int} : S E F.object_word [.int .i64 k] [] = some (.str (wordF k), []) := by
  rw [S_of fn_object_word rfl rfl]
  unfold wordF
  by_cases a : k = 1
  · simp (dsimp := false) (disch := first | omega | (simp only [LENs, ints64_length] <;> omega) | fail) only [L.object_word, go_sem, reduceIte, reduceCtorEq, Nat.reduceEqDiff, Nat.reduceAdd, Nat.reduceSub, Nat.reduceMul, Nat.reduceDiv, Nat.reduceMod, Nat.reduceBEq, Nat.reduceLeDiff, Nat.reduceLT, Int.reduceEq, Int.reduceNe, Int.reduceLT, Int.reduceLE, Int.reduceBEq, Int.reduceBNe, Int.reduceToNat, Int.reduceAdd, Int.reduceSub, Int.reduceMul, Int.reduceNeg, a]
  · by_cases b : k = 2
    · simp (dsimp := false) (disch := first | omega | (simp only [LENs, ints64_length] <;> omega) | fail) only [L.object_word, go_sem, reduceIte, reduceCtorEq, Nat.reduceEqDiff, Nat.reduceAdd, Nat.reduceSub, Nat.reduceMul, Nat.reduceDiv, Nat.reduceMod, Nat.reduceBEq, Nat.reduceLeDiff, Nat.reduceLT, Int.reduceEq, Int.reduceNe, Int.reduceLT, Int.reduceLE, Int.reduceBEq, Int.reduceBNe, Int.reduceToNat, Int.reduceAdd, Int.reduceSub, Int.reduceMul, Int.reduceNeg, a, b]
    · by_cases c : k = 3
      · simp (dsimp := false) (disch := first | omega | (simp only [LENs, ints64_length] <;> omega) | fail) only [L.object_word, go_sem, reduceIte, reduceCtorEq, Nat.reduceEqDiff, Nat.reduceAdd, Nat.reduceSub, Nat.reduceMul, Nat.reduceDiv, Nat.reduceMod, Nat.reduceBEq, Nat.reduceLeDiff, Nat.reduceLT, Int.reduceEq, Int.reduceNe, Int.reduceLT, Int.reduceLE, Int.reduceBEq, Int.reduceBNe, Int.reduceToNat, Int.reduceAdd, Int.reduceSub, Int.reduceMul, Int.reduceNeg, a, b, c]
      · by_cases d : k = 4
        · simp (dsimp := false) (disch := first | omega | (simp only [LENs, ints64_length] <;> omega) | fail) only [L.object_word, go_sem, reduceIte, reduceCtorEq, Nat.reduceEqDiff, Nat.reduceAdd, Nat.reduceSub, Nat.reduceMul, Nat.reduceDiv, Nat.reduceMod, Nat.reduceBEq, Nat.reduceLeDiff, Nat.reduceLT, Int.reduceEq, Int.reduceNe, Int.reduceLT, Int.reduceLE, Int.reduceBEq, Int.reduceBNe, Int.reduceToNat, Int.reduceAdd, Int.reduceSub, Int.reduceMul, Int.reduceNeg, a, b, c, d]
        · simp (dsimp := false) (disch := first | omega | (simp only [LENs, ints64_length] <;> omega) | fail) only [L.object_word, go_sem, reduceIte, reduceCtorEq, Nat.reduceEqDiff, Nat.reduceAdd, Nat.reduceSub, Nat.reduceMul, Nat.reduceDiv, Nat.reduceMod, Nat.reduceBEq, Nat.reduceLeDiff, Nat.reduceLT, Int.reduceEq, Int.reduceNe, Int.reduceLT, Int.reduceLE, Int.reduceBEq, Int.reduceBNe, Int.reduceToNat, Int.reduceAdd, Int.reduceSub, Int.reduceMul, Int.reduceNeg, a, b, c, d]
theorem go_rword {k : Int} : S E F.ref07_Word [.int .i64 k] [] = some (.str (wordF k), []) := by
  rw [S_of fn_ref07_Word rfl rfl]
  unfold wordF
  by_cases a : k = 1
  · simp (dsimp := false) (disch := first | omega | (simp only [LENs, ints64_length] <;> omega) | fail) only [L.ref07_Word, go_sem, reduceIte, reduceCtorEq, Nat.reduceEqDiff, Nat.reduceAdd, Nat.reduceSub, Nat.reduceMul, Nat.reduceDiv, Nat.reduceMod, Nat.reduceBEq, Nat.reduceLeDiff, Nat.reduceLT, Int.reduceEq, Int.reduceNe, Int.reduceLT, Int.reduceLE, Int.reduceBEq, Int.reduceBNe, Int.reduceToNat, Int.reduceAdd, Int.reduceSub, Int.reduceMul, Int.reduceNeg, a]
  · by_cases b : k = 2
    · simp (dsimp := false) (disch := first | omega | (simp only [LENs, ints64_length] <;> omega) | fail) only [L.ref07_Word, go_sem, reduceIte, reduceCtorEq, Nat.reduceEqDiff, Nat.reduceAdd, Nat.reduceSub, Nat.reduceMul, Nat.reduceDiv, Nat.reduceMod, Nat.reduceBEq, Nat.reduceLeDiff, Nat.reduceLT, Int.reduceEq, Int.reduceNe, Int.reduceLT, Int.reduceLE, Int.reduceBEq, Int.reduceBNe, Int.reduceToNat, Int.reduceAdd, Int.reduceSub, Int.reduceMul, Int.reduceNeg, a, b]
    · by_cases c : k = 3
      · simp (dsimp := false) (disch := first | omega | (simp only [LENs, ints64_length] <;> omega) | fail) only [L.ref07_Word, go_sem, reduceIte, reduceCtorEq, Nat.reduceEqDiff, Nat.reduceAdd, Nat.reduceSub, Nat.reduceMul, Nat.reduceDiv, Nat.reduceMod, Nat.reduceBEq, Nat.reduceLeDiff, Nat.reduceLT, Int.reduceEq, Int.reduceNe, Int.reduceLT, Int.reduceLE, Int.reduceBEq, Int.reduceBNe, Int.reduceToNat, Int.reduceAdd, Int.reduceSub, Int.reduceMul, Int.reduceNeg, a, b, c]
      · by_cases d : k = 4
        · simp (dsimp := false) (disch := first | omega | (simp only [LENs, ints64_length] <;> omega) | fail) only [L.ref07_Word, go_sem, reduceIte, reduceCtorEq, Nat.reduceEqDiff, Nat.reduceAdd, Nat.reduceSub, Nat.reduceMul, Nat.reduceDiv, Nat.reduceMod, Nat.reduceBEq, Nat.reduceLeDiff, Nat.reduceLT, Int.reduceEq, Int.reduceNe, Int.reduceLT, Int.reduceLE, Int.reduceBEq, Int.reduceBNe, Int.reduceToNat, Int.reduceAdd, Int.reduceSub, Int.reduceMul, Int.reduceNeg, a, b, c, d]
        · simp (dsimp := false) (disch := first | omega | (simp only [LENs, ints64_length] <;> omega) | fail) only [L.ref07_Word, go_sem, reduceIte, reduceCtorEq, Nat.reduceEqDiff, Nat.reduceAdd, Nat.reduceSub, Nat.reduceMul, Nat.reduceDiv, Nat.reduceMod, Nat.reduceBEq, Nat.reduceLeDiff, Nat.reduceLT, Int.reduceEq, Int.reduceNe, Int.reduceLT, Int.reduceLE, Int.reduceBEq, Int.reduceBNe, Int.reduceToNat, Int.reduceAdd, Int.reduceSub, Int.reduceMul, Int.reduceNeg, a, b, c, d]
theorem go_if {b : Bool} {e : Int} : S E F.ref07_If [.bool b, .int .i64 e] [] = some (.int .i64 (if b then e else 0), []) := by
  rw [S_of fn_ref07_If rfl rfl]
  cases b <;> simp (dsimp := false) (disch := first | omega | (simp only [LENs, ints64_length] <;> omega) | fail) only [L.ref07_If, go_sem, reduceIte, reduceCtorEq, Nat.reduceEqDiff, Nat.reduceAdd, Nat.reduceSub, Nat.reduceMul, Nat.reduceDiv, Nat.reduceMod, Nat.reduceBEq, Nat.reduceLeDiff, Nat.reduceLT, Int.reduceEq, Int.reduceNe, Int.reduceLT, Int.reduceLE, Int.reduceBEq, Int.reduceBNe, Int.reduceToNat, Int.reduceAdd, Int.reduceSub, Int.reduceMul, Int.reduceNeg]
theorem rleast_l0 {l : List Int} (hl : l.length ≤ 1000000) : ∀ (m i : Nat) (w : Int), i + m = l.length →
    X E [.tmp 2] (.c L.ref07_Least.x0 :: .lp [3, 6, 7, 8] L.ref07_Least.x0 :: .blk 0 :: [.c L.ref07_Least.r0]) ⟨[(3, .int .i64 w), (6, .lst (ints64 l) l.length), (7, .int .i64 l.length), (8, .int .i64 i)], []⟩ = some (.int .i64 ((l.drop i).foldl lst2 w), []) := by
  intro m
  induction m with
  | zero =>
    intro i w h
    obtain rfl : i = l.length := by omega
    rw [X_in L.ref07_Least.x0.eq_1, List.drop_length]
    simp (dsimp := false) (disch := first | omega | (simp only [LENs, ints64_length] <;> omega) | fail) only [go_sem, reduceIte, reduceCtorEq, Nat.reduceEqDiff, Nat.reduceAdd, Nat.reduceSub, Nat.reduceMul, Nat.reduceDiv, Nat.reduceMod, Nat.reduceBEq, Nat.reduceLeDiff, Nat.reduceLT, Int.reduceEq, Int.reduceNe, Int.reduceLT, Int.reduceLE, Int.reduceBEq, Int.reduceBNe, Int.reduceToNat, Int.reduceAdd, Int.reduceSub, Int.reduceMul, Int.reduceNeg, L.ref07_Least.r0, flats_i64s, refsOfs_i64s, rens_i64s]
    rfl
  | succ m ih =>
    intro i w h
    have hlt : i < l.length := by omega
    have h1 := ih (i + 1) (lst2 w (l.getD i 0)) (by omega)
    simp only [Int.natCast_add, Int.cast_ofNat_Int] at h1
    have hg := ints_get hlt
    rw [X_in L.ref07_Least.x0.eq_1, List.drop_eq_getElem_cons hlt, List.foldl_cons, show l[i] = l.getD i 0 by simp [List.getD, hlt]]
    generalize l.getD i 0 = e at *
    unfold lst2 at h1 ⊢
    by_cases e0 : e = 0
    · subst e0
      rw [if_neg (by simp)] at h1 ⊢
      simp (dsimp := false) (disch := first | omega | (simp only [LENs, ints64_length] <;> omega) | fail) only [go_sem, reduceIte, reduceCtorEq, Nat.reduceEqDiff, Nat.reduceAdd, Nat.reduceSub, Nat.reduceMul, Nat.reduceDiv, Nat.reduceMod, Nat.reduceBEq, Nat.reduceLeDiff, Nat.reduceLT, Int.reduceEq, Int.reduceNe, Int.reduceLT, Int.reduceLE, Int.reduceBEq, Int.reduceBNe, Int.reduceToNat, Int.reduceAdd, Int.reduceSub, Int.reduceMul, Int.reduceNeg, flats_i64s, refsOfs_i64s, rens_i64s, hg, h1]
    · by_cases w0 : w = 0
      · subst w0
        rw [if_pos (by simp [e0])] at h1 ⊢
        simp (dsimp := false) (disch := first | omega | (simp only [LENs, ints64_length] <;> omega) | fail) only [go_sem, reduceIte, reduceCtorEq, Nat.reduceEqDiff, Nat.reduceAdd, Nat.reduceSub, Nat.reduceMul, Nat.reduceDiv, Nat.reduceMod, Nat.reduceBEq, Nat.reduceLeDiff, Nat.reduceLT, Int.reduceEq, Int.reduceNe, Int.reduceLT, Int.reduceLE, Int.reduceBEq, Int.reduceBNe, Int.reduceToNat, Int.reduceAdd, Int.reduceSub, Int.reduceMul, Int.reduceNeg, flats_i64s, refsOfs_i64s, rens_i64s, hg, h1, e0]
      · by_cases lt : e < w
        · rw [if_pos (by simp [e0, lt])] at h1 ⊢
          simp (dsimp := false) (disch := first | omega | (simp only [LENs, ints64_length] <;> omega) | fail) only [go_sem, reduceIte, reduceCtorEq, Nat.reduceEqDiff, Nat.reduceAdd, Nat.reduceSub, Nat.reduceMul, Nat.reduceDiv, Nat.reduceMod, Nat.reduceBEq, Nat.reduceLeDiff, Nat.reduceLT, Int.reduceEq, Int.reduceNe, Int.reduceLT, Int.reduceLE, Int.reduceBEq, Int.reduceBNe, Int.reduceToNat, Int.reduceAdd, Int.reduceSub, Int.reduceMul, Int.reduceNeg, flats_i64s, refsOfs_i64s, rens_i64s, hg, h1, e0, w0, lt]
        · rw [if_neg (by simp [e0, lt, w0])] at h1 ⊢
          simp (dsimp := false) (disch := first | omega | (simp only [LENs, ints64_length] <;> omega) | fail) only [go_sem, reduceIte, reduceCtorEq, Nat.reduceEqDiff, Nat.reduceAdd, Nat.reduceSub, Nat.reduceMul, Nat.reduceDiv, Nat.reduceMod, Nat.reduceBEq, Nat.reduceLeDiff, Nat.reduceLT, Int.reduceEq, Int.reduceNe, Int.reduceLT, Int.reduceLE, Int.reduceBEq, Int.reduceBNe, Int.reduceToNat, Int.reduceAdd, Int.reduceSub, Int.reduceMul, Int.reduceNeg, flats_i64s, refsOfs_i64s, rens_i64s, hg, h1, e0, w0, lt]
theorem go_rleast {l : List Int} (hl : l.length ≤ 1000000) : S E F.ref07_Least [.lst (ints64 l) l.length] [] = some (.int .i64 (minE l), []) := by
  have h := rleast_l0 hl l.length 0 0 (by omega)
  simp only [Int.cast_ofNat_Int, List.drop_zero] at h
  rw [S_of fn_ref07_Least rfl rfl]
  simp (dsimp := false) (disch := first | omega | (simp only [LENs, ints64_length] <;> omega) | fail) only [L.ref07_Least, go_sem, reduceIte, reduceCtorEq, Nat.reduceEqDiff, Nat.reduceAdd, Nat.reduceSub, Nat.reduceMul, Nat.reduceDiv, Nat.reduceMod, Nat.reduceBEq, Nat.reduceLeDiff, Nat.reduceLT, Int.reduceEq, Int.reduceNe, Int.reduceLT, Int.reduceLE, Int.reduceBEq, Int.reduceBNe, Int.reduceToNat, Int.reduceAdd, Int.reduceSub, Int.reduceMul, Int.reduceNeg, flats_i64s, refsOfs_i64s, rens_i64s, h]
  rfl
theorem go_least2 {a b : Int} : S E F.object_least [.lst [.int .i64 a, .int .i64 b] 2] [] = some (.int .i64 (minE [a, b]), []) := go_least (l := [a, b]) (by simp)
theorem go_rleast2 {a b : Int} : S E F.ref07_Least [.lst [.int .i64 a, .int .i64 b] 2] [] = some (.int .i64 (minE [a, b]), []) := go_rleast (l := [a, b]) (by simp)
def hdrT (k n : Int) : List UInt8 := wordF k ++ [32] ++ Lib.itoa n ++ [0]
def eSize (n : Int) : Int := if (decide (n < 0) || decide (1048576 < n)) = true then 1 else 0
def eWord (k : Int) : Int := if (wordF k == []) = true then 9 else 0
def hdrE (k n : Int) : Int := minE [eSize n, eWord k]
def hdrV (k n : Int) : AV := if hdrE k n = 0 then .tup [.str (hdrT k n), .int .i64 0] else .tup [.str [], .int .i64 (hdrE k n)]
theorem hdrT_len {k n : Int} (h1 : -9223372036854775808 ≤ n) (h2 : n ≤ 9223372036854775807) : (hdrT k n).length ≤ 40 := by
  have := Lib.itoa_length_le n h1 h2
  have := wordF_len k
  unfold hdrT
  simp only [List.length_append, List.length_cons, List.length_nil]
  omega
theorem go_header {k n : Int} (h1 : -9223372036854775808 ≤ n) (h2 : n ≤ 9223372036854775807) : S E F.object_Header [.int .i64 k, .int .i64 n] [] = some (hdrV k n, []) := by
  have hi := S_itoa (n := n) ⟨h1, h2⟩
  have hl := Lib.itoa_length_le n h1 h2
  have hw := wordF_len k
  rw [S_of fn_object_Header rfl rfl]
  unfold hdrV
  have w2 : S E F.object_when [.bool (wordF k == []), .int .i64 9] [] = some (.int .i64 (eWord k), []) := go_when
  have hd : S E F.object_least [.lst [.int .i64 (eSize n), .int .i64 (eWord k)] 2] [] = some (.int .i64 (hdrE k n), []) := go_least2
  by_cases a : n < 0
  · have w1 : S E F.object_when [.bool true, .int .i64 1] [] = some (.int .i64 (eSize n), []) := by
      rw [go_when, eSize, decide_eq_true a, Bool.true_or]
    by_cases e : hdrE k n = 0
    · simp (dsimp := false) (disch := first | omega | (simp only [LENs, ints64_length] <;> omega) | fail) only [L.object_Header, go_sem, reduceIte, reduceCtorEq, Nat.reduceEqDiff, Nat.reduceAdd, Nat.reduceSub, Nat.reduceMul, Nat.reduceDiv, Nat.reduceMod, Nat.reduceBEq, Nat.reduceLeDiff, Nat.reduceLT, Int.reduceEq, Int.reduceNe, Int.reduceLT, Int.reduceLE, Int.reduceBEq, Int.reduceBNe, Int.reduceToNat, Int.reduceAdd, Int.reduceSub, Int.reduceMul, Int.reduceNeg, go_word, a, w1, w2, hd, e, hi]
      rfl
    · simp (dsimp := false) (disch := first | omega | (simp only [LENs, ints64_length] <;> omega) | fail) only [L.object_Header, go_sem, reduceIte, reduceCtorEq, Nat.reduceEqDiff, Nat.reduceAdd, Nat.reduceSub, Nat.reduceMul, Nat.reduceDiv, Nat.reduceMod, Nat.reduceBEq, Nat.reduceLeDiff, Nat.reduceLT, Int.reduceEq, Int.reduceNe, Int.reduceLT, Int.reduceLE, Int.reduceBEq, Int.reduceBNe, Int.reduceToNat, Int.reduceAdd, Int.reduceSub, Int.reduceMul, Int.reduceNeg, go_word, a, w1, w2, hd, e, hi]
  · have w1 : S E F.object_when [.bool (decide (1048576 < n)), .int .i64 1] [] = some (.int .i64 (eSize n), []) := by
      rw [go_when, eSize, decide_eq_false a, Bool.false_or]
    by_cases e : hdrE k n = 0
    · simp (dsimp := false) (disch := first | omega | (simp only [LENs, ints64_length] <;> omega) | fail) only [L.object_Header, go_sem, reduceIte, reduceCtorEq, Nat.reduceEqDiff, Nat.reduceAdd, Nat.reduceSub, Nat.reduceMul, Nat.reduceDiv, Nat.reduceMod, Nat.reduceBEq, Nat.reduceLeDiff, Nat.reduceLT, Int.reduceEq, Int.reduceNe, Int.reduceLT, Int.reduceLE, Int.reduceBEq, Int.reduceBNe, Int.reduceToNat, Int.reduceAdd, Int.reduceSub, Int.reduceMul, Int.reduceNeg, go_word, a, w1, w2, hd, e, hi]
      rfl
    · simp (dsimp := false) (disch := first | omega | (simp only [LENs, ints64_length] <;> omega) | fail) only [L.object_Header, go_sem, reduceIte, reduceCtorEq, Nat.reduceEqDiff, Nat.reduceAdd, Nat.reduceSub, Nat.reduceMul, Nat.reduceDiv, Nat.reduceMod, Nat.reduceBEq, Nat.reduceLeDiff, Nat.reduceLT, Int.reduceEq, Int.reduceNe, Int.reduceLT, Int.reduceLE, Int.reduceBEq, Int.reduceBNe, Int.reduceToNat, Int.reduceAdd, Int.reduceSub, Int.reduceMul, Int.reduceNeg, go_word, a, w1, w2, hd, e, hi]
def objE (k : Int) (n : Nat) : Int := minE [if (decide (1048576 < n)) = true then 2 else 0, eWord k]
def eLong (n : Nat) : Int := if (decide (1048576 < (n : Int))) = true then 2 else 0
theorem objE_eq (k : Int) (n : Nat) : objE k n = minE [eLong n, eWord k] := by
  unfold objE eLong
  rw [show decide (1048576 < (n : Int)) = decide (1048576 < n) from decide_eq_decide.2 (by omega)]
theorem go_plain {k : Int} {p : List UInt8} {n : Nat} (hn : n = p.length) (hp : p.length ≤ 1000000000000) : S E F.object_plain [.agg [.int .i64 k, .lst (ofBytes p) n]] [] = some (.int .i64 (objE k p.length), []) := by
  subst hn
  have w1 : S E F.object_when [.bool (decide (1048576 < (p.length : Int))), .int .i64 2] [] = some (.int .i64 (eLong p.length), []) := go_when
  have w2 : S E F.object_when [.bool (wordF k == []), .int .i64 9] [] = some (.int .i64 (eWord k), []) := go_when
  have hd : S E F.object_least [.lst [.int .i64 (eLong p.length), .int .i64 (eWord k)] 2] [] = some (.int .i64 (objE k p.length), []) := by rw [objE_eq]; exact go_least2
  rw [S_of fn_object_plain rfl rfl]
  simp (dsimp := false) (disch := first | omega | (simp only [LENs, ints64_length] <;> omega) | fail) only [L.object_plain, go_sem, reduceIte, reduceCtorEq, Nat.reduceEqDiff, Nat.reduceAdd, Nat.reduceSub, Nat.reduceMul, Nat.reduceDiv, Nat.reduceMod, Nat.reduceBEq, Nat.reduceLeDiff, Nat.reduceLT, Int.reduceEq, Int.reduceNe, Int.reduceLT, Int.reduceLE, Int.reduceBEq, Int.reduceBNe, Int.reduceToNat, Int.reduceAdd, Int.reduceSub, Int.reduceMul, Int.reduceNeg, BYs, go_word, w1, w2, hd]
end Cod
namespace Cod
open Go
theorem rep_bytes (n : Nat) : rep [.int .u8 0] n = ofBytes (List.replicate n 0) := by
  induction n with
  | zero => rfl
  | succ n ih => rw [rep, ih, List.replicate_succ]; rfl
theorem appV_nilsL {t : Site} {sz bytes m : Nat} {vs : List AV} {u : Ups} {ss : List Site} : appV t sz bytes m vs u ss .nils = if m * bytes ≤ 140737488355328 then mkBuf t vs m sz u else .fail := rfl
theorem appzV_intL {t : Site} {sz bytes : Nat} {zero : List AV} {s : AV} {m : Int} : appzV t sz bytes zero s (.int .i64 m) = if 0 ≤ m ∧ m ≤ 140737488355328 then appV t sz bytes m.toNat (rep zero m.toNat) [] [] s else .fail := rfl
theorem go_growB {n : Nat} (h0 : 0 < n) (hn : n ≤ 4000000) : S E F.slices_Grow_Sbyte_byte [.nils, .int .i64 n] [] =
    some (.buf (.r 0) 0 0 0 1, [(.r 0, ⟨0, true, true, false, ofBytes (List.replicate n 0)⟩)]) := by
  rw [S_of fn_slices_Grow_Sbyte_byte rfl rfl]
  simp (dsimp := false) (disch := first | omega | (simp only [LENs, ints64_length] <;> omega) | fail) only [L.slices_Grow_Sbyte_byte, go_sem, reduceIte, reduceCtorEq, Nat.reduceEqDiff, Nat.reduceAdd, Nat.reduceSub, Nat.reduceMul, Nat.reduceDiv, Nat.reduceMod, Nat.reduceBEq, Nat.reduceLeDiff, Nat.reduceLT, Int.reduceEq, Int.reduceNe, Int.reduceLT, Int.reduceLE, Int.reduceBEq, Int.reduceBNe, Int.reduceToNat, Int.reduceAdd, Int.reduceSub, Int.reduceMul, Int.reduceNeg, BYs, Int.sub_zero, rep_bytes, appV_nilsL, appzV_intL]
theorem sub_00B (l : List UInt8) : sub l 0 0 = [] := by simp [sub]
theorem sub_fullB {l : List UInt8} {n : Nat} (h : n = l.length) : sub l 0 n = l := by simp [sub, h]
theorem go_concat2 {a b : List UInt8} (h0 : 0 < a.length) (ha : a.length ≤ 1000000) (hb : b.length ≤ 2000000) :
    S E F.slices_Concat_Sbyte_byte [.lst [.lst (ofBytes a) a.length, .lst (ofBytes b) b.length] 2] [] =
    some (.buf (.r 0) 0 0 (a ++ b).length 1, [(.r 0, ⟨0, true, true, false, ofBytes (a ++ b)⟩)]) := by
  have hg := go_growB (n := a.length + b.length) (by omega) (by omega)
  have e1 : (0 + (a.length : Int) + b.length) = ((a.length + b.length : Nat) : Int) := by omega
  rw [S_of fn_slices_Concat_Sbyte_byte rfl rfl]
  simp (dsimp := false) (disch := first | omega | (simp only [LENs, ints64_length] <;> omega) | fail) only [L.slices_Concat_Sbyte_byte, L.slices_Concat_Sbyte_byte.x0, go_sem, reduceIte, reduceCtorEq, Nat.reduceEqDiff, Nat.reduceAdd, Nat.reduceSub, Nat.reduceMul, Nat.reduceDiv, Nat.reduceMod, Nat.reduceBEq, Nat.reduceLeDiff, Nat.reduceLT, Int.reduceEq, Int.reduceNe, Int.reduceLT, Int.reduceLE, Int.reduceBEq, Int.reduceBNe, Int.reduceToNat, Int.reduceAdd, Int.reduceSub, Int.reduceMul, Int.reduceNeg, BYs]
  rw [e1]
  simp (dsimp := false) (disch := first | omega | (simp only [LENs, ints64_length] <;> omega) | fail) only [L.slices_Concat_Sbyte_byte.r0, L.slices_Concat_Sbyte_byte.x1, L.slices_Concat_Sbyte_byte.r1, go_sem, reduceIte, reduceCtorEq, Nat.reduceEqDiff, Nat.reduceAdd, Nat.reduceSub, Nat.reduceMul, Nat.reduceDiv, Nat.reduceMod, Nat.reduceBEq, Nat.reduceLeDiff, Nat.reduceLT, Int.reduceEq, Int.reduceNe, Int.reduceLT, Int.reduceLE, Int.reduceBEq, Int.reduceBNe, Int.reduceToNat, Int.reduceAdd, Int.reduceSub, Int.reduceMul, Int.reduceNeg, BYs, hg, appV_nilsL, appzV_intL, sub_00B, Nat.zero_mul, Nat.zero_add, sub_fullB, List.nil_append]
  rw [List.length_append]
theorem go_twin {a : List UInt8} {n : Nat} (hn : n = a.length) (h : a.length ≤ 1000000000000) : S E F.ref01_Twin [.lst (ofBytes a) n] [] = some (.buf (.r 0) 0 0 n 1, [(.r 0, ⟨0, true, true, false, ofBytes a⟩)]) := by
  rw [S_of fn_ref01_Twin rfl rfl]
  simp (dsimp := false) (disch := first | omega | (simp only [LENs, ints64_length] <;> omega) | fail) only [L.ref01_Twin, go_sem, reduceIte, reduceCtorEq, Nat.reduceEqDiff, Nat.reduceAdd, Nat.reduceSub, Nat.reduceMul, Nat.reduceDiv, Nat.reduceMod, Nat.reduceBEq, Nat.reduceLeDiff, Nat.reduceLT, Int.reduceEq, Int.reduceNe, Int.reduceLT, Int.reduceLE, Int.reduceBEq, Int.reduceBNe, Int.reduceToNat, Int.reduceAdd, Int.reduceSub, Int.reduceMul, Int.reduceNeg, BYs]
def idF (k : Int) (p : List UInt8) : List UInt8 := if objE k p.length = 0 then shaF (hdrT k p.length ++ p) else List.replicate 32 0
def idV (k : Int) (p : List UInt8) : AV := .tup [.agg (ofBytes (idF k p)), .int .i64 (objE k p.length)]
theorem hdr_of_obj {k : Int} {n : Nat} (h : objE k n = 0) : hdrE k n = 0 ∧ n ≤ 1048576 := by
  unfold objE hdrE eSize at *
  unfold minE at *
  simp only [List.foldl_cons, List.foldl_nil, lst2] at *
  have : n ≤ 1048576 := by
    by_cases h1 : 1048576 < n
    · exfalso
      rw [decide_eq_true h1] at h
      generalize eWord k = w at h
      simp only [if_true] at h
      by_cases a : w = 0 <;> by_cases b : w < 2 <;> simp [a, b] at h
    · omega
  refine ⟨?_, this⟩
  rw [decide_eq_false (by omega : ¬ 1048576 < n)] at h
  rw [decide_eq_false (by omega : ¬ (n : Int) < 0), decide_eq_false (by omega : ¬ 1048576 < (n : Int))]
  generalize eWord k = w at h
  simpa using h
theorem hdrT_pos (k n : Int) : 0 < (hdrT k n).length := by unfold hdrT; simp only [List.length_append, List.length_cons, List.length_nil]; omega
theorem go_oid {k : Int} {p : List UInt8} {n : Nat} (hn : n = p.length) (hp : p.length ≤ 1000000000000) : S E F.object_Id [.agg [.int .i64 k, .lst (ofBytes p) n]] [] = some (idV k p, []) := by
  subst hn
  have h1 := go_plain (k := k) (p := p) rfl hp
  have h2 := go_header (k := k) (n := p.length) (by omega) (by omega)
  rw [S_of fn_object_Id rfl rfl]
  unfold idV idF
  by_cases e : objE k p.length = 0
  · obtain ⟨e1, e2⟩ := hdr_of_obj e
    unfold hdrV at h2
    rw [if_pos e1] at h2
    have hl := hdrT_len (k := k) (n := p.length) (by omega) (by omega)
    have h0 := hdrT_pos k p.length
    generalize hdrT k p.length = t at *
    have h3 := go_concat2 (a := t) (b := p) h0 (by omega) (by omega)
    have h4 := go_sum (p := t ++ p) (by rw [List.length_append]; omega)
    have hs : (shaF (t ++ p)).length = 32 := by unfold shaF; simp [idOf]
    simp (dsimp := false) (disch := first | omega | (simp only [LENs, ints64_length] <;> omega) | fail) only [L.object_Id, go_sem, reduceIte, reduceCtorEq, Nat.reduceEqDiff, Nat.reduceAdd, Nat.reduceSub, Nat.reduceMul, Nat.reduceDiv, Nat.reduceMod, Nat.reduceBEq, Nat.reduceLeDiff, Nat.reduceLT, Int.reduceEq, Int.reduceNe, Int.reduceLT, Int.reduceLE, Int.reduceBEq, Int.reduceBNe, Int.reduceToNat, Int.reduceAdd, Int.reduceSub, Int.reduceMul, Int.reduceNeg, BYs, h1, e, h2, h3, h4]
  · simp (dsimp := false) (disch := first | omega | (simp only [LENs, ints64_length] <;> omega) | fail) only [L.object_Id, go_sem, reduceIte, reduceCtorEq, Nat.reduceEqDiff, Nat.reduceAdd, Nat.reduceSub, Nat.reduceMul, Nat.reduceDiv, Nat.reduceMod, Nat.reduceBEq, Nat.reduceLeDiff, Nat.reduceLT, Int.reduceEq, Int.reduceNe, Int.reduceLT, Int.reduceLE, Int.reduceBEq, Int.reduceBNe, Int.reduceToNat, Int.reduceAdd, Int.reduceSub, Int.reduceMul, Int.reduceNeg, BYs, h1, e, List.length_replicate]
end Cod
namespace Cod
open Go
theorem has_l0 {s : List UInt8} (hs : s.length ≤ 1000000000000) {c : Int} (h0 : 0 ≤ c) (h1 : c < 256) (k : List It) : ∀ (m i : Nat), i + m = s.length →
    X E [.tmp 4] (.c L.ref06_Has.x0 :: .lp [0, 1, 5] L.ref06_Has.x0 :: .blk 0 :: k) ⟨[(0, .str s), (1, .int .u8 c), (5, .int .i64 i)], []⟩ =
    if (s.drop i).contains (byt c) then some (.bool true, []) else X E [.tmp 4] k ⟨[(0, .str s), (1, .int .u8 c), (5, .int .i64 s.length), (9, .bool false)], []⟩ := by
  intro m
  induction m with
  | zero =>
    intro i h
    obtain rfl : i = s.length := by omega
    rw [X_in L.ref06_Has.x0.eq_1]
    simp (dsimp := false) (disch := first | omega | (simp only [LENs] <;> omega) | fail) only [go_sem, reduceIte, reduceCtorEq, Nat.reduceEqDiff, Nat.reduceAdd, Nat.reduceSub, Nat.reduceMul, Nat.reduceDiv, Nat.reduceMod, Nat.reduceBEq, Nat.reduceLeDiff, Nat.reduceLT, Int.reduceEq, Int.reduceNe, Int.reduceLT, Int.reduceLE, Int.reduceBEq, Int.reduceBNe, Int.reduceToNat, Int.reduceAdd, Int.reduceSub, Int.reduceMul, Int.reduceNeg, List.drop_length, List.contains_nil, Bool.false_eq_true]
  | succ m ih =>
    intro i h
    have := ih (i + 1) (by omega)
    simp only [Int.natCast_add, Int.cast_ofNat_Int] at this
    have hd : s.drop i = s.getD i 0 :: s.drop (i + 1) := by
      rw [List.getD_eq_getElem?_getD, List.getElem?_eq_getElem (by omega), Option.getD_some]
      exact List.drop_eq_getElem_cons (by omega)
    rw [X_in L.ref06_Has.x0.eq_1]
    rw [hd, List.contains_cons]
    cases hb : (s.getD i 0 == byt c) with
    | true =>
      have hb' : (byt c == s.getD i 0) = true := by rw [BEq.comm]; exact hb
      simp (dsimp := false) (disch := first | omega | (simp only [LENs] <;> omega) | fail) only [go_sem, reduceIte, reduceCtorEq, Nat.reduceEqDiff, Nat.reduceAdd, Nat.reduceSub, Nat.reduceMul, Nat.reduceDiv, Nat.reduceMod, Nat.reduceBEq, Nat.reduceLeDiff, Nat.reduceLT, Int.reduceEq, Int.reduceNe, Int.reduceLT, Int.reduceLE, Int.reduceBEq, Int.reduceBNe, Int.reduceToNat, Int.reduceAdd, Int.reduceSub, Int.reduceMul, Int.reduceNeg, bat_beq, hb, hb', Bool.true_or]
    | false =>
      have hb' : (byt c == s.getD i 0) = false := by rw [BEq.comm]; exact hb
      simp (dsimp := false) (disch := first | omega | (simp only [LENs] <;> omega) | fail) only [go_sem, reduceIte, reduceCtorEq, Nat.reduceEqDiff, Nat.reduceAdd, Nat.reduceSub, Nat.reduceMul, Nat.reduceDiv, Nat.reduceMod, Nat.reduceBEq, Nat.reduceLeDiff, Nat.reduceLT, Int.reduceEq, Int.reduceNe, Int.reduceLT, Int.reduceLE, Int.reduceBEq, Int.reduceBNe, Int.reduceToNat, Int.reduceAdd, Int.reduceSub, Int.reduceMul, Int.reduceNeg, bat_beq, hb, hb', Bool.false_or, this]
theorem go_rhas {s : List UInt8} (hs : s.length ≤ 1000000000000) {c : Int} (h0 : 0 ≤ c) (h1 : c < 256) : S E F.ref06_Has [.str s, .int .u8 c] [] = some (.bool (s.contains (byt c)), []) := by
  have h := fun k => has_l0 hs h0 h1 k s.length 0 (by omega)
  simp only [Int.cast_ofNat_Int, List.drop_zero] at h
  rw [S_of fn_ref06_Has rfl rfl]
  simp (dsimp := false) (disch := first | omega | (simp only [LENs] <;> omega) | fail) only [L.ref06_Has, go_sem, reduceIte, reduceCtorEq, Nat.reduceEqDiff, Nat.reduceAdd, Nat.reduceSub, Nat.reduceMul, Nat.reduceDiv, Nat.reduceMod, Nat.reduceBEq, Nat.reduceLeDiff, Nat.reduceLT, Int.reduceEq, Int.reduceNe, Int.reduceLT, Int.reduceLE, Int.reduceBEq, Int.reduceBNe, Int.reduceToNat, Int.reduceAdd, Int.reduceSub, Int.reduceMul, Int.reduceNeg]
  rw [h]
  cases hc : s.contains (byt c) with
  | true => simp
  | false =>
    simp (dsimp := false) (disch := first | omega | (simp only [LENs] <;> omega) | fail) only [L.ref06_Has.r0, go_sem, reduceIte, reduceCtorEq, Nat.reduceEqDiff, Nat.reduceAdd, Nat.reduceSub, Nat.reduceMul, Nat.reduceDiv, Nat.reduceMod, Nat.reduceBEq, Nat.reduceLeDiff, Nat.reduceLT, Int.reduceEq, Int.reduceNe, Int.reduceLT, Int.reduceLE, Int.reduceBEq, Int.reduceBNe, Int.reduceToNat, Int.reduceAdd, Int.reduceSub, Int.reduceMul, Int.reduceNeg, Bool.false_eq_true]
end Cod
namespace Cod
open Go
def two (n : Int) : List UInt8 := [byt (48 + n / 10), byt (48 + n % 10)]
theorem two_length (n : Int) : (two n).length = 2 := rfl
structure Idt where
  name : List UInt8
  email : List UInt8
  time : Int
  zone : Int
def Idt.cells (i : Idt) : List AV := [.str i.name, .str i.email, .int .i64 i.time, .int .i64 i.zone]
theorem idt_sub (i : Idt) : sub i.cells 0 4 = i.cells := rfl
theorem idt_flats (i : Idt) : flats i.cells = true := rfl
theorem idt_len (i : Idt) : i.cells.length = 4 := rfl
theorem idt_rens (f : Site → Nat → Option (Site × Nat)) (i : Idt) : rens f i.cells = i.cells := rens_flats _ rfl
theorem idt_refs (i : Idt) : refsOfs i.cells = [] := rfl
theorem idt_hards (i : Idt) : hards i.cells = true := rfl
theorem idt_leads (i : Idt) : leadss i.cells = false := rfl
attribute [go_sem] idt_sub idt_flats idt_len idt_rens idt_refs idt_hards idt_leads
def plainOK (s : List UInt8) : Bool := decide (s.length ≤ 100) && (!s.contains 0 && (!s.contains 10 && (!s.contains 60 && !s.contains 62)))
def identOK (i : Idt) : Bool := plainOK i.name && (plainOK i.email && (decide (0 ≤ i.time) && (decide (i.time ≤ 1099511627776) && (decide (-1439 ≤ i.zone) && decide (i.zone ≤ 1439)))))
theorem go_rplain {s : List UInt8} (hs : s.length ≤ 1000000000000) : S E F.ref06_plain [.str s] [] = some (.bool (plainOK s), []) := by
  have h0 := go_rhas hs (c := 0) (by omega) (by omega)
  have h1 := go_rhas hs (c := 10) (by omega) (by omega)
  have h2 := go_rhas hs (c := 60) (by omega) (by omega)
  have h3 := go_rhas hs (c := 62) (by omega) (by omega)
  rw [show byt 0 = 0 from rfl] at h0
  rw [show byt 10 = 10 from rfl] at h1
  rw [show byt 60 = 60 from rfl] at h2
  rw [show byt 62 = 62 from rfl] at h3
  rw [S_of fn_ref06_plain rfl rfl]
  unfold plainOK
  by_cases hl : s.length ≤ 100
  · cases c0 : s.contains 0 <;> cases c1 : s.contains 10 <;> cases c2 : s.contains 60 <;> cases c3 : s.contains 62 <;> simp (dsimp := false) (disch := first | omega | (simp only [LENs, two_length] <;> omega) | fail) only [L.ref06_plain, go_sem, reduceIte, reduceCtorEq, Nat.reduceEqDiff, Nat.reduceAdd, Nat.reduceSub, Nat.reduceMul, Nat.reduceDiv, Nat.reduceMod, Nat.reduceBEq, Nat.reduceLeDiff, Nat.reduceLT, Int.reduceEq, Int.reduceNe, Int.reduceLT, Int.reduceLE, Int.reduceBEq, Int.reduceBNe, Int.reduceToNat, Int.reduceAdd, Int.reduceSub, Int.reduceMul, Int.reduceNeg, h0, h1, h2, h3, hl, c0, c1, c2, c3, Bool.not_true, Bool.not_false, decide_true, Bool.and_true, Bool.and_false, Bool.true_and]
  · simp (dsimp := false) (disch := first | omega | (simp only [LENs, two_length] <;> omega) | fail) only [L.ref06_plain, go_sem, reduceIte, reduceCtorEq, Nat.reduceEqDiff, Nat.reduceAdd, Nat.reduceSub, Nat.reduceMul, Nat.reduceDiv, Nat.reduceMod, Nat.reduceBEq, Nat.reduceLeDiff, Nat.reduceLT, Int.reduceEq, Int.reduceNe, Int.reduceLT, Int.reduceLE, Int.reduceBEq, Int.reduceBNe, Int.reduceToNat, Int.reduceAdd, Int.reduceSub, Int.reduceMul, Int.reduceNeg, hl, decide_false, Bool.false_and]
theorem go_rident {i : Idt} (hn : i.name.length ≤ 1000000000000) (he : i.email.length ≤ 1000000000000) : S E F.ref06_Ident [.agg i.cells] [] = some (.bool (identOK i), []) := by
  have h0 := go_rplain hn
  have h1 := go_rplain he
  rw [S_of fn_ref06_Ident rfl rfl]
  unfold identOK
  cases c0 : plainOK i.name
  · simp (dsimp := false) (disch := first | omega | (simp only [LENs, two_length] <;> omega) | fail) only [L.ref06_Ident, go_sem, reduceIte, reduceCtorEq, Nat.reduceEqDiff, Nat.reduceAdd, Nat.reduceSub, Nat.reduceMul, Nat.reduceDiv, Nat.reduceMod, Nat.reduceBEq, Nat.reduceLeDiff, Nat.reduceLT, Int.reduceEq, Int.reduceNe, Int.reduceLT, Int.reduceLE, Int.reduceBEq, Int.reduceBNe, Int.reduceToNat, Int.reduceAdd, Int.reduceSub, Int.reduceMul, Int.reduceNeg, Idt.cells, h0, c0, Bool.false_and]
  · cases c1 : plainOK i.email
    · simp (dsimp := false) (disch := first | omega | (simp only [LENs, two_length] <;> omega) | fail) only [L.ref06_Ident, go_sem, reduceIte, reduceCtorEq, Nat.reduceEqDiff, Nat.reduceAdd, Nat.reduceSub, Nat.reduceMul, Nat.reduceDiv, Nat.reduceMod, Nat.reduceBEq, Nat.reduceLeDiff, Nat.reduceLT, Int.reduceEq, Int.reduceNe, Int.reduceLT, Int.reduceLE, Int.reduceBEq, Int.reduceBNe, Int.reduceToNat, Int.reduceAdd, Int.reduceSub, Int.reduceMul, Int.reduceNeg, Idt.cells, h0, c0, h1, c1, Bool.false_and, Bool.and_false]
    · by_cases t0 : 0 ≤ i.time
      · by_cases t1 : i.time ≤ 1099511627776
        · by_cases z0 : -1439 ≤ i.zone
          · by_cases z1 : i.zone ≤ 1439 <;> simp (dsimp := false) (disch := first | omega | (simp only [LENs, two_length] <;> omega) | fail) only [L.ref06_Ident, go_sem, reduceIte, reduceCtorEq, Nat.reduceEqDiff, Nat.reduceAdd, Nat.reduceSub, Nat.reduceMul, Nat.reduceDiv, Nat.reduceMod, Nat.reduceBEq, Nat.reduceLeDiff, Nat.reduceLT, Int.reduceEq, Int.reduceNe, Int.reduceLT, Int.reduceLE, Int.reduceBEq, Int.reduceBNe, Int.reduceToNat, Int.reduceAdd, Int.reduceSub, Int.reduceMul, Int.reduceNeg, Idt.cells, h0, c0, h1, c1, t0, t1, z0, z1, decide_true, decide_false, Bool.true_and, Bool.and_true]
          · simp (dsimp := false) (disch := first | omega | (simp only [LENs, two_length] <;> omega) | fail) only [L.ref06_Ident, go_sem, reduceIte, reduceCtorEq, Nat.reduceEqDiff, Nat.reduceAdd, Nat.reduceSub, Nat.reduceMul, Nat.reduceDiv, Nat.reduceMod, Nat.reduceBEq, Nat.reduceLeDiff, Nat.reduceLT, Int.reduceEq, Int.reduceNe, Int.reduceLT, Int.reduceLE, Int.reduceBEq, Int.reduceBNe, Int.reduceToNat, Int.reduceAdd, Int.reduceSub, Int.reduceMul, Int.reduceNeg, Idt.cells, h0, c0, h1, c1, t0, t1, z0, decide_true, decide_false, Bool.true_and, Bool.false_and]
        · simp (dsimp := false) (disch := first | omega | (simp only [LENs, two_length] <;> omega) | fail) only [L.ref06_Ident, go_sem, reduceIte, reduceCtorEq, Nat.reduceEqDiff, Nat.reduceAdd, Nat.reduceSub, Nat.reduceMul, Nat.reduceDiv, Nat.reduceMod, Nat.reduceBEq, Nat.reduceLeDiff, Nat.reduceLT, Int.reduceEq, Int.reduceNe, Int.reduceLT, Int.reduceLE, Int.reduceBEq, Int.reduceBNe, Int.reduceToNat, Int.reduceAdd, Int.reduceSub, Int.reduceMul, Int.reduceNeg, Idt.cells, h0, c0, h1, c1, t0, t1, decide_true, decide_false, Bool.true_and, Bool.false_and]
      · simp (dsimp := false) (disch := first | omega | (simp only [LENs, two_length] <;> omega) | fail) only [L.ref06_Ident, go_sem, reduceIte, reduceCtorEq, Nat.reduceEqDiff, Nat.reduceAdd, Nat.reduceSub, Nat.reduceMul, Nat.reduceDiv, Nat.reduceMod, Nat.reduceBEq, Nat.reduceLeDiff, Nat.reduceLT, Int.reduceEq, Int.reduceNe, Int.reduceLT, Int.reduceLE, Int.reduceBEq, Int.reduceBNe, Int.reduceToNat, Int.reduceAdd, Int.reduceSub, Int.reduceMul, Int.reduceNeg, Idt.cells, h0, c0, h1, c1, t0, decide_true, decide_false, Bool.true_and, Bool.false_and]
theorem byt_toNat {n : Int} (h0 : 0 ≤ n) (h1 : n < 256) : ((byt n).toNat : Int) = n := by
  have := int_byt h0 h1
  simp only [AV.int.injEq, true_and] at this
  exact this.symm
theorem go_two {n : Int} (h0 : 0 ≤ n) (h1 : n < 100) : S E F.ref06_two [.int .i64 n] [] = some (.str (two n), []) := by
  rw [S_of fn_ref06_two rfl rfl]
  have e1 : IntKind.u8.wrap (48 + n / 10) = ((byt (48 + n / 10)).toNat : Int) := by rw [wrap_u8, byt_toNat (by omega) (by omega)]; omega
  have e2 : IntKind.u8.wrap (48 + n % 10) = ((byt (48 + n % 10)).toNat : Int) := by rw [wrap_u8, byt_toNat (by omega) (by omega)]; omega
  simp (dsimp := false) (disch := first | omega | (simp only [LENs, two_length] <;> omega) | fail) only [L.ref06_two, go_sem, reduceIte, reduceCtorEq, Nat.reduceEqDiff, Nat.reduceAdd, Nat.reduceSub, Nat.reduceMul, Nat.reduceDiv, Nat.reduceMod, Nat.reduceBEq, Nat.reduceLeDiff, Nat.reduceLT, Int.reduceEq, Int.reduceNe, Int.reduceLT, Int.reduceLE, Int.reduceBEq, Int.reduceBNe, Int.reduceToNat, Int.reduceAdd, Int.reduceSub, Int.reduceMul, Int.reduceNeg, tdiv_pos, tmod_pos, e1, e2, UInt8.ofNat_toNat, two]
def zoneT (z : Int) : List UInt8 := (if z < 0 then 45 else 43) :: (two ((if z < 0 then -z else z) / 60) ++ two ((if z < 0 then -z else z) % 60))
def putI (i : Idt) : List UInt8 := i.name ++ [32, 60] ++ i.email ++ [62, 32] ++ Lib.itoa i.time ++ [32] ++ zoneT i.zone
theorem identOK_iff (i : Idt) : identOK i = true ↔ plainOK i.name = true ∧ plainOK i.email = true ∧ 0 ≤ i.time ∧ i.time ≤ 1099511627776 ∧ -1439 ≤ i.zone ∧ i.zone ≤ 1439 := by
  unfold identOK; simp only [Bool.and_eq_true, decide_eq_true_eq]
theorem plain_len {s : List UInt8} (h : plainOK s = true) : s.length ≤ 100 := by
  unfold plainOK at h; simp only [Bool.and_eq_true, decide_eq_true_eq] at h; exact h.1
theorem go_rput {i : Idt} (h : identOK i = true) : S E F.ref06_Put [.agg i.cells] [] = some (.str (putI i), []) := by
  obtain ⟨_, _, t0, t1, z0, z1⟩ := (identOK_iff i).1 h
  have hi := S_itoa (n := i.time) (by omega)
  have hl := Lib.itoa_length_le i.time (by omega) (by omega)
  have hn := plain_len (by assumption : plainOK i.name = true)
  have he := plain_len (by assumption : plainOK i.email = true)
  rw [S_of fn_ref06_Put rfl rfl]
  by_cases hz : i.zone < 0
  · have h1 := go_two (n := -i.zone / 60) (by omega) (by omega)
    have h2 := go_two (n := -i.zone % 60) (by omega) (by omega)
    simp (dsimp := false) (disch := first | omega | (simp only [LENs, two_length] <;> omega) | fail) only [L.ref06_Put, go_sem, reduceIte, reduceCtorEq, Nat.reduceEqDiff, Nat.reduceAdd, Nat.reduceSub, Nat.reduceMul, Nat.reduceDiv, Nat.reduceMod, Nat.reduceBEq, Nat.reduceLeDiff, Nat.reduceLT, Int.reduceEq, Int.reduceNe, Int.reduceLT, Int.reduceLE, Int.reduceBEq, Int.reduceBNe, Int.reduceToNat, Int.reduceAdd, Int.reduceSub, Int.reduceMul, Int.reduceNeg, Idt.cells, hi, hz, Int.zero_sub, tdiv_pos, tmod_pos, h1, h2]
    simp only [putI, zoneT, hz, if_true, List.append_assoc, List.cons_append, List.nil_append]
  · have h1 := go_two (n := i.zone / 60) (by omega) (by omega)
    have h2 := go_two (n := i.zone % 60) (by omega) (by omega)
    simp (dsimp := false) (disch := first | omega | (simp only [LENs, two_length] <;> omega) | fail) only [L.ref06_Put, go_sem, reduceIte, reduceCtorEq, Nat.reduceEqDiff, Nat.reduceAdd, Nat.reduceSub, Nat.reduceMul, Nat.reduceDiv, Nat.reduceMod, Nat.reduceBEq, Nat.reduceLeDiff, Nat.reduceLT, Int.reduceEq, Int.reduceNe, Int.reduceLT, Int.reduceLE, Int.reduceBEq, Int.reduceBNe, Int.reduceToNat, Int.reduceAdd, Int.reduceSub, Int.reduceMul, Int.reduceNeg, Idt.cells, hi, hz, Int.zero_sub, tdiv_pos, tmod_pos, h1, h2]
    simp only [putI, zoneT, hz, if_false, List.append_assoc, List.cons_append, List.nil_append]
def putV (i : Idt) : AV := if identOK i = true then .tup [.str (putI i), .int .i64 0] else .tup [.str [], .int .i64 3]
end Cod
namespace Cod
open Go
def numL : List UInt8 → Int → Int
  | [], v => v
  | c :: r, v => if c.toNat < 48 ∨ 57 < c.toNat then -1 else numL r (10 * v + (c.toNat - 48))
def numF (s : List UInt8) : Int := if s = [] ∨ 13 < s.length then -1 else numL s 0
theorem num_l0 {s : List UInt8} (hs : s.length ≤ 13) : ∀ (m i : Nat) (v : Int), i + m = s.length → 0 ≤ v → v < 10 ^ i →
    X E [.tmp 2] (.c L.ref06_number.x0 :: .lp [0, 3, 4] L.ref06_number.x0 :: .blk 0 :: [.c L.ref06_number.r0]) ⟨[(0, .str s), (3, .int .i64 v), (4, .int .i64 i)], []⟩ = some (.int .i64 (numL (s.drop i) v), []) := by
  intro m
  induction m with
  | zero =>
    intro i v hi h0 h1
    obtain rfl : i = s.length := by omega
    rw [X_in L.ref06_number.x0.eq_1, List.drop_length, numL]
    simp (dsimp := false) (disch := first | omega | (simp only [LENs] <;> omega) | fail) only [go_sem, reduceIte, reduceCtorEq, Nat.reduceEqDiff, Nat.reduceAdd, Nat.reduceSub, Nat.reduceMul, Nat.reduceDiv, Nat.reduceMod, Nat.reduceBEq, Nat.reduceLeDiff, Nat.reduceLT, Int.reduceEq, Int.reduceNe, Int.reduceLT, Int.reduceLE, Int.reduceBEq, Int.reduceBNe, Int.reduceToNat, Int.reduceAdd, Int.reduceSub, Int.reduceMul, Int.reduceNeg, L.ref06_number.r0]
  | succ m ih =>
    intro i v hi h0 h1
    have hp : i < s.length := by omega
    have hd : s.drop i = s.getD i 0 :: s.drop (i + 1) := by
      rw [List.drop_eq_getElem_cons hp]; simp [hp]
    rw [X_in L.ref06_number.x0.eq_1, hd, numL]
    have hb := bat_range s i
    have he : bat s i = ((s.getD i 0).toNat : Int) := rfl
    have hpow : (10 : Int) ^ i ≤ 10 ^ 12 := by
      have : i ≤ 12 := by omega
      exact_mod_cast Nat.pow_le_pow_right (by omega) this
    by_cases hc : (s.getD i 0).toNat < 48 ∨ 57 < (s.getD i 0).toNat
    · rw [if_pos hc]
      by_cases hc1 : bat s i < 48
      · simp (dsimp := false) (disch := first | omega | (simp only [LENs] <;> omega) | fail) only [go_sem, reduceIte, reduceCtorEq, Nat.reduceEqDiff, Nat.reduceAdd, Nat.reduceSub, Nat.reduceMul, Nat.reduceDiv, Nat.reduceMod, Nat.reduceBEq, Nat.reduceLeDiff, Nat.reduceLT, Int.reduceEq, Int.reduceNe, Int.reduceLT, Int.reduceLE, Int.reduceBEq, Int.reduceBNe, Int.reduceToNat, Int.reduceAdd, Int.reduceSub, Int.reduceMul, Int.reduceNeg, hp, hc1]
      · have hc2 : 57 < bat s i := by rw [he] at hc1 ⊢; omega
        simp (dsimp := false) (disch := first | omega | (simp only [LENs] <;> omega) | fail) only [go_sem, reduceIte, reduceCtorEq, Nat.reduceEqDiff, Nat.reduceAdd, Nat.reduceSub, Nat.reduceMul, Nat.reduceDiv, Nat.reduceMod, Nat.reduceBEq, Nat.reduceLeDiff, Nat.reduceLT, Int.reduceEq, Int.reduceNe, Int.reduceLT, Int.reduceLE, Int.reduceBEq, Int.reduceBNe, Int.reduceToNat, Int.reduceAdd, Int.reduceSub, Int.reduceMul, Int.reduceNeg, hp, hc1, hc2]
    · rw [if_neg hc]
      have hc1 : ¬ bat s i < 48 := by rw [he]; omega
      have hc2 : ¬ 57 < bat s i := by rw [he]; omega
      rw [← ih (i + 1) (10 * v + ((s.getD i 0).toNat - 48)) (by omega) (by omega) (by rw [Int.pow_succ]; omega)]
      have hw : IntKind.u8.wrap (bat s i - 48) = bat s i - 48 := by rw [wrap_u8]; omega
      simp (dsimp := false) (disch := first | omega | (simp only [LENs] <;> omega) | fail) only [go_sem, reduceIte, reduceCtorEq, Nat.reduceEqDiff, Nat.reduceAdd, Nat.reduceSub, Nat.reduceMul, Nat.reduceDiv, Nat.reduceMod, Nat.reduceBEq, Nat.reduceLeDiff, Nat.reduceLT, Int.reduceEq, Int.reduceNe, Int.reduceLT, Int.reduceLE, Int.reduceBEq, Int.reduceBNe, Int.reduceToNat, Int.reduceAdd, Int.reduceSub, Int.reduceMul, Int.reduceNeg, hp, hc1, hc2, hw]
      rw [he, Int.natCast_add]; rfl
theorem go_number {s : List UInt8} : S E F.ref06_number [.str s] [] = some (.int .i64 (numF s), []) := by
  rw [S_of fn_ref06_number rfl rfl]
  unfold numF
  by_cases h0 : s = []
  · subst h0
    simp (dsimp := false) (disch := first | omega | (simp only [LENs] <;> omega) | fail) only [L.ref06_number, go_sem, reduceIte, reduceCtorEq, Nat.reduceEqDiff, Nat.reduceAdd, Nat.reduceSub, Nat.reduceMul, Nat.reduceDiv, Nat.reduceMod, Nat.reduceBEq, Nat.reduceLeDiff, Nat.reduceLT, Int.reduceEq, Int.reduceNe, Int.reduceLT, Int.reduceLE, Int.reduceBEq, Int.reduceBNe, Int.reduceToNat, Int.reduceAdd, Int.reduceSub, Int.reduceMul, Int.reduceNeg, true_or, if_true]
  · have he : (s == []) = false := by simp [h0]
    by_cases h1 : 13 < s.length
    · rw [if_pos (.inr h1)]
      simp (dsimp := false) (disch := first | omega | (simp only [LENs] <;> omega) | fail) only [L.ref06_number, go_sem, reduceIte, reduceCtorEq, Nat.reduceEqDiff, Nat.reduceAdd, Nat.reduceSub, Nat.reduceMul, Nat.reduceDiv, Nat.reduceMod, Nat.reduceBEq, Nat.reduceLeDiff, Nat.reduceLT, Int.reduceEq, Int.reduceNe, Int.reduceLT, Int.reduceLE, Int.reduceBEq, Int.reduceBNe, Int.reduceToNat, Int.reduceAdd, Int.reduceSub, Int.reduceMul, Int.reduceNeg, he, h1]
    · rw [if_neg (by simp [h0, h1])]
      have h2 := num_l0 (s := s) (by omega) s.length 0 0 (by omega) (by omega) (by simp)
      simp only [Int.cast_ofNat_Int, List.drop_zero] at h2
      simp (dsimp := false) (disch := first | omega | (simp only [LENs] <;> omega) | fail) only [L.ref06_number, go_sem, reduceIte, reduceCtorEq, Nat.reduceEqDiff, Nat.reduceAdd, Nat.reduceSub, Nat.reduceMul, Nat.reduceDiv, Nat.reduceMod, Nat.reduceBEq, Nat.reduceLeDiff, Nat.reduceLT, Int.reduceEq, Int.reduceNe, Int.reduceLT, Int.reduceLE, Int.reduceBEq, Int.reduceBNe, Int.reduceToNat, Int.reduceAdd, Int.reduceSub, Int.reduceMul, Int.reduceNeg, he, h1, h2]
end Cod
namespace Cod
open Go
def endsB (s t : List UInt8) : Bool := decide (t.length ≤ s.length) && (s.drop (s.length - t.length) == t)
theorem go_suffix {s t : List UInt8} (hs : s.length ≤ 1000000000000) (ht : t.length ≤ 1000000000000) : S E F.strings_HasSuffix [.str s, .str t] [] = some (.bool (endsB s t), []) := by
  have h0 : S E F.stringslite_HasSuffix [.str s, .str t] [] = some (.bool (endsB s t), []) := by
    rw [S_of fn_stringslite_HasSuffix rfl rfl]
    unfold endsB
    by_cases h : t.length ≤ s.length
    · have e1 : sub s (((s.length : Int) - t.length).toNat) (s.length - ((s.length : Int) - t.length).toNat) = s.drop (s.length - t.length) := by
        rw [show ((s.length : Int) - t.length).toNat = s.length - t.length by omega]
        unfold sub; exact List.take_of_length_le (by rw [List.length_drop]; exact Nat.le_refl _)
      simp (dsimp := false) (disch := first | omega | (simp only [LENs] <;> omega) | fail) only [L.stringslite_HasSuffix, go_sem, reduceIte, reduceCtorEq, Nat.reduceEqDiff, Nat.reduceAdd, Nat.reduceSub, Nat.reduceMul, Nat.reduceDiv, Nat.reduceMod, Nat.reduceBEq, Nat.reduceLeDiff, Nat.reduceLT, Int.reduceEq, Int.reduceNe, Int.reduceLT, Int.reduceLE, Int.reduceBEq, Int.reduceBNe, Int.reduceToNat, Int.reduceAdd, Int.reduceSub, Int.reduceMul, Int.reduceNeg, h, decide_true, Bool.true_and]
      rw [e1]
    · simp (dsimp := false) (disch := first | omega | (simp only [LENs] <;> omega) | fail) only [L.stringslite_HasSuffix, go_sem, reduceIte, reduceCtorEq, Nat.reduceEqDiff, Nat.reduceAdd, Nat.reduceSub, Nat.reduceMul, Nat.reduceDiv, Nat.reduceMod, Nat.reduceBEq, Nat.reduceLeDiff, Nat.reduceLT, Int.reduceEq, Int.reduceNe, Int.reduceLT, Int.reduceLE, Int.reduceBEq, Int.reduceBNe, Int.reduceToNat, Int.reduceAdd, Int.reduceSub, Int.reduceMul, Int.reduceNeg, h, decide_false, Bool.false_and]
  rw [S_of fn_strings_HasSuffix rfl rfl]
  simp (dsimp := false) (disch := first | omega | (simp only [LENs] <;> omega) | fail) only [L.strings_HasSuffix, go_sem, reduceIte, reduceCtorEq, Nat.reduceEqDiff, Nat.reduceAdd, Nat.reduceSub, Nat.reduceMul, Nat.reduceDiv, Nat.reduceMod, Nat.reduceBEq, Nat.reduceLeDiff, Nat.reduceLT, Int.reduceEq, Int.reduceNe, Int.reduceLT, Int.reduceLE, Int.reduceBEq, Int.reduceBNe, Int.reduceToNat, Int.reduceAdd, Int.reduceSub, Int.reduceMul, Int.reduceNeg, h0]
def lastB (s : List UInt8) (c : UInt8) : Nat → Int
  | 0 => -1
  | n + 1 => if s.getD n 0 = c then (n : Int) else lastB s c n
theorem last_l0 {s : List UInt8} {c : UInt8} (hs : s.length ≤ 1000000000000) : ∀ n : Nat, n ≤ s.length →
    X E [.tmp 4] (.c L.bytealg_LastIndexByteString.x0 :: .lp [0, 1, 5] L.bytealg_LastIndexByteString.x0 :: .blk 0 :: [.c L.bytealg_LastIndexByteString.r0]) ⟨[(0, .str s), (1, .int .u8 c.toNat), (5, .int .i64 ((n : Int) - 1))], []⟩ = some (.int .i64 (lastB s c n), []) := by
  intro n
  induction n with
  | zero =>
    intro h
    rw [X_in L.bytealg_LastIndexByteString.x0.eq_1, lastB]
    simp (dsimp := false) (disch := first | omega | (simp only [LENs] <;> omega) | fail) only [go_sem, reduceIte, reduceCtorEq, Nat.reduceEqDiff, Nat.reduceAdd, Nat.reduceSub, Nat.reduceMul, Nat.reduceDiv, Nat.reduceMod, Nat.reduceBEq, Nat.reduceLeDiff, Nat.reduceLT, Int.reduceEq, Int.reduceNe, Int.reduceLT, Int.reduceLE, Int.reduceBEq, Int.reduceBNe, Int.reduceToNat, Int.reduceAdd, Int.reduceSub, Int.reduceMul, Int.reduceNeg, L.bytealg_LastIndexByteString.r0]
  | succ n ih =>
    intro h
    have h1 := ih (by omega)
    rw [X_in L.bytealg_LastIndexByteString.x0.eq_1, lastB]
    have e : ((n + 1 : Nat) : Int) - 1 = n := by omega
    rw [e]
    by_cases hc : s.getD n 0 = c
    · have hb : (bat s n == (c.toNat : Int)) = true := by rw [← hc]; exact beq_t rfl
      rw [if_pos hc]
      simp (dsimp := false) (disch := first | omega | (simp only [LENs] <;> omega) | fail) only [go_sem, reduceIte, reduceCtorEq, Nat.reduceEqDiff, Nat.reduceAdd, Nat.reduceSub, Nat.reduceMul, Nat.reduceDiv, Nat.reduceMod, Nat.reduceBEq, Nat.reduceLeDiff, Nat.reduceLT, Int.reduceEq, Int.reduceNe, Int.reduceLT, Int.reduceLE, Int.reduceBEq, Int.reduceBNe, Int.reduceToNat, Int.reduceAdd, Int.reduceSub, Int.reduceMul, Int.reduceNeg, hb]
    · have hb : (bat s n == (c.toNat : Int)) = false := beq_f (fun h => hc (UInt8.toNat_inj.1 (by unfold bat at h; omega)))
      rw [if_neg hc, ← h1]
      simp (dsimp := false) (disch := first | omega | (simp only [LENs] <;> omega) | fail) only [go_sem, reduceIte, reduceCtorEq, Nat.reduceEqDiff, Nat.reduceAdd, Nat.reduceSub, Nat.reduceMul, Nat.reduceDiv, Nat.reduceMod, Nat.reduceBEq, Nat.reduceLeDiff, Nat.reduceLT, Int.reduceEq, Int.reduceNe, Int.reduceLT, Int.reduceLE, Int.reduceBEq, Int.reduceBNe, Int.reduceToNat, Int.reduceAdd, Int.reduceSub, Int.reduceMul, Int.reduceNeg, hb]
theorem go_lastB {s : List UInt8} {c : UInt8} (hs : s.length ≤ 1000000000000) : S E F.strings_LastIndexByte [.str s, .int .u8 c.toNat] [] = some (.int .i64 (lastB s c s.length), []) := by
  have h0 : S E F.bytealg_LastIndexByteString [.str s, .int .u8 c.toNat] [] = some (.int .i64 (lastB s c s.length), []) := by
    rw [S_of fn_bytealg_LastIndexByteString rfl rfl]
    simp (dsimp := false) (disch := first | omega | (simp only [LENs] <;> omega) | fail) only [L.bytealg_LastIndexByteString, go_sem, reduceIte, reduceCtorEq, Nat.reduceEqDiff, Nat.reduceAdd, Nat.reduceSub, Nat.reduceMul, Nat.reduceDiv, Nat.reduceMod, Nat.reduceBEq, Nat.reduceLeDiff, Nat.reduceLT, Int.reduceEq, Int.reduceNe, Int.reduceLT, Int.reduceLE, Int.reduceBEq, Int.reduceBNe, Int.reduceToNat, Int.reduceAdd, Int.reduceSub, Int.reduceMul, Int.reduceNeg, last_l0 hs s.length (Nat.le_refl _)]
  rw [S_of fn_strings_LastIndexByte rfl rfl]
  simp (dsimp := false) (disch := first | omega | (simp only [LENs] <;> omega) | fail) only [L.strings_LastIndexByte, go_sem, reduceIte, reduceCtorEq, Nat.reduceEqDiff, Nat.reduceAdd, Nat.reduceSub, Nat.reduceMul, Nat.reduceDiv, Nat.reduceMod, Nat.reduceBEq, Nat.reduceLeDiff, Nat.reduceLT, Int.reduceEq, Int.reduceNe, Int.reduceLT, Int.reduceLE, Int.reduceBEq, Int.reduceBNe, Int.reduceToNat, Int.reduceAdd, Int.reduceSub, Int.reduceMul, Int.reduceNeg, h0]
end Cod
namespace Cod
open Go
theorem lastB_range (s : List UInt8) (c : UInt8) : ∀ n, lastB s c n = -1 ∨ ∃ i : Nat, lastB s c n = i ∧ i < n ∧ s.getD i 0 = c := by
  intro n
  induction n with
  | zero => left; rfl
  | succ n ih =>
    unfold lastB
    split
    · rename_i h
      right; exact ⟨n, rfl, by omega, h⟩
    · rcases ih with ih | ⟨i, h1, h2, h3⟩
      · left; exact ih
      · right; exact ⟨i, h1, by omega, h3⟩
theorem tn1 (i : Nat) : ((i : Int) + 1).toNat = i + 1 := by omega
theorem tn2 (i : Nat) : ((i : Int) + 2).toNat = i + 2 := by omega
theorem go_lastB' {s : List UInt8} (hs : s.length ≤ 1000000000000) : S E F.strings_LastIndexByte [.str s, .int .u8 32] [] = some (.int .i64 (lastB s 32 s.length), []) := go_lastB (c := 32) hs
theorem cut_a {s : List UInt8} (hs : s.length ≤ 1000000000000) (h : lastB s 32 s.length = -1) : S E F.names_cut [.str s] [] = some (.tup [.agg [.str [], .str [], .str [], .str []], .bool false], []) := by
  have hl := go_lastB' hs
  have hk := S_last (s := s) (t := [32, 60]) (by omega)
  rw [h] at hl
  rw [S_of fn_names_cut rfl rfl]
  simp (dsimp := false) (disch := first | omega | (simp only [LENs] <;> omega) | fail) only [L.names_cut, L.names_cut.x0, go_sem, reduceIte, reduceCtorEq, Nat.reduceEqDiff, Nat.reduceAdd, Nat.reduceSub, Nat.reduceMul, Nat.reduceDiv, Nat.reduceMod, Nat.reduceBEq, Nat.reduceLeDiff, Nat.reduceLT, Int.reduceEq, Int.reduceNe, Int.reduceLT, Int.reduceLE, Int.reduceBEq, Int.reduceBNe, Int.reduceToNat, Int.reduceAdd, Int.reduceSub, Int.reduceMul, Int.reduceNeg, tn1, tn2, Nat.sub_zero, hl, hk]
  simp (dsimp := false) (disch := first | omega | (simp only [LENs] <;> omega) | fail) only [L.names_cut.r0, go_sem, reduceIte, reduceCtorEq, Nat.reduceEqDiff, Nat.reduceAdd, Nat.reduceSub, Nat.reduceMul, Nat.reduceDiv, Nat.reduceMod, Nat.reduceBEq, Nat.reduceLeDiff, Nat.reduceLT, Int.reduceEq, Int.reduceNe, Int.reduceLT, Int.reduceLE, Int.reduceBEq, Int.reduceBNe, Int.reduceToNat, Int.reduceAdd, Int.reduceSub, Int.reduceMul, Int.reduceNeg]
theorem cut_b {s z r : List UInt8} {i : Nat} (hs : s.length ≤ 1000000000000) (h : lastB s 32 s.length = i) (hi : i < s.length) (hr : sub s 0 i = r) (hz : sub s (i + 1) (s.length - (i + 1)) = z) (h1 : lastB r 32 r.length = -1) : S E F.names_cut [.str s] [] = some (.tup [.agg [.str [], .str [], .str [], .str z], .bool false], []) := by
  have hl := go_lastB' hs
  have hrl : r.length ≤ 1000000000000 := by rw [← hr]; unfold sub; rw [List.length_take, List.length_drop]; omega
  have hl1 := go_lastB' hrl
  have hk := S_last (s := r) (t := [32, 60]) (by omega)
  rw [h] at hl
  rw [h1] at hl1
  rw [S_of fn_names_cut rfl rfl]
  simp (dsimp := false) (disch := first | omega | (simp only [LENs] <;> omega) | fail) only [L.names_cut, L.names_cut.x0, go_sem, reduceIte, reduceCtorEq, Nat.reduceEqDiff, Nat.reduceAdd, Nat.reduceSub, Nat.reduceMul, Nat.reduceDiv, Nat.reduceMod, Nat.reduceBEq, Nat.reduceLeDiff, Nat.reduceLT, Int.reduceEq, Int.reduceNe, Int.reduceLT, Int.reduceLE, Int.reduceBEq, Int.reduceBNe, Int.reduceToNat, Int.reduceAdd, Int.reduceSub, Int.reduceMul, Int.reduceNeg, tn1, tn2, Nat.sub_zero, hl, hl1, hk, hr, hz]
  simp (dsimp := false) (disch := first | omega | (simp only [LENs] <;> omega) | fail) only [L.names_cut.r0, go_sem, reduceIte, reduceCtorEq, Nat.reduceEqDiff, Nat.reduceAdd, Nat.reduceSub, Nat.reduceMul, Nat.reduceDiv, Nat.reduceMod, Nat.reduceBEq, Nat.reduceLeDiff, Nat.reduceLT, Int.reduceEq, Int.reduceNe, Int.reduceLT, Int.reduceLE, Int.reduceBEq, Int.reduceBNe, Int.reduceToNat, Int.reduceAdd, Int.reduceSub, Int.reduceMul, Int.reduceNeg]
set_option maxRecDepth 4000 in
theorem cut_c {s z r t q : List UInt8} {i j : Nat} (hs : s.length ≤ 1000000000000) (h : lastB s 32 s.length = i) (hi : i < s.length) (hr : sub s 0 i = r) (hz : sub s (i + 1) (s.length - (i + 1)) = z) (h1 : lastB r 32 r.length = j) (hj : j < r.length) (hq : sub r 0 j = q) (ht : sub r (j + 1) (r.length - (j + 1)) = t)
    (h2 : Lib.lastIndex q [32, 60] < 0 ∨ endsB q [62] = false) : S E F.names_cut [.str s] [] = some (.tup [.agg [.str [], .str [], .str t, .str z], .bool false], []) := by
  have hl := go_lastB' hs
  have hrl : r.length ≤ 1000000000000 := by rw [← hr]; unfold sub; rw [List.length_take, List.length_drop]; omega
  have hql : q.length ≤ 1000000000000 := by rw [← hq]; unfold sub; rw [List.length_take, List.length_drop]; omega
  have hl1 := go_lastB' hrl
  have hk := S_last (s := q) (t := [32, 60]) (by omega)
  have hf := go_suffix (s := q) (t := [62]) hql (by decide)
  rw [h] at hl
  rw [h1] at hl1
  rw [S_of fn_names_cut rfl rfl]
  by_cases h3 : Lib.lastIndex q [32, 60] < 0
  · simp (dsimp := false) (disch := first | omega | (simp only [LENs] <;> omega) | fail) only [L.names_cut, L.names_cut.x0, go_sem, reduceIte, reduceCtorEq, Nat.reduceEqDiff, Nat.reduceAdd, Nat.reduceSub, Nat.reduceMul, Nat.reduceDiv, Nat.reduceMod, Nat.reduceBEq, Nat.reduceLeDiff, Nat.reduceLT, Int.reduceEq, Int.reduceNe, Int.reduceLT, Int.reduceLE, Int.reduceBEq, Int.reduceBNe, Int.reduceToNat, Int.reduceAdd, Int.reduceSub, Int.reduceMul, Int.reduceNeg, tn1, tn2, Nat.sub_zero, hl, hl1, hk, hr, hz, hq, ht, h3]
    simp (dsimp := false) (disch := first | omega | (simp only [LENs] <;> omega) | fail) only [L.names_cut.r0, go_sem, reduceIte, reduceCtorEq, Nat.reduceEqDiff, Nat.reduceAdd, Nat.reduceSub, Nat.reduceMul, Nat.reduceDiv, Nat.reduceMod, Nat.reduceBEq, Nat.reduceLeDiff, Nat.reduceLT, Int.reduceEq, Int.reduceNe, Int.reduceLT, Int.reduceLE, Int.reduceBEq, Int.reduceBNe, Int.reduceToNat, Int.reduceAdd, Int.reduceSub, Int.reduceMul, Int.reduceNeg]
  · have h4 : endsB q [62] = false := by rcases h2 with h2 | h2; exact absurd h2 h3; exact h2
    rw [h4] at hf
    simp (dsimp := false) (disch := first | omega | (simp only [LENs] <;> omega) | fail) only [L.names_cut, L.names_cut.x0, go_sem, reduceIte, reduceCtorEq, Nat.reduceEqDiff, Nat.reduceAdd, Nat.reduceSub, Nat.reduceMul, Nat.reduceDiv, Nat.reduceMod, Nat.reduceBEq, Nat.reduceLeDiff, Nat.reduceLT, Int.reduceEq, Int.reduceNe, Int.reduceLT, Int.reduceLE, Int.reduceBEq, Int.reduceBNe, Int.reduceToNat, Int.reduceAdd, Int.reduceSub, Int.reduceMul, Int.reduceNeg, tn1, tn2, Nat.sub_zero, hl, hl1, hk, hf, hr, hz, hq, ht, h3]
    simp (dsimp := false) (disch := first | omega | (simp only [LENs] <;> omega) | fail) only [L.names_cut.r0, go_sem, reduceIte, reduceCtorEq, Nat.reduceEqDiff, Nat.reduceAdd, Nat.reduceSub, Nat.reduceMul, Nat.reduceDiv, Nat.reduceMod, Nat.reduceBEq, Nat.reduceLeDiff, Nat.reduceLT, Int.reduceEq, Int.reduceNe, Int.reduceLT, Int.reduceLE, Int.reduceBEq, Int.reduceBNe, Int.reduceToNat, Int.reduceAdd, Int.reduceSub, Int.reduceMul, Int.reduceNeg]
set_option maxRecDepth 4000 in
theorem cut_d {s z r t q : List UInt8} {i j k : Nat} (hs : s.length ≤ 1000000000000) (h : lastB s 32 s.length = i) (hi : i < s.length) (hr : sub s 0 i = r) (hz : sub s (i + 1) (s.length - (i + 1)) = z) (h1 : lastB r 32 r.length = j) (hj : j < r.length) (hq : sub r 0 j = q) (ht : sub r (j + 1) (r.length - (j + 1)) = t)
    (h2 : Lib.lastIndex q [32, 60] = k) (hk2 : k + 2 < q.length) (h4 : endsB q [62] = true) : S E F.names_cut [.str s] [] = some (.tup [.agg [.str (sub q 0 k), .str (sub q (k + 2) (q.length - 1 - (k + 2))), .str t, .str z], .bool true], []) := by
  have hl := go_lastB' hs
  have hrl : r.length ≤ 1000000000000 := by rw [← hr]; unfold sub; rw [List.length_take, List.length_drop]; omega
  have hql : q.length ≤ 1000000000000 := by rw [← hq]; unfold sub; rw [List.length_take, List.length_drop]; omega
  have hl1 := go_lastB' hrl
  have hk := S_last (s := q) (t := [32, 60]) (by omega)
  have hf := go_suffix (s := q) (t := [62]) hql (by decide)
  rw [h] at hl
  rw [h1] at hl1
  rw [h4] at hf
  rw [h2] at hk
  rw [S_of fn_names_cut rfl rfl]
  have e : ((q.length : Int) - 1).toNat = q.length - 1 := by omega
  simp (dsimp := false) (disch := first | omega | (simp only [LENs] <;> omega) | fail) only [L.names_cut, L.names_cut.x0, go_sem, reduceIte, reduceCtorEq, Nat.reduceEqDiff, Nat.reduceAdd, Nat.reduceSub, Nat.reduceMul, Nat.reduceDiv, Nat.reduceMod, Nat.reduceBEq, Nat.reduceLeDiff, Nat.reduceLT, Int.reduceEq, Int.reduceNe, Int.reduceLT, Int.reduceLE, Int.reduceBEq, Int.reduceBNe, Int.reduceToNat, Int.reduceAdd, Int.reduceSub, Int.reduceMul, Int.reduceNeg, tn1, tn2, Nat.sub_zero, hl, hl1, hk, hf, hr, hz, hq, ht, e]
  simp (dsimp := false) (disch := first | omega | (simp only [LENs] <;> omega) | fail) only [L.names_cut.r0, go_sem, reduceIte, reduceCtorEq, Nat.reduceEqDiff, Nat.reduceAdd, Nat.reduceSub, Nat.reduceMul, Nat.reduceDiv, Nat.reduceMod, Nat.reduceBEq, Nat.reduceLeDiff, Nat.reduceLT, Int.reduceEq, Int.reduceNe, Int.reduceLT, Int.reduceLE, Int.reduceBEq, Int.reduceBNe, Int.reduceToNat, Int.reduceAdd, Int.reduceSub, Int.reduceMul, Int.reduceNeg]
end Cod
namespace Cod
open Go
def isDig (c : UInt8) : Prop := 48 ≤ c.toNat ∧ c.toNat ≤ 57
def dstep (acc : Nat) (c : UInt8) : Nat := acc * 10 + (c.toNat - 48)
def dv (acc : Nat) (l : List UInt8) : Nat := l.foldl dstep acc
theorem dv_nil (acc : Nat) : dv acc [] = acc := by unfold dv; rw [List.foldl_nil]
theorem dv_cons (acc : Nat) (c : UInt8) (r : List UInt8) : dv acc (c :: r) = dv (acc * 10 + (c.toNat - 48)) r := by unfold dv; rw [List.foldl_cons, dstep]
theorem dv_snoc (c : UInt8) : ∀ (l : List UInt8) (acc : Nat), dv acc (l ++ [c]) = dv acc l * 10 + (c.toNat - 48) := by
  intro l
  induction l with
  | nil => intro acc; rw [List.nil_append, dv_cons, dv_nil, dv_nil]
  | cons a l ih => intro acc; rw [List.cons_append, dv_cons, dv_cons, ih]
theorem dv_ge (l : List UInt8) : ∀ acc, acc ≤ dv acc l := by
  induction l with
  | nil => intro acc; exact Nat.le_refl _
  | cons a l ih => intro acc; have := ih (acc * 10 + (a.toNat - 48)); rw [dv_cons]; omega
theorem dec_isDig (n : Nat) (h : n < 10) : isDig (UInt8.ofNat (48 + n)) ∧ (UInt8.ofNat (48 + n)).toNat - 48 = n := by
  have : (UInt8.ofNat (48 + n)).toNat = 48 + n := by simp; omega
  unfold isDig
  omega
theorem decDigits_dig : ∀ (k u : Nat), u < k → (∀ c ∈ Lib.decDigits u, isDig c) ∧ dv 0 (Lib.decDigits u) = u ∧ Lib.decDigits u ≠ [] := by
  intro k
  induction k with
  | zero => intro u h; omega
  | succ k ih =>
    intro u h
    rw [Lib.decDigits]
    split
    · rename_i h0
      obtain ⟨h1, h2⟩ := dec_isDig u h0
      refine ⟨?_, ?_, by simp⟩
      · intro c hc; rw [List.mem_singleton.1 hc]; exact h1
      · simp only [dv_nil, dv_cons, h2]; omega
    · rename_i h0
      obtain ⟨h1, h2⟩ := dec_isDig (u % 10) (by omega)
      obtain ⟨i1, i2, i3⟩ := ih (u / 10) (by omega)
      refine ⟨?_, ?_, by simp⟩
      · intro c hc
        rcases List.mem_append.1 hc with hc | hc
        · exact i1 c hc
        · rw [List.mem_singleton.1 hc]; exact h1
      · rw [dv_snoc, i2, h2]; omega
theorem parse_dig : ∀ (l : List UInt8) (acc : Nat), (∀ c ∈ l, isDig c) → dv acc l < 1000000000000000000 → Lib.parseUint10 acc l = .ok (dv acc l) := by
  intro l
  induction l with
  | nil => intro acc _ _; rfl
  | cons c r ih =>
    intro acc hd hl
    have hc := hd c List.mem_cons_self
    simp only [dv_nil, dv_cons] at hl ⊢
    have hg := dv_ge r (acc * 10 + (c.toNat - 48))
    unfold Lib.parseUint10
    rw [if_pos (show 48 ≤ c.toNat ∧ c.toNat ≤ 57 from hc), if_neg (by omega), if_neg (by omega)]
    exact ih _ (fun c hc => hd c (List.mem_cons_of_mem _ hc)) hl
theorem atoi_dig {l : List UInt8} (h0 : l ≠ []) (hd : ∀ c ∈ l, isDig c) (hl : dv 0 l < 1000000000000000000) : Lib.atoiAll l = .ok (dv 0 l) := by
  cases l with
  | nil => exact absurd rfl h0
  | cons c r =>
    have hc := hd c List.mem_cons_self
    unfold isDig at hc
    unfold Lib.atoiAll
    have e : ¬ (c.toNat = 43 ∨ c.toNat = 45) := by omega
    have e2 : ¬ c.toNat = 45 := by omega
    have hp : Lib.parseMag (c :: r) = .ok (dv 0 (c :: r)) := by unfold Lib.parseMag; rw [if_neg h0, parse_dig (c :: r) 0 hd hl]
    generalize dv 0 (c :: r) = d at *
    simp only [if_neg e, hp, if_neg e2]
    rw [if_neg (fun h => by omega), if_neg (fun h => e2 h.1)]
theorem num_dig : ∀ (l : List UInt8) (acc : Nat), (∀ c ∈ l, isDig c) → numL l acc = dv acc l := by
  intro l
  induction l with
  | nil => intro acc _; rfl
  | cons c r ih =>
    intro acc hd
    have hc := hd c List.mem_cons_self
    unfold isDig at hc
    have e : ((acc * 10 + (c.toNat - 48) : Nat) : Int) = 10 * (acc : Int) + ((c.toNat : Int) - 48) := by omega
    simp only [numL, dv_cons]
    rw [if_neg (by omega), ← ih _ (fun c hc => hd c (List.mem_cons_of_mem _ hc)), e]
theorem numF_dig {l : List UInt8} (h0 : l ≠ []) (h1 : l.length ≤ 13) (hd : ∀ c ∈ l, isDig c) : numF l = dv 0 l := by
  unfold numF
  rw [if_neg (by simp [h0]; omega)]
  exact num_dig l 0 hd
theorem byt_dig (n : Int) (h0 : 0 ≤ n) (h1 : n < 10) : isDig (byt (48 + n)) ∧ (((byt (48 + n)).toNat - 48 : Nat) : Int) = n := by
  have := byt_toNat (n := 48 + n) (by omega) (by omega)
  unfold isDig
  omega
theorem zone4 {a b : Int} (ha0 : 0 ≤ a) (ha1 : a < 100) (hb0 : 0 ≤ b) (hb1 : b < 100) : (∀ c ∈ two a ++ two b, isDig c) ∧ (dv 0 (two a ++ two b) : Int) = a * 100 + b := by
  obtain ⟨p1, p2⟩ := byt_dig (a / 10) (by omega) (by omega)
  obtain ⟨q1, q2⟩ := byt_dig (a % 10) (by omega) (by omega)
  obtain ⟨r1, r2⟩ := byt_dig (b / 10) (by omega) (by omega)
  obtain ⟨s1, s2⟩ := byt_dig (b % 10) (by omega) (by omega)
  constructor
  · intro c hc
    simp only [two, List.cons_append, List.nil_append, List.mem_cons, List.not_mem_nil, or_false] at hc
    rcases hc with hc | hc | hc | hc <;> rw [hc] <;> assumption
  · simp only [two, List.cons_append, List.nil_append, dv_nil, dv_cons]
    omega
theorem dig_ne {l : List UInt8} (hd : ∀ c ∈ l, isDig c) {x : UInt8} (hx : ¬ isDig x) : x ∉ l := fun h => hx (hd x h)
theorem itoa_dig {t : Int} (h0 : 0 ≤ t) : (∀ c ∈ Lib.itoa t, isDig c) ∧ (dv 0 (Lib.itoa t) : Int) = t ∧ Lib.itoa t ≠ [] := by
  obtain ⟨u, rfl⟩ : ∃ u : Nat, t = u := ⟨t.toNat, by omega⟩
  rw [Lib.itoa_nonneg]
  obtain ⟨h1, h2, h3⟩ := decDigits_dig (u + 1) u (by omega)
  exact ⟨h1, by rw [h2], h3⟩
theorem lastB_eq (s : List UInt8) (c : UInt8) (k : Nat) (hk : s.getD k 0 = c) : ∀ n, k < n → (∀ j, k < j → j < n → s.getD j 0 ≠ c) → lastB s c n = k := by
  intro n
  induction n with
  | zero => intro h; omega
  | succ n ih =>
    intro h hj
    unfold lastB
    by_cases hn : n = k
    · rw [hn, if_pos hk]
    · rw [if_neg (hj n (by omega) (by omega))]
      exact ih (by omega) (fun j h1 h2 => hj j h1 (by omega))
theorem lastB_app {a v : List UInt8} {c : UInt8} (h : c ∉ v) : lastB (a ++ c :: v) c (a ++ c :: v).length = a.length := by
  apply lastB_eq
  · simp [List.getD]
  · simp
  · intro j h1 h2 h3
    apply h
    rw [List.length_append, List.length_cons] at h2
    rw [List.getD_eq_getElem?_getD, List.getElem?_append_right (by omega), show j - a.length = (j - a.length - 1) + 1 by omega, List.getElem?_cons_succ, List.getElem?_eq_getElem (by omega)] at h3
    rw [← h3]
    exact List.getElem_mem _
theorem occ2 (q : List UInt8) (i : Nat) : Lib.occAt q [32, 60] i = true ↔ q[i]? = some 32 ∧ q[i + 1]? = some 60 := by
  unfold Lib.occAt
  have e0 : q[i]? = (q.drop i)[0]? := by rw [List.getElem?_drop]; rfl
  have e1 : q[i + 1]? = (q.drop i)[1]? := by rw [List.getElem?_drop]
  rw [e0, e1]
  generalize q.drop i = l
  cases l with
  | nil => simp [List.isPrefixOf]
  | cons a l => cases l with
    | nil => simp [List.isPrefixOf]
    | cons b l => simp [List.isPrefixOf]; constructor <;> rintro ⟨rfl, rfl⟩ <;> exact ⟨rfl, rfl⟩
theorem last_app {a b : List UInt8} (h : 60 ∉ b) : Lib.lastIndex (a ++ [32, 60] ++ b) [32, 60] = a.length := by
  unfold Lib.lastIndex
  rw [if_pos (by simp only [List.length_append, List.length_cons, List.length_nil]; omega)]
  have hocc : Lib.occAt (a ++ [32, 60] ++ b) [32, 60] a.length = true := by
    rw [occ2]
    constructor <;> simp
  rcases Lib.lastOcc_spec (a ++ [32, 60] ++ b) [32, 60] ((a ++ [32, 60] ++ b).length - [(32 : UInt8), 60].length + 1) with ⟨_, hn⟩ | ⟨i, h1, h2, h3, h4⟩
  · have := hn a.length (by simp only [List.length_append, List.length_cons, List.length_nil]; omega)
    rw [hocc] at this; cases this
  · rw [h2]
    by_cases hlt : i < a.length
    · have := h4 a.length hlt (by simp only [List.length_append, List.length_cons, List.length_nil]; omega)
      rw [hocc] at this; cases this
    · by_cases he : i = a.length
      · rw [he]
      · exfalso
        rw [occ2] at h3
        apply h
        have h5 := h3.2
        rw [List.append_assoc, List.getElem?_append_right (by omega), List.getElem?_append_right (by simp; omega)] at h5
        exact List.mem_of_getElem? h5
theorem ends1 (q : List UInt8) (c : UInt8) : endsB q [c] = true ↔ q ≠ [] ∧ q[q.length - 1]? = some c := by
  unfold endsB
  simp only [List.length_cons, List.length_nil, Bool.and_eq_true, decide_eq_true_eq, beq_iff_eq]
  cases q with
  | nil => simp
  | cons a q =>
    simp only [List.length_cons, ne_eq, reduceCtorEq, not_false_eq_true, true_and]
    have e : (a :: q)[q.length + 1 - 1]? = ((a :: q).drop (q.length + 1 - (0 + 1)))[0]? := by rw [List.getElem?_drop]; rfl
    rw [e]
    have hl : ((a :: q).drop (q.length + 1 - (0 + 1))).length = 1 := by rw [List.length_drop, List.length_cons]; omega
    generalize (a :: q).drop (q.length + 1 - (0 + 1)) = l at *
    cases l with
    | nil => simp at hl
    | cons x l => cases l with
      | nil => simp
      | cons y l => simp at hl
theorem last_room {q : List UInt8} {k : Nat} (h : Lib.lastIndex q [32, 60] = k) (he : endsB q [62] = true) : k + 2 < q.length := by
  unfold Lib.lastIndex at h
  split at h
  · rcases Lib.lastOcc_spec q [32, 60] (q.length - [(32 : UInt8), 60].length + 1) with ⟨h1, _⟩ | ⟨i, h1, h2, h3, _⟩
    · rw [h1] at h; omega
    · rw [h2] at h
      obtain rfl : i = k := by omega
      obtain ⟨_, e2⟩ := (ends1 q 62).1 he
      obtain ⟨_, e1⟩ := (occ2 q i).1 h3
      have hlt : i + 1 < q.length := (List.getElem?_eq_some_iff.1 e1).1
      by_cases hx : i + 1 = q.length - 1
      · rw [hx, e2] at e1; cases e1
      · omega
  · omega
theorem last_cases (q : List UInt8) : Lib.lastIndex q [32, 60] < 0 ∨ ∃ k : Nat, Lib.lastIndex q [32, 60] = k := by
  by_cases h : Lib.lastIndex q [32, 60] < 0
  · left; exact h
  · right; exact ⟨(Lib.lastIndex q [32, 60]).toNat, by omega⟩
end Cod
namespace Cod
open Go
set_option maxRecDepth 100000
theorem enc_high4 {r : Int} (h0 : 128 ≤ r) (h1 : r ≤ 1114111) : 2 ≤ (encS r).length ∧ (encS r).length ≤ 4 ∧ 128 ≤ bat (encS r) ((encS r).length - 1) := by
  unfold encS Utf8.encode Utf8.runeError
  simp only []
  generalize hc : (if Utf8.valid r = true then r.toNat else 65533) = c
  have hc0 : 128 ≤ c := by
    rw [← hc]; split
    · omega
    · omega
  rw [if_neg (by omega)]
  split
  · refine ⟨by simp, by simp, ?_⟩
    simp [bat]
    omega
  · split
    · refine ⟨by simp, by simp, ?_⟩
      simp [bat]
      omega
    · refine ⟨by simp, by simp, ?_⟩
      simp [bat]
      omega
theorem go_rune_err4 : S E0 F.strings_IndexRune [.str [0, 10, 60, 62], .int .i32 65533] [] = some (.int .i64 (-1), []) := S_iff.2 ⟨300, by kernel_rfl⟩
theorem go_rune_low4 {r : Int} (h0 : 0 ≤ r) (h1 : r < 128) : S E0 F.strings_IndexRune [.str [0, 10, 60, 62], .int .i32 r] [] = some (.int .i64 (indexB [0, 10, 60, 62] (byt r)), []) := by
  rw [S_of0 fn_strings_IndexRune rfl rfl]
  have h2 : IntKind.u8.wrap r = r := by rw [wrap_u8]; omega
  simp (dsimp := false) (disch := first | omega | (simp only [LENs] <;> omega) | fail) only [L.strings_IndexRune, go_sem, reduceIte, reduceCtorEq, Nat.reduceEqDiff, Nat.reduceAdd, Nat.reduceSub, Nat.reduceMul, Nat.reduceDiv, Nat.reduceMod, Nat.reduceBEq, Nat.reduceLeDiff, Nat.reduceLT, Int.reduceEq, Int.reduceNe, Int.reduceLT, Int.reduceLE, Int.reduceBEq, Int.reduceBNe, Int.reduceToNat, Int.reduceAdd, Int.reduceSub, Int.reduceMul, Int.reduceNeg, dec_t h0, dec_t h1, h2, go_sindex]
theorem go_rune_high4 {r : Int} (h0 : 128 ≤ r) (h1 : r ≤ 1114111) : S E0 F.strings_IndexRune [.str [0, 10, 60, 62], .int .i32 r] [] = some (.int .i64 (-1), []) := by
  by_cases he : r = 65533
  · subst he; exact go_rune_err4
  · have h2 : ¬ r < 128 := by omega
    have h3 : (0 : Int) ≤ r := by omega
    rw [S_of0 fn_strings_IndexRune rfl rfl]
    have hvv : S E0 F.utf8_ValidRune [.int .i32 r] [] = some (.bool (decide (r < 55296) || decide (57343 < r)), []) := by rw [go_valid h0, dec_t h1, Bool.and_true]
    cases hv : (decide (r < 55296) || decide (57343 < r)) with
    | false => simp (dsimp := false) (disch := first | omega | (simp only [LENs] <;> omega) | fail) only [L.strings_IndexRune, go_sem, reduceIte, reduceCtorEq, Nat.reduceEqDiff, Nat.reduceAdd, Nat.reduceSub, Nat.reduceMul, Nat.reduceDiv, Nat.reduceMod, Nat.reduceBEq, Nat.reduceLeDiff, Nat.reduceLT, Int.reduceEq, Int.reduceNe, Int.reduceLT, Int.reduceLE, Int.reduceBEq, Int.reduceBNe, Int.reduceToNat, Int.reduceAdd, Int.reduceSub, Int.reduceMul, Int.reduceNeg, dec_t h3, dec_f h2, beq_f he, hvv, hv]
    | true =>
      obtain ⟨e1, e2, e3⟩ := enc_high4 h0 h1
      simp (dsimp := false) (disch := first | omega | (simp only [LENs] <;> omega) | fail) only [L.strings_IndexRune, go_sem, reduceIte, reduceCtorEq, Nat.reduceEqDiff, Nat.reduceAdd, Nat.reduceSub, Nat.reduceMul, Nat.reduceDiv, Nat.reduceMod, Nat.reduceBEq, Nat.reduceLeDiff, Nat.reduceLT, Int.reduceEq, Int.reduceNe, Int.reduceLT, Int.reduceLE, Int.reduceBEq, Int.reduceBNe, Int.reduceToNat, Int.reduceAdd, Int.reduceSub, Int.reduceMul, Int.reduceNeg, dec_t h3, dec_f h2, beq_f he, hvv, hv]
      rw [X_in L.strings_IndexRune.x1.eq_1]
      have hb := bat_range (encS r) ((encS r).length - 1)
      have hno : ∀ l : List UInt8, (∀ c ∈ l, c.toNat < 128) → indexB l (byt (bat (encS r) ((encS r).length - 1))) = -1 := by
        intro l hl
        unfold indexB
        rw [if_neg]
        intro hm
        have := hl _ hm
        have h5 : ((byt (bat (encS r) ((encS r).length - 1))).toNat : Int) = bat (encS r) ((encS r).length - 1) := by
          have := int_byt hb.1 hb.2
          simp only [AV.int.injEq, true_and] at this
          exact this.symm
        omega
      have b4 := hno [60, 62] (by simp)
      have b5 := hno [62] (by simp)
      have b6 := hno [] (by simp)
      have hk : (encS r).length = 2 ∨ (encS r).length = 3 ∨ (encS r).length = 4 := by omega
      rcases hk with e4 | e4 | e4 <;> rw [e4] at e3 b4 b5 b6 <;> simp only [Nat.reduceSub] at e3 b4 b5 b6
      · have b1 : bat [0, 10, 60, 62] 1 = 10 := rfl
        have b2 : ((((10 : UInt8).toNat : Nat) : Int) != bat (encS r) 1) = true := bne_t (by show (10 : Int) ≠ _; omega)
        have b3 : (((2 : Nat) : Int) - 1).toNat = 1 := rfl
        have b7 : List.drop (((2 : Nat) : Int) - 1 + 1).toNat ([0, 10, 60, 62] : List UInt8) = [60, 62] := rfl
        simp (dsimp := false) (disch := first | omega | (simp only [LENs] <;> omega) | fail) only [go_sem, reduceIte, reduceCtorEq, Nat.reduceEqDiff, Nat.reduceAdd, Nat.reduceSub, Nat.reduceMul, Nat.reduceDiv, Nat.reduceMod, Nat.reduceBEq, Nat.reduceLeDiff, Nat.reduceLT, Int.reduceEq, Int.reduceNe, Int.reduceLT, Int.reduceLE, Int.reduceBEq, Int.reduceBNe, Int.reduceToNat, Int.reduceAdd, Int.reduceSub, Int.reduceMul, Int.reduceNeg, L.strings_IndexRune.r2, e4, b1, b2, b3, go_sindex, sub_take, take_len, sub_drop, b7, b4]
      · have b1 : bat [0, 10, 60, 62] 2 = 60 := rfl
        have b2 : ((((60 : UInt8).toNat : Nat) : Int) != bat (encS r) 2) = true := bne_t (by show (60 : Int) ≠ _; omega)
        have b3 : (((3 : Nat) : Int) - 1).toNat = 2 := rfl
        have b7 : List.drop (((3 : Nat) : Int) - 1 + 1).toNat ([0, 10, 60, 62] : List UInt8) = [62] := rfl
        simp (dsimp := false) (disch := first | omega | (simp only [LENs] <;> omega) | fail) only [go_sem, reduceIte, reduceCtorEq, Nat.reduceEqDiff, Nat.reduceAdd, Nat.reduceSub, Nat.reduceMul, Nat.reduceDiv, Nat.reduceMod, Nat.reduceBEq, Nat.reduceLeDiff, Nat.reduceLT, Int.reduceEq, Int.reduceNe, Int.reduceLT, Int.reduceLE, Int.reduceBEq, Int.reduceBNe, Int.reduceToNat, Int.reduceAdd, Int.reduceSub, Int.reduceMul, Int.reduceNeg, L.strings_IndexRune.r2, e4, b1, b2, b3, go_sindex, sub_take, take_len, sub_drop, b7, b5]
      · have b1 : bat [0, 10, 60, 62] 3 = 62 := rfl
        have b2 : ((((62 : UInt8).toNat : Nat) : Int) != bat (encS r) 3) = true := bne_t (by show (62 : Int) ≠ _; omega)
        have b3 : (((4 : Nat) : Int) - 1).toNat = 3 := rfl
        have b7 : List.drop (((4 : Nat) : Int) - 1 + 1).toNat ([0, 10, 60, 62] : List UInt8) = [] := rfl
        simp (dsimp := false) (disch := first | omega | (simp only [LENs] <;> omega) | fail) only [go_sem, reduceIte, reduceCtorEq, Nat.reduceEqDiff, Nat.reduceAdd, Nat.reduceSub, Nat.reduceMul, Nat.reduceDiv, Nat.reduceMod, Nat.reduceBEq, Nat.reduceLeDiff, Nat.reduceLT, Int.reduceEq, Int.reduceNe, Int.reduceLT, Int.reduceLE, Int.reduceBEq, Int.reduceBNe, Int.reduceToNat, Int.reduceAdd, Int.reduceSub, Int.reduceMul, Int.reduceNeg, L.strings_IndexRune.r2, e4, b1, b2, b3, go_sindex, sub_take, take_len, sub_drop, b7, b6]
def bad4 (b : UInt8) : Bool := b == 0 || (b == 10 || (b == 60 || b == 62))
theorem index4_n : ∀ n : Nat, n < 256 → decide (0 ≤ indexB [0, 10, 60, 62] (UInt8.ofNat n)) = bad4 (UInt8.ofNat n) := by decide +kernel
theorem index4 (b : UInt8) : (0 ≤ indexB [0, 10, 60, 62] b) ↔ bad4 b = true := by
  have := index4_n b.toNat b.toNat_lt
  rw [UInt8.ofNat_toNat] at this
  rw [← this, decide_eq_true_eq]
theorem high4_n : ∀ n : Nat, n < 256 → 128 ≤ n → bad4 (UInt8.ofNat n) = false := by decide +kernel
theorem any_walk4 {s : List UInt8} (hs : s.length ≤ 1000000) : ∀ (m p : Nat), p + m ≤ s.length → s.length ≤ p + m → ∃ i : Int, ((0 ≤ i) ↔ (s.drop p).any bad4 = true) ∧
    X E0 [.tmp 4] (.c L.strings_IndexAny.x1 :: .lp [1, 45] L.strings_IndexAny.x1 :: .blk 2 :: .c L.strings_IndexAny.r2 :: []) ⟨[(1, .str [0, 10, 60, 62]), (45, .it (.s 1000000 0) 0)], [(.s 1000000 0, ⟨0, true, true, true, [.itr s p]⟩)]⟩ = some (.int .i64 i, []) := by
  intro m
  induction m using Nat.strongRecOn with
  | _ m ih =>
    intro p h1 h2
    rw [X_in L.strings_IndexAny.x1.eq_1]
    by_cases hp : p < s.length
    · have hd : s.drop p = s.getD p 0 :: s.drop (p + 1) := by
        rw [List.drop_eq_getElem_cons hp]; simp [hp]
      rcases dec_facts hp with ⟨e1, e2, e3⟩ | ⟨e1, e2, e3, e4, e5⟩
      · cases hbad : bad4 (s.getD p 0) with
        | true =>
          have h3 := (index4 (byt (bat s p))).2 (by rw [byt_bat]; exact hbad)
          refine ⟨p, ⟨fun _ => by rw [hd, List.any_cons, hbad]; rfl, fun _ => by omega⟩, ?_⟩
          simp (dsimp := false) (disch := first | omega | (simp only [LENs] <;> omega) | fail) only [go_sem, reduceIte, reduceCtorEq, Nat.reduceEqDiff, Nat.reduceAdd, Nat.reduceSub, Nat.reduceMul, Nat.reduceDiv, Nat.reduceMod, Nat.reduceBEq, Nat.reduceLeDiff, Nat.reduceLT, Int.reduceEq, Int.reduceNe, Int.reduceLT, Int.reduceLE, Int.reduceBEq, Int.reduceBNe, Int.reduceToNat, Int.reduceAdd, Int.reduceSub, Int.reduceMul, Int.reduceNeg, hp, e2, e3, go_rune_low4 (bat_range s p).1 e1, dec_t h3]
        | false =>
          have h3 : ¬ 0 ≤ indexB [0, 10, 60, 62] (byt (bat s p)) := fun h => by rw [index4, byt_bat, hbad] at h; cases h
          obtain ⟨i, h4, h5⟩ := ih (m - 1) (by omega) (p + 1) (by omega) (by omega)
          refine ⟨i, by rw [h4, hd, List.any_cons, hbad, Bool.false_or], ?_⟩
          rw [← h5]
          simp (dsimp := false) (disch := first | omega | (simp only [LENs] <;> omega) | fail) only [go_sem, reduceIte, reduceCtorEq, Nat.reduceEqDiff, Nat.reduceAdd, Nat.reduceSub, Nat.reduceMul, Nat.reduceDiv, Nat.reduceMod, Nat.reduceBEq, Nat.reduceLeDiff, Nat.reduceLT, Int.reduceEq, Int.reduceNe, Int.reduceLT, Int.reduceLE, Int.reduceBEq, Int.reduceBNe, Int.reduceToNat, Int.reduceAdd, Int.reduceSub, Int.reduceMul, Int.reduceNeg, hp, e2, e3, go_rune_low4 (bat_range s p).1 e1, dec_f h3]
      · have hw : p + (decS s p).2 ≤ s.length := by
          have := (e5 (p + (decS s p).2 - 1) (by omega) (by omega)).1
          omega
        obtain ⟨i, h4, h5⟩ := ih (m - (decS s p).2) (by omega) (p + (decS s p).2) (by omega) (by omega)
        refine ⟨i, ?_, ?_⟩
        · rw [h4]
          have : ∀ w, p + w ≤ s.length → (∀ j, p ≤ j → j < p + w → j < s.length ∧ 128 ≤ bat s j) → (s.drop p).any bad4 = (s.drop (p + w)).any bad4 := by
            intro w
            induction w with
            | zero => intro _ _; rfl
            | succ w ihw =>
              intro hw1 hw2
              rw [ihw (by omega) (fun j j1 j2 => hw2 j j1 (by omega)), List.drop_eq_getElem_cons (by omega : p + w < s.length), List.any_cons]
              have hh := (hw2 (p + w) (by omega) (by omega)).2
              have : bad4 s[p + w] = false := by
                unfold bat at hh
                rw [List.getD_eq_getElem?_getD, List.getElem?_eq_getElem (by omega), Option.getD_some] at hh
                have h9 := high4_n s[p + w].toNat (UInt8.toNat_lt _) (by omega)
                rwa [UInt8.ofNat_toNat] at h9
              rw [this, Bool.false_or]
              rfl
          rw [this _ hw e5]
        · rw [← h5]
          have h6 := go_rune_high4 (r := ((decS s p).1 : Int)) (by omega) (by omega)
          simp (dsimp := false) (disch := first | omega | (simp only [LENs] <;> omega) | fail) only [go_sem, reduceIte, reduceCtorEq, Nat.reduceEqDiff, Nat.reduceAdd, Nat.reduceSub, Nat.reduceMul, Nat.reduceDiv, Nat.reduceMod, Nat.reduceBEq, Nat.reduceLeDiff, Nat.reduceLT, Int.reduceEq, Int.reduceNe, Int.reduceLT, Int.reduceLE, Int.reduceBEq, Int.reduceBNe, Int.reduceToNat, Int.reduceAdd, Int.reduceSub, Int.reduceMul, Int.reduceNeg, hp, h6]
    · refine ⟨-1, ⟨fun h => by omega, fun h => by rw [List.drop_of_length_le (by omega)] at h; simp at h⟩, ?_⟩
      simp (dsimp := false) (disch := first | omega | (simp only [LENs] <;> omega) | fail) only [go_sem, reduceIte, reduceCtorEq, Nat.reduceEqDiff, Nat.reduceAdd, Nat.reduceSub, Nat.reduceMul, Nat.reduceDiv, Nat.reduceMod, Nat.reduceBEq, Nat.reduceLeDiff, Nat.reduceLT, Int.reduceEq, Int.reduceNe, Int.reduceLT, Int.reduceLE, Int.reduceBEq, Int.reduceBNe, Int.reduceToNat, Int.reduceAdd, Int.reduceSub, Int.reduceMul, Int.reduceNeg, hp, L.strings_IndexAny.r2]
def set4 : List AV := (List.range 256).map fun i => .bool (i == 0 || (i == 10 || (i == 60 || i == 62)))
theorem go_set4 : S E0 F.strings_makeASCIISet [.str [0, 10, 60, 62]] [] = some (.tup [.agg set4, .bool true], []) := S_iff.2 ⟨300, by kernel_rfl⟩
theorem set4_get : ∀ n : Nat, n < 256 → set4[n]? = some (.bool (bad4 (UInt8.ofNat n))) := by
  intro n hn
  simp only [set4, List.getElem?_map, List.getElem?_range hn, Option.map_some, bad4]
  have : ∀ n : Nat, n < 256 → (n == 0 || (n == 10 || (n == 60 || n == 62))) = (UInt8.ofNat n == 0 || (UInt8.ofNat n == 10 || (UInt8.ofNat n == 60 || UInt8.ofNat n == 62))) := by decide +kernel
  rw [this n hn]
theorem flats_set4 : flats set4 = true := by kernel_rfl
theorem set4_length : set4.length = 256 := by simp [set4]
theorem set4_at {b : Int} (h0 : 0 ≤ b) (h1 : b < 256) : set4[b.toNat]? = some (.bool (bad4 (byt b))) := set4_get b.toNat (by omega)
theorem flat4 : leadss set4 = false := by kernel_rfl
theorem refs4 : refsOfs set4 = [] := by kernel_rfl
theorem rens4 (f : Site → Nat → Option (Site × Nat)) : rens f set4 = set4 := rens_flats set4 flats_set4
theorem hards4 : hards set4 = true := by kernel_rfl
theorem go_contains4 {x : Site} {b : Int} (h0 : 0 ≤ b) (h1 : b < 256) : S E0 F.strings_asciiSet_contains [.ref (.up x) 0 0, .int .u8 b] [(.up x, ⟨0, true, true, true, set4⟩)] = some (.bool (bad4 (byt b)), [(.up x, ⟨0, true, true, true, set4⟩)]) := by
  rw [S_of0 fn_strings_asciiSet_contains rfl rfl]
  simp (dsimp := false) (disch := first | omega | (simp only [LENs] <;> omega) | fail) only [L.strings_asciiSet_contains, go_sem, reduceIte, reduceCtorEq, Nat.reduceEqDiff, Nat.reduceAdd, Nat.reduceSub, Nat.reduceMul, Nat.reduceDiv, Nat.reduceMod, Nat.reduceBEq, Nat.reduceLeDiff, Nat.reduceLT, Int.reduceEq, Int.reduceNe, Int.reduceLT, Int.reduceLE, Int.reduceBEq, Int.reduceBNe, Int.reduceToNat, Int.reduceAdd, Int.reduceSub, Int.reduceMul, Int.reduceNeg, set4_length, flats_set4, flat4, refs4, rens4, hards4, set4_at h0 h1]
theorem set_walk4 {s : List UInt8} (hs : s.length ≤ 1000000) : ∀ (m p : Nat), p + m = s.length → ∃ i : Int, ((0 ≤ i) ↔ (s.drop p).any bad4 = true) ∧
    X E0 [.tmp 4] (.c L.strings_IndexAny.x0 :: .lp [0, 6, 8] L.strings_IndexAny.x0 :: .blk 0 :: .c L.strings_IndexAny.r0 :: .c L.strings_IndexAny.r1 :: []) ⟨[(0, .str s), (6, .ref (.s 1000000 0) 0 0), (8, .int .i64 p)], [(.s 1000000 0, ⟨0, true, true, true, set4⟩)]⟩ = some (.int .i64 i, []) := by
  intro m
  induction m with
  | zero =>
    intro p h
    refine ⟨-1, ⟨fun h => by omega, fun h => by rw [List.drop_of_length_le (by omega)] at h; simp at h⟩, ?_⟩
    rw [X_in L.strings_IndexAny.x0.eq_1]
    simp (dsimp := false) (disch := first | omega | (simp only [LENs] <;> omega) | fail) only [go_sem, reduceIte, reduceCtorEq, Nat.reduceEqDiff, Nat.reduceAdd, Nat.reduceSub, Nat.reduceMul, Nat.reduceDiv, Nat.reduceMod, Nat.reduceBEq, Nat.reduceLeDiff, Nat.reduceLT, Int.reduceEq, Int.reduceNe, Int.reduceLT, Int.reduceLE, Int.reduceBEq, Int.reduceBNe, Int.reduceToNat, Int.reduceAdd, Int.reduceSub, Int.reduceMul, Int.reduceNeg, set4_length, flats_set4, flat4, refs4, rens4, hards4, L.strings_IndexAny.r0]
  | succ m ih =>
    intro p h
    have hp : p < s.length := by omega
    have hd : s.drop p = s.getD p 0 :: s.drop (p + 1) := by
      rw [List.drop_eq_getElem_cons hp]; simp [hp]
    obtain ⟨b0, b1⟩ := bat_range s p
    cases hbad : bad4 (s.getD p 0) with
    | true =>
      have h3 : bad4 (byt (bat s p)) = true := by rw [byt_bat]; exact hbad
      refine ⟨p, ⟨fun _ => by rw [hd, List.any_cons, hbad]; rfl, fun _ => by omega⟩, ?_⟩
      rw [X_in L.strings_IndexAny.x0.eq_1]
      simp (dsimp := false) (disch := first | omega | (simp only [LENs] <;> omega) | fail) only [go_sem, reduceIte, reduceCtorEq, Nat.reduceEqDiff, Nat.reduceAdd, Nat.reduceSub, Nat.reduceMul, Nat.reduceDiv, Nat.reduceMod, Nat.reduceBEq, Nat.reduceLeDiff, Nat.reduceLT, Int.reduceEq, Int.reduceNe, Int.reduceLT, Int.reduceLE, Int.reduceBEq, Int.reduceBNe, Int.reduceToNat, Int.reduceAdd, Int.reduceSub, Int.reduceMul, Int.reduceNeg, set4_length, flats_set4, flat4, refs4, rens4, hards4, go_contains4 b0 b1, h3]
    | false =>
      have h3 : bad4 (byt (bat s p)) = false := by rw [byt_bat]; exact hbad
      obtain ⟨i, h4, h5⟩ := ih (p + 1) (by omega)
      refine ⟨i, by rw [h4, hd, List.any_cons, hbad, Bool.false_or], ?_⟩
      rw [← h5, X_in L.strings_IndexAny.x0.eq_1]
      simp (dsimp := false) (disch := first | omega | (simp only [LENs] <;> omega) | fail) only [go_sem, reduceIte, reduceCtorEq, Nat.reduceEqDiff, Nat.reduceAdd, Nat.reduceSub, Nat.reduceMul, Nat.reduceDiv, Nat.reduceMod, Nat.reduceBEq, Nat.reduceLeDiff, Nat.reduceLT, Int.reduceEq, Int.reduceNe, Int.reduceLT, Int.reduceLE, Int.reduceBEq, Int.reduceBNe, Int.reduceToNat, Int.reduceAdd, Int.reduceSub, Int.reduceMul, Int.reduceNeg, set4_length, flats_set4, flat4, refs4, rens4, hards4, go_contains4 b0 b1, h3]
      rfl
theorem go_any4 {s : List UInt8} (hs : s.length ≤ 1000000) : ∃ i : Int, ((0 ≤ i) ↔ s.any bad4 = true) ∧ S E0 F.strings_IndexAny [.str s, .str [0, 10, 60, 62]] [] = some (.int .i64 i, []) := by
  rw [S_of0 fn_strings_IndexAny rfl rfl]
  have e0 : (([0, 10, 60, 62] : List UInt8) == []) = false := rfl
  by_cases h8 : 8 < s.length
  · obtain ⟨i, h1, h2⟩ := set_walk4 hs s.length 0 (by omega)
    refine ⟨i, by simpa using h1, ?_⟩
    rw [← h2]
    have h9 : decide (8 < (s.length : Int)) = true := by simp; omega
    simp (dsimp := false) (disch := first | omega | (simp only [LENs] <;> omega) | fail) only [L.strings_IndexAny, go_sem, reduceIte, reduceCtorEq, Nat.reduceEqDiff, Nat.reduceAdd, Nat.reduceSub, Nat.reduceMul, Nat.reduceDiv, Nat.reduceMod, Nat.reduceBEq, Nat.reduceLeDiff, Nat.reduceLT, Int.reduceEq, Int.reduceNe, Int.reduceLT, Int.reduceLE, Int.reduceBEq, Int.reduceBNe, Int.reduceToNat, Int.reduceAdd, Int.reduceSub, Int.reduceMul, Int.reduceNeg, set4_length, flats_set4, flat4, refs4, rens4, hards4, e0, go_use, h9, go_set4]
    rfl
  · obtain ⟨i, h1, h2⟩ := any_walk4 hs s.length 0 (by omega) (by omega)
    refine ⟨i, by simpa using h1, ?_⟩
    rw [← h2]
    have h9 : decide (8 < (s.length : Int)) = false := by simp; omega
    simp (dsimp := false) (disch := first | omega | (simp only [LENs] <;> omega) | fail) only [L.strings_IndexAny, go_sem, reduceIte, reduceCtorEq, Nat.reduceEqDiff, Nat.reduceAdd, Nat.reduceSub, Nat.reduceMul, Nat.reduceDiv, Nat.reduceMod, Nat.reduceBEq, Nat.reduceLeDiff, Nat.reduceLT, Int.reduceEq, Int.reduceNe, Int.reduceLT, Int.reduceLE, Int.reduceBEq, Int.reduceBNe, Int.reduceToNat, Int.reduceAdd, Int.reduceSub, Int.reduceMul, Int.reduceNeg, set4_length, flats_set4, flat4, refs4, rens4, hards4, e0, go_use, h9, L.strings_IndexAny.r1]
theorem go_containsAny4 {s : List UInt8} (hs : s.length ≤ 1000000) : S E0 F.strings_ContainsAny [.str s, .str [0, 10, 60, 62]] [] = some (.bool (s.any bad4), []) := by
  rw [S_of0 fn_strings_ContainsAny rfl rfl]
  obtain ⟨i, h1, h2⟩ := go_any4 hs
  have h3 : decide (0 ≤ i) = s.any bad4 := by
    cases h : s.any bad4 with
    | true => simp [h1.2 h]
    | false => rw [decide_eq_false_iff_not, h1, h]; simp
  simp (dsimp := false) (disch := first | omega | (simp only [LENs] <;> omega) | fail) only [L.strings_ContainsAny, go_sem, reduceIte, reduceCtorEq, Nat.reduceEqDiff, Nat.reduceAdd, Nat.reduceSub, Nat.reduceMul, Nat.reduceDiv, Nat.reduceMod, Nat.reduceBEq, Nat.reduceLeDiff, Nat.reduceLT, Int.reduceEq, Int.reduceNe, Int.reduceLT, Int.reduceLE, Int.reduceBEq, Int.reduceBNe, Int.reduceToNat, Int.reduceAdd, Int.reduceSub, Int.reduceMul, Int.reduceNeg, h2, h3]
end Cod

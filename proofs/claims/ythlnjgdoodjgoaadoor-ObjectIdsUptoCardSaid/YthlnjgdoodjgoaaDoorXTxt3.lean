/- SHA-256: the program's and the reference's. -/
import Derived.KernelRfl
import Derived.Test.YthlnjgdoodjgoaaDoorXTxt2
set_option linter.unusedSimpArgs false
set_option linter.unusedVariables false
namespace Cod
open Go

def rotr (x : BitVec 32) (n : Nat) : BitVec 32 := x >>> n ||| x <<< (32 - n)

theorem rot_of {x : BitVec 32} {k : Int} {n : Nat} (hn : n ≤ 32) (hk : iand .u64 (IntKind.u64.wrap k) 31 = ((32 - n : Nat) : Int)) :
    S E F.bits_RotateLeft32 [W x, .int .i64 k] [] = some (W (rotr x n), []) := by
  have h1 : IntKind.u64.wrap (32 - ((32 - n : Nat) : Int)) = (n : Int) := by
    simp only [IntKind.wrap, IntKind.signed, IntKind.bits]
    simp
    omega
  rw [S_of fn_bits_RotateLeft32 rfl rfl]
  simp (disch := omega) only [L.bits_RotateLeft32, go_sem, reduceIte, reduceCtorEq, Nat.reduceEqDiff, Nat.reduceAdd, Nat.reduceSub, Nat.reduceMul, Nat.reduceDiv, Nat.reduceMod, Nat.reduceBEq, Nat.reduceLeDiff, Nat.reduceLT, Int.reduceEq, Int.reduceNe, Int.reduceLT, Int.reduceLE, Int.reduceBEq, Int.reduceBNe, Int.reduceToNat, Int.reduceAdd, Int.reduceSub, Int.reduceMul, Int.reduceNeg, take_words, drop_words, sub_words, over_words_all, zer_words, w_add, w_and, w_or, w_xor, w_not, w_shl, w_shr, flats_words, hards_words, leadss_words, refsOfs_words, rens_words, words_length, get_words, over_words, hard_W, flat_W, refsOf_W, leads_W, ren_W, view_W, view1_W, cellsO_W, cvi_bw, cvi_wb, hk, h1]
  rw [rotr, BitVec.or_comm]
theorem rot_7 {x : BitVec 32} : S E F.bits_RotateLeft32 [W x, .int .i64 (-7)] [] = some (W (rotr x 7), []) := rot_of (by omega) (by decide)
theorem rot_18 {x : BitVec 32} : S E F.bits_RotateLeft32 [W x, .int .i64 (-18)] [] = some (W (rotr x 18), []) := rot_of (by omega) (by decide)
theorem rot_17 {x : BitVec 32} : S E F.bits_RotateLeft32 [W x, .int .i64 (-17)] [] = some (W (rotr x 17), []) := rot_of (by omega) (by decide)
theorem rot_19 {x : BitVec 32} : S E F.bits_RotateLeft32 [W x, .int .i64 (-19)] [] = some (W (rotr x 19), []) := rot_of (by omega) (by decide)
theorem rot_6 {x : BitVec 32} : S E F.bits_RotateLeft32 [W x, .int .i64 (-6)] [] = some (W (rotr x 6), []) := rot_of (by omega) (by decide)
theorem rot_11 {x : BitVec 32} : S E F.bits_RotateLeft32 [W x, .int .i64 (-11)] [] = some (W (rotr x 11), []) := rot_of (by omega) (by decide)
theorem rot_25 {x : BitVec 32} : S E F.bits_RotateLeft32 [W x, .int .i64 (-25)] [] = some (W (rotr x 25), []) := rot_of (by omega) (by decide)
theorem rot_2 {x : BitVec 32} : S E F.bits_RotateLeft32 [W x, .int .i64 (-2)] [] = some (W (rotr x 2), []) := rot_of (by omega) (by decide)
theorem rot_13 {x : BitVec 32} : S E F.bits_RotateLeft32 [W x, .int .i64 (-13)] [] = some (W (rotr x 13), []) := rot_of (by omega) (by decide)
theorem rot_22 {x : BitVec 32} : S E F.bits_RotateLeft32 [W x, .int .i64 (-22)] [] = some (W (rotr x 22), []) := rot_of (by omega) (by decide)

/-- The word at four bytes. -/
def word4 (b : List UInt8) (i : Nat) : BitVec 32 := bw b (4 * i) <<< 24 ||| bw b (4 * i + 1) <<< 16 ||| bw b (4 * i + 2) <<< 8 ||| bw b (4 * i + 3)
def fill1 (b : List UInt8) : Nat → Nat → List (BitVec 32) → List (BitVec 32)
  | 0, _, ws => ws
  | m + 1, i, ws => fill1 b m (i + 1) (ws.set i (word4 b i))
def sig0 (x : BitVec 32) : BitVec 32 := rotr x 7 ^^^ rotr x 18 ^^^ x >>> 3
def sig1 (y : BitVec 32) : BitVec 32 := rotr y 17 ^^^ rotr y 19 ^^^ y >>> 10
def sched (ws : List (BitVec 32)) (i : Nat) : BitVec 32 := ws.getD (i - 16) 0 + sig0 (ws.getD (i - 15) 0) + ws.getD (i - 7) 0 + sig1 (ws.getD (i - 2) 0)
def fill2 : Nat → Nat → List (BitVec 32) → List (BitVec 32)
  | 0, _, ws => ws
  | m + 1, i, ws => fill2 m (i + 1) (ws.set i (sched ws i))
theorem fill1_length (b : List UInt8) : ∀ m i ws, (fill1 b m i ws).length = ws.length := by
  intro m
  induction m with
  | zero => intro i ws; rfl
  | succ m ih => intro i ws; simp [fill1, ih]
theorem fill2_length : ∀ m i ws, (fill2 m i ws).length = ws.length := by
  intro m
  induction m with
  | zero => intro i ws; rfl
  | succ m ih => intro i ws; simp [fill2, ih]

theorem block_l0 {h : List (BitVec 32)} {b : List UInt8} (hh : h.length = 8) (hb : b.length = 64) (k : List It) : ∀ (m i : Nat) (ws : List (BitVec 32)), i + m = 16 → ws.length = 64 →
    X E [.cell 4 (some 8)] (.c L.sha_Block.x0 :: .lp [2, 3, 4, 5, 23] L.sha_Block.x0 :: .blk 0 :: k) ⟨[(2, .ref (.s 1000000 0) 0 0), (3, .ref (.s 1000000 1) 0 0), (4, .ref (.s 1000000 2) 0 0), (5, .ref (.s 1000000 3) 0 0), (23, .int .i64 i)], [(.s 1000000 0, ⟨0, true, true, true, words h⟩), (.s 1000000 1, ⟨0, true, true, true, ofBytes b⟩), (.s 1000000 2, ⟨0, true, true, true, words (List.replicate 8 0)⟩), (.s 1000000 3, ⟨0, true, true, true, words ws⟩)]⟩ = X E [.cell 4 (some 8)] k ⟨[(2, .ref (.s 1000000 0) 0 0), (3, .ref (.s 1000000 1) 0 0), (4, .ref (.s 1000000 2) 0 0), (5, .ref (.s 1000000 3) 0 0), (23, .int .i64 16), (24, .bool false)], [(.s 1000000 0, ⟨0, true, true, true, words h⟩), (.s 1000000 1, ⟨0, true, true, true, ofBytes b⟩), (.s 1000000 2, ⟨0, true, true, true, words (List.replicate 8 0)⟩), (.s 1000000 3, ⟨0, true, true, true, words (fill1 b m i ws)⟩)]⟩ := by
  intro m
  induction m with
  | zero =>
    intro i ws h1 h2
    obtain rfl : i = 16 := by omega
    rw [X_in L.sha_Block.x0.eq_1]
    simp (disch := omega) only [go_sem, reduceIte, reduceCtorEq, Nat.reduceEqDiff, Nat.reduceAdd, Nat.reduceSub, Nat.reduceMul, Nat.reduceDiv, Nat.reduceMod, Nat.reduceBEq, Nat.reduceLeDiff, Nat.reduceLT, Int.reduceEq, Int.reduceNe, Int.reduceLT, Int.reduceLE, Int.reduceBEq, Int.reduceBNe, Int.reduceToNat, Int.reduceAdd, Int.reduceSub, Int.reduceMul, Int.reduceNeg, sub_take, take_len, sub_drop, take_words, drop_words, sub_words, over_words_all, zer_words, w_add, w_and, w_or, w_xor, w_not, w_shl, w_shr, flats_words, hards_words, leadss_words, refsOfs_words, rens_words, words_length, get_words, over_words, hard_W, flat_W, refsOf_W, leads_W, ren_W, view_W, view1_W, cellsO_W, cvi_bw, cvi_wb, zer_bytes, app_ofBytes, ofBytes_length, flats_ofBytes, hards_ofBytes, leadss_ofBytes, refsOfs_ofBytes, rens_ofBytes, bytesOf_ofBytes, sub_ofBytes, take_ofBytes, drop_ofBytes, get_ofBytes, over_ofBytes_all, over_ofBytes, ofBytes_snoc, fill1, Int.cast_ofNat_Int]
  | succ m ih =>
    intro i ws h1 h2
    have e0 : (4 * (i : Int)).toNat = 4 * i := by omega
    have e1 : (4 * (i : Int) + 1).toNat = 4 * i + 1 := by omega
    have e2 : (4 * (i : Int) + 2).toNat = 4 * i + 2 := by omega
    have e3 : (4 * (i : Int) + 3).toNat = 4 * i + 3 := by omega
    rw [X_in L.sha_Block.x0.eq_1]
    simp (disch := omega) only [go_sem, reduceIte, reduceCtorEq, Nat.reduceEqDiff, Nat.reduceAdd, Nat.reduceSub, Nat.reduceMul, Nat.reduceDiv, Nat.reduceMod, Nat.reduceBEq, Nat.reduceLeDiff, Nat.reduceLT, Int.reduceEq, Int.reduceNe, Int.reduceLT, Int.reduceLE, Int.reduceBEq, Int.reduceBNe, Int.reduceToNat, Int.reduceAdd, Int.reduceSub, Int.reduceMul, Int.reduceNeg, sub_take, take_len, sub_drop, take_words, drop_words, sub_words, over_words_all, zer_words, w_add, w_and, w_or, w_xor, w_not, w_shl, w_shr, flats_words, hards_words, leadss_words, refsOfs_words, rens_words, words_length, get_words, over_words, hard_W, flat_W, refsOf_W, leads_W, ren_W, view_W, view1_W, cellsO_W, cvi_bw, cvi_wb, zer_bytes, app_ofBytes, ofBytes_length, flats_ofBytes, hards_ofBytes, leadss_ofBytes, refsOfs_ofBytes, rens_ofBytes, bytesOf_ofBytes, sub_ofBytes, take_ofBytes, drop_ofBytes, get_ofBytes, over_ofBytes_all, over_ofBytes, ofBytes_snoc, fill1, e0, e1, e2, e3]
    have := ih (i + 1) (ws.set i (word4 b i)) (by omega) (by simpa using h2)
    simp only [Int.natCast_add, Int.cast_ofNat_Int] at this
    exact this

theorem block_l1 {h : List (BitVec 32)} (hh : h.length = 8) (k : List It) : ∀ (m i : Nat) (ws : List (BitVec 32)), i + m = 64 → 16 ≤ i → ws.length = 64 →
    X E [.cell 4 (some 8)] (.c L.sha_Block.x1 :: .lp [2, 4, 5, 7] L.sha_Block.x1 :: .blk 2 :: k) ⟨[(2, .ref (.s 1000000 0) 0 0), (4, .ref (.s 1000000 1) 0 0), (5, .ref (.s 1000000 2) 0 0), (7, .int .i64 i)], [(.s 1000000 0, ⟨0, true, true, true, words h⟩), (.s 1000000 1, ⟨0, true, true, true, words (List.replicate 8 0)⟩), (.s 1000000 2, ⟨0, true, true, true, words ws⟩)]⟩ = X E [.cell 4 (some 8)] k ⟨[(2, .ref (.s 1000000 0) 0 0), (4, .ref (.s 1000000 1) 0 0), (5, .ref (.s 1000000 2) 0 0), (7, .int .i64 64), (59, .bool false)], [(.s 1000000 0, ⟨0, true, true, true, words h⟩), (.s 1000000 1, ⟨0, true, true, true, words (List.replicate 8 0)⟩), (.s 1000000 2, ⟨0, true, true, true, words (fill2 m i ws)⟩)]⟩ := by
  intro m
  induction m with
  | zero =>
    intro i ws h1 h0 h2
    obtain rfl : i = 64 := by omega
    rw [X_in L.sha_Block.x1.eq_1]
    simp (disch := omega) only [go_sem, reduceIte, reduceCtorEq, Nat.reduceEqDiff, Nat.reduceAdd, Nat.reduceSub, Nat.reduceMul, Nat.reduceDiv, Nat.reduceMod, Nat.reduceBEq, Nat.reduceLeDiff, Nat.reduceLT, Int.reduceEq, Int.reduceNe, Int.reduceLT, Int.reduceLE, Int.reduceBEq, Int.reduceBNe, Int.reduceToNat, Int.reduceAdd, Int.reduceSub, Int.reduceMul, Int.reduceNeg, sub_take, take_len, sub_drop, take_words, drop_words, sub_words, over_words_all, zer_words, w_add, w_and, w_or, w_xor, w_not, w_shl, w_shr, flats_words, hards_words, leadss_words, refsOfs_words, rens_words, words_length, get_words, over_words, hard_W, flat_W, refsOf_W, leads_W, ren_W, view_W, view1_W, cellsO_W, cvi_bw, cvi_wb, zer_bytes, app_ofBytes, ofBytes_length, flats_ofBytes, hards_ofBytes, leadss_ofBytes, refsOfs_ofBytes, rens_ofBytes, bytesOf_ofBytes, sub_ofBytes, take_ofBytes, drop_ofBytes, get_ofBytes, over_ofBytes_all, over_ofBytes, ofBytes_snoc, fill2, Int.cast_ofNat_Int]
  | succ m ih =>
    intro i ws h1 h0 h2
    have e0 : ((i : Int) - 16).toNat = i - 16 := by omega
    have e1 : ((i : Int) - 15).toNat = i - 15 := by omega
    have e2 : ((i : Int) - 7).toNat = i - 7 := by omega
    have e3 : ((i : Int) - 2).toNat = i - 2 := by omega
    rw [X_in L.sha_Block.x1.eq_1]
    simp (disch := omega) only [go_sem, reduceIte, reduceCtorEq, Nat.reduceEqDiff, Nat.reduceAdd, Nat.reduceSub, Nat.reduceMul, Nat.reduceDiv, Nat.reduceMod, Nat.reduceBEq, Nat.reduceLeDiff, Nat.reduceLT, Int.reduceEq, Int.reduceNe, Int.reduceLT, Int.reduceLE, Int.reduceBEq, Int.reduceBNe, Int.reduceToNat, Int.reduceAdd, Int.reduceSub, Int.reduceMul, Int.reduceNeg, sub_take, take_len, sub_drop, take_words, drop_words, sub_words, over_words_all, zer_words, w_add, w_and, w_or, w_xor, w_not, w_shl, w_shr, flats_words, hards_words, leadss_words, refsOfs_words, rens_words, words_length, get_words, over_words, hard_W, flat_W, refsOf_W, leads_W, ren_W, view_W, view1_W, cellsO_W, cvi_bw, cvi_wb, zer_bytes, app_ofBytes, ofBytes_length, flats_ofBytes, hards_ofBytes, leadss_ofBytes, refsOfs_ofBytes, rens_ofBytes, bytesOf_ofBytes, sub_ofBytes, take_ofBytes, drop_ofBytes, get_ofBytes, over_ofBytes_all, over_ofBytes, ofBytes_snoc, fill2, e0, e1, e2, e3, rot_7, rot_18, rot_17, rot_19]
    have := ih (i + 1) (ws.set i (sched ws i)) (by omega) (by omega) (by simpa using h2)
    simp only [Int.natCast_add, Int.cast_ofNat_Int] at this
    exact this

structure S8 where
  a : BitVec 32
  b : BitVec 32
  c : BitVec 32
  d : BitVec 32
  e : BitVec 32
  f : BitVec 32
  g : BitVec 32
  h : BitVec 32
def su1 (e : BitVec 32) : BitVec 32 := rotr e 6 ^^^ rotr e 11 ^^^ rotr e 25
def su0 (a : BitVec 32) : BitVec 32 := rotr a 2 ^^^ rotr a 13 ^^^ rotr a 22
def rndU (k w : BitVec 32) (s : S8) : BitVec 32 := s.h + su1 s.e + (s.e &&& s.f ||| ~~~s.e &&& s.g) + k + w
def rndV (s : S8) : BitVec 32 := su0 s.a + (s.a &&& s.b ^^^ s.a &&& s.c ^^^ s.b &&& s.c)
def rnd (k w : BitVec 32) (s : S8) : S8 := ⟨rndU k w s + rndV s, s.a, s.b, s.c, s.d + rndU k w s, s.e, s.f, s.g⟩
def rnds (ws : List (BitVec 32)) : Nat → Nat → S8 → S8
  | 0, _, s => s
  | m + 1, i, s => rnds ws m (i + 1) (rnd (kTab.getD i 0) (ws.getD i 0) s)
def S8.of (h : List (BitVec 32)) : S8 := ⟨h.getD 0 0, h.getD 1 0, h.getD 2 0, h.getD 3 0, h.getD 4 0, h.getD 5 0, h.getD 6 0, h.getD 7 0⟩
def S8.plus (h : List (BitVec 32)) (s : S8) : List (BitVec 32) := [h.getD 0 0 + s.a, h.getD 1 0 + s.b, h.getD 2 0 + s.c, h.getD 3 0 + s.d, h.getD 4 0 + s.e, h.getD 5 0 + s.f, h.getD 6 0 + s.g, h.getD 7 0 + s.h]
def msch (b : List UInt8) : List (BitVec 32) := fill2 48 16 (fill1 b 16 0 (List.replicate 64 0))
/-- A block. -/
def blockF (h : List (BitVec 32)) (b : List UInt8) : List (BitVec 32) := S8.plus h (rnds (msch b) 64 0 (S8.of h))
theorem msch_length (b : List UInt8) : (msch b).length = 64 := by rw [msch, fill2_length, fill1_length]; simp
theorem blockF_length (h : List (BitVec 32)) (b : List UInt8) : (blockF h b).length = 8 := rfl
theorem kTab_length : kTab.length = 64 := rfl

theorem block_l2 {h ws : List (BitVec 32)} (hh : h.length = 8) (hw : ws.length = 64) (k : List It) : ∀ (m i : Nat) (s : S8), i + m = 64 →
    X E [.cell 4 (some 8)] (.c L.sha_Block.x2 :: .lp [2, 4, 5, 12, 13, 14, 15, 16, 17, 18, 19, 117] L.sha_Block.x2 :: .blk 4 :: k) ⟨[(2, .ref (.s 1000000 0) 0 0), (4, .ref (.s 1000000 1) 0 0), (5, .ref (.s 1000000 2) 0 0), (12, W s.a), (13, W s.b), (14, W s.c), (15, W s.d), (16, W s.e), (17, W s.f), (18, W s.g), (19, W s.h), (117, .int .i64 i)], [(.s 1000000 0, ⟨0, true, true, true, words h⟩), (.s 1000000 1, ⟨0, true, true, true, words (List.replicate 8 0)⟩), (.s 1000000 2, ⟨0, true, true, true, words ws⟩)]⟩ = X E [.cell 4 (some 8)] k ⟨[(2, .ref (.s 1000000 0) 0 0), (4, .ref (.s 1000000 1) 0 0), (5, .ref (.s 1000000 2) 0 0), (12, W (rnds ws m i s).a), (13, W (rnds ws m i s).b), (14, W (rnds ws m i s).c), (15, W (rnds ws m i s).d), (16, W (rnds ws m i s).e), (17, W (rnds ws m i s).f), (18, W (rnds ws m i s).g), (19, W (rnds ws m i s).h), (117, .int .i64 64), (118, .bool false)], [(.s 1000000 0, ⟨0, true, true, true, words h⟩), (.s 1000000 1, ⟨0, true, true, true, words (List.replicate 8 0)⟩), (.s 1000000 2, ⟨0, true, true, true, words ws⟩)]⟩ := by
  intro m
  have hk := kTab_length
  induction m with
  | zero =>
    intro i s h1
    obtain rfl : i = 64 := by omega
    rw [X_in L.sha_Block.x2.eq_1]
    simp (disch := omega) only [go_sem, reduceIte, reduceCtorEq, Nat.reduceEqDiff, Nat.reduceAdd, Nat.reduceSub, Nat.reduceMul, Nat.reduceDiv, Nat.reduceMod, Nat.reduceBEq, Nat.reduceLeDiff, Nat.reduceLT, Int.reduceEq, Int.reduceNe, Int.reduceLT, Int.reduceLE, Int.reduceBEq, Int.reduceBNe, Int.reduceToNat, Int.reduceAdd, Int.reduceSub, Int.reduceMul, Int.reduceNeg, sub_take, take_len, sub_drop, take_words, drop_words, sub_words, over_words_all, zer_words, w_add, w_and, w_or, w_xor, w_not, w_shl, w_shr, flats_words, hards_words, leadss_words, refsOfs_words, rens_words, words_length, get_words, over_words, hard_W, flat_W, refsOf_W, leads_W, ren_W, view_W, view1_W, cellsO_W, cvi_bw, cvi_wb, zer_bytes, app_ofBytes, ofBytes_length, flats_ofBytes, hards_ofBytes, leadss_ofBytes, refsOfs_ofBytes, rens_ofBytes, bytesOf_ofBytes, sub_ofBytes, take_ofBytes, drop_ofBytes, get_ofBytes, over_ofBytes_all, over_ofBytes, ofBytes_snoc, rnds, Int.cast_ofNat_Int]
  | succ m ih =>
    intro i s h1
    rw [X_in L.sha_Block.x2.eq_1]
    simp (disch := omega) only [go_sem, reduceIte, reduceCtorEq, Nat.reduceEqDiff, Nat.reduceAdd, Nat.reduceSub, Nat.reduceMul, Nat.reduceDiv, Nat.reduceMod, Nat.reduceBEq, Nat.reduceLeDiff, Nat.reduceLT, Int.reduceEq, Int.reduceNe, Int.reduceLT, Int.reduceLE, Int.reduceBEq, Int.reduceBNe, Int.reduceToNat, Int.reduceAdd, Int.reduceSub, Int.reduceMul, Int.reduceNeg, sub_take, take_len, sub_drop, take_words, drop_words, sub_words, over_words_all, zer_words, w_add, w_and, w_or, w_xor, w_not, w_shl, w_shr, flats_words, hards_words, leadss_words, refsOfs_words, rens_words, words_length, get_words, over_words, hard_W, flat_W, refsOf_W, leads_W, ren_W, view_W, view1_W, cellsO_W, cvi_bw, cvi_wb, zer_bytes, app_ofBytes, ofBytes_length, flats_ofBytes, hards_ofBytes, leadss_ofBytes, refsOfs_ofBytes, rens_ofBytes, bytesOf_ofBytes, sub_ofBytes, take_ofBytes, drop_ofBytes, get_ofBytes, over_ofBytes_all, over_ofBytes, ofBytes_snoc, rnds, glob_k, rot_6, rot_11, rot_25, rot_2, rot_13, rot_22]
    have := ih (i + 1) (rnd (kTab.getD i 0) (ws.getD i 0) s) (by omega)
    simp only [Int.natCast_add, Int.cast_ofNat_Int] at this
    exact this

theorem block_r2 {h ws : List (BitVec 32)} (hh : h.length = 8) (R : S8) : X E [.cell 4 (some 8)] [.c L.sha_Block.r2] ⟨[(2, .ref (.s 1000000 0) 0 0), (4, .ref (.s 1000000 1) 0 0), (5, .ref (.s 1000000 2) 0 0), (12, W R.a), (13, W R.b), (14, W R.c), (15, W R.d), (16, W R.e), (17, W R.f), (18, W R.g), (19, W R.h), (117, .int .i64 64), (118, .bool false)], [(.s 1000000 0, ⟨0, true, true, true, words h⟩), (.s 1000000 1, ⟨0, true, true, true, words (List.replicate 8 0)⟩), (.s 1000000 2, ⟨0, true, true, true, words ws⟩)]⟩ = some (.agg (words (S8.plus h R)), []) := by
  simp (dsimp := false) (disch := first | omega | (simp only [strs_length, List.length_set, List.length_replicate, words_length, ofBytes_length, List.length_append, List.length_cons, List.length_nil, List.length_take, List.length_drop] <;> omega) | fail) only [L.sha_Block.r2, go_sem, reduceIte, reduceCtorEq, Nat.reduceEqDiff, Nat.reduceAdd, Nat.reduceSub, Nat.reduceMul, Nat.reduceDiv, Nat.reduceMod, Nat.reduceBEq, Nat.reduceLeDiff, Nat.reduceLT, Int.reduceEq, Int.reduceNe, Int.reduceLT, Int.reduceLE, Int.reduceBEq, Int.reduceBNe, Int.reduceToNat, Int.reduceAdd, Int.reduceSub, Int.reduceMul, Int.reduceNeg, sub_take, take_len, sub_drop, take_words, drop_words, sub_words, over_words_all, zer_words, w_add, w_and, w_or, w_xor, w_not, w_shl, w_shr, flats_words, hards_words, leadss_words, refsOfs_words, rens_words, words_length, get_words, over_words, hard_W, flat_W, refsOf_W, leads_W, ren_W, view_W, view1_W, cellsO_W, cvi_bw, cvi_wb, zer_bytes, app_ofBytes, ofBytes_length, flats_ofBytes, hards_ofBytes, leadss_ofBytes, refsOfs_ofBytes, rens_ofBytes, bytesOf_ofBytes, sub_ofBytes, take_ofBytes, drop_ofBytes, get_ofBytes, over_ofBytes_all, over_ofBytes, ofBytes_snoc, List.length_replicate, List.length_set]
  rfl

theorem block_r1 {h ws : List (BitVec 32)} (hh : h.length = 8) (hw : ws.length = 64) : X E [.cell 4 (some 8)] [.c L.sha_Block.r1] ⟨[(2, .ref (.s 1000000 0) 0 0), (4, .ref (.s 1000000 1) 0 0), (5, .ref (.s 1000000 2) 0 0), (7, .int .i64 64), (59, .bool false)], [(.s 1000000 0, ⟨0, true, true, true, words h⟩), (.s 1000000 1, ⟨0, true, true, true, words (List.replicate 8 0)⟩), (.s 1000000 2, ⟨0, true, true, true, words ws⟩)]⟩ = some (.agg (words (S8.plus h (rnds ws 64 0 (S8.of h)))), []) := by
  rw [← block_r2 (ws := ws) hh]
  have := block_l2 hh hw [.c L.sha_Block.r2] 64 0 (S8.of h) (by omega)
  simp only [Int.cast_ofNat_Int] at this
  rw [← this]
  simp (dsimp := false) (disch := first | omega | (simp only [strs_length, List.length_set, List.length_replicate, words_length, ofBytes_length, List.length_append, List.length_cons, List.length_nil, List.length_take, List.length_drop] <;> omega) | fail) only [L.sha_Block.r1, go_sem, reduceIte, reduceCtorEq, Nat.reduceEqDiff, Nat.reduceAdd, Nat.reduceSub, Nat.reduceMul, Nat.reduceDiv, Nat.reduceMod, Nat.reduceBEq, Nat.reduceLeDiff, Nat.reduceLT, Int.reduceEq, Int.reduceNe, Int.reduceLT, Int.reduceLE, Int.reduceBEq, Int.reduceBNe, Int.reduceToNat, Int.reduceAdd, Int.reduceSub, Int.reduceMul, Int.reduceNeg, sub_take, take_len, sub_drop, take_words, drop_words, sub_words, over_words_all, zer_words, w_add, w_and, w_or, w_xor, w_not, w_shl, w_shr, flats_words, hards_words, leadss_words, refsOfs_words, rens_words, words_length, get_words, over_words, hard_W, flat_W, refsOf_W, leads_W, ren_W, view_W, view1_W, cellsO_W, cvi_bw, cvi_wb, zer_bytes, app_ofBytes, ofBytes_length, flats_ofBytes, hards_ofBytes, leadss_ofBytes, refsOfs_ofBytes, rens_ofBytes, bytesOf_ofBytes, sub_ofBytes, take_ofBytes, drop_ofBytes, get_ofBytes, over_ofBytes_all, over_ofBytes, ofBytes_snoc, S8.of]

theorem go_block {h : List (BitVec 32)} {b : List UInt8} (hh : h.length = 8) (hb : b.length = 64) : S E F.sha_Block [.agg (words h), .agg (ofBytes b)] [] = some (.agg (words (blockF h b)), []) := by
  have l1 : (fill1 b 16 0 (List.replicate 64 0)).length = 64 := by rw [fill1_length]; simp
  rw [blockF, ← block_r1 hh (msch_length b), msch]
  have := block_l1 hh [.c L.sha_Block.r1] 48 16 _ (by omega) (by omega) l1
  simp only [Int.cast_ofNat_Int] at this
  rw [← this]
  rw [S_of fn_sha_Block rfl rfl]
  simp (dsimp := false) (disch := first | omega | (simp only [strs_length, List.length_set, List.length_replicate, words_length, ofBytes_length, List.length_append, List.length_cons, List.length_nil, List.length_take, List.length_drop] <;> omega) | fail) only [L.sha_Block, go_sem, reduceIte, reduceCtorEq, Nat.reduceEqDiff, Nat.reduceAdd, Nat.reduceSub, Nat.reduceMul, Nat.reduceDiv, Nat.reduceMod, Nat.reduceBEq, Nat.reduceLeDiff, Nat.reduceLT, Int.reduceEq, Int.reduceNe, Int.reduceLT, Int.reduceLE, Int.reduceBEq, Int.reduceBNe, Int.reduceToNat, Int.reduceAdd, Int.reduceSub, Int.reduceMul, Int.reduceNeg, sub_take, take_len, sub_drop, take_words, drop_words, sub_words, over_words_all, zer_words, w_add, w_and, w_or, w_xor, w_not, w_shl, w_shr, flats_words, hards_words, leadss_words, refsOfs_words, rens_words, words_length, get_words, over_words, hard_W, flat_W, refsOf_W, leads_W, ren_W, view_W, view1_W, cellsO_W, cvi_bw, cvi_wb, zer_bytes, app_ofBytes, ofBytes_length, flats_ofBytes, hards_ofBytes, leadss_ofBytes, refsOfs_ofBytes, rens_ofBytes, bytesOf_ofBytes, sub_ofBytes, take_ofBytes, drop_ofBytes, get_ofBytes, over_ofBytes_all, over_ofBytes, ofBytes_snoc]
  have := block_l0 hh hb [.c L.sha_Block.r0] 16 0 (List.replicate 64 0) (by omega) (by simp)
  simp only [Int.cast_ofNat_Int] at this
  rw [this]
  simp (dsimp := false) (disch := first | omega | (simp only [strs_length, List.length_set, List.length_replicate, words_length, ofBytes_length, List.length_append, List.length_cons, List.length_nil, List.length_take, List.length_drop] <;> omega) | fail) only [L.sha_Block.r0, go_sem, reduceIte, reduceCtorEq, Nat.reduceEqDiff, Nat.reduceAdd, Nat.reduceSub, Nat.reduceMul, Nat.reduceDiv, Nat.reduceMod, Nat.reduceBEq, Nat.reduceLeDiff, Nat.reduceLT, Int.reduceEq, Int.reduceNe, Int.reduceLT, Int.reduceLE, Int.reduceBEq, Int.reduceBNe, Int.reduceToNat, Int.reduceAdd, Int.reduceSub, Int.reduceMul, Int.reduceNeg, sub_take, take_len, sub_drop, take_words, drop_words, sub_words, over_words_all, zer_words, w_add, w_and, w_or, w_xor, w_not, w_shl, w_shr, flats_words, hards_words, leadss_words, refsOfs_words, rens_words, words_length, get_words, over_words, hard_W, flat_W, refsOf_W, leads_W, ren_W, view_W, view1_W, cellsO_W, cvi_bw, cvi_wb, zer_bytes, app_ofBytes, ofBytes_length, flats_ofBytes, hards_ofBytes, leadss_ofBytes, refsOfs_ofBytes, rens_ofBytes, bytesOf_ofBytes, sub_ofBytes, take_ofBytes, drop_ofBytes, get_ofBytes, over_ofBytes_all, over_ofBytes, ofBytes_snoc]
end Cod

/- SHA-256: padding and sums, the program's. -/
namespace Cod
open Go

def h0w : List (BitVec 32) := [0x6a09e667, 0xbb67ae85, 0x3c6ef372, 0xa54ff53a, 0x510e527f, 0x9b05688c, 0x1f83d9ab, 0x5be0cd19]
def blocksN : Nat → List (BitVec 32) → List UInt8 → List (BitVec 32)
  | 0, h, _ => h
  | m + 1, h, l => blocksN m (blockF h (l.take 64)) (l.drop 64)
def be8 (v : Nat) : List UInt8 := [UInt8.ofNat (v / 2 ^ 56 % 256), UInt8.ofNat (v / 2 ^ 48 % 256), UInt8.ofNat (v / 2 ^ 40 % 256), UInt8.ofNat (v / 2 ^ 32 % 256), UInt8.ofNat (v / 2 ^ 24 % 256), UInt8.ofNat (v / 2 ^ 16 % 256), UInt8.ofNat (v / 2 ^ 8 % 256), UInt8.ofNat (v / 2 ^ 0 % 256)]
/-- What stands behind n bytes. -/
def padF (n : Nat) : List UInt8 := 128 :: (List.replicate ((119 - n % 64) % 64) 0 ++ be8 (8 * n))
def idOf (h : List (BitVec 32)) : List UInt8 := (List.range 32).map fun i => wb (h.getD (i / 4) 0 >>> (24 - 8 * (i % 4)))
/-- The SHA-256 of bytes. -/
def shaF (p : List UInt8) : List UInt8 :=
  idOf (blocksN ((p.drop (p.length / 64 * 64) ++ padF p.length).length / 64) (blocksN (p.length / 64) h0w p) (p.drop (p.length / 64 * 64) ++ padF p.length))
theorem blocksN_length : ∀ (m : Nat) (h : List (BitVec 32)) (l : List UInt8), h.length = 8 → (blocksN m h l).length = 8 := by
  intro m
  induction m with
  | zero => intro h l hh; exact hh
  | succ m ih => intro h l _; exact ih _ _ (blockF_length _ _)

/-! ### the padding -/
def padSet (n : Nat) : Nat → Nat → List UInt8 → List UInt8
  | 0, _, l => l
  | m + 1, i, l => padSet n m (i + 1) (l.set (l.length - 1 - i) (UInt8.ofNat (8 * n / 2 ^ (8 * i) % 256)))
theorem pad_l0 {n : Nat} (hn : n ≤ 1000000000000) (k : List It) : ∀ (m i : Nat) (l : List UInt8), i + m = 8 → 8 ≤ l.length → l.length ≤ 100 →
    X E [.tmp 2] (.c L.sha_Pad.x0 :: .lp [0, 3, 16] L.sha_Pad.x0 :: .blk 0 :: k) ⟨[(0, .int .i64 n), (3, .buf (.s 1000000 0) 0 0 (l).length 1), (16, .int .i64 i)], [(.s 1000000 0, ⟨0, true, true, false, ofBytes l⟩)]⟩ = X E [.tmp 2] k ⟨[(0, .int .i64 n), (3, .buf (.s 1000000 0) 0 0 ((padSet n m i l)).length 1), (16, .int .i64 8), (17, .bool false)], [(.s 1000000 0, ⟨0, true, true, false, ofBytes (padSet n m i l)⟩)]⟩ := by
  intro m
  induction m with
  | zero =>
    intro i l h1 h2 h3
    obtain rfl : i = 8 := by omega
    rw [X_in L.sha_Pad.x0.eq_1]
    simp (dsimp := false) (disch := first | omega | (simp only [strs_length, List.length_set, List.length_replicate, words_length, ofBytes_length, List.length_append, List.length_cons, List.length_nil, List.length_take, List.length_drop] <;> omega) | fail) only [go_sem, reduceIte, reduceCtorEq, Nat.reduceEqDiff, Nat.reduceAdd, Nat.reduceSub, Nat.reduceMul, Nat.reduceDiv, Nat.reduceMod, Nat.reduceBEq, Nat.reduceLeDiff, Nat.reduceLT, Int.reduceEq, Int.reduceNe, Int.reduceLT, Int.reduceLE, Int.reduceBEq, Int.reduceBNe, Int.reduceToNat, Int.reduceAdd, Int.reduceSub, Int.reduceMul, Int.reduceNeg, sub_take, take_len, sub_drop, zer_bytes, app_ofBytes, ofBytes_length, flats_ofBytes, hards_ofBytes, leadss_ofBytes, refsOfs_ofBytes, rens_ofBytes, bytesOf_ofBytes, sub_ofBytes, take_ofBytes, drop_ofBytes, get_ofBytes, over_ofBytes_all, over_ofBytes, ofBytes_snoc, padSet, Int.cast_ofNat_Int]
  | succ m ih =>
    intro i l h1 h2 h3
    have e0 : ((l.length : Int) - 1 - i).toNat = l.length - 1 - i := by omega
    have e1 : ishr .u64 (ishl .u64 (n : Int) 3) (8 * (i : Int)) = ((8 * n / 2 ^ (8 * i) : Nat) : Int) := by
      rw [show (8 * (i : Int)) = ((8 * i : Nat) : Int) by omega, ishr_any (by simp [IntKind.bits]; omega), show (3 : Int) = ((3 : Nat) : Int) from rfl, ishl_u64 (by omega), Int.natCast_ediv, Int.natCast_pow]
      congr 1
      omega
    have e2 : ((8 * n / 2 ^ (8 * i) : Nat) : Int) % 256 = ((8 * n / 2 ^ (8 * i) % 256 : Nat) : Int) := by omega
    have e3 : (((8 * n / 2 ^ (8 * i) % 256 : Nat) : Int)).toNat = 8 * n / 2 ^ (8 * i) % 256 := by omega
    rw [X_in L.sha_Pad.x0.eq_1]
    simp (dsimp := false) (disch := first | omega | (simp only [strs_length, List.length_set, List.length_replicate, words_length, ofBytes_length, List.length_append, List.length_cons, List.length_nil, List.length_take, List.length_drop] <;> omega) | fail) only [go_sem, reduceIte, reduceCtorEq, Nat.reduceEqDiff, Nat.reduceAdd, Nat.reduceSub, Nat.reduceMul, Nat.reduceDiv, Nat.reduceMod, Nat.reduceBEq, Nat.reduceLeDiff, Nat.reduceLT, Int.reduceEq, Int.reduceNe, Int.reduceLT, Int.reduceLE, Int.reduceBEq, Int.reduceBNe, Int.reduceToNat, Int.reduceAdd, Int.reduceSub, Int.reduceMul, Int.reduceNeg, sub_take, take_len, sub_drop, zer_bytes, app_ofBytes, ofBytes_length, flats_ofBytes, hards_ofBytes, leadss_ofBytes, refsOfs_ofBytes, rens_ofBytes, bytesOf_ofBytes, sub_ofBytes, take_ofBytes, drop_ofBytes, get_ofBytes, over_ofBytes_all, over_ofBytes, ofBytes_snoc, padSet, e0, e1, e2, e3]
    have := ih (i + 1) (l.set (l.length - 1 - i) (UInt8.ofNat (8 * n / 2 ^ (8 * i) % 256))) (by omega) (by simpa using h2) (by simpa using h3)
    simp only [Int.natCast_add, Int.cast_ofNat_Int, List.length_set] at this
    exact this

theorem padSet_pad (n z : Nat) (a : List UInt8) : padSet n 8 0 (a ++ List.replicate 8 0) = a ++ be8 (8 * n) := by
  have key : ∀ (i : Nat) (x : UInt8) (t : List UInt8), t.length = 8 → i < 8 → (a ++ t).set ((a ++ t).length - 1 - i) x = a ++ t.set (7 - i) x := by
    intro i x t ht hi
    rw [List.length_append, ht, List.set_append, if_neg (by omega)]
    congr 2
    omega
  simp only [padSet]
  rw [key 0 _ _ (by simp) (by omega), key 1 _ _ (by simp) (by omega), key 2 _ _ (by simp) (by omega), key 3 _ _ (by simp) (by omega), key 4 _ _ (by simp) (by omega), key 5 _ _ (by simp) (by omega), key 6 _ _ (by simp) (by omega), key 7 _ _ (by simp) (by omega)]
  rfl

theorem rep_zero (m : Nat) : rep [AV.int .u8 0] m = ofBytes (List.replicate m 0) := by
  induction m with
  | zero => rfl
  | succ m ih => rw [rep, ih]; rfl

theorem go_pad {n : Nat} (h1 : n ≤ 1000000000000) : S E F.sha_Pad [.int .i64 n] [] = some (.buf (.r 0) 0 0 (padF n).length 1, [(.r 0, ⟨0, true, true, false, ofBytes (padF n)⟩)]) := by
  have hm3 : (1 + (119 - (n : Int) % 64) % 64 + 8).toNat = (119 - n % 64) % 64 + 9 := by omega
  have hlt : (119 - n % 64) % 64 < 64 := by omega
  have hr : List.replicate ((119 - n % 64) % 64 + 9) (0 : UInt8) = 0 :: (List.replicate ((119 - n % 64) % 64) 0 ++ List.replicate 8 0) := by
    rw [List.replicate_append_replicate]; rfl
  have hn0 : ¬ (n : Int) < 0 := by omega
  generalize hz : (119 - n % 64) % 64 = z at *
  have hl := pad_l0 h1 [.c L.sha_Pad.r0] 8 0 (128 :: (List.replicate z 0 ++ List.replicate 8 0)) (by omega) (by simp) (by simp; omega)
  have hp : padSet n 8 0 (128 :: (List.replicate z 0 ++ List.replicate 8 0)) = padF n := by
    have := padSet_pad n z (128 :: List.replicate z 0)
    rw [List.cons_append] at this
    rw [this, padF, hz]; rfl
  rw [hp] at hl
  have hlen : (padF n).length = z + 9 := by rw [padF, hz]; simp [be8]
  simp only [Int.cast_ofNat_Int] at hl
  rw [S_of fn_sha_Pad rfl rfl]
  simp (dsimp := false) (disch := first | omega | (simp only [strs_length, List.length_set, List.length_replicate, words_length, ofBytes_length, List.length_append, List.length_cons, List.length_nil, List.length_take, List.length_drop] <;> omega) | fail) only [L.sha_Pad, go_sem, reduceIte, reduceCtorEq, Nat.reduceEqDiff, Nat.reduceAdd, Nat.reduceSub, Nat.reduceMul, Nat.reduceDiv, Nat.reduceMod, Nat.reduceBEq, Nat.reduceLeDiff, Nat.reduceLT, Int.reduceEq, Int.reduceNe, Int.reduceLT, Int.reduceLE, Int.reduceBEq, Int.reduceBNe, Int.reduceToNat, Int.reduceAdd, Int.reduceSub, Int.reduceMul, Int.reduceNeg, sub_take, take_len, sub_drop, zer_bytes, app_ofBytes, ofBytes_length, flats_ofBytes, hards_ofBytes, leadss_ofBytes, refsOfs_ofBytes, rens_ofBytes, bytesOf_ofBytes, sub_ofBytes, take_ofBytes, drop_ofBytes, get_ofBytes, over_ofBytes_all, over_ofBytes, ofBytes_snoc, hn0, hm3, rep_zero, hr, List.set_cons_zero, Int.toNat_zero, UInt8.reduceOfNat]
  have hb : (128 :: (List.replicate z 0 ++ List.replicate 8 (0 : UInt8))).length = z + 9 := by simp
  rw [hb] at hl
  rw [hl]
  simp (dsimp := false) (disch := first | omega | (simp only [strs_length, List.length_set, List.length_replicate, words_length, ofBytes_length, List.length_append, List.length_cons, List.length_nil, List.length_take, List.length_drop] <;> omega) | fail) only [L.sha_Pad.r0, go_sem, reduceIte, reduceCtorEq, Nat.reduceEqDiff, Nat.reduceAdd, Nat.reduceSub, Nat.reduceMul, Nat.reduceDiv, Nat.reduceMod, Nat.reduceBEq, Nat.reduceLeDiff, Nat.reduceLT, Int.reduceEq, Int.reduceNe, Int.reduceLT, Int.reduceLE, Int.reduceBEq, Int.reduceBNe, Int.reduceToNat, Int.reduceAdd, Int.reduceSub, Int.reduceMul, Int.reduceNeg, sub_take, take_len, sub_drop, zer_bytes, app_ofBytes, ofBytes_length, flats_ofBytes, hards_ofBytes, leadss_ofBytes, refsOfs_ofBytes, rens_ofBytes, bytesOf_ofBytes, sub_ofBytes, take_ofBytes, drop_ofBytes, get_ofBytes, over_ofBytes_all, over_ofBytes, ofBytes_snoc, hlen]

/-! ### the sum -/
theorem sum_l0 {p : List UInt8} (k : List It) : ∀ (m : Nat) (r : List UInt8) (n : Nat) (h : List (BitVec 32)), n = r.length → n / 64 = m → n ≤ 1000000000000 → h.length = 8 →
    X E [.cell 2 (some 32)] (.c L.sha_Sum.x0 :: .lp [0, 2, 3, 4] L.sha_Sum.x0 :: .blk 0 :: k) ⟨[(0, .lst (ofBytes p) p.length), (2, .ref (.s 1000000 0) 0 0), (3, .ref (.s 1000000 1) 0 0), (4, .lst (ofBytes r) n)], [(.s 1000000 0, ⟨0, true, true, true, ofBytes (List.replicate 32 0)⟩), (.s 1000000 1, ⟨0, true, true, true, words h⟩)]⟩ =
    X E [.cell 2 (some 32)] k ⟨[(0, .lst (ofBytes p) p.length), (2, .ref (.s 1000000 0) 0 0), (3, .ref (.s 1000000 1) 0 0), (4, .lst (ofBytes (r.drop (64 * m))) (n - 64 * m)), (13, .bool false)], [(.s 1000000 0, ⟨0, true, true, true, ofBytes (List.replicate 32 0)⟩), (.s 1000000 1, ⟨0, true, true, true, words (blocksN m h r)⟩)]⟩ := by
  intro m
  induction m with
  | zero =>
    intro r n h h1 h2 h3 h4
    rw [X_in L.sha_Sum.x0.eq_1]
    simp (dsimp := false) (disch := first | omega | (simp only [strs_length, List.length_set, List.length_replicate, words_length, ofBytes_length, List.length_append, List.length_cons, List.length_nil, List.length_take, List.length_drop] <;> omega) | fail) only [go_sem, reduceIte, reduceCtorEq, Nat.reduceEqDiff, Nat.reduceAdd, Nat.reduceSub, Nat.reduceMul, Nat.reduceDiv, Nat.reduceMod, Nat.reduceBEq, Nat.reduceLeDiff, Nat.reduceLT, Int.reduceEq, Int.reduceNe, Int.reduceLT, Int.reduceLE, Int.reduceBEq, Int.reduceBNe, Int.reduceToNat, Int.reduceAdd, Int.reduceSub, Int.reduceMul, Int.reduceNeg, sub_take, take_len, sub_drop, zer_bytes, app_ofBytes, ofBytes_length, flats_ofBytes, hards_ofBytes, leadss_ofBytes, refsOfs_ofBytes, rens_ofBytes, bytesOf_ofBytes, sub_ofBytes, take_ofBytes, drop_ofBytes, get_ofBytes, over_ofBytes_all, over_ofBytes, ofBytes_snoc, take_words, drop_words, sub_words, over_words_all, zer_words, w_add, w_and, w_or, w_xor, w_not, w_shl, w_shr, flats_words, hards_words, leadss_words, refsOfs_words, rens_words, words_length, get_words, over_words, hard_W, flat_W, refsOf_W, leads_W, ren_W, view_W, view1_W, cellsO_W, cvi_bw, cvi_wb, blocksN, List.drop_zero, Nat.sub_zero, Nat.mul_zero]
  | succ m ih =>
    intro r n h h1 h2 h3 h4
    have hb : (r.take 64).length = 64 := by rw [List.length_take]; omega
    have hbl := blockF_length h (r.take 64)
    rw [X_in L.sha_Sum.x0.eq_1]
    simp (dsimp := false) (disch := first | omega | (simp only [strs_length, List.length_set, List.length_replicate, words_length, ofBytes_length, List.length_append, List.length_cons, List.length_nil, List.length_take, List.length_drop] <;> omega) | fail) only [go_sem, reduceIte, reduceCtorEq, Nat.reduceEqDiff, Nat.reduceAdd, Nat.reduceSub, Nat.reduceMul, Nat.reduceDiv, Nat.reduceMod, Nat.reduceBEq, Nat.reduceLeDiff, Nat.reduceLT, Int.reduceEq, Int.reduceNe, Int.reduceLT, Int.reduceLE, Int.reduceBEq, Int.reduceBNe, Int.reduceToNat, Int.reduceAdd, Int.reduceSub, Int.reduceMul, Int.reduceNeg, sub_take, take_len, sub_drop, zer_bytes, app_ofBytes, ofBytes_length, flats_ofBytes, hards_ofBytes, leadss_ofBytes, refsOfs_ofBytes, rens_ofBytes, bytesOf_ofBytes, sub_ofBytes, take_ofBytes, drop_ofBytes, get_ofBytes, over_ofBytes_all, over_ofBytes, ofBytes_snoc, take_words, drop_words, sub_words, over_words_all, zer_words, w_add, w_and, w_or, w_xor, w_not, w_shl, w_shr, flats_words, hards_words, leadss_words, refsOfs_words, rens_words, words_length, get_words, over_words, hard_W, flat_W, refsOf_W, leads_W, ren_W, view_W, view1_W, cellsO_W, cvi_bw, cvi_wb, blocksN, go_block h4 hb]
    have := ih (r.drop 64) (n - 64) (blockF h (r.take 64)) (by simp [h1]) (by omega) (by omega) (blockF_length _ _)
    rw [List.drop_drop, show 64 + 64 * m = 64 * (m + 1) by omega, show n - 64 - 64 * m = n - 64 * (m + 1) by omega] at this
    exact this

theorem sum_l1 {full : List UInt8} (hf : full.length ≤ 1000000000100) (k : List It) : ∀ (m off n : Nat) (h : List (BitVec 32)), off + n = full.length → n / 64 = m → h.length = 8 →
    X E [.cell 2 (some 32)] (.c L.sha_Sum.x1 :: .lp [2, 3, 4] L.sha_Sum.x1 :: .blk 2 :: k) ⟨[(2, .ref (.s 1000000 0) 0 0), (3, .ref (.s 1000000 1) 0 0), (4, .buf (.s 1000000 2) 0 off n 1)], [(.s 1000000 0, ⟨0, true, true, true, ofBytes (List.replicate 32 0)⟩), (.s 1000000 1, ⟨0, true, true, true, words h⟩), (.s 1000000 2, ⟨0, true, true, false, ofBytes full⟩)]⟩ =
    X E [.cell 2 (some 32)] k ⟨[(2, .ref (.s 1000000 0) 0 0), (3, .ref (.s 1000000 1) 0 0), (4, .buf (.s 1000000 2) 0 (off + 64 * m) (n - 64 * m) 1), (29, .bool false)], [(.s 1000000 0, ⟨0, true, true, true, ofBytes (List.replicate 32 0)⟩), (.s 1000000 1, ⟨0, true, true, true, words (blocksN m h (full.drop off))⟩), (.s 1000000 2, ⟨0, true, true, false, ofBytes full⟩)]⟩ := by
  intro m
  induction m with
  | zero =>
    intro off n h h1 h2 h4
    rw [X_in L.sha_Sum.x1.eq_1]
    simp (dsimp := false) (disch := first | omega | (simp only [strs_length, List.length_set, List.length_replicate, words_length, ofBytes_length, List.length_append, List.length_cons, List.length_nil, List.length_take, List.length_drop] <;> omega) | fail) only [go_sem, reduceIte, reduceCtorEq, Nat.reduceEqDiff, Nat.reduceAdd, Nat.reduceSub, Nat.reduceMul, Nat.reduceDiv, Nat.reduceMod, Nat.reduceBEq, Nat.reduceLeDiff, Nat.reduceLT, Int.reduceEq, Int.reduceNe, Int.reduceLT, Int.reduceLE, Int.reduceBEq, Int.reduceBNe, Int.reduceToNat, Int.reduceAdd, Int.reduceSub, Int.reduceMul, Int.reduceNeg, sub_take, take_len, sub_drop, zer_bytes, app_ofBytes, ofBytes_length, flats_ofBytes, hards_ofBytes, leadss_ofBytes, refsOfs_ofBytes, rens_ofBytes, bytesOf_ofBytes, sub_ofBytes, take_ofBytes, drop_ofBytes, get_ofBytes, over_ofBytes_all, over_ofBytes, ofBytes_snoc, take_words, drop_words, sub_words, over_words_all, zer_words, w_add, w_and, w_or, w_xor, w_not, w_shl, w_shr, flats_words, hards_words, leadss_words, refsOfs_words, rens_words, words_length, get_words, over_words, hard_W, flat_W, refsOf_W, leads_W, ren_W, view_W, view1_W, cellsO_W, cvi_bw, cvi_wb, blocksN, List.drop_zero, Nat.sub_zero, Nat.mul_zero]
  | succ m ih =>
    intro off n h h1 h2 h4
    have hb : ((full.drop off).take 64).length = 64 := by rw [List.length_take, List.length_drop]; omega
    have hbl := blockF_length h ((full.drop off).take 64)
    have hs : sub full off 64 = (full.drop off).take 64 := rfl
    rw [X_in L.sha_Sum.x1.eq_1]
    simp (dsimp := false) (disch := first | omega | (simp only [strs_length, List.length_set, List.length_replicate, words_length, ofBytes_length, List.length_append, List.length_cons, List.length_nil, List.length_take, List.length_drop] <;> omega) | fail) only [go_sem, reduceIte, reduceCtorEq, Nat.reduceEqDiff, Nat.reduceAdd, Nat.reduceSub, Nat.reduceMul, Nat.reduceDiv, Nat.reduceMod, Nat.reduceBEq, Nat.reduceLeDiff, Nat.reduceLT, Int.reduceEq, Int.reduceNe, Int.reduceLT, Int.reduceLE, Int.reduceBEq, Int.reduceBNe, Int.reduceToNat, Int.reduceAdd, Int.reduceSub, Int.reduceMul, Int.reduceNeg, sub_take, take_len, sub_drop, zer_bytes, app_ofBytes, ofBytes_length, flats_ofBytes, hards_ofBytes, leadss_ofBytes, refsOfs_ofBytes, rens_ofBytes, bytesOf_ofBytes, sub_ofBytes, take_ofBytes, drop_ofBytes, get_ofBytes, over_ofBytes_all, over_ofBytes, ofBytes_snoc, take_words, drop_words, sub_words, over_words_all, zer_words, w_add, w_and, w_or, w_xor, w_not, w_shl, w_shr, flats_words, hards_words, leadss_words, refsOfs_words, rens_words, words_length, get_words, over_words, hard_W, flat_W, refsOf_W, leads_W, ren_W, view_W, view1_W, cellsO_W, cvi_bw, cvi_wb, blocksN, hs, go_block h4 hb]
    have := ih (off + 64) (n - 64) (blockF h ((full.drop off).take 64)) (by omega) (by omega) (blockF_length _ _)
    rw [show off + 64 + 64 * m = off + 64 * (m + 1) by omega, show n - 64 - 64 * m = n - 64 * (m + 1) by omega, ← List.drop_drop] at this
    exact this

def idSet1 (x : BitVec 32) (i : Nat) : Nat → Nat → List UInt8 → List UInt8
  | 0, _, l => l
  | m + 1, j, l => idSet1 x i m (j + 1) (l.set (4 * i + j) (wb (x >>> (24 - 8 * j))))
def idSet (h : List (BitVec 32)) : Nat → Nat → List UInt8 → List UInt8
  | 0, _, l => l
  | m + 1, i, l => idSet h m (i + 1) (idSet1 (h.getD i 0) i 4 0 l)
theorem idSet1_length (x : BitVec 32) (i : Nat) : ∀ m j l, (idSet1 x i m j l).length = l.length := by
  intro m
  induction m with
  | zero => intro j l; rfl
  | succ m ih => intro j l; simp [idSet1, ih]
theorem sum_l3 {h : List (BitVec 32)} {x : BitVec 32} {i : Nat} (hi : i < 8) (k : List It) : ∀ (m j : Nat) (l : List UInt8), j + m = 4 → l.length = 32 →
    X E [.cell 2 (some 32)] (.c L.sha_Sum.x3 :: .lp [2, 5, 6, 7, 37, 38, 42] L.sha_Sum.x3 :: .blk 6 :: k) ⟨[(2, .ref (.s 1000000 0) 0 0), (5, .ref (.s 1000000 1) 0 0), (6, .int .i64 i), (7, W x), (37, .agg (words h)), (38, .int .i64 i), (42, .int .i64 j)], [(.s 1000000 0, ⟨0, true, true, true, ofBytes (List.replicate 32 0)⟩), (.s 1000000 1, ⟨0, true, true, true, ofBytes l⟩)]⟩ =
    X E [.cell 2 (some 32)] k ⟨[(2, .ref (.s 1000000 0) 0 0), (5, .ref (.s 1000000 1) 0 0), (6, .int .i64 i), (7, W x), (37, .agg (words h)), (38, .int .i64 i), (42, .int .i64 4), (43, .bool false)], [(.s 1000000 0, ⟨0, true, true, true, ofBytes (List.replicate 32 0)⟩), (.s 1000000 1, ⟨0, true, true, true, ofBytes (idSet1 x i m j l)⟩)]⟩ := by
  intro m
  induction m with
  | zero =>
    intro j l h1 h2
    obtain rfl : j = 4 := by omega
    rw [X_in L.sha_Sum.x3.eq_1]
    simp (dsimp := false) (disch := first | omega | (simp only [strs_length, List.length_set, List.length_replicate, words_length, ofBytes_length, List.length_append, List.length_cons, List.length_nil, List.length_take, List.length_drop] <;> omega) | fail) only [go_sem, reduceIte, reduceCtorEq, Nat.reduceEqDiff, Nat.reduceAdd, Nat.reduceSub, Nat.reduceMul, Nat.reduceDiv, Nat.reduceMod, Nat.reduceBEq, Nat.reduceLeDiff, Nat.reduceLT, Int.reduceEq, Int.reduceNe, Int.reduceLT, Int.reduceLE, Int.reduceBEq, Int.reduceBNe, Int.reduceToNat, Int.reduceAdd, Int.reduceSub, Int.reduceMul, Int.reduceNeg, sub_take, take_len, sub_drop, zer_bytes, app_ofBytes, ofBytes_length, flats_ofBytes, hards_ofBytes, leadss_ofBytes, refsOfs_ofBytes, rens_ofBytes, bytesOf_ofBytes, sub_ofBytes, take_ofBytes, drop_ofBytes, get_ofBytes, over_ofBytes_all, over_ofBytes, ofBytes_snoc, take_words, drop_words, sub_words, over_words_all, zer_words, w_add, w_and, w_or, w_xor, w_not, w_shl, w_shr, flats_words, hards_words, leadss_words, refsOfs_words, rens_words, words_length, get_words, over_words, hard_W, flat_W, refsOf_W, leads_W, ren_W, view_W, view1_W, cellsO_W, cvi_bw, cvi_wb, idSet1, Int.cast_ofNat_Int]
  | succ m ih =>
    intro j l h1 h2
    have e0 : (4 * (i : Int) + j).toNat = 4 * i + j := by omega
    have e1 : (24 - 8 * (j : Int)).toNat = 24 - 8 * j := by omega
    have hw := (wb (x >>> (24 - 8 * j))).toNat_lt
    have e2 : UInt8.ofNat (wb (x >>> (24 - 8 * j))).toNat = wb (x >>> (24 - 8 * j)) := UInt8.ofNat_toNat
    rw [X_in L.sha_Sum.x3.eq_1]
    simp (dsimp := false) (disch := first | omega | (simp only [strs_length, List.length_set, List.length_replicate, words_length, ofBytes_length, List.length_append, List.length_cons, List.length_nil, List.length_take, List.length_drop] <;> omega) | fail) only [go_sem, reduceIte, reduceCtorEq, Nat.reduceEqDiff, Nat.reduceAdd, Nat.reduceSub, Nat.reduceMul, Nat.reduceDiv, Nat.reduceMod, Nat.reduceBEq, Nat.reduceLeDiff, Nat.reduceLT, Int.reduceEq, Int.reduceNe, Int.reduceLT, Int.reduceLE, Int.reduceBEq, Int.reduceBNe, Int.reduceToNat, Int.reduceAdd, Int.reduceSub, Int.reduceMul, Int.reduceNeg, sub_take, take_len, sub_drop, zer_bytes, app_ofBytes, ofBytes_length, flats_ofBytes, hards_ofBytes, leadss_ofBytes, refsOfs_ofBytes, rens_ofBytes, bytesOf_ofBytes, sub_ofBytes, take_ofBytes, drop_ofBytes, get_ofBytes, over_ofBytes_all, over_ofBytes, ofBytes_snoc, take_words, drop_words, sub_words, over_words_all, zer_words, w_add, w_and, w_or, w_xor, w_not, w_shl, w_shr, flats_words, hards_words, leadss_words, refsOfs_words, rens_words, words_length, get_words, over_words, hard_W, flat_W, refsOf_W, leads_W, ren_W, view_W, view1_W, cellsO_W, cvi_bw, cvi_wb, idSet1, e0, e1, e2]
    have := ih (j + 1) (l.set (4 * i + j) (wb (x >>> (24 - 8 * j)))) (by omega) (by simpa using h2)
    simp only [Int.natCast_add, Int.cast_ofNat_Int] at this
    exact this

theorem sum_l2 {h : List (BitVec 32)} (hh : h.length = 8) (k : List It) : ∀ (m i : Nat) (l : List UInt8), i + m = 8 → l.length = 32 →
    X E [.cell 2 (some 32)] (.c L.sha_Sum.x2 :: .lp [2, 5, 37, 38] L.sha_Sum.x2 :: .blk 4 :: k) ⟨[(2, .ref (.s 1000000 0) 0 0), (5, .ref (.s 1000000 1) 0 0), (37, .agg (words h)), (38, .int .i64 i)], [(.s 1000000 0, ⟨0, true, true, true, ofBytes (List.replicate 32 0)⟩), (.s 1000000 1, ⟨0, true, true, true, ofBytes l⟩)]⟩ =
    X E [.cell 2 (some 32)] k ⟨[(2, .ref (.s 1000000 0) 0 0), (5, .ref (.s 1000000 1) 0 0), (37, .agg (words h)), (38, .int .i64 8), (39, .bool false)], [(.s 1000000 0, ⟨0, true, true, true, ofBytes (List.replicate 32 0)⟩), (.s 1000000 1, ⟨0, true, true, true, ofBytes (idSet h m i l)⟩)]⟩ := by
  intro m
  induction m with
  | zero =>
    intro i l h1 h2
    obtain rfl : i = 8 := by omega
    rw [X_in L.sha_Sum.x2.eq_1]
    simp (dsimp := false) (disch := first | omega | (simp only [strs_length, List.length_set, List.length_replicate, words_length, ofBytes_length, List.length_append, List.length_cons, List.length_nil, List.length_take, List.length_drop] <;> omega) | fail) only [go_sem, reduceIte, reduceCtorEq, Nat.reduceEqDiff, Nat.reduceAdd, Nat.reduceSub, Nat.reduceMul, Nat.reduceDiv, Nat.reduceMod, Nat.reduceBEq, Nat.reduceLeDiff, Nat.reduceLT, Int.reduceEq, Int.reduceNe, Int.reduceLT, Int.reduceLE, Int.reduceBEq, Int.reduceBNe, Int.reduceToNat, Int.reduceAdd, Int.reduceSub, Int.reduceMul, Int.reduceNeg, sub_take, take_len, sub_drop, zer_bytes, app_ofBytes, ofBytes_length, flats_ofBytes, hards_ofBytes, leadss_ofBytes, refsOfs_ofBytes, rens_ofBytes, bytesOf_ofBytes, sub_ofBytes, take_ofBytes, drop_ofBytes, get_ofBytes, over_ofBytes_all, over_ofBytes, ofBytes_snoc, take_words, drop_words, sub_words, over_words_all, zer_words, w_add, w_and, w_or, w_xor, w_not, w_shl, w_shr, flats_words, hards_words, leadss_words, refsOfs_words, rens_words, words_length, get_words, over_words, hard_W, flat_W, refsOf_W, leads_W, ren_W, view_W, view1_W, cellsO_W, cvi_bw, cvi_wb, idSet, Int.cast_ofNat_Int]
  | succ m ih =>
    intro i l h1 h2
    rw [X_in L.sha_Sum.x2.eq_1]
    simp (dsimp := false) (disch := first | omega | (simp only [strs_length, List.length_set, List.length_replicate, words_length, ofBytes_length, List.length_append, List.length_cons, List.length_nil, List.length_take, List.length_drop] <;> omega) | fail) only [go_sem, reduceIte, reduceCtorEq, Nat.reduceEqDiff, Nat.reduceAdd, Nat.reduceSub, Nat.reduceMul, Nat.reduceDiv, Nat.reduceMod, Nat.reduceBEq, Nat.reduceLeDiff, Nat.reduceLT, Int.reduceEq, Int.reduceNe, Int.reduceLT, Int.reduceLE, Int.reduceBEq, Int.reduceBNe, Int.reduceToNat, Int.reduceAdd, Int.reduceSub, Int.reduceMul, Int.reduceNeg, sub_take, take_len, sub_drop, zer_bytes, app_ofBytes, ofBytes_length, flats_ofBytes, hards_ofBytes, leadss_ofBytes, refsOfs_ofBytes, rens_ofBytes, bytesOf_ofBytes, sub_ofBytes, take_ofBytes, drop_ofBytes, get_ofBytes, over_ofBytes_all, over_ofBytes, ofBytes_snoc, take_words, drop_words, sub_words, over_words_all, zer_words, w_add, w_and, w_or, w_xor, w_not, w_shl, w_shr, flats_words, hards_words, leadss_words, refsOfs_words, rens_words, words_length, get_words, over_words, hard_W, flat_W, refsOf_W, leads_W, ren_W, view_W, view1_W, cellsO_W, cvi_bw, cvi_wb, idSet]
    have h3 := sum_l3 (h := h) (x := h.getD i 0) (i := i) (by omega) (.blk 5 :: .c L.sha_Sum.r2 :: .lp [2, 5, 37, 38] L.sha_Sum.x2 :: .blk 4 :: k) 4 0 l (by omega) h2
    simp only [Int.cast_ofNat_Int] at h3
    rw [h3]
    simp (dsimp := false) (disch := first | omega | (simp only [strs_length, List.length_set, List.length_replicate, words_length, ofBytes_length, List.length_append, List.length_cons, List.length_nil, List.length_take, List.length_drop] <;> omega) | fail) only [L.sha_Sum.r2, go_sem, reduceIte, reduceCtorEq, Nat.reduceEqDiff, Nat.reduceAdd, Nat.reduceSub, Nat.reduceMul, Nat.reduceDiv, Nat.reduceMod, Nat.reduceBEq, Nat.reduceLeDiff, Nat.reduceLT, Int.reduceEq, Int.reduceNe, Int.reduceLT, Int.reduceLE, Int.reduceBEq, Int.reduceBNe, Int.reduceToNat, Int.reduceAdd, Int.reduceSub, Int.reduceMul, Int.reduceNeg, sub_take, take_len, sub_drop, zer_bytes, app_ofBytes, ofBytes_length, flats_ofBytes, hards_ofBytes, leadss_ofBytes, refsOfs_ofBytes, rens_ofBytes, bytesOf_ofBytes, sub_ofBytes, take_ofBytes, drop_ofBytes, get_ofBytes, over_ofBytes_all, over_ofBytes, ofBytes_snoc, take_words, drop_words, sub_words, over_words_all, zer_words, w_add, w_and, w_or, w_xor, w_not, w_shl, w_shr, flats_words, hards_words, leadss_words, refsOfs_words, rens_words, words_length, get_words, over_words, hard_W, flat_W, refsOf_W, leads_W, ren_W, view_W, view1_W, cellsO_W, cvi_bw, cvi_wb]
    have := ih (i + 1) (idSet1 (h.getD i 0) i 4 0 l) (by omega) (by rw [idSet1_length]; exact h2)
    simp only [Int.natCast_add, Int.cast_ofNat_Int] at this
    exact this

theorem idSet_id {h : List (BitVec 32)} (hh : h.length = 8) : idSet h 8 0 (List.replicate 32 0) = idOf h := by
  match h, hh with
  | [a, b, c, d, e, f, g, i], _ =>
    show idSet [a, b, c, d, e, f, g, i] 8 0 (List.replicate 32 0) = idOf [a, b, c, d, e, f, g, i]
    kernel_rfl

theorem fill_h0 {sl loc : List (Nat × AV)} : fillO (evR E sl loc) [(0, 1, .k (.int .u32 1779033703)), (1, 1, .k (.int .u32 3144134277)), (2, 1, .k (.int .u32 1013904242)), (3, 1, .k (.int .u32 2773480762)), (4, 1, .k (.int .u32 1359893119)), (5, 1, .k (.int .u32 2600822924)), (6, 1, .k (.int .u32 528734635)), (7, 1, .k (.int .u32 1541459225))] (some (words (List.replicate 8 0))) = some (words h0w) := by kernel_rfl

theorem go_sum {p : List UInt8} (hp : p.length ≤ 1000000000000) : S E F.sha_Sum [.lst (ofBytes p) p.length] [] = some (.agg (ofBytes (shaF p)), []) := by
  have hh0 : h0w.length = 8 := rfl
  have hbl := blocksN_length (p.length / 64) h0w p hh0
  have hpl : (padF p.length).length ≤ 100 := by rw [padF]; simp [be8]; omega
  rw [S_of fn_sha_Sum rfl rfl]
  simp (dsimp := false) (disch := first | omega | (simp only [strs_length, List.length_set, List.length_replicate, words_length, ofBytes_length, List.length_append, List.length_cons, List.length_nil, List.length_take, List.length_drop] <;> omega) | fail) only [↓fill_h0, L.sha_Sum, go_sem, reduceIte, reduceCtorEq, Nat.reduceEqDiff, Nat.reduceAdd, Nat.reduceSub, Nat.reduceMul, Nat.reduceDiv, Nat.reduceMod, Nat.reduceBEq, Nat.reduceLeDiff, Nat.reduceLT, Int.reduceEq, Int.reduceNe, Int.reduceLT, Int.reduceLE, Int.reduceBEq, Int.reduceBNe, Int.reduceToNat, Int.reduceAdd, Int.reduceSub, Int.reduceMul, Int.reduceNeg, sub_take, take_len, sub_drop, take_words, drop_words, sub_words, over_words_all, zer_words, w_add, w_and, w_or, w_xor, w_not, w_shl, w_shr, flats_words, hards_words, leadss_words, refsOfs_words, rens_words, words_length, get_words, over_words, hard_W, flat_W, refsOf_W, leads_W, ren_W, view_W, view1_W, cellsO_W, cvi_bw, cvi_wb, zer_bytes, app_ofBytes, ofBytes_length, flats_ofBytes, hards_ofBytes, leadss_ofBytes, refsOfs_ofBytes, rens_ofBytes, bytesOf_ofBytes, sub_ofBytes, take_ofBytes, drop_ofBytes, get_ofBytes, over_ofBytes_all, over_ofBytes, ofBytes_snoc]
  rw [sum_l0 (p := p) [.c L.sha_Sum.r0] (p.length / 64) p p.length h0w rfl rfl hp hh0]
  simp (dsimp := false) (disch := first | omega | (simp only [strs_length, List.length_set, List.length_replicate, words_length, ofBytes_length, List.length_append, List.length_cons, List.length_nil, List.length_take, List.length_drop] <;> omega) | fail) only [L.sha_Sum.r0, go_sem, reduceIte, reduceCtorEq, Nat.reduceEqDiff, Nat.reduceAdd, Nat.reduceSub, Nat.reduceMul, Nat.reduceDiv, Nat.reduceMod, Nat.reduceBEq, Nat.reduceLeDiff, Nat.reduceLT, Int.reduceEq, Int.reduceNe, Int.reduceLT, Int.reduceLE, Int.reduceBEq, Int.reduceBNe, Int.reduceToNat, Int.reduceAdd, Int.reduceSub, Int.reduceMul, Int.reduceNeg, sub_take, take_len, sub_drop, take_words, drop_words, sub_words, over_words_all, zer_words, w_add, w_and, w_or, w_xor, w_not, w_shl, w_shr, flats_words, hards_words, leadss_words, refsOfs_words, rens_words, words_length, get_words, over_words, hard_W, flat_W, refsOf_W, leads_W, ren_W, view_W, view1_W, cellsO_W, cvi_bw, cvi_wb, zer_bytes, app_ofBytes, ofBytes_length, flats_ofBytes, hards_ofBytes, leadss_ofBytes, refsOfs_ofBytes, rens_ofBytes, bytesOf_ofBytes, sub_ofBytes, take_ofBytes, drop_ofBytes, get_ofBytes, over_ofBytes_all, over_ofBytes, ofBytes_snoc, S_clone, go_pad hp]
  generalize hfull : p.drop (64 * (p.length / 64)) ++ padF p.length = full
  have hfl : full.length = p.length - 64 * (p.length / 64) + (padF p.length).length := by rw [← hfull]; simp
  have := sum_l1 (full := full) (by omega) [.c L.sha_Sum.r1] (full.length / 64) 0 full.length (blocksN (p.length / 64) h0w p) (by omega) rfl hbl
  simp only [Nat.zero_add, List.drop_zero] at this
  rw [← hfl, this]
  clear this
  have hbl2 := blocksN_length (full.length / 64) (blocksN (p.length / 64) h0w p) full hbl
  simp (dsimp := false) (disch := first | omega | (simp only [strs_length, List.length_set, List.length_replicate, words_length, ofBytes_length, List.length_append, List.length_cons, List.length_nil, List.length_take, List.length_drop] <;> omega) | fail) only [L.sha_Sum.r1, go_sem, reduceIte, reduceCtorEq, Nat.reduceEqDiff, Nat.reduceAdd, Nat.reduceSub, Nat.reduceMul, Nat.reduceDiv, Nat.reduceMod, Nat.reduceBEq, Nat.reduceLeDiff, Nat.reduceLT, Int.reduceEq, Int.reduceNe, Int.reduceLT, Int.reduceLE, Int.reduceBEq, Int.reduceBNe, Int.reduceToNat, Int.reduceAdd, Int.reduceSub, Int.reduceMul, Int.reduceNeg, sub_take, take_len, sub_drop, take_words, drop_words, sub_words, over_words_all, zer_words, w_add, w_and, w_or, w_xor, w_not, w_shl, w_shr, flats_words, hards_words, leadss_words, refsOfs_words, rens_words, words_length, get_words, over_words, hard_W, flat_W, refsOf_W, leads_W, ren_W, view_W, view1_W, cellsO_W, cvi_bw, cvi_wb, zer_bytes, app_ofBytes, ofBytes_length, flats_ofBytes, hards_ofBytes, leadss_ofBytes, refsOfs_ofBytes, rens_ofBytes, bytesOf_ofBytes, sub_ofBytes, take_ofBytes, drop_ofBytes, get_ofBytes, over_ofBytes_all, over_ofBytes, ofBytes_snoc]
  have := sum_l2 hbl2 [.c L.sha_Sum.r3] 8 0 (List.replicate 32 0) (by omega) (by simp)
  simp only [Int.cast_ofNat_Int] at this
  rw [this, idSet_id hbl2]
  clear this
  have hid : (idOf (blocksN (full.length / 64) (blocksN (p.length / 64) h0w p) full)).length = 32 := by simp [idOf]
  have hsha : shaF p = idOf (blocksN (full.length / 64) (blocksN (p.length / 64) h0w p) full) := by
    rw [shaF, show p.length / 64 * 64 = 64 * (p.length / 64) by omega, hfull]
  rw [hsha]
  simp (dsimp := false) (disch := first | omega | (simp only [strs_length, List.length_set, List.length_replicate, words_length, ofBytes_length, List.length_append, List.length_cons, List.length_nil, List.length_take, List.length_drop] <;> omega) | fail) only [L.sha_Sum.r3, go_sem, reduceIte, reduceCtorEq, Nat.reduceEqDiff, Nat.reduceAdd, Nat.reduceSub, Nat.reduceMul, Nat.reduceDiv, Nat.reduceMod, Nat.reduceBEq, Nat.reduceLeDiff, Nat.reduceLT, Int.reduceEq, Int.reduceNe, Int.reduceLT, Int.reduceLE, Int.reduceBEq, Int.reduceBNe, Int.reduceToNat, Int.reduceAdd, Int.reduceSub, Int.reduceMul, Int.reduceNeg, sub_take, take_len, sub_drop, take_words, drop_words, sub_words, over_words_all, zer_words, w_add, w_and, w_or, w_xor, w_not, w_shl, w_shr, flats_words, hards_words, leadss_words, refsOfs_words, rens_words, words_length, get_words, over_words, hard_W, flat_W, refsOf_W, leads_W, ren_W, view_W, view1_W, cellsO_W, cvi_bw, cvi_wb, zer_bytes, app_ofBytes, ofBytes_length, flats_ofBytes, hards_ofBytes, leadss_ofBytes, refsOfs_ofBytes, rens_ofBytes, bytesOf_ofBytes, sub_ofBytes, take_ofBytes, drop_ofBytes, get_ofBytes, over_ofBytes_all, over_ofBytes, ofBytes_snoc]
end Cod

/- SHA-256: the reference's. -/
namespace Cod
open Go

theorem or_add {x y : BitVec 32} (h : x &&& y = 0#32) : x + y = x ||| y := BitVec.add_eq_or_of_and_eq_zero x y h
theorem rot_add (x : BitVec 32) (n : Nat) (hn : n ≤ 32) : x >>> n + x <<< (32 - n) = rotr x n := by
  rw [rotr, or_add]
  apply BitVec.eq_of_getLsbD_eq
  intro i hi
  simp only [BitVec.getLsbD_and, BitVec.getLsbD_ushiftRight, BitVec.getLsbD_shiftLeft, BitVec.getLsbD_zero]
  by_cases h : i < 32 - n
  · simp [h]
  · have : x.getLsbD (n + i) = false := BitVec.getLsbD_of_ge x (n + i) (by omega)
    simp [this]
theorem bw_lt (b : List UInt8) (i : Nat) : (bw b i).toNat < 256 := by
  unfold bw
  have := (b.getD i 0).toNat_lt
  rw [BitVec.toNat_ofNat]; omega
theorem byte_bit {x : BitVec 32} (h : x.toNat < 256) (i : Nat) (hi : 8 ≤ i) : x.getLsbD i = false := by
  rw [BitVec.getLsbD]
  exact Nat.testBit_lt_two_pow (Nat.lt_of_lt_of_le h (by calc 256 = 2 ^ 8 := rfl
    _ ≤ 2 ^ i := Nat.pow_le_pow_right (by omega) hi))
theorem word4_add (a b c d : BitVec 32) (ha : a.toNat < 256) (hb : b.toNat < 256) (hc : c.toNat < 256) (hd : d.toNat < 256) :
    a <<< 24 + b <<< 16 + c <<< 8 + d = a <<< 24 ||| b <<< 16 ||| c <<< 8 ||| d := by
  have z : ∀ {x : BitVec 32}, x.toNat < 256 → ∀ i, 8 ≤ i → x.getLsbD i = false := fun h => byte_bit h
  rw [or_add (x := a <<< 24) (y := b <<< 16), or_add (x := a <<< 24 ||| b <<< 16) (y := c <<< 8), or_add (x := a <<< 24 ||| b <<< 16 ||| c <<< 8) (y := d)]
  all_goals
    apply BitVec.eq_of_getLsbD_eq
    intro i hi
    simp only [BitVec.getLsbD_and, BitVec.getLsbD_or, BitVec.getLsbD_shiftLeft, BitVec.getLsbD_zero]
    by_cases h24 : i < 24 <;> by_cases h16 : i < 16 <;> by_cases h8 : i < 8 <;> simp [h24, h16, h8, hi] <;> first
      | omega
      | (rw [z hb (i - 16) (by omega)]; simp; done)
      | (rw [z hc (i - 8) (by omega)]; simp; done)
      | (rw [z hd i (by omega)]; simp; done)
      | (rw [z hc (i - 8) (by omega), z hd i (by omega)]; simp; done)
      | exact fun _ => by rw [← BitVec.getLsbD_eq_getElem]; exact z hd i (by omega)

theorem go_rbig {b : List UInt8} {n i : Nat} (hn : n = b.length) (h : i + 3 < n) (hm : n < 1000000) : S E F.ref01_big [.lst (ofBytes b) n, .int .i64 i] [] = some (W (bw b i <<< 24 + bw b (i + 1) <<< 16 + bw b (i + 2) <<< 8 + bw b (i + 3)), []) := by
  have e1 : ((i : Int) + 1).toNat = i + 1 := by omega
  have e2 : ((i : Int) + 2).toNat = i + 2 := by omega
  have e3 : ((i : Int) + 3).toNat = i + 3 := by omega
  rw [S_of fn_ref01_big rfl rfl]
  simp (dsimp := false) (disch := first | omega | (simp only [strs_length, List.length_set, List.length_replicate, words_length, ofBytes_length, List.length_append, List.length_cons, List.length_nil, List.length_take, List.length_drop] <;> omega) | fail) only [L.ref01_big, go_sem, reduceIte, reduceCtorEq, Nat.reduceEqDiff, Nat.reduceAdd, Nat.reduceSub, Nat.reduceMul, Nat.reduceDiv, Nat.reduceMod, Nat.reduceBEq, Nat.reduceLeDiff, Nat.reduceLT, Int.reduceEq, Int.reduceNe, Int.reduceLT, Int.reduceLE, Int.reduceBEq, Int.reduceBNe, Int.reduceToNat, Int.reduceAdd, Int.reduceSub, Int.reduceMul, Int.reduceNeg, sub_take, take_len, sub_drop, zer_bytes, app_ofBytes, ofBytes_length, flats_ofBytes, hards_ofBytes, leadss_ofBytes, refsOfs_ofBytes, rens_ofBytes, bytesOf_ofBytes, sub_ofBytes, take_ofBytes, drop_ofBytes, get_ofBytes, over_ofBytes_all, over_ofBytes, ofBytes_snoc, take_words, drop_words, sub_words, over_words_all, zer_words, w_add, w_and, w_or, w_xor, w_not, w_shl, w_shr, flats_words, hards_words, leadss_words, refsOfs_words, rens_words, words_length, get_words, over_words, hard_W, flat_W, refsOf_W, leads_W, ren_W, view_W, view1_W, cellsO_W, cvi_bw, cvi_wb, e1, e2, e3]
theorem go_right {x : BitVec 32} {n : Nat} (hn : n ≤ 32) : S E F.ref01_right [W x, .int .i64 n] [] = some (W (rotr x n), []) := by
  have e1 : ((32 : Int) - n).toNat = 32 - n := by omega
  rw [S_of fn_ref01_right rfl rfl]
  simp (dsimp := false) (disch := first | omega | (simp only [strs_length, List.length_set, List.length_replicate, words_length, ofBytes_length, List.length_append, List.length_cons, List.length_nil, List.length_take, List.length_drop] <;> omega) | fail) only [L.ref01_right, go_sem, reduceIte, reduceCtorEq, Nat.reduceEqDiff, Nat.reduceAdd, Nat.reduceSub, Nat.reduceMul, Nat.reduceDiv, Nat.reduceMod, Nat.reduceBEq, Nat.reduceLeDiff, Nat.reduceLT, Int.reduceEq, Int.reduceNe, Int.reduceLT, Int.reduceLE, Int.reduceBEq, Int.reduceBNe, Int.reduceToNat, Int.reduceAdd, Int.reduceSub, Int.reduceMul, Int.reduceNeg, sub_take, take_len, sub_drop, zer_bytes, app_ofBytes, ofBytes_length, flats_ofBytes, hards_ofBytes, leadss_ofBytes, refsOfs_ofBytes, rens_ofBytes, bytesOf_ofBytes, sub_ofBytes, take_ofBytes, drop_ofBytes, get_ofBytes, over_ofBytes_all, over_ofBytes, ofBytes_snoc, take_words, drop_words, sub_words, over_words_all, zer_words, w_add, w_and, w_or, w_xor, w_not, w_shl, w_shr, flats_words, hards_words, leadss_words, refsOfs_words, rens_words, words_length, get_words, over_words, hard_W, flat_W, refsOf_W, leads_W, ren_W, view_W, view1_W, cellsO_W, cvi_bw, cvi_wb, e1]
  rw [rot_add x n hn]

def S8.l (s : S8) : List (BitVec 32) := [s.a, s.b, s.c, s.d, s.e, s.f, s.g, s.h]
theorem sched_ref (ws : List (BitVec 32)) (i : Nat) : ws.getD (i - 16) 0 + ws.getD (i - 7) 0 + sig0 (ws.getD (i - 15) 0) + sig1 (ws.getD (i - 2) 0) = sched ws i := by
  unfold sched; ac_rfl
theorem ch_xor (e f g : BitVec 32) : (e &&& f) ^^^ (~~~e &&& g) = e &&& f ||| ~~~e &&& g := by
  apply BitVec.eq_of_getLsbD_eq
  intro i hi
  simp only [BitVec.getLsbD_xor, BitVec.getLsbD_and, BitVec.getLsbD_or, BitVec.getLsbD_not]
  cases e.getLsbD i <;> cases f.getLsbD i <;> cases g.getLsbD i <;> simp [hi]

theorem comp_l0b {h : List (BitVec 32)} {b : List UInt8} (hh : h.length = 8) (hb : b.length = 64) (k : List It) : ∀ (m i : Nat) (ws : List (BitVec 32)), i + m = 64 → 16 ≤ i → ws.length = 64 →
    X E [.cell 4 (some 8)] (.c L.ref01_compress.x0 :: .lp [1, 2, 4, 5, 6] L.ref01_compress.x0 :: .blk 0 :: k) ⟨[(1, .lst (ofBytes b) 64), (2, .ref (.s 1000000 0) 0 0), (4, .ref (.s 1000000 1) 0 0), (5, .ref (.s 1000000 2) 0 0), (6, .int .i64 i)], [(.s 1000000 0, ⟨0, true, true, true, words h⟩), (.s 1000000 1, ⟨0, true, true, true, words (List.replicate 8 0)⟩), (.s 1000000 2, ⟨0, true, true, true, words ws⟩)]⟩ = X E [.cell 4 (some 8)] k ⟨[(1, .lst (ofBytes b) 64), (2, .ref (.s 1000000 0) 0 0), (4, .ref (.s 1000000 1) 0 0), (5, .ref (.s 1000000 2) 0 0), (6, .int .i64 64), (18, .bool false)], [(.s 1000000 0, ⟨0, true, true, true, words h⟩), (.s 1000000 1, ⟨0, true, true, true, words (List.replicate 8 0)⟩), (.s 1000000 2, ⟨0, true, true, true, words (fill2 m i ws)⟩)]⟩ := by
  intro m
  induction m with
  | zero =>
    intro i ws h1 h0 h2
    obtain rfl : i = 64 := by omega
    rw [X_in L.ref01_compress.x0.eq_1]
    simp (dsimp := false) (disch := first | omega | (simp only [strs_length, List.length_set, List.length_replicate, words_length, ofBytes_length, List.length_append, List.length_cons, List.length_nil, List.length_take, List.length_drop] <;> omega) | fail) only [go_sem, reduceIte, reduceCtorEq, Nat.reduceEqDiff, Nat.reduceAdd, Nat.reduceSub, Nat.reduceMul, Nat.reduceDiv, Nat.reduceMod, Nat.reduceBEq, Nat.reduceLeDiff, Nat.reduceLT, Int.reduceEq, Int.reduceNe, Int.reduceLT, Int.reduceLE, Int.reduceBEq, Int.reduceBNe, Int.reduceToNat, Int.reduceAdd, Int.reduceSub, Int.reduceMul, Int.reduceNeg, sub_take, take_len, sub_drop, take_words, drop_words, sub_words, over_words_all, zer_words, w_add, w_and, w_or, w_xor, w_not, w_shl, w_shr, flats_words, hards_words, leadss_words, refsOfs_words, rens_words, words_length, get_words, over_words, hard_W, flat_W, refsOf_W, leads_W, ren_W, view_W, view1_W, cellsO_W, cvi_bw, cvi_wb, zer_bytes, app_ofBytes, ofBytes_length, flats_ofBytes, hards_ofBytes, leadss_ofBytes, refsOfs_ofBytes, rens_ofBytes, bytesOf_ofBytes, sub_ofBytes, take_ofBytes, drop_ofBytes, get_ofBytes, over_ofBytes_all, over_ofBytes, ofBytes_snoc, fill2, Int.cast_ofNat_Int]
  | succ m ih =>
    intro i ws h1 h0 h2
    have e0 : ((i : Int) - 16).toNat = i - 16 := by omega
    have e1 : ((i : Int) - 15).toNat = i - 15 := by omega
    have e2 : ((i : Int) - 7).toNat = i - 7 := by omega
    have e3 : ((i : Int) - 2).toNat = i - 2 := by omega
    have r7 := fun x => go_right (x := x) (n := 7) (by omega)
    have r18 := fun x => go_right (x := x) (n := 18) (by omega)
    have r17 := fun x => go_right (x := x) (n := 17) (by omega)
    have r19 := fun x => go_right (x := x) (n := 19) (by omega)
    simp only [Int.cast_ofNat_Int] at r7 r18 r17 r19
    rw [X_in L.ref01_compress.x0.eq_1]
    simp (dsimp := false) (disch := first | omega | (simp only [strs_length, List.length_set, List.length_replicate, words_length, ofBytes_length, List.length_append, List.length_cons, List.length_nil, List.length_take, List.length_drop] <;> omega) | fail) only [go_sem, reduceIte, reduceCtorEq, Nat.reduceEqDiff, Nat.reduceAdd, Nat.reduceSub, Nat.reduceMul, Nat.reduceDiv, Nat.reduceMod, Nat.reduceBEq, Nat.reduceLeDiff, Nat.reduceLT, Int.reduceEq, Int.reduceNe, Int.reduceLT, Int.reduceLE, Int.reduceBEq, Int.reduceBNe, Int.reduceToNat, Int.reduceAdd, Int.reduceSub, Int.reduceMul, Int.reduceNeg, sub_take, take_len, sub_drop, take_words, drop_words, sub_words, over_words_all, zer_words, w_add, w_and, w_or, w_xor, w_not, w_shl, w_shr, flats_words, hards_words, leadss_words, refsOfs_words, rens_words, words_length, get_words, over_words, hard_W, flat_W, refsOf_W, leads_W, ren_W, view_W, view1_W, cellsO_W, cvi_bw, cvi_wb, zer_bytes, app_ofBytes, ofBytes_length, flats_ofBytes, hards_ofBytes, leadss_ofBytes, refsOfs_ofBytes, rens_ofBytes, bytesOf_ofBytes, sub_ofBytes, take_ofBytes, drop_ofBytes, get_ofBytes, over_ofBytes_all, over_ofBytes, ofBytes_snoc, fill2, e0, e1, e2, e3, r7, r18, r17, r19]
    have := ih (i + 1) (ws.set i (sched ws i)) (by omega) (by omega) (by simpa using h2)
    rw [← sched_ref] at this
    simp only [Int.natCast_add, Int.cast_ofNat_Int] at this
    rw [← sched_ref]
    exact this
theorem comp_l0a {h : List (BitVec 32)} {b : List UInt8} (hh : h.length = 8) (hb : b.length = 64) (k : List It) : ∀ (m i : Nat) (ws : List (BitVec 32)), i + m = 16 → ws.length = 64 →
    X E [.cell 4 (some 8)] (.c L.ref01_compress.x0 :: .lp [1, 2, 4, 5, 6] L.ref01_compress.x0 :: .blk 0 :: k) ⟨[(1, .lst (ofBytes b) 64), (2, .ref (.s 1000000 0) 0 0), (4, .ref (.s 1000000 1) 0 0), (5, .ref (.s 1000000 2) 0 0), (6, .int .i64 i)], [(.s 1000000 0, ⟨0, true, true, true, words h⟩), (.s 1000000 1, ⟨0, true, true, true, words (List.replicate 8 0)⟩), (.s 1000000 2, ⟨0, true, true, true, words ws⟩)]⟩ = X E [.cell 4 (some 8)] (.c L.ref01_compress.x0 :: .lp [1, 2, 4, 5, 6] L.ref01_compress.x0 :: .blk 0 :: k) ⟨[(1, .lst (ofBytes b) 64), (2, .ref (.s 1000000 0) 0 0), (4, .ref (.s 1000000 1) 0 0), (5, .ref (.s 1000000 2) 0 0), (6, .int .i64 16)], [(.s 1000000 0, ⟨0, true, true, true, words h⟩), (.s 1000000 1, ⟨0, true, true, true, words (List.replicate 8 0)⟩), (.s 1000000 2, ⟨0, true, true, true, words (fill1 b m i ws)⟩)]⟩ := by
  intro m
  induction m with
  | zero =>
    intro i ws h1 h2
    obtain rfl : i = 16 := by omega
    rfl
  | succ m ih =>
    intro i ws h1 h2
    have rb := go_rbig (b := b) (n := 64) (i := 4 * i) hb.symm (by omega) (by omega)
    rw [word4_add _ _ _ _ (bw_lt _ _) (bw_lt _ _) (bw_lt _ _) (bw_lt _ _), ← word4, Int.natCast_mul] at rb
    simp only [Int.cast_ofNat_Int] at rb
    rw [X_in L.ref01_compress.x0.eq_1]
    simp (dsimp := false) (disch := first | omega | (simp only [strs_length, List.length_set, List.length_replicate, words_length, ofBytes_length, List.length_append, List.length_cons, List.length_nil, List.length_take, List.length_drop] <;> omega) | fail) only [go_sem, reduceIte, reduceCtorEq, Nat.reduceEqDiff, Nat.reduceAdd, Nat.reduceSub, Nat.reduceMul, Nat.reduceDiv, Nat.reduceMod, Nat.reduceBEq, Nat.reduceLeDiff, Nat.reduceLT, Int.reduceEq, Int.reduceNe, Int.reduceLT, Int.reduceLE, Int.reduceBEq, Int.reduceBNe, Int.reduceToNat, Int.reduceAdd, Int.reduceSub, Int.reduceMul, Int.reduceNeg, sub_take, take_len, sub_drop, take_words, drop_words, sub_words, over_words_all, zer_words, w_add, w_and, w_or, w_xor, w_not, w_shl, w_shr, flats_words, hards_words, leadss_words, refsOfs_words, rens_words, words_length, get_words, over_words, hard_W, flat_W, refsOf_W, leads_W, ren_W, view_W, view1_W, cellsO_W, cvi_bw, cvi_wb, zer_bytes, app_ofBytes, ofBytes_length, flats_ofBytes, hards_ofBytes, leadss_ofBytes, refsOfs_ofBytes, rens_ofBytes, bytesOf_ofBytes, sub_ofBytes, take_ofBytes, drop_ofBytes, get_ofBytes, over_ofBytes_all, over_ofBytes, ofBytes_snoc, fill1, rb]
    have := ih (i + 1) (ws.set i (word4 b i)) (by omega) (by simpa using h2)
    simp only [Int.natCast_add, Int.cast_ofNat_Int] at this
    exact this
end Cod

/- SHA-256: the reference's, on. -/
namespace Cod
open Go

theorem go_constants : S E F.ref01_constants [] [] = some (.agg (words kTab), []) := S_iff.2 ⟨60, by kernel_rfl⟩
theorem go_first : S E F.ref01_First [] [] = some (.agg (words h0w), []) := S_iff.2 ⟨60, by kernel_rfl⟩
theorem set8 (a b c d e f g h : BitVec 32) : ((((((((List.replicate 8 (0 : BitVec 32)).set 0 a).set 1 b).set 2 c).set 3 d).set 4 e).set 5 f).set 6 g).set 7 h = [a, b, c, d, e, f, g, h] := rfl

theorem comp_l1 {h ws : List (BitVec 32)} (hh : h.length = 8) (hw : ws.length = 64) (k : List It) : ∀ (m i : Nat) (s : S8), i + m = 64 →
    X E [.cell 4 (some 8)] (.c L.ref01_compress.x1 :: .lp [2, 4, 5, 9, 10, 11] L.ref01_compress.x1 :: .blk 2 :: k) ⟨[(2, .ref (.s 1000000 0) 0 0), (4, .ref (.s 1000000 1) 0 0), (5, .ref (.s 1000000 2) 0 0), (9, .ref (.s 1000000 3) 0 0), (10, .ref (.s 1000000 4) 0 0), (11, .int .i64 i)], [(.s 1000000 0, ⟨0, true, true, true, words h⟩), (.s 1000000 1, ⟨0, true, true, true, words (List.replicate 8 0)⟩), (.s 1000000 2, ⟨0, true, true, true, words ws⟩), (.s 1000000 3, ⟨0, true, true, true, words kTab⟩), (.s 1000000 4, ⟨0, true, true, true, words [s.a, s.b, s.c, s.d, s.e, s.f, s.g, s.h]⟩)]⟩ =
    X E [.cell 4 (some 8)] k ⟨[(2, .ref (.s 1000000 0) 0 0), (4, .ref (.s 1000000 1) 0 0), (5, .ref (.s 1000000 2) 0 0), (9, .ref (.s 1000000 3) 0 0), (10, .ref (.s 1000000 4) 0 0), (11, .int .i64 64), (69, .bool false)], [(.s 1000000 0, ⟨0, true, true, true, words h⟩), (.s 1000000 1, ⟨0, true, true, true, words (List.replicate 8 0)⟩), (.s 1000000 2, ⟨0, true, true, true, words ws⟩), (.s 1000000 3, ⟨0, true, true, true, words kTab⟩), (.s 1000000 4, ⟨0, true, true, true, words (S8.l (rnds ws m i s))⟩)]⟩ := by
  intro m
  have hk := kTab_length
  induction m with
  | zero =>
    intro i s h1
    obtain rfl : i = 64 := by omega
    rw [X_in L.ref01_compress.x1.eq_1]
    simp (dsimp := false) (disch := first | omega | (simp only [strs_length, List.length_set, List.length_replicate, words_length, ofBytes_length, List.length_append, List.length_cons, List.length_nil, List.length_take, List.length_drop] <;> omega) | fail) only [go_sem, reduceIte, reduceCtorEq, Nat.reduceEqDiff, Nat.reduceAdd, Nat.reduceSub, Nat.reduceMul, Nat.reduceDiv, Nat.reduceMod, Nat.reduceBEq, Nat.reduceLeDiff, Nat.reduceLT, Int.reduceEq, Int.reduceNe, Int.reduceLT, Int.reduceLE, Int.reduceBEq, Int.reduceBNe, Int.reduceToNat, Int.reduceAdd, Int.reduceSub, Int.reduceMul, Int.reduceNeg, sub_take, take_len, sub_drop, take_words, drop_words, sub_words, over_words_all, zer_words, w_add, w_and, w_or, w_xor, w_not, w_shl, w_shr, flats_words, hards_words, leadss_words, refsOfs_words, rens_words, words_length, get_words, over_words, hard_W, flat_W, refsOf_W, leads_W, ren_W, view_W, view1_W, cellsO_W, cvi_bw, cvi_wb, zer_bytes, app_ofBytes, ofBytes_length, flats_ofBytes, hards_ofBytes, leadss_ofBytes, refsOfs_ofBytes, rens_ofBytes, bytesOf_ofBytes, sub_ofBytes, take_ofBytes, drop_ofBytes, get_ofBytes, over_ofBytes_all, over_ofBytes, ofBytes_snoc, rnds, Int.cast_ofNat_Int, S8.l]
  | succ m ih =>
    intro i s h1
    have r6 := fun x => go_right (x := x) (n := 6) (by omega)
    have r11 := fun x => go_right (x := x) (n := 11) (by omega)
    have r25 := fun x => go_right (x := x) (n := 25) (by omega)
    have r2 := fun x => go_right (x := x) (n := 2) (by omega)
    have r13 := fun x => go_right (x := x) (n := 13) (by omega)
    have r22 := fun x => go_right (x := x) (n := 22) (by omega)
    simp only [Int.cast_ofNat_Int] at r6 r11 r25 r2 r13 r22
    rw [X_in L.ref01_compress.x1.eq_1]
    simp (dsimp := false) (disch := first | omega | (simp only [strs_length, List.length_set, List.length_replicate, words_length, ofBytes_length, List.length_append, List.length_cons, List.length_nil, List.length_take, List.length_drop] <;> omega) | fail) only [go_sem, reduceIte, reduceCtorEq, Nat.reduceEqDiff, Nat.reduceAdd, Nat.reduceSub, Nat.reduceMul, Nat.reduceDiv, Nat.reduceMod, Nat.reduceBEq, Nat.reduceLeDiff, Nat.reduceLT, Int.reduceEq, Int.reduceNe, Int.reduceLT, Int.reduceLE, Int.reduceBEq, Int.reduceBNe, Int.reduceToNat, Int.reduceAdd, Int.reduceSub, Int.reduceMul, Int.reduceNeg, sub_take, take_len, sub_drop, take_words, drop_words, sub_words, over_words_all, zer_words, w_add, w_and, w_or, w_xor, w_not, w_shl, w_shr, flats_words, hards_words, leadss_words, refsOfs_words, rens_words, words_length, get_words, over_words, hard_W, flat_W, refsOf_W, leads_W, ren_W, view_W, view1_W, cellsO_W, cvi_bw, cvi_wb, zer_bytes, app_ofBytes, ofBytes_length, flats_ofBytes, hards_ofBytes, leadss_ofBytes, refsOfs_ofBytes, rens_ofBytes, bytesOf_ofBytes, sub_ofBytes, take_ofBytes, drop_ofBytes, get_ofBytes, over_ofBytes_all, over_ofBytes, ofBytes_snoc, r6, r11, r25, r2, r13, r22, ch_xor, set8]
    have := ih (i + 1) (rnd (kTab.getD i 0) (ws.getD i 0) s) (by omega)
    simp only [Int.natCast_add, Int.cast_ofNat_Int] at this
    exact this

def addAll (r : List (BitVec 32)) : Nat → Nat → List (BitVec 32) → List (BitVec 32)
  | 0, _, h => h
  | m + 1, i, h => addAll r m (i + 1) (h.set i (h.getD i 0 + r.getD i 0))
theorem comp_l2 {r : List (BitVec 32)} (hr : r.length = 8) (k : List It) : ∀ (m i : Nat) (h : List (BitVec 32)), i + m = 8 → h.length = 8 →
    X E [.cell 4 (some 8)] (.c L.ref01_compress.x2 :: .lp [2, 4, 10, 16] L.ref01_compress.x2 :: .blk 4 :: k) ⟨[(2, .ref (.s 1000000 0) 0 0), (4, .ref (.s 1000000 1) 0 0), (10, .ref (.s 1000000 2) 0 0), (16, .int .i64 i)], [(.s 1000000 0, ⟨0, true, true, true, words h⟩), (.s 1000000 1, ⟨0, true, true, true, words (List.replicate 8 0)⟩), (.s 1000000 2, ⟨0, true, true, true, words r⟩)]⟩ =
    X E [.cell 4 (some 8)] k ⟨[(2, .ref (.s 1000000 0) 0 0), (4, .ref (.s 1000000 1) 0 0), (10, .ref (.s 1000000 2) 0 0), (16, .int .i64 8), (151, .bool false)], [(.s 1000000 0, ⟨0, true, true, true, words (addAll r m i h)⟩), (.s 1000000 1, ⟨0, true, true, true, words (List.replicate 8 0)⟩), (.s 1000000 2, ⟨0, true, true, true, words r⟩)]⟩ := by
  intro m
  induction m with
  | zero =>
    intro i h h1 h2
    obtain rfl : i = 8 := by omega
    rw [X_in L.ref01_compress.x2.eq_1]
    simp (dsimp := false) (disch := first | omega | (simp only [strs_length, List.length_set, List.length_replicate, words_length, ofBytes_length, List.length_append, List.length_cons, List.length_nil, List.length_take, List.length_drop] <;> omega) | fail) only [go_sem, reduceIte, reduceCtorEq, Nat.reduceEqDiff, Nat.reduceAdd, Nat.reduceSub, Nat.reduceMul, Nat.reduceDiv, Nat.reduceMod, Nat.reduceBEq, Nat.reduceLeDiff, Nat.reduceLT, Int.reduceEq, Int.reduceNe, Int.reduceLT, Int.reduceLE, Int.reduceBEq, Int.reduceBNe, Int.reduceToNat, Int.reduceAdd, Int.reduceSub, Int.reduceMul, Int.reduceNeg, sub_take, take_len, sub_drop, take_words, drop_words, sub_words, over_words_all, zer_words, w_add, w_and, w_or, w_xor, w_not, w_shl, w_shr, flats_words, hards_words, leadss_words, refsOfs_words, rens_words, words_length, get_words, over_words, hard_W, flat_W, refsOf_W, leads_W, ren_W, view_W, view1_W, cellsO_W, cvi_bw, cvi_wb, zer_bytes, app_ofBytes, ofBytes_length, flats_ofBytes, hards_ofBytes, leadss_ofBytes, refsOfs_ofBytes, rens_ofBytes, bytesOf_ofBytes, sub_ofBytes, take_ofBytes, drop_ofBytes, get_ofBytes, over_ofBytes_all, over_ofBytes, ofBytes_snoc, addAll, Int.cast_ofNat_Int]
  | succ m ih =>
    intro i h h1 h2
    rw [X_in L.ref01_compress.x2.eq_1]
    simp (dsimp := false) (disch := first | omega | (simp only [strs_length, List.length_set, List.length_replicate, words_length, ofBytes_length, List.length_append, List.length_cons, List.length_nil, List.length_take, List.length_drop] <;> omega) | fail) only [go_sem, reduceIte, reduceCtorEq, Nat.reduceEqDiff, Nat.reduceAdd, Nat.reduceSub, Nat.reduceMul, Nat.reduceDiv, Nat.reduceMod, Nat.reduceBEq, Nat.reduceLeDiff, Nat.reduceLT, Int.reduceEq, Int.reduceNe, Int.reduceLT, Int.reduceLE, Int.reduceBEq, Int.reduceBNe, Int.reduceToNat, Int.reduceAdd, Int.reduceSub, Int.reduceMul, Int.reduceNeg, sub_take, take_len, sub_drop, take_words, drop_words, sub_words, over_words_all, zer_words, w_add, w_and, w_or, w_xor, w_not, w_shl, w_shr, flats_words, hards_words, leadss_words, refsOfs_words, rens_words, words_length, get_words, over_words, hard_W, flat_W, refsOf_W, leads_W, ren_W, view_W, view1_W, cellsO_W, cvi_bw, cvi_wb, zer_bytes, app_ofBytes, ofBytes_length, flats_ofBytes, hards_ofBytes, leadss_ofBytes, refsOfs_ofBytes, rens_ofBytes, bytesOf_ofBytes, sub_ofBytes, take_ofBytes, drop_ofBytes, get_ofBytes, over_ofBytes_all, over_ofBytes, ofBytes_snoc, addAll]
    have := ih (i + 1) (h.set i (h.getD i 0 + r.getD i 0)) (by omega) (by simpa using h2)
    simp only [Int.natCast_add, Int.cast_ofNat_Int] at this
    exact this
theorem addAll_plus {h : List (BitVec 32)} (hh : h.length = 8) (s : S8) : addAll (S8.l s) 8 0 h = S8.plus h s := by
  match h, hh with
  | [a, b, c, d, e, f, g, i], _ => rfl

theorem comp_r0 {h ws : List (BitVec 32)} {b : List UInt8} (hh : h.length = 8) (hw : ws.length = 64) :
    X E [.cell 4 (some 8)] [.c L.ref01_compress.r0] ⟨[(1, .lst (ofBytes b) 64), (2, .ref (.s 1000000 0) 0 0), (4, .ref (.s 1000000 1) 0 0), (5, .ref (.s 1000000 2) 0 0), (6, .int .i64 64), (18, .bool false)],
      [(.s 1000000 0, ⟨0, true, true, true, words h⟩), (.s 1000000 1, ⟨0, true, true, true, words (List.replicate 8 0)⟩), (.s 1000000 2, ⟨0, true, true, true, words ws⟩)]⟩ =
    some (.agg (words (S8.plus h (rnds ws 64 0 (S8.of h)))), []) := by
  have hk := kTab_length
  have hh2 : h = S8.l (S8.of h) := by
    match h, hh with
    | [a, b, c, d, e, f, g, i], _ => rfl
  have := comp_l1 hh hw [.c L.ref01_compress.r1] 64 0 (S8.of h) (by omega)
  simp only [Int.cast_ofNat_Int] at this
  rw [show [(S8.of h).a, (S8.of h).b, (S8.of h).c, (S8.of h).d, (S8.of h).e, (S8.of h).f, (S8.of h).g, (S8.of h).h] = h from hh2.symm] at this
  simp (dsimp := false) (disch := first | omega | (simp only [strs_length, List.length_set, List.length_replicate, words_length, ofBytes_length, List.length_append, List.length_cons, List.length_nil, List.length_take, List.length_drop] <;> omega) | fail) only [L.ref01_compress.r0, go_sem, reduceIte, reduceCtorEq, Nat.reduceEqDiff, Nat.reduceAdd, Nat.reduceSub, Nat.reduceMul, Nat.reduceDiv, Nat.reduceMod, Nat.reduceBEq, Nat.reduceLeDiff, Nat.reduceLT, Int.reduceEq, Int.reduceNe, Int.reduceLT, Int.reduceLE, Int.reduceBEq, Int.reduceBNe, Int.reduceToNat, Int.reduceAdd, Int.reduceSub, Int.reduceMul, Int.reduceNeg, sub_take, take_len, sub_drop, take_words, drop_words, sub_words, over_words_all, zer_words, w_add, w_and, w_or, w_xor, w_not, w_shl, w_shr, flats_words, hards_words, leadss_words, refsOfs_words, rens_words, words_length, get_words, over_words, hard_W, flat_W, refsOf_W, leads_W, ren_W, view_W, view1_W, cellsO_W, cvi_bw, cvi_wb, zer_bytes, app_ofBytes, ofBytes_length, flats_ofBytes, hards_ofBytes, leadss_ofBytes, refsOfs_ofBytes, rens_ofBytes, bytesOf_ofBytes, sub_ofBytes, take_ofBytes, drop_ofBytes, get_ofBytes, over_ofBytes_all, over_ofBytes, ofBytes_snoc, go_constants]
  rw [this]
  clear this
  generalize rnds ws 64 0 (S8.of h) = R
  have hR : (S8.l R).length = 8 := rfl
  have := comp_l2 hR [.c L.ref01_compress.r2] 8 0 h (by omega) hh
  simp only [Int.cast_ofNat_Int] at this
  simp (dsimp := false) (disch := first | omega | (simp only [strs_length, List.length_set, List.length_replicate, words_length, ofBytes_length, List.length_append, List.length_cons, List.length_nil, List.length_take, List.length_drop] <;> omega) | fail) only [L.ref01_compress.r1, go_sem, reduceIte, reduceCtorEq, Nat.reduceEqDiff, Nat.reduceAdd, Nat.reduceSub, Nat.reduceMul, Nat.reduceDiv, Nat.reduceMod, Nat.reduceBEq, Nat.reduceLeDiff, Nat.reduceLT, Int.reduceEq, Int.reduceNe, Int.reduceLT, Int.reduceLE, Int.reduceBEq, Int.reduceBNe, Int.reduceToNat, Int.reduceAdd, Int.reduceSub, Int.reduceMul, Int.reduceNeg, sub_take, take_len, sub_drop, take_words, drop_words, sub_words, over_words_all, zer_words, w_add, w_and, w_or, w_xor, w_not, w_shl, w_shr, flats_words, hards_words, leadss_words, refsOfs_words, rens_words, words_length, get_words, over_words, hard_W, flat_W, refsOf_W, leads_W, ren_W, view_W, view1_W, cellsO_W, cvi_bw, cvi_wb, zer_bytes, app_ofBytes, ofBytes_length, flats_ofBytes, hards_ofBytes, leadss_ofBytes, refsOfs_ofBytes, rens_ofBytes, bytesOf_ofBytes, sub_ofBytes, take_ofBytes, drop_ofBytes, get_ofBytes, over_ofBytes_all, over_ofBytes, ofBytes_snoc]
  rw [this, addAll_plus hh]
  have hp : (S8.plus h R).length = 8 := rfl
  simp (dsimp := false) (disch := first | omega | (simp only [strs_length, List.length_set, List.length_replicate, words_length, ofBytes_length, List.length_append, List.length_cons, List.length_nil, List.length_take, List.length_drop] <;> omega) | fail) only [L.ref01_compress.r2, go_sem, reduceIte, reduceCtorEq, Nat.reduceEqDiff, Nat.reduceAdd, Nat.reduceSub, Nat.reduceMul, Nat.reduceDiv, Nat.reduceMod, Nat.reduceBEq, Nat.reduceLeDiff, Nat.reduceLT, Int.reduceEq, Int.reduceNe, Int.reduceLT, Int.reduceLE, Int.reduceBEq, Int.reduceBNe, Int.reduceToNat, Int.reduceAdd, Int.reduceSub, Int.reduceMul, Int.reduceNeg, sub_take, take_len, sub_drop, take_words, drop_words, sub_words, over_words_all, zer_words, w_add, w_and, w_or, w_xor, w_not, w_shl, w_shr, flats_words, hards_words, leadss_words, refsOfs_words, rens_words, words_length, get_words, over_words, hard_W, flat_W, refsOf_W, leads_W, ren_W, view_W, view1_W, cellsO_W, cvi_bw, cvi_wb, zer_bytes, app_ofBytes, ofBytes_length, flats_ofBytes, hards_ofBytes, leadss_ofBytes, refsOfs_ofBytes, rens_ofBytes, bytesOf_ofBytes, sub_ofBytes, take_ofBytes, drop_ofBytes, get_ofBytes, over_ofBytes_all, over_ofBytes, ofBytes_snoc]

theorem go_compress {h : List (BitVec 32)} {b : List UInt8} (hh : h.length = 8) (hb : b.length = 64) : S E F.ref01_compress [.agg (words h), .lst (ofBytes b) 64] [] = some (.agg (words (blockF h b)), []) := by
  have l1 : (fill1 b 16 0 (List.replicate 64 0)).length = 64 := by rw [fill1_length]; simp
  rw [blockF, ← comp_r0 (b := b) hh (msch_length b), msch]
  have t1 := comp_l0a hh hb [.c L.ref01_compress.r0] 16 0 (List.replicate 64 0) (by omega) (by simp)
  have t2 := comp_l0b hh hb [.c L.ref01_compress.r0] 48 16 _ (by omega) (by omega) l1
  simp only [Int.cast_ofNat_Int] at t1 t2
  rw [← t2, ← t1]
  rw [S_of fn_ref01_compress rfl rfl]
  simp (dsimp := false) (disch := first | omega | (simp only [strs_length, List.length_set, List.length_replicate, words_length, ofBytes_length, List.length_append, List.length_cons, List.length_nil, List.length_take, List.length_drop] <;> omega) | fail) only [L.ref01_compress, go_sem, reduceIte, reduceCtorEq, Nat.reduceEqDiff, Nat.reduceAdd, Nat.reduceSub, Nat.reduceMul, Nat.reduceDiv, Nat.reduceMod, Nat.reduceBEq, Nat.reduceLeDiff, Nat.reduceLT, Int.reduceEq, Int.reduceNe, Int.reduceLT, Int.reduceLE, Int.reduceBEq, Int.reduceBNe, Int.reduceToNat, Int.reduceAdd, Int.reduceSub, Int.reduceMul, Int.reduceNeg, sub_take, take_len, sub_drop, take_words, drop_words, sub_words, over_words_all, zer_words, w_add, w_and, w_or, w_xor, w_not, w_shl, w_shr, flats_words, hards_words, leadss_words, refsOfs_words, rens_words, words_length, get_words, over_words, hard_W, flat_W, refsOf_W, leads_W, ren_W, view_W, view1_W, cellsO_W, cvi_bw, cvi_wb, zer_bytes, app_ofBytes, ofBytes_length, flats_ofBytes, hards_ofBytes, leadss_ofBytes, refsOfs_ofBytes, rens_ofBytes, bytesOf_ofBytes, sub_ofBytes, take_ofBytes, drop_ofBytes, get_ofBytes, over_ofBytes_all, over_ofBytes, ofBytes_snoc]
end Cod

/- SHA-256: the reference's padding and sums. -/
namespace Cod
open Go

theorem rpad_l0 {n : Nat} (hn : n ≤ 1000000000000) (k : List It) : ∀ (m : Nat) (l : List UInt8), (n % 64 + l.length + 8 + m) % 64 = 0 → m < 64 → l.length + m ≤ 100 →
    X E [.tmp 2] (.c L.ref01_DocPad.x0 :: .lp [0, 3] L.ref01_DocPad.x0 :: .blk 0 :: k) ⟨[(0, .int .i64 n), (3, .buf (.s 1000000 0) 0 0 l.length 1)], [(.s 1000000 0, ⟨0, true, true, false, ofBytes l⟩)]⟩ =
    X E [.tmp 2] k ⟨[(0, .int .i64 n), (3, .buf (.s 1000000 0) 0 0 (l.length + m) 1), (15, .bool false)], [(.s 1000000 0, ⟨0, true, true, false, ofBytes (l ++ List.replicate m 0)⟩)]⟩ := by
  intro m
  induction m with
  | zero =>
    intro l h1 h2 h3
    rw [X_in L.ref01_DocPad.x0.eq_1]
    simp (dsimp := false) (disch := first | omega | (simp only [strs_length, List.length_set, List.length_replicate, words_length, ofBytes_length, List.length_append, List.length_cons, List.length_nil, List.length_take, List.length_drop] <;> omega) | fail) only [go_sem, reduceIte, reduceCtorEq, Nat.reduceEqDiff, Nat.reduceAdd, Nat.reduceSub, Nat.reduceMul, Nat.reduceDiv, Nat.reduceMod, Nat.reduceBEq, Nat.reduceLeDiff, Nat.reduceLT, Int.reduceEq, Int.reduceNe, Int.reduceLT, Int.reduceLE, Int.reduceBEq, Int.reduceBNe, Int.reduceToNat, Int.reduceAdd, Int.reduceSub, Int.reduceMul, Int.reduceNeg, sub_take, take_len, sub_drop, zer_bytes, app_ofBytes, ofBytes_length, flats_ofBytes, hards_ofBytes, leadss_ofBytes, refsOfs_ofBytes, rens_ofBytes, bytesOf_ofBytes, sub_ofBytes, take_ofBytes, drop_ofBytes, get_ofBytes, over_ofBytes_all, over_ofBytes, ofBytes_snoc, List.replicate_zero, List.append_nil]
  | succ m ih =>
    intro l h1 h2 h3
    rw [X_in L.ref01_DocPad.x0.eq_1]
    simp (dsimp := false) (disch := first | omega | (simp only [strs_length, List.length_set, List.length_replicate, words_length, ofBytes_length, List.length_append, List.length_cons, List.length_nil, List.length_take, List.length_drop] <;> omega) | fail) only [go_sem, reduceIte, reduceCtorEq, Nat.reduceEqDiff, Nat.reduceAdd, Nat.reduceSub, Nat.reduceMul, Nat.reduceDiv, Nat.reduceMod, Nat.reduceBEq, Nat.reduceLeDiff, Nat.reduceLT, Int.reduceEq, Int.reduceNe, Int.reduceLT, Int.reduceLE, Int.reduceBEq, Int.reduceBNe, Int.reduceToNat, Int.reduceAdd, Int.reduceSub, Int.reduceMul, Int.reduceNeg, sub_take, take_len, sub_drop, zer_bytes, app_ofBytes, ofBytes_length, flats_ofBytes, hards_ofBytes, leadss_ofBytes, refsOfs_ofBytes, rens_ofBytes, bytesOf_ofBytes, sub_ofBytes, take_ofBytes, drop_ofBytes, get_ofBytes, over_ofBytes_all, over_ofBytes, ofBytes_snoc]
    have := ih (l ++ [byt 0]) (by simp; omega) (by omega) (by simp; omega)
    rw [List.append_assoc, show [byt 0] ++ List.replicate m 0 = List.replicate (m + 1) 0 from rfl, List.length_append, List.length_singleton, show l.length + 1 + m = l.length + (m + 1) by omega] at this
    exact this

def padApp (n : Nat) : Nat → List UInt8 → List UInt8
  | 0, l => l
  | m + 1, l => padApp n m (l ++ [UInt8.ofNat (8 * n / 2 ^ (8 * m) % 256)])
theorem padApp_be (n : Nat) (l : List UInt8) : padApp n 8 l = l ++ be8 (8 * n) := by simp [padApp, be8]
theorem rpad_l1 {n : Nat} (hn : n ≤ 1000000000000) (k : List It) : ∀ (m : Nat) (i : Int) (l : List UInt8), i + 1 = m → m ≤ 8 → l.length + m ≤ 200 →
    X E [.tmp 2] (.c L.ref01_DocPad.x1 :: .lp [0, 3, 4] L.ref01_DocPad.x1 :: .blk 2 :: k) ⟨[(0, .int .i64 n), (3, .buf (.s 1000000 0) 0 0 l.length 1), (4, .int .i64 i)], [(.s 1000000 0, ⟨0, true, true, false, ofBytes l⟩)]⟩ =
    X E [.tmp 2] k ⟨[(0, .int .i64 n), (3, .buf (.s 1000000 0) 0 0 (l.length + m) 1), (4, .int .i64 (-1)), (20, .bool false)], [(.s 1000000 0, ⟨0, true, true, false, ofBytes (padApp n m l)⟩)]⟩ := by
  intro m
  induction m with
  | zero =>
    intro i l h1 h2 h3
    obtain rfl : i = -1 := by omega
    rw [X_in L.ref01_DocPad.x1.eq_1]
    simp (dsimp := false) (disch := first | omega | (simp only [strs_length, List.length_set, List.length_replicate, words_length, ofBytes_length, List.length_append, List.length_cons, List.length_nil, List.length_take, List.length_drop] <;> omega) | fail) only [go_sem, reduceIte, reduceCtorEq, Nat.reduceEqDiff, Nat.reduceAdd, Nat.reduceSub, Nat.reduceMul, Nat.reduceDiv, Nat.reduceMod, Nat.reduceBEq, Nat.reduceLeDiff, Nat.reduceLT, Int.reduceEq, Int.reduceNe, Int.reduceLT, Int.reduceLE, Int.reduceBEq, Int.reduceBNe, Int.reduceToNat, Int.reduceAdd, Int.reduceSub, Int.reduceMul, Int.reduceNeg, sub_take, take_len, sub_drop, zer_bytes, app_ofBytes, ofBytes_length, flats_ofBytes, hards_ofBytes, leadss_ofBytes, refsOfs_ofBytes, rens_ofBytes, bytesOf_ofBytes, sub_ofBytes, take_ofBytes, drop_ofBytes, get_ofBytes, over_ofBytes_all, over_ofBytes, ofBytes_snoc, padApp]
  | succ m ih =>
    intro i l h1 h2 h3
    obtain rfl : i = (m : Int) := by omega
    have e1 : ishr .u64 (8 * (n : Int)) (8 * (m : Int)) = ((8 * n / 2 ^ (8 * m) : Nat) : Int) := by
      rw [show (8 * (m : Int)) = ((8 * m : Nat) : Int) by omega, ishr_any (by simp [IntKind.bits]; omega), Int.natCast_ediv, Int.natCast_pow]
      congr 1
    have e2 : ((8 * n / 2 ^ (8 * m) : Nat) : Int) % 256 = ((8 * n / 2 ^ (8 * m) % 256 : Nat) : Int) := by omega
    have e3 : byt ((8 * n / 2 ^ (8 * m) % 256 : Nat) : Int) = UInt8.ofNat (8 * n / 2 ^ (8 * m) % 256) := by unfold byt; congr 1
    rw [X_in L.ref01_DocPad.x1.eq_1]
    simp (dsimp := false) (disch := first | omega | (simp only [strs_length, List.length_set, List.length_replicate, words_length, ofBytes_length, List.length_append, List.length_cons, List.length_nil, List.length_take, List.length_drop] <;> omega) | fail) only [go_sem, reduceIte, reduceCtorEq, Nat.reduceEqDiff, Nat.reduceAdd, Nat.reduceSub, Nat.reduceMul, Nat.reduceDiv, Nat.reduceMod, Nat.reduceBEq, Nat.reduceLeDiff, Nat.reduceLT, Int.reduceEq, Int.reduceNe, Int.reduceLT, Int.reduceLE, Int.reduceBEq, Int.reduceBNe, Int.reduceToNat, Int.reduceAdd, Int.reduceSub, Int.reduceMul, Int.reduceNeg, sub_take, take_len, sub_drop, zer_bytes, app_ofBytes, ofBytes_length, flats_ofBytes, hards_ofBytes, leadss_ofBytes, refsOfs_ofBytes, rens_ofBytes, bytesOf_ofBytes, sub_ofBytes, take_ofBytes, drop_ofBytes, get_ofBytes, over_ofBytes_all, over_ofBytes, ofBytes_snoc, padApp, e1, e2, e3]
    have := ih ((m : Int) - 1) (l ++ [UInt8.ofNat (8 * n / 2 ^ (8 * m) % 256)]) (by omega) (by omega) (by simp; omega)
    rw [List.length_append, List.length_singleton, show l.length + 1 + m = l.length + (m + 1) by omega] at this
    exact this

theorem go_docpad {n : Nat} (h1 : n ≤ 1000000000000) : S E F.ref01_DocPad [.int .i64 n] [] = some (.buf (.r 0) 0 0 (padF n).length 1, [(.r 0, ⟨0, true, true, false, ofBytes (padF n)⟩)]) := by
  have hn0 : ¬ (n : Int) < 0 := by omega
  have t1 := rpad_l0 h1 [.c L.ref01_DocPad.r0] ((119 - n % 64) % 64) [128] (by simp; omega) (by omega) (by simp; omega)
  have t2 := rpad_l1 h1 [.c L.ref01_DocPad.r1] 8 7 ([128] ++ List.replicate ((119 - n % 64) % 64) 0) (by omega) (by omega) (by simp; omega)
  rw [padApp_be, List.length_append, List.length_replicate] at t2
  have hp : [128] ++ List.replicate ((119 - n % 64) % 64) 0 ++ be8 (8 * n) = padF n := by rw [padF]; rfl
  rw [hp] at t2
  have hlen : (padF n).length = (119 - n % 64) % 64 + 9 := by rw [padF]; simp [be8]
  simp only [List.length_singleton] at t1 t2
  have b1 : ofBytes [128] = [AV.int .u8 128] := rfl
  rw [b1] at t1
  rw [S_of fn_ref01_DocPad rfl rfl]
  simp (dsimp := false) (disch := first | omega | (simp only [strs_length, List.length_set, List.length_replicate, words_length, ofBytes_length, List.length_append, List.length_cons, List.length_nil, List.length_take, List.length_drop] <;> omega) | fail) only [L.ref01_DocPad, go_sem, reduceIte, reduceCtorEq, Nat.reduceEqDiff, Nat.reduceAdd, Nat.reduceSub, Nat.reduceMul, Nat.reduceDiv, Nat.reduceMod, Nat.reduceBEq, Nat.reduceLeDiff, Nat.reduceLT, Int.reduceEq, Int.reduceNe, Int.reduceLT, Int.reduceLE, Int.reduceBEq, Int.reduceBNe, Int.reduceToNat, Int.reduceAdd, Int.reduceSub, Int.reduceMul, Int.reduceNeg, sub_take, take_len, sub_drop, zer_bytes, app_ofBytes, ofBytes_length, flats_ofBytes, hards_ofBytes, leadss_ofBytes, refsOfs_ofBytes, rens_ofBytes, bytesOf_ofBytes, sub_ofBytes, take_ofBytes, drop_ofBytes, get_ofBytes, over_ofBytes_all, over_ofBytes, ofBytes_snoc, hn0]
  rw [t1]
  simp (dsimp := false) (disch := first | omega | (simp only [strs_length, List.length_set, List.length_replicate, words_length, ofBytes_length, List.length_append, List.length_cons, List.length_nil, List.length_take, List.length_drop] <;> omega) | fail) only [L.ref01_DocPad.r0, go_sem, reduceIte, reduceCtorEq, Nat.reduceEqDiff, Nat.reduceAdd, Nat.reduceSub, Nat.reduceMul, Nat.reduceDiv, Nat.reduceMod, Nat.reduceBEq, Nat.reduceLeDiff, Nat.reduceLT, Int.reduceEq, Int.reduceNe, Int.reduceLT, Int.reduceLE, Int.reduceBEq, Int.reduceBNe, Int.reduceToNat, Int.reduceAdd, Int.reduceSub, Int.reduceMul, Int.reduceNeg, sub_take, take_len, sub_drop, zer_bytes, app_ofBytes, ofBytes_length, flats_ofBytes, hards_ofBytes, leadss_ofBytes, refsOfs_ofBytes, rens_ofBytes, bytesOf_ofBytes, sub_ofBytes, take_ofBytes, drop_ofBytes, get_ofBytes, over_ofBytes_all, over_ofBytes, ofBytes_snoc]
  refine Eq.trans t2 ?_
  have hl2 : 1 + (119 - n % 64) % 64 + 8 = (119 - n % 64) % 64 + 9 := by omega
  simp (dsimp := false) (disch := first | omega | (simp only [strs_length, List.length_set, List.length_replicate, words_length, ofBytes_length, List.length_append, List.length_cons, List.length_nil, List.length_take, List.length_drop] <;> omega) | fail) only [L.ref01_DocPad.r1, go_sem, reduceIte, reduceCtorEq, Nat.reduceEqDiff, Nat.reduceAdd, Nat.reduceSub, Nat.reduceMul, Nat.reduceDiv, Nat.reduceMod, Nat.reduceBEq, Nat.reduceLeDiff, Nat.reduceLT, Int.reduceEq, Int.reduceNe, Int.reduceLT, Int.reduceLE, Int.reduceBEq, Int.reduceBNe, Int.reduceToNat, Int.reduceAdd, Int.reduceSub, Int.reduceMul, Int.reduceNeg, sub_take, take_len, sub_drop, zer_bytes, app_ofBytes, ofBytes_length, flats_ofBytes, hards_ofBytes, leadss_ofBytes, refsOfs_ofBytes, rens_ofBytes, bytesOf_ofBytes, sub_ofBytes, take_ofBytes, drop_ofBytes, get_ofBytes, over_ofBytes_all, over_ofBytes, ofBytes_snoc, hlen, hl2]

/-! ### the sum -/
theorem rsum_l0 {p : List UInt8} (hp : p.length ≤ 1000000000000) (k : List It) : ∀ (m i : Nat) (h : List (BitVec 32)), i + 64 * m = 64 * (p.length / 64) → h.length = 8 →
    X E [.cell 2 (some 32)] (.c L.ref01_Sum.x0 :: .lp [0, 2, 3, 4, 5] L.ref01_Sum.x0 :: .blk 0 :: k) ⟨[(0, .lst (ofBytes p) p.length), (2, .ref (.s 1000000 0) 0 0), (3, .ref (.s 1000000 1) 0 0), (4, .int .i64 (64 * (p.length / 64) : Nat)), (5, .int .i64 i)], [(.s 1000000 0, ⟨0, true, true, true, ofBytes (List.replicate 32 0)⟩), (.s 1000000 1, ⟨0, true, true, true, words h⟩)]⟩ =
    X E [.cell 2 (some 32)] k ⟨[(0, .lst (ofBytes p) p.length), (2, .ref (.s 1000000 0) 0 0), (3, .ref (.s 1000000 1) 0 0), (4, .int .i64 (64 * (p.length / 64) : Nat)), (5, .int .i64 (i + 64 * m : Nat)), (17, .bool false)], [(.s 1000000 0, ⟨0, true, true, true, ofBytes (List.replicate 32 0)⟩), (.s 1000000 1, ⟨0, true, true, true, words (blocksN m h (p.drop i))⟩)]⟩ := by
  intro m
  induction m with
  | zero =>
    intro i h h1 h4
    rw [X_in L.ref01_Sum.x0.eq_1]
    simp (dsimp := false) (disch := first | omega | (simp only [strs_length, List.length_set, List.length_replicate, words_length, ofBytes_length, List.length_append, List.length_cons, List.length_nil, List.length_take, List.length_drop] <;> omega) | fail) only [go_sem, reduceIte, reduceCtorEq, Nat.reduceEqDiff, Nat.reduceAdd, Nat.reduceSub, Nat.reduceMul, Nat.reduceDiv, Nat.reduceMod, Nat.reduceBEq, Nat.reduceLeDiff, Nat.reduceLT, Int.reduceEq, Int.reduceNe, Int.reduceLT, Int.reduceLE, Int.reduceBEq, Int.reduceBNe, Int.reduceToNat, Int.reduceAdd, Int.reduceSub, Int.reduceMul, Int.reduceNeg, sub_take, take_len, sub_drop, zer_bytes, app_ofBytes, ofBytes_length, flats_ofBytes, hards_ofBytes, leadss_ofBytes, refsOfs_ofBytes, rens_ofBytes, bytesOf_ofBytes, sub_ofBytes, take_ofBytes, drop_ofBytes, get_ofBytes, over_ofBytes_all, over_ofBytes, ofBytes_snoc, take_words, drop_words, sub_words, over_words_all, zer_words, w_add, w_and, w_or, w_xor, w_not, w_shl, w_shr, flats_words, hards_words, leadss_words, refsOfs_words, rens_words, words_length, get_words, over_words, hard_W, flat_W, refsOf_W, leads_W, ren_W, view_W, view1_W, cellsO_W, cvi_bw, cvi_wb, blocksN, Nat.add_zero, Nat.mul_zero]
  | succ m ih =>
    intro i h h1 h4
    have hb : ((p.drop i).take 64).length = 64 := by rw [List.length_take, List.length_drop]; omega
    have hbl := blockF_length h ((p.drop i).take 64)
    have hs : sub p i 64 = (p.drop i).take 64 := rfl
    have e1 : ((i : Int) + 64).toNat = i + 64 := by omega
    have e2 : i + 64 - i = 64 := by omega
    rw [X_in L.ref01_Sum.x0.eq_1]
    simp (dsimp := false) (disch := first | omega | (simp only [strs_length, List.length_set, List.length_replicate, words_length, ofBytes_length, List.length_append, List.length_cons, List.length_nil, List.length_take, List.length_drop] <;> omega) | fail) only [go_sem, reduceIte, reduceCtorEq, Nat.reduceEqDiff, Nat.reduceAdd, Nat.reduceSub, Nat.reduceMul, Nat.reduceDiv, Nat.reduceMod, Nat.reduceBEq, Nat.reduceLeDiff, Nat.reduceLT, Int.reduceEq, Int.reduceNe, Int.reduceLT, Int.reduceLE, Int.reduceBEq, Int.reduceBNe, Int.reduceToNat, Int.reduceAdd, Int.reduceSub, Int.reduceMul, Int.reduceNeg, sub_take, take_len, sub_drop, zer_bytes, app_ofBytes, ofBytes_length, flats_ofBytes, hards_ofBytes, leadss_ofBytes, refsOfs_ofBytes, rens_ofBytes, bytesOf_ofBytes, sub_ofBytes, take_ofBytes, drop_ofBytes, get_ofBytes, over_ofBytes_all, over_ofBytes, ofBytes_snoc, take_words, drop_words, sub_words, over_words_all, zer_words, w_add, w_and, w_or, w_xor, w_not, w_shl, w_shr, flats_words, hards_words, leadss_words, refsOfs_words, rens_words, words_length, get_words, over_words, hard_W, flat_W, refsOf_W, leads_W, ren_W, view_W, view1_W, cellsO_W, cvi_bw, cvi_wb, blocksN, e1, e2, hs, go_compress h4 hb]
    have := ih (i + 64) (blockF h ((p.drop i).take 64)) (by omega) (blockF_length _ _)
    rw [← List.drop_drop, show i + 64 + 64 * m = i + 64 * (m + 1) by omega] at this
    simp only [Int.natCast_add, Int.cast_ofNat_Int] at this ⊢
    exact this

theorem rsum_l1 {full : List UInt8} (hf : full.length ≤ 1000000000100) (k : List It) : ∀ (m i : Nat) (h : List (BitVec 32)), i + 64 * m = full.length → h.length = 8 →
    X E [.cell 2 (some 32)] (.c L.ref01_Sum.x1 :: .lp [2, 3, 6, 7] L.ref01_Sum.x1 :: .blk 2 :: k) ⟨[(2, .ref (.s 1000000 0) 0 0), (3, .ref (.s 1000000 1) 0 0), (6, .buf (.s 1000000 2) 0 0 full.length 1), (7, .int .i64 i)], [(.s 1000000 0, ⟨0, true, true, true, ofBytes (List.replicate 32 0)⟩), (.s 1000000 1, ⟨0, true, true, true, words h⟩), (.s 1000000 2, ⟨0, true, true, false, ofBytes full⟩)]⟩ =
    X E [.cell 2 (some 32)] k ⟨[(2, .ref (.s 1000000 0) 0 0), (3, .ref (.s 1000000 1) 0 0), (6, .buf (.s 1000000 2) 0 0 full.length 1), (7, .int .i64 full.length), (40, .bool false)], [(.s 1000000 0, ⟨0, true, true, true, ofBytes (List.replicate 32 0)⟩), (.s 1000000 1, ⟨0, true, true, true, words (blocksN m h (full.drop i))⟩), (.s 1000000 2, ⟨0, true, true, false, ofBytes full⟩)]⟩ := by
  intro m
  induction m with
  | zero =>
    intro i h h1 h4
    obtain rfl : i = full.length := by omega
    rw [X_in L.ref01_Sum.x1.eq_1]
    simp (dsimp := false) (disch := first | omega | (simp only [strs_length, List.length_set, List.length_replicate, words_length, ofBytes_length, List.length_append, List.length_cons, List.length_nil, List.length_take, List.length_drop] <;> omega) | fail) only [go_sem, reduceIte, reduceCtorEq, Nat.reduceEqDiff, Nat.reduceAdd, Nat.reduceSub, Nat.reduceMul, Nat.reduceDiv, Nat.reduceMod, Nat.reduceBEq, Nat.reduceLeDiff, Nat.reduceLT, Int.reduceEq, Int.reduceNe, Int.reduceLT, Int.reduceLE, Int.reduceBEq, Int.reduceBNe, Int.reduceToNat, Int.reduceAdd, Int.reduceSub, Int.reduceMul, Int.reduceNeg, sub_take, take_len, sub_drop, zer_bytes, app_ofBytes, ofBytes_length, flats_ofBytes, hards_ofBytes, leadss_ofBytes, refsOfs_ofBytes, rens_ofBytes, bytesOf_ofBytes, sub_ofBytes, take_ofBytes, drop_ofBytes, get_ofBytes, over_ofBytes_all, over_ofBytes, ofBytes_snoc, take_words, drop_words, sub_words, over_words_all, zer_words, w_add, w_and, w_or, w_xor, w_not, w_shl, w_shr, flats_words, hards_words, leadss_words, refsOfs_words, rens_words, words_length, get_words, over_words, hard_W, flat_W, refsOf_W, leads_W, ren_W, view_W, view1_W, cellsO_W, cvi_bw, cvi_wb, blocksN]
  | succ m ih =>
    intro i h h1 h4
    have hb : ((full.drop i).take 64).length = 64 := by rw [List.length_take, List.length_drop]; omega
    have hbl := blockF_length h ((full.drop i).take 64)
    have hs : sub full i 64 = (full.drop i).take 64 := rfl
    have e1 : ((i : Int) + 64).toNat = i + 64 := by omega
    have e2 : i + 64 - i = 64 := by omega
    rw [X_in L.ref01_Sum.x1.eq_1]
    simp (dsimp := false) (disch := first | omega | (simp only [strs_length, List.length_set, List.length_replicate, words_length, ofBytes_length, List.length_append, List.length_cons, List.length_nil, List.length_take, List.length_drop] <;> omega) | fail) only [go_sem, reduceIte, reduceCtorEq, Nat.reduceEqDiff, Nat.reduceAdd, Nat.reduceSub, Nat.reduceMul, Nat.reduceDiv, Nat.reduceMod, Nat.reduceBEq, Nat.reduceLeDiff, Nat.reduceLT, Int.reduceEq, Int.reduceNe, Int.reduceLT, Int.reduceLE, Int.reduceBEq, Int.reduceBNe, Int.reduceToNat, Int.reduceAdd, Int.reduceSub, Int.reduceMul, Int.reduceNeg, sub_take, take_len, sub_drop, zer_bytes, app_ofBytes, ofBytes_length, flats_ofBytes, hards_ofBytes, leadss_ofBytes, refsOfs_ofBytes, rens_ofBytes, bytesOf_ofBytes, sub_ofBytes, take_ofBytes, drop_ofBytes, get_ofBytes, over_ofBytes_all, over_ofBytes, ofBytes_snoc, take_words, drop_words, sub_words, over_words_all, zer_words, w_add, w_and, w_or, w_xor, w_not, w_shl, w_shr, flats_words, hards_words, leadss_words, refsOfs_words, rens_words, words_length, get_words, over_words, hard_W, flat_W, refsOf_W, leads_W, ren_W, view_W, view1_W, cellsO_W, cvi_bw, cvi_wb, blocksN, e1, e2, hs, go_compress h4 hb, Nat.zero_add]
    have := ih (i + 64) (blockF h ((full.drop i).take 64)) (by omega) (blockF_length _ _)
    rw [← List.drop_drop] at this
    simp only [Int.natCast_add, Int.cast_ofNat_Int] at this
    exact this

def idApp (h : List (BitVec 32)) : Nat → Nat → List UInt8 → List UInt8
  | 0, _, l => l
  | m + 1, i, l => idApp h m (i + 1) (l.set i (wb (h.getD (i / 4) 0 >>> (24 - 8 * (i % 4)))))
theorem rsum_l2 {h : List (BitVec 32)} (hh : h.length = 8) (k : List It) : ∀ (m i : Nat) (l : List UInt8), i + m = 32 → l.length = 32 →
    X E [.cell 2 (some 32)] (.c L.ref01_Sum.x2 :: .lp [2, 3, 8, 9] L.ref01_Sum.x2 :: .blk 4 :: k) ⟨[(2, .ref (.s 1000000 0) 0 0), (3, .ref (.s 1000000 1) 0 0), (8, .ref (.s 1000000 2) 0 0), (9, .int .i64 i)], [(.s 1000000 0, ⟨0, true, true, true, ofBytes (List.replicate 32 0)⟩), (.s 1000000 1, ⟨0, true, true, true, words h⟩), (.s 1000000 2, ⟨0, true, true, true, ofBytes l⟩)]⟩ =
    X E [.cell 2 (some 32)] k ⟨[(2, .ref (.s 1000000 0) 0 0), (3, .ref (.s 1000000 1) 0 0), (8, .ref (.s 1000000 2) 0 0), (9, .int .i64 32), (51, .bool false)], [(.s 1000000 0, ⟨0, true, true, true, ofBytes (List.replicate 32 0)⟩), (.s 1000000 1, ⟨0, true, true, true, words h⟩), (.s 1000000 2, ⟨0, true, true, true, ofBytes (idApp h m i l)⟩)]⟩ := by
  intro m
  induction m with
  | zero =>
    intro i l h1 h2
    obtain rfl : i = 32 := by omega
    rw [X_in L.ref01_Sum.x2.eq_1]
    simp (dsimp := false) (disch := first | omega | (simp only [strs_length, List.length_set, List.length_replicate, words_length, ofBytes_length, List.length_append, List.length_cons, List.length_nil, List.length_take, List.length_drop] <;> omega) | fail) only [go_sem, reduceIte, reduceCtorEq, Nat.reduceEqDiff, Nat.reduceAdd, Nat.reduceSub, Nat.reduceMul, Nat.reduceDiv, Nat.reduceMod, Nat.reduceBEq, Nat.reduceLeDiff, Nat.reduceLT, Int.reduceEq, Int.reduceNe, Int.reduceLT, Int.reduceLE, Int.reduceBEq, Int.reduceBNe, Int.reduceToNat, Int.reduceAdd, Int.reduceSub, Int.reduceMul, Int.reduceNeg, sub_take, take_len, sub_drop, zer_bytes, app_ofBytes, ofBytes_length, flats_ofBytes, hards_ofBytes, leadss_ofBytes, refsOfs_ofBytes, rens_ofBytes, bytesOf_ofBytes, sub_ofBytes, take_ofBytes, drop_ofBytes, get_ofBytes, over_ofBytes_all, over_ofBytes, ofBytes_snoc, take_words, drop_words, sub_words, over_words_all, zer_words, w_add, w_and, w_or, w_xor, w_not, w_shl, w_shr, flats_words, hards_words, leadss_words, refsOfs_words, rens_words, words_length, get_words, over_words, hard_W, flat_W, refsOf_W, leads_W, ren_W, view_W, view1_W, cellsO_W, cvi_bw, cvi_wb, idApp, Int.cast_ofNat_Int]
  | succ m ih =>
    intro i l h1 h2
    have e0 : ((i : Int) / 4).toNat = i / 4 := by omega
    have e1 : (24 - 8 * ((i : Int) % 4)).toNat = 24 - 8 * (i % 4) := by omega
    have hw := (wb (h.getD (i / 4) 0 >>> (24 - 8 * (i % 4)))).toNat_lt
    have e2 : UInt8.ofNat (wb (h.getD (i / 4) 0 >>> (24 - 8 * (i % 4)))).toNat = wb (h.getD (i / 4) 0 >>> (24 - 8 * (i % 4))) := UInt8.ofNat_toNat
    rw [X_in L.ref01_Sum.x2.eq_1]
    simp (dsimp := false) (disch := first | omega | (simp only [strs_length, List.length_set, List.length_replicate, words_length, ofBytes_length, List.length_append, List.length_cons, List.length_nil, List.length_take, List.length_drop] <;> omega) | fail) only [go_sem, reduceIte, reduceCtorEq, Nat.reduceEqDiff, Nat.reduceAdd, Nat.reduceSub, Nat.reduceMul, Nat.reduceDiv, Nat.reduceMod, Nat.reduceBEq, Nat.reduceLeDiff, Nat.reduceLT, Int.reduceEq, Int.reduceNe, Int.reduceLT, Int.reduceLE, Int.reduceBEq, Int.reduceBNe, Int.reduceToNat, Int.reduceAdd, Int.reduceSub, Int.reduceMul, Int.reduceNeg, sub_take, take_len, sub_drop, zer_bytes, app_ofBytes, ofBytes_length, flats_ofBytes, hards_ofBytes, leadss_ofBytes, refsOfs_ofBytes, rens_ofBytes, bytesOf_ofBytes, sub_ofBytes, take_ofBytes, drop_ofBytes, get_ofBytes, over_ofBytes_all, over_ofBytes, ofBytes_snoc, take_words, drop_words, sub_words, over_words_all, zer_words, w_add, w_and, w_or, w_xor, w_not, w_shl, w_shr, flats_words, hards_words, leadss_words, refsOfs_words, rens_words, words_length, get_words, over_words, hard_W, flat_W, refsOf_W, leads_W, ren_W, view_W, view1_W, cellsO_W, cvi_bw, cvi_wb, idApp, e0, e1, e2]
    have := ih (i + 1) (l.set i (wb (h.getD (i / 4) 0 >>> (24 - 8 * (i % 4))))) (by omega) (by simpa using h2)
    simp only [Int.natCast_add, Int.cast_ofNat_Int] at this
    exact this
theorem idApp_id {h : List (BitVec 32)} (hh : h.length = 8) : idApp h 32 0 (List.replicate 32 0) = idOf h := by
  match h, hh with
  | [a, b, c, d, e, f, g, i], _ =>
    show idApp [a, b, c, d, e, f, g, i] 32 0 (List.replicate 32 0) = idOf [a, b, c, d, e, f, g, i]
    kernel_rfl

theorem pad_mod (n : Nat) : (n - 64 * (n / 64) + (padF n).length) % 64 = 0 := by
  rw [padF]
  simp [be8]
  omega

theorem go_rsum {p : List UInt8} (hp : p.length ≤ 1000000000000) : S E F.ref01_Sum [.lst (ofBytes p) p.length] [] = some (.agg (ofBytes (shaF p)), []) := by
  have hh0 : h0w.length = 8 := rfl
  have hbl := blocksN_length (p.length / 64) h0w p hh0
  have hpl : (padF p.length).length ≤ 100 := by rw [padF]; simp [be8]; omega
  have hm := pad_mod p.length
  have e0 : (p.length : Int) / 64 * 64 = ((64 * (p.length / 64) : Nat) : Int) := by omega
  rw [S_of fn_ref01_Sum rfl rfl]
  simp (dsimp := false) (disch := first | omega | (simp only [strs_length, List.length_set, List.length_replicate, words_length, ofBytes_length, List.length_append, List.length_cons, List.length_nil, List.length_take, List.length_drop] <;> omega) | fail) only [L.ref01_Sum, go_sem, reduceIte, reduceCtorEq, Nat.reduceEqDiff, Nat.reduceAdd, Nat.reduceSub, Nat.reduceMul, Nat.reduceDiv, Nat.reduceMod, Nat.reduceBEq, Nat.reduceLeDiff, Nat.reduceLT, Int.reduceEq, Int.reduceNe, Int.reduceLT, Int.reduceLE, Int.reduceBEq, Int.reduceBNe, Int.reduceToNat, Int.reduceAdd, Int.reduceSub, Int.reduceMul, Int.reduceNeg, sub_take, take_len, sub_drop, take_words, drop_words, sub_words, over_words_all, zer_words, w_add, w_and, w_or, w_xor, w_not, w_shl, w_shr, flats_words, hards_words, leadss_words, refsOfs_words, rens_words, words_length, get_words, over_words, hard_W, flat_W, refsOf_W, leads_W, ren_W, view_W, view1_W, cellsO_W, cvi_bw, cvi_wb, zer_bytes, app_ofBytes, ofBytes_length, flats_ofBytes, hards_ofBytes, leadss_ofBytes, refsOfs_ofBytes, rens_ofBytes, bytesOf_ofBytes, sub_ofBytes, take_ofBytes, drop_ofBytes, get_ofBytes, over_ofBytes_all, over_ofBytes, ofBytes_snoc, go_first, e0]
  have := rsum_l0 hp [.c L.ref01_Sum.r0] (p.length / 64) 0 h0w (by omega) hh0
  simp only [Int.cast_ofNat_Int, Nat.zero_add, List.drop_zero] at this
  rw [this]
  clear this
  simp (dsimp := false) (disch := first | omega | (simp only [strs_length, List.length_set, List.length_replicate, words_length, ofBytes_length, List.length_append, List.length_cons, List.length_nil, List.length_take, List.length_drop] <;> omega) | fail) only [L.ref01_Sum.r0, go_sem, reduceIte, reduceCtorEq, Nat.reduceEqDiff, Nat.reduceAdd, Nat.reduceSub, Nat.reduceMul, Nat.reduceDiv, Nat.reduceMod, Nat.reduceBEq, Nat.reduceLeDiff, Nat.reduceLT, Int.reduceEq, Int.reduceNe, Int.reduceLT, Int.reduceLE, Int.reduceBEq, Int.reduceBNe, Int.reduceToNat, Int.reduceAdd, Int.reduceSub, Int.reduceMul, Int.reduceNeg, sub_take, take_len, sub_drop, take_words, drop_words, sub_words, over_words_all, zer_words, w_add, w_and, w_or, w_xor, w_not, w_shl, w_shr, flats_words, hards_words, leadss_words, refsOfs_words, rens_words, words_length, get_words, over_words, hard_W, flat_W, refsOf_W, leads_W, ren_W, view_W, view1_W, cellsO_W, cvi_bw, cvi_wb, zer_bytes, app_ofBytes, ofBytes_length, flats_ofBytes, hards_ofBytes, leadss_ofBytes, refsOfs_ofBytes, rens_ofBytes, bytesOf_ofBytes, sub_ofBytes, take_ofBytes, drop_ofBytes, get_ofBytes, over_ofBytes_all, over_ofBytes, ofBytes_snoc, go_docpad hp]
  generalize hfull : p.drop (64 * (p.length / 64)) ++ padF p.length = full
  have hfl : full.length = p.length - 64 * (p.length / 64) + (padF p.length).length := by rw [← hfull]; simp
  rw [← hfl] at hm ⊢
  have := rsum_l1 (full := full) (by omega) [.c L.ref01_Sum.r1] (full.length / 64) 0 (blocksN (p.length / 64) h0w p) (by omega) hbl
  simp only [Int.cast_ofNat_Int, List.drop_zero] at this
  rw [this]
  clear this
  have hbl2 := blocksN_length (full.length / 64) (blocksN (p.length / 64) h0w p) full hbl
  simp (dsimp := false) (disch := first | omega | (simp only [strs_length, List.length_set, List.length_replicate, words_length, ofBytes_length, List.length_append, List.length_cons, List.length_nil, List.length_take, List.length_drop] <;> omega) | fail) only [L.ref01_Sum.r1, go_sem, reduceIte, reduceCtorEq, Nat.reduceEqDiff, Nat.reduceAdd, Nat.reduceSub, Nat.reduceMul, Nat.reduceDiv, Nat.reduceMod, Nat.reduceBEq, Nat.reduceLeDiff, Nat.reduceLT, Int.reduceEq, Int.reduceNe, Int.reduceLT, Int.reduceLE, Int.reduceBEq, Int.reduceBNe, Int.reduceToNat, Int.reduceAdd, Int.reduceSub, Int.reduceMul, Int.reduceNeg, sub_take, take_len, sub_drop, take_words, drop_words, sub_words, over_words_all, zer_words, w_add, w_and, w_or, w_xor, w_not, w_shl, w_shr, flats_words, hards_words, leadss_words, refsOfs_words, rens_words, words_length, get_words, over_words, hard_W, flat_W, refsOf_W, leads_W, ren_W, view_W, view1_W, cellsO_W, cvi_bw, cvi_wb, zer_bytes, app_ofBytes, ofBytes_length, flats_ofBytes, hards_ofBytes, leadss_ofBytes, refsOfs_ofBytes, rens_ofBytes, bytesOf_ofBytes, sub_ofBytes, take_ofBytes, drop_ofBytes, get_ofBytes, over_ofBytes_all, over_ofBytes, ofBytes_snoc]
  have := rsum_l2 hbl2 [.c L.ref01_Sum.r2] 32 0 (List.replicate 32 0) (by omega) (by simp)
  simp only [Int.cast_ofNat_Int] at this
  rw [this, idApp_id hbl2]
  clear this
  have hid : (idOf (blocksN (full.length / 64) (blocksN (p.length / 64) h0w p) full)).length = 32 := by simp [idOf]
  have hsha : shaF p = idOf (blocksN (full.length / 64) (blocksN (p.length / 64) h0w p) full) := by
    rw [shaF, show p.length / 64 * 64 = 64 * (p.length / 64) by omega, hfull]
  rw [hsha]
  simp (dsimp := false) (disch := first | omega | (simp only [strs_length, List.length_set, List.length_replicate, words_length, ofBytes_length, List.length_append, List.length_cons, List.length_nil, List.length_take, List.length_drop] <;> omega) | fail) only [L.ref01_Sum.r2, go_sem, reduceIte, reduceCtorEq, Nat.reduceEqDiff, Nat.reduceAdd, Nat.reduceSub, Nat.reduceMul, Nat.reduceDiv, Nat.reduceMod, Nat.reduceBEq, Nat.reduceLeDiff, Nat.reduceLT, Int.reduceEq, Int.reduceNe, Int.reduceLT, Int.reduceLE, Int.reduceBEq, Int.reduceBNe, Int.reduceToNat, Int.reduceAdd, Int.reduceSub, Int.reduceMul, Int.reduceNeg, sub_take, take_len, sub_drop, take_words, drop_words, sub_words, over_words_all, zer_words, w_add, w_and, w_or, w_xor, w_not, w_shl, w_shr, flats_words, hards_words, leadss_words, refsOfs_words, rens_words, words_length, get_words, over_words, hard_W, flat_W, refsOf_W, leads_W, ren_W, view_W, view1_W, cellsO_W, cvi_bw, cvi_wb, zer_bytes, app_ofBytes, ofBytes_length, flats_ofBytes, hards_ofBytes, leadss_ofBytes, refsOfs_ofBytes, rens_ofBytes, bytesOf_ofBytes, sub_ofBytes, take_ofBytes, drop_ofBytes, get_ofBytes, over_ofBytes_all, over_ofBytes, ofBytes_snoc]
end Cod


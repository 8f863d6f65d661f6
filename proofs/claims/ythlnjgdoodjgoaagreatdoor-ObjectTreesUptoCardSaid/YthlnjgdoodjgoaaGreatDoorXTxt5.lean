/- The reference's next entry. -/
import Derived.Deep.Cut
import Derived.Deep.RegionWith
import Derived.Lib.BufferOld
import Derived.Test.YthlnjgdoodjgoaaGreatDoorXTxt4
import Derived.Test.YthlnjgdoodjgoaaGreatDoorXTxt1
import Derived.Test.YthlnjgdoodjgoaaGreatDoorXTxt2
import Derived.Test.YthlnjgdoodjgoaaGreatDoorXTxt3
set_option linter.unusedSimpArgs false
set_option linter.unusedVariables false
namespace Cod
open Go

def ocS (v : Int) (c : UInt8) : Int := 8 * v + ((c.toNat : Int) - 48)
def ocL : List UInt8 → Int → Int
  | [], v => v
  | c :: r, v => if c.toNat < 48 ∨ 55 < c.toNat then -1 else ocL r (ocS v c)
def octF (s : List UInt8) : Int := if s = [] then 0 else if 6 < s.length then -1 else ocL s 0
theorem oc_l0 {s : List UInt8} (hs : s.length ≤ 6) : ∀ (m i : Nat) (v : Int), i + m = s.length → 0 ≤ v → v < 8 ^ i →
    X E [.tmp 2] (.c L.ref07_octal.x0 :: .lp [0, 3, 4] L.ref07_octal.x0 :: .blk 0 :: [.c L.ref07_octal.r0]) ⟨[(0, .str s), (3, .int .i64 v), (4, .int .i64 i)], []⟩ = some (.int .i64 (ocL (s.drop i) v), []) := by
  intro m
  induction m with
  | zero =>
    intro i v hi h0 h1
    obtain rfl : i = s.length := by omega
    rw [X_in L.ref07_octal.x0.eq_1, List.drop_length, ocL]
    simp (dsimp := false) (disch := first | omega | (simp only [strs_length, List.length_set, List.length_replicate, words_length, ofBytes_length, List.length_append, List.length_cons, List.length_nil, List.length_take, List.length_drop, etys_length, ints64_length] <;> omega) | fail) only [go_sem, reduceIte, reduceCtorEq, Nat.reduceEqDiff, Nat.reduceAdd, Nat.reduceSub, Nat.reduceMul, Nat.reduceDiv, Nat.reduceMod, Nat.reduceBEq, Nat.reduceLeDiff, Nat.reduceLT, Int.reduceEq, Int.reduceNe, Int.reduceLT, Int.reduceLE, Int.reduceBEq, Int.reduceBNe, Int.reduceToNat, Int.reduceAdd, Int.reduceSub, Int.reduceMul, Int.reduceNeg, L.ref07_octal.r0]
  | succ m ih =>
    intro i v hi h0 h1
    have hp : i < s.length := by omega
    have hd : s.drop i = s.getD i 0 :: s.drop (i + 1) := by
      rw [List.drop_eq_getElem_cons hp]; simp [hp]
    rw [X_in L.ref07_octal.x0.eq_1, hd, ocL]
    have hb := bat_range s i
    have he : bat s i = ((s.getD i 0).toNat : Int) := rfl
    have hpow : (8 : Int) ^ i ≤ 8 ^ 6 := by exact_mod_cast Nat.pow_le_pow_right (by omega) (by omega)
    have hS : ocS v (s.getD i 0) = 8 * v + (bat s i - 48) := rfl
    rw [hS]
    by_cases hc : (s.getD i 0).toNat < 48 ∨ 55 < (s.getD i 0).toNat
    · rw [if_pos hc]
      by_cases hc1 : bat s i < 48
      · simp (dsimp := false) (disch := first | omega | (simp only [strs_length, List.length_set, List.length_replicate, words_length, ofBytes_length, List.length_append, List.length_cons, List.length_nil, List.length_take, List.length_drop, etys_length, ints64_length] <;> omega) | fail) only [go_sem, reduceIte, reduceCtorEq, Nat.reduceEqDiff, Nat.reduceAdd, Nat.reduceSub, Nat.reduceMul, Nat.reduceDiv, Nat.reduceMod, Nat.reduceBEq, Nat.reduceLeDiff, Nat.reduceLT, Int.reduceEq, Int.reduceNe, Int.reduceLT, Int.reduceLE, Int.reduceBEq, Int.reduceBNe, Int.reduceToNat, Int.reduceAdd, Int.reduceSub, Int.reduceMul, Int.reduceNeg, hp, hc1]
      · have hc2 : 55 < bat s i := by rw [he] at hc1 ⊢; omega
        simp (dsimp := false) (disch := first | omega | (simp only [strs_length, List.length_set, List.length_replicate, words_length, ofBytes_length, List.length_append, List.length_cons, List.length_nil, List.length_take, List.length_drop, etys_length, ints64_length] <;> omega) | fail) only [go_sem, reduceIte, reduceCtorEq, Nat.reduceEqDiff, Nat.reduceAdd, Nat.reduceSub, Nat.reduceMul, Nat.reduceDiv, Nat.reduceMod, Nat.reduceBEq, Nat.reduceLeDiff, Nat.reduceLT, Int.reduceEq, Int.reduceNe, Int.reduceLT, Int.reduceLE, Int.reduceBEq, Int.reduceBNe, Int.reduceToNat, Int.reduceAdd, Int.reduceSub, Int.reduceMul, Int.reduceNeg, hp, hc1, hc2]
    · rw [if_neg hc]
      have hc1 : ¬ bat s i < 48 := by rw [he]; omega
      have hc2 : ¬ 55 < bat s i := by rw [he]; omega
      have h1 := ih (i + 1) (8 * v + (bat s i - 48)) (by omega) (by omega) (by rw [Int.pow_succ]; omega)
      simp only [Int.natCast_add, Int.cast_ofNat_Int] at h1
      rw [← h1]
      have hw : IntKind.u8.wrap (bat s i - 48) = bat s i - 48 := by rw [wrap_u8]; omega
      simp (dsimp := false) (disch := first | omega | (simp only [strs_length, List.length_set, List.length_replicate, words_length, ofBytes_length, List.length_append, List.length_cons, List.length_nil, List.length_take, List.length_drop, etys_length, ints64_length] <;> omega) | fail) only [go_sem, reduceIte, reduceCtorEq, Nat.reduceEqDiff, Nat.reduceAdd, Nat.reduceSub, Nat.reduceMul, Nat.reduceDiv, Nat.reduceMod, Nat.reduceBEq, Nat.reduceLeDiff, Nat.reduceLT, Int.reduceEq, Int.reduceNe, Int.reduceLT, Int.reduceLE, Int.reduceBEq, Int.reduceBNe, Int.reduceToNat, Int.reduceAdd, Int.reduceSub, Int.reduceMul, Int.reduceNeg, hp, hc1, hc2, hw]
theorem go_octal {s : List UInt8} : S E F.ref07_octal [.str s] [] = some (.int .i64 (octF s), []) := by
  rw [S_of fn_ref07_octal rfl rfl]
  unfold octF
  by_cases h0 : s = []
  · subst h0
    simp (dsimp := false) (disch := first | omega | (simp only [strs_length, List.length_set, List.length_replicate, words_length, ofBytes_length, List.length_append, List.length_cons, List.length_nil, List.length_take, List.length_drop, etys_length, ints64_length] <;> omega) | fail) only [L.ref07_octal, L.ref07_octal.x0, L.ref07_octal.r0, go_sem, reduceIte, reduceCtorEq, Nat.reduceEqDiff, Nat.reduceAdd, Nat.reduceSub, Nat.reduceMul, Nat.reduceDiv, Nat.reduceMod, Nat.reduceBEq, Nat.reduceLeDiff, Nat.reduceLT, Int.reduceEq, Int.reduceNe, Int.reduceLT, Int.reduceLE, Int.reduceBEq, Int.reduceBNe, Int.reduceToNat, Int.reduceAdd, Int.reduceSub, Int.reduceMul, Int.reduceNeg]
  · rw [if_neg h0]
    have hpos : 0 < s.length := by cases s with | nil => exact absurd rfl h0 | cons => simp
    by_cases h1 : 6 < s.length
    · rw [if_pos h1]
      have hb := bat_range s 0
      by_cases hc1 : bat s 0 < 48
      · simp (dsimp := false) (disch := first | omega | (simp only [strs_length, List.length_set, List.length_replicate, words_length, ofBytes_length, List.length_append, List.length_cons, List.length_nil, List.length_take, List.length_drop, etys_length, ints64_length] <;> omega) | fail) only [L.ref07_octal, L.ref07_octal.x0, go_sem, reduceIte, reduceCtorEq, Nat.reduceEqDiff, Nat.reduceAdd, Nat.reduceSub, Nat.reduceMul, Nat.reduceDiv, Nat.reduceMod, Nat.reduceBEq, Nat.reduceLeDiff, Nat.reduceLT, Int.reduceEq, Int.reduceNe, Int.reduceLT, Int.reduceLE, Int.reduceBEq, Int.reduceBNe, Int.reduceToNat, Int.reduceAdd, Int.reduceSub, Int.reduceMul, Int.reduceNeg, hpos, hc1]
      · by_cases hc2 : 55 < bat s 0
        · simp (dsimp := false) (disch := first | omega | (simp only [strs_length, List.length_set, List.length_replicate, words_length, ofBytes_length, List.length_append, List.length_cons, List.length_nil, List.length_take, List.length_drop, etys_length, ints64_length] <;> omega) | fail) only [L.ref07_octal, L.ref07_octal.x0, go_sem, reduceIte, reduceCtorEq, Nat.reduceEqDiff, Nat.reduceAdd, Nat.reduceSub, Nat.reduceMul, Nat.reduceDiv, Nat.reduceMod, Nat.reduceBEq, Nat.reduceLeDiff, Nat.reduceLT, Int.reduceEq, Int.reduceNe, Int.reduceLT, Int.reduceLE, Int.reduceBEq, Int.reduceBNe, Int.reduceToNat, Int.reduceAdd, Int.reduceSub, Int.reduceMul, Int.reduceNeg, hpos, hc1, hc2]
        · simp (dsimp := false) (disch := first | omega | (simp only [strs_length, List.length_set, List.length_replicate, words_length, ofBytes_length, List.length_append, List.length_cons, List.length_nil, List.length_take, List.length_drop, etys_length, ints64_length] <;> omega) | fail) only [L.ref07_octal, L.ref07_octal.x0, go_sem, reduceIte, reduceCtorEq, Nat.reduceEqDiff, Nat.reduceAdd, Nat.reduceSub, Nat.reduceMul, Nat.reduceDiv, Nat.reduceMod, Nat.reduceBEq, Nat.reduceLeDiff, Nat.reduceLT, Int.reduceEq, Int.reduceNe, Int.reduceLT, Int.reduceLE, Int.reduceBEq, Int.reduceBNe, Int.reduceToNat, Int.reduceAdd, Int.reduceSub, Int.reduceMul, Int.reduceNeg, hpos, hc1, hc2, h1]
    · rw [if_neg h1]
      have h2 := oc_l0 (s := s) (by omega) s.length 0 0 (by omega) (by omega) (by simp)
      simp only [Int.cast_ofNat_Int, List.drop_zero] at h2
      simp (dsimp := false) (disch := first | omega | (simp only [strs_length, List.length_set, List.length_replicate, words_length, ofBytes_length, List.length_append, List.length_cons, List.length_nil, List.length_take, List.length_drop, etys_length, ints64_length] <;> omega) | fail) only [L.ref07_octal, go_sem, reduceIte, reduceCtorEq, Nat.reduceEqDiff, Nat.reduceAdd, Nat.reduceSub, Nat.reduceMul, Nat.reduceDiv, Nat.reduceMod, Nat.reduceBEq, Nat.reduceLeDiff, Nat.reduceLT, Int.reduceEq, Int.reduceNe, Int.reduceLT, Int.reduceLE, Int.reduceBEq, Int.reduceBNe, Int.reduceToNat, Int.reduceAdd, Int.reduceSub, Int.reduceMul, Int.reduceNeg, h2]
/-- The first place from i on with c there, or the end. -/
def spI (l : List UInt8) (c : UInt8) : Nat → Nat → Nat
  | 0, i => i
  | m + 1, i => if l.getD i 0 = c then i else spI l c m (i + 1)
theorem spI_le (l : List UInt8) (c : UInt8) : ∀ (m i : Nat), i ≤ spI l c m i ∧ spI l c m i ≤ i + m := by
  intro m
  induction m with
  | zero => intro i; simp [spI]
  | succ m ih => intro i; rw [spI]; have := ih (i + 1); split <;> omega
theorem batne {l : List UInt8} {i : Nat} (c : UInt8) {n : Int} (h : (c.toNat : Int) = n) : (bat l i != n) = !decide (l.getD i 0 = c) := by
  have e : bat l i = ((l.getD i 0).toNat : Int) := rfl
  rw [e, ← h]
  by_cases hc : l.getD i 0 = c
  · rw [hc, decide_eq_true rfl]; simp
  · have h2 : ¬ ((l.getD i 0).toNat : Int) = c.toNat := fun e => hc (UInt8.toNat_inj.1 (by omega))
    rw [decide_eq_false hc]
    simpa [bne_iff_ne] using h2
theorem nx_l0 {l : List UInt8} (hl : l.length ≤ 1048576) (k : List It) : ∀ (m i : Nat), i + m = l.length → ∃ v,
    X E [.cell 2 (some 34), .tmp 3, .tmp 4] (.c L.ref07_next.x0 :: .lp [0, 2, 5] L.ref07_next.x0 :: .blk 0 :: k) ⟨[(0, .lst (ofBytes l) l.length), (2, .ref (.s 1000000 0) 0 0), (5, .int .i64 i)], [(.s 1000000 0, ⟨0, true, true, true, (default : Ety).cells⟩)]⟩ =
    X E [.cell 2 (some 34), .tmp 3, .tmp 4] k ⟨[(0, .lst (ofBytes l) l.length), (2, .ref (.s 1000000 0) 0 0), (5, .int .i64 (spI l 32 m i)), (19, v)], [(.s 1000000 0, ⟨0, true, true, true, (default : Ety).cells⟩)]⟩ := by
  intro m
  induction m with
  | zero =>
    intro i hi
    obtain rfl : i = l.length := by omega
    refine ⟨.bool false, ?_⟩
    rw [X_in L.ref07_next.x0.eq_1, spI]
    simp (dsimp := false) (disch := first | omega | (simp only [strs_length, List.length_set, List.length_replicate, words_length, ofBytes_length, List.length_append, List.length_cons, List.length_nil, List.length_take, List.length_drop, etys_length, ints64_length] <;> omega) | fail) only [go_sem, reduceIte, reduceCtorEq, Nat.reduceEqDiff, Nat.reduceAdd, Nat.reduceSub, Nat.reduceMul, Nat.reduceDiv, Nat.reduceMod, Nat.reduceBEq, Nat.reduceLeDiff, Nat.reduceLT, Int.reduceEq, Int.reduceNe, Int.reduceLT, Int.reduceLE, Int.reduceBEq, Int.reduceBNe, Int.reduceToNat, Int.reduceAdd, Int.reduceSub, Int.reduceMul, Int.reduceNeg, zer_bytes, app_ofBytes, ofBytes_length, flats_ofBytes, hards_ofBytes, leadss_ofBytes, refsOfs_ofBytes, rens_ofBytes, bytesOf_ofBytes, sub_ofBytes, take_ofBytes, drop_ofBytes, get_ofBytes, over_ofBytes_all, over_ofBytes, ofBytes_snoc]
  | succ m ih =>
    intro i hi
    obtain ⟨v, hv⟩ := ih (i + 1) (by omega)
    simp only [Int.natCast_add, Int.cast_ofNat_Int] at hv
    have hlt : i < l.length := by omega
    by_cases hc : l.getD i 0 = 32
    · refine ⟨.bool false, ?_⟩
      have hb : (bat l i != 32) = false := by rw [batne 32 (n := 32) rfl, decide_eq_true hc]; rfl
      rw [X_in L.ref07_next.x0.eq_1, spI, if_pos hc]
      simp (dsimp := false) (disch := first | omega | (simp only [strs_length, List.length_set, List.length_replicate, words_length, ofBytes_length, List.length_append, List.length_cons, List.length_nil, List.length_take, List.length_drop, etys_length, ints64_length] <;> omega) | fail) only [go_sem, reduceIte, reduceCtorEq, Nat.reduceEqDiff, Nat.reduceAdd, Nat.reduceSub, Nat.reduceMul, Nat.reduceDiv, Nat.reduceMod, Nat.reduceBEq, Nat.reduceLeDiff, Nat.reduceLT, Int.reduceEq, Int.reduceNe, Int.reduceLT, Int.reduceLE, Int.reduceBEq, Int.reduceBNe, Int.reduceToNat, Int.reduceAdd, Int.reduceSub, Int.reduceMul, Int.reduceNeg, zer_bytes, app_ofBytes, ofBytes_length, flats_ofBytes, hards_ofBytes, leadss_ofBytes, refsOfs_ofBytes, rens_ofBytes, bytesOf_ofBytes, sub_ofBytes, take_ofBytes, drop_ofBytes, get_ofBytes, over_ofBytes_all, over_ofBytes, ofBytes_snoc, hb]
    · refine ⟨v, ?_⟩
      have hb : (bat l i != 32) = true := by rw [batne 32 (n := 32) rfl, decide_eq_false hc]; rfl
      rw [X_in L.ref07_next.x0.eq_1, spI, if_neg hc, ← hv]
      simp (dsimp := false) (disch := first | omega | (simp only [strs_length, List.length_set, List.length_replicate, words_length, ofBytes_length, List.length_append, List.length_cons, List.length_nil, List.length_take, List.length_drop, etys_length, ints64_length] <;> omega) | fail) only [go_sem, reduceIte, reduceCtorEq, Nat.reduceEqDiff, Nat.reduceAdd, Nat.reduceSub, Nat.reduceMul, Nat.reduceDiv, Nat.reduceMod, Nat.reduceBEq, Nat.reduceLeDiff, Nat.reduceLT, Int.reduceEq, Int.reduceNe, Int.reduceLT, Int.reduceLE, Int.reduceBEq, Int.reduceBNe, Int.reduceToNat, Int.reduceAdd, Int.reduceSub, Int.reduceMul, Int.reduceNeg, zer_bytes, app_ofBytes, ofBytes_length, flats_ofBytes, hards_ofBytes, leadss_ofBytes, refsOfs_ofBytes, rens_ofBytes, bytesOf_ofBytes, sub_ofBytes, take_ofBytes, drop_ofBytes, get_ofBytes, over_ofBytes_all, over_ofBytes, ofBytes_snoc, hb]
theorem nx_l1 {l : List UInt8} (hl : l.length ≤ 1048576) (k : List It) {a : Nat} : ∀ (m i : Nat), i + m = l.length → ∃ v,
    X E [.cell 2 (some 34), .tmp 3, .tmp 4] (.c L.ref07_next.x1 :: .lp [0, 2, 5, 6] L.ref07_next.x1 :: .blk 2 :: k) ⟨[(0, .lst (ofBytes l) l.length), (2, .ref (.s 1000000 0) 0 0), (5, .int .i64 a), (6, .int .i64 i)], [(.s 1000000 0, ⟨0, true, true, true, (default : Ety).cells⟩)]⟩ =
    X E [.cell 2 (some 34), .tmp 3, .tmp 4] k ⟨[(0, .lst (ofBytes l) l.length), (2, .ref (.s 1000000 0) 0 0), (5, .int .i64 a), (6, .int .i64 (spI l 0 m i)), (33, v)], [(.s 1000000 0, ⟨0, true, true, true, (default : Ety).cells⟩)]⟩ := by
  intro m
  induction m with
  | zero =>
    intro i hi
    obtain rfl : i = l.length := by omega
    refine ⟨.bool false, ?_⟩
    rw [X_in L.ref07_next.x1.eq_1, spI]
    simp (dsimp := false) (disch := first | omega | (simp only [strs_length, List.length_set, List.length_replicate, words_length, ofBytes_length, List.length_append, List.length_cons, List.length_nil, List.length_take, List.length_drop, etys_length, ints64_length] <;> omega) | fail) only [go_sem, reduceIte, reduceCtorEq, Nat.reduceEqDiff, Nat.reduceAdd, Nat.reduceSub, Nat.reduceMul, Nat.reduceDiv, Nat.reduceMod, Nat.reduceBEq, Nat.reduceLeDiff, Nat.reduceLT, Int.reduceEq, Int.reduceNe, Int.reduceLT, Int.reduceLE, Int.reduceBEq, Int.reduceBNe, Int.reduceToNat, Int.reduceAdd, Int.reduceSub, Int.reduceMul, Int.reduceNeg, zer_bytes, app_ofBytes, ofBytes_length, flats_ofBytes, hards_ofBytes, leadss_ofBytes, refsOfs_ofBytes, rens_ofBytes, bytesOf_ofBytes, sub_ofBytes, take_ofBytes, drop_ofBytes, get_ofBytes, over_ofBytes_all, over_ofBytes, ofBytes_snoc]
  | succ m ih =>
    intro i hi
    obtain ⟨v, hv⟩ := ih (i + 1) (by omega)
    simp only [Int.natCast_add, Int.cast_ofNat_Int] at hv
    have hlt : i < l.length := by omega
    by_cases hc : l.getD i 0 = 0
    · refine ⟨.bool false, ?_⟩
      have hb : (bat l i != 0) = false := by rw [batne 0 (n := 0) rfl, decide_eq_true hc]; rfl
      rw [X_in L.ref07_next.x1.eq_1, spI, if_pos hc]
      simp (dsimp := false) (disch := first | omega | (simp only [strs_length, List.length_set, List.length_replicate, words_length, ofBytes_length, List.length_append, List.length_cons, List.length_nil, List.length_take, List.length_drop, etys_length, ints64_length] <;> omega) | fail) only [go_sem, reduceIte, reduceCtorEq, Nat.reduceEqDiff, Nat.reduceAdd, Nat.reduceSub, Nat.reduceMul, Nat.reduceDiv, Nat.reduceMod, Nat.reduceBEq, Nat.reduceLeDiff, Nat.reduceLT, Int.reduceEq, Int.reduceNe, Int.reduceLT, Int.reduceLE, Int.reduceBEq, Int.reduceBNe, Int.reduceToNat, Int.reduceAdd, Int.reduceSub, Int.reduceMul, Int.reduceNeg, zer_bytes, app_ofBytes, ofBytes_length, flats_ofBytes, hards_ofBytes, leadss_ofBytes, refsOfs_ofBytes, rens_ofBytes, bytesOf_ofBytes, sub_ofBytes, take_ofBytes, drop_ofBytes, get_ofBytes, over_ofBytes_all, over_ofBytes, ofBytes_snoc, hb]
    · refine ⟨v, ?_⟩
      have hb : (bat l i != 0) = true := by rw [batne 0 (n := 0) rfl, decide_eq_false hc]; rfl
      rw [X_in L.ref07_next.x1.eq_1, spI, if_neg hc, ← hv]
      simp (dsimp := false) (disch := first | omega | (simp only [strs_length, List.length_set, List.length_replicate, words_length, ofBytes_length, List.length_append, List.length_cons, List.length_nil, List.length_take, List.length_drop, etys_length, ints64_length] <;> omega) | fail) only [go_sem, reduceIte, reduceCtorEq, Nat.reduceEqDiff, Nat.reduceAdd, Nat.reduceSub, Nat.reduceMul, Nat.reduceDiv, Nat.reduceMod, Nat.reduceBEq, Nat.reduceLeDiff, Nat.reduceLT, Int.reduceEq, Int.reduceNe, Int.reduceLT, Int.reduceLE, Int.reduceBEq, Int.reduceBNe, Int.reduceToNat, Int.reduceAdd, Int.reduceSub, Int.reduceMul, Int.reduceNeg, zer_bytes, app_ofBytes, ofBytes_length, flats_ofBytes, hards_ofBytes, leadss_ofBytes, refsOfs_ofBytes, rens_ofBytes, bytesOf_ofBytes, sub_ofBytes, take_ofBytes, drop_ofBytes, get_ofBytes, over_ofBytes_all, over_ofBytes, ofBytes_snoc, hb]
/-- An entry with its id half written. -/
def mkN (v : Int) (n d : List UInt8) : List AV := .int .i64 v :: .str n :: ofBytes d
def idL (l : List UInt8) (b : Nat) : Nat → Nat → List UInt8 → List UInt8
  | 0, _, d => d
  | m + 1, i, d => idL l b m (i + 1) (d.set i (l.getD (b + 1 + i) 0))
theorem over_mkN {v : Int} {n d : List UInt8} {i : Nat} {x : UInt8} (h : i < d.length) : over (mkN v n d) (2 + i) [.int .u8 x.toNat] = mkN v n (d.set i x) := by
  unfold mkN
  have e : UInt8.ofNat ((x.toNat : Int)).toNat = x := by simp
  rw [show 2 + i = i + 1 + 1 by omega, over_S, over_S, over_ofBytes h (by omega) (by have := x.toNat_lt; omega), e]
theorem mkN_flats (v : Int) (n d : List UInt8) : flats (mkN v n d) = true := by simp [mkN, flats, flat, flats_ofBytes]
theorem mkN_rens (f : Site → Nat → Option (Site × Nat)) (v : Int) (n d : List UInt8) : rens f (mkN v n d) = mkN v n d := rens_flats _ (mkN_flats v n d)
theorem mkN_refs (v : Int) (n d : List UInt8) : refsOfs (mkN v n d) = [] := by simp [mkN, refsOfs, refsOf, refsOfs_ofBytes]
theorem mkN_hards (v : Int) (n d : List UInt8) : hards (mkN v n d) = true := by simp [mkN, hards, hard, hards_ofBytes]
theorem mkN_leads (v : Int) (n d : List UInt8) : leadss (mkN v n d) = false := by simp [mkN, leadss, leads, leadss_ofBytes]
attribute [go_sem] mkN_flats mkN_rens mkN_refs mkN_hards mkN_leads
theorem mkN_len {v : Int} {n d : List UInt8} : (mkN v n d).length = d.length + 2 := by simp [mkN, ofBytes_length]
theorem nx_l2 {l : List UInt8} (hl : l.length ≤ 1048576) (k : List It) {b : Nat} (hb : b + 33 ≤ l.length) {z : Int} {nm : List UInt8} : ∀ (m i : Nat) (d : List UInt8), i + m = 32 → d.length = 32 →
    X E [.cell 2 (some 34), .tmp 3, .tmp 4] (.c L.ref07_next.x2 :: .lp [0, 2, 6, 7, 8] L.ref07_next.x2 :: .blk 4 :: k) ⟨[(0, .lst (ofBytes l) l.length), (2, .ref (.s 1000000 0) 0 0), (6, .int .i64 b), (7, .ref (.s 1000000 1) 0 0), (8, .int .i64 i)], [(.s 1000000 0, ⟨0, true, true, true, (default : Ety).cells⟩), (.s 1000000 1, ⟨0, true, true, true, mkN z nm d⟩)]⟩ =
    X E [.cell 2 (some 34), .tmp 3, .tmp 4] k ⟨[(0, .lst (ofBytes l) l.length), (2, .ref (.s 1000000 0) 0 0), (6, .int .i64 b), (7, .ref (.s 1000000 1) 0 0), (8, .int .i64 32), (60, .bool false)], [(.s 1000000 0, ⟨0, true, true, true, (default : Ety).cells⟩), (.s 1000000 1, ⟨0, true, true, true, mkN z nm (idL l b m i d)⟩)]⟩ := by
  intro m
  induction m with
  | zero =>
    intro i d hi hd
    obtain rfl : i = 32 := by omega
    rw [X_in L.ref07_next.x2.eq_1, idL]
    simp (dsimp := false) (disch := first | omega | (simp only [strs_length, List.length_set, List.length_replicate, words_length, ofBytes_length, List.length_append, List.length_cons, List.length_nil, List.length_take, List.length_drop, etys_length, ints64_length] <;> omega) | fail) only [go_sem, reduceIte, reduceCtorEq, Nat.reduceEqDiff, Nat.reduceAdd, Nat.reduceSub, Nat.reduceMul, Nat.reduceDiv, Nat.reduceMod, Nat.reduceBEq, Nat.reduceLeDiff, Nat.reduceLT, Int.reduceEq, Int.reduceNe, Int.reduceLT, Int.reduceLE, Int.reduceBEq, Int.reduceBNe, Int.reduceToNat, Int.reduceAdd, Int.reduceSub, Int.reduceMul, Int.reduceNeg, zer_bytes, app_ofBytes, ofBytes_length, flats_ofBytes, hards_ofBytes, leadss_ofBytes, refsOfs_ofBytes, rens_ofBytes, bytesOf_ofBytes, sub_ofBytes, take_ofBytes, drop_ofBytes, get_ofBytes, over_ofBytes_all, over_ofBytes, ofBytes_snoc]
    rfl
  | succ m ih =>
    intro i d hi hd
    have h1 := ih (i + 1) (d.set i (l.getD (b + 1 + i) 0)) (by omega) (by rw [List.length_set]; exact hd)
    simp only [Int.natCast_add, Int.cast_ofNat_Int] at h1
    have e1 : ((b : Int) + 1 + i).toNat = b + 1 + i := by omega
    have e2 : bat l (b + 1 + i) = ((l.getD (b + 1 + i) 0).toNat : Int) := rfl
    have e3 := over_mkN (v := z) (n := nm) (d := d) (i := i) (x := l.getD (b + 1 + i) 0) (by omega)
    have e4 := mkN_len (v := z) (n := nm) (d := d)
    rw [hd] at e4
    rw [X_in L.ref07_next.x2.eq_1, idL, ← h1]
    simp (dsimp := false) (disch := first | omega | (simp only [strs_length, List.length_set, List.length_replicate, words_length, ofBytes_length, List.length_append, List.length_cons, List.length_nil, List.length_take, List.length_drop, etys_length, ints64_length] <;> omega) | fail) only [go_sem, reduceIte, reduceCtorEq, Nat.reduceEqDiff, Nat.reduceAdd, Nat.reduceSub, Nat.reduceMul, Nat.reduceDiv, Nat.reduceMod, Nat.reduceBEq, Nat.reduceLeDiff, Nat.reduceLT, Int.reduceEq, Int.reduceNe, Int.reduceLT, Int.reduceLE, Int.reduceBEq, Int.reduceBNe, Int.reduceToNat, Int.reduceAdd, Int.reduceSub, Int.reduceMul, Int.reduceNeg, zer_bytes, app_ofBytes, ofBytes_length, flats_ofBytes, hards_ofBytes, leadss_ofBytes, refsOfs_ofBytes, rens_ofBytes, bytesOf_ofBytes, sub_ofBytes, take_ofBytes, drop_ofBytes, get_ofBytes, over_ofBytes_all, over_ofBytes, ofBytes_snoc, e1, e2, e3, e4]
theorem idL_eq {l : List UInt8} {b : Nat} (hb : b + 33 ≤ l.length) : ∀ (m i : Nat) (d : List UInt8), i + m = 32 → d.length = 32 → idL l b m i d = d.take i ++ (l.drop (b + 1 + i)).take m := by
  intro m
  induction m with
  | zero => intro i d hi hd; rw [idL, List.take_of_length_le (by omega)]; simp
  | succ m ih =>
    intro i d hi hd
    rw [idL, ih (i + 1) _ (by omega) (by rw [List.length_set]; exact hd)]
    have h1 : (d.set i (l.getD (b + 1 + i) 0)).take (i + 1) = d.take i ++ [l.getD (b + 1 + i) 0] := by
      rw [List.take_succ_eq_append_getElem (by rw [List.length_set]; omega), List.getElem_set_self, List.take_set_of_le (Nat.le_refl _)]
    have h2 : (l.drop (b + 1 + i)).take (m + 1) = l.getD (b + 1 + i) 0 :: (l.drop (b + 1 + (i + 1))).take m := by
      rw [List.drop_eq_getElem_cons (by omega), List.take_succ_cons]
      congr 1
      simp [List.getD, show b + 1 + i < l.length by omega]
    rw [h1, h2, List.append_assoc]
    rfl
def nextA (l : List UInt8) : Nat := spI l 32 l.length 0
def nextB (l : List UInt8) : Nat := spI l 0 (l.length - nextA l) (nextA l)
/-- The entry at the front of bytes, as the reference takes it. -/
def nextF (l : List UInt8) : Option (Ety × List UInt8) :=
  if nextA l < nextB l ∧ nextB l + 33 ≤ l.length then some (mkT (octF (l.take (nextA l))) (sub l (nextA l + 1) (nextB l - (nextA l + 1))) ((l.drop (nextB l + 1)).take 32), l.drop (nextB l + 33)) else none
theorem mkN_ety {v : Int} {n d : List UInt8} (h : d.length = 32) : mkN v n d = (mkT v n d).cells := (mkT_cells h).symm
theorem go_rnext {l : List UInt8} (hl : l.length ≤ 1048576) : S E F.ref07_next [.lst (ofBytes l) l.length] [] =
    match nextF l with
    | some (e, r) => some (.tup [.agg e.cells, .lst (ofBytes r) r.length, .bool true], [])
    | none => some (.tup [.agg (default : Ety).cells, .buf (.r 0) 0 0 0 1, .bool false], [(.r 0, ⟨0, true, true, false, []⟩)]) := by
  rw [S_of fn_ref07_next rfl rfl]
  obtain ⟨v0, h0⟩ := nx_l0 hl [.c L.ref07_next.r0] l.length 0 (by omega)
  have a1 := spI_le l 32 l.length 0
  rw [show spI l 32 l.length 0 = nextA l from rfl] at h0 a1
  obtain ⟨v1, h1⟩ := nx_l1 hl [.c L.ref07_next.r1] (a := nextA l) (l.length - nextA l) (nextA l) (by omega)
  have b1 := spI_le l 0 (l.length - nextA l) (nextA l)
  rw [show spI l 0 (l.length - nextA l) (nextA l) = nextB l from rfl] at h1 b1
  simp only [Int.cast_ofNat_Int] at h0
  unfold nextF
  generalize nextA l = a at *
  generalize nextB l = b at *
  simp (dsimp := false) (disch := first | omega | (simp only [strs_length, List.length_set, List.length_replicate, words_length, ofBytes_length, List.length_append, List.length_cons, List.length_nil, List.length_take, List.length_drop, etys_length, ints64_length] <;> omega) | fail) only [L.ref07_next, go_sem, reduceIte, reduceCtorEq, Nat.reduceEqDiff, Nat.reduceAdd, Nat.reduceSub, Nat.reduceMul, Nat.reduceDiv, Nat.reduceMod, Nat.reduceBEq, Nat.reduceLeDiff, Nat.reduceLT, Int.reduceEq, Int.reduceNe, Int.reduceLT, Int.reduceLE, Int.reduceBEq, Int.reduceBNe, Int.reduceToNat, Int.reduceAdd, Int.reduceSub, Int.reduceMul, Int.reduceNeg, zer_bytes, app_ofBytes, ofBytes_length, flats_ofBytes, hards_ofBytes, leadss_ofBytes, refsOfs_ofBytes, rens_ofBytes, bytesOf_ofBytes, sub_ofBytes, take_ofBytes, drop_ofBytes, get_ofBytes, over_ofBytes_all, over_ofBytes, ofBytes_snoc]
  rw [h0]
  simp (dsimp := false) (disch := first | omega | (simp only [strs_length, List.length_set, List.length_replicate, words_length, ofBytes_length, List.length_append, List.length_cons, List.length_nil, List.length_take, List.length_drop, etys_length, ints64_length] <;> omega) | fail) only [L.ref07_next.r0, go_sem, reduceIte, reduceCtorEq, Nat.reduceEqDiff, Nat.reduceAdd, Nat.reduceSub, Nat.reduceMul, Nat.reduceDiv, Nat.reduceMod, Nat.reduceBEq, Nat.reduceLeDiff, Nat.reduceLT, Int.reduceEq, Int.reduceNe, Int.reduceLT, Int.reduceLE, Int.reduceBEq, Int.reduceBNe, Int.reduceToNat, Int.reduceAdd, Int.reduceSub, Int.reduceMul, Int.reduceNeg, zer_bytes, app_ofBytes, ofBytes_length, flats_ofBytes, hards_ofBytes, leadss_ofBytes, refsOfs_ofBytes, rens_ofBytes, bytesOf_ofBytes, sub_ofBytes, take_ofBytes, drop_ofBytes, get_ofBytes, over_ofBytes_all, over_ofBytes, ofBytes_snoc]
  rw [h1]
  by_cases c1 : a < b
  · by_cases c2 : b + 33 ≤ l.length
    · rw [if_pos ⟨c1, c2⟩]
      have ho := go_octal (s := l.take a)
      have e1 : sub l 0 a = l.take a := by simp [sub]
      have e7 : (l.take a).length = a := by rw [List.length_take]; omega
      have e8 : (sub l (a + 1) (b - (a + 1))).length = b - (a + 1) := by simp [sub]; omega
      have e3 : (((b : Int)) + 33).toNat = b + 33 := by omega
      have e4 : (((a : Int)) + 1).toNat = a + 1 := by omega
      have g1 : ((l.drop (b + 1)).take 32).length = 32 := by rw [List.length_take, List.length_drop]; omega
      have g2 := idL_eq c2 32 0 (List.replicate 32 0) (by omega) (by simp)
      rw [List.take_zero, List.nil_append, Nat.add_zero] at g2
      have g3 : sub l (b + 33) (l.length - (b + 33)) = l.drop (b + 33) := sub_drop (by omega)
      have g4 : l.length - (b + 33) = (l.drop (b + 33)).length := List.length_drop.symm
      have g5 : sub l (b + 33) (l.drop (b + 33)).length = l.drop (b + 33) := sub_drop (by rw [List.length_drop]; omega)
      have g6 := mkN_ety (v := octF (l.take a)) (n := sub l (a + 1) (b - (a + 1))) g1
      have k1 : over (default : Ety).cells 0 [AV.int .i64 (octF (l.take a))] = mkN (octF (l.take a)) [] (List.replicate 32 0) := rfl
      have k2 : over (mkN (octF (l.take a)) [] (List.replicate 32 0)) 1 [AV.str (sub l (a + 1) (b - (a + 1)))] = mkN (octF (l.take a)) (sub l (a + 1) (b - (a + 1))) (List.replicate 32 0) := rfl
      have k3 : over (default : Ety).cells 0 (mkN (octF (l.take a)) (sub l (a + 1) (b - (a + 1))) (List.replicate 32 0)) = mkN (octF (l.take a)) (sub l (a + 1) (b - (a + 1))) (List.replicate 32 0) := rfl
      have h2 := nx_l2 hl [.c L.ref07_next.r2] c2 (z := octF (l.take a)) (nm := sub l (a + 1) (b - (a + 1))) 32 0 (List.replicate 32 0) (by omega) (by simp)
      rw [g2, g6] at h2
      simp only [Int.cast_ofNat_Int] at h2
      simp (dsimp := false) (disch := first | omega | (simp only [strs_length, List.length_set, List.length_replicate, words_length, ofBytes_length, List.length_append, List.length_cons, List.length_nil, List.length_take, List.length_drop, etys_length, ints64_length] <;> omega) | fail) only [L.ref07_next.r1, go_sem, reduceIte, reduceCtorEq, Nat.reduceEqDiff, Nat.reduceAdd, Nat.reduceSub, Nat.reduceMul, Nat.reduceDiv, Nat.reduceMod, Nat.reduceBEq, Nat.reduceLeDiff, Nat.reduceLT, Int.reduceEq, Int.reduceNe, Int.reduceLT, Int.reduceLE, Int.reduceBEq, Int.reduceBNe, Int.reduceToNat, Int.reduceAdd, Int.reduceSub, Int.reduceMul, Int.reduceNeg, zer_bytes, app_ofBytes, ofBytes_length, flats_ofBytes, hards_ofBytes, leadss_ofBytes, refsOfs_ofBytes, rens_ofBytes, bytesOf_ofBytes, sub_ofBytes, take_ofBytes, drop_ofBytes, get_ofBytes, over_ofBytes_all, over_ofBytes, ofBytes_snoc, c1, c2, ho, e1, e3, e4, e7, e8, k1, k2, k3, mkN_len, List.length_replicate, Nat.sub_zero]
      rw [h2]
      simp (dsimp := false) (disch := first | omega | (simp only [strs_length, List.length_set, List.length_replicate, words_length, ofBytes_length, List.length_append, List.length_cons, List.length_nil, List.length_take, List.length_drop, etys_length, ints64_length] <;> omega) | fail) only [L.ref07_next.r2, go_sem, reduceIte, reduceCtorEq, Nat.reduceEqDiff, Nat.reduceAdd, Nat.reduceSub, Nat.reduceMul, Nat.reduceDiv, Nat.reduceMod, Nat.reduceBEq, Nat.reduceLeDiff, Nat.reduceLT, Int.reduceEq, Int.reduceNe, Int.reduceLT, Int.reduceLE, Int.reduceBEq, Int.reduceBNe, Int.reduceToNat, Int.reduceAdd, Int.reduceSub, Int.reduceMul, Int.reduceNeg, zer_bytes, app_ofBytes, ofBytes_length, flats_ofBytes, hards_ofBytes, leadss_ofBytes, refsOfs_ofBytes, rens_ofBytes, bytesOf_ofBytes, sub_ofBytes, take_ofBytes, drop_ofBytes, get_ofBytes, over_ofBytes_all, over_ofBytes, ofBytes_snoc, e3, g4, g5]
    · rw [if_neg (fun x => c2 x.2)]
      simp (dsimp := false) (disch := first | omega | (simp only [strs_length, List.length_set, List.length_replicate, words_length, ofBytes_length, List.length_append, List.length_cons, List.length_nil, List.length_take, List.length_drop, etys_length, ints64_length] <;> omega) | fail) only [L.ref07_next.r1, go_sem, reduceIte, reduceCtorEq, Nat.reduceEqDiff, Nat.reduceAdd, Nat.reduceSub, Nat.reduceMul, Nat.reduceDiv, Nat.reduceMod, Nat.reduceBEq, Nat.reduceLeDiff, Nat.reduceLT, Int.reduceEq, Int.reduceNe, Int.reduceLT, Int.reduceLE, Int.reduceBEq, Int.reduceBNe, Int.reduceToNat, Int.reduceAdd, Int.reduceSub, Int.reduceMul, Int.reduceNeg, zer_bytes, app_ofBytes, ofBytes_length, flats_ofBytes, hards_ofBytes, leadss_ofBytes, refsOfs_ofBytes, rens_ofBytes, bytesOf_ofBytes, sub_ofBytes, take_ofBytes, drop_ofBytes, get_ofBytes, over_ofBytes_all, over_ofBytes, ofBytes_snoc, c1, c2]
  · rw [if_neg (fun x => c1 x.1)]
    simp (dsimp := false) (disch := first | omega | (simp only [strs_length, List.length_set, List.length_replicate, words_length, ofBytes_length, List.length_append, List.length_cons, List.length_nil, List.length_take, List.length_drop, etys_length, ints64_length] <;> omega) | fail) only [L.ref07_next.r1, go_sem, reduceIte, reduceCtorEq, Nat.reduceEqDiff, Nat.reduceAdd, Nat.reduceSub, Nat.reduceMul, Nat.reduceDiv, Nat.reduceMod, Nat.reduceBEq, Nat.reduceLeDiff, Nat.reduceLT, Int.reduceEq, Int.reduceNe, Int.reduceLT, Int.reduceLE, Int.reduceBEq, Int.reduceBNe, Int.reduceToNat, Int.reduceAdd, Int.reduceSub, Int.reduceMul, Int.reduceNeg, zer_bytes, app_ofBytes, ofBytes_length, flats_ofBytes, hards_ofBytes, leadss_ofBytes, refsOfs_ofBytes, rens_ofBytes, bytesOf_ofBytes, sub_ofBytes, take_ofBytes, drop_ofBytes, get_ofBytes, over_ofBytes_all, over_ofBytes, ofBytes_snoc, c1]
end Cod

/- strings.Cut and bytes.Cut at one byte. -/
namespace Cod
open Go

theorem ixB_pos {l : List UInt8} {c : UInt8} (h : c ∈ l) : indexB l c = (l.idxOf c : Nat) := by simp [indexB, h]
theorem ixB_neg {l : List UInt8} {c : UInt8} (h : c ∉ l) : indexB l c = -1 := by simp [indexB, h]
theorem byt_u8 (c : UInt8) : byt (c.toNat : Int) = c := by simp [byt]
theorem sl_index {s : List UInt8} {c : UInt8} : S E F.stringslite_Index [.str s, .str [c]] [] = some (.int .i64 (indexB s c), []) := by
  have hx : S E F.bytealg_IndexByteString [.str s, .int .u8 c.toNat] [] = some (.int .i64 (indexB s c), []) := by
    have h := S_ext ext0 (S_indexS (l := s) (c := c.toNat))
    rw [byt_u8] at h
    exact h
  have h1 : S E F.stringslite_IndexByte [.str s, .int .u8 c.toNat] [] = some (.int .i64 (indexB s c), []) := by
    rw [S_of fn_stringslite_IndexByte rfl rfl]
    simp (dsimp := false) (disch := first | omega | (simp only [strs_length, List.length_set, List.length_replicate, words_length, ofBytes_length, List.length_append, List.length_cons, List.length_nil, List.length_take, List.length_drop] <;> omega) | fail) only [L.stringslite_IndexByte, go_sem, reduceIte, reduceCtorEq, Nat.reduceEqDiff, Nat.reduceAdd, Nat.reduceSub, Nat.reduceMul, Nat.reduceDiv, Nat.reduceMod, Nat.reduceBEq, Nat.reduceLeDiff, Nat.reduceLT, Int.reduceEq, Int.reduceNe, Int.reduceLT, Int.reduceLE, Int.reduceBEq, Int.reduceBNe, Int.reduceToNat, Int.reduceAdd, Int.reduceSub, Int.reduceMul, Int.reduceNeg, hx]
  have b0 : bat [c] 0 = c.toNat := rfl
  rw [S_of fn_stringslite_Index rfl rfl]
  cases hs : (([c] : List UInt8) == s) with
  | true =>
    have := eq_of_beq hs
    subst this
    have hi : indexB [c] c = 0 := by simp [indexB]
    rw [hi]
    simp (dsimp := false) (disch := first | omega | (simp only [strs_length, List.length_set, List.length_replicate, words_length, ofBytes_length, List.length_append, List.length_cons, List.length_nil, List.length_take, List.length_drop] <;> omega) | fail) only [L.stringslite_Index, go_sem, reduceIte, reduceCtorEq, Nat.reduceEqDiff, Nat.reduceAdd, Nat.reduceSub, Nat.reduceMul, Nat.reduceDiv, Nat.reduceMod, Nat.reduceBEq, Nat.reduceLeDiff, Nat.reduceLT, Int.reduceEq, Int.reduceNe, Int.reduceLT, Int.reduceLE, Int.reduceBEq, Int.reduceBNe, Int.reduceToNat, Int.reduceAdd, Int.reduceSub, Int.reduceMul, Int.reduceNeg, hs, h1, b0]
  | false =>
    simp (dsimp := false) (disch := first | omega | (simp only [strs_length, List.length_set, List.length_replicate, words_length, ofBytes_length, List.length_append, List.length_cons, List.length_nil, List.length_take, List.length_drop] <;> omega) | fail) only [L.stringslite_Index, go_sem, reduceIte, reduceCtorEq, Nat.reduceEqDiff, Nat.reduceAdd, Nat.reduceSub, Nat.reduceMul, Nat.reduceDiv, Nat.reduceMod, Nat.reduceBEq, Nat.reduceLeDiff, Nat.reduceLT, Int.reduceEq, Int.reduceNe, Int.reduceLT, Int.reduceLE, Int.reduceBEq, Int.reduceBNe, Int.reduceToNat, Int.reduceAdd, Int.reduceSub, Int.reduceMul, Int.reduceNeg, hs, h1, b0]
theorem sl_cut {s : List UInt8} {c : UInt8} (hs : s.length ≤ 1000000000000) : S E F.stringslite_Cut [.str s, .str [c]] [] = some (if c ∈ s then .tup [.str (s.take (s.idxOf c)), .str (s.drop (s.idxOf c + 1)), .bool true] else .tup [.str s, .str [], .bool false], []) := by
  have h := sl_index (s := s) (c := c)
  rw [S_of fn_stringslite_Cut rfl rfl]
  by_cases hc : c ∈ s
  · rw [ixB_pos hc] at h
    have hi := List.idxOf_lt_length_of_mem hc
    rw [if_pos hc]
    have e1 : ((s.idxOf c : Int) + ((1 : Nat) : Int)).toNat = s.idxOf c + 1 := by omega
    have e2 : sub s 0 (s.idxOf c) = s.take (s.idxOf c) := by simp [sub]
    have e3 : sub s (s.idxOf c + 1) (s.length - (s.idxOf c + 1)) = s.drop (s.idxOf c + 1) := sub_drop (by omega)
    simp (dsimp := false) (disch := first | omega | (simp only [strs_length, List.length_set, List.length_replicate, words_length, ofBytes_length, List.length_append, List.length_cons, List.length_nil, List.length_take, List.length_drop] <;> omega) | fail) only [L.stringslite_Cut, go_sem, reduceIte, reduceCtorEq, Nat.reduceEqDiff, Nat.reduceAdd, Nat.reduceSub, Nat.reduceMul, Nat.reduceDiv, Nat.reduceMod, Nat.reduceBEq, Nat.reduceLeDiff, Nat.reduceLT, Int.reduceEq, Int.reduceNe, Int.reduceLT, Int.reduceLE, Int.reduceBEq, Int.reduceBNe, Int.reduceToNat, Int.reduceAdd, Int.reduceSub, Int.reduceMul, Int.reduceNeg, h, e1, e2, e3, Nat.sub_zero]
  · rw [ixB_neg hc] at h
    rw [if_neg hc]
    simp (dsimp := false) (disch := first | omega | (simp only [strs_length, List.length_set, List.length_replicate, words_length, ofBytes_length, List.length_append, List.length_cons, List.length_nil, List.length_take, List.length_drop] <;> omega) | fail) only [L.stringslite_Cut, go_sem, reduceIte, reduceCtorEq, Nat.reduceEqDiff, Nat.reduceAdd, Nat.reduceSub, Nat.reduceMul, Nat.reduceDiv, Nat.reduceMod, Nat.reduceBEq, Nat.reduceLeDiff, Nat.reduceLT, Int.reduceEq, Int.reduceNe, Int.reduceLT, Int.reduceLE, Int.reduceBEq, Int.reduceBNe, Int.reduceToNat, Int.reduceAdd, Int.reduceSub, Int.reduceMul, Int.reduceNeg, h]
theorem go_scut {s : List UInt8} {c : UInt8} (hs : s.length ≤ 1000000000000) : S E F.strings_Cut [.str s, .str [c]] [] = some (if c ∈ s then .tup [.str (s.take (s.idxOf c)), .str (s.drop (s.idxOf c + 1)), .bool true] else .tup [.str s, .str [], .bool false], []) := by
  have h := sl_cut (c := c) hs
  rw [S_of fn_strings_Cut rfl rfl]
  by_cases hc : c ∈ s
  · rw [if_pos hc] at h ⊢
    simp (dsimp := false) (disch := first | omega | (simp only [strs_length, List.length_set, List.length_replicate, words_length, ofBytes_length, List.length_append, List.length_cons, List.length_nil, List.length_take, List.length_drop] <;> omega) | fail) only [L.strings_Cut, go_sem, reduceIte, reduceCtorEq, Nat.reduceEqDiff, Nat.reduceAdd, Nat.reduceSub, Nat.reduceMul, Nat.reduceDiv, Nat.reduceMod, Nat.reduceBEq, Nat.reduceLeDiff, Nat.reduceLT, Int.reduceEq, Int.reduceNe, Int.reduceLT, Int.reduceLE, Int.reduceBEq, Int.reduceBNe, Int.reduceToNat, Int.reduceAdd, Int.reduceSub, Int.reduceMul, Int.reduceNeg, h]
  · rw [if_neg hc] at h ⊢
    simp (dsimp := false) (disch := first | omega | (simp only [strs_length, List.length_set, List.length_replicate, words_length, ofBytes_length, List.length_append, List.length_cons, List.length_nil, List.length_take, List.length_drop] <;> omega) | fail) only [L.strings_Cut, go_sem, reduceIte, reduceCtorEq, Nat.reduceEqDiff, Nat.reduceAdd, Nat.reduceSub, Nat.reduceMul, Nat.reduceDiv, Nat.reduceMod, Nat.reduceBEq, Nat.reduceLeDiff, Nat.reduceLT, Int.reduceEq, Int.reduceNe, Int.reduceLT, Int.reduceLE, Int.reduceBEq, Int.reduceBNe, Int.reduceToNat, Int.reduceAdd, Int.reduceSub, Int.reduceMul, Int.reduceNeg, h]
theorem go_ixbyte {l : List UInt8} {n : Nat} {c : Int} (h : n = l.length) : S E F.bytes_IndexByte [.lst (ofBytes l) n, .int .u8 c] [] = some (.int .i64 (indexB l (byt c)), []) := by
  rw [S_of fn_bytes_IndexByte rfl rfl]
  simp (dsimp := false) (disch := first | omega | (simp only [strs_length, List.length_set, List.length_replicate, words_length, ofBytes_length, List.length_append, List.length_cons, List.length_nil, List.length_take, List.length_drop] <;> omega) | fail) only [L.bytes_IndexByte, go_sem, reduceIte, reduceCtorEq, Nat.reduceEqDiff, Nat.reduceAdd, Nat.reduceSub, Nat.reduceMul, Nat.reduceDiv, Nat.reduceMod, Nat.reduceBEq, Nat.reduceLeDiff, Nat.reduceLT, Int.reduceEq, Int.reduceNe, Int.reduceLT, Int.reduceLE, Int.reduceBEq, Int.reduceBNe, Int.reduceToNat, Int.reduceAdd, Int.reduceSub, Int.reduceMul, Int.reduceNeg, S_indexByte h]
theorem go_bindex0 {l : List UInt8} {n : Nat} (hn : n = l.length) (hl : l.length ≤ 1000000000000) : S E F.bytes_Index [.lst (ofBytes l) n, .lst [.int .u8 0] 1] [] = some (.int .i64 (indexB l 0), []) := by
  have h := go_ixbyte (l := l) (n := n) (c := 0) hn
  rw [show byt 0 = 0 from rfl] at h
  rw [S_of fn_bytes_Index rfl rfl]
  simp (dsimp := false) (disch := first | omega | (simp only [strs_length, List.length_set, List.length_replicate, words_length, ofBytes_length, List.length_append, List.length_cons, List.length_nil, List.length_take, List.length_drop] <;> omega) | fail) only [L.bytes_Index, go_sem, reduceIte, reduceCtorEq, Nat.reduceEqDiff, Nat.reduceAdd, Nat.reduceSub, Nat.reduceMul, Nat.reduceDiv, Nat.reduceMod, Nat.reduceBEq, Nat.reduceLeDiff, Nat.reduceLT, Int.reduceEq, Int.reduceNe, Int.reduceLT, Int.reduceLE, Int.reduceBEq, Int.reduceBNe, Int.reduceToNat, Int.reduceAdd, Int.reduceSub, Int.reduceMul, Int.reduceNeg, zer_bytes, app_ofBytes, ofBytes_length, flats_ofBytes, hards_ofBytes, leadss_ofBytes, refsOfs_ofBytes, rens_ofBytes, bytesOf_ofBytes, sub_ofBytes, take_ofBytes, drop_ofBytes, get_ofBytes, over_ofBytes_all, over_ofBytes, ofBytes_snoc, h]
theorem go_bcut {l : List UInt8} {n : Nat} (hn : n = l.length) (hl : l.length ≤ 1000000000000) : S E F.bytes_Cut [.lst (ofBytes l) n, .lst [.int .u8 0] 1] [] =
    some (if (0 : UInt8) ∈ l then (.tup [.lst (ofBytes (l.take (l.idxOf 0))) (l.idxOf 0), .lst (ofBytes (l.drop (l.idxOf 0 + 1))) (n - (l.idxOf 0 + 1)), .bool true], []) else (.tup [.lst (ofBytes l) n, .buf (.r 0) 0 0 0 1, .bool false], [(.r 0, ⟨0, true, true, false, []⟩)])) := by
  have h := go_bindex0 hn hl
  subst hn
  rw [S_of fn_bytes_Cut rfl rfl]
  by_cases hc : (0 : UInt8) ∈ l
  · rw [ixB_pos hc] at h
    have hi := List.idxOf_lt_length_of_mem hc
    rw [if_pos hc]
    have e1 : ((l.idxOf (0 : UInt8) : Int) + ((1 : Nat) : Int)).toNat = l.idxOf (0 : UInt8) + 1 := by omega
    have e2 : sub l 0 (l.idxOf (0 : UInt8)) = l.take (l.idxOf (0 : UInt8)) := by simp [sub]
    have e3 : sub l (l.idxOf (0 : UInt8) + 1) (l.length - (l.idxOf (0 : UInt8) + 1)) = l.drop (l.idxOf (0 : UInt8) + 1) := sub_drop (by omega)
    simp (dsimp := false) (disch := first | omega | (simp only [strs_length, List.length_set, List.length_replicate, words_length, ofBytes_length, List.length_append, List.length_cons, List.length_nil, List.length_take, List.length_drop] <;> omega) | fail) only [L.bytes_Cut, go_sem, reduceIte, reduceCtorEq, Nat.reduceEqDiff, Nat.reduceAdd, Nat.reduceSub, Nat.reduceMul, Nat.reduceDiv, Nat.reduceMod, Nat.reduceBEq, Nat.reduceLeDiff, Nat.reduceLT, Int.reduceEq, Int.reduceNe, Int.reduceLT, Int.reduceLE, Int.reduceBEq, Int.reduceBNe, Int.reduceToNat, Int.reduceAdd, Int.reduceSub, Int.reduceMul, Int.reduceNeg, zer_bytes, app_ofBytes, ofBytes_length, flats_ofBytes, hards_ofBytes, leadss_ofBytes, refsOfs_ofBytes, rens_ofBytes, bytesOf_ofBytes, sub_ofBytes, take_ofBytes, drop_ofBytes, get_ofBytes, over_ofBytes_all, over_ofBytes, ofBytes_snoc, h, e1, e2, e3, Nat.sub_zero]
  · rw [ixB_neg hc] at h
    rw [if_neg hc]
    simp (dsimp := false) (disch := first | omega | (simp only [strs_length, List.length_set, List.length_replicate, words_length, ofBytes_length, List.length_append, List.length_cons, List.length_nil, List.length_take, List.length_drop] <;> omega) | fail) only [L.bytes_Cut, go_sem, reduceIte, reduceCtorEq, Nat.reduceEqDiff, Nat.reduceAdd, Nat.reduceSub, Nat.reduceMul, Nat.reduceDiv, Nat.reduceMod, Nat.reduceBEq, Nat.reduceLeDiff, Nat.reduceLT, Int.reduceEq, Int.reduceNe, Int.reduceLT, Int.reduceLE, Int.reduceBEq, Int.reduceBNe, Int.reduceToNat, Int.reduceAdd, Int.reduceSub, Int.reduceMul, Int.reduceNeg, zer_bytes, app_ofBytes, ofBytes_length, flats_ofBytes, hards_ofBytes, leadss_ofBytes, refsOfs_ofBytes, rens_ofBytes, bytesOf_ofBytes, sub_ofBytes, take_ofBytes, drop_ofBytes, get_ofBytes, over_ofBytes_all, over_ofBytes, ofBytes_snoc, h]
end Cod

/- object.PutTree, walked in the model. -/
namespace Cod
open Go Go.RowKit Go.Proofs Go.Shelf
set_option maxRecDepth 1000000

set_option maxHeartbeats 6400000 in
theorem put_tree {l : List Ety} (hl : TreeOK l) {p : Option Addr} {b0 o0 cap : Nat} {w : World} (hW : Start w) (hv : VR (ctx [] LaE w) (.lst (etys l) l.length) (.slice p l.length cap)) (hp : 0 < l.length → p = some ⟨b0, o0, none⟩) (hrow : ∀ k, k < l.length → w.rangeAt b0 (o0 + k * 34) (valsE (eat l k))) (hb0 : 0 < l.length → b0 < w.heap.size) :
    Calls Tryz.prog 11 #[.slice p l.length cap] w fun e w' => Below w.heap.size w w' ∧ ((entE l ≠ 0 ∧ e = .returned (.tuple #[.slice none 0 0, .int .i64 (entE l)])) ∨ (entE l = 0 ∧ ∃ v, e = .returned (.tuple #[v, .int .i64 0]) ∧ w'.ownsRow w.heap.size 5 1 v (treeB l).length ((treeB l).map fun b => Value.int .u8 b.toNat))) := by
  have hi39 : (Tryz.prog.info? 58).map (·.size) = some 34 := by kernel_rfl
  by_cases he : entE l = 0
  · go_enter Tryz.func11, Tryz.ntmps11
    go_wp2_with (go_at_call 41; refine (ent_calls hl hW hv).mono ?_; rw [he]; rintro e W1 ⟨rfl, hb1⟩)
    go_loopw [15] (fun i wr => ∃ k : Nat, i = .int .i64 k ∧ k ≤ l.length ∧ Lib.IsBuffer 83 5 W1.heap.size W1.heap.size (Lib.byteCells (treeB (l.take k))) wr ∧ Below W1.heap.size W1 wr) (fun i _ => l.length - (intOf i).toNat)
    case atStart =>
      exact ⟨0, rfl, Nat.zero_le _, ⟨Nat.le_refl _, .slice none 0 0, 0, heap_alloc_new W1 _, World.ownsRow_nil _ _ _ _, by simp [Value.ownBlock]⟩, (Below.refl _ W1).alloc (Nat.le_refl _) _⟩
    case round =>
      obtain ⟨k, rfl, hk, hI, hbw⟩ := hrel
      have hbel : Below w.heap.size w wr := hb1.trans ⟨hbw.os, hbw.tape, hbw.output, hbw.size, fun j hj => hbw.block j (Nat.lt_of_lt_of_le hj hb1.size)⟩
      by_cases hlt : k < l.length
      · obtain rfl := hp (by omega)
        have hb0 := hb0 (by omega)
        have hrange : wr.rangeAt b0 (o0 + k * 34) (valsE (eat l k)) := fun j v hj => (hbel.cell (p := ⟨b0, o0 + k * 34 + j, none⟩) hb0).trans (hrow k hlt j v hj)
        go_upto_region 8 with (first | (refine wpList_load_mid rfl 58 _ rfl b0 (o0 + k * 34) (by first | rfl | simp [Addr.add_mid]) (valsE (eat l k)) _ hrange Tryz.underlying58 rfl (by rw [valsE_len]; exact hi39) ?_) | (refine wpList_store_mid rfl 58 _ _ rfl wr.heap.size 0 (valsE (eat l k)).toArray (by rfl) (by rfl) ?_ ?_ (vals_one _) ?_))
        · intro j hj
          first | rw [List.size_toArray, valsE_len] at hj | rw [valsE_len] at hj
          refine ⟨?_, ?_⟩
          · simp only [World.cell?, heap_alloc_new]
            rw [if_neg (by simp), Nat.zero_add, Array.getElem?_eq_getElem (by simpa using hj)]; rfl
          · simp only [World.frozen?, heap_alloc_new]
            simp
        · first | (rw [List.size_toArray, valsE_len]; exact hi39) | rw [valsE_len]
        · refine with_var (p := Code.wp _ _ _ _) (T := 58) (vals := valsE (eat l k)) (by rw [valsE_len]; rfl) ?_
          intro W3 hva
          have hn1 : wr.heap.size < W3.heap.size := by rw [hva.size]; omega
          have c0 : W3.cell? ⟨wr.heap.size, 0, none⟩ = some (.int .i64 (eat l k).mode) := hva.cell 0 _ rfl
          have c1 : W3.cell? ⟨wr.heap.size, 1, none⟩ = some (.string ⟨(eat l k).name.toArray⟩) := hva.cell 1 _ rfl
          have hI3 := hI.old hva.below
          have hb3 : Below w.heap.size w W3 := hbel.trans ⟨hva.below.os, hva.below.tape, hva.below.output, hva.below.size, fun j hj => hva.below.block j (Nat.lt_of_lt_of_le hj hbel.size)⟩
          have hS3 : Start W3 := hW.below hb3
          have hm := hl.2.1 k
          have hF : Calls Tryz.prog 43 #[.int .i64 (eat l k).mode, .int .i64 8] W3.drew fun e W4 => e = .returned (.string ⟨(octT (eat l k).mode).toArray⟩) ∧ W4.cell? ⟨wr.heap.size, 1, none⟩ = some (.string ⟨(eat l k).name.toArray⟩) ∧ Below wr.heap.size wr W4 ∧ W3.heap.size ≤ W4.heap.size ∧ (∀ j, j < W3.heap.size → W4.heap[j]? = W3.heap[j]?) := by
            have hSd : Start W3.drew := hS3.below ⟨rfl, rfl, rfl, Nat.le_refl _, fun _ _ => rfl⟩
            refine (fmt_calls hm.1 hm.2 hSd).mono ?_
            rintro e W4 ⟨rfl, hb4x⟩
            have hb4 : Below W3.heap.size W3 W4 := ⟨hb4x.os, hb4x.tape, hb4x.output, hb4x.size, hb4x.block⟩
            exact ⟨rfl, (hb4.cell (p := ⟨wr.heap.size, 1, none⟩) hn1).trans c1, hva.below.trans ⟨hb4.os, hb4.tape, hb4.output, hb4.size, fun j hj => hb4.block j (by omega)⟩, hb4.size, hb4.block⟩
          have hts := treeB_small he
          have htk := treeB_take l k
          have hol := octT_len (eat l k).mode
          have hnl := hl.1 k
          obtain ⟨T1, hT1⟩ : ∃ T1 : ByteArray, T1 = ⟨(octT (eat l k).mode).toArray⟩ := ⟨_, rfl⟩
          obtain ⟨T2, hT2⟩ : ∃ T2 : ByteArray, T2 = ⟨(eat l k).name.toArray⟩ := ⟨_, rfl⟩
          have z1 : T1.size ≤ 23 := by rw [hT1]; simpa [ByteArray.size] using hol
          have z2 : T2.size ≤ 1000000000 := by rw [hT2]; simpa [ByteArray.size] using hnl
          rw [← hT1, ← hT2] at hF
          rw [← hT2] at c1
          have d1 : T1.data.toList = octT (eat l k).mode := by rw [hT1]
          have d2 : T2.data.toList = (eat l k).name := by rw [hT2]
          clear hT1 hT2
          have g1 : ¬ 9223372036854775807 < T1.size + 1 := by omega
          have g2 : ¬ 9223372036854775807 < T1.size + 1 + T2.size := by omega
          have g3 : ¬ 9223372036854775807 < T1.size + 1 + T2.size + 1 := by omega
          have g4 : ¬ 9223372036854775807 ≤ T1.size := by omega
          have g5 : ¬ 9223372036854775807 ≤ T1.size + 1 + T2.size := by omega
          go_region_with (first | (go_at_call 43; refine hF.mono ?_; rintro e W4 ⟨rfl, c1', hb4, hz4, hk4⟩; have hI4 := hI.old hb4) | (go_at_call 42; refine Calls.mono (Tryz.Buffer_WriteString_kept W1.heap.size W1.heap.size _ _ W4 hI4 (by have := hbw.size; have := hb4.size; omega) (one_bytes _) (by rw [Lib.byteCells_length]; simp only [ByteArray.size_append]; have e1 : (⟨#[32]⟩ : ByteArray).size = 1 := rfl; have e2 : (⟨#[0]⟩ : ByteArray).size = 1 := rfl; omega)) ?_; rintro e W5 ⟨rfl, hI5, hb5, hk5⟩))
          all_goals have hsrc := src_id hva (by decide) hI.lt hk4 hk5
          all_goals go_wp2_with (go_at_call 44; refine Calls.mono (Tryz.Buffer_Write_any W1.heap.size W1.heap.size _ (Lib.byteCells (eat l k).id) ⟨wr.heap.size, 2, none⟩ 32 32 W5 hI5 (by have := hbw.size; have := hb4.size; have := hb5.size; omega) (by rw [cells_app]; exact one_bytes _) (by rw [Lib.byteCells_length]; exact (eat l k).hid) (by have := hI.lt; show wr.heap.size ≠ W1.heap.size; omega) hsrc (one_bytes _) (by rw [List.length_append, Lib.byteCells_length, Lib.byteCells_length, cat_data d1 d2]; simp only [List.length_append, List.length_cons, List.length_nil]; omega)) ?_; rintro e W6 ⟨rfl, hI6, hb6, hk6⟩)
          all_goals rw [cat_tree hlt d1 d2] at hI6
          all_goals go_roundw
          all_goals first
            | exact ⟨k + 1, by rw [wrap64_succ (by have := hl.2.2; omega)], by omega, hI6, hbw.trans ((below_weak hb4 hbw.size).trans (hb5.trans hb6))⟩
            | (rw [wrap64_succ (by have := hl.2.2; omega)]; simp only [intOf]; omega)
      · obtain rfl : k = l.length := by omega
        rw [List.take_length] at hI
        go_wp2_with (go_at_call 45; refine (Tryz.Buffer_Bytes W1.heap.size W1.heap.size _ wr hI).mono ?_; rintro e W2 ⟨v, rfl, hown, n, rfl⟩)
        go_ret2
        refine ⟨hbel.trans ⟨rfl, rfl, rfl, Nat.le_refl _, fun _ _ => rfl⟩, .inr ⟨he, v, rfl, ?_⟩⟩
        have e1 : Lib.byteCells (treeB l) = (treeB l).map fun b => Value.int .u8 b.toNat := rfl
        rw [e1, List.length_map] at hown
        exact owns_mono hown hb1.size
  · go_enter Tryz.func11, Tryz.ntmps11
    go_wp2_with (go_at_call 41; refine (ent_calls hl hW hv).mono ?_; rintro e W1 ⟨rfl, hb1⟩)
    go_ret2
    exact ⟨hb1, .inl ⟨he, rfl⟩⟩
end Cod

/- object.PutTree as a known function. -/
namespace Cod
open Go Go.RowKit Go.Proofs Go.Shelf
set_option maxRecDepth 100000

/-- What object.PutTree answers. -/
def treeV (l : List Ety) : AV × Store := if entE l = 0 then (.tup [.buf (.r 0) 0 0 (treeB l).length 1, .int .i64 0], [(.r 0, ⟨0, true, true, false, ofBytes (treeB l)⟩)]) else (.tup [.nils, .int .i64 (entE l)], [])
open Classical in
noncomputable def kPutT (args : List AV) (σ : Store) : Option (AV × Store) :=
  if h : ∃ l, args = [.lst (etys l) l.length] ∧ σ = [] ∧ TreeOK l then some (treeV (choose h)) else none
theorem ofBytes_inj : ∀ {a b : List UInt8}, ofBytes a = ofBytes b → a = b := by
  intro a
  induction a with
  | nil => intro b h; cases b with
    | nil => rfl
    | cons => simp [ofBytes] at h
  | cons x a ih =>
    intro b h
    cases b with
    | nil => simp [ofBytes] at h
    | cons y b =>
      simp only [ofBytes, List.map_cons, List.cons.injEq, AV.int.injEq, true_and] at h
      have h1 : x = y := UInt8.toNat_inj.1 (by have := h.1; omega)
      rw [h1, ih (by simpa [ofBytes] using h.2)]
theorem ety_inj {a b : Ety} (h : a.cells = b.cells) : a = b := by
  unfold Ety.cells at h
  simp only [List.cons.injEq, AV.int.injEq, AV.str.injEq, true_and] at h
  obtain ⟨h1, h2, h30⟩ := h
  have h3 := ofBytes_inj h30
  clear h30
  cases a; cases b
  simp only at h1 h2 h3
  subst h1 h2 h3
  rfl
theorem etys_inj : ∀ {a b : List Ety}, etys a = etys b → a = b := by
  intro a
  induction a with
  | nil =>
    intro b h
    have := congrArg List.length h
    rw [etys_length, etys_length] at this
    cases b with
    | nil => rfl
    | cons => simp at this
  | cons x a ih =>
    intro b h
    cases b with
    | nil => have := congrArg List.length h; rw [etys_length, etys_length] at this; simp at this
    | cons y b =>
      have h' : x.cells ++ etys a = y.cells ++ etys b := h
      obtain ⟨h1, h2⟩ := List.append_inj h' (by rw [ety_len, ety_len])
      rw [ety_inj h1, ih h2]
theorem kPutT_eq {l : List Ety} (h : TreeOK l) : kPutT [.lst (etys l) l.length] [] = some (treeV l) := by
  have hx : ∃ l', [AV.lst (etys l) l.length] = [.lst (etys l') l'.length] ∧ ([] : Store) = [] ∧ TreeOK l' := ⟨l, rfl, rfl, h⟩
  unfold kPutT
  rw [dif_pos hx]
  have key : ∀ l', [AV.lst (etys l) l.length] = [.lst (etys l') l'.length] → l' = l := by
    intro l' hc
    injection hc with hc1 _
    injection hc1 with h1 h2
    exact (etys_inj h1).symm
  rw [key _ (Classical.choose_spec hx).1]
theorem lst_start {c' : Lay} {w : World} {cs : List AV} {n : Nat} {v : Value} (h : VR (ctx [] c' w) (.lst cs n) v) : VR (ctx [] LaE w) (.lst cs n) v := by
  refine VR_le ?_ _ _ h
  refine ⟨fun s g0 al h => by simp [ctx, tabS, getS] at h, fun b _ h => ?_, fun b _ _ => rfl, fun _ _ h => h, Nat.le_refl _⟩
  rcases h with ⟨s, e, o, he, _⟩ | h
  · simp [getS] at he
  · exact h.elim
theorem ok_putT {E : Env} (hE : E.glob = globOf) : RowOK Tryz.prog E F.object_PutTree kPutT := by
  intro args σa v σr hk La w vs hr hv hup
  unfold kPutT at hk
  split at hk
  · rename_i hx
    obtain ⟨q1, q2, q3⟩ := Classical.choose_spec hx
    generalize Classical.choose hx = l at *
    subst q1 q2
    simp only [Option.some.injEq] at hk
    simp only [VRL] at hv
    obtain ⟨x, r, rfl, hx, rfl⟩ := hv
    have hS := start_of hE hr
    have hx' := lst_start hx
    have hcase : ∃ p b0 o0 cap, x = .slice p l.length cap ∧ (0 < l.length → p = some ⟨b0, o0, none⟩) ∧ (0 < l.length → b0 < w.heap.size) ∧ ∀ k, k < l.length → w.rangeAt b0 (o0 + k * 34) (valsE (eat l k)) := by
      have h2 := hx'
      simp only [VR] at h2
      obtain ⟨_, h2⟩ := h2
      rcases h2 with ⟨h3, h4, h5⟩ | ⟨b, o, cap, h3, _, h4, _, h5⟩
      · exact ⟨none, 0, 0, 0, by rw [h5, h4], fun h => by omega, fun h => by omega, fun k hk => by omega⟩
      · refine ⟨_, b, o, cap, h3, fun _ => rfl, fun _ => h4, fun k hk => ?_⟩
        have := VRC_sub h5 (k * 34) 34
        rw [sub_etys hk] at this
        exact ety_range this
    obtain ⟨p, b0, o0, cap, rfl, hp, hb0, hrow⟩ := hcase
    refine fn_of_calls Tryz.func11 (by rfl) (by kernel_rfl) ((put_tree q3 hS hx' hp hrow hb0).mono fun e w' ⟨hb, hw⟩ => ?_)
    unfold treeV at hk
    rcases hw with ⟨he, rfl⟩ | ⟨he, v', rfl, hown⟩
    · rw [if_neg he] at hk
      cases hk
      exact ⟨_, rfl, La, rel_below hr hb, by simp [VR, VRL]⟩
    · rw [if_pos he] at hk
      cases hk
      have e1 : ((treeB l).map fun b => Value.int .u8 b.toNat) = ((treeB l).map fun b => ((b.toNat : Nat) : Int)).map (Value.int .u8) := by rw [List.map_map]; rfl
      rw [e1] at hown
      obtain ⟨La', h1, h2⟩ := rel_new hr hb hown
      have e2 : ((treeB l).map fun b => ((b.toNat : Nat) : Int)).map (AV.int .u8 ·) = ofBytes (treeB l) := by unfold ofBytes; rw [List.map_map]; rfl
      rw [e2] at h1 h2
      refine ⟨_, rfl, La', h1, ?_⟩
      simp only [VR, VRL]
      exact ⟨_, rfl, _, _, rfl, h2, _, _, rfl, rfl, rfl⟩
  · cases hk
theorem ext_cons {E : Env} {fn : Nat → Option LFn} {tab : List (Nat × (List AV → Store → Option (AV × Store)))} {glob : Nat → List AV} {f : Nat} {h : List AV → Store → Option (AV × Store)} (hx : Ext E ⟨fn, fun g => tab.lookup g, glob⟩) (h1 : E.known f = none) (h2 : E.fn f = none) : Ext E ⟨fn, fun g => ((f, h) :: tab).lookup g, glob⟩ where
  glob := hx.glob
  fn := hx.fn
  known g h' hk := by
    show ((f, h) :: tab).lookup g = some h'
    rw [List.lookup_cons]
    cases hb : g == f with
    | false => exact hx.known g h' hk
    | true =>
      rw [beq_iff_eq] at hb
      rw [hb, h1] at hk
      cases hk
  none g hk := by
    by_cases hb : g = f
    · right; rw [hb]; exact h2
    · rcases hx.none g hk with hn | hn
      · left
        show ((f, h) :: tab).lookup g = none
        rw [List.lookup_cons, beq_eq_false_iff_ne.2 hb]
        exact hn
      · exact .inr hn
noncomputable def knownTabT : List (Nat × (List AV → Store → Option (AV × Store))) := (F.object_PutTree, kPutT) :: knownTab
noncomputable def EE : Env := ⟨fnOf, fun f => knownTabT.lookup f, globOf⟩
theorem fnsT_ok : FnsOK Tryz.prog EE := fnsOK_of (by kernel_rfl) all_ok (fun _ => rfl)
theorem knownT_ok : KnownOK Tryz.prog EE := by
  intro f h hf
  have hm := lookup_memK (show knownTabT.lookup f = some h from hf)
  unfold knownTabT at hm
  rcases List.mem_cons.1 hm with hm | hm
  · cases hm; exact ok_putT rfl
  · exact tabG_ok (E := EE) rfl (f, h) hm
theorem ext_base : Ext E ⟨fnOf, fun g => knownTab.lookup g, globOf⟩ := ⟨rfl, rfl, fun _ _ hk => hk, fun _ hk => .inl hk⟩
theorem extE : Ext E EE := ext_cons ext_base rfl rfl
theorem S_ofT {f : Nat} {l : LFn} (hf : fnOf f = some l) (hk : EE.known f = none) {args : List AV} {σ : Store} (hn : args.length = l.np) : S EE f args σ = X EE l.results [.c l.code] ⟨params 0 args, σ⟩ := S_fn hk hf hn
theorem S_putT {l : List Ety} (h : TreeOK l) : S EE F.object_PutTree [.lst (etys l) l.length] [] = some (treeV l) := by
  rw [S_eq, show EE.known F.object_PutTree = some kPutT from rfl]
  exact kPutT_eq h
end Cod

/- Bytes compared cell by cell. -/
namespace Cod
open Go

theorem eqCells_bytes : ∀ (n : Nat) (x y : List UInt8) (ks : List Nat) (xs ys : List AV), x.length = n → y.length = n → eqCells (List.replicate n 0 ++ ks) (ofBytes x ++ xs) (ofBytes y ++ ys) = (eqCells ks xs ys).map (x == y && ·) := by
  intro n
  induction n with
  | zero =>
    intro x y ks xs ys hx hy
    obtain rfl := List.eq_nil_of_length_eq_zero hx
    obtain rfl := List.eq_nil_of_length_eq_zero hy
    simp [ofBytes]
  | succ n ih =>
    intro x y ks xs ys hx hy
    cases x with
    | nil => simp at hx
    | cons a x =>
      cases y with
      | nil => simp at hy
      | cons b y =>
        have h1 := ih x y ks xs ys (by simpa using hx) (by simpa using hy)
        have e1 : ofBytes (a :: x) = .int .u8 a.toNat :: ofBytes x := rfl
        have e2 : ofBytes (b :: y) = .int .u8 b.toNat :: ofBytes y := rfl
        rw [e1, e2, List.replicate_succ, List.cons_append, List.cons_append, List.cons_append]
        simp only [eqCells, if_true, h1, Option.map_map]
        congr 1
        funext z
        have : ((a.toNat : Int) == b.toNat) = (a == b) := by
          by_cases h : a = b
          · subst h; simp
          · have h2 : ¬ ((a.toNat : Int) = b.toNat) := fun e => h (UInt8.toNat_inj.1 (by omega))
            rw [beq_eq_false_iff_ne.2 h, beq_eq_false_iff_ne.2 h2]
        simp only [Function.comp, this, List.cons_beq_cons, Bool.and_assoc]
theorem eqCells_32 {x y : List UInt8} (hx : x.length = 32) (hy : y.length = 32) : eqCells [0, 0, 0, 0, 0, 0, 0, 0, 0, 0, 0, 0, 0, 0, 0, 0, 0, 0, 0, 0, 0, 0, 0, 0, 0, 0, 0, 0, 0, 0, 0, 0] (ofBytes x) (ofBytes y) = some (x == y) := by
  have h := eqCells_bytes 32 x y [] [] [] hx hy
  rw [List.append_nil, List.append_nil, List.append_nil] at h
  rw [show [0, 0, 0, 0, 0, 0, 0, 0, 0, 0, 0, 0, 0, 0, 0, 0, 0, 0, 0, 0, 0, 0, 0, 0, 0, 0, 0, 0, 0, 0, 0, 0] = List.replicate 32 0 from rfl, h]
  simp [eqCells]
end Cod

/- awake, the law. -/
namespace Cod
open Go

def wE : Ety := ⟨33188, [97], List.replicate 32 0, by simp⟩
theorem wE_tree : treeB [wE] = [49, 48, 48, 54, 52, 52, 32, 97, 0] ++ List.replicate 32 0 := by decide +kernel
theorem wE_ent : entE [wE] = 0 := by decide +kernel
theorem wE_ok : TreeOK [wE] := by
  refine ⟨fun i => ?_, fun i => ?_, by decide⟩
  · cases i with
    | zero => decide
    | succ i => show (default : Ety).name.length ≤ _; decide
  · cases i with
    | zero => decide
    | succ i => show _ ≤ (default : Ety).mode ∧ (default : Ety).mode ≤ _; decide
theorem go_putW : S EE F.object_PutTree [.lst (.int .i64 33188 :: .str [97] :: ofBytes (List.replicate 32 0)) 1] [] = some (.tup [.buf (.r 0) 0 0 41 1, .int .i64 0], [(.r 0, ⟨0, true, true, false, ofBytes (treeB [wE])⟩)]) := by
  have h := S_putT wE_ok
  have e : treeV [wE] = (.tup [.buf (.r 0) 0 0 41 1, .int .i64 0], [(.r 0, ⟨0, true, true, false, ofBytes (treeB [wE])⟩)]) := by
    unfold treeV; rw [if_pos wE_ent, wE_tree]; rfl
  rw [e] at h
  exact h
theorem hdr_w : hdrT 3 3 = [98, 108, 111, 98, 32, 51, 0] := by
  unfold hdrT
  rw [show (3 : Int) = ((3 : Nat) : Int) from rfl, Lib.itoa_nonneg, Lib.decDigits_one (by omega)]; rfl
theorem obj_w : objE 3 3 = 0 := by decide +kernel
theorem go_idW : S EE F.object_Id [.agg [.int .i64 3, .lst (ofBytes [97, 98, 99]) 3]] [] = some (.tup [.agg (ofBytes (shaF [98, 108, 111, 98, 32, 51, 0, 97, 98, 99])), .int .i64 0], []) := by
  have h := S_ext extE (go_oid (k := 3) (p := [97, 98, 99]) (n := 3) rfl (by simp))
  unfold idV idF at h
  simp only [List.length_cons, List.length_nil, Nat.zero_add, Nat.reduceAdd] at h
  rw [obj_w, if_pos rfl] at h
  rw [show (((3 : Nat)) : Int) = 3 from rfl, hdr_w] at h
  exact h
theorem go_awake : S EE F.law07_awake [] [] = some (.bool true, []) := by
  have h1 : S EE F.object_Id [.agg [.int .i64 3, .lst [.int .u8 97, .int .u8 98, .int .u8 99] 3]] [] = some (.tup [.agg (ofBytes (shaF [98, 108, 111, 98, 32, 51, 0, 97, 98, 99])), .int .i64 0], []) := go_idW
  have h2 := go_putW
  have h3 : S EE F.sha_Sum [.lst [.int .u8 98, .int .u8 108, .int .u8 111, .int .u8 98, .int .u8 32, .int .u8 51, .int .u8 0, .int .u8 97, .int .u8 98, .int .u8 99] 10] [] = some (.agg (ofBytes (shaF [98, 108, 111, 98, 32, 51, 0, 97, 98, 99])), []) := S_ext extE (go_sum (p := [98, 108, 111, 98, 32, 51, 0, 97, 98, 99]) (by simp))
  have hs : (shaF [98, 108, 111, 98, 32, 51, 0, 97, 98, 99]).length = 32 := by unfold shaF; simp [idOf]
  generalize shaF [98, 108, 111, 98, 32, 51, 0, 97, 98, 99] = d at *
  have ht : (treeB [wE]).length = 41 := by rw [wE_tree]; rfl
  have h9 : sub (treeB [wE]) 0 9 = [49, 48, 48, 54, 52, 52, 32, 97, 0] := by rw [wE_tree]; rfl
  have h9' : (treeB [wE]).take 9 = [49, 48, 48, 54, 52, 52, 32, 97, 0] := by rw [wE_tree]; rfl
  generalize treeB [wE] = tr at *
  have s3 : sub [AV.int .u8 97, AV.int .u8 98, AV.int .u8 99] 0 3 = [.int .u8 97, .int .u8 98, .int .u8 99] := rfl
  have s10 : sub [AV.int .u8 98, AV.int .u8 108, AV.int .u8 111, AV.int .u8 98, AV.int .u8 32, AV.int .u8 51, AV.int .u8 0, AV.int .u8 97, AV.int .u8 98, AV.int .u8 99] 0 10 = [.int .u8 98, .int .u8 108, .int .u8 111, .int .u8 98, .int .u8 32, .int .u8 51, .int .u8 0, .int .u8 97, .int .u8 98, .int .u8 99] := rfl
  have s34 : sub (AV.int .i64 33188 :: AV.str [97] :: ofBytes (List.replicate 32 0)) 0 34 = AV.int .i64 33188 :: AV.str [97] :: ofBytes (List.replicate 32 0) := rfl
  have o1 : over (default : Ety).cells 0 [AV.int .i64 33188] = AV.int .i64 33188 :: AV.str [] :: ofBytes (List.replicate 32 0) := rfl
  have o2 : over (AV.int .i64 33188 :: AV.str [] :: ofBytes (List.replicate 32 0)) 1 [AV.str [97]] = AV.int .i64 33188 :: AV.str [97] :: ofBytes (List.replicate 32 0) := rfl
  have l34 : (AV.int .i64 33188 :: AV.str [97] :: ofBytes (List.replicate 32 0)).length = 34 := rfl
  have o3 : over (default : Ety).cells 0 (AV.int .i64 33188 :: AV.str [97] :: ofBytes (List.replicate 32 0)) = AV.int .i64 33188 :: AV.str [97] :: ofBytes (List.replicate 32 0) := rfl
  have o4 : over (ofBytes (List.replicate 32 0)) 0 (ofBytes d) = ofBytes d := over_ofBytes_all (by rw [hs]; rfl)
  have q4 : eqCells [0, 0, 0, 0, 0, 0, 0, 0, 0, 0, 0, 0, 0, 0, 0, 0, 0, 0, 0, 0, 0, 0, 0, 0, 0, 0, 0, 0, 0, 0, 0, 0] (ofBytes d) (ofBytes d) = some true := by rw [eqCells_32 hs hs]; simp
  rw [S_ofT fn_law07_awake rfl rfl]
  simp (dsimp := false) (disch := first | omega | (simp only [strs_length, List.length_set, List.length_replicate, words_length, ofBytes_length, List.length_append, List.length_cons, List.length_nil, List.length_take, List.length_drop, etys_length, ints64_length, treeB_length] <;> omega) | fail) only [L.law07_awake, go_sem, reduceIte, reduceCtorEq, Nat.reduceEqDiff, Nat.reduceAdd, Nat.reduceSub, Nat.reduceMul, Nat.reduceDiv, Nat.reduceMod, Nat.reduceBEq, Nat.reduceLeDiff, Nat.reduceLT, Int.reduceEq, Int.reduceNe, Int.reduceLT, Int.reduceLE, Int.reduceBEq, Int.reduceBNe, Int.reduceToNat, Int.reduceAdd, Int.reduceSub, Int.reduceMul, Int.reduceNeg, zer_bytes, app_ofBytes, ofBytes_length, flats_ofBytes, hards_ofBytes, leadss_ofBytes, refsOfs_ofBytes, rens_ofBytes, bytesOf_ofBytes, sub_ofBytes, take_ofBytes, drop_ofBytes, get_ofBytes, over_ofBytes_all, over_ofBytes, ofBytes_snoc, h1, h2, h3, ht, h9, h9', List.isEmpty_cons, List.length_replicate, s3, s10, s34, o1, o2, o3, l34, o4, q4]
end Cod

/- object.ParseTree. -/
namespace Cod
open Go

theorem scut_ex (s : List UInt8) (hs : s.length ≤ 1000000000000) : ∃ a b ok, S E F.strings_Cut [.str s, .str [32]] [] = some (.tup [.str a, .str b, .bool ok], []) ∧ a.length ≤ s.length ∧ b.length ≤ s.length ∧
    ((ok = true ∧ 32 ∈ s ∧ a = s.take (s.idxOf 32) ∧ b = s.drop (s.idxOf 32 + 1)) ∨ (ok = false ∧ 32 ∉ s)) := by
  have h := go_scut (c := 32) hs
  by_cases hc : (32 : UInt8) ∈ s
  · rw [if_pos hc] at h
    exact ⟨_, _, _, h, by rw [List.length_take]; omega, by rw [List.length_drop]; omega, .inl ⟨rfl, hc, rfl, rfl⟩⟩
  · rw [if_neg hc] at h
    exact ⟨_, _, _, h, Nat.le_refl _, by simp, .inr ⟨rfl, hc⟩⟩
/-- The entry at the front of bytes, as the program takes it. -/
def cutP (rest : List UInt8) : Option (Ety × List UInt8) :=
  if 0 ∈ rest ∧ 32 ∈ rest.take (rest.idxOf 0) ∧ (pi8 ((rest.take (rest.idxOf 0)).take ((rest.take (rest.idxOf 0)).idxOf 32))).2 = 0 ∧ 32 ≤ (rest.drop (rest.idxOf 0 + 1)).length then
    some (mkT (pi8 ((rest.take (rest.idxOf 0)).take ((rest.take (rest.idxOf 0)).idxOf 32))).1 ((rest.take (rest.idxOf 0)).drop ((rest.take (rest.idxOf 0)).idxOf 32 + 1)) ((rest.drop (rest.idxOf 0 + 1)).take 32), (rest.drop (rest.idxOf 0 + 1)).drop 32)
  else none
def ptL : Nat → List UInt8 → List Ety → Option (List Ety)
  | 0, rest, acc => if rest = [] then some acc else none
  | m + 1, rest, acc => if rest = [] then some acc else match cutP rest with | none => none | some (e, r) => if acc.length = 4096 then none else ptL m r (acc ++ [e])
theorem bld1 (m : Int) : over (default : Ety).cells 0 [AV.int .i64 m] = (Ety.mk m [] (List.replicate 32 0) (by simp)).cells := rfl
theorem bld2 (m : Int) (n : List UInt8) : over (Ety.mk m [] (List.replicate 32 0) (by simp)).cells 1 [AV.str n] = (Ety.mk m n (List.replicate 32 0) (by simp)).cells := rfl
theorem bld3 (m : Int) (n d : List UInt8) (h : d.length = 32) : over (Ety.mk m n (List.replicate 32 0) (by simp)).cells 2 (ofBytes d) = (mkT m n d).cells := by
  rw [mkT_cells h]
  show over (AV.int .i64 m :: AV.str n :: ofBytes (List.replicate 32 0)) 2 (ofBytes d) = _
  rw [over_S, over_S, over_ofBytes_all (by rw [h]; simp)]
def errTr : AV × Store := (.tup [.buf (.r 0) 0 0 0 34, .int .i64 4], [(.r 0, ⟨0, true, true, false, []⟩)])
theorem pt_step {p : List UInt8} (k : List It) {rest : List UInt8} {acc : List Ety} (hr : rest.length ≤ 1048576) (h0 : rest ≠ []) (ha : acc.length ≤ 4096) :
    X EE [.tmp 2, .tmp 3] (.c L.object_ParseTree.x0 :: .lp [0, 4, 5] L.object_ParseTree.x0 :: .blk 0 :: k) ⟨[(0, .lst (ofBytes p) p.length), (4, .buf (.s 1000000 0) 0 0 (acc).length 34), (5, .lst (ofBytes rest) (rest).length)], [(.s 1000000 0, ⟨0, true, true, false, etys acc⟩)]⟩ =
    match cutP rest with
    | none => some errTr
    | some (e, r) => if acc.length = 4096 then some errTr else X EE [.tmp 2, .tmp 3] (.c L.object_ParseTree.x0 :: .lp [0, 4, 5] L.object_ParseTree.x0 :: .blk 0 :: k) ⟨[(0, .lst (ofBytes p) p.length), (4, .buf (.s 1000000 0) 0 0 ((acc ++ [e])).length 34), (5, .lst (ofBytes r) (r).length)], [(.s 1000000 0, ⟨0, true, true, false, etys (acc ++ [e])⟩)]⟩ := by
  have hpos : 0 < rest.length := by cases rest with | nil => exact absurd rfl h0 | cons => simp
  have hc := S_ext extE (go_bcut (l := rest) rfl (by omega))
  rw [X_in L.object_ParseTree.x0.eq_1]
  unfold cutP errTr
  by_cases hz : (0 : UInt8) ∈ rest
  · rw [if_pos hz] at hc
    have hi := List.idxOf_lt_length_of_mem hz
    have hth : (rest.take (rest.idxOf 0)).length = rest.idxOf 0 := by rw [List.length_take]; omega
    have htl : (rest.drop (rest.idxOf 0 + 1)).length = rest.length - (rest.idxOf 0 + 1) := List.length_drop
    generalize rest.take (rest.idxOf 0) = head at *
    generalize rest.drop (rest.idxOf 0 + 1) = tail at *
    obtain ⟨a, b, ok, hs, hal, hbl, hsp⟩ := scut_ex head (by omega)
    have hs := S_ext extE hs
    rw [← htl, ← hth] at hc
    have hp := S_ext extE (S_pint (s := a) (by omega))
    unfold pintV at hp
    rcases hsp with ⟨rfl, h32, rfl, rfl⟩ | ⟨rfl, h32⟩
    · generalize head.take (head.idxOf 32) = a at *
      generalize head.drop (head.idxOf 32 + 1) = b at *
      by_cases he : (pi8 a).2 = 0
      · rw [if_pos he] at hp
        by_cases h5 : 32 ≤ tail.length
        · rw [if_pos ⟨hz, h32, he, h5⟩]
          generalize (pi8 a).1 = v at *
          have g1 : (tail.take 32).length = 32 := by rw [List.length_take]; omega
          have g2 := bld3 v b (tail.take 32) g1
          have g3 : sub tail 32 (tail.drop 32).length = tail.drop 32 := sub_drop (by rw [List.length_drop]; omega)
          have g6 : (acc ++ [mkT v b (tail.take 32)]).length = acc.length + 1 := by simp
          have g4 : sub tail 0 32 = tail.take 32 := by simp [sub]
          have g5 : tail.length - 32 = (tail.drop 32).length := List.length_drop.symm
          by_cases h6 : acc.length = 4096
          · simp (dsimp := false) (disch := first | omega | (simp only [strs_length, List.length_set, List.length_replicate, words_length, ofBytes_length, List.length_append, List.length_cons, List.length_nil, List.length_take, List.length_drop, etys_length, ints64_length] <;> omega) | fail) only [go_sem, reduceIte, reduceCtorEq, Nat.reduceEqDiff, Nat.reduceAdd, Nat.reduceSub, Nat.reduceMul, Nat.reduceDiv, Nat.reduceMod, Nat.reduceBEq, Nat.reduceLeDiff, Nat.reduceLT, Int.reduceEq, Int.reduceNe, Int.reduceLT, Int.reduceLE, Int.reduceBEq, Int.reduceBNe, Int.reduceToNat, Int.reduceAdd, Int.reduceSub, Int.reduceMul, Int.reduceNeg, zer_bytes, app_ofBytes, ofBytes_length, flats_ofBytes, hards_ofBytes, leadss_ofBytes, refsOfs_ofBytes, rens_ofBytes, bytesOf_ofBytes, sub_ofBytes, take_ofBytes, drop_ofBytes, get_ofBytes, over_ofBytes_all, over_ofBytes, ofBytes_snoc, hc, hs, hp, h6]
          · simp (dsimp := false) (disch := first | omega | (simp only [strs_length, List.length_set, List.length_replicate, words_length, ofBytes_length, List.length_append, List.length_cons, List.length_nil, List.length_take, List.length_drop, etys_length, ints64_length] <;> omega) | fail) only [go_sem, reduceIte, reduceCtorEq, Nat.reduceEqDiff, Nat.reduceAdd, Nat.reduceSub, Nat.reduceMul, Nat.reduceDiv, Nat.reduceMod, Nat.reduceBEq, Nat.reduceLeDiff, Nat.reduceLT, Int.reduceEq, Int.reduceNe, Int.reduceLT, Int.reduceLE, Int.reduceBEq, Int.reduceBNe, Int.reduceToNat, Int.reduceAdd, Int.reduceSub, Int.reduceMul, Int.reduceNeg, zer_bytes, app_ofBytes, ofBytes_length, flats_ofBytes, hards_ofBytes, leadss_ofBytes, refsOfs_ofBytes, rens_ofBytes, bytesOf_ofBytes, sub_ofBytes, take_ofBytes, drop_ofBytes, get_ofBytes, over_ofBytes_all, over_ofBytes, ofBytes_snoc, hc, hs, hp, h6, g1, g2, g3, g4, g5, g6, bld1, bld2, etys_snoc]
        · rw [if_neg (fun x => h5 x.2.2.2)]
          simp (dsimp := false) (disch := first | omega | (simp only [strs_length, List.length_set, List.length_replicate, words_length, ofBytes_length, List.length_append, List.length_cons, List.length_nil, List.length_take, List.length_drop, etys_length, ints64_length] <;> omega) | fail) only [go_sem, reduceIte, reduceCtorEq, Nat.reduceEqDiff, Nat.reduceAdd, Nat.reduceSub, Nat.reduceMul, Nat.reduceDiv, Nat.reduceMod, Nat.reduceBEq, Nat.reduceLeDiff, Nat.reduceLT, Int.reduceEq, Int.reduceNe, Int.reduceLT, Int.reduceLE, Int.reduceBEq, Int.reduceBNe, Int.reduceToNat, Int.reduceAdd, Int.reduceSub, Int.reduceMul, Int.reduceNeg, zer_bytes, app_ofBytes, ofBytes_length, flats_ofBytes, hards_ofBytes, leadss_ofBytes, refsOfs_ofBytes, rens_ofBytes, bytesOf_ofBytes, sub_ofBytes, take_ofBytes, drop_ofBytes, get_ofBytes, over_ofBytes_all, over_ofBytes, ofBytes_snoc, hc, hs, hp, h5]
      · rw [if_neg he] at hp
        rw [if_neg (fun x => he x.2.2.1)]
        simp (dsimp := false) (disch := first | omega | (simp only [strs_length, List.length_set, List.length_replicate, words_length, ofBytes_length, List.length_append, List.length_cons, List.length_nil, List.length_take, List.length_drop, etys_length, ints64_length] <;> omega) | fail) only [go_sem, reduceIte, reduceCtorEq, Nat.reduceEqDiff, Nat.reduceAdd, Nat.reduceSub, Nat.reduceMul, Nat.reduceDiv, Nat.reduceMod, Nat.reduceBEq, Nat.reduceLeDiff, Nat.reduceLT, Int.reduceEq, Int.reduceNe, Int.reduceLT, Int.reduceLE, Int.reduceBEq, Int.reduceBNe, Int.reduceToNat, Int.reduceAdd, Int.reduceSub, Int.reduceMul, Int.reduceNeg, zer_bytes, app_ofBytes, ofBytes_length, flats_ofBytes, hards_ofBytes, leadss_ofBytes, refsOfs_ofBytes, rens_ofBytes, bytesOf_ofBytes, sub_ofBytes, take_ofBytes, drop_ofBytes, get_ofBytes, over_ofBytes_all, over_ofBytes, ofBytes_snoc, hc, hs, hp]
    · rw [if_neg (fun x => h32 x.2.1)]
      by_cases he : (pi8 a).2 = 0
      · rw [if_pos he] at hp
        simp (dsimp := false) (disch := first | omega | (simp only [strs_length, List.length_set, List.length_replicate, words_length, ofBytes_length, List.length_append, List.length_cons, List.length_nil, List.length_take, List.length_drop, etys_length, ints64_length] <;> omega) | fail) only [go_sem, reduceIte, reduceCtorEq, Nat.reduceEqDiff, Nat.reduceAdd, Nat.reduceSub, Nat.reduceMul, Nat.reduceDiv, Nat.reduceMod, Nat.reduceBEq, Nat.reduceLeDiff, Nat.reduceLT, Int.reduceEq, Int.reduceNe, Int.reduceLT, Int.reduceLE, Int.reduceBEq, Int.reduceBNe, Int.reduceToNat, Int.reduceAdd, Int.reduceSub, Int.reduceMul, Int.reduceNeg, zer_bytes, app_ofBytes, ofBytes_length, flats_ofBytes, hards_ofBytes, leadss_ofBytes, refsOfs_ofBytes, rens_ofBytes, bytesOf_ofBytes, sub_ofBytes, take_ofBytes, drop_ofBytes, get_ofBytes, over_ofBytes_all, over_ofBytes, ofBytes_snoc, hc, hs, hp]
      · rw [if_neg he] at hp
        simp (dsimp := false) (disch := first | omega | (simp only [strs_length, List.length_set, List.length_replicate, words_length, ofBytes_length, List.length_append, List.length_cons, List.length_nil, List.length_take, List.length_drop, etys_length, ints64_length] <;> omega) | fail) only [go_sem, reduceIte, reduceCtorEq, Nat.reduceEqDiff, Nat.reduceAdd, Nat.reduceSub, Nat.reduceMul, Nat.reduceDiv, Nat.reduceMod, Nat.reduceBEq, Nat.reduceLeDiff, Nat.reduceLT, Int.reduceEq, Int.reduceNe, Int.reduceLT, Int.reduceLE, Int.reduceBEq, Int.reduceBNe, Int.reduceToNat, Int.reduceAdd, Int.reduceSub, Int.reduceMul, Int.reduceNeg, zer_bytes, app_ofBytes, ofBytes_length, flats_ofBytes, hards_ofBytes, leadss_ofBytes, refsOfs_ofBytes, rens_ofBytes, bytesOf_ofBytes, sub_ofBytes, take_ofBytes, drop_ofBytes, get_ofBytes, over_ofBytes_all, over_ofBytes, ofBytes_snoc, hc, hs, hp]
  · rw [if_neg hz] at hc
    obtain ⟨a, b, ok, hs, hal, hbl, hsp⟩ := scut_ex rest (by omega)
    have hs := S_ext extE hs
    have hp := S_ext extE (S_pint (s := a) (by omega))
    unfold pintV at hp
    rw [if_neg (fun x => hz x.1)]
    by_cases he : (pi8 a).2 = 0
    · rw [if_pos he] at hp
      simp (dsimp := false) (disch := first | omega | (simp only [strs_length, List.length_set, List.length_replicate, words_length, ofBytes_length, List.length_append, List.length_cons, List.length_nil, List.length_take, List.length_drop, etys_length, ints64_length] <;> omega) | fail) only [go_sem, reduceIte, reduceCtorEq, Nat.reduceEqDiff, Nat.reduceAdd, Nat.reduceSub, Nat.reduceMul, Nat.reduceDiv, Nat.reduceMod, Nat.reduceBEq, Nat.reduceLeDiff, Nat.reduceLT, Int.reduceEq, Int.reduceNe, Int.reduceLT, Int.reduceLE, Int.reduceBEq, Int.reduceBNe, Int.reduceToNat, Int.reduceAdd, Int.reduceSub, Int.reduceMul, Int.reduceNeg, zer_bytes, app_ofBytes, ofBytes_length, flats_ofBytes, hards_ofBytes, leadss_ofBytes, refsOfs_ofBytes, rens_ofBytes, bytesOf_ofBytes, sub_ofBytes, take_ofBytes, drop_ofBytes, get_ofBytes, over_ofBytes_all, over_ofBytes, ofBytes_snoc, hc, hs, hp]
    · rw [if_neg he] at hp
      simp (dsimp := false) (disch := first | omega | (simp only [strs_length, List.length_set, List.length_replicate, words_length, ofBytes_length, List.length_append, List.length_cons, List.length_nil, List.length_take, List.length_drop, etys_length, ints64_length] <;> omega) | fail) only [go_sem, reduceIte, reduceCtorEq, Nat.reduceEqDiff, Nat.reduceAdd, Nat.reduceSub, Nat.reduceMul, Nat.reduceDiv, Nat.reduceMod, Nat.reduceBEq, Nat.reduceLeDiff, Nat.reduceLT, Int.reduceEq, Int.reduceNe, Int.reduceLT, Int.reduceLE, Int.reduceBEq, Int.reduceBNe, Int.reduceToNat, Int.reduceAdd, Int.reduceSub, Int.reduceMul, Int.reduceNeg, zer_bytes, app_ofBytes, ofBytes_length, flats_ofBytes, hards_ofBytes, leadss_ofBytes, refsOfs_ofBytes, rens_ofBytes, bytesOf_ofBytes, sub_ofBytes, take_ofBytes, drop_ofBytes, get_ofBytes, over_ofBytes_all, over_ofBytes, ofBytes_snoc, hc, hs, hp]
theorem pr8_rng (b : Bool) (x : Lib.NumEnd Nat) : -2147483648 ≤ (pr8 b x).1 ∧ (pr8 b x).1 ≤ 2147483647 := by
  cases x with
  | «syntax» => exact ⟨by show (-2147483648 : Int) ≤ 0; omega, by show (0 : Int) ≤ 2147483647; omega⟩
  | range => cases b <;> exact ⟨by decide, by decide⟩
  | ok u =>
    cases b
    · by_cases h : 2147483648 ≤ u
      · rw [pr8, if_neg (by simp), if_pos h]; exact ⟨by decide, by decide⟩
      · rw [pr8, if_neg (by simp), if_neg h]; simp only; omega
    · by_cases h : 2147483648 < u
      · rw [pr8, if_pos rfl, if_pos h]; exact ⟨by decide, by decide⟩
      · rw [pr8, if_pos rfl, if_neg h]; simp only; omega
theorem pi8_rng (l : List UInt8) : -2147483648 ≤ (pi8 l).1 ∧ (pi8 l).1 ≤ 2147483647 := by
  cases l with
  | nil => exact ⟨by show (-2147483648 : Int) ≤ 0; omega, by show (0 : Int) ≤ 2147483647; omega⟩
  | cons c r =>
    by_cases h : c = 43
    · rw [pi8, if_pos h]; exact pr8_rng _ _
    · by_cases h' : c = 45
      · rw [pi8, if_neg h, if_pos h']; exact pr8_rng _ _
      · rw [pi8, if_neg h, if_neg h']; exact pr8_rng _ _
theorem cutP_len {rest r : List UInt8} {e : Ety} (h : cutP rest = some (e, r)) : r.length < rest.length ∧ e.name.length ≤ rest.length ∧ -2147483648 ≤ e.mode ∧ e.mode ≤ 2147483647 := by
  unfold cutP at h
  split at h
  · rename_i hc
    simp only [Option.some.injEq, Prod.mk.injEq] at h
    obtain ⟨rfl, rfl⟩ := h
    obtain ⟨h1, h2, h3, h4⟩ := hc
    have hi := List.idxOf_lt_length_of_mem h1
    have g1 : ((rest.drop (rest.idxOf 0 + 1)).take 32).length = 32 := by rw [List.length_take]; omega
    unfold mkT
    rw [dif_pos g1]
    refine ⟨by simp only [List.length_drop]; omega, by simp only [List.length_drop, List.length_take]; omega, ?_, ?_⟩
    · exact (pi8_rng _).1
    · exact (pi8_rng _).2
  · cases h
def Sm (acc : List Ety) : Prop := (∀ e ∈ acc, e.name.length ≤ 1048576 ∧ -2147483648 ≤ e.mode ∧ e.mode ≤ 2147483647) ∧ acc.length ≤ 4096
theorem sm_eat {l : List Ety} (h : Sm l) (i : Nat) : (eat l i).name.length ≤ 1048576 ∧ -2147483648 ≤ (eat l i).mode ∧ (eat l i).mode ≤ 2147483647 := by
  unfold eat
  by_cases hi : i < l.length
  · have := h.1 l[i] (List.getElem_mem hi)
    simpa [List.getD, hi] using this
  · rw [List.getD, List.getElem?_eq_none (by omega)]
    exact ⟨by decide, by decide, by decide⟩
theorem sm_tree {l : List Ety} (h : Sm l) : TreeOK l := ⟨fun i => by have := (sm_eat h i).1; omega, fun i => by have := (sm_eat h i).2; omega, by have := h.2; omega⟩
theorem pt_loop {p : List UInt8} (k : List It) : ∀ (m : Nat) (rest : List UInt8) (acc : List Ety), rest.length ≤ m → rest.length ≤ 1048576 → Sm acc → ∃ v,
    X EE [.tmp 2, .tmp 3] (.c L.object_ParseTree.x0 :: .lp [0, 4, 5] L.object_ParseTree.x0 :: .blk 0 :: k) ⟨[(0, .lst (ofBytes p) p.length), (4, .buf (.s 1000000 0) 0 0 (acc).length 34), (5, .lst (ofBytes rest) (rest).length)], [(.s 1000000 0, ⟨0, true, true, false, etys acc⟩)]⟩ =
    match ptL m rest acc with
    | none => some errTr
    | some l => X EE [.tmp 2, .tmp 3] k ⟨[(0, .lst (ofBytes p) p.length), (4, .buf (.s 1000000 0) 0 0 l.length 34), (5, .lst [] 0), (22, v)], [(.s 1000000 0, ⟨0, true, true, false, etys l⟩)]⟩ := by
  intro m
  induction m with
  | zero =>
    intro rest acc hr _ ha
    obtain rfl : rest = [] := List.eq_nil_of_length_eq_zero (by omega)
    refine ⟨.bool false, ?_⟩
    rw [X_in L.object_ParseTree.x0.eq_1, ptL, if_pos rfl]
    simp (dsimp := false) (disch := first | omega | (simp only [strs_length, List.length_set, List.length_replicate, words_length, ofBytes_length, List.length_append, List.length_cons, List.length_nil, List.length_take, List.length_drop, etys_length, ints64_length] <;> omega) | fail) only [go_sem, reduceIte, reduceCtorEq, Nat.reduceEqDiff, Nat.reduceAdd, Nat.reduceSub, Nat.reduceMul, Nat.reduceDiv, Nat.reduceMod, Nat.reduceBEq, Nat.reduceLeDiff, Nat.reduceLT, Int.reduceEq, Int.reduceNe, Int.reduceLT, Int.reduceLE, Int.reduceBEq, Int.reduceBNe, Int.reduceToNat, Int.reduceAdd, Int.reduceSub, Int.reduceMul, Int.reduceNeg, zer_bytes, app_ofBytes, ofBytes_length, flats_ofBytes, hards_ofBytes, leadss_ofBytes, refsOfs_ofBytes, rens_ofBytes, bytesOf_ofBytes, sub_ofBytes, take_ofBytes, drop_ofBytes, get_ofBytes, over_ofBytes_all, over_ofBytes, ofBytes_snoc, ofBytes_nil]
  | succ m ih =>
    intro rest acc hr hr2 ha
    by_cases h0 : rest = []
    · subst h0
      refine ⟨.bool false, ?_⟩
      rw [X_in L.object_ParseTree.x0.eq_1, ptL, if_pos rfl]
      simp (dsimp := false) (disch := first | omega | (simp only [strs_length, List.length_set, List.length_replicate, words_length, ofBytes_length, List.length_append, List.length_cons, List.length_nil, List.length_take, List.length_drop, etys_length, ints64_length] <;> omega) | fail) only [go_sem, reduceIte, reduceCtorEq, Nat.reduceEqDiff, Nat.reduceAdd, Nat.reduceSub, Nat.reduceMul, Nat.reduceDiv, Nat.reduceMod, Nat.reduceBEq, Nat.reduceLeDiff, Nat.reduceLT, Int.reduceEq, Int.reduceNe, Int.reduceLT, Int.reduceLE, Int.reduceBEq, Int.reduceBNe, Int.reduceToNat, Int.reduceAdd, Int.reduceSub, Int.reduceMul, Int.reduceNeg, zer_bytes, app_ofBytes, ofBytes_length, flats_ofBytes, hards_ofBytes, leadss_ofBytes, refsOfs_ofBytes, rens_ofBytes, bytesOf_ofBytes, sub_ofBytes, take_ofBytes, drop_ofBytes, get_ofBytes, over_ofBytes_all, over_ofBytes, ofBytes_snoc, ofBytes_nil]
    · rw [pt_step k hr2 h0 ha.2, ptL, if_neg h0]
      cases hc : cutP rest with
      | none => exact ⟨.bool false, rfl⟩
      | some x =>
        obtain ⟨e, r⟩ := x
        obtain ⟨l1, l2, l3, l4⟩ := cutP_len hc
        by_cases h6 : acc.length = 4096
        · exact ⟨.bool false, by simp only [if_pos h6]⟩
        · have hsm : Sm (acc ++ [e]) := by
            refine ⟨fun x hx => ?_, by rw [List.length_append, List.length_singleton]; have := ha.2; omega⟩
            rcases List.mem_append.1 hx with hx | hx
            · exact ha.1 x hx
            · rw [List.mem_singleton.1 hx]; exact ⟨by omega, l3, l4⟩
          obtain ⟨v, hv⟩ := ih r (acc ++ [e]) (by omega) (by omega) hsm
          exact ⟨v, by simp only [if_neg h6]; exact hv⟩
theorem ptL_sm : ∀ (m : Nat) (rest : List UInt8) (acc l : List Ety), rest.length ≤ 1048576 → Sm acc → ptL m rest acc = some l → Sm l := by
  intro m
  induction m with
  | zero =>
    intro rest acc l _ ha h
    rw [ptL] at h
    split at h
    · cases h; exact ha
    · cases h
  | succ m ih =>
    intro rest acc l hr ha h
    rw [ptL] at h
    split at h
    · cases h; exact ha
    · cases hc : cutP rest with
      | none => rw [hc] at h; cases h
      | some x =>
        obtain ⟨e, r⟩ := x
        obtain ⟨l1, l2, l3, l4⟩ := cutP_len hc
        rw [hc] at h
        simp only at h
        split at h
        · cases h
        · rename_i h6
          refine ih r _ l (by omega) ?_ h
          refine ⟨fun x hx => ?_, by rw [List.length_append, List.length_singleton]; have := ha.2; omega⟩
          rcases List.mem_append.1 hx with hx | hx
          · exact ha.1 x hx
          · rw [List.mem_singleton.1 hx]; exact ⟨by omega, l3, l4⟩
def okTr (l : List Ety) : AV × Store := (.tup [.buf (.r 0) 0 0 l.length 34, .int .i64 0], [(.r 0, ⟨0, true, true, false, etys l⟩)])
def longTr : AV × Store := (.tup [.buf (.r 0) 0 0 0 34, .int .i64 2], [(.r 0, ⟨0, true, true, false, []⟩)])
open Classical in
/-- What ParseTree answers. -/
noncomputable def parV (p : List UInt8) : AV × Store := if 1048576 < p.length then longTr else match ptL p.length p [] with | none => errTr | some l => if entE l = 0 ∧ treeB l = p then okTr l else errTr
theorem go_bequal {a b : List UInt8} {n m : Nat} (hn : n = a.length) (hm : m = b.length) : S E F.bytes_Equal [.lst (ofBytes a) n, .lst (ofBytes b) m] [] = some (.bool (a == b), []) := by
  rw [S_of fn_bytes_Equal rfl rfl]
  simp (dsimp := false) (disch := first | omega | (simp only [strs_length, List.length_set, List.length_replicate, words_length, ofBytes_length, List.length_append, List.length_cons, List.length_nil, List.length_take, List.length_drop, etys_length, ints64_length] <;> omega) | fail) only [L.bytes_Equal, go_sem, reduceIte, reduceCtorEq, Nat.reduceEqDiff, Nat.reduceAdd, Nat.reduceSub, Nat.reduceMul, Nat.reduceDiv, Nat.reduceMod, Nat.reduceBEq, Nat.reduceLeDiff, Nat.reduceLT, Int.reduceEq, Int.reduceNe, Int.reduceLT, Int.reduceLE, Int.reduceBEq, Int.reduceBNe, Int.reduceToNat, Int.reduceAdd, Int.reduceSub, Int.reduceMul, Int.reduceNeg, zer_bytes, app_ofBytes, ofBytes_length, flats_ofBytes, hards_ofBytes, leadss_ofBytes, refsOfs_ofBytes, rens_ofBytes, bytesOf_ofBytes, sub_ofBytes, take_ofBytes, drop_ofBytes, get_ofBytes, over_ofBytes_all, over_ofBytes, ofBytes_snoc]
theorem go_parseTree {p : List UInt8} {n : Nat} (hn : n = p.length) (hp : p.length ≤ 1000000000000) : S EE F.object_ParseTree [.lst (ofBytes p) n] [] = some (parV p) := by
  subst hn
  rw [S_ofT fn_object_ParseTree rfl rfl]
  unfold parV
  by_cases hl : 1048576 < p.length
  · rw [if_pos hl]
    unfold longTr
    simp (dsimp := false) (disch := first | omega | (simp only [strs_length, List.length_set, List.length_replicate, words_length, ofBytes_length, List.length_append, List.length_cons, List.length_nil, List.length_take, List.length_drop, etys_length, ints64_length] <;> omega) | fail) only [L.object_ParseTree, go_sem, reduceIte, reduceCtorEq, Nat.reduceEqDiff, Nat.reduceAdd, Nat.reduceSub, Nat.reduceMul, Nat.reduceDiv, Nat.reduceMod, Nat.reduceBEq, Nat.reduceLeDiff, Nat.reduceLT, Int.reduceEq, Int.reduceNe, Int.reduceLT, Int.reduceLE, Int.reduceBEq, Int.reduceBNe, Int.reduceToNat, Int.reduceAdd, Int.reduceSub, Int.reduceMul, Int.reduceNeg, zer_bytes, app_ofBytes, ofBytes_length, flats_ofBytes, hards_ofBytes, leadss_ofBytes, refsOfs_ofBytes, rens_ofBytes, bytesOf_ofBytes, sub_ofBytes, take_ofBytes, drop_ofBytes, get_ofBytes, over_ofBytes_all, over_ofBytes, ofBytes_snoc, hl]
  · rw [if_neg hl]
    have hsm0 : Sm [] := ⟨fun e he => by simp at he, by simp⟩
    obtain ⟨v, h⟩ := pt_loop (p := p) [.c L.object_ParseTree.r0] p.length p [] (Nat.le_refl _) (by omega) hsm0
    rw [etys_nil] at h
    simp only [List.length_nil] at h
    simp (dsimp := false) (disch := first | omega | (simp only [strs_length, List.length_set, List.length_replicate, words_length, ofBytes_length, List.length_append, List.length_cons, List.length_nil, List.length_take, List.length_drop, etys_length, ints64_length] <;> omega) | fail) only [L.object_ParseTree, go_sem, reduceIte, reduceCtorEq, Nat.reduceEqDiff, Nat.reduceAdd, Nat.reduceSub, Nat.reduceMul, Nat.reduceDiv, Nat.reduceMod, Nat.reduceBEq, Nat.reduceLeDiff, Nat.reduceLT, Int.reduceEq, Int.reduceNe, Int.reduceLT, Int.reduceLE, Int.reduceBEq, Int.reduceBNe, Int.reduceToNat, Int.reduceAdd, Int.reduceSub, Int.reduceMul, Int.reduceNeg, zer_bytes, app_ofBytes, ofBytes_length, flats_ofBytes, hards_ofBytes, leadss_ofBytes, refsOfs_ofBytes, rens_ofBytes, bytesOf_ofBytes, sub_ofBytes, take_ofBytes, drop_ofBytes, get_ofBytes, over_ofBytes_all, over_ofBytes, ofBytes_snoc, hl]
    rw [h]
    cases hq : ptL p.length p [] with
    | none => rfl
    | some l =>
      have hsm := ptL_sm _ _ _ _ (by omega) hsm0 hq
      have ht := S_putT (sm_tree hsm)
      have hll := hsm.2
      have hbe := S_ext extE (go_bequal (a := treeB l) (b := p) (n := (treeB l).length) (m := p.length) rfl rfl)
      unfold treeV at ht
      simp only
      by_cases he : entE l = 0
      · rw [if_pos he] at ht
        have hts := treeB_small he
        by_cases hb : treeB l = p
        · have hbb : (treeB l == p) = true := by simp [hb]
          rw [hbb] at hbe
          rw [if_pos ⟨he, hb⟩]
          unfold okTr
          simp (dsimp := false) (disch := first | omega | (simp only [strs_length, List.length_set, List.length_replicate, words_length, ofBytes_length, List.length_append, List.length_cons, List.length_nil, List.length_take, List.length_drop, etys_length, ints64_length] <;> omega) | fail) only [L.object_ParseTree.r0, go_sem, reduceIte, reduceCtorEq, Nat.reduceEqDiff, Nat.reduceAdd, Nat.reduceSub, Nat.reduceMul, Nat.reduceDiv, Nat.reduceMod, Nat.reduceBEq, Nat.reduceLeDiff, Nat.reduceLT, Int.reduceEq, Int.reduceNe, Int.reduceLT, Int.reduceLE, Int.reduceBEq, Int.reduceBNe, Int.reduceToNat, Int.reduceAdd, Int.reduceSub, Int.reduceMul, Int.reduceNeg, zer_bytes, app_ofBytes, ofBytes_length, flats_ofBytes, hards_ofBytes, leadss_ofBytes, refsOfs_ofBytes, rens_ofBytes, bytesOf_ofBytes, sub_ofBytes, take_ofBytes, drop_ofBytes, get_ofBytes, over_ofBytes_all, over_ofBytes, ofBytes_snoc, ht, hbe]
        · have hbb : (treeB l == p) = false := by simp [hb]
          rw [hbb] at hbe
          rw [if_neg (fun x => hb x.2)]
          unfold errTr
          simp (dsimp := false) (disch := first | omega | (simp only [strs_length, List.length_set, List.length_replicate, words_length, ofBytes_length, List.length_append, List.length_cons, List.length_nil, List.length_take, List.length_drop, etys_length, ints64_length] <;> omega) | fail) only [L.object_ParseTree.r0, go_sem, reduceIte, reduceCtorEq, Nat.reduceEqDiff, Nat.reduceAdd, Nat.reduceSub, Nat.reduceMul, Nat.reduceDiv, Nat.reduceMod, Nat.reduceBEq, Nat.reduceLeDiff, Nat.reduceLT, Int.reduceEq, Int.reduceNe, Int.reduceLT, Int.reduceLE, Int.reduceBEq, Int.reduceBNe, Int.reduceToNat, Int.reduceAdd, Int.reduceSub, Int.reduceMul, Int.reduceNeg, zer_bytes, app_ofBytes, ofBytes_length, flats_ofBytes, hards_ofBytes, leadss_ofBytes, refsOfs_ofBytes, rens_ofBytes, bytesOf_ofBytes, sub_ofBytes, take_ofBytes, drop_ofBytes, get_ofBytes, over_ofBytes_all, over_ofBytes, ofBytes_snoc, ht, hbe]
      · rw [if_neg he] at ht
        rw [if_neg (fun x => he x.1)]
        unfold errTr
        simp (dsimp := false) (disch := first | omega | (simp only [strs_length, List.length_set, List.length_replicate, words_length, ofBytes_length, List.length_append, List.length_cons, List.length_nil, List.length_take, List.length_drop, etys_length, ints64_length] <;> omega) | fail) only [L.object_ParseTree.r0, go_sem, reduceIte, reduceCtorEq, Nat.reduceEqDiff, Nat.reduceAdd, Nat.reduceSub, Nat.reduceMul, Nat.reduceDiv, Nat.reduceMod, Nat.reduceBEq, Nat.reduceLeDiff, Nat.reduceLT, Int.reduceEq, Int.reduceNe, Int.reduceLT, Int.reduceLE, Int.reduceBEq, Int.reduceBNe, Int.reduceToNat, Int.reduceAdd, Int.reduceSub, Int.reduceMul, Int.reduceNeg, zer_bytes, app_ofBytes, ofBytes_length, flats_ofBytes, hards_ofBytes, leadss_ofBytes, refsOfs_ofBytes, rens_ofBytes, bytesOf_ofBytes, sub_ofBytes, take_ofBytes, drop_ofBytes, get_ofBytes, over_ofBytes_all, over_ofBytes, ofBytes_snoc, ht, he]
end Cod

/- The reference's ParseTree and PutTree. -/
namespace Cod
open Go

theorem ocL_rng : ∀ (s : List UInt8) (k : Nat) (v : Int), 0 ≤ v → v < 8 ^ k → k + s.length ≤ 6 → -1 ≤ ocL s v ∧ ocL s v < 262144 := by
  intro s
  induction s with
  | nil =>
    intro k v h0 h1 h2
    have hpow : (8 : Int) ^ k ≤ 8 ^ 6 := by exact_mod_cast Nat.pow_le_pow_right (by omega) (by simpa using h2)
    rw [ocL]
    omega
  | cons c r ih =>
    intro k v h0 h1 h2
    rw [ocL]
    split
    · omega
    · rw [List.length_cons] at h2
      refine ih (k + 1) _ (by unfold ocS; omega) (by unfold ocS; rw [Int.pow_succ]; omega) (by omega)
theorem octF_rng (s : List UInt8) : -1 ≤ octF s ∧ octF s < 262144 := by
  unfold octF
  split
  · omega
  · split
    · omega
    · exact ocL_rng s 0 0 (by omega) (by simp) (by omega)
theorem mkT_name {v : Int} {n d : List UInt8} (h : d.length = 32) : (mkT v n d).name = n := by unfold mkT; rw [dif_pos h]
theorem mkT_mode {v : Int} {n d : List UInt8} (h : d.length = 32) : (mkT v n d).mode = v := by unfold mkT; rw [dif_pos h]
theorem nextF_len {rest r : List UInt8} {e : Ety} (h : nextF rest = some (e, r)) : r.length < rest.length ∧ e.name.length ≤ rest.length ∧ -2147483648 ≤ e.mode ∧ e.mode ≤ 2147483647 := by
  unfold nextF at h
  split at h
  · rename_i hc
    simp only [Option.some.injEq, Prod.mk.injEq] at h
    obtain ⟨rfl, rfl⟩ := h
    have g1 : ((rest.drop (nextB rest + 1)).take 32).length = 32 := by rw [List.length_take, List.length_drop]; omega
    have ho := octF_rng (rest.take (nextA rest))
    rw [mkT_name g1, mkT_mode g1]
    refine ⟨by rw [List.length_drop]; omega, by simp only [sub, List.length_take, List.length_drop]; omega, by omega, by omega⟩
  · cases h
def rpL : Nat → List UInt8 → List Ety → Option (List Ety)
  | 0, rest, acc => if rest = [] then some acc else none
  | m + 1, rest, acc => if rest = [] then some acc else match nextF rest with | none => none | some (e, r) => if acc.length = 4096 then none else rpL m r (acc ++ [e])
theorem rp_step {p : List UInt8} (k : List It) {rest : List UInt8} {acc : List Ety} (hr : rest.length ≤ 1048576) (h0 : rest ≠ []) (ha : acc.length ≤ 4096) :
    X E [.tmp 2, .tmp 3] (.c L.ref07_DocParseTree.x0 :: .lp [0, 4, 5] L.ref07_DocParseTree.x0 :: .blk 0 :: k) ⟨[(0, .lst (ofBytes p) p.length), (4, .buf (.s 1000000 0) 0 0 (acc).length 34), (5, .lst (ofBytes rest) (rest).length)], [(.s 1000000 0, ⟨0, true, true, false, etys acc⟩)]⟩ =
    match nextF rest with
    | none => some errTr
    | some (e, r) => if acc.length = 4096 then some errTr else X E [.tmp 2, .tmp 3] (.c L.ref07_DocParseTree.x0 :: .lp [0, 4, 5] L.ref07_DocParseTree.x0 :: .blk 0 :: k) ⟨[(0, .lst (ofBytes p) p.length), (4, .buf (.s 1000000 0) 0 0 ((acc ++ [e])).length 34), (5, .lst (ofBytes r) (r).length)], [(.s 1000000 0, ⟨0, true, true, false, etys (acc ++ [e])⟩)]⟩ := by
  have hpos : 0 < rest.length := by cases rest with | nil => exact absurd rfl h0 | cons => simp
  have hn := go_rnext hr
  rw [X_in L.ref07_DocParseTree.x0.eq_1]
  unfold errTr
  cases hc : nextF rest with
  | none =>
    rw [hc] at hn
    simp only at hn
    simp (dsimp := false) (disch := first | omega | (simp only [strs_length, List.length_set, List.length_replicate, words_length, ofBytes_length, List.length_append, List.length_cons, List.length_nil, List.length_take, List.length_drop, etys_length, ints64_length] <;> omega) | fail) only [go_sem, reduceIte, reduceCtorEq, Nat.reduceEqDiff, Nat.reduceAdd, Nat.reduceSub, Nat.reduceMul, Nat.reduceDiv, Nat.reduceMod, Nat.reduceBEq, Nat.reduceLeDiff, Nat.reduceLT, Int.reduceEq, Int.reduceNe, Int.reduceLT, Int.reduceLE, Int.reduceBEq, Int.reduceBNe, Int.reduceToNat, Int.reduceAdd, Int.reduceSub, Int.reduceMul, Int.reduceNeg, zer_bytes, app_ofBytes, ofBytes_length, flats_ofBytes, hards_ofBytes, leadss_ofBytes, refsOfs_ofBytes, rens_ofBytes, bytesOf_ofBytes, sub_ofBytes, take_ofBytes, drop_ofBytes, get_ofBytes, over_ofBytes_all, over_ofBytes, ofBytes_snoc, hn]
  | some x =>
    obtain ⟨e, r⟩ := x
    rw [hc] at hn
    simp only at hn
    by_cases h6 : acc.length = 4096
    · simp (dsimp := false) (disch := first | omega | (simp only [strs_length, List.length_set, List.length_replicate, words_length, ofBytes_length, List.length_append, List.length_cons, List.length_nil, List.length_take, List.length_drop, etys_length, ints64_length] <;> omega) | fail) only [go_sem, reduceIte, reduceCtorEq, Nat.reduceEqDiff, Nat.reduceAdd, Nat.reduceSub, Nat.reduceMul, Nat.reduceDiv, Nat.reduceMod, Nat.reduceBEq, Nat.reduceLeDiff, Nat.reduceLT, Int.reduceEq, Int.reduceNe, Int.reduceLT, Int.reduceLE, Int.reduceBEq, Int.reduceBNe, Int.reduceToNat, Int.reduceAdd, Int.reduceSub, Int.reduceMul, Int.reduceNeg, zer_bytes, app_ofBytes, ofBytes_length, flats_ofBytes, hards_ofBytes, leadss_ofBytes, refsOfs_ofBytes, rens_ofBytes, bytesOf_ofBytes, sub_ofBytes, take_ofBytes, drop_ofBytes, get_ofBytes, over_ofBytes_all, over_ofBytes, ofBytes_snoc, hn, h6]
    · have g6 : (acc ++ [e]).length = acc.length + 1 := by simp
      simp (dsimp := false) (disch := first | omega | (simp only [strs_length, List.length_set, List.length_replicate, words_length, ofBytes_length, List.length_append, List.length_cons, List.length_nil, List.length_take, List.length_drop, etys_length, ints64_length] <;> omega) | fail) only [go_sem, reduceIte, reduceCtorEq, Nat.reduceEqDiff, Nat.reduceAdd, Nat.reduceSub, Nat.reduceMul, Nat.reduceDiv, Nat.reduceMod, Nat.reduceBEq, Nat.reduceLeDiff, Nat.reduceLT, Int.reduceEq, Int.reduceNe, Int.reduceLT, Int.reduceLE, Int.reduceBEq, Int.reduceBNe, Int.reduceToNat, Int.reduceAdd, Int.reduceSub, Int.reduceMul, Int.reduceNeg, zer_bytes, app_ofBytes, ofBytes_length, flats_ofBytes, hards_ofBytes, leadss_ofBytes, refsOfs_ofBytes, rens_ofBytes, bytesOf_ofBytes, sub_ofBytes, take_ofBytes, drop_ofBytes, get_ofBytes, over_ofBytes_all, over_ofBytes, ofBytes_snoc, hn, h6, g6, etys_snoc]
theorem rp_loop {p : List UInt8} (k : List It) : ∀ (m : Nat) (rest : List UInt8) (acc : List Ety), rest.length ≤ m → rest.length ≤ 1048576 → Sm acc → ∃ v,
    X E [.tmp 2, .tmp 3] (.c L.ref07_DocParseTree.x0 :: .lp [0, 4, 5] L.ref07_DocParseTree.x0 :: .blk 0 :: k) ⟨[(0, .lst (ofBytes p) p.length), (4, .buf (.s 1000000 0) 0 0 (acc).length 34), (5, .lst (ofBytes rest) (rest).length)], [(.s 1000000 0, ⟨0, true, true, false, etys acc⟩)]⟩ =
    match rpL m rest acc with
    | none => some errTr
    | some l => X E [.tmp 2, .tmp 3] k ⟨[(0, .lst (ofBytes p) p.length), (4, .buf (.s 1000000 0) 0 0 l.length 34), (5, .lst [] 0), (15, v)], [(.s 1000000 0, ⟨0, true, true, false, etys l⟩)]⟩ := by
  intro m
  induction m with
  | zero =>
    intro rest acc hr _ ha
    obtain rfl : rest = [] := List.eq_nil_of_length_eq_zero (by omega)
    refine ⟨.bool false, ?_⟩
    rw [X_in L.ref07_DocParseTree.x0.eq_1, rpL, if_pos rfl]
    simp (dsimp := false) (disch := first | omega | (simp only [strs_length, List.length_set, List.length_replicate, words_length, ofBytes_length, List.length_append, List.length_cons, List.length_nil, List.length_take, List.length_drop, etys_length, ints64_length] <;> omega) | fail) only [go_sem, reduceIte, reduceCtorEq, Nat.reduceEqDiff, Nat.reduceAdd, Nat.reduceSub, Nat.reduceMul, Nat.reduceDiv, Nat.reduceMod, Nat.reduceBEq, Nat.reduceLeDiff, Nat.reduceLT, Int.reduceEq, Int.reduceNe, Int.reduceLT, Int.reduceLE, Int.reduceBEq, Int.reduceBNe, Int.reduceToNat, Int.reduceAdd, Int.reduceSub, Int.reduceMul, Int.reduceNeg, zer_bytes, app_ofBytes, ofBytes_length, flats_ofBytes, hards_ofBytes, leadss_ofBytes, refsOfs_ofBytes, rens_ofBytes, bytesOf_ofBytes, sub_ofBytes, take_ofBytes, drop_ofBytes, get_ofBytes, over_ofBytes_all, over_ofBytes, ofBytes_snoc, ofBytes_nil]
  | succ m ih =>
    intro rest acc hr hr2 ha
    by_cases h0 : rest = []
    · subst h0
      refine ⟨.bool false, ?_⟩
      rw [X_in L.ref07_DocParseTree.x0.eq_1, rpL, if_pos rfl]
      simp (dsimp := false) (disch := first | omega | (simp only [strs_length, List.length_set, List.length_replicate, words_length, ofBytes_length, List.length_append, List.length_cons, List.length_nil, List.length_take, List.length_drop, etys_length, ints64_length] <;> omega) | fail) only [go_sem, reduceIte, reduceCtorEq, Nat.reduceEqDiff, Nat.reduceAdd, Nat.reduceSub, Nat.reduceMul, Nat.reduceDiv, Nat.reduceMod, Nat.reduceBEq, Nat.reduceLeDiff, Nat.reduceLT, Int.reduceEq, Int.reduceNe, Int.reduceLT, Int.reduceLE, Int.reduceBEq, Int.reduceBNe, Int.reduceToNat, Int.reduceAdd, Int.reduceSub, Int.reduceMul, Int.reduceNeg, zer_bytes, app_ofBytes, ofBytes_length, flats_ofBytes, hards_ofBytes, leadss_ofBytes, refsOfs_ofBytes, rens_ofBytes, bytesOf_ofBytes, sub_ofBytes, take_ofBytes, drop_ofBytes, get_ofBytes, over_ofBytes_all, over_ofBytes, ofBytes_snoc, ofBytes_nil]
    · rw [rp_step k hr2 h0 ha.2, rpL, if_neg h0]
      cases hc : nextF rest with
      | none => exact ⟨.bool false, rfl⟩
      | some x =>
        obtain ⟨e, r⟩ := x
        obtain ⟨l1, l2, l3, l4⟩ := nextF_len hc
        by_cases h6 : acc.length = 4096
        · exact ⟨.bool false, by simp only [if_pos h6]⟩
        · have hsm : Sm (acc ++ [e]) := by
            refine ⟨fun x hx => ?_, by rw [List.length_append, List.length_singleton]; have := ha.2; omega⟩
            rcases List.mem_append.1 hx with hx | hx
            · exact ha.1 x hx
            · rw [List.mem_singleton.1 hx]; exact ⟨by omega, l3, l4⟩
          obtain ⟨v, hv⟩ := ih r (acc ++ [e]) (by omega) (by omega) hsm
          exact ⟨v, by simp only [if_neg h6]; exact hv⟩
theorem rpL_sm : ∀ (m : Nat) (rest : List UInt8) (acc l : List Ety), rest.length ≤ 1048576 → Sm acc → rpL m rest acc = some l → Sm l := by
  intro m
  induction m with
  | zero =>
    intro rest acc l _ ha h
    rw [rpL] at h
    split at h
    · cases h; exact ha
    · cases h
  | succ m ih =>
    intro rest acc l hr ha h
    rw [rpL] at h
    split at h
    · cases h; exact ha
    · cases hc : nextF rest with
      | none => rw [hc] at h; cases h
      | some x =>
        obtain ⟨e, r⟩ := x
        obtain ⟨l1, l2, l3, l4⟩ := nextF_len hc
        rw [hc] at h
        simp only at h
        split at h
        · cases h
        · rename_i h6
          refine ih r _ l (by omega) ?_ h
          refine ⟨fun x hx => ?_, by rw [List.length_append, List.length_singleton]; have := ha.2; omega⟩
          rcases List.mem_append.1 hx with hx | hx
          · exact ha.1 x hx
          · rw [List.mem_singleton.1 hx]; exact ⟨by omega, l3, l4⟩
open Classical in
noncomputable def rparV (p : List UInt8) : AV × Store := if 1048576 < p.length then longTr else match rpL p.length p [] with | none => errTr | some l => if entE l = 0 ∧ treeB l = p then okTr l else errTr
theorem go_rsame {a b : List UInt8} {n m : Nat} (hn : n = a.length) (hm : m = b.length) : S E F.ref01_Same [.lst (ofBytes a) n, .lst (ofBytes b) m] [] = some (.bool (a == b), []) := by
  rw [S_of fn_ref01_Same rfl rfl]
  simp (dsimp := false) (disch := first | omega | (simp only [strs_length, List.length_set, List.length_replicate, words_length, ofBytes_length, List.length_append, List.length_cons, List.length_nil, List.length_take, List.length_drop, etys_length, ints64_length] <;> omega) | fail) only [L.ref01_Same, go_sem, reduceIte, reduceCtorEq, Nat.reduceEqDiff, Nat.reduceAdd, Nat.reduceSub, Nat.reduceMul, Nat.reduceDiv, Nat.reduceMod, Nat.reduceBEq, Nat.reduceLeDiff, Nat.reduceLT, Int.reduceEq, Int.reduceNe, Int.reduceLT, Int.reduceLE, Int.reduceBEq, Int.reduceBNe, Int.reduceToNat, Int.reduceAdd, Int.reduceSub, Int.reduceMul, Int.reduceNeg, zer_bytes, app_ofBytes, ofBytes_length, flats_ofBytes, hards_ofBytes, leadss_ofBytes, refsOfs_ofBytes, rens_ofBytes, bytesOf_ofBytes, sub_ofBytes, take_ofBytes, drop_ofBytes, get_ofBytes, over_ofBytes_all, over_ofBytes, ofBytes_snoc]
theorem go_docParseTree {p : List UInt8} {n : Nat} (hn : n = p.length) (hp : p.length ≤ 1000000000000) : S E F.ref07_DocParseTree [.lst (ofBytes p) n] [] = some (rparV p) := by
  subst hn
  rw [S_of fn_ref07_DocParseTree rfl rfl]
  unfold rparV
  by_cases hl : 1048576 < p.length
  · rw [if_pos hl]
    unfold longTr
    simp (dsimp := false) (disch := first | omega | (simp only [strs_length, List.length_set, List.length_replicate, words_length, ofBytes_length, List.length_append, List.length_cons, List.length_nil, List.length_take, List.length_drop, etys_length, ints64_length] <;> omega) | fail) only [L.ref07_DocParseTree, go_sem, reduceIte, reduceCtorEq, Nat.reduceEqDiff, Nat.reduceAdd, Nat.reduceSub, Nat.reduceMul, Nat.reduceDiv, Nat.reduceMod, Nat.reduceBEq, Nat.reduceLeDiff, Nat.reduceLT, Int.reduceEq, Int.reduceNe, Int.reduceLT, Int.reduceLE, Int.reduceBEq, Int.reduceBNe, Int.reduceToNat, Int.reduceAdd, Int.reduceSub, Int.reduceMul, Int.reduceNeg, zer_bytes, app_ofBytes, ofBytes_length, flats_ofBytes, hards_ofBytes, leadss_ofBytes, refsOfs_ofBytes, rens_ofBytes, bytesOf_ofBytes, sub_ofBytes, take_ofBytes, drop_ofBytes, get_ofBytes, over_ofBytes_all, over_ofBytes, ofBytes_snoc, hl]
  · rw [if_neg hl]
    have hsm0 : Sm [] := ⟨fun e he => by simp at he, by simp⟩
    obtain ⟨v, h⟩ := rp_loop (p := p) [.c L.ref07_DocParseTree.r0] p.length p [] (Nat.le_refl _) (by omega) hsm0
    rw [etys_nil] at h
    simp only [List.length_nil] at h
    simp (dsimp := false) (disch := first | omega | (simp only [strs_length, List.length_set, List.length_replicate, words_length, ofBytes_length, List.length_append, List.length_cons, List.length_nil, List.length_take, List.length_drop, etys_length, ints64_length] <;> omega) | fail) only [L.ref07_DocParseTree, go_sem, reduceIte, reduceCtorEq, Nat.reduceEqDiff, Nat.reduceAdd, Nat.reduceSub, Nat.reduceMul, Nat.reduceDiv, Nat.reduceMod, Nat.reduceBEq, Nat.reduceLeDiff, Nat.reduceLT, Int.reduceEq, Int.reduceNe, Int.reduceLT, Int.reduceLE, Int.reduceBEq, Int.reduceBNe, Int.reduceToNat, Int.reduceAdd, Int.reduceSub, Int.reduceMul, Int.reduceNeg, zer_bytes, app_ofBytes, ofBytes_length, flats_ofBytes, hards_ofBytes, leadss_ofBytes, refsOfs_ofBytes, rens_ofBytes, bytesOf_ofBytes, sub_ofBytes, take_ofBytes, drop_ofBytes, get_ofBytes, over_ofBytes_all, over_ofBytes, ofBytes_snoc, hl]
    rw [h]
    cases hq : rpL p.length p [] with
    | none => rfl
    | some l =>
      have hsm := rpL_sm _ _ _ _ (by omega) hsm0 hq
      have hll := hsm.2
      have ht := go_rtree (B := 1048576) (fun i => (sm_eat hsm i).1) (by omega) (fun i => by have := (sm_eat hsm i).2; omega) (by omega)
      have hT := go_rTree (B := 1048576) (fun i => (sm_eat hsm i).1) (by omega) hll (fun i => by have := (sm_eat hsm i).2; omega)
      have hbe := go_rsame (a := treeB l) (b := p) (n := (treeB l).length) (m := p.length) rfl rfl
      simp only
      by_cases he : entE l = 0
      · rw [he] at ht
        have hts := treeB_small he
        by_cases hb : treeB l = p
        · have hbb : (treeB l == p) = true := by simp [hb]
          rw [hbb] at hbe
          rw [if_pos ⟨he, hb⟩]
          unfold okTr
          simp (dsimp := false) (disch := first | omega | (simp only [strs_length, List.length_set, List.length_replicate, words_length, ofBytes_length, List.length_append, List.length_cons, List.length_nil, List.length_take, List.length_drop, etys_length, ints64_length] <;> omega) | fail) only [L.ref07_DocParseTree.r0, go_sem, reduceIte, reduceCtorEq, Nat.reduceEqDiff, Nat.reduceAdd, Nat.reduceSub, Nat.reduceMul, Nat.reduceDiv, Nat.reduceMod, Nat.reduceBEq, Nat.reduceLeDiff, Nat.reduceLT, Int.reduceEq, Int.reduceNe, Int.reduceLT, Int.reduceLE, Int.reduceBEq, Int.reduceBNe, Int.reduceToNat, Int.reduceAdd, Int.reduceSub, Int.reduceMul, Int.reduceNeg, zer_bytes, app_ofBytes, ofBytes_length, flats_ofBytes, hards_ofBytes, leadss_ofBytes, refsOfs_ofBytes, rens_ofBytes, bytesOf_ofBytes, sub_ofBytes, take_ofBytes, drop_ofBytes, get_ofBytes, over_ofBytes_all, over_ofBytes, ofBytes_snoc, ht, hT, hbe]
        · have hbb : (treeB l == p) = false := by simp [hb]
          rw [hbb] at hbe
          rw [if_neg (fun x => hb x.2)]
          unfold errTr
          simp (dsimp := false) (disch := first | omega | (simp only [strs_length, List.length_set, List.length_replicate, words_length, ofBytes_length, List.length_append, List.length_cons, List.length_nil, List.length_take, List.length_drop, etys_length, ints64_length] <;> omega) | fail) only [L.ref07_DocParseTree.r0, go_sem, reduceIte, reduceCtorEq, Nat.reduceEqDiff, Nat.reduceAdd, Nat.reduceSub, Nat.reduceMul, Nat.reduceDiv, Nat.reduceMod, Nat.reduceBEq, Nat.reduceLeDiff, Nat.reduceLT, Int.reduceEq, Int.reduceNe, Int.reduceLT, Int.reduceLE, Int.reduceBEq, Int.reduceBNe, Int.reduceToNat, Int.reduceAdd, Int.reduceSub, Int.reduceMul, Int.reduceNeg, zer_bytes, app_ofBytes, ofBytes_length, flats_ofBytes, hards_ofBytes, leadss_ofBytes, refsOfs_ofBytes, rens_ofBytes, bytesOf_ofBytes, sub_ofBytes, take_ofBytes, drop_ofBytes, get_ofBytes, over_ofBytes_all, over_ofBytes, ofBytes_snoc, ht, hT, hbe]
      · rw [if_neg (fun x => he x.1)]
        unfold errTr
        simp (dsimp := false) (disch := first | omega | (simp only [strs_length, List.length_set, List.length_replicate, words_length, ofBytes_length, List.length_append, List.length_cons, List.length_nil, List.length_take, List.length_drop, etys_length, ints64_length] <;> omega) | fail) only [L.ref07_DocParseTree.r0, go_sem, reduceIte, reduceCtorEq, Nat.reduceEqDiff, Nat.reduceAdd, Nat.reduceSub, Nat.reduceMul, Nat.reduceDiv, Nat.reduceMod, Nat.reduceBEq, Nat.reduceLeDiff, Nat.reduceLT, Int.reduceEq, Int.reduceNe, Int.reduceLT, Int.reduceLE, Int.reduceBEq, Int.reduceBNe, Int.reduceToNat, Int.reduceAdd, Int.reduceSub, Int.reduceMul, Int.reduceNeg, zer_bytes, app_ofBytes, ofBytes_length, flats_ofBytes, hards_ofBytes, leadss_ofBytes, refsOfs_ofBytes, rens_ofBytes, bytesOf_ofBytes, sub_ofBytes, take_ofBytes, drop_ofBytes, get_ofBytes, over_ofBytes_all, over_ofBytes, ofBytes_snoc, ht, he]
/-- What the reference's PutTree answers. -/
def rtreeV (l : List Ety) : AV × Store := if entE l = 0 then (.tup [.buf (.r 0) 0 0 (treeB l).length 1, .int .i64 0], [(.r 0, ⟨0, true, true, false, ofBytes (treeB l)⟩)]) else (.tup [.buf (.r 0) 0 0 0 1, .int .i64 (entE l)], [(.r 0, ⟨0, true, true, false, []⟩)])
theorem go_docPutTree {l : List Ety} {B : Nat} (hb : ∀ i, (eat l i).name.length ≤ B) (hB : B ≤ 1000000000) (hm : ∀ i, -9223372036854775808 ≤ (eat l i).mode ∧ (eat l i).mode ≤ 9223372036854775807) (hl : l.length ≤ 1000000000) :
    S E F.ref07_DocPutTree [.lst (etys l) l.length] [] = some (rtreeV l) := by
  have ht := go_rtree hb hB hm hl
  rw [S_of fn_ref07_DocPutTree rfl rfl]
  unfold rtreeV
  by_cases he : entE l = 0
  · have hlen : l.length ≤ 4096 := by
      apply Classical.byContradiction
      intro h
      unfold entE at he
      rw [if_pos (by omega)] at he
      omega
    have hT := go_rTree hb hB hlen hm
    have hts := treeB_small he
    rw [if_pos he]
    simp (dsimp := false) (disch := first | omega | (simp only [strs_length, List.length_set, List.length_replicate, words_length, ofBytes_length, List.length_append, List.length_cons, List.length_nil, List.length_take, List.length_drop, etys_length, ints64_length] <;> omega) | fail) only [L.ref07_DocPutTree, go_sem, reduceIte, reduceCtorEq, Nat.reduceEqDiff, Nat.reduceAdd, Nat.reduceSub, Nat.reduceMul, Nat.reduceDiv, Nat.reduceMod, Nat.reduceBEq, Nat.reduceLeDiff, Nat.reduceLT, Int.reduceEq, Int.reduceNe, Int.reduceLT, Int.reduceLE, Int.reduceBEq, Int.reduceBNe, Int.reduceToNat, Int.reduceAdd, Int.reduceSub, Int.reduceMul, Int.reduceNeg, zer_bytes, app_ofBytes, ofBytes_length, flats_ofBytes, hards_ofBytes, leadss_ofBytes, refsOfs_ofBytes, rens_ofBytes, bytesOf_ofBytes, sub_ofBytes, take_ofBytes, drop_ofBytes, get_ofBytes, over_ofBytes_all, over_ofBytes, ofBytes_snoc, ht, he, hT]
  · rw [if_neg he]
    simp (dsimp := false) (disch := first | omega | (simp only [strs_length, List.length_set, List.length_replicate, words_length, ofBytes_length, List.length_append, List.length_cons, List.length_nil, List.length_take, List.length_drop, etys_length, ints64_length] <;> omega) | fail) only [L.ref07_DocPutTree, go_sem, reduceIte, reduceCtorEq, Nat.reduceEqDiff, Nat.reduceAdd, Nat.reduceSub, Nat.reduceMul, Nat.reduceDiv, Nat.reduceMod, Nat.reduceBEq, Nat.reduceLeDiff, Nat.reduceLT, Int.reduceEq, Int.reduceNe, Int.reduceLT, Int.reduceLE, Int.reduceBEq, Int.reduceBNe, Int.reduceToNat, Int.reduceAdd, Int.reduceSub, Int.reduceMul, Int.reduceNeg, zer_bytes, app_ofBytes, ofBytes_length, flats_ofBytes, hards_ofBytes, leadss_ofBytes, refsOfs_ofBytes, rens_ofBytes, bytesOf_ofBytes, sub_ofBytes, take_ofBytes, drop_ofBytes, get_ofBytes, over_ofBytes_all, over_ofBytes, ofBytes_snoc, ht, he]
end Cod


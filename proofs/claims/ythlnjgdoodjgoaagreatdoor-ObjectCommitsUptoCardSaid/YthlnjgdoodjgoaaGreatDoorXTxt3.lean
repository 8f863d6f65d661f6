/- Headers and ids: Header, Id, DocHeader, DocId. -/
import Derived.Lib.ItoaLen
import Derived.Test.YthlnjgdoodjgoaaGreatDoorXTxt2
import Derived.Test.YthlnjgdoodjgoaaGreatDoorXTxt1
set_option linter.unusedSimpArgs false
set_option linter.unusedVariables false
open Nat renaming reduceEqDiff → qn0, reduceAdd → qn1, reduceSub → qn2, reduceMul → qn3, reduceDiv → qn4, reduceMod → qn5, reduceBEq → qn6, reduceLeDiff → qn7, reduceLT → qn8
open Int renaming reduceEq → qi0, reduceNe → qi1, reduceLT → qi2, reduceLE → qi3, reduceBEq → qi4, reduceBNe → qi5, reduceToNat → qi6, reduceAdd → qi7, reduceSub → qi8, reduceMul → qi9, reduceNeg → qi10
namespace Cod
open Go
def wordF (k : Int) : List UInt8 := if k = 1 then [99, 111, 109, 109, 105, 116] else if k = 2 then [116, 114, 101, 101] else if k = 3 then [98, 108, 111, 98] else if k = 4 then [116, 97, 103] else []
theorem wordF_len (k : Int) : (wordF k).length ≤ 6 := by unfold wordF; split <;> (try split) <;> (try split) <;> (try split) <;> simp
theorem go_word {k : Int} : S E F.object_word [.int .i64 k] [] = some (.str (wordF k), []) := by
  rw [S_of fn_object_word rfl rfl]
  unfold wordF
  by_cases a : k = 1
  · simp (dsimp := false) (disch := first | omega | (simp only [LENs, ints64_length] <;> omega) | fail) only [L.object_word, go_sem, reduceIte, reduceCtorEq, qn0, qn1, qn2, qn3, qn4, qn5, qn6, qn7, qn8, qi0, qi1, qi2, qi3, qi4, qi5, qi6, qi7, qi8, qi9, qi10, a]
  · by_cases b : k = 2
    · simp (dsimp := false) (disch := first | omega | (simp only [LENs, ints64_length] <;> omega) | fail) only [L.object_word, go_sem, reduceIte, reduceCtorEq, qn0, qn1, qn2, qn3, qn4, qn5, qn6, qn7, qn8, qi0, qi1, qi2, qi3, qi4, qi5, qi6, qi7, qi8, qi9, qi10, a, b]
    · by_cases c : k = 3
      · simp (dsimp := false) (disch := first | omega | (simp only [LENs, ints64_length] <;> omega) | fail) only [L.object_word, go_sem, reduceIte, reduceCtorEq, qn0, qn1, qn2, qn3, qn4, qn5, qn6, qn7, qn8, qi0, qi1, qi2, qi3, qi4, qi5, qi6, qi7, qi8, qi9, qi10, a, b, c]
      · by_cases d : k = 4
        · simp (dsimp := false) (disch := first | omega | (simp only [LENs, ints64_length] <;> omega) | fail) only [L.object_word, go_sem, reduceIte, reduceCtorEq, qn0, qn1, qn2, qn3, qn4, qn5, qn6, qn7, qn8, qi0, qi1, qi2, qi3, qi4, qi5, qi6, qi7, qi8, qi9, qi10, a, b, c, d]
        · simp (dsimp := false) (disch := first | omega | (simp only [LENs, ints64_length] <;> omega) | fail) only [L.object_word, go_sem, reduceIte, reduceCtorEq, qn0, qn1, qn2, qn3, qn4, qn5, qn6, qn7, qn8, qi0, qi1, qi2, qi3, qi4, qi5, qi6, qi7, qi8, qi9, qi10, a, b, c, d]
theorem go_if {b : Bool} {e : Int} : S E F.ref07_If [.bool b, .int .i64 e] [] = some (.int .i64 (if b then e else 0), []) := by
  rw [S_of fn_ref07_If rfl rfl]
  cases b <;> simp (dsimp := false) (disch := first | omega | (simp only [LENs, ints64_length] <;> omega) | fail) only [L.ref07_If, go_sem, reduceIte, reduceCtorEq, qn0, qn1, qn2, qn3, qn4, qn5, qn6, qn7, qn8, qi0, qi1, qi2, qi3, qi4, qi5, qi6, qi7, qi8, qi9, qi10]
theorem rleast_l0 {l : List Int} (hl : l.length ≤ 1000000) : ∀ (m i : Nat) (w : Int), i + m = l.length →
    X E [.tmp 2] (.c L.ref07_Least.x0 :: .lp [3, 6, 7, 8] L.ref07_Least.x0 :: .blk 0 :: [.c L.ref07_Least.r0]) ⟨[(3, .int .i64 w), (6, .lst (ints64 l) l.length), (7, .int .i64 l.length), (8, .int .i64 i)], []⟩ = some (.int .i64 ((l.drop i).foldl lst2 w), []) := by
  intro m
  induction m with
  | zero =>
    intro i w h
    obtain rfl : i = l.length := by omega
    rw [X_in L.ref07_Least.x0.eq_1, List.drop_length]
    simp (dsimp := false) (disch := first | omega | (simp only [LENs, ints64_length] <;> omega) | fail) only [go_sem, reduceIte, reduceCtorEq, qn0, qn1, qn2, qn3, qn4, qn5, qn6, qn7, qn8, qi0, qi1, qi2, qi3, qi4, qi5, qi6, qi7, qi8, qi9, qi10, L.ref07_Least.r0, flats_i64s, refsOfs_i64s, rens_i64s]
    rfl
  | succ m ih =>
    intro i w h
    have hlt : i < l.length := by omega
    have h1 := ih (i + 1) (lst2 w (l.getD i 0)) (by omega)
    simp only [Int.natCast_add, Int.cast_ofNat_Int] at h1
    have hg := ints_get hlt
    rw [X_in L.ref07_Least.x0.eq_1, List.drop_eq_getElem_cons hlt, List.foldl_cons, show l[i] = l.getD i 0 by simp [List.getD, hlt]]
    generalize l.getD i 0 = e at *
    unfold lst2 at h1 ⊢
    by_cases e0 : e = 0
    · subst e0
      rw [if_neg (by simp)] at h1 ⊢
      simp (dsimp := false) (disch := first | omega | (simp only [LENs, ints64_length] <;> omega) | fail) only [go_sem, reduceIte, reduceCtorEq, qn0, qn1, qn2, qn3, qn4, qn5, qn6, qn7, qn8, qi0, qi1, qi2, qi3, qi4, qi5, qi6, qi7, qi8, qi9, qi10, flats_i64s, refsOfs_i64s, rens_i64s, hg, h1]
    · by_cases w0 : w = 0
      · subst w0
        rw [if_pos (by simp [e0])] at h1 ⊢
        simp (dsimp := false) (disch := first | omega | (simp only [LENs, ints64_length] <;> omega) | fail) only [go_sem, reduceIte, reduceCtorEq, qn0, qn1, qn2, qn3, qn4, qn5, qn6, qn7, qn8, qi0, qi1, qi2, qi3, qi4, qi5, qi6, qi7, qi8, qi9, qi10, flats_i64s, refsOfs_i64s, rens_i64s, hg, h1, e0]
      · by_cases lt : e < w
        · rw [if_pos (by simp [e0, lt])] at h1 ⊢
          simp (dsimp := false) (disch := first | omega | (simp only [LENs, ints64_length] <;> omega) | fail) only [go_sem, reduceIte, reduceCtorEq, qn0, qn1, qn2, qn3, qn4, qn5, qn6, qn7, qn8, qi0, qi1, qi2, qi3, qi4, qi5, qi6, qi7, qi8, qi9, qi10, flats_i64s, refsOfs_i64s, rens_i64s, hg, h1, e0, w0, lt]
        · rw [if_neg (by simp [e0, lt, w0])] at h1 ⊢
          simp (dsimp := false) (disch := first | omega | (simp only [LENs, ints64_length] <;> omega) | fail) only [go_sem, reduceIte, reduceCtorEq, qn0, qn1, qn2, qn3, qn4, qn5, qn6, qn7, qn8, qi0, qi1, qi2, qi3, qi4, qi5, qi6, qi7, qi8, qi9, qi10, flats_i64s, refsOfs_i64s, rens_i64s, hg, h1, e0, w0, lt]
theorem go_rleast {l : List Int} (hl : l.length ≤ 1000000) : S E F.ref07_Least [.lst (ints64 l) l.length] [] = some (.int .i64 (minE l), []) := by
  have h := rleast_l0 hl l.length 0 0 (by omega)
  simp only [Int.cast_ofNat_Int, List.drop_zero] at h
  rw [S_of fn_ref07_Least rfl rfl]
  simp (dsimp := false) (disch := first | omega | (simp only [LENs, ints64_length] <;> omega) | fail) only [L.ref07_Least, go_sem, reduceIte, reduceCtorEq, qn0, qn1, qn2, qn3, qn4, qn5, qn6, qn7, qn8, qi0, qi1, qi2, qi3, qi4, qi5, qi6, qi7, qi8, qi9, qi10, flats_i64s, refsOfs_i64s, rens_i64s, h]
  rfl
theorem go_least2 {a b : Int} : S E F.object_least [.lst [.int .i64 a, .int .i64 b] 2] [] = some (.int .i64 (minE [a, b]), []) := go_least (l := [a, b]) (by simp)
theorem go_rleast2 {a b : Int} : S E F.ref07_Least [.lst [.int .i64 a, .int .i64 b] 2] [] = some (.int .i64 (minE [a, b]), []) := go_rleast (l := [a, b]) (by simp)
def hdrT (k n : Int) : List UInt8 := wordF k ++ [32] ++ Lib.itoa n ++ [0]
def eSize (n : Int) : Int := if (decide (n < 0) || decide (1048576 < n)) = true then 1 else 0
def eWord (k : Int) : Int := if (wordF k == []) = true then 9 else 0
def hdrE (k n : Int) : Int := minE [eSize n, eWord k]
def hdrV (k n : Int) : AV := if hdrE k n = 0 then .tup [.str (hdrT k n), .int .i64 0] else .tup [.str [], .int .i64 (hdrE k n)]
theorem hdrT_len {k n : Int} (h1 : -9223372036854775808 ≤ n) (h2 : n ≤ 9223372036854775807) : (hdrT k n).length ≤ 40 := by
  have := Lib.itoa_length_le n h1 h2
  have := wordF_len k
  unfold hdrT
  simp only [List.length_append, List.length_cons, List.length_nil]
  omega
theorem go_header {k n : Int} (h1 : -9223372036854775808 ≤ n) (h2 : n ≤ 9223372036854775807) : S E F.object_Header [.int .i64 k, .int .i64 n] [] = some (hdrV k n, []) := by
  have hi := S_itoa (n := n) ⟨h1, h2⟩
  have hl := Lib.itoa_length_le n h1 h2
  have hw := wordF_len k
  rw [S_of fn_object_Header rfl rfl]
  unfold hdrV
  have w2 : S E F.object_when [.bool (wordF k == []), .int .i64 9] [] = some (.int .i64 (eWord k), []) := go_when
  have hd : S E F.object_least [.lst [.int .i64 (eSize n), .int .i64 (eWord k)] 2] [] = some (.int .i64 (hdrE k n), []) := go_least2
  by_cases a : n < 0
  · have w1 : S E F.object_when [.bool true, .int .i64 1] [] = some (.int .i64 (eSize n), []) := by
      rw [go_when, eSize, decide_eq_true a, Bool.true_or]
    by_cases e : hdrE k n = 0
    · simp (dsimp := false) (disch := first | omega | (simp only [LENs, ints64_length] <;> omega) | fail) only [L.object_Header, go_sem, reduceIte, reduceCtorEq, qn0, qn1, qn2, qn3, qn4, qn5, qn6, qn7, qn8, qi0, qi1, qi2, qi3, qi4, qi5, qi6, qi7, qi8, qi9, qi10, go_word, a, w1, w2, hd, e, hi]
      rfl
    · simp (dsimp := false) (disch := first | omega | (simp only [LENs, ints64_length] <;> omega) | fail) only [L.object_Header, go_sem, reduceIte, reduceCtorEq, qn0, qn1, qn2, qn3, qn4, qn5, qn6, qn7, qn8, qi0, qi1, qi2, qi3, qi4, qi5, qi6, qi7, qi8, qi9, qi10, go_word, a, w1, w2, hd, e, hi]
  · have w1 : S E F.object_when [.bool (decide (1048576 < n)), .int .i64 1] [] = some (.int .i64 (eSize n), []) := by
      rw [go_when, eSize, decide_eq_false a, Bool.false_or]
    by_cases e : hdrE k n = 0
    · simp (dsimp := false) (disch := first | omega | (simp only [LENs, ints64_length] <;> omega) | fail) only [L.object_Header, go_sem, reduceIte, reduceCtorEq, qn0, qn1, qn2, qn3, qn4, qn5, qn6, qn7, qn8, qi0, qi1, qi2, qi3, qi4, qi5, qi6, qi7, qi8, qi9, qi10, go_word, a, w1, w2, hd, e, hi]
      rfl
    · simp (dsimp := false) (disch := first | omega | (simp only [LENs, ints64_length] <;> omega) | fail) only [L.object_Header, go_sem, reduceIte, reduceCtorEq, qn0, qn1, qn2, qn3, qn4, qn5, qn6, qn7, qn8, qi0, qi1, qi2, qi3, qi4, qi5, qi6, qi7, qi8, qi9, qi10, go_word, a, w1, w2, hd, e, hi]
def objE (k : Int) (n : Nat) : Int := minE [if (decide (1048576 < n)) = true then 2 else 0, eWord k]
def eLong (n : Nat) : Int := if (decide (1048576 < (n : Int))) = true then 2 else 0
theorem objE_eq (k : Int) (n : Nat) : objE k n = minE [eLong n, eWord k] := by
  unfold objE eLong
  rw [show decide (1048576 < (n : Int)) = decide (1048576 < n) from decide_eq_decide.2 (by omega)]
theorem go_plain {k : Int} {p : List UInt8} {n : Nat} (hn : n = p.length) (hp : p.length ≤ 1000000000000) : S E F.object_plain [.agg [.int .i64 k, .lst (ofBytes p) n]] [] = some (.int .i64 (objE k p.length), []) := by
  subst hn
  have w1 : S E F.object_when [.bool (decide (1048576 < (p.length : Int))), .int .i64 2] [] = some (.int .i64 (eLong p.length), []) := go_when
  have w2 : S E F.object_when [.bool (wordF k == []), .int .i64 9] [] = some (.int .i64 (eWord k), []) := go_when
  have hd : S E F.object_least [.lst [.int .i64 (eLong p.length), .int .i64 (eWord k)] 2] [] = some (.int .i64 (objE k p.length), []) := by rw [objE_eq]; exact go_least2
  rw [S_of fn_object_plain rfl rfl]
  simp (dsimp := false) (disch := first | omega | (simp only [LENs, ints64_length] <;> omega) | fail) only [L.object_plain, go_sem, reduceIte, reduceCtorEq, qn0, qn1, qn2, qn3, qn4, qn5, qn6, qn7, qn8, qi0, qi1, qi2, qi3, qi4, qi5, qi6, qi7, qi8, qi9, qi10, BYs, go_word, w1, w2, hd]
end Cod
namespace Cod
open Go
theorem rep_bytes (n : Nat) : rep [.int .u8 0] n = ofBytes (List.replicate n 0) := by
  induction n with
  | zero => rfl
  | succ n ih => rw [rep, ih, List.replicate_succ]; rfl
theorem appV_nilsL {t : Site} {sz bytes m : Nat} {vs : List AV} {u : Ups} {ss : List Site} : appV t sz bytes m vs u ss .nils = if m * bytes ≤ 140737488355328 then mkBuf t vs m sz u else .fail := rfl
theorem appzV_intL {t : Site} {sz bytes : Nat} {zero : List AV} {s : AV} {m : Int} : appzV t sz bytes zero s (.int .i64 m) = if 0 ≤ m ∧ m ≤ 140737488355328 then appV t sz bytes m.toNat (rep zero m.toNat) [] [] s else .fail := rfl
theorem go_growB {n : Nat} (h0 : 0 < n) (hn : n ≤ 4000000) : S E F.slices_Grow_Sbyte_byte [.nils, .int .i64 n] [] =
    some (.buf (.r 0) 0 0 0 1, [(.r 0, ⟨0, true, true, false, ofBytes (List.replicate n 0)⟩)]) := by
  rw [S_of fn_slices_Grow_Sbyte_byte rfl rfl]
  simp (dsimp := false) (disch := first | omega | (simp only [LENs, ints64_length] <;> omega) | fail) only [L.slices_Grow_Sbyte_byte, go_sem, reduceIte, reduceCtorEq, qn0, qn1, qn2, qn3, qn4, qn5, qn6, qn7, qn8, qi0, qi1, qi2, qi3, qi4, qi5, qi6, qi7, qi8, qi9, qi10, BYs, Int.sub_zero, rep_bytes, appV_nilsL, appzV_intL]
theorem sub_00B (l : List UInt8) : sub l 0 0 = [] := by simp [sub]
theorem sub_fullB {l : List UInt8} {n : Nat} (h : n = l.length) : sub l 0 n = l := by simp [sub, h]
theorem go_concat2 {a b : List UInt8} (h0 : 0 < a.length) (ha : a.length ≤ 1000000) (hb : b.length ≤ 2000000) :
    S E F.slices_Concat_Sbyte_byte [.lst [.lst (ofBytes a) a.length, .lst (ofBytes b) b.length] 2] [] =
    some (.buf (.r 0) 0 0 (a ++ b).length 1, [(.r 0, ⟨0, true, true, false, ofBytes (a ++ b)⟩)]) := by
  have hg := go_growB (n := a.length + b.length) (by omega) (by omega)
  have e1 : (0 + (a.length : Int) + b.length) = ((a.length + b.length : Nat) : Int) := by omega
  rw [S_of fn_slices_Concat_Sbyte_byte rfl rfl]
  simp (dsimp := false) (disch := first | omega | (simp only [LENs, ints64_length] <;> omega) | fail) only [L.slices_Concat_Sbyte_byte, L.slices_Concat_Sbyte_byte.x0, go_sem, reduceIte, reduceCtorEq, qn0, qn1, qn2, qn3, qn4, qn5, qn6, qn7, qn8, qi0, qi1, qi2, qi3, qi4, qi5, qi6, qi7, qi8, qi9, qi10, BYs]
  rw [e1]
  simp (dsimp := false) (disch := first | omega | (simp only [LENs, ints64_length] <;> omega) | fail) only [L.slices_Concat_Sbyte_byte.r0, L.slices_Concat_Sbyte_byte.x1, L.slices_Concat_Sbyte_byte.r1, go_sem, reduceIte, reduceCtorEq, qn0, qn1, qn2, qn3, qn4, qn5, qn6, qn7, qn8, qi0, qi1, qi2, qi3, qi4, qi5, qi6, qi7, qi8, qi9, qi10, BYs, hg, appV_nilsL, appzV_intL, sub_00B, Nat.zero_mul, Nat.zero_add, sub_fullB, List.nil_append]
  rw [List.length_append]
theorem go_twin {a : List UInt8} {n : Nat} (hn : n = a.length) (h : a.length ≤ 1000000000000) : S E F.ref01_Twin [.lst (ofBytes a) n] [] = some (.buf (.r 0) 0 0 n 1, [(.r 0, ⟨0, true, true, false, ofBytes a⟩)]) := by
  rw [S_of fn_ref01_Twin rfl rfl]
  simp (dsimp := false) (disch := first | omega | (simp only [LENs, ints64_length] <;> omega) | fail) only [L.ref01_Twin, go_sem, reduceIte, reduceCtorEq, qn0, qn1, qn2, qn3, qn4, qn5, qn6, qn7, qn8, qi0, qi1, qi2, qi3, qi4, qi5, qi6, qi7, qi8, qi9, qi10, BYs]
def idF (k : Int) (p : List UInt8) : List UInt8 := if objE k p.length = 0 then shaF (hdrT k p.length ++ p) else List.replicate 32 0
def idV (k : Int) (p : List UInt8) : AV := .tup [.agg (ofBytes (idF k p)), .int .i64 (objE k p.length)]
theorem hdr_of_obj {k : Int} {n : Nat} (h : objE k n = 0) : hdrE k n = 0 ∧ n ≤ 1048576 := by
  unfold objE hdrE eSize at *
  unfold minE at *
  simp only [List.foldl_cons, List.foldl_nil, lst2] at *
  have : n ≤ 1048576 := by
    by_cases h1 : 1048576 < n
    · exfalso
      rw [decide_eq_true h1] at h
      generalize eWord k = w at h
      simp only [if_true] at h
      by_cases a : w = 0 <;> by_cases b : w < 2 <;> simp [a, b] at h
    · omega
  refine ⟨?_, this⟩
  rw [decide_eq_false (by omega : ¬ 1048576 < n)] at h
  rw [decide_eq_false (by omega : ¬ (n : Int) < 0), decide_eq_false (by omega : ¬ 1048576 < (n : Int))]
  generalize eWord k = w at h
  simpa using h
theorem hdrT_pos (k n : Int) : 0 < (hdrT k n).length := by unfold hdrT; simp only [List.length_append, List.length_cons, List.length_nil]; omega
theorem go_oid {k : Int} {p : List UInt8} {n : Nat} (hn : n = p.length) (hp : p.length ≤ 1000000000000) : S E F.object_Id [.agg [.int .i64 k, .lst (ofBytes p) n]] [] = some (idV k p, []) := by
  subst hn
  have h1 := go_plain (k := k) (p := p) rfl hp
  have h2 := go_header (k := k) (n := p.length) (by omega) (by omega)
  rw [S_of fn_object_Id rfl rfl]
  unfold idV idF
  by_cases e : objE k p.length = 0
  · obtain ⟨e1, e2⟩ := hdr_of_obj e
    unfold hdrV at h2
    rw [if_pos e1] at h2
    have hl := hdrT_len (k := k) (n := p.length) (by omega) (by omega)
    have h0 := hdrT_pos k p.length
    generalize hdrT k p.length = t at *
    have h3 := go_concat2 (a := t) (b := p) h0 (by omega) (by omega)
    have h4 := go_sum (p := t ++ p) (by rw [List.length_append]; omega)
    have hs : (shaF (t ++ p)).length = 32 := by unfold shaF; simp [idOf]
    simp (dsimp := false) (disch := first | omega | (simp only [LENs, ints64_length] <;> omega) | fail) only [L.object_Id, go_sem, reduceIte, reduceCtorEq, qn0, qn1, qn2, qn3, qn4, qn5, qn6, qn7, qn8, qi0, qi1, qi2, qi3, qi4, qi5, qi6, qi7, qi8, qi9, qi10, BYs, h1, e, h2, h3, h4]
  · simp (dsimp := false) (disch := first | omega | (simp only [LENs, ints64_length] <;> omega) | fail) only [L.object_Id, go_sem, reduceIte, reduceCtorEq, qn0, qn1, qn2, qn3, qn4, qn5, qn6, qn7, qn8, qi0, qi1, qi2, qi3, qi4, qi5, qi6, qi7, qi8, qi9, qi10, BYs, h1, e, List.length_replicate]
end Cod
namespace Cod
open Go
theorem has_l0 {s : List UInt8} (hs : s.length ≤ 1000000000000) {c : Int} (h0 : 0 ≤ c) (h1 : c < 256) (k : List It) : ∀ (m i : Nat), i + m = s.length →
    X E [.tmp 4] (.c L.ref06_Has.x0 :: .lp [0, 1, 5] L.ref06_Has.x0 :: .blk 0 :: k) ⟨[(0, .str s), (1, .int .u8 c), (5, .int .i64 i)], []⟩ =
    if (s.drop i).contains (byt c) then some (.bool true, []) else X E [.tmp 4] k ⟨[(0, .str s), (1, .int .u8 c), (5, .int .i64 s.length), (9, .bool false)], []⟩ := by
  intro m
  induction m with
  | zero =>
    intro i h
    obtain rfl : i = s.length := by omega
    rw [X_in L.ref06_Has.x0.eq_1]
    simp (dsimp := false) (disch := first | omega | (simp only [LENs] <;> omega) | fail) only [go_sem, reduceIte, reduceCtorEq, qn0, qn1, qn2, qn3, qn4, qn5, qn6, qn7, qn8, qi0, qi1, qi2, qi3, qi4, qi5, qi6, qi7, qi8, qi9, qi10, List.drop_length, List.contains_nil, Bool.false_eq_true]
  | succ m ih =>
    intro i h
    have := ih (i + 1) (by omega)
    simp only [Int.natCast_add, Int.cast_ofNat_Int] at this
    have hd : s.drop i = s.getD i 0 :: s.drop (i + 1) := by
      rw [List.getD_eq_getElem?_getD, List.getElem?_eq_getElem (by omega), Option.getD_some]
      exact List.drop_eq_getElem_cons (by omega)
    rw [X_in L.ref06_Has.x0.eq_1]
    rw [hd, List.contains_cons]
    cases hb : (s.getD i 0 == byt c) with
    | true =>
      have hb' : (byt c == s.getD i 0) = true := by rw [BEq.comm]; exact hb
      simp (dsimp := false) (disch := first | omega | (simp only [LENs] <;> omega) | fail) only [go_sem, reduceIte, reduceCtorEq, qn0, qn1, qn2, qn3, qn4, qn5, qn6, qn7, qn8, qi0, qi1, qi2, qi3, qi4, qi5, qi6, qi7, qi8, qi9, qi10, bat_beq, hb, hb', Bool.true_or]
    | false =>
      have hb' : (byt c == s.getD i 0) = false := by rw [BEq.comm]; exact hb
      simp (dsimp := false) (disch := first | omega | (simp only [LENs] <;> omega) | fail) only [go_sem, reduceIte, reduceCtorEq, qn0, qn1, qn2, qn3, qn4, qn5, qn6, qn7, qn8, qi0, qi1, qi2, qi3, qi4, qi5, qi6, qi7, qi8, qi9, qi10, bat_beq, hb, hb', Bool.false_or, this]
theorem go_rhas {s : List UInt8} (hs : s.length ≤ 1000000000000) {c : Int} (h0 : 0 ≤ c) (h1 : c < 256) : S E F.ref06_Has [.str s, .int .u8 c] [] = some (.bool (s.contains (byt c)), []) := by
  have h := fun k => has_l0 hs h0 h1 k s.length 0 (by omega)
  simp only [Int.cast_ofNat_Int, List.drop_zero] at h
  rw [S_of fn_ref06_Has rfl rfl]
  simp (dsimp := false) (disch := first | omega | (simp only [LENs] <;> omega) | fail) only [L.ref06_Has, go_sem, reduceIte, reduceCtorEq, qn0, qn1, qn2, qn3, qn4, qn5, qn6, qn7, qn8, qi0, qi1, qi2, qi3, qi4, qi5, qi6, qi7, qi8, qi9, qi10]
  rw [h]
  cases hc : s.contains (byt c) with
  | true => simp
  | false =>
    simp (dsimp := false) (disch := first | omega | (simp only [LENs] <;> omega) | fail) only [L.ref06_Has.r0, go_sem, reduceIte, reduceCtorEq, qn0, qn1, qn2, qn3, qn4, qn5, qn6, qn7, qn8, qi0, qi1, qi2, qi3, qi4, qi5, qi6, qi7, qi8, qi9, qi10, Bool.false_eq_true]
end Cod
namespace Cod
open Go
def two (n : Int) : List UInt8 := [byt (48 + n / 10), byt (48 + n % 10)]
theorem two_length (n : Int) : (two n).length = 2 := rfl
structure Idt where
  name : List UInt8
  email : List UInt8
  time : Int
  zone : Int
def Idt.cells (i : Idt) : List AV := [.str i.name, .str i.email, .int .i64 i.time, .int .i64 i.zone]
theorem idt_sub (i : Idt) : sub i.cells 0 4 = i.cells := rfl
theorem idt_flats (i : Idt) : flats i.cells = true := rfl
theorem idt_len (i : Idt) : i.cells.length = 4 := rfl
theorem idt_rens (f : Site → Nat → Option (Site × Nat)) (i : Idt) : rens f i.cells = i.cells := rens_flats _ rfl
theorem idt_refs (i : Idt) : refsOfs i.cells = [] := rfl
theorem idt_hards (i : Idt) : hards i.cells = true := rfl
theorem idt_leads (i : Idt) : leadss i.cells = false := rfl
attribute [go_sem] idt_sub idt_flats idt_len idt_rens idt_refs idt_hards idt_leads
def plainOK (s : List UInt8) : Bool := decide (s.length ≤ 100) && (!s.contains 0 && (!s.contains 10 && (!s.contains 60 && !s.contains 62)))
def identOK (i : Idt) : Bool := plainOK i.name && (plainOK i.email && (decide (0 ≤ i.time) && (decide (i.time ≤ 1099511627776) && (decide (-1439 ≤ i.zone) && decide (i.zone ≤ 1439)))))
theorem go_rplain {s : List UInt8} (hs : s.length ≤ 1000000000000) : S E F.ref06_plain [.str s] [] = some (.bool (plainOK s), []) := by
  have h0 := go_rhas hs (c := 0) (by omega) (by omega)
  have h1 := go_rhas hs (c := 10) (by omega) (by omega)
  have h2 := go_rhas hs (c := 60) (by omega) (by omega)
  have h3 := go_rhas hs (c := 62) (by omega) (by omega)
  rw [show byt 0 = 0 from rfl] at h0
  rw [show byt 10 = 10 from rfl] at h1
  rw [show byt 60 = 60 from rfl] at h2
  rw [show byt 62 = 62 from rfl] at h3
  rw [S_of fn_ref06_plain rfl rfl]
  unfold plainOK
  by_cases hl : s.length ≤ 100
  · cases c0 : s.contains 0 <;> cases c1 : s.contains 10 <;> cases c2 : s.contains 60 <;> cases c3 : s.contains 62 <;> simp (dsimp := false) (disch := first | omega | (simp only [LENs, two_length] <;> omega) | fail) only [L.ref06_plain, go_sem, reduceIte, reduceCtorEq, qn0, qn1, qn2, qn3, qn4, qn5, qn6, qn7, qn8, qi0, qi1, qi2, qi3, qi4, qi5, qi6, qi7, qi8, qi9, qi10, h0, h1, h2, h3, hl, c0, c1, c2, c3, Bool.not_true, Bool.not_false, decide_true, Bool.and_true, Bool.and_false, Bool.true_and]
  · simp (dsimp := false) (disch := first | omega | (simp only [LENs, two_length] <;> omega) | fail) only [L.ref06_plain, go_sem, reduceIte, reduceCtorEq, qn0, qn1, qn2, qn3, qn4, qn5, qn6, qn7, qn8, qi0, qi1, qi2, qi3, qi4, qi5, qi6, qi7, qi8, qi9, qi10, hl, decide_false, Bool.false_and]
theorem go_rident {i : Idt} (hn : i.name.length ≤ 1000000000000) (he : i.email.length ≤ 1000000000000) : S E F.ref06_Ident [.agg i.cells] [] = some (.bool (identOK i), []) := by
  have h0 := go_rplain hn
  have h1 := go_rplain he
  rw [S_of fn_ref06_Ident rfl rfl]
  unfold identOK
  cases c0 : plainOK i.name
  · simp (dsimp := false) (disch := first | omega | (simp only [LENs, two_length] <;> omega) | fail) only [L.ref06_Ident, go_sem, reduceIte, reduceCtorEq, qn0, qn1, qn2, qn3, qn4, qn5, qn6, qn7, qn8, qi0, qi1, qi2, qi3, qi4, qi5, qi6, qi7, qi8, qi9, qi10, Idt.cells, h0, c0, Bool.false_and]
  · cases c1 : plainOK i.email
    · simp (dsimp := false) (disch := first | omega | (simp only [LENs, two_length] <;> omega) | fail) only [L.ref06_Ident, go_sem, reduceIte, reduceCtorEq, qn0, qn1, qn2, qn3, qn4, qn5, qn6, qn7, qn8, qi0, qi1, qi2, qi3, qi4, qi5, qi6, qi7, qi8, qi9, qi10, Idt.cells, h0, c0, h1, c1, Bool.false_and, Bool.and_false]
    · by_cases t0 : 0 ≤ i.time
      · by_cases t1 : i.time ≤ 1099511627776
        · by_cases z0 : -1439 ≤ i.zone
          · by_cases z1 : i.zone ≤ 1439 <;> simp (dsimp := false) (disch := first | omega | (simp only [LENs, two_length] <;> omega) | fail) only [L.ref06_Ident, go_sem, reduceIte, reduceCtorEq, qn0, qn1, qn2, qn3, qn4, qn5, qn6, qn7, qn8, qi0, qi1, qi2, qi3, qi4, qi5, qi6, qi7, qi8, qi9, qi10, Idt.cells, h0, c0, h1, c1, t0, t1, z0, z1, decide_true, decide_false, Bool.true_and, Bool.and_true]
          · simp (dsimp := false) (disch := first | omega | (simp only [LENs, two_length] <;> omega) | fail) only [L.ref06_Ident, go_sem, reduceIte, reduceCtorEq, qn0, qn1, qn2, qn3, qn4, qn5, qn6, qn7, qn8, qi0, qi1, qi2, qi3, qi4, qi5, qi6, qi7, qi8, qi9, qi10, Idt.cells, h0, c0, h1, c1, t0, t1, z0, decide_true, decide_false, Bool.true_and, Bool.false_and]
        · simp (dsimp := false) (disch := first | omega | (simp only [LENs, two_length] <;> omega) | fail) only [L.ref06_Ident, go_sem, reduceIte, reduceCtorEq, qn0, qn1, qn2, qn3, qn4, qn5, qn6, qn7, qn8, qi0, qi1, qi2, qi3, qi4, qi5, qi6, qi7, qi8, qi9, qi10, Idt.cells, h0, c0, h1, c1, t0, t1, decide_true, decide_false, Bool.true_and, Bool.false_and]
      · simp (dsimp := false) (disch := first | omega | (simp only [LENs, two_length] <;> omega) | fail) only [L.ref06_Ident, go_sem, reduceIte, reduceCtorEq, qn0, qn1, qn2, qn3, qn4, qn5, qn6, qn7, qn8, qi0, qi1, qi2, qi3, qi4, qi5, qi6, qi7, qi8, qi9, qi10, Idt.cells, h0, c0, h1, c1, t0, decide_true, decide_false, Bool.true_and, Bool.false_and]
theorem byt_toNat {n : Int} (h0 : 0 ≤ n) (h1 : n < 256) : ((byt n).toNat : Int) = n := by
  have := int_byt h0 h1
  simp only [AV.int.injEq, true_and] at this
  exact this.symm
theorem go_two {n : Int} (h0 : 0 ≤ n) (h1 : n < 100) : S E F.ref06_two [.int .i64 n] [] = some (.str (two n), []) := by
  rw [S_of fn_ref06_two rfl rfl]
  have e1 : IntKind.u8.wrap (48 + n / 10) = ((byt (48 + n / 10)).toNat : Int) := by rw [wrap_u8, byt_toNat (by omega) (by omega)]; omega
  have e2 : IntKind.u8.wrap (48 + n % 10) = ((byt (48 + n % 10)).toNat : Int) := by rw [wrap_u8, byt_toNat (by omega) (by omega)]; omega
  simp (dsimp := false) (disch := first | omega | (simp only [LENs, two_length] <;> omega) | fail) only [L.ref06_two, go_sem, reduceIte, reduceCtorEq, qn0, qn1, qn2, qn3, qn4, qn5, qn6, qn7, qn8, qi0, qi1, qi2, qi3, qi4, qi5, qi6, qi7, qi8, qi9, qi10, tdiv_pos, tmod_pos, e1, e2, UInt8.ofNat_toNat, two]
def zoneT (z : Int) : List UInt8 := (if z < 0 then 45 else 43) :: (two ((if z < 0 then -z else z) / 60) ++ two ((if z < 0 then -z else z) % 60))
def putI (i : Idt) : List UInt8 := i.name ++ [32, 60] ++ i.email ++ [62, 32] ++ Lib.itoa i.time ++ [32] ++ zoneT i.zone
theorem identOK_iff (i : Idt) : identOK i = true ↔ plainOK i.name = true ∧ plainOK i.email = true ∧ 0 ≤ i.time ∧ i.time ≤ 1099511627776 ∧ -1439 ≤ i.zone ∧ i.zone ≤ 1439 := by
  unfold identOK; simp only [Bool.and_eq_true, decide_eq_true_eq]
theorem plain_len {s : List UInt8} (h : plainOK s = true) : s.length ≤ 100 := by
  unfold plainOK at h; simp only [Bool.and_eq_true, decide_eq_true_eq] at h; exact h.1
theorem go_rput {i : Idt} (h : identOK i = true) : S E F.ref06_Put [.agg i.cells] [] = some (.str (putI i), []) := by
  obtain ⟨_, _, t0, t1, z0, z1⟩ := (identOK_iff i).1 h
  have hi := S_itoa (n := i.time) (by omega)
  have hl := Lib.itoa_length_le i.time (by omega) (by omega)
  have hn := plain_len (by assumption : plainOK i.name = true)
  have he := plain_len (by assumption : plainOK i.email = true)
  rw [S_of fn_ref06_Put rfl rfl]
  by_cases hz : i.zone < 0
  · have h1 := go_two (n := -i.zone / 60) (by omega) (by omega)
    have h2 := go_two (n := -i.zone % 60) (by omega) (by omega)
    simp (dsimp := false) (disch := first | omega | (simp only [LENs, two_length] <;> omega) | fail) only [L.ref06_Put, go_sem, reduceIte, reduceCtorEq, qn0, qn1, qn2, qn3, qn4, qn5, qn6, qn7, qn8, qi0, qi1, qi2, qi3, qi4, qi5, qi6, qi7, qi8, qi9, qi10, Idt.cells, hi, hz, Int.zero_sub, tdiv_pos, tmod_pos, h1, h2]
    simp only [putI, zoneT, hz, if_true, List.append_assoc, List.cons_append, List.nil_append]
  · have h1 := go_two (n := i.zone / 60) (by omega) (by omega)
    have h2 := go_two (n := i.zone % 60) (by omega) (by omega)
    simp (dsimp := false) (disch := first | omega | (simp only [LENs, two_length] <;> omega) | fail) only [L.ref06_Put, go_sem, reduceIte, reduceCtorEq, qn0, qn1, qn2, qn3, qn4, qn5, qn6, qn7, qn8, qi0, qi1, qi2, qi3, qi4, qi5, qi6, qi7, qi8, qi9, qi10, Idt.cells, hi, hz, Int.zero_sub, tdiv_pos, tmod_pos, h1, h2]
    simp only [putI, zoneT, hz, if_false, List.append_assoc, List.cons_append, List.nil_append]
def putV (i : Idt) : AV := if identOK i = true then .tup [.str (putI i), .int .i64 0] else .tup [.str [], .int .i64 3]
end Cod
namespace Cod
open Go
def numL : List UInt8 → Int → Int
  | [], v => v
  | c :: r, v => if c.toNat < 48 ∨ 57 < c.toNat then -1 else numL r (10 * v + (c.toNat - 48))
def numF (s : List UInt8) : Int := if s = [] ∨ 13 < s.length then -1 else numL s 0
theorem num_l0 {s : List UInt8} (hs : s.length ≤ 13) : ∀ (m i : Nat) (v : Int), i + m = s.length → 0 ≤ v → v < 10 ^ i →
    X E [.tmp 2] (.c L.ref06_number.x0 :: .lp [0, 3, 4] L.ref06_number.x0 :: .blk 0 :: [.c L.ref06_number.r0]) ⟨[(0, .str s), (3, .int .i64 v), (4, .int .i64 i)], []⟩ = some (.int .i64 (numL (s.drop i) v), []) := by
  intro m
  induction m with
  | zero =>
    intro i v hi h0 h1
    obtain rfl : i = s.length := by omega
    rw [X_in L.ref06_number.x0.eq_1, List.drop_length, numL]
    simp (dsimp := false) (disch := first | omega | (simp only [LENs] <;> omega) | fail) only [go_sem, reduceIte, reduceCtorEq, qn0, qn1, qn2, qn3, qn4, qn5, qn6, qn7, qn8, qi0, qi1, qi2, qi3, qi4, qi5, qi6, qi7, qi8, qi9, qi10, L.ref06_number.r0]
  | succ m ih =>
    intro i v hi h0 h1
    have hp : i < s.length := by omega
    have hd : s.drop i = s.getD i 0 :: s.drop (i + 1) := by
      rw [List.drop_eq_getElem_cons hp]; simp [hp]
    rw [X_in L.ref06_number.x0.eq_1, hd, numL]
    have hb := bat_range s i
    have he : bat s i = ((s.getD i 0).toNat : Int) := rfl
    have hpow : (10 : Int) ^ i ≤ 10 ^ 12 := by
      have : i ≤ 12 := by omega
      exact_mod_cast Nat.pow_le_pow_right (by omega) this
    by_cases hc : (s.getD i 0).toNat < 48 ∨ 57 < (s.getD i 0).toNat
    · rw [if_pos hc]
      by_cases hc1 : bat s i < 48
      · simp (dsimp := false) (disch := first | omega | (simp only [LENs] <;> omega) | fail) only [go_sem, reduceIte, reduceCtorEq, qn0, qn1, qn2, qn3, qn4, qn5, qn6, qn7, qn8, qi0, qi1, qi2, qi3, qi4, qi5, qi6, qi7, qi8, qi9, qi10, hp, hc1]
      · have hc2 : 57 < bat s i := by rw [he] at hc1 ⊢; omega
        simp (dsimp := false) (disch := first | omega | (simp only [LENs] <;> omega) | fail) only [go_sem, reduceIte, reduceCtorEq, qn0, qn1, qn2, qn3, qn4, qn5, qn6, qn7, qn8, qi0, qi1, qi2, qi3, qi4, qi5, qi6, qi7, qi8, qi9, qi10, hp, hc1, hc2]
    · rw [if_neg hc]
      have hc1 : ¬ bat s i < 48 := by rw [he]; omega
      have hc2 : ¬ 57 < bat s i := by rw [he]; omega
      rw [← ih (i + 1) (10 * v + ((s.getD i 0).toNat - 48)) (by omega) (by omega) (by rw [Int.pow_succ]; omega)]
      have hw : IntKind.u8.wrap (bat s i - 48) = bat s i - 48 := by rw [wrap_u8]; omega
      simp (dsimp := false) (disch := first | omega | (simp only [LENs] <;> omega) | fail) only [go_sem, reduceIte, reduceCtorEq, qn0, qn1, qn2, qn3, qn4, qn5, qn6, qn7, qn8, qi0, qi1, qi2, qi3, qi4, qi5, qi6, qi7, qi8, qi9, qi10, hp, hc1, hc2, hw]
      rw [he, Int.natCast_add]; rfl
theorem go_number {s : List UInt8} : S E F.ref06_number [.str s] [] = some (.int .i64 (numF s), []) := by
  rw [S_of fn_ref06_number rfl rfl]
  unfold numF
  by_cases h0 : s = []
  · subst h0
    simp (dsimp := false) (disch := first | omega | (simp only [LENs] <;> omega) | fail) only [L.ref06_number, go_sem, reduceIte, reduceCtorEq, qn0, qn1, qn2, qn3, qn4, qn5, qn6, qn7, qn8, qi0, qi1, qi2, qi3, qi4, qi5, qi6, qi7, qi8, qi9, qi10, true_or, if_true]
  · have he : (s == []) = false := by simp [h0]
    by_cases h1 : 13 < s.length
    · rw [if_pos (.inr h1)]
      simp (dsimp := false) (disch := first | omega | (simp only [LENs] <;> omega) | fail) only [L.ref06_number, go_sem, reduceIte, reduceCtorEq, qn0, qn1, qn2, qn3, qn4, qn5, qn6, qn7, qn8, qi0, qi1, qi2, qi3, qi4, qi5, qi6, qi7, qi8, qi9, qi10, he, h1]
    · rw [if_neg (by simp [h0, h1])]
      have h2 := num_l0 (s := s) (by omega) s.length 0 0 (by omega) (by omega) (by simp)
      simp only [Int.cast_ofNat_Int, List.drop_zero] at h2
      simp (dsimp := false) (disch := first | omega | (simp only [LENs] <;> omega) | fail) only [L.ref06_number, go_sem, reduceIte, reduceCtorEq, qn0, qn1, qn2, qn3, qn4, qn5, qn6, qn7, qn8, qi0, qi1, qi2, qi3, qi4, qi5, qi6, qi7, qi8, qi9, qi10, he, h1, h2]
end Cod
namespace Cod
open Go
def endsB (s t : List UInt8) : Bool := decide (t.length ≤ s.length) && (s.drop (s.length - t.length) == t)
theorem go_suffix {s t : List UInt8} (hs : s.length ≤ 1000000000000) (ht : t.length ≤ 1000000000000) : S E F.strings_HasSuffix [.str s, .str t] [] = some (.bool (endsB s t), []) := by
  have h0 : S E F.stringslite_HasSuffix [.str s, .str t] [] = some (.bool (endsB s t), []) := by
    rw [S_of fn_stringslite_HasSuffix rfl rfl]
    unfold endsB
    by_cases h : t.length ≤ s.length
    · have e1 : sub s (((s.length : Int) - t.length).toNat) (s.length - ((s.length : Int) - t.length).toNat) = s.drop (s.length - t.length) := by
        rw [show ((s.length : Int) - t.length).toNat = s.length - t.length by omega]
        unfold sub; exact List.take_of_length_le (by rw [List.length_drop]; exact Nat.le_refl _)
      simp (dsimp := false) (disch := first | omega | (simp only [LENs] <;> omega) | fail) only [L.stringslite_HasSuffix, go_sem, reduceIte, reduceCtorEq, qn0, qn1, qn2, qn3, qn4, qn5, qn6, qn7, qn8, qi0, qi1, qi2, qi3, qi4, qi5, qi6, qi7, qi8, qi9, qi10, h, decide_true, Bool.true_and]
      rw [e1]
    · simp (dsimp := false) (disch := first | omega | (simp only [LENs] <;> omega) | fail) only [L.stringslite_HasSuffix, go_sem, reduceIte, reduceCtorEq, qn0, qn1, qn2, qn3, qn4, qn5, qn6, qn7, qn8, qi0, qi1, qi2, qi3, qi4, qi5, qi6, qi7, qi8, qi9, qi10, h, decide_false, Bool.false_and]
  rw [S_of fn_strings_HasSuffix rfl rfl]
  simp (dsimp := false) (disch := first | omega | (simp only [LENs] <;> omega) | fail) only [L.strings_HasSuffix, go_sem, reduceIte, reduceCtorEq, qn0, qn1, qn2, qn3, qn4, qn5, qn6, qn7, qn8, qi0, qi1, qi2, qi3, qi4, qi5, qi6, qi7, qi8, qi9, qi10, h0]
def lastB (s : List UInt8) (c : UInt8) : Nat → Int
  | 0 => -1
  | n + 1 => if s.getD n 0 = c then (n : Int) else lastB s c n
theorem last_l0 {s : List UInt8} {c : UInt8} (hs : s.length ≤ 1000000000000) : ∀ n : Nat, n ≤ s.length →
    X E [.tmp 4] (.c L.bytealg_LastIndexByteString.x0 :: .lp [0, 1, 5] L.bytealg_LastIndexByteString.x0 :: .blk 0 :: [.c L.bytealg_LastIndexByteString.r0]) ⟨[(0, .str s), (1, .int .u8 c.toNat), (5, .int .i64 ((n : Int) - 1))], []⟩ = some (.int .i64 (lastB s c n), []) := by
  intro n
  induction n with
  | zero =>
    intro h
    rw [X_in L.bytealg_LastIndexByteString.x0.eq_1, lastB]
    simp (dsimp := false) (disch := first | omega | (simp only [LENs] <;> omega) | fail) only [go_sem, reduceIte, reduceCtorEq, qn0, qn1, qn2, qn3, qn4, qn5, qn6, qn7, qn8, qi0, qi1, qi2, qi3, qi4, qi5, qi6, qi7, qi8, qi9, qi10, L.bytealg_LastIndexByteString.r0]
  | succ n ih =>
    intro h
    have h1 := ih (by omega)
    rw [X_in L.bytealg_LastIndexByteString.x0.eq_1, lastB]
    have e : ((n + 1 : Nat) : Int) - 1 = n := by omega
    rw [e]
    by_cases hc : s.getD n 0 = c
    · have hb : (bat s n == (c.toNat : Int)) = true := by rw [← hc]; exact beq_t rfl
      rw [if_pos hc]
      simp (dsimp := false) (disch := first | omega | (simp only [LENs] <;> omega) | fail) only [go_sem, reduceIte, reduceCtorEq, qn0, qn1, qn2, qn3, qn4, qn5, qn6, qn7, qn8, qi0, qi1, qi2, qi3, qi4, qi5, qi6, qi7, qi8, qi9, qi10, hb]
    · have hb : (bat s n == (c.toNat : Int)) = false := beq_f (fun h => hc (UInt8.toNat_inj.1 (by unfold bat at h; omega)))
      rw [if_neg hc, ← h1]
      simp (dsimp := false) (disch := first | omega | (simp only [LENs] <;> omega) | fail) only [go_sem, reduceIte, reduceCtorEq, qn0, qn1, qn2, qn3, qn4, qn5, qn6, qn7, qn8, qi0, qi1, qi2, qi3, qi4, qi5, qi6, qi7, qi8, qi9, qi10, hb]
theorem go_lastB {s : List UInt8} {c : UInt8} (hs : s.length ≤ 1000000000000) : S E F.strings_LastIndexByte [.str s, .int .u8 c.toNat] [] = some (.int .i64 (lastB s c s.length), []) := by
  have h0 : S E F.bytealg_LastIndexByteString [.str s, .int .u8 c.toNat] [] = some (.int .i64 (lastB s c s.length), []) := by
    rw [S_of fn_bytealg_LastIndexByteString rfl rfl]
    simp (dsimp := false) (disch := first | omega | (simp only [LENs] <;> omega) | fail) only [L.bytealg_LastIndexByteString, go_sem, reduceIte, reduceCtorEq, qn0, qn1, qn2, qn3, qn4, qn5, qn6, qn7, qn8, qi0, qi1, qi2, qi3, qi4, qi5, qi6, qi7, qi8, qi9, qi10, last_l0 hs s.length (Nat.le_refl _)]
  rw [S_of fn_strings_LastIndexByte rfl rfl]
  simp (dsimp := false) (disch := first | omega | (simp only [LENs] <;> omega) | fail) only [L.strings_LastIndexByte, go_sem, reduceIte, reduceCtorEq, qn0, qn1, qn2, qn3, qn4, qn5, qn6, qn7, qn8, qi0, qi1, qi2, qi3, qi4, qi5, qi6, qi7, qi8, qi9, qi10, h0]
end Cod
namespace Cod
open Go
theorem lastB_range (s : List UInt8) (c : UInt8) : ∀ n, lastB s c n = -1 ∨ ∃ i : Nat, lastB s c n = i ∧ i < n ∧ s.getD i 0 = c := by
  intro n
  induction n with
  | zero => left; rfl
  | succ n ih =>
    unfold lastB
    split
    · rename_i h
      right; exact ⟨n, rfl, by omega, h⟩
    · rcases ih with ih | ⟨i, h1, h2, h3⟩
      · left; exact ih
      · right; exact ⟨i, h1, by omega, h3⟩
theorem tn1 (i : Nat) : ((i : Int) + 1).toNat = i + 1 := by omega
theorem tn2 (i : Nat) : ((i : Int) + 2).toNat = i + 2 := by omega
theorem go_lastB' {s : List UInt8} (hs : s.length ≤ 1000000000000) : S E F.strings_LastIndexByte [.str s, .int .u8 32] [] = some (.int .i64 (lastB s 32 s.length), []) := go_lastB (c := 32) hs
theorem cut_a {s : List UInt8} (hs : s.length ≤ 1000000000000) (h : lastB s 32 s.length = -1) : S E F.names_cut [.str s] [] = some (.tup [.agg [.str [], .str [], .str [], .str []], .bool false], []) := by
  have hl := go_lastB' hs
  have hk := S_last (s := s) (t := [32, 60]) (by omega)
  rw [h] at hl
  rw [S_of fn_names_cut rfl rfl]
  simp (dsimp := false) (disch := first | omega | (simp only [LENs] <;> omega) | fail) only [L.names_cut, L.names_cut.x0, go_sem, reduceIte, reduceCtorEq, qn0, qn1, qn2, qn3, qn4, qn5, qn6, qn7, qn8, qi0, qi1, qi2, qi3, qi4, qi5, qi6, qi7, qi8, qi9, qi10, tn1, tn2, Nat.sub_zero, hl, hk]
  simp (dsimp := false) (disch := first | omega | (simp only [LENs] <;> omega) | fail) only [L.names_cut.r0, go_sem, reduceIte, reduceCtorEq, qn0, qn1, qn2, qn3, qn4, qn5, qn6, qn7, qn8, qi0, qi1, qi2, qi3, qi4, qi5, qi6, qi7, qi8, qi9, qi10]
theorem cut_b {s z r : List UInt8} {i : Nat} (hs : s.length ≤ 1000000000000) (h : lastB s 32 s.length = i) (hi : i < s.length) (hr : sub s 0 i = r) (hz : sub s (i + 1) (s.length - (i + 1)) = z) (h1 : lastB r 32 r.length = -1) : S E F.names_cut [.str s] [] = some (.tup [.agg [.str [], .str [], .str [], .str z], .bool false], []) := by
  have hl := go_lastB' hs
  have hrl : r.length ≤ 1000000000000 := by rw [← hr]; unfold sub; rw [List.length_take, List.length_drop]; omega
  have hl1 := go_lastB' hrl
  have hk := S_last (s := r) (t := [32, 60]) (by omega)
  rw [h] at hl
  rw [h1] at hl1
  rw [S_of fn_names_cut rfl rfl]
  simp (dsimp := false) (disch := first | omega | (simp only [LENs] <;> omega) | fail) only [L.names_cut, L.names_cut.x0, go_sem, reduceIte, reduceCtorEq, qn0, qn1, qn2, qn3, qn4, qn5, qn6, qn7, qn8, qi0, qi1, qi2, qi3, qi4, qi5, qi6, qi7, qi8, qi9, qi10, tn1, tn2, Nat.sub_zero, hl, hl1, hk, hr, hz]
  simp (dsimp := false) (disch := first | omega | (simp only [LENs] <;> omega) | fail) only [L.names_cut.r0, go_sem, reduceIte, reduceCtorEq, qn0, qn1, qn2, qn3, qn4, qn5, qn6, qn7, qn8, qi0, qi1, qi2, qi3, qi4, qi5, qi6, qi7, qi8, qi9, qi10]
set_option maxRecDepth 4000 in
theorem cut_c {s z r t q : List UInt8} {i j : Nat} (hs : s.length ≤ 1000000000000) (h : lastB s 32 s.length = i) (hi : i < s.length) (hr : sub s 0 i = r) (hz : sub s (i + 1) (s.length - (i + 1)) = z) (h1 : lastB r 32 r.length = j) (hj : j < r.length) (hq : sub r 0 j = q) (ht : sub r (j + 1) (r.length - (j + 1)) = t)
    (h2 : Lib.lastIndex q [32, 60] < 0 ∨ endsB q [62] = false) : S E F.names_cut [.str s] [] = some (.tup [.agg [.str [], .str [], .str t, .str z], .bool false], []) := by
  have hl := go_lastB' hs
  have hrl : r.length ≤ 1000000000000 := by rw [← hr]; unfold sub; rw [List.length_take, List.length_drop]; omega
  have hql : q.length ≤ 1000000000000 := by rw [← hq]; unfold sub; rw [List.length_take, List.length_drop]; omega
  have hl1 := go_lastB' hrl
  have hk := S_last (s := q) (t := [32, 60]) (by omega)
  have hf := go_suffix (s := q) (t := [62]) hql (by decide)
  rw [h] at hl
  rw [h1] at hl1
  rw [S_of fn_names_cut rfl rfl]
  by_cases h3 : Lib.lastIndex q [32, 60] < 0
  · simp (dsimp := false) (disch := first | omega | (simp only [LENs] <;> omega) | fail) only [L.names_cut, L.names_cut.x0, go_sem, reduceIte, reduceCtorEq, qn0, qn1, qn2, qn3, qn4, qn5, qn6, qn7, qn8, qi0, qi1, qi2, qi3, qi4, qi5, qi6, qi7, qi8, qi9, qi10, tn1, tn2, Nat.sub_zero, hl, hl1, hk, hr, hz, hq, ht, h3]
    simp (dsimp := false) (disch := first | omega | (simp only [LENs] <;> omega) | fail) only [L.names_cut.r0, go_sem, reduceIte, reduceCtorEq, qn0, qn1, qn2, qn3, qn4, qn5, qn6, qn7, qn8, qi0, qi1, qi2, qi3, qi4, qi5, qi6, qi7, qi8, qi9, qi10]
  · have h4 : endsB q [62] = false := by rcases h2 with h2 | h2; exact absurd h2 h3; exact h2
    rw [h4] at hf
    simp (dsimp := false) (disch := first | omega | (simp only [LENs] <;> omega) | fail) only [L.names_cut, L.names_cut.x0, go_sem, reduceIte, reduceCtorEq, qn0, qn1, qn2, qn3, qn4, qn5, qn6, qn7, qn8, qi0, qi1, qi2, qi3, qi4, qi5, qi6, qi7, qi8, qi9, qi10, tn1, tn2, Nat.sub_zero, hl, hl1, hk, hf, hr, hz, hq, ht, h3]
    simp (dsimp := false) (disch := first | omega | (simp only [LENs] <;> omega) | fail) only [L.names_cut.r0, go_sem, reduceIte, reduceCtorEq, qn0, qn1, qn2, qn3, qn4, qn5, qn6, qn7, qn8, qi0, qi1, qi2, qi3, qi4, qi5, qi6, qi7, qi8, qi9, qi10]
set_option maxRecDepth 4000 in
theorem cut_d {s z r t q : List UInt8} {i j k : Nat} (hs : s.length ≤ 1000000000000) (h : lastB s 32 s.length = i) (hi : i < s.length) (hr : sub s 0 i = r) (hz : sub s (i + 1) (s.length - (i + 1)) = z) (h1 : lastB r 32 r.length = j) (hj : j < r.length) (hq : sub r 0 j = q) (ht : sub r (j + 1) (r.length - (j + 1)) = t)
    (h2 : Lib.lastIndex q [32, 60] = k) (hk2 : k + 2 < q.length) (h4 : endsB q [62] = true) : S E F.names_cut [.str s] [] = some (.tup [.agg [.str (sub q 0 k), .str (sub q (k + 2) (q.length - 1 - (k + 2))), .str t, .str z], .bool true], []) := by
  have hl := go_lastB' hs
  have hrl : r.length ≤ 1000000000000 := by rw [← hr]; unfold sub; rw [List.length_take, List.length_drop]; omega
  have hql : q.length ≤ 1000000000000 := by rw [← hq]; unfold sub; rw [List.length_take, List.length_drop]; omega
  have hl1 := go_lastB' hrl
  have hk := S_last (s := q) (t := [32, 60]) (by omega)
  have hf := go_suffix (s := q) (t := [62]) hql (by decide)
  rw [h] at hl
  rw [h1] at hl1
  rw [h4] at hf
  rw [h2] at hk
  rw [S_of fn_names_cut rfl rfl]
  have e : ((q.length : Int) - 1).toNat = q.length - 1 := by omega
  simp (dsimp := false) (disch := first | omega | (simp only [LENs] <;> omega) | fail) only [L.names_cut, L.names_cut.x0, go_sem, reduceIte, reduceCtorEq, qn0, qn1, qn2, qn3, qn4, qn5, qn6, qn7, qn8, qi0, qi1, qi2, qi3, qi4, qi5, qi6, qi7, qi8, qi9, qi10, tn1, tn2, Nat.sub_zero, hl, hl1, hk, hf, hr, hz, hq, ht, e]
  simp (dsimp := false) (disch := first | omega | (simp only [LENs] <;> omega) | fail) only [L.names_cut.r0, go_sem, reduceIte, reduceCtorEq, qn0, qn1, qn2, qn3, qn4, qn5, qn6, qn7, qn8, qi0, qi1, qi2, qi3, qi4, qi5, qi6, qi7, qi8, qi9, qi10]
end Cod
namespace Cod
open Go
def isDig (c : UInt8) : Prop := 48 ≤ c.toNat ∧ c.toNat ≤ 57
def dstep (acc : Nat) (c : UInt8) : Nat := acc * 10 + (c.toNat - 48)
def dv (acc : Nat) (l : List UInt8) : Nat := l.foldl dstep acc
theorem dv_nil (acc : Nat) : dv acc [] = acc := by unfold dv; rw [List.foldl_nil]
theorem dv_cons (acc : Nat) (c : UInt8) (r : List UInt8) : dv acc (c :: r) = dv (acc * 10 + (c.toNat - 48)) r := by unfold dv; rw [List.foldl_cons, dstep]
theorem dv_snoc (c : UInt8) : ∀ (l : List UInt8) (acc : Nat), dv acc (l ++ [c]) = dv acc l * 10 + (c.toNat - 48) := by
  intro l
  induction l with
  | nil => intro acc; rw [List.nil_append, dv_cons, dv_nil, dv_nil]
  | cons a l ih => intro acc; rw [List.cons_append, dv_cons, dv_cons, ih]
theorem dv_ge (l : List UInt8) : ∀ acc, acc ≤ dv acc l := by
  induction l with
  | nil => intro acc; exact Nat.le_refl _
  | cons a l ih => intro acc; have := ih (acc * 10 + (a.toNat - 48)); rw [dv_cons]; omega
theorem dec_isDig (n : Nat) (h : n < 10) : isDig (UInt8.ofNat (48 + n)) ∧ (UInt8.ofNat (48 + n)).toNat - 48 = n := by
  have : (UInt8.ofNat (48 + n)).toNat = 48 + n := by simp; omega
  unfold isDig
  omega
theorem decDigits_dig : ∀ (k u : Nat), u < k → (∀ c ∈ Lib.decDigits u, isDig c) ∧ dv 0 (Lib.decDigits u) = u ∧ Lib.decDigits u ≠ [] := by
  intro k
  induction k with
  | zero => intro u h; omega
  | succ k ih =>
    intro u h
    rw [Lib.decDigits]
    split
    · rename_i h0
      obtain ⟨h1, h2⟩ := dec_isDig u h0
      refine ⟨?_, ?_, by simp⟩
      · intro c hc; rw [List.mem_singleton.1 hc]; exact h1
      · simp only [dv_nil, dv_cons, h2]; omega
    · rename_i h0
      obtain ⟨h1, h2⟩ := dec_isDig (u % 10) (by omega)
      obtain ⟨i1, i2, i3⟩ := ih (u / 10) (by omega)
      refine ⟨?_, ?_, by simp⟩
      · intro c hc
        rcases List.mem_append.1 hc with hc | hc
        · exact i1 c hc
        · rw [List.mem_singleton.1 hc]; exact h1
      · rw [dv_snoc, i2, h2]; omega
theorem parse_dig : ∀ (l : List UInt8) (acc : Nat), (∀ c ∈ l, isDig c) → dv acc l < 1000000000000000000 → Lib.parseUint10 acc l = .ok (dv acc l) := by
  intro l
  induction l with
  | nil => intro acc _ _; rfl
  | cons c r ih =>
    intro acc hd hl
    have hc := hd c List.mem_cons_self
    simp only [dv_nil, dv_cons] at hl ⊢
    have hg := dv_ge r (acc * 10 + (c.toNat - 48))
    unfold Lib.parseUint10
    rw [if_pos (show 48 ≤ c.toNat ∧ c.toNat ≤ 57 from hc), if_neg (by omega), if_neg (by omega)]
    exact ih _ (fun c hc => hd c (List.mem_cons_of_mem _ hc)) hl
theorem atoi_dig {l : List UInt8} (h0 : l ≠ []) (hd : ∀ c ∈ l, isDig c) (hl : dv 0 l < 1000000000000000000) : Lib.atoiAll l = .ok (dv 0 l) := by
  cases l with
  | nil => exact absurd rfl h0
  | cons c r =>
    have hc := hd c List.mem_cons_self
    unfold isDig at hc
    unfold Lib.atoiAll
    have e : ¬ (c.toNat = 43 ∨ c.toNat = 45) := by omega
    have e2 : ¬ c.toNat = 45 := by omega
    have hp : Lib.parseMag (c :: r) = .ok (dv 0 (c :: r)) := by unfold Lib.parseMag; rw [if_neg h0, parse_dig (c :: r) 0 hd hl]
    generalize dv 0 (c :: r) = d at *
    simp only [if_neg e, hp, if_neg e2]
    rw [if_neg (fun h => by omega), if_neg (fun h => e2 h.1)]
theorem num_dig : ∀ (l : List UInt8) (acc : Nat), (∀ c ∈ l, isDig c) → numL l acc = dv acc l := by
  intro l
  induction l with
  | nil => intro acc _; rfl
  | cons c r ih =>
    intro acc hd
    have hc := hd c List.mem_cons_self
    unfold isDig at hc
    have e : ((acc * 10 + (c.toNat - 48) : Nat) : Int) = 10 * (acc : Int) + ((c.toNat : Int) - 48) := by omega
    simp only [numL, dv_cons]
    rw [if_neg (by omega), ← ih _ (fun c hc => hd c (List.mem_cons_of_mem _ hc)), e]
theorem numF_dig {l : List UInt8} (h0 : l ≠ []) (h1 : l.length ≤ 13) (hd : ∀ c ∈ l, isDig c) : numF l = dv 0 l := by
  unfold numF
  rw [if_neg (by simp [h0]; omega)]
  exact num_dig l 0 hd
theorem byt_dig (n : Int) (h0 : 0 ≤ n) (h1 : n < 10) : isDig (byt (48 + n)) ∧ (((byt (48 + n)).toNat - 48 : Nat) : Int) = n := by
  have := byt_toNat (n := 48 + n) (by omega) (by omega)
  unfold isDig
  omega
theorem zone4 {a b : Int} (ha0 : 0 ≤ a) (ha1 : a < 100) (hb0 : 0 ≤ b) (hb1 : b < 100) : (∀ c ∈ two a ++ two b, isDig c) ∧ (dv 0 (two a ++ two b) : Int) = a * 100 + b := by
  obtain ⟨p1, p2⟩ := byt_dig (a / 10) (by omega) (by omega)
  obtain ⟨q1, q2⟩ := byt_dig (a % 10) (by omega) (by omega)
  obtain ⟨r1, r2⟩ := byt_dig (b / 10) (by omega) (by omega)
  obtain ⟨s1, s2⟩ := byt_dig (b % 10) (by omega) (by omega)
  constructor
  · intro c hc
    simp only [two, List.cons_append, List.nil_append, List.mem_cons, List.not_mem_nil, or_false] at hc
    rcases hc with hc | hc | hc | hc <;> rw [hc] <;> assumption
  · simp only [two, List.cons_append, List.nil_append, dv_nil, dv_cons]
    omega
theorem dig_ne {l : List UInt8} (hd : ∀ c ∈ l, isDig c) {x : UInt8} (hx : ¬ isDig x) : x ∉ l := fun h => hx (hd x h)
theorem itoa_dig {t : Int} (h0 : 0 ≤ t) : (∀ c ∈ Lib.itoa t, isDig c) ∧ (dv 0 (Lib.itoa t) : Int) = t ∧ Lib.itoa t ≠ [] := by
  obtain ⟨u, rfl⟩ : ∃ u : Nat, t = u := ⟨t.toNat, by omega⟩
  rw [Lib.itoa_nonneg]
  obtain ⟨h1, h2, h3⟩ := decDigits_dig (u + 1) u (by omega)
  exact ⟨h1, by rw [h2], h3⟩
theorem lastB_eq (s : List UInt8) (c : UInt8) (k : Nat) (hk : s.getD k 0 = c) : ∀ n, k < n → (∀ j, k < j → j < n → s.getD j 0 ≠ c) → lastB s c n = k := by
  intro n
  induction n with
  | zero => intro h; omega
  | succ n ih =>
    intro h hj
    unfold lastB
    by_cases hn : n = k
    · rw [hn, if_pos hk]
    · rw [if_neg (hj n (by omega) (by omega))]
      exact ih (by omega) (fun j h1 h2 => hj j h1 (by omega))
theorem lastB_app {a v : List UInt8} {c : UInt8} (h : c ∉ v) : lastB (a ++ c :: v) c (a ++ c :: v).length = a.length := by
  apply lastB_eq
  · simp [List.getD]
  · simp
  · intro j h1 h2 h3
    apply h
    rw [List.length_append, List.length_cons] at h2
    rw [List.getD_eq_getElem?_getD, List.getElem?_append_right (by omega), show j - a.length = (j - a.length - 1) + 1 by omega, List.getElem?_cons_succ, List.getElem?_eq_getElem (by omega)] at h3
    rw [← h3]
    exact List.getElem_mem _
theorem occ2 (q : List UInt8) (i : Nat) : Lib.occAt q [32, 60] i = true ↔ q[i]? = some 32 ∧ q[i + 1]? = some 60 := by
  unfold Lib.occAt
  have e0 : q[i]? = (q.drop i)[0]? := by rw [List.getElem?_drop]; rfl
  have e1 : q[i + 1]? = (q.drop i)[1]? := by rw [List.getElem?_drop]
  rw [e0, e1]
  generalize q.drop i = l
  cases l with
  | nil => simp [List.isPrefixOf]
  | cons a l => cases l with
    | nil => simp [List.isPrefixOf]
    | cons b l => simp [List.isPrefixOf]; constructor <;> rintro ⟨rfl, rfl⟩ <;> exact ⟨rfl, rfl⟩
theorem last_app {a b : List UInt8} (h : 60 ∉ b) : Lib.lastIndex (a ++ [32, 60] ++ b) [32, 60] = a.length := by
  unfold Lib.lastIndex
  rw [if_pos (by simp only [List.length_append, List.length_cons, List.length_nil]; omega)]
  have hocc : Lib.occAt (a ++ [32, 60] ++ b) [32, 60] a.length = true := by
    rw [occ2]
    constructor <;> simp
  rcases Lib.lastOcc_spec (a ++ [32, 60] ++ b) [32, 60] ((a ++ [32, 60] ++ b).length - [(32 : UInt8), 60].length + 1) with ⟨_, hn⟩ | ⟨i, h1, h2, h3, h4⟩
  · have := hn a.length (by simp only [List.length_append, List.length_cons, List.length_nil]; omega)
    rw [hocc] at this; cases this
  · rw [h2]
    by_cases hlt : i < a.length
    · have := h4 a.length hlt (by simp only [List.length_append, List.length_cons, List.length_nil]; omega)
      rw [hocc] at this; cases this
    · by_cases he : i = a.length
      · rw [he]
      · exfalso
        rw [occ2] at h3
        apply h
        have h5 := h3.2
        rw [List.append_assoc, List.getElem?_append_right (by omega), List.getElem?_append_right (by simp; omega)] at h5
        exact List.mem_of_getElem? h5
theorem ends1 (q : List UInt8) (c : UInt8) : endsB q [c] = true ↔ q ≠ [] ∧ q[q.length - 1]? = some c := by
  unfold endsB
  simp only [List.length_cons, List.length_nil, Bool.and_eq_true, decide_eq_true_eq, beq_iff_eq]
  cases q with
  | nil => simp
  | cons a q =>
    simp only [List.length_cons, ne_eq, reduceCtorEq, not_false_eq_true, true_and]
    have e : (a :: q)[q.length + 1 - 1]? = ((a :: q).drop (q.length + 1 - (0 + 1)))[0]? := by rw [List.getElem?_drop]; rfl
    rw [e]
    have hl : ((a :: q).drop (q.length + 1 - (0 + 1))).length = 1 := by rw [List.length_drop, List.length_cons]; omega
    generalize (a :: q).drop (q.length + 1 - (0 + 1)) = l at *
    cases l with
    | nil => simp at hl
    | cons x l => cases l with
      | nil => simp
      | cons y l => simp at hl
theorem last_room {q : List UInt8} {k : Nat} (h : Lib.lastIndex q [32, 60] = k) (he : endsB q [62] = true) : k + 2 < q.length := by
  unfold Lib.lastIndex at h
  split at h
  · rcases Lib.lastOcc_spec q [32, 60] (q.length - [(32 : UInt8), 60].length + 1) with ⟨h1, _⟩ | ⟨i, h1, h2, h3, _⟩
    · rw [h1] at h; omega
    · rw [h2] at h
      obtain rfl : i = k := by omega
      obtain ⟨_, e2⟩ := (ends1 q 62).1 he
      obtain ⟨_, e1⟩ := (occ2 q i).1 h3
      have hlt : i + 1 < q.length := (List.getElem?_eq_some_iff.1 e1).1
      by_cases hx : i + 1 = q.length - 1
      · rw [hx, e2] at e1; cases e1
      · omega
  · omega
theorem last_cases (q : List UInt8) : Lib.lastIndex q [32, 60] < 0 ∨ ∃ k : Nat, Lib.lastIndex q [32, 60] = k := by
  by_cases h : Lib.lastIndex q [32, 60] < 0
  · left; exact h
  · right; exact ⟨(Lib.lastIndex q [32, 60]).toNat, by omega⟩
end Cod
namespace Cod
open Go
set_option maxRecDepth 100000
theorem enc_high4 {r : Int} (h0 : 128 ≤ r) (h1 : r ≤ 1114111) : 2 ≤ (encS r).length ∧ (encS r).length ≤ 4 ∧ 128 ≤ bat (encS r) ((encS r).length - 1) := by
  unfold encS Utf8.encode Utf8.runeError
  simp only []
  generalize hc : (if Utf8.valid r = true then r.toNat else 65533) = c
  have hc0 : 128 ≤ c := by
    rw [← hc]; split
    · omega
    · omega
  rw [if_neg (by omega)]
  split
  · refine ⟨by simp, by simp, ?_⟩
    simp [bat]
    omega
  · split
    · refine ⟨by simp, by simp, ?_⟩
      simp [bat]
      omega
    · refine ⟨by simp, by simp, ?_⟩
      simp [bat]
      omega
theorem go_rune_err4 : S E0 F.strings_IndexRune [.str [0, 10, 60, 62], .int .i32 65533] [] = some (.int .i64 (-1), []) := S_iff.2 ⟨300, by kernel_rfl⟩
theorem go_rune_low4 {r : Int} (h0 : 0 ≤ r) (h1 : r < 128) : S E0 F.strings_IndexRune [.str [0, 10, 60, 62], .int .i32 r] [] = some (.int .i64 (indexB [0, 10, 60, 62] (byt r)), []) := by
  rw [S_of0 fn_strings_IndexRune rfl rfl]
  have h2 : IntKind.u8.wrap r = r := by rw [wrap_u8]; omega
  simp (dsimp := false) (disch := first | omega | (simp only [LENs] <;> omega) | fail) only [L.strings_IndexRune, go_sem, reduceIte, reduceCtorEq, qn0, qn1, qn2, qn3, qn4, qn5, qn6, qn7, qn8, qi0, qi1, qi2, qi3, qi4, qi5, qi6, qi7, qi8, qi9, qi10, dec_t h0, dec_t h1, h2, go_sindex]
theorem go_rune_high4 {r : Int} (h0 : 128 ≤ r) (h1 : r ≤ 1114111) : S E0 F.strings_IndexRune [.str [0, 10, 60, 62], .int .i32 r] [] = some (.int .i64 (-1), []) := by
  by_cases he : r = 65533
  · subst he; exact go_rune_err4
  · have h2 : ¬ r < 128 := by omega
    have h3 : (0 : Int) ≤ r := by omega
    rw [S_of0 fn_strings_IndexRune rfl rfl]
    have hvv : S E0 F.utf8_ValidRune [.int .i32 r] [] = some (.bool (decide (r < 55296) || decide (57343 < r)), []) := by rw [go_valid h0, dec_t h1, Bool.and_true]
    cases hv : (decide (r < 55296) || decide (57343 < r)) with
    | false => simp (dsimp := false) (disch := first | omega | (simp only [LENs] <;> omega) | fail) only [L.strings_IndexRune, go_sem, reduceIte, reduceCtorEq, qn0, qn1, qn2, qn3, qn4, qn5, qn6, qn7, qn8, qi0, qi1, qi2, qi3, qi4, qi5, qi6, qi7, qi8, qi9, qi10, dec_t h3, dec_f h2, beq_f he, hvv, hv]
    | true =>
      obtain ⟨e1, e2, e3⟩ := enc_high4 h0 h1
      simp (dsimp := false) (disch := first | omega | (simp only [LENs] <;> omega) | fail) only [L.strings_IndexRune, go_sem, reduceIte, reduceCtorEq, qn0, qn1, qn2, qn3, qn4, qn5, qn6, qn7, qn8, qi0, qi1, qi2, qi3, qi4, qi5, qi6, qi7, qi8, qi9, qi10, dec_t h3, dec_f h2, beq_f he, hvv, hv]
      rw [X_in L.strings_IndexRune.x1.eq_1]
      have hb := bat_range (encS r) ((encS r).length - 1)
      have hno : ∀ l : List UInt8, (∀ c ∈ l, c.toNat < 128) → indexB l (byt (bat (encS r) ((encS r).length - 1))) = -1 := by
        intro l hl
        unfold indexB
        rw [if_neg]
        intro hm
        have := hl _ hm
        have h5 : ((byt (bat (encS r) ((encS r).length - 1))).toNat : Int) = bat (encS r) ((encS r).length - 1) := by
          have := int_byt hb.1 hb.2
          simp only [AV.int.injEq, true_and] at this
          exact this.symm
        omega
      have b4 := hno [60, 62] (by simp)
      have b5 := hno [62] (by simp)
      have b6 := hno [] (by simp)
      have hk : (encS r).length = 2 ∨ (encS r).length = 3 ∨ (encS r).length = 4 := by omega
      rcases hk with e4 | e4 | e4 <;> rw [e4] at e3 b4 b5 b6 <;> simp only [Nat.reduceSub] at e3 b4 b5 b6
      · have b1 : bat [0, 10, 60, 62] 1 = 10 := rfl
        have b2 : ((((10 : UInt8).toNat : Nat) : Int) != bat (encS r) 1) = true := bne_t (by show (10 : Int) ≠ _; omega)
        have b3 : (((2 : Nat) : Int) - 1).toNat = 1 := rfl
        have b7 : List.drop (((2 : Nat) : Int) - 1 + 1).toNat ([0, 10, 60, 62] : List UInt8) = [60, 62] := rfl
        simp (dsimp := false) (disch := first | omega | (simp only [LENs] <;> omega) | fail) only [go_sem, reduceIte, reduceCtorEq, qn0, qn1, qn2, qn3, qn4, qn5, qn6, qn7, qn8, qi0, qi1, qi2, qi3, qi4, qi5, qi6, qi7, qi8, qi9, qi10, L.strings_IndexRune.r2, e4, b1, b2, b3, go_sindex, sub_take, take_len, sub_drop, b7, b4]
      · have b1 : bat [0, 10, 60, 62] 2 = 60 := rfl
        have b2 : ((((60 : UInt8).toNat : Nat) : Int) != bat (encS r) 2) = true := bne_t (by show (60 : Int) ≠ _; omega)
        have b3 : (((3 : Nat) : Int) - 1).toNat = 2 := rfl
        have b7 : List.drop (((3 : Nat) : Int) - 1 + 1).toNat ([0, 10, 60, 62] : List UInt8) = [62] := rfl
        simp (dsimp := false) (disch := first | omega | (simp only [LENs] <;> omega) | fail) only [go_sem, reduceIte, reduceCtorEq, qn0, qn1, qn2, qn3, qn4, qn5, qn6, qn7, qn8, qi0, qi1, qi2, qi3, qi4, qi5, qi6, qi7, qi8, qi9, qi10, L.strings_IndexRune.r2, e4, b1, b2, b3, go_sindex, sub_take, take_len, sub_drop, b7, b5]
      · have b1 : bat [0, 10, 60, 62] 3 = 62 := rfl
        have b2 : ((((62 : UInt8).toNat : Nat) : Int) != bat (encS r) 3) = true := bne_t (by show (62 : Int) ≠ _; omega)
        have b3 : (((4 : Nat) : Int) - 1).toNat = 3 := rfl
        have b7 : List.drop (((4 : Nat) : Int) - 1 + 1).toNat ([0, 10, 60, 62] : List UInt8) = [] := rfl
        simp (dsimp := false) (disch := first | omega | (simp only [LENs] <;> omega) | fail) only [go_sem, reduceIte, reduceCtorEq, qn0, qn1, qn2, qn3, qn4, qn5, qn6, qn7, qn8, qi0, qi1, qi2, qi3, qi4, qi5, qi6, qi7, qi8, qi9, qi10, L.strings_IndexRune.r2, e4, b1, b2, b3, go_sindex, sub_take, take_len, sub_drop, b7, b6]
def bad4 (b : UInt8) : Bool := b == 0 || (b == 10 || (b == 60 || b == 62))
theorem index4_n : ∀ n : Nat, n < 256 → decide (0 ≤ indexB [0, 10, 60, 62] (UInt8.ofNat n)) = bad4 (UInt8.ofNat n) := by decide +kernel
theorem index4 (b : UInt8) : (0 ≤ indexB [0, 10, 60, 62] b) ↔ bad4 b = true := by
  have := index4_n b.toNat b.toNat_lt
  rw [UInt8.ofNat_toNat] at this
  rw [← this, decide_eq_true_eq]
theorem high4_n : ∀ n : Nat, n < 256 → 128 ≤ n → bad4 (UInt8.ofNat n) = false := by decide +kernel
theorem any_walk4 {s : List UInt8} (hs : s.length ≤ 1000000) : ∀ (m p : Nat), p + m ≤ s.length → s.length ≤ p + m → ∃ i : Int, ((0 ≤ i) ↔ (s.drop p).any bad4 = true) ∧
    X E0 [.tmp 4] (.c L.strings_IndexAny.x1 :: .lp [1, 45] L.strings_IndexAny.x1 :: .blk 2 :: .c L.strings_IndexAny.r2 :: []) ⟨[(1, .str [0, 10, 60, 62]), (45, .it (.s 1000000 0) 0)], [(.s 1000000 0, ⟨0, true, true, true, [.itr s p]⟩)]⟩ = some (.int .i64 i, []) := by
  intro m
  induction m using Nat.strongRecOn with
  | _ m ih =>
    intro p h1 h2
    rw [X_in L.strings_IndexAny.x1.eq_1]
    by_cases hp : p < s.length
    · have hd : s.drop p = s.getD p 0 :: s.drop (p + 1) := by
        rw [List.drop_eq_getElem_cons hp]; simp [hp]
      rcases dec_facts hp with ⟨e1, e2, e3⟩ | ⟨e1, e2, e3, e4, e5⟩
      · cases hbad : bad4 (s.getD p 0) with
        | true =>
          have h3 := (index4 (byt (bat s p))).2 (by rw [byt_bat]; exact hbad)
          refine ⟨p, ⟨fun _ => by rw [hd, List.any_cons, hbad]; rfl, fun _ => by omega⟩, ?_⟩
          simp (dsimp := false) (disch := first | omega | (simp only [LENs] <;> omega) | fail) only [go_sem, reduceIte, reduceCtorEq, qn0, qn1, qn2, qn3, qn4, qn5, qn6, qn7, qn8, qi0, qi1, qi2, qi3, qi4, qi5, qi6, qi7, qi8, qi9, qi10, hp, e2, e3, go_rune_low4 (bat_range s p).1 e1, dec_t h3]
        | false =>
          have h3 : ¬ 0 ≤ indexB [0, 10, 60, 62] (byt (bat s p)) := fun h => by rw [index4, byt_bat, hbad] at h; cases h
          obtain ⟨i, h4, h5⟩ := ih (m - 1) (by omega) (p + 1) (by omega) (by omega)
          refine ⟨i, by rw [h4, hd, List.any_cons, hbad, Bool.false_or], ?_⟩
          rw [← h5]
          simp (dsimp := false) (disch := first | omega | (simp only [LENs] <;> omega) | fail) only [go_sem, reduceIte, reduceCtorEq, qn0, qn1, qn2, qn3, qn4, qn5, qn6, qn7, qn8, qi0, qi1, qi2, qi3, qi4, qi5, qi6, qi7, qi8, qi9, qi10, hp, e2, e3, go_rune_low4 (bat_range s p).1 e1, dec_f h3]
      · have hw : p + (decS s p).2 ≤ s.length := by
          have := (e5 (p + (decS s p).2 - 1) (by omega) (by omega)).1
          omega
        obtain ⟨i, h4, h5⟩ := ih (m - (decS s p).2) (by omega) (p + (decS s p).2) (by omega) (by omega)
        refine ⟨i, ?_, ?_⟩
        · rw [h4]
          have : ∀ w, p + w ≤ s.length → (∀ j, p ≤ j → j < p + w → j < s.length ∧ 128 ≤ bat s j) → (s.drop p).any bad4 = (s.drop (p + w)).any bad4 := by
            intro w
            induction w with
            | zero => intro _ _; rfl
            | succ w ihw =>
              intro hw1 hw2
              rw [ihw (by omega) (fun j j1 j2 => hw2 j j1 (by omega)), List.drop_eq_getElem_cons (by omega : p + w < s.length), List.any_cons]
              have hh := (hw2 (p + w) (by omega) (by omega)).2
              have : bad4 s[p + w] = false := by
                unfold bat at hh
                rw [List.getD_eq_getElem?_getD, List.getElem?_eq_getElem (by omega), Option.getD_some] at hh
                have h9 := high4_n s[p + w].toNat (UInt8.toNat_lt _) (by omega)
                rwa [UInt8.ofNat_toNat] at h9
              rw [this, Bool.false_or]
              rfl
          rw [this _ hw e5]
        · rw [← h5]
          have h6 := go_rune_high4 (r := ((decS s p).1 : Int)) (by omega) (by omega)
          simp (dsimp := false) (disch := first | omega | (simp only [LENs] <;> omega) | fail) only [go_sem, reduceIte, reduceCtorEq, qn0, qn1, qn2, qn3, qn4, qn5, qn6, qn7, qn8, qi0, qi1, qi2, qi3, qi4, qi5, qi6, qi7, qi8, qi9, qi10, hp, h6]
    · refine ⟨-1, ⟨fun h => by omega, fun h => by rw [List.drop_of_length_le (by omega)] at h; simp at h⟩, ?_⟩
      simp (dsimp := false) (disch := first | omega | (simp only [LENs] <;> omega) | fail) only [go_sem, reduceIte, reduceCtorEq, qn0, qn1, qn2, qn3, qn4, qn5, qn6, qn7, qn8, qi0, qi1, qi2, qi3, qi4, qi5, qi6, qi7, qi8, qi9, qi10, hp, L.strings_IndexAny.r2]
def set4 : List AV := (List.range 256).map fun i => .bool (i == 0 || (i == 10 || (i == 60 || i == 62)))
theorem go_set4 : S E0 F.strings_makeASCIISet [.str [0, 10, 60, 62]] [] = some (.tup [.agg set4, .bool true], []) := S_iff.2 ⟨300, by kernel_rfl⟩
theorem set4_get : ∀ n : Nat, n < 256 → set4[n]? = some (.bool (bad4 (UInt8.ofNat n))) := by
  intro n hn
  simp only [set4, List.getElem?_map, List.getElem?_range hn, Option.map_some, bad4]
  have : ∀ n : Nat, n < 256 → (n == 0 || (n == 10 || (n == 60 || n == 62))) = (UInt8.ofNat n == 0 || (UInt8.ofNat n == 10 || (UInt8.ofNat n == 60 || UInt8.ofNat n == 62))) := by decide +kernel
  rw [this n hn]
theorem flats_set4 : flats set4 = true := by kernel_rfl
theorem set4_length : set4.length = 256 := by simp [set4]
theorem set4_at {b : Int} (h0 : 0 ≤ b) (h1 : b < 256) : set4[b.toNat]? = some (.bool (bad4 (byt b))) := set4_get b.toNat (by omega)
theorem flat4 : leadss set4 = false := by kernel_rfl
theorem refs4 : refsOfs set4 = [] := by kernel_rfl
theorem rens4 (f : Site → Nat → Option (Site × Nat)) : rens f set4 = set4 := rens_flats set4 flats_set4
theorem hards4 : hards set4 = true := by kernel_rfl
theorem go_contains4 {x : Site} {b : Int} (h0 : 0 ≤ b) (h1 : b < 256) : S E0 F.strings_asciiSet_contains [.ref (.up x) 0 0, .int .u8 b] [(.up x, ⟨0, true, true, true, set4⟩)] = some (.bool (bad4 (byt b)), [(.up x, ⟨0, true, true, true, set4⟩)]) := by
  rw [S_of0 fn_strings_asciiSet_contains rfl rfl]
  simp (dsimp := false) (disch := first | omega | (simp only [LENs] <;> omega) | fail) only [L.strings_asciiSet_contains, go_sem, reduceIte, reduceCtorEq, qn0, qn1, qn2, qn3, qn4, qn5, qn6, qn7, qn8, qi0, qi1, qi2, qi3, qi4, qi5, qi6, qi7, qi8, qi9, qi10, set4_length, flats_set4, flat4, refs4, rens4, hards4, set4_at h0 h1]
theorem set_walk4 {s : List UInt8} (hs : s.length ≤ 1000000) : ∀ (m p : Nat), p + m = s.length → ∃ i : Int, ((0 ≤ i) ↔ (s.drop p).any bad4 = true) ∧
    X E0 [.tmp 4] (.c L.strings_IndexAny.x0 :: .lp [0, 6, 8] L.strings_IndexAny.x0 :: .blk 0 :: .c L.strings_IndexAny.r0 :: .c L.strings_IndexAny.r1 :: []) ⟨[(0, .str s), (6, .ref (.s 1000000 0) 0 0), (8, .int .i64 p)], [(.s 1000000 0, ⟨0, true, true, true, set4⟩)]⟩ = some (.int .i64 i, []) := by
  intro m
  induction m with
  | zero =>
    intro p h
    refine ⟨-1, ⟨fun h => by omega, fun h => by rw [List.drop_of_length_le (by omega)] at h; simp at h⟩, ?_⟩
    rw [X_in L.strings_IndexAny.x0.eq_1]
    simp (dsimp := false) (disch := first | omega | (simp only [LENs] <;> omega) | fail) only [go_sem, reduceIte, reduceCtorEq, qn0, qn1, qn2, qn3, qn4, qn5, qn6, qn7, qn8, qi0, qi1, qi2, qi3, qi4, qi5, qi6, qi7, qi8, qi9, qi10, set4_length, flats_set4, flat4, refs4, rens4, hards4, L.strings_IndexAny.r0]
  | succ m ih =>
    intro p h
    have hp : p < s.length := by omega
    have hd : s.drop p = s.getD p 0 :: s.drop (p + 1) := by
      rw [List.drop_eq_getElem_cons hp]; simp [hp]
    obtain ⟨b0, b1⟩ := bat_range s p
    cases hbad : bad4 (s.getD p 0) with
    | true =>
      have h3 : bad4 (byt (bat s p)) = true := by rw [byt_bat]; exact hbad
      refine ⟨p, ⟨fun _ => by rw [hd, List.any_cons, hbad]; rfl, fun _ => by omega⟩, ?_⟩
      rw [X_in L.strings_IndexAny.x0.eq_1]
      simp (dsimp := false) (disch := first | omega | (simp only [LENs] <;> omega) | fail) only [go_sem, reduceIte, reduceCtorEq, qn0, qn1, qn2, qn3, qn4, qn5, qn6, qn7, qn8, qi0, qi1, qi2, qi3, qi4, qi5, qi6, qi7, qi8, qi9, qi10, set4_length, flats_set4, flat4, refs4, rens4, hards4, go_contains4 b0 b1, h3]
    | false =>
      have h3 : bad4 (byt (bat s p)) = false := by rw [byt_bat]; exact hbad
      obtain ⟨i, h4, h5⟩ := ih (p + 1) (by omega)
      refine ⟨i, by rw [h4, hd, List.any_cons, hbad, Bool.false_or], ?_⟩
      rw [← h5, X_in L.strings_IndexAny.x0.eq_1]
      simp (dsimp := false) (disch := first | omega | (simp only [LENs] <;> omega) | fail) only [go_sem, reduceIte, reduceCtorEq, qn0, qn1, qn2, qn3, qn4, qn5, qn6, qn7, qn8, qi0, qi1, qi2, qi3, qi4, qi5, qi6, qi7, qi8, qi9, qi10, set4_length, flats_set4, flat4, refs4, rens4, hards4, go_contains4 b0 b1, h3]
      rfl
theorem go_any4 {s : List UInt8} (hs : s.length ≤ 1000000) : ∃ i : Int, ((0 ≤ i) ↔ s.any bad4 = true) ∧ S E0 F.strings_IndexAny [.str s, .str [0, 10, 60, 62]] [] = some (.int .i64 i, []) := by
  rw [S_of0 fn_strings_IndexAny rfl rfl]
  have e0 : (([0, 10, 60, 62] : List UInt8) == []) = false := rfl
  by_cases h8 : 8 < s.length
  · obtain ⟨i, h1, h2⟩ := set_walk4 hs s.length 0 (by omega)
    refine ⟨i, by simpa using h1, ?_⟩
    rw [← h2]
    have h9 : decide (8 < (s.length : Int)) = true := by simp; omega
    simp (dsimp := false) (disch := first | omega | (simp only [LENs] <;> omega) | fail) only [L.strings_IndexAny, go_sem, reduceIte, reduceCtorEq, qn0, qn1, qn2, qn3, qn4, qn5, qn6, qn7, qn8, qi0, qi1, qi2, qi3, qi4, qi5, qi6, qi7, qi8, qi9, qi10, set4_length, flats_set4, flat4, refs4, rens4, hards4, e0, go_use, h9, go_set4]
    rfl
  · obtain ⟨i, h1, h2⟩ := any_walk4 hs s.length 0 (by omega) (by omega)
    refine ⟨i, by simpa using h1, ?_⟩
    rw [← h2]
    have h9 : decide (8 < (s.length : Int)) = false := by simp; omega
    simp (dsimp := false) (disch := first | omega | (simp only [LENs] <;> omega) | fail) only [L.strings_IndexAny, go_sem, reduceIte, reduceCtorEq, qn0, qn1, qn2, qn3, qn4, qn5, qn6, qn7, qn8, qi0, qi1, qi2, qi3, qi4, qi5, qi6, qi7, qi8, qi9, qi10, set4_length, flats_set4, flat4, refs4, rens4, hards4, e0, go_use, h9, L.strings_IndexAny.r1]
theorem go_containsAny4 {s : List UInt8} (hs : s.length ≤ 1000000) : S E0 F.strings_ContainsAny [.str s, .str [0, 10, 60, 62]] [] = some (.bool (s.any bad4), []) := by
  rw [S_of0 fn_strings_ContainsAny rfl rfl]
  obtain ⟨i, h1, h2⟩ := go_any4 hs
  have h3 : decide (0 ≤ i) = s.any bad4 := by
    cases h : s.any bad4 with
    | true => simp [h1.2 h]
    | false => rw [decide_eq_false_iff_not, h1, h]; simp
  simp (dsimp := false) (disch := first | omega | (simp only [LENs] <;> omega) | fail) only [L.strings_ContainsAny, go_sem, reduceIte, reduceCtorEq, qn0, qn1, qn2, qn3, qn4, qn5, qn6, qn7, qn8, qi0, qi1, qi2, qi3, qi4, qi5, qi6, qi7, qi8, qi9, qi10, h2, h3]
end Cod
namespace Cod
open Go
theorem ge_containsAny4 {s : List UInt8} (hs : s.length ≤ 1000000) : S E F.strings_ContainsAny [.str s, .str [0, 10, 60, 62]] [] = some (.bool (s.any bad4), []) := S_ext ext0 (go_containsAny4 hs)
theorem any_bad4 (s : List UInt8) : s.any bad4 = (s.contains 0 || (s.contains 10 || (s.contains 60 || s.contains 62))) := by
  rw [Bool.eq_iff_iff]
  simp only [List.any_eq_true, bad4, Bool.or_eq_true, beq_iff_eq, List.contains_iff_mem]
  constructor
  · rintro ⟨b, hb, h | h | h | h⟩ <;> subst h <;> simp [hb]
  · rintro (h | h | h | h)
    · exact ⟨_, h, .inl rfl⟩
    · exact ⟨_, h, .inr (.inl rfl)⟩
    · exact ⟨_, h, .inr (.inr (.inl rfl))⟩
    · exact ⟨_, h, .inr (.inr (.inr rfl))⟩
theorem plain_any (s : List UInt8) : plainOK s = (decide (s.length ≤ 100) && !s.any bad4) := by
  unfold plainOK
  rw [any_bad4]
  simp only [Bool.not_or]
theorem go_nident {i : Idt} : S E F.names_Ident [.agg i.cells] [] = some (.bool (identOK i), []) := by
  rw [S_of fn_names_Ident rfl rfl]
  unfold identOK
  rw [plain_any, plain_any]
  by_cases l0 : 100 < i.name.length
  · simp (dsimp := false) (disch := first | omega | (simp only [LENs] <;> omega) | fail) only [L.names_Ident, L.names_Ident.x0, go_sem, reduceIte, reduceCtorEq, qn0, qn1, qn2, qn3, qn4, qn5, qn6, qn7, qn8, qi0, qi1, qi2, qi3, qi4, qi5, qi6, qi7, qi8, qi9, qi10, Idt.cells, l0]
  · have h0 := ge_containsAny4 (s := i.name) (by omega)
    have l0' : i.name.length ≤ 100 := by omega
    cases c0 : i.name.any bad4
    · by_cases l1 : 100 < i.email.length
      · simp (dsimp := false) (disch := first | omega | (simp only [LENs] <;> omega) | fail) only [L.names_Ident, L.names_Ident.x0, go_sem, reduceIte, reduceCtorEq, qn0, qn1, qn2, qn3, qn4, qn5, qn6, qn7, qn8, qi0, qi1, qi2, qi3, qi4, qi5, qi6, qi7, qi8, qi9, qi10, Idt.cells, l0, l0', l1, h0, c0, Bool.and_false, Bool.false_and]
      · have h1 := ge_containsAny4 (s := i.email) (by omega)
        have l1' : i.email.length ≤ 100 := by omega
        cases c1 : i.email.any bad4
        · have e1 : decide (-1440 < i.zone) = decide (-1439 ≤ i.zone) := by rw [decide_eq_decide]; omega
          have e2 : decide (i.zone < 1440) = decide (i.zone ≤ 1439) := by rw [decide_eq_decide]; omega
          by_cases t0 : 0 ≤ i.time
          · by_cases t1 : i.time ≤ 1099511627776
            · by_cases z0 : -1439 ≤ i.zone
              · by_cases z1 : i.zone ≤ 1439 <;> simp (dsimp := false) (disch := first | omega | (simp only [LENs] <;> omega) | fail) only [L.names_Ident, L.names_Ident.x0, L.names_Ident.r0, go_sem, reduceIte, reduceCtorEq, qn0, qn1, qn2, qn3, qn4, qn5, qn6, qn7, qn8, qi0, qi1, qi2, qi3, qi4, qi5, qi6, qi7, qi8, qi9, qi10, Idt.cells, l0, l0', l1, l1', h0, c0, h1, c1, t0, t1, z0, z1, decide_true, decide_false, Bool.not_false, Bool.and_true, Bool.true_and]
              · simp (dsimp := false) (disch := first | omega | (simp only [LENs] <;> omega) | fail) only [L.names_Ident, L.names_Ident.x0, L.names_Ident.r0, go_sem, reduceIte, reduceCtorEq, qn0, qn1, qn2, qn3, qn4, qn5, qn6, qn7, qn8, qi0, qi1, qi2, qi3, qi4, qi5, qi6, qi7, qi8, qi9, qi10, Idt.cells, l0, l0', l1, l1', h0, c0, h1, c1, t0, t1, z0, decide_true, decide_false, Bool.not_false, Bool.and_true, Bool.true_and, Bool.false_and]
            · simp (dsimp := false) (disch := first | omega | (simp only [LENs] <;> omega) | fail) only [L.names_Ident, L.names_Ident.x0, L.names_Ident.r0, go_sem, reduceIte, reduceCtorEq, qn0, qn1, qn2, qn3, qn4, qn5, qn6, qn7, qn8, qi0, qi1, qi2, qi3, qi4, qi5, qi6, qi7, qi8, qi9, qi10, Idt.cells, l0, l0', l1, l1', h0, c0, h1, c1, t0, t1, decide_true, decide_false, Bool.not_false, Bool.and_true, Bool.true_and, Bool.false_and]
          · simp (dsimp := false) (disch := first | omega | (simp only [LENs] <;> omega) | fail) only [L.names_Ident, L.names_Ident.x0, L.names_Ident.r0, go_sem, reduceIte, reduceCtorEq, qn0, qn1, qn2, qn3, qn4, qn5, qn6, qn7, qn8, qi0, qi1, qi2, qi3, qi4, qi5, qi6, qi7, qi8, qi9, qi10, Idt.cells, l0, l0', l1, l1', h0, c0, h1, c1, t0, decide_true, decide_false, Bool.not_false, Bool.and_true, Bool.true_and, Bool.false_and]
        · simp (dsimp := false) (disch := first | omega | (simp only [LENs] <;> omega) | fail) only [L.names_Ident, L.names_Ident.x0, go_sem, reduceIte, reduceCtorEq, qn0, qn1, qn2, qn3, qn4, qn5, qn6, qn7, qn8, qi0, qi1, qi2, qi3, qi4, qi5, qi6, qi7, qi8, qi9, qi10, Idt.cells, l0, l0', l1, l1', h0, c0, h1, c1, Bool.not_true, Bool.and_false, Bool.false_and]
    · simp (dsimp := false) (disch := first | omega | (simp only [LENs] <;> omega) | fail) only [L.names_Ident, L.names_Ident.x0, go_sem, reduceIte, reduceCtorEq, qn0, qn1, qn2, qn3, qn4, qn5, qn6, qn7, qn8, qi0, qi1, qi2, qi3, qi4, qi5, qi6, qi7, qi8, qi9, qi10, Idt.cells, l0, l0', h0, c0, Bool.not_true, Bool.and_false, Bool.false_and]
end Cod
namespace Cod
open Go
theorem zone_digits : ∀ n : Nat, n < 1440 → (Lib.itoa (10000 + (n : Int) / 60 * 100 + (n : Int) % 60)).drop 1 = two ((n : Int) / 60) ++ two ((n : Int) % 60) ∧ (Lib.itoa (10000 + (n : Int) / 60 * 100 + (n : Int) % 60)).length = 5 := by
  intro n hn
  have e : (10000 + (n : Int) / 60 * 100 + (n : Int) % 60) = ((10000 + n / 60 * 100 + n % 60 : Nat) : Int) := by omega
  rw [e]
  have h1 : n / 60 < 24 := by omega
  have h2 : n % 60 < 60 := by omega
  rw [Lib.itoa_nonneg]
  generalize ha : n / 60 = a at *
  generalize hb : n % 60 = b at *
  have d : Lib.decDigits (10000 + a * 100 + b) = [49, UInt8.ofNat (48 + a / 10), UInt8.ofNat (48 + a % 10), UInt8.ofNat (48 + b / 10), UInt8.ofNat (48 + b % 10)] := by
    rw [Lib.decDigits, dif_neg (by omega), Lib.decDigits, dif_neg (by omega), Lib.decDigits, dif_neg (by omega), Lib.decDigits, dif_neg (by omega), Lib.decDigits, dif_pos (by omega)]
    rw [show (10000 + a * 100 + b) / 10 / 10 / 10 / 10 = 1 by omega, show (10000 + a * 100 + b) / 10 / 10 / 10 % 10 = a / 10 by omega, show (10000 + a * 100 + b) / 10 / 10 % 10 = a % 10 by omega, show (10000 + a * 100 + b) / 10 % 10 = b / 10 by omega, show (10000 + a * 100 + b) % 10 = b % 10 by omega]
    rfl
  rw [d]
  refine ⟨?_, rfl⟩
  unfold two byt
  rw [show (48 + ((n : Int) / 60) / 10).toNat = 48 + a / 10 by omega, show (48 + ((n : Int) / 60) % 10).toNat = 48 + a % 10 by omega, show (48 + ((n : Int) % 60) / 10).toNat = 48 + b / 10 by omega, show (48 + ((n : Int) % 60) % 10).toNat = 48 + b % 10 by omega]
  rfl
theorem idt_0 (i : Idt) : i.cells[0]? = some (.str i.name) := rfl
theorem idt_1 (i : Idt) : i.cells[1]? = some (.str i.email) := rfl
theorem idt_2 (i : Idt) : i.cells[2]? = some (.int .i64 i.time) := rfl
theorem idt_3 (i : Idt) : i.cells[3]? = some (.int .i64 i.zone) := rfl
theorem go_putIdent {i : Idt} : S E F.names_PutIdent [.agg i.cells] [] = some (putV i, []) := by
  have h0 := go_nident (i := i)
  rw [S_of fn_names_PutIdent rfl rfl]
  unfold putV
  cases h : identOK i
  · simp (dsimp := false) (disch := first | omega | (simp only [LENs, two_length] <;> omega) | fail) only [L.names_PutIdent, go_sem, reduceIte, reduceCtorEq, qn0, qn1, qn2, qn3, qn4, qn5, qn6, qn7, qn8, qi0, qi1, qi2, qi3, qi4, qi5, qi6, qi7, qi8, qi9, qi10, h0, h, Bool.not_false]
  · obtain ⟨p0, p1, t0, t1, z0, z1⟩ := (identOK_iff i).1 h
    have hi := S_itoa (n := i.time) (by omega)
    have hl := Lib.itoa_length_le i.time (by omega) (by omega)
    have hn := plain_len p0
    have he := plain_len p1
    by_cases hz : i.zone < 0
    · obtain ⟨m, hm⟩ : ∃ m : Nat, -i.zone = m := ⟨(-i.zone).toNat, by omega⟩
      have hj := S_itoa (n := 10000 + (m : Int) / 60 * 100 + (m : Int) % 60) (by omega)
      obtain ⟨d1, d2⟩ := zone_digits m (by omega)
      have d3 : sub (Lib.itoa (10000 + (m : Int) / 60 * 100 + (m : Int) % 60)) 1 4 = two ((m : Int) / 60) ++ two ((m : Int) % 60) := by
        unfold sub; rw [d1]; rfl
      simp (dsimp := false) (disch := first | omega | (simp only [LENs, two_length] <;> omega) | fail) only [L.names_PutIdent, go_sem, reduceIte, reduceCtorEq, qn0, qn1, qn2, qn3, qn4, qn5, qn6, qn7, qn8, qi0, qi1, qi2, qi3, qi4, qi5, qi6, qi7, qi8, qi9, qi10, h0, h, Bool.not_true, idt_0, idt_1, idt_2, idt_3, hi, hz, Int.zero_sub, hm, tdiv_pos, tmod_pos, hj, d2, d3]
      simp only [putI, zoneT, hz, if_true, hm, List.append_assoc, List.cons_append, List.nil_append]
    · obtain ⟨m, hm⟩ : ∃ m : Nat, i.zone = m := ⟨i.zone.toNat, by omega⟩
      have hj := S_itoa (n := 10000 + (m : Int) / 60 * 100 + (m : Int) % 60) (by omega)
      obtain ⟨d1, d2⟩ := zone_digits m (by omega)
      have d3 : sub (Lib.itoa (10000 + (m : Int) / 60 * 100 + (m : Int) % 60)) 1 4 = two ((m : Int) / 60) ++ two ((m : Int) % 60) := by
        unfold sub; rw [d1]; rfl
      have hz2 : ¬ (m : Int) < 0 := by omega
      simp (dsimp := false) (disch := first | omega | (simp only [LENs, two_length] <;> omega) | fail) only [L.names_PutIdent, go_sem, reduceIte, reduceCtorEq, qn0, qn1, qn2, qn3, qn4, qn5, qn6, qn7, qn8, qi0, qi1, qi2, qi3, qi4, qi5, qi6, qi7, qi8, qi9, qi10, h0, h, Bool.not_true, idt_0, idt_1, idt_2, idt_3, hi, hz2, hm, tdiv_pos, tmod_pos, hj, d2, d3]
      simp only [putI, zoneT, hm, hz2, if_false, List.append_assoc, List.cons_append, List.nil_append]
end Cod
namespace Cod
open Go
theorem go_cut_any {s : List UInt8} (hs : s.length ≤ 1000000000000) : ∃ a b c d ok, S E F.names_cut [.str s] [] = some (.tup [.agg [.str a, .str b, .str c, .str d], .bool ok], []) ∧ c.length ≤ 1000000000000 ∧ d.length ≤ 1000000000000 := by
  have hsub : ∀ (l : List UInt8) (a n : Nat), (sub l a n).length ≤ l.length := by
    intro l a n; unfold sub; rw [List.length_take, List.length_drop]; omega
  rcases lastB_range s 32 s.length with h | ⟨i, h, hi, _⟩
  · exact ⟨[], [], [], [], false, cut_a hs h, by simp, by simp⟩
  · have hr := hsub s 0 i
    have hz := hsub s (i + 1) (s.length - (i + 1))
    rcases lastB_range (sub s 0 i) 32 (sub s 0 i).length with h1 | ⟨j, h1, hj, _⟩
    · exact ⟨[], [], [], _, false, cut_b hs h hi rfl rfl h1, by simp, by omega⟩
    · have hq := hsub (sub s 0 i) (j + 1) ((sub s 0 i).length - (j + 1))
      by_cases h2 : Lib.lastIndex (sub (sub s 0 i) 0 j) [32, 60] < 0 ∨ endsB (sub (sub s 0 i) 0 j) [62] = false
      · exact ⟨[], [], _, _, false, cut_c hs h hi rfl rfl h1 hj rfl rfl h2, by omega, by omega⟩
      · have h3 : ¬ Lib.lastIndex (sub (sub s 0 i) 0 j) [32, 60] < 0 := fun x => h2 (.inl x)
        have h4 : endsB (sub (sub s 0 i) 0 j) [62] = true := by
          cases hb : endsB (sub (sub s 0 i) 0 j) [62]
          · exact absurd (.inr hb) h2
          · rfl
        rcases last_cases (sub (sub s 0 i) 0 j) with h5 | ⟨k, h5⟩
        · exact absurd h5 h3
        · exact ⟨_, _, _, _, true, cut_d hs h hi rfl rfl h1 hj rfl rfl h5 (last_room h5 h4) h4, by omega, by omega⟩
theorem sub_pre {a b : List UInt8} : sub (a ++ b) 0 a.length = a := by unfold sub; simp
theorem sub_post {a b : List UInt8} {x : UInt8} {n m : Nat} (hn : n = a.length + 1) (hm : m = b.length) : sub (a ++ x :: b) n m = b := by
  subst hn hm; unfold sub; rw [show a ++ x :: b = (a ++ [x]) ++ b by simp, List.drop_left' (by simp), List.take_length]
theorem plain_mem {s : List UInt8} (h : plainOK s = true) : 0 ∉ s ∧ 10 ∉ s ∧ 60 ∉ s ∧ 62 ∉ s := by
  unfold plainOK at h
  simp only [Bool.and_eq_true, Bool.not_eq_true', List.contains_eq_mem, decide_eq_false_iff_not] at h
  exact ⟨h.2.1, h.2.2.1, h.2.2.2.1, h.2.2.2.2⟩
def zabs (z : Int) : Int := if z < 0 then -z else z
theorem zoneT_eq (z : Int) : zoneT z = (if z < 0 then 45 else 43) :: (two (zabs z / 60) ++ two (zabs z % 60)) := rfl
theorem zabs_range {z : Int} (h0 : -1439 ≤ z) (h1 : z ≤ 1439) : 0 ≤ zabs z ∧ zabs z < 1440 := by unfold zabs; split <;> omega
theorem zone_no32 {z : Int} (h0 : -1439 ≤ z) (h1 : z ≤ 1439) : 32 ∉ zoneT z := by
  obtain ⟨a0, a1⟩ := zabs_range h0 h1
  rw [zoneT_eq]
  have := dig_ne (zone4 (a := zabs z / 60) (b := zabs z % 60) (by omega) (by omega) (by omega) (by omega)).1 (x := 32) (by unfold isDig; decide)
  simp only [List.mem_cons, not_or]
  refine ⟨?_, this⟩
  split <;> decide
theorem zone_len (z : Int) : (zoneT z).length = 5 := rfl
theorem putI_eq (i : Idt) : putI i = (i.name ++ [32, 60] ++ (i.email ++ [62]) ++ 32 :: Lib.itoa i.time) ++ 32 :: zoneT i.zone := by
  unfold putI; simp
theorem putI_len {i : Idt} (h : identOK i = true) : (putI i).length ≤ 1000 := by
  obtain ⟨p0, p1, t0, t1, z0, z1⟩ := (identOK_iff i).1 h
  have hl := Lib.itoa_length_le i.time (by omega) (by omega)
  have hn := plain_len p0
  have he := plain_len p1
  unfold putI
  simp only [List.length_append, List.length_cons, List.length_nil, zone_len]
  omega
theorem go_cut_put {i : Idt} (h : identOK i = true) : S E F.names_cut [.str (putI i)] [] = some (.tup [.agg [.str i.name, .str i.email, .str (Lib.itoa i.time), .str (zoneT i.zone)], .bool true], []) := by
  obtain ⟨p0, p1, t0, t1, z0, z1⟩ := (identOK_iff i).1 h
  have hs := putI_len h
  obtain ⟨d0, _, _⟩ := itoa_dig t0
  have m1 := dig_ne d0 (x := 32) (by unfold isDig; decide)
  have m2 := zone_no32 z0 z1
  obtain ⟨_, _, e60, _⟩ := plain_mem p1
  have m3 : 60 ∉ i.email ++ [62] := by simp [e60]
  have hend : endsB (i.name ++ [32, 60] ++ (i.email ++ [62])) [62] = true := by
    rw [ends1]
    refine ⟨by simp, ?_⟩
    rw [← List.append_assoc]
    simp
  have hlen : (i.name ++ [32, 60] ++ (i.email ++ [62])).length = i.name.length + 2 + (i.email.length + 1) := by simp only [List.length_append, List.length_cons, List.length_nil]
  have := cut_d (s := putI i) (i := (i.name ++ [32, 60] ++ (i.email ++ [62]) ++ 32 :: Lib.itoa i.time).length) (r := i.name ++ [32, 60] ++ (i.email ++ [62]) ++ 32 :: Lib.itoa i.time) (z := zoneT i.zone) (j := (i.name ++ [32, 60] ++ (i.email ++ [62])).length) (q := i.name ++ [32, 60] ++ (i.email ++ [62])) (t := Lib.itoa i.time) (k := i.name.length)
    (by omega) (by rw [putI_eq]; exact lastB_app m2) (by rw [putI_eq]; simp) (by rw [putI_eq]; exact sub_pre) (by rw [putI_eq]; exact sub_post rfl (by simp only [List.length_append, List.length_cons]; omega))
    (lastB_app m1) (by simp) sub_pre (sub_post rfl (by simp only [List.length_append, List.length_cons]; omega)) (last_app m3) (by rw [hlen]; omega) hend
  rw [this]
  have e1 : sub (i.name ++ [32, 60] ++ (i.email ++ [62])) 0 i.name.length = i.name := by rw [List.append_assoc]; exact sub_pre
  have e2 : sub (i.name ++ [32, 60] ++ (i.email ++ [62])) (i.name.length + 2) ((i.name ++ [32, 60] ++ (i.email ++ [62])).length - 1 - (i.name.length + 2)) = i.email := by
    rw [hlen, show i.name.length + 2 + (i.email.length + 1) - 1 - (i.name.length + 2) = i.email.length by omega]
    unfold sub
    rw [List.drop_left' (by simp), List.take_left' rfl]
  rw [e1, e2]
theorem atoi_range {s : List UInt8} {v : Int} (h : Lib.atoiAll s = .ok v) : -9223372036854775808 ≤ v ∧ v < 9223372036854775808 := by
  unfold Lib.atoiAll at h
  split at h
  · cases h
  · dsimp only at h
    split at h
    · cases h
    · cases h
    · split at h
      · cases h
      · split at h
        · cases h
        · cases h
          split <;> omega
def zeroI : List AV := [.str [], .str [], .int .i64 0, .int .i64 0]
def errP : AV := .tup [.agg zeroI, .int .i64 4]
theorem go_parse_put {i : Idt} (h : identOK i = true) : S E F.names_ParseIdent [.str (putI i)] [] = some (.tup [.agg i.cells, .int .i64 0], []) := by
  obtain ⟨p0, p1, t0, t1, z0, z1⟩ := (identOK_iff i).1 h
  obtain ⟨a0, a1⟩ := zabs_range z0 z1
  have hs := putI_len h
  have hc := go_cut_put h
  have hl := Lib.itoa_length_le i.time (by omega) (by omega)
  obtain ⟨d0, d1, d2⟩ := itoa_dig t0
  have ht := S_atoi (s := Lib.itoa i.time) (by omega)
  rw [show atoiV (Lib.itoa i.time) = .tup [.int .i64 i.time, .nili] by unfold atoiV; rw [atoi_dig d2 d0 (by omega)]; simp only [d1]] at ht
  obtain ⟨q0, q1⟩ := zone4 (a := zabs i.zone / 60) (b := zabs i.zone % 60) (by omega) (by omega) (by omega) (by omega)
  have hz := S_atoi (s := two (zabs i.zone / 60) ++ two (zabs i.zone % 60)) (by simp only [two, List.length_append, List.length_cons, List.length_nil]; omega)
  rw [show atoiV (two (zabs i.zone / 60) ++ two (zabs i.zone % 60)) = .tup [.int .i64 (zabs i.zone / 60 * 100 + zabs i.zone % 60), .nili] by unfold atoiV; rw [atoi_dig (by simp [two]) q0 (by omega)]; simp only [q1]] at hz
  have e3 : sub (zoneT i.zone) 1 4 = two (zabs i.zone / 60) ++ two (zabs i.zone % 60) := rfl
  have e4 := zone_len i.zone
  have hp : S E F.names_PutIdent [.agg [.str i.name, .str i.email, .int .i64 i.time, .int .i64 i.zone]] [] = some (.tup [.str (putI i), .int .i64 0], []) := by
    have hp := go_putIdent (i := i)
    unfold putV at hp
    rw [if_pos h] at hp
    exact hp
  have e5 : (zabs i.zone / 60 * 100 + zabs i.zone % 60) / 100 * 60 + (zabs i.zone / 60 * 100 + zabs i.zone % 60) % 100 = zabs i.zone := by omega
  have e7 : (putI i != putI i) = false := by simp
  rw [S_of fn_names_ParseIdent rfl rfl]
  by_cases hn : i.zone < 0
  · have hz2 : zabs i.zone = - i.zone := by unfold zabs; rw [if_pos hn]
    have hb : bat (zoneT i.zone) 0 = 45 := by rw [zoneT_eq, if_pos hn]; rfl
    have e6 : 0 - zabs i.zone = i.zone := by omega
    simp (dsimp := false) (disch := first | omega | (simp only [LENs, two_length] <;> omega) | fail) only [L.names_ParseIdent, go_sem, reduceIte, reduceCtorEq, qn0, qn1, qn2, qn3, qn4, qn5, qn6, qn7, qn8, qi0, qi1, qi2, qi3, qi4, qi5, qi6, qi7, qi8, qi9, qi10, hc, ht, hz, e3, e4, tdiv_pos, tmod_pos, e5, hb, e6, hp, e7, Idt.cells]
  · have hz2 : zabs i.zone = i.zone := by unfold zabs; rw [if_neg hn]
    have hb : bat (zoneT i.zone) 0 = 43 := by rw [zoneT_eq, if_neg hn]; rfl
    rw [hz2] at hz e3 e5
    simp (dsimp := false) (disch := first | omega | (simp only [LENs, two_length] <;> omega) | fail) only [L.names_ParseIdent, go_sem, reduceIte, reduceCtorEq, qn0, qn1, qn2, qn3, qn4, qn5, qn6, qn7, qn8, qi0, qi1, qi2, qi3, qi4, qi5, qi6, qi7, qi8, qi9, qi10, hc, ht, hz, e3, e4, tdiv_pos, tmod_pos, e5, hb, hp, e7, Idt.cells]
theorem atoi_cases (s : List UInt8) : (∃ v, Lib.atoiAll s = .ok v ∧ atoiV s = .tup [.int .i64 v, .nili] ∧ -9223372036854775808 ≤ v ∧ v < 9223372036854775808) ∨ ∃ v T, atoiV s = .tup [.int .i64 v, .ifc T .junk] := by
  unfold atoiV
  split
  · rename_i v h
    left; exact ⟨v, h, rfl, atoi_range h⟩
  · right; exact ⟨_, _, rfl⟩
  · right; exact ⟨_, _, rfl⟩
theorem quo_rem {z : Int} (h0 : -9223372036854775808 ≤ z) (h1 : z < 9223372036854775808) : ∃ q r, z.tdiv 100 = q ∧ z.tmod 100 = r ∧ -92233720368547758 ≤ q ∧ q ≤ 92233720368547758 ∧ -100 < r ∧ r < 100 := by
  by_cases h : 0 ≤ z
  · exact ⟨_, _, rfl, rfl, by rw [Int.tdiv_eq_ediv_of_nonneg h]; omega, by rw [Int.tdiv_eq_ediv_of_nonneg h]; omega, by rw [Int.tmod_eq_emod_of_nonneg h]; omega, by rw [Int.tmod_eq_emod_of_nonneg h]; omega⟩
  · obtain ⟨y, rfl⟩ : ∃ y, z = -y := ⟨-z, by omega⟩
    rw [Int.neg_tdiv, Int.neg_tmod]
    exact ⟨_, _, rfl, rfl, by rw [Int.tdiv_eq_ediv_of_nonneg (by omega)]; omega, by rw [Int.tdiv_eq_ediv_of_nonneg (by omega)]; omega, by rw [Int.tmod_eq_emod_of_nonneg (by omega)]; omega, by rw [Int.tmod_eq_emod_of_nonneg (by omega)]; omega⟩
theorem put_no {s : List UInt8} (h : ∀ i, identOK i = true → putI i ≠ s) (a b : List UInt8) (t z : Int) : ∃ p e, S E F.names_PutIdent [.agg [.str a, .str b, .int .i64 t, .int .i64 z]] [] = some (.tup [.str p, .int .i64 e], []) ∧ (e = 3 ∨ e = 0 ∧ (p == s) = false) := by
  have hp := go_putIdent (i := ⟨a, b, t, z⟩)
  unfold putV at hp
  by_cases hi : identOK ⟨a, b, t, z⟩ = true
  · rw [if_pos hi] at hp
    exact ⟨_, _, hp, .inr ⟨rfl, by simpa using h _ hi⟩⟩
  · rw [if_neg hi] at hp
    exact ⟨_, _, hp, .inl rfl⟩
theorem go_parse_no {s : List UInt8} (hs : s.length ≤ 1000000000000) (h : ∀ i, identOK i = true → putI i ≠ s) : S E F.names_ParseIdent [.str s] [] = some (errP, []) := by
  obtain ⟨a, b, c, d, ok, hc, lc, ld⟩ := go_cut_any hs
  rw [S_of fn_names_ParseIdent rfl rfl]
  cases ok
  · simp (dsimp := false) (disch := first | omega | (simp only [LENs, two_length] <;> omega) | fail) only [L.names_ParseIdent, go_sem, reduceIte, reduceCtorEq, qn0, qn1, qn2, qn3, qn4, qn5, qn6, qn7, qn8, qi0, qi1, qi2, qi3, qi4, qi5, qi6, qi7, qi8, qi9, qi10, hc, errP, zeroI]
  · by_cases hd : d.length = 5
    · have ht := S_atoi (s := c) (by omega)
      have hsl : (sub d 1 4).length ≤ 4 := by unfold sub; rw [List.length_take]; omega
      have hz := S_atoi (s := sub d 1 4) (by omega)
      rcases atoi_cases c with ⟨t, _, e1, _⟩ | ⟨t, T1, e1⟩
      · rcases atoi_cases (sub d 1 4) with ⟨z, _, e2, z0, z1⟩ | ⟨z, T2, e2⟩
        · obtain ⟨q, r, hq, hr, q0, q1, r0, r1⟩ := quo_rem z0 z1
          rw [e1] at ht
          rw [e2] at hz
          by_cases hb : bat d 0 = 45
          · obtain ⟨p, e, hp, hpe⟩ := put_no h a b t (0 - (q * 60 + r))
            rcases hpe with rfl | ⟨rfl, hne⟩
            · simp (dsimp := false) (disch := first | omega | (simp only [LENs, two_length] <;> omega) | fail) only [L.names_ParseIdent, go_sem, reduceIte, reduceCtorEq, qn0, qn1, qn2, qn3, qn4, qn5, qn6, qn7, qn8, qi0, qi1, qi2, qi3, qi4, qi5, qi6, qi7, qi8, qi9, qi10, hc, ht, hz, hd, hq, hr, hb, hp, errP, zeroI]
            · simp (dsimp := false) (disch := first | omega | (simp only [LENs, two_length] <;> omega) | fail) only [L.names_ParseIdent, go_sem, reduceIte, reduceCtorEq, qn0, qn1, qn2, qn3, qn4, qn5, qn6, qn7, qn8, qi0, qi1, qi2, qi3, qi4, qi5, qi6, qi7, qi8, qi9, qi10, hc, ht, hz, hd, hq, hr, hb, hp, hne, errP, zeroI]
          · obtain ⟨p, e, hp, hpe⟩ := put_no h a b t (q * 60 + r)
            rcases hpe with rfl | ⟨rfl, hne⟩
            · simp (dsimp := false) (disch := first | omega | (simp only [LENs, two_length] <;> omega) | fail) only [L.names_ParseIdent, go_sem, reduceIte, reduceCtorEq, qn0, qn1, qn2, qn3, qn4, qn5, qn6, qn7, qn8, qi0, qi1, qi2, qi3, qi4, qi5, qi6, qi7, qi8, qi9, qi10, hc, ht, hz, hd, hq, hr, hb, hp, errP, zeroI]
            · simp (dsimp := false) (disch := first | omega | (simp only [LENs, two_length] <;> omega) | fail) only [L.names_ParseIdent, go_sem, reduceIte, reduceCtorEq, qn0, qn1, qn2, qn3, qn4, qn5, qn6, qn7, qn8, qi0, qi1, qi2, qi3, qi4, qi5, qi6, qi7, qi8, qi9, qi10, hc, ht, hz, hd, hq, hr, hb, hp, hne, errP, zeroI]
        · rw [e1] at ht
          rw [e2] at hz
          simp (dsimp := false) (disch := first | omega | (simp only [LENs, two_length] <;> omega) | fail) only [L.names_ParseIdent, go_sem, reduceIte, reduceCtorEq, qn0, qn1, qn2, qn3, qn4, qn5, qn6, qn7, qn8, qi0, qi1, qi2, qi3, qi4, qi5, qi6, qi7, qi8, qi9, qi10, hc, ht, hz, hd, errP, zeroI]
      · rw [e1] at ht
        rcases atoi_cases (sub d 1 4) with ⟨z, _, e2, z0, z1⟩ | ⟨z, T2, e2⟩
        · rw [e2] at hz
          simp (dsimp := false) (disch := first | omega | (simp only [LENs, two_length] <;> omega) | fail) only [L.names_ParseIdent, go_sem, reduceIte, reduceCtorEq, qn0, qn1, qn2, qn3, qn4, qn5, qn6, qn7, qn8, qi0, qi1, qi2, qi3, qi4, qi5, qi6, qi7, qi8, qi9, qi10, hc, ht, hz, hd, errP, zeroI]
        · rw [e2] at hz
          simp (dsimp := false) (disch := first | omega | (simp only [LENs, two_length] <;> omega) | fail) only [L.names_ParseIdent, go_sem, reduceIte, reduceCtorEq, qn0, qn1, qn2, qn3, qn4, qn5, qn6, qn7, qn8, qi0, qi1, qi2, qi3, qi4, qi5, qi6, qi7, qi8, qi9, qi10, hc, ht, hz, hd, errP, zeroI]
    · simp (dsimp := false) (disch := first | omega | (simp only [LENs, two_length] <;> omega) | fail) only [L.names_ParseIdent, go_sem, reduceIte, reduceCtorEq, qn0, qn1, qn2, qn3, qn4, qn5, qn6, qn7, qn8, qi0, qi1, qi2, qi3, qi4, qi5, qi6, qi7, qi8, qi9, qi10, hc, hd, errP, zeroI]
end Cod

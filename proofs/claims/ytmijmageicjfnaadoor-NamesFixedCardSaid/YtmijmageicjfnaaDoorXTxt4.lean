/- The laws NamesParts, NamesMay. -/
import Derived.Test.YtmijmageicjfnaaDoorXTxt3
set_option linter.unusedSimpArgs false
set_option linter.unusedVariables false
namespace Cod
open Go

theorem nameOK_len {s : List UInt8} (h : nameOK s = true) : s.length ≤ 100 := by
  unfold nameOK at h
  simp only [Bool.and_eq_true, decide_eq_true_eq] at h
  exact h.1.1.1.1.1.2
theorem ge_name {s : List UInt8} : S E F.names_Name [.str s] [] = some (.bool (nameOK s), []) := by
  by_cases h : s.length ≤ 1000000
  · exact S_ext ext0 (go_name h)
  · have e : nameOK s = false := by
      cases hn : nameOK s with
      | false => rfl
      | true => have := nameOK_len hn; omega
    rw [e, S_of fn_names_Name rfl rfl]
    have e1 : (s == []) = false := by
      cases s with
      | nil => simp at h
      | cons a t => rfl
    have e2 : (s == [46]) = false := by
      rw [← Bool.not_eq_true, beq_iff_eq]; intro he; rw [he] at h; simp at h
    have e3 : (s == [46, 46]) = false := by
      rw [← Bool.not_eq_true, beq_iff_eq]; intro he; rw [he] at h; simp at h
    simp (dsimp := false) (disch := first | omega | (simp only [strs_length, List.length_set, List.length_replicate, words_length, ofBytes_length, List.length_append, List.length_cons, List.length_nil, List.length_take, List.length_drop] <;> omega) | fail) only [L.names_Name, go_sem, reduceIte, reduceCtorEq, Nat.reduceEqDiff, Nat.reduceAdd, Nat.reduceSub, Nat.reduceMul, Nat.reduceDiv, Nat.reduceMod, Nat.reduceBEq, Nat.reduceLeDiff, Nat.reduceLT, Int.reduceEq, Int.reduceNe, Int.reduceLT, Int.reduceLE, Int.reduceBEq, Int.reduceBNe, Int.reduceToNat, Int.reduceAdd, Int.reduceSub, Int.reduceMul, Int.reduceNeg, e1, e2, e3]
end Cod

/- The law NamesFixed. -/
namespace Cod
open Go

def lg : List UInt8 := List.replicate 100 97
def fx1 : List (List UInt8) := [[97, 32, 98], [46, 46, 46], [46, 103, 105, 116, 120], lg, [255]]
def fx2 : List (List UInt8) := [[46, 71, 105, 116], [97, 47, 98], [], [46], [46, 46], lg ++ [97], [97, 0], [46, 71, 73, 84]]
def fx3 : List (List UInt8) := [[97, 47, 47, 98], [47, 97], [97, 47], [], [97, 47, 46, 46, 47, 98], [97, 47, 46, 103, 105, 116, 47, 98], lg ++ [47] ++ lg]
def fx4 : List (List UInt8) := [[114, 101, 102, 115, 47, 120], [114, 101, 102, 115, 47, 104, 101, 97, 100, 115, 47, 97, 46, 108, 111, 99, 107], [114, 101, 102, 115, 47, 104, 101, 97, 100, 115, 47, 97, 46, 46, 98], [109, 97, 105, 110], [114, 101, 102, 115, 47, 104, 101, 97, 100, 115, 47], [114, 101, 102, 115, 47, 104, 101, 97, 100, 115, 47, 46, 97], [114, 101, 102, 115, 47, 104, 101, 97, 100, 115, 47, 97, 46], [114, 101, 102, 115, 47, 104, 101, 97, 100, 115, 47, 97, 32, 98], [114, 101, 102, 115, 47, 104, 101, 97, 100, 115, 47, 97, 64, 123], [114, 101, 102, 115, 47, 104, 101, 97, 100, 115, 47, 97, 126], [104, 101, 97, 100], [82, 101, 102, 115, 47, 104, 101, 97, 100, 115, 47, 97], [114, 101, 102, 115, 47, 104, 101, 97, 100, 115, 47, 97, 127], [114, 101, 102, 115, 47, 47, 97]]
theorem fx1_ok : ∀ s ∈ fx1, nameOK s = true := by decide +kernel
theorem fx2_ok : ∀ s ∈ fx2, nameOK s = false := by decide +kernel
theorem fx3_ok : ∀ s ∈ fx3, pathOK s = false := by decide +kernel
theorem fx4_ok : ∀ s ∈ fx4, refOK s = false := by decide +kernel
theorem getD_mem {l : List (List UInt8)} {i : Nat} (h : i < l.length) : l.getD i [] ∈ l := by
  rw [List.getD_eq_getElem?_getD, List.getElem?_eq_getElem h, Option.getD_some]
  exact List.getElem_mem _
theorem fix_l0 (k : List It) : ∀ (m i : Nat), i + m = 100 →
    X E [.tmp 0] (.c L.law06_NamesFixed.x0 :: .lp [1, 25] L.law06_NamesFixed.x0 :: .blk 0 :: k) ⟨[(1, .str (List.replicate i 97)), (25, .int .i64 i)], []⟩ =
    X E [.tmp 0] k ⟨[(1, .str lg), (25, .int .i64 100), (26, .bool false)], []⟩ := by
  intro m
  induction m with
  | zero =>
    intro i h
    obtain rfl : i = 100 := by omega
    rw [X_in L.law06_NamesFixed.x0.eq_1]
    simp (dsimp := false) (disch := first | omega | (simp only [strs_length, List.length_set, List.length_replicate, words_length, ofBytes_length, List.length_append, List.length_cons, List.length_nil, List.length_take, List.length_drop] <;> omega) | fail) only [go_sem, reduceIte, reduceCtorEq, Nat.reduceEqDiff, Nat.reduceAdd, Nat.reduceSub, Nat.reduceMul, Nat.reduceDiv, Nat.reduceMod, Nat.reduceBEq, Nat.reduceLeDiff, Nat.reduceLT, Int.reduceEq, Int.reduceNe, Int.reduceLT, Int.reduceLE, Int.reduceBEq, Int.reduceBNe, Int.reduceToNat, Int.reduceAdd, Int.reduceSub, Int.reduceMul, Int.reduceNeg, Int.cast_ofNat_Int]
    rfl
  | succ m ih =>
    intro i h
    have := ih (i + 1) (by omega)
    rw [List.replicate_succ'] at this
    simp only [Int.natCast_add, Int.cast_ofNat_Int] at this
    have hl : i < 100 := by omega
    rw [X_in L.law06_NamesFixed.x0.eq_1]
    simp (dsimp := false) (disch := first | omega | (simp only [strs_length, List.length_set, List.length_replicate, words_length, ofBytes_length, List.length_append, List.length_cons, List.length_nil, List.length_take, List.length_drop] <;> omega) | fail) only [go_sem, reduceIte, reduceCtorEq, Nat.reduceEqDiff, Nat.reduceAdd, Nat.reduceSub, Nat.reduceMul, Nat.reduceDiv, Nat.reduceMod, Nat.reduceBEq, Nat.reduceLeDiff, Nat.reduceLT, Int.reduceEq, Int.reduceNe, Int.reduceLT, Int.reduceLE, Int.reduceBEq, Int.reduceBNe, Int.reduceToNat, Int.reduceAdd, Int.reduceSub, Int.reduceMul, Int.reduceNeg, this, hl]
theorem fix_l1 (k : List It) : ∀ (m i : Nat), i + m = fx1.length →
    X E [.tmp 0] (.c L.law06_NamesFixed.x1 :: .lp [1, 31, 32, 33] L.law06_NamesFixed.x1 :: .blk 2 :: k) ⟨[(1, .str lg), (31, .buf (.s 1000000 0) 0 0 5 1), (32, .int .i64 5), (33, .int .i64 i)], [(.s 1000000 0, ⟨0, true, true, false, strs fx1⟩)]⟩ =
    X E [.tmp 0] k ⟨[(1, .str lg), (31, .buf (.s 1000000 0) 0 0 5 1), (32, .int .i64 5), (33, .int .i64 5), (34, .bool false)], [(.s 1000000 0, ⟨0, true, true, false, strs fx1⟩)]⟩ := by
  have hlen : fx1.length = 5 := rfl
  intro m
  induction m with
  | zero =>
    intro i h
    obtain rfl : i = 5 := by omega
    rw [X_in L.law06_NamesFixed.x1.eq_1]
    simp (dsimp := false) (disch := first | omega | (simp only [strs_length, List.length_set, List.length_replicate, words_length, ofBytes_length, List.length_append, List.length_cons, List.length_nil, List.length_take, List.length_drop] <;> omega) | fail) only [go_sem, reduceIte, reduceCtorEq, Nat.reduceEqDiff, Nat.reduceAdd, Nat.reduceSub, Nat.reduceMul, Nat.reduceDiv, Nat.reduceMod, Nat.reduceBEq, Nat.reduceLeDiff, Nat.reduceLT, Int.reduceEq, Int.reduceNe, Int.reduceLT, Int.reduceLE, Int.reduceBEq, Int.reduceBNe, Int.reduceToNat, Int.reduceAdd, Int.reduceSub, Int.reduceMul, Int.reduceNeg, strs_length, flats_strs, hards_strs, leadss_strs, refsOfs_strs, rens_strs, strs_snoc, get_strs, Int.cast_ofNat_Int]
  | succ m ih =>
    intro i h
    have := ih (i + 1) (by omega)
    simp only [Int.natCast_add, Int.cast_ofNat_Int] at this
    have hl : i < 5 := by omega
    have hn := ge_name (s := fx1.getD i [])
    rw [fx1_ok _ (getD_mem (by omega))] at hn
    rw [X_in L.law06_NamesFixed.x1.eq_1]
    simp (dsimp := false) (disch := first | omega | (simp only [strs_length, List.length_set, List.length_replicate, words_length, ofBytes_length, List.length_append, List.length_cons, List.length_nil, List.length_take, List.length_drop] <;> omega) | fail) only [go_sem, reduceIte, reduceCtorEq, Nat.reduceEqDiff, Nat.reduceAdd, Nat.reduceSub, Nat.reduceMul, Nat.reduceDiv, Nat.reduceMod, Nat.reduceBEq, Nat.reduceLeDiff, Nat.reduceLT, Int.reduceEq, Int.reduceNe, Int.reduceLT, Int.reduceLE, Int.reduceBEq, Int.reduceBNe, Int.reduceToNat, Int.reduceAdd, Int.reduceSub, Int.reduceMul, Int.reduceNeg, strs_length, flats_strs, hards_strs, leadss_strs, refsOfs_strs, rens_strs, strs_snoc, get_strs, hlen, hl, hn, this, Bool.not_true]
theorem fix_l2 (k : List It) : ∀ (m i : Nat), i + m = fx2.length →
    X E [.tmp 0] (.c L.law06_NamesFixed.x2 :: .lp [1, 43, 44, 45] L.law06_NamesFixed.x2 :: .blk 4 :: k) ⟨[(1, .str lg), (43, .buf (.s 1000000 0) 0 0 8 1), (44, .int .i64 8), (45, .int .i64 i)], [(.s 1000000 0, ⟨0, true, true, false, strs fx2⟩)]⟩ =
    X E [.tmp 0] k ⟨[(1, .str lg), (43, .buf (.s 1000000 0) 0 0 8 1), (44, .int .i64 8), (45, .int .i64 8), (46, .bool false)], [(.s 1000000 0, ⟨0, true, true, false, strs fx2⟩)]⟩ := by
  have hlen : fx2.length = 8 := rfl
  intro m
  induction m with
  | zero =>
    intro i h
    obtain rfl : i = 8 := by omega
    rw [X_in L.law06_NamesFixed.x2.eq_1]
    simp (dsimp := false) (disch := first | omega | (simp only [strs_length, List.length_set, List.length_replicate, words_length, ofBytes_length, List.length_append, List.length_cons, List.length_nil, List.length_take, List.length_drop] <;> omega) | fail) only [go_sem, reduceIte, reduceCtorEq, Nat.reduceEqDiff, Nat.reduceAdd, Nat.reduceSub, Nat.reduceMul, Nat.reduceDiv, Nat.reduceMod, Nat.reduceBEq, Nat.reduceLeDiff, Nat.reduceLT, Int.reduceEq, Int.reduceNe, Int.reduceLT, Int.reduceLE, Int.reduceBEq, Int.reduceBNe, Int.reduceToNat, Int.reduceAdd, Int.reduceSub, Int.reduceMul, Int.reduceNeg, strs_length, flats_strs, hards_strs, leadss_strs, refsOfs_strs, rens_strs, strs_snoc, get_strs, Int.cast_ofNat_Int]
  | succ m ih =>
    intro i h
    have := ih (i + 1) (by omega)
    simp only [Int.natCast_add, Int.cast_ofNat_Int] at this
    have hl : i < 8 := by omega
    have hn := ge_name (s := fx2.getD i [])
    rw [fx2_ok _ (getD_mem (by omega))] at hn
    rw [X_in L.law06_NamesFixed.x2.eq_1]
    simp (dsimp := false) (disch := first | omega | (simp only [strs_length, List.length_set, List.length_replicate, words_length, ofBytes_length, List.length_append, List.length_cons, List.length_nil, List.length_take, List.length_drop] <;> omega) | fail) only [go_sem, reduceIte, reduceCtorEq, Nat.reduceEqDiff, Nat.reduceAdd, Nat.reduceSub, Nat.reduceMul, Nat.reduceDiv, Nat.reduceMod, Nat.reduceBEq, Nat.reduceLeDiff, Nat.reduceLT, Int.reduceEq, Int.reduceNe, Int.reduceLT, Int.reduceLE, Int.reduceBEq, Int.reduceBNe, Int.reduceToNat, Int.reduceAdd, Int.reduceSub, Int.reduceMul, Int.reduceNeg, strs_length, flats_strs, hards_strs, leadss_strs, refsOfs_strs, rens_strs, strs_snoc, get_strs, hlen, hl, hn, this]
theorem fix_l3 (k : List It) : ∀ (m i : Nat), i + m = fx3.length →
    X E [.tmp 0] (.c L.law06_NamesFixed.x3 :: .lp [1, 56, 57, 58] L.law06_NamesFixed.x3 :: .blk 6 :: k) ⟨[(1, .str lg), (56, .buf (.s 1000000 0) 0 0 7 1), (57, .int .i64 7), (58, .int .i64 i)], [(.s 1000000 0, ⟨0, true, true, false, strs fx3⟩)]⟩ =
    X E [.tmp 0] k ⟨[(1, .str lg), (56, .buf (.s 1000000 0) 0 0 7 1), (57, .int .i64 7), (58, .int .i64 7), (59, .bool false)], [(.s 1000000 0, ⟨0, true, true, false, strs fx3⟩)]⟩ := by
  have hlen : fx3.length = 7 := rfl
  intro m
  induction m with
  | zero =>
    intro i h
    obtain rfl : i = 7 := by omega
    rw [X_in L.law06_NamesFixed.x3.eq_1]
    simp (dsimp := false) (disch := first | omega | (simp only [strs_length, List.length_set, List.length_replicate, words_length, ofBytes_length, List.length_append, List.length_cons, List.length_nil, List.length_take, List.length_drop] <;> omega) | fail) only [go_sem, reduceIte, reduceCtorEq, Nat.reduceEqDiff, Nat.reduceAdd, Nat.reduceSub, Nat.reduceMul, Nat.reduceDiv, Nat.reduceMod, Nat.reduceBEq, Nat.reduceLeDiff, Nat.reduceLT, Int.reduceEq, Int.reduceNe, Int.reduceLT, Int.reduceLE, Int.reduceBEq, Int.reduceBNe, Int.reduceToNat, Int.reduceAdd, Int.reduceSub, Int.reduceMul, Int.reduceNeg, strs_length, flats_strs, hards_strs, leadss_strs, refsOfs_strs, rens_strs, strs_snoc, get_strs, Int.cast_ofNat_Int]
  | succ m ih =>
    intro i h
    have := ih (i + 1) (by omega)
    simp only [Int.natCast_add, Int.cast_ofNat_Int] at this
    have hl : i < 7 := by omega
    have hn := S_path (s := fx3.getD i [])
    rw [fx3_ok _ (getD_mem (by omega))] at hn
    rw [X_in L.law06_NamesFixed.x3.eq_1]
    simp (dsimp := false) (disch := first | omega | (simp only [strs_length, List.length_set, List.length_replicate, words_length, ofBytes_length, List.length_append, List.length_cons, List.length_nil, List.length_take, List.length_drop] <;> omega) | fail) only [go_sem, reduceIte, reduceCtorEq, Nat.reduceEqDiff, Nat.reduceAdd, Nat.reduceSub, Nat.reduceMul, Nat.reduceDiv, Nat.reduceMod, Nat.reduceBEq, Nat.reduceLeDiff, Nat.reduceLT, Int.reduceEq, Int.reduceNe, Int.reduceLT, Int.reduceLE, Int.reduceBEq, Int.reduceBNe, Int.reduceToNat, Int.reduceAdd, Int.reduceSub, Int.reduceMul, Int.reduceNeg, strs_length, flats_strs, hards_strs, leadss_strs, refsOfs_strs, rens_strs, strs_snoc, get_strs, hlen, hl, hn, this]
theorem fx4_len : ∀ s ∈ fx4, s.length ≤ 1000 := by decide
theorem fix_l4 (k : List It) : ∀ (m i : Nat), i + m = fx4.length →
    X E [.tmp 0] (.c L.law06_NamesFixed.x4 :: .lp [1, 65, 66, 67] L.law06_NamesFixed.x4 :: .blk 8 :: k) ⟨[(1, .str lg), (65, .buf (.s 1000000 0) 0 0 14 1), (66, .int .i64 14), (67, .int .i64 i)], [(.s 1000000 0, ⟨0, true, true, false, strs fx4⟩)]⟩ =
    X E [.tmp 0] k ⟨[(1, .str lg), (65, .buf (.s 1000000 0) 0 0 14 1), (66, .int .i64 14), (67, .int .i64 14), (68, .bool false)], [(.s 1000000 0, ⟨0, true, true, false, strs fx4⟩)]⟩ := by
  have hlen : fx4.length = 14 := rfl
  intro m
  induction m with
  | zero =>
    intro i h
    obtain rfl : i = 14 := by omega
    rw [X_in L.law06_NamesFixed.x4.eq_1]
    simp (dsimp := false) (disch := first | omega | (simp only [strs_length, List.length_set, List.length_replicate, words_length, ofBytes_length, List.length_append, List.length_cons, List.length_nil, List.length_take, List.length_drop] <;> omega) | fail) only [go_sem, reduceIte, reduceCtorEq, Nat.reduceEqDiff, Nat.reduceAdd, Nat.reduceSub, Nat.reduceMul, Nat.reduceDiv, Nat.reduceMod, Nat.reduceBEq, Nat.reduceLeDiff, Nat.reduceLT, Int.reduceEq, Int.reduceNe, Int.reduceLT, Int.reduceLE, Int.reduceBEq, Int.reduceBNe, Int.reduceToNat, Int.reduceAdd, Int.reduceSub, Int.reduceMul, Int.reduceNeg, strs_length, flats_strs, hards_strs, leadss_strs, refsOfs_strs, rens_strs, strs_snoc, get_strs, Int.cast_ofNat_Int]
  | succ m ih =>
    intro i h
    have := ih (i + 1) (by omega)
    simp only [Int.natCast_add, Int.cast_ofNat_Int] at this
    have hl : i < 14 := by omega
    have hmem := getD_mem (l := fx4) (i := i) (by omega)
    have hn := go_nref (s := fx4.getD i []) (by have := fx4_len _ hmem; omega)
    rw [fx4_ok _ hmem] at hn
    rw [X_in L.law06_NamesFixed.x4.eq_1]
    simp (dsimp := false) (disch := first | omega | (simp only [strs_length, List.length_set, List.length_replicate, words_length, ofBytes_length, List.length_append, List.length_cons, List.length_nil, List.length_take, List.length_drop] <;> omega) | fail) only [go_sem, reduceIte, reduceCtorEq, Nat.reduceEqDiff, Nat.reduceAdd, Nat.reduceSub, Nat.reduceMul, Nat.reduceDiv, Nat.reduceMod, Nat.reduceBEq, Nat.reduceLeDiff, Nat.reduceLT, Int.reduceEq, Int.reduceNe, Int.reduceLT, Int.reduceLE, Int.reduceBEq, Int.reduceBNe, Int.reduceToNat, Int.reduceAdd, Int.reduceSub, Int.reduceMul, Int.reduceNeg, strs_length, flats_strs, hards_strs, leadss_strs, refsOfs_strs, rens_strs, strs_snoc, get_strs, hlen, hl, hn, this]
/-- What the reference does not read is no ident's text. -/
theorem no_of_doc {s : List UInt8} (h : docOK s = false) : ∀ i, identOK i = true → putI i ≠ s := by
  intro i hi e
  have := (doc_put hi).2
  rw [e, h] at this
  cases this
theorem itoa5 : Lib.itoa 5 = [53] := by
  rw [show (5 : Int) = ((5 : Nat) : Int) from rfl, Lib.itoa_nonneg, Lib.decDigits_one (by omega)]; rfl
theorem doc_ne {s : List UInt8} {i : Idt} (h1 : docI s = i) (h2 : putI i ≠ s) : docOK s = false := by
  cases h : docOK s with
  | false => rfl
  | true =>
    unfold docOK at h
    simp only [Bool.and_eq_true, decide_eq_true_eq] at h
    rw [h1] at h
    exact absurd h.2.2 h2
def ts1 : List UInt8 := [65, 32, 60, 98, 62, 32, 48, 53, 32, 43, 48, 48, 48, 48]
def ts2 : List UInt8 := [65, 32, 60, 98, 62, 32, 53, 32, 45, 48, 48, 48, 48]
def ts3 : List UInt8 := [65, 32, 60, 98, 62, 32, 53, 32, 43, 48, 48, 54, 48]
def ts4 : List UInt8 := [65, 32, 60, 98, 62, 32, 53, 32, 43, 50, 52, 48, 48]
theorem put_at5 (a b : List UInt8) (z : Int) : putI ⟨a, b, 5, z⟩ = a ++ [32, 60] ++ b ++ [62, 32] ++ [53] ++ [32] ++ zoneT z := by
  unfold putI; rw [itoa5]
theorem ts1_no : docOK ts1 = false := doc_ne (i := ⟨[65], [98], 5, 0⟩) (by rfl) (by rw [put_at5]; decide)
theorem ts2_no : docOK ts2 = false := doc_ne (i := ⟨[65], [98], 5, 0⟩) (by rfl) (by rw [put_at5]; decide)
theorem ts3_no : docOK ts3 = false := doc_ne (i := ⟨[65], [98], 5, 60⟩) (by rfl) (by rw [put_at5]; decide)
theorem ts4_no : docOK ts4 = false := by
  have h : identOK (docI ts4) = false := by decide +kernel
  unfold docOK
  rw [h]; simp
theorem ts5_no : docOK [] = false := rfl
def fI : Idt := ⟨[], [], 5, 0⟩
theorem fI_ok : identOK fI = true := by decide
theorem fI_put : putI fI = [32, 60, 62, 32, 53, 32, 43, 48, 48, 48, 48] := by
  unfold fI; rw [put_at5]; rfl
def fT : Ety := ⟨16384, [97], List.replicate 32 0, rfl⟩
def fA : Ety := ⟨33188, [97, 46, 98], List.replicate 32 0, rfl⟩
def fB : Ety := ⟨33188, [97], List.replicate 32 0, rfl⟩
theorem ety_zero : lcat [AV.int .i64 0, .str []] (zer (.int .u8 0) 32) = (⟨0, [], List.replicate 32 0, rfl⟩ : Ety).cells := rfl
theorem ety_over0 {m k : Int} {n : List UInt8} : over (⟨m, n, List.replicate 32 0, rfl⟩ : Ety).cells 0 [.int .i64 k] = (⟨k, n, List.replicate 32 0, rfl⟩ : Ety).cells := rfl
theorem ety_over1 {m : Int} {n k : List UInt8} : over (⟨m, n, List.replicate 32 0, rfl⟩ : Ety).cells 1 [.str k] = (⟨m, k, List.replicate 32 0, rfl⟩ : Ety).cells := rfl
theorem ety_overA {m k : Int} {n l : List UInt8} : over (⟨m, n, List.replicate 32 0, rfl⟩ : Ety).cells 0 (⟨k, l, List.replicate 32 0, rfl⟩ : Ety).cells = (⟨k, l, List.replicate 32 0, rfl⟩ : Ety).cells := rfl
theorem idt_overZ : over [.str [], .str [], .int .i64 0, .int .i64 0] 0 [.str [], .str [], .int .i64 0, .int .i64 0] = [.str [], .str [], .int .i64 0, .int .i64 0] := rfl
theorem fin_r4 : X E [.tmp 0] [.c L.law06_NamesFixed.r4] ⟨[(1, .str lg), (65, .buf (.s 1000000 0) 0 0 14 1), (66, .int .i64 14), (67, .int .i64 14), (68, .bool false)], [(.s 1000000 0, ⟨0, true, true, false, strs fx4⟩)]⟩ = some (.bool true, []) := by
  have p1 := go_putIdent (i := fI)
  unfold putV at p1
  rw [if_pos fI_ok, fI_put] at p1
  simp only [Idt.cells, fI] at p1
  have q1 := go_parse_no (s := ts1) (by decide) (no_of_doc ts1_no)
  have q2 := go_parse_no (s := ts2) (by decide) (no_of_doc ts2_no)
  have q3 := go_parse_no (s := ts3) (by decide) (no_of_doc ts3_no)
  have q4 := go_parse_no (s := ts4) (by decide) (no_of_doc ts4_no)
  have q5 := go_parse_no (s := []) (by decide) (no_of_doc ts5_no)
  unfold errP zeroI at q1 q2 q3 q4 q5
  unfold ts1 at q1
  unfold ts2 at q2
  unfold ts3 at q3
  unfold ts4 at q4
  have r1 := go_nref (s := [114, 101, 102, 115, 47, 104, 101, 97, 100, 115, 47, 109, 97, 105, 110]) (by decide)
  have r2 := go_nref (s := [72, 69, 65, 68]) (by decide)
  have r3 := go_nref (s := [114, 101, 102, 115, 47, 104, 101, 97, 100, 115, 47, 64]) (by decide)
  rw [show refOK [114, 101, 102, 115, 47, 104, 101, 97, 100, 115, 47, 109, 97, 105, 110] = true by decide +kernel] at r1
  rw [show refOK [72, 69, 65, 68] = true by decide +kernel] at r2
  rw [show refOK [114, 101, 102, 115, 47, 104, 101, 97, 100, 115, 47, 64] = true by decide +kernel] at r3
  have w1 := S_path (s := lg ++ [47] ++ sub lg 1 99)
  rw [show pathOK (lg ++ [47] ++ sub lg 1 99) = true by decide +kernel] at w1
  have o1 := go_nOrder (a := fT) (b := fA) (by decide) (by decide)
  have o2 := go_nOrder (a := fB) (b := fT) (by decide) (by decide)
  rw [show cmpB (keyE fT) (keyE fA) = 1 by decide +kernel] at o1
  rw [show cmpB (keyE fB) (keyE fT) = -1 by decide +kernel] at o2
  have hl : lg.length = 100 := by decide
  unfold fT fA at o1
  unfold fB fT at o2
  have hln : (lg ++ [47]).length + (sub lg 1 99).length ≤ 9223372036854775807 := by decide
  simp (dsimp := false) (disch := first | omega | (simp only [strs_length, List.length_set, List.length_replicate, words_length, ofBytes_length, List.length_append, List.length_cons, List.length_nil, List.length_take, List.length_drop] <;> omega) | fail) only [L.law06_NamesFixed.r4, go_sem, reduceIte, reduceCtorEq, Nat.reduceEqDiff, Nat.reduceAdd, Nat.reduceSub, Nat.reduceMul, Nat.reduceDiv, Nat.reduceMod, Nat.reduceBEq, Nat.reduceLeDiff, Nat.reduceLT, Int.reduceEq, Int.reduceNe, Int.reduceLT, Int.reduceLE, Int.reduceBEq, Int.reduceBNe, Int.reduceToNat, Int.reduceAdd, Int.reduceSub, Int.reduceMul, Int.reduceNeg, ety_zero, ety_over0, ety_over1, ety_overA, p1, q1, q2, q3, q4, q5, r1, r2, r3, hl, w1, o1, o2, beq_self_eq_true, idt_overZ, hln]
theorem go_namesFixed : S E F.law06_NamesFixed [] [] = some (.bool true, []) := by
  have h0 := fix_l0 [.c L.law06_NamesFixed.r0] 100 0 rfl
  have h1 := fix_l1 [.c L.law06_NamesFixed.r1] 5 0 rfl
  have h2 := fix_l2 [.c L.law06_NamesFixed.r2] 8 0 rfl
  have h3 := fix_l3 [.c L.law06_NamesFixed.r3] 7 0 rfl
  have h4 := fix_l4 [.c L.law06_NamesFixed.r4] 14 0 rfl
  rw [fin_r4] at h4
  simp only [Int.cast_ofNat_Int, List.replicate_zero] at h0 h1 h2 h3 h4
  have hl : lg.length = 100 := by decide
  have hl3 : (lg ++ [47]).length + lg.length ≤ 9223372036854775807 := by decide
  have f1 : [AV.str [97, 32, 98], .str [46, 46, 46], .str [46, 103, 105, 116, 120], .str lg, .str [255]] = strs fx1 := rfl
  have f2 : [AV.str [46, 71, 105, 116], .str [97, 47, 98], .str [], .str [46], .str [46, 46], .str (lg ++ [97]), .str [97, 0], .str [46, 71, 73, 84]] = strs fx2 := rfl
  have f3 : [AV.str [97, 47, 47, 98], .str [47, 97], .str [97, 47], .str [], .str [97, 47, 46, 46, 47, 98], .str [97, 47, 46, 103, 105, 116, 47, 98], .str (lg ++ [47] ++ lg)] = strs fx3 := rfl
  have f4 : [AV.str [114, 101, 102, 115, 47, 120], .str [114, 101, 102, 115, 47, 104, 101, 97, 100, 115, 47, 97, 46, 108, 111, 99, 107], .str [114, 101, 102, 115, 47, 104, 101, 97, 100, 115, 47, 97, 46, 46, 98], .str [109, 97, 105, 110], .str [114, 101, 102, 115, 47, 104, 101, 97, 100, 115, 47], .str [114, 101, 102, 115, 47, 104, 101, 97, 100, 115, 47, 46, 97], .str [114, 101, 102, 115, 47, 104, 101, 97, 100, 115, 47, 97, 46], .str [114, 101, 102, 115, 47, 104, 101, 97, 100, 115, 47, 97, 32, 98], .str [114, 101, 102, 115, 47, 104, 101, 97, 100, 115, 47, 97, 64, 123], .str [114, 101, 102, 115, 47, 104, 101, 97, 100, 115, 47, 97, 126], .str [104, 101, 97, 100], .str [82, 101, 102, 115, 47, 104, 101, 97, 100, 115, 47, 97], .str [114, 101, 102, 115, 47, 104, 101, 97, 100, 115, 47, 97, 127], .str [114, 101, 102, 115, 47, 47, 97]] = strs fx4 := rfl
  rw [S_of fn_law06_NamesFixed rfl rfl]
  simp (dsimp := false) (disch := first | omega | (simp only [strs_length, List.length_set, List.length_replicate, words_length, ofBytes_length, List.length_append, List.length_cons, List.length_nil, List.length_take, List.length_drop] <;> omega) | fail) only [L.law06_NamesFixed, go_sem, reduceIte, reduceCtorEq, Nat.reduceEqDiff, Nat.reduceAdd, Nat.reduceSub, Nat.reduceMul, Nat.reduceDiv, Nat.reduceMod, Nat.reduceBEq, Nat.reduceLeDiff, Nat.reduceLT, Int.reduceEq, Int.reduceNe, Int.reduceLT, Int.reduceLE, Int.reduceBEq, Int.reduceBNe, Int.reduceToNat, Int.reduceAdd, Int.reduceSub, Int.reduceMul, Int.reduceNeg, go_awake, Bool.not_true]
  rw [h0]
  simp (dsimp := false) (disch := first | omega | (simp only [strs_length, List.length_set, List.length_replicate, words_length, ofBytes_length, List.length_append, List.length_cons, List.length_nil, List.length_take, List.length_drop] <;> omega) | fail) only [L.law06_NamesFixed.r0, go_sem, reduceIte, reduceCtorEq, Nat.reduceEqDiff, Nat.reduceAdd, Nat.reduceSub, Nat.reduceMul, Nat.reduceDiv, Nat.reduceMod, Nat.reduceBEq, Nat.reduceLeDiff, Nat.reduceLT, Int.reduceEq, Int.reduceNe, Int.reduceLT, Int.reduceLE, Int.reduceBEq, Int.reduceBNe, Int.reduceToNat, Int.reduceAdd, Int.reduceSub, Int.reduceMul, Int.reduceNeg, strs_length, flats_strs, hards_strs, leadss_strs, refsOfs_strs, rens_strs, strs_snoc, get_strs, f1, Int.cast_ofNat_Int]
  rw [h1]
  simp (dsimp := false) (disch := first | omega | (simp only [strs_length, List.length_set, List.length_replicate, words_length, ofBytes_length, List.length_append, List.length_cons, List.length_nil, List.length_take, List.length_drop] <;> omega) | fail) only [L.law06_NamesFixed.r1, go_sem, reduceIte, reduceCtorEq, Nat.reduceEqDiff, Nat.reduceAdd, Nat.reduceSub, Nat.reduceMul, Nat.reduceDiv, Nat.reduceMod, Nat.reduceBEq, Nat.reduceLeDiff, Nat.reduceLT, Int.reduceEq, Int.reduceNe, Int.reduceLT, Int.reduceLE, Int.reduceBEq, Int.reduceBNe, Int.reduceToNat, Int.reduceAdd, Int.reduceSub, Int.reduceMul, Int.reduceNeg, strs_length, flats_strs, hards_strs, leadss_strs, refsOfs_strs, rens_strs, strs_snoc, get_strs, hl, f2, Int.cast_ofNat_Int]
  rw [h2]
  simp (dsimp := false) (disch := first | omega | (simp only [strs_length, List.length_set, List.length_replicate, words_length, ofBytes_length, List.length_append, List.length_cons, List.length_nil, List.length_take, List.length_drop] <;> omega) | fail) only [L.law06_NamesFixed.r2, go_sem, reduceIte, reduceCtorEq, Nat.reduceEqDiff, Nat.reduceAdd, Nat.reduceSub, Nat.reduceMul, Nat.reduceDiv, Nat.reduceMod, Nat.reduceBEq, Nat.reduceLeDiff, Nat.reduceLT, Int.reduceEq, Int.reduceNe, Int.reduceLT, Int.reduceLE, Int.reduceBEq, Int.reduceBNe, Int.reduceToNat, Int.reduceAdd, Int.reduceSub, Int.reduceMul, Int.reduceNeg, strs_length, flats_strs, hards_strs, leadss_strs, refsOfs_strs, rens_strs, strs_snoc, get_strs, hl, hl3, f3, Int.cast_ofNat_Int]
  rw [h3]
  simp (dsimp := false) (disch := first | omega | (simp only [strs_length, List.length_set, List.length_replicate, words_length, ofBytes_length, List.length_append, List.length_cons, List.length_nil, List.length_take, List.length_drop] <;> omega) | fail) only [L.law06_NamesFixed.r3, go_sem, reduceIte, reduceCtorEq, Nat.reduceEqDiff, Nat.reduceAdd, Nat.reduceSub, Nat.reduceMul, Nat.reduceDiv, Nat.reduceMod, Nat.reduceBEq, Nat.reduceLeDiff, Nat.reduceLT, Int.reduceEq, Int.reduceNe, Int.reduceLT, Int.reduceLE, Int.reduceBEq, Int.reduceBNe, Int.reduceToNat, Int.reduceAdd, Int.reduceSub, Int.reduceMul, Int.reduceNeg, strs_length, flats_strs, hards_strs, leadss_strs, refsOfs_strs, rens_strs, strs_snoc, get_strs, f4, Int.cast_ofNat_Int]
  exact h4
end Cod


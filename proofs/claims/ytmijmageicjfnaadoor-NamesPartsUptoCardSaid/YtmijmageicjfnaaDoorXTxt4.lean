/- The laws NamesParts, NamesMay. -/
import Derived.Test.YtmijmageicjfnaaDoorXTxt3
set_option linter.unusedSimpArgs false
set_option linter.unusedVariables false
namespace Cod
open Go

theorem nameOK_len {s : List UInt8} (h : nameOK s = true) : s.length ≤ 100 := by
  unfold nameOK at h
  simp only [Bool.and_eq_true, decide_eq_true_eq] at h
  exact h.1.1.1.1.1.2
theorem ge_name {s : List UInt8} : S E F.names_Name [.str s] [] = some (.bool (nameOK s), []) := by
  by_cases h : s.length ≤ 1000000
  · exact S_ext ext0 (go_name h)
  · have e : nameOK s = false := by
      cases hn : nameOK s with
      | false => rfl
      | true => have := nameOK_len hn; omega
    rw [e, S_of fn_names_Name rfl rfl]
    have e1 : (s == []) = false := by
      cases s with
      | nil => simp at h
      | cons a t => rfl
    have e2 : (s == [46]) = false := by
      rw [← Bool.not_eq_true, beq_iff_eq]; intro he; rw [he] at h; simp at h
    have e3 : (s == [46, 46]) = false := by
      rw [← Bool.not_eq_true, beq_iff_eq]; intro he; rw [he] at h; simp at h
    simp (dsimp := false) (disch := first | omega | (simp only [strs_length, List.length_set, List.length_replicate, words_length, ofBytes_length, List.length_append, List.length_cons, List.length_nil, List.length_take, List.length_drop] <;> omega) | fail) only [L.names_Name, go_sem, reduceIte, reduceCtorEq, Nat.reduceEqDiff, Nat.reduceAdd, Nat.reduceSub, Nat.reduceMul, Nat.reduceDiv, Nat.reduceMod, Nat.reduceBEq, Nat.reduceLeDiff, Nat.reduceLT, Int.reduceEq, Int.reduceNe, Int.reduceLT, Int.reduceLE, Int.reduceBEq, Int.reduceBNe, Int.reduceToNat, Int.reduceAdd, Int.reduceSub, Int.reduceMul, Int.reduceNeg, e1, e2, e3]
theorem parts_app (a b : List UInt8) : parts (a ++ 47 :: b) = parts a ++ parts b := by
  induction a with
  | nil =>
    show parts (47 :: b) = [] :: parts b
    rw [parts, if_pos rfl]
  | cons c t ih =>
    rw [List.cons_append, parts, parts, ih]
    by_cases hc : c = 47
    · rw [if_pos hc, if_pos hc]; rfl
    · rw [if_neg hc, if_neg hc]
      obtain ⟨p, r, hp⟩ := parts_ne t
      rw [hp]; rfl
theorem parts_one {a : List UInt8} (h : 47 ∉ a) : parts a = [a] := by
  induction a with
  | nil => rfl
  | cons c t ih =>
    have hc : c ≠ 47 := fun e => h (by rw [e]; exact List.mem_cons_self)
    rw [parts, if_neg hc, ih (fun e => h (List.mem_cons_of_mem _ e))]
theorem path_join {a b : List UInt8} (h : a.length + b.length + 1 ≤ 200) : pathOK (a ++ [47] ++ b) = (pathOK a && pathOK b) := by
  unfold pathOK
  rw [List.append_assoc, List.singleton_append, parts_app, List.all_append]
  rw [decide_eq_true (show (a ++ 47 :: b).length ≤ 200 by rw [List.length_append, List.length_cons]; omega), decide_eq_true (show a.length ≤ 200 by omega), decide_eq_true (show b.length ≤ 200 by omega)]
  simp
theorem path_name {a : List UInt8} (h : a.contains 47 = false) : pathOK a = nameOK a := by
  have h47 : 47 ∉ a := by simpa using h
  unfold pathOK
  rw [parts_one h47, List.all_cons, List.all_nil, Bool.and_true]
  cases hn : nameOK a with
  | false => simp
  | true => have := nameOK_len hn; simp; omega
theorem go_namesParts {a b : List UInt8} (ha : a.length ≤ 100000000) (hb : b.length ≤ 100000000) : S E F.law06_NamesParts [.str a, .str b] [] = some (.bool true, []) := by
  have n1 := ge_name (s := a)
  have p1 := S_path (s := a)
  have p2 := S_path (s := b)
  have p3 := S_path (s := a ++ [47] ++ b)
  have r1 := go_nref (s := a) (by omega)
  have c1 := go_rhas (s := a) (by omega) (c := 47) (by omega) (by omega)
  rw [show byt 47 = 47 from rfl] at c1
  have q1 := go_rparts (s := a) (by omega)
  have hlen := parts_length a
  have hbb : ∀ b : Bool, (b == b) = true := by simp
  have hjoin : a.length + b.length + 1 ≤ 200 → pathOK (a ++ [47] ++ b) = (pathOK a && pathOK b) := path_join
  have hone : a.contains 47 = false → pathOK a = nameOK a := path_name
  have href : refOK a = true → (a == [72, 69, 65, 68]) = false → 3 ≤ (parts a).length := by
    intro h1 h2
    unfold refOK at h1
    rw [show (a == headT) = false from h2] at h1
    simp only [Bool.false_or, Bool.and_eq_true, decide_eq_true_eq] at h1
    exact h1.1
  rw [S_of fn_law06_NamesParts rfl rfl]
  generalize pathOK (a ++ [47] ++ b) = pj at *
  generalize pathOK a = pa at *
  generalize pathOK b = pb at *
  generalize nameOK a = na at *
  generalize refOK a = ra at *
  cases hc : a.contains 47 with
  | true =>
    rw [hc] at c1
    by_cases hl : a.length + b.length + 1 ≤ 200
    · rw [hjoin hl] at p3
      cases ra with
      | false => cases pa <;> simp (dsimp := false) (disch := first | omega | (simp only [strs_length, List.length_set, List.length_replicate, words_length, ofBytes_length, List.length_append, List.length_cons, List.length_nil, List.length_take, List.length_drop] <;> omega) | fail) only [L.law06_NamesParts, go_sem, reduceIte, reduceCtorEq, Nat.reduceEqDiff, Nat.reduceAdd, Nat.reduceSub, Nat.reduceMul, Nat.reduceDiv, Nat.reduceMod, Nat.reduceBEq, Nat.reduceLeDiff, Nat.reduceLT, Int.reduceEq, Int.reduceNe, Int.reduceLT, Int.reduceLE, Int.reduceBEq, Int.reduceBNe, Int.reduceToNat, Int.reduceAdd, Int.reduceSub, Int.reduceMul, Int.reduceNeg, strs_length, flats_strs, hards_strs, leadss_strs, refsOfs_strs, rens_strs, strs_snoc, get_strs, go_awake, n1, p1, p2, p3, r1, c1, hl, hbb, Bool.not_true, Bool.not_false, Bool.true_and, Bool.false_and]
      | true =>
        cases he : a == [72, 69, 65, 68] with
        | true => cases pa <;> simp (dsimp := false) (disch := first | omega | (simp only [strs_length, List.length_set, List.length_replicate, words_length, ofBytes_length, List.length_append, List.length_cons, List.length_nil, List.length_take, List.length_drop] <;> omega) | fail) only [L.law06_NamesParts, go_sem, reduceIte, reduceCtorEq, Nat.reduceEqDiff, Nat.reduceAdd, Nat.reduceSub, Nat.reduceMul, Nat.reduceDiv, Nat.reduceMod, Nat.reduceBEq, Nat.reduceLeDiff, Nat.reduceLT, Int.reduceEq, Int.reduceNe, Int.reduceLT, Int.reduceLE, Int.reduceBEq, Int.reduceBNe, Int.reduceToNat, Int.reduceAdd, Int.reduceSub, Int.reduceMul, Int.reduceNeg, strs_length, flats_strs, hards_strs, leadss_strs, refsOfs_strs, rens_strs, strs_snoc, get_strs, go_awake, n1, p1, p2, p3, r1, c1, hl, hbb, he, Bool.not_true, Bool.not_false, Bool.true_and, Bool.false_and]
        | false =>
          have h3 := href rfl he
          cases pa <;> simp (dsimp := false) (disch := first | omega | (simp only [strs_length, List.length_set, List.length_replicate, words_length, ofBytes_length, List.length_append, List.length_cons, List.length_nil, List.length_take, List.length_drop] <;> omega) | fail) only [L.law06_NamesParts, go_sem, reduceIte, reduceCtorEq, Nat.reduceEqDiff, Nat.reduceAdd, Nat.reduceSub, Nat.reduceMul, Nat.reduceDiv, Nat.reduceMod, Nat.reduceBEq, Nat.reduceLeDiff, Nat.reduceLT, Int.reduceEq, Int.reduceNe, Int.reduceLT, Int.reduceLE, Int.reduceBEq, Int.reduceBNe, Int.reduceToNat, Int.reduceAdd, Int.reduceSub, Int.reduceMul, Int.reduceNeg, strs_length, flats_strs, hards_strs, leadss_strs, refsOfs_strs, rens_strs, strs_snoc, get_strs, go_awake, n1, p1, p2, p3, r1, c1, q1, hl, h3, hbb, he, Bool.not_true, Bool.not_false, Bool.true_and, Bool.false_and]
    · cases ra with
      | false => cases pa <;> simp (dsimp := false) (disch := first | omega | (simp only [strs_length, List.length_set, List.length_replicate, words_length, ofBytes_length, List.length_append, List.length_cons, List.length_nil, List.length_take, List.length_drop] <;> omega) | fail) only [L.law06_NamesParts, go_sem, reduceIte, reduceCtorEq, Nat.reduceEqDiff, Nat.reduceAdd, Nat.reduceSub, Nat.reduceMul, Nat.reduceDiv, Nat.reduceMod, Nat.reduceBEq, Nat.reduceLeDiff, Nat.reduceLT, Int.reduceEq, Int.reduceNe, Int.reduceLT, Int.reduceLE, Int.reduceBEq, Int.reduceBNe, Int.reduceToNat, Int.reduceAdd, Int.reduceSub, Int.reduceMul, Int.reduceNeg, strs_length, flats_strs, hards_strs, leadss_strs, refsOfs_strs, rens_strs, strs_snoc, get_strs, go_awake, n1, p1, p2, p3, r1, c1, hl, hbb, Bool.not_true, Bool.not_false, Bool.true_and, Bool.false_and]
      | true =>
        cases he : a == [72, 69, 65, 68] with
        | true => cases pa <;> simp (dsimp := false) (disch := first | omega | (simp only [strs_length, List.length_set, List.length_replicate, words_length, ofBytes_length, List.length_append, List.length_cons, List.length_nil, List.length_take, List.length_drop] <;> omega) | fail) only [L.law06_NamesParts, go_sem, reduceIte, reduceCtorEq, Nat.reduceEqDiff, Nat.reduceAdd, Nat.reduceSub, Nat.reduceMul, Nat.reduceDiv, Nat.reduceMod, Nat.reduceBEq, Nat.reduceLeDiff, Nat.reduceLT, Int.reduceEq, Int.reduceNe, Int.reduceLT, Int.reduceLE, Int.reduceBEq, Int.reduceBNe, Int.reduceToNat, Int.reduceAdd, Int.reduceSub, Int.reduceMul, Int.reduceNeg, strs_length, flats_strs, hards_strs, leadss_strs, refsOfs_strs, rens_strs, strs_snoc, get_strs, go_awake, n1, p1, p2, p3, r1, c1, hl, hbb, he, Bool.not_true, Bool.not_false, Bool.true_and, Bool.false_and]
        | false =>
          have h3 := href rfl he
          cases pa <;> simp (dsimp := false) (disch := first | omega | (simp only [strs_length, List.length_set, List.length_replicate, words_length, ofBytes_length, List.length_append, List.length_cons, List.length_nil, List.length_take, List.length_drop] <;> omega) | fail) only [L.law06_NamesParts, go_sem, reduceIte, reduceCtorEq, Nat.reduceEqDiff, Nat.reduceAdd, Nat.reduceSub, Nat.reduceMul, Nat.reduceDiv, Nat.reduceMod, Nat.reduceBEq, Nat.reduceLeDiff, Nat.reduceLT, Int.reduceEq, Int.reduceNe, Int.reduceLT, Int.reduceLE, Int.reduceBEq, Int.reduceBNe, Int.reduceToNat, Int.reduceAdd, Int.reduceSub, Int.reduceMul, Int.reduceNeg, strs_length, flats_strs, hards_strs, leadss_strs, refsOfs_strs, rens_strs, strs_snoc, get_strs, go_awake, n1, p1, p2, p3, r1, c1, q1, hl, h3, hbb, he, Bool.not_true, Bool.not_false, Bool.true_and, Bool.false_and]
  | false =>
    rw [hc] at c1
    have h1 := hone hc
    subst h1
    by_cases hl : a.length + b.length + 1 ≤ 200
    · rw [hjoin hl] at p3
      cases ra with
      | false => cases pa <;> simp (dsimp := false) (disch := first | omega | (simp only [strs_length, List.length_set, List.length_replicate, words_length, ofBytes_length, List.length_append, List.length_cons, List.length_nil, List.length_take, List.length_drop] <;> omega) | fail) only [L.law06_NamesParts, go_sem, reduceIte, reduceCtorEq, Nat.reduceEqDiff, Nat.reduceAdd, Nat.reduceSub, Nat.reduceMul, Nat.reduceDiv, Nat.reduceMod, Nat.reduceBEq, Nat.reduceLeDiff, Nat.reduceLT, Int.reduceEq, Int.reduceNe, Int.reduceLT, Int.reduceLE, Int.reduceBEq, Int.reduceBNe, Int.reduceToNat, Int.reduceAdd, Int.reduceSub, Int.reduceMul, Int.reduceNeg, strs_length, flats_strs, hards_strs, leadss_strs, refsOfs_strs, rens_strs, strs_snoc, get_strs, go_awake, n1, p1, p2, p3, r1, c1, hl, hbb, Bool.not_true, Bool.not_false, Bool.true_and, Bool.false_and]
      | true =>
        cases he : a == [72, 69, 65, 68] with
        | true => cases pa <;> simp (dsimp := false) (disch := first | omega | (simp only [strs_length, List.length_set, List.length_replicate, words_length, ofBytes_length, List.length_append, List.length_cons, List.length_nil, List.length_take, List.length_drop] <;> omega) | fail) only [L.law06_NamesParts, go_sem, reduceIte, reduceCtorEq, Nat.reduceEqDiff, Nat.reduceAdd, Nat.reduceSub, Nat.reduceMul, Nat.reduceDiv, Nat.reduceMod, Nat.reduceBEq, Nat.reduceLeDiff, Nat.reduceLT, Int.reduceEq, Int.reduceNe, Int.reduceLT, Int.reduceLE, Int.reduceBEq, Int.reduceBNe, Int.reduceToNat, Int.reduceAdd, Int.reduceSub, Int.reduceMul, Int.reduceNeg, strs_length, flats_strs, hards_strs, leadss_strs, refsOfs_strs, rens_strs, strs_snoc, get_strs, go_awake, n1, p1, p2, p3, r1, c1, hl, hbb, he, Bool.not_true, Bool.not_false, Bool.true_and, Bool.false_and]
        | false =>
          have h3 := href rfl he
          cases pa <;> simp (dsimp := false) (disch := first | omega | (simp only [strs_length, List.length_set, List.length_replicate, words_length, ofBytes_length, List.length_append, List.length_cons, List.length_nil, List.length_take, List.length_drop] <;> omega) | fail) only [L.law06_NamesParts, go_sem, reduceIte, reduceCtorEq, Nat.reduceEqDiff, Nat.reduceAdd, Nat.reduceSub, Nat.reduceMul, Nat.reduceDiv, Nat.reduceMod, Nat.reduceBEq, Nat.reduceLeDiff, Nat.reduceLT, Int.reduceEq, Int.reduceNe, Int.reduceLT, Int.reduceLE, Int.reduceBEq, Int.reduceBNe, Int.reduceToNat, Int.reduceAdd, Int.reduceSub, Int.reduceMul, Int.reduceNeg, strs_length, flats_strs, hards_strs, leadss_strs, refsOfs_strs, rens_strs, strs_snoc, get_strs, go_awake, n1, p1, p2, p3, r1, c1, q1, hl, h3, hbb, he, Bool.not_true, Bool.not_false, Bool.true_and, Bool.false_and]
    · cases ra with
      | false => cases pa <;> simp (dsimp := false) (disch := first | omega | (simp only [strs_length, List.length_set, List.length_replicate, words_length, ofBytes_length, List.length_append, List.length_cons, List.length_nil, List.length_take, List.length_drop] <;> omega) | fail) only [L.law06_NamesParts, go_sem, reduceIte, reduceCtorEq, Nat.reduceEqDiff, Nat.reduceAdd, Nat.reduceSub, Nat.reduceMul, Nat.reduceDiv, Nat.reduceMod, Nat.reduceBEq, Nat.reduceLeDiff, Nat.reduceLT, Int.reduceEq, Int.reduceNe, Int.reduceLT, Int.reduceLE, Int.reduceBEq, Int.reduceBNe, Int.reduceToNat, Int.reduceAdd, Int.reduceSub, Int.reduceMul, Int.reduceNeg, strs_length, flats_strs, hards_strs, leadss_strs, refsOfs_strs, rens_strs, strs_snoc, get_strs, go_awake, n1, p1, p2, p3, r1, c1, hl, hbb, Bool.not_true, Bool.not_false, Bool.true_and, Bool.false_and]
      | true =>
        cases he : a == [72, 69, 65, 68] with
        | true => cases pa <;> simp (dsimp := false) (disch := first | omega | (simp only [strs_length, List.length_set, List.length_replicate, words_length, ofBytes_length, List.length_append, List.length_cons, List.length_nil, List.length_take, List.length_drop] <;> omega) | fail) only [L.law06_NamesParts, go_sem, reduceIte, reduceCtorEq, Nat.reduceEqDiff, Nat.reduceAdd, Nat.reduceSub, Nat.reduceMul, Nat.reduceDiv, Nat.reduceMod, Nat.reduceBEq, Nat.reduceLeDiff, Nat.reduceLT, Int.reduceEq, Int.reduceNe, Int.reduceLT, Int.reduceLE, Int.reduceBEq, Int.reduceBNe, Int.reduceToNat, Int.reduceAdd, Int.reduceSub, Int.reduceMul, Int.reduceNeg, strs_length, flats_strs, hards_strs, leadss_strs, refsOfs_strs, rens_strs, strs_snoc, get_strs, go_awake, n1, p1, p2, p3, r1, c1, hl, hbb, he, Bool.not_true, Bool.not_false, Bool.true_and, Bool.false_and]
        | false =>
          have h3 := href rfl he
          cases pa <;> simp (dsimp := false) (disch := first | omega | (simp only [strs_length, List.length_set, List.length_replicate, words_length, ofBytes_length, List.length_append, List.length_cons, List.length_nil, List.length_take, List.length_drop] <;> omega) | fail) only [L.law06_NamesParts, go_sem, reduceIte, reduceCtorEq, Nat.reduceEqDiff, Nat.reduceAdd, Nat.reduceSub, Nat.reduceMul, Nat.reduceDiv, Nat.reduceMod, Nat.reduceBEq, Nat.reduceLeDiff, Nat.reduceLT, Int.reduceEq, Int.reduceNe, Int.reduceLT, Int.reduceLE, Int.reduceBEq, Int.reduceBNe, Int.reduceToNat, Int.reduceAdd, Int.reduceSub, Int.reduceMul, Int.reduceNeg, strs_length, flats_strs, hards_strs, leadss_strs, refsOfs_strs, rens_strs, strs_snoc, get_strs, go_awake, n1, p1, p2, p3, r1, c1, q1, hl, h3, hbb, he, Bool.not_true, Bool.not_false, Bool.true_and, Bool.false_and]
end Cod


/- The laws NamesParts, NamesMay. -/
import Derived.Test.YtmijmageicjfnaaDoorXTxt3
set_option linter.unusedSimpArgs false
set_option linter.unusedVariables false
namespace Cod
open Go

theorem nameOK_len {s : List UInt8} (h : nameOK s = true) : s.length ≤ 100 := by
  unfold nameOK at h
  simp only [Bool.and_eq_true, decide_eq_true_eq] at h
  exact h.1.1.1.1.1.2
theorem ge_name {s : List UInt8} : S E F.names_Name [.str s] [] = some (.bool (nameOK s), []) := by
  by_cases h : s.length ≤ 1000000
  · exact S_ext ext0 (go_name h)
  · have e : nameOK s = false := by
      cases hn : nameOK s with
      | false => rfl
      | true => have := nameOK_len hn; omega
    rw [e, S_of fn_names_Name rfl rfl]
    have e1 : (s == []) = false := by
      cases s with
      | nil => simp at h
      | cons a t => rfl
    have e2 : (s == [46]) = false := by
      rw [← Bool.not_eq_true, beq_iff_eq]; intro he; rw [he] at h; simp at h
    have e3 : (s == [46, 46]) = false := by
      rw [← Bool.not_eq_true, beq_iff_eq]; intro he; rw [he] at h; simp at h
    simp (dsimp := false) (disch := first | omega | (simp only [strs_length, List.length_set, List.length_replicate, words_length, ofBytes_length, List.length_append, List.length_cons, List.length_nil, List.length_take, List.length_drop] <;> omega) | fail) only [L.names_Name, go_sem, reduceIte, reduceCtorEq, Nat.reduceEqDiff, Nat.reduceAdd, Nat.reduceSub, Nat.reduceMul, Nat.reduceDiv, Nat.reduceMod, Nat.reduceBEq, Nat.reduceLeDiff, Nat.reduceLT, Int.reduceEq, Int.reduceNe, Int.reduceLT, Int.reduceLE, Int.reduceBEq, Int.reduceBNe, Int.reduceToNat, Int.reduceAdd, Int.reduceSub, Int.reduceMul, Int.reduceNeg, e1, e2, e3]
theorem go_namesMay {s : List UInt8} {m : Int} (hs : s.length ≤ 100000000) : S E F.law06_NamesMay [.str s, .int .i64 m] [] = some (.bool true, []) := by
  have n1 := ge_name (s := s)
  have n2 := go_rname (s := s) (by omega)
  have p1 := S_path (s := s)
  have p2 := go_rpath (s := s) (by omega)
  have r1 := go_nref (s := s) (by omega)
  have r2 := go_rref (s := s) (by omega)
  have m1 := go_nmode (m := m)
  have m2 := go_rmode (m := m)
  have hb : ∀ b : Bool, (b == b) = true := by simp
  rw [S_of fn_law06_NamesMay rfl rfl]
  simp (dsimp := false) (disch := first | omega | (simp only [strs_length, List.length_set, List.length_replicate, words_length, ofBytes_length, List.length_append, List.length_cons, List.length_nil, List.length_take, List.length_drop] <;> omega) | fail) only [L.law06_NamesMay, go_sem, reduceIte, reduceCtorEq, Nat.reduceEqDiff, Nat.reduceAdd, Nat.reduceSub, Nat.reduceMul, Nat.reduceDiv, Nat.reduceMod, Nat.reduceBEq, Nat.reduceLeDiff, Nat.reduceLT, Int.reduceEq, Int.reduceNe, Int.reduceLT, Int.reduceLE, Int.reduceBEq, Int.reduceBNe, Int.reduceToNat, Int.reduceAdd, Int.reduceSub, Int.reduceMul, Int.reduceNeg, go_awake, n1, n2, p1, p2, r1, r2, m1, m2, hb]
end Cod


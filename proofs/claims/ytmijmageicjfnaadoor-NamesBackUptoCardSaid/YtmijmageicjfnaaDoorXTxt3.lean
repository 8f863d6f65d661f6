/- The reference's ParseIdent. -/
import Derived.Test.YtmijmageicjfnaaDoorXTxt2
set_option linter.unusedSimpArgs false
set_option linter.unusedVariables false
namespace Cod
open Go

end Cod

/- What the reference reads is what Put writes. -/
namespace Cod
open Go

section
variable (i : Idt)
end
/-- What is read: an ident, or nothing. -/
theorem parse_cases (s : List UInt8) : (∃ i, identOK i = true ∧ putI i = s) ∨ ∀ i, identOK i = true → putI i ≠ s := by
  by_cases h : ∃ i, identOK i = true ∧ putI i = s
  · exact .inl h
  · exact .inr fun i hi he => h ⟨i, hi, he⟩
end Cod

/- How entries of a tree follow one another. -/
namespace Cod
open Go

/-- An entry of a tree. -/
structure Ety where
  mode : Int
  name : List UInt8
  id : List UInt8
  hid : id.length = 32
def Ety.cells (e : Ety) : List AV := .int .i64 e.mode :: .str e.name :: ofBytes e.id
theorem ety_len (e : Ety) : e.cells.length = 34 := by simp [Ety.cells, ofBytes_length, e.hid]
theorem ety_flats (e : Ety) : flats e.cells = true := by simp [Ety.cells, flats, flat, flats_ofBytes]
theorem ety_rens (f : Site → Nat → Option (Site × Nat)) (e : Ety) : rens f e.cells = e.cells := rens_flats _ (ety_flats e)
theorem ety_refs (e : Ety) : refsOfs e.cells = [] := by simp [Ety.cells, refsOfs, refsOf, refsOfs_ofBytes]
theorem ety_hards (e : Ety) : hards e.cells = true := by simp [Ety.cells, hards, hard, hards_ofBytes]
theorem ety_leads (e : Ety) : leadss e.cells = false := by simp [Ety.cells, leadss, leads, leadss_ofBytes]
theorem ety_sub (e : Ety) : sub e.cells 0 34 = e.cells := sub_full (by rw [ety_len]; exact Nat.le_refl _)
theorem ety_0 (e : Ety) : e.cells[0]? = some (.int .i64 e.mode) := rfl
theorem ety_1 (e : Ety) : e.cells[1]? = some (.str e.name) := rfl
attribute [go_sem] ety_len ety_flats ety_rens ety_refs ety_hards ety_leads ety_sub ety_0 ety_1
end Cod

/- Texts in order: laws of what is less. -/
namespace Cod
open Go
end Cod

/- The laws of layer 6: awake, NamesIdents, NamesBack, NamesOrder. -/
namespace Cod
open Go

def wI : Idt := ⟨[65, 32, 66], [97, 64, 98], 5, -90⟩
theorem wI_ok : identOK wI = true := by decide
theorem wI_put : putI wI = [65, 32, 66, 32, 60, 97, 64, 98, 62, 32, 53, 32, 45, 48, 49, 51, 48] := by
  unfold putI
  have : Lib.itoa wI.time = [53] := by
    show Lib.itoa 5 = _
    rw [show (5 : Int) = ((5 : Nat) : Int) from rfl, Lib.itoa_nonneg, Lib.decDigits_one (by omega)]; rfl
  rw [this]
  rfl
theorem go_awake : S E F.law06_awake [] [] = some (.bool true, []) := by
  have h1 := go_putIdent (i := wI)
  unfold putV at h1
  rw [if_pos wI_ok, wI_put] at h1
  have h2 := go_parse_put wI_ok
  rw [wI_put] at h2
  simp only [Idt.cells, wI] at h1 h2
  have h3 : S E F.names_Path [.str [97, 47, 98, 46, 99]] [] = some (.bool true, []) := by rw [S_path]; rfl
  have h4 : S E F.names_Path [.str [97, 47, 47, 98]] [] = some (.bool false, []) := by rw [S_path]; rfl
  rw [S_of fn_law06_awake rfl rfl]
  simp (dsimp := false) (disch := first | omega | (simp only [strs_length, List.length_set, List.length_replicate, words_length, ofBytes_length, List.length_append, List.length_cons, List.length_nil, List.length_take, List.length_drop, two_length] <;> omega) | fail) only [L.law06_awake, go_sem, reduceIte, reduceCtorEq, Nat.reduceEqDiff, Nat.reduceAdd, Nat.reduceSub, Nat.reduceMul, Nat.reduceDiv, Nat.reduceMod, Nat.reduceBEq, Nat.reduceLeDiff, Nat.reduceLT, Int.reduceEq, Int.reduceNe, Int.reduceLT, Int.reduceLE, Int.reduceBEq, Int.reduceBNe, Int.reduceToNat, Int.reduceAdd, Int.reduceSub, Int.reduceMul, Int.reduceNeg, h1, h2, h3, h4, Bool.not_false, beq_self_eq_true]
theorem eqC (a b c d : List UInt8) (t u z y : Int) : eqCells [2, 2, 0, 0] [.str a, .str b, .int .i64 t, .int .i64 z] [.str c, .str d, .int .i64 u, .int .i64 y] = some (a == c && (b == d && (t == u && (z == y && true)))) := rfl
theorem eqI (i : Idt) : eqCells [2, 2, 0, 0] i.cells i.cells = some true := by
  unfold Idt.cells; rw [eqC]; simp
theorem idt_over (i : Idt) : over [.str [], .str [], .int .i64 0, .int .i64 0] 0 i.cells = i.cells := rfl
theorem eqZ' : eqCells [2, 2, 0, 0] [.str [], .str [], .int .i64 0, .int .i64 0] [.str [], .str [], .int .i64 0, .int .i64 0] = some true := rfl
theorem go_namesBack {i : Idt} {s : List UInt8} (hn : i.name.length ≤ 1000000000000) (he : i.email.length ≤ 1000000000000) (hs : s.length ≤ 1000000000000) : S E F.law06_NamesBack [.agg i.cells, .str s] [] = some (.bool true, []) := by
  have p1 := go_putIdent (i := i)
  have n1 := go_nident (i := i)
  unfold putV at p1
  rw [S_of fn_law06_NamesBack rfl rfl]
  cases hi : identOK i
  · rw [hi] at p1 n1
    rw [if_neg (by simp)] at p1
    rcases parse_cases s with ⟨j, hj, rfl⟩ | h
    · have q1 := go_parse_put hj
      have p2 := go_putIdent (i := j)
      have n2 := go_nident (i := j)
      unfold putV at p2
      rw [if_pos hj] at p2
      rw [hj] at n2
      have hx : (putI j == putI j) = true := by simp
      simp (dsimp := false) (disch := first | omega | (simp only [strs_length, List.length_set, List.length_replicate, words_length, ofBytes_length, List.length_append, List.length_cons, List.length_nil, List.length_take, List.length_drop, two_length] <;> omega) | fail) only [L.law06_NamesBack, go_sem, reduceIte, reduceCtorEq, Nat.reduceEqDiff, Nat.reduceAdd, Nat.reduceSub, Nat.reduceMul, Nat.reduceDiv, Nat.reduceMod, Nat.reduceBEq, Nat.reduceLeDiff, Nat.reduceLT, Int.reduceEq, Int.reduceNe, Int.reduceLT, Int.reduceLE, Int.reduceBEq, Int.reduceBNe, Int.reduceToNat, Int.reduceAdd, Int.reduceSub, Int.reduceMul, Int.reduceNeg, idt_over, go_awake, p1, n1, q1, p2, n2, hx, Bool.not_true, Bool.not_false, Option.map_some]
    · have q1 := go_parse_no hs h
      unfold errP zeroI at q1
      simp (dsimp := false) (disch := first | omega | (simp only [strs_length, List.length_set, List.length_replicate, words_length, ofBytes_length, List.length_append, List.length_cons, List.length_nil, List.length_take, List.length_drop, two_length] <;> omega) | fail) only [L.law06_NamesBack, go_sem, reduceIte, reduceCtorEq, Nat.reduceEqDiff, Nat.reduceAdd, Nat.reduceSub, Nat.reduceMul, Nat.reduceDiv, Nat.reduceMod, Nat.reduceBEq, Nat.reduceLeDiff, Nat.reduceLT, Int.reduceEq, Int.reduceNe, Int.reduceLT, Int.reduceLE, Int.reduceBEq, Int.reduceBNe, Int.reduceToNat, Int.reduceAdd, Int.reduceSub, Int.reduceMul, Int.reduceNeg, idt_over, go_awake, p1, n1, q1, Bool.not_true, Bool.not_false, eqZ', Option.map_some]
  · rw [hi] at p1 n1
    rw [if_pos rfl] at p1
    have q0 := go_parse_put hi
    rcases parse_cases s with ⟨j, hj, rfl⟩ | h
    · have q1 := go_parse_put hj
      have p2 := go_putIdent (i := j)
      have n2 := go_nident (i := j)
      unfold putV at p2
      rw [if_pos hj] at p2
      rw [hj] at n2
      have hx : (putI j == putI j) = true := by simp
      simp (dsimp := false) (disch := first | omega | (simp only [strs_length, List.length_set, List.length_replicate, words_length, ofBytes_length, List.length_append, List.length_cons, List.length_nil, List.length_take, List.length_drop, two_length] <;> omega) | fail) only [L.law06_NamesBack, go_sem, reduceIte, reduceCtorEq, Nat.reduceEqDiff, Nat.reduceAdd, Nat.reduceSub, Nat.reduceMul, Nat.reduceDiv, Nat.reduceMod, Nat.reduceBEq, Nat.reduceLeDiff, Nat.reduceLT, Int.reduceEq, Int.reduceNe, Int.reduceLT, Int.reduceLE, Int.reduceBEq, Int.reduceBNe, Int.reduceToNat, Int.reduceAdd, Int.reduceSub, Int.reduceMul, Int.reduceNeg, idt_over, go_awake, p1, n1, q0, q1, p2, n2, hx, Bool.not_true, Bool.not_false, eqI, Option.map_some]
    · have q1 := go_parse_no hs h
      unfold errP zeroI at q1
      simp (dsimp := false) (disch := first | omega | (simp only [strs_length, List.length_set, List.length_replicate, words_length, ofBytes_length, List.length_append, List.length_cons, List.length_nil, List.length_take, List.length_drop, two_length] <;> omega) | fail) only [L.law06_NamesBack, go_sem, reduceIte, reduceCtorEq, Nat.reduceEqDiff, Nat.reduceAdd, Nat.reduceSub, Nat.reduceMul, Nat.reduceDiv, Nat.reduceMod, Nat.reduceBEq, Nat.reduceLeDiff, Nat.reduceLT, Int.reduceEq, Int.reduceNe, Int.reduceLT, Int.reduceLE, Int.reduceBEq, Int.reduceBNe, Int.reduceToNat, Int.reduceAdd, Int.reduceSub, Int.reduceMul, Int.reduceNeg, idt_over, go_awake, p1, n1, q0, q1, Bool.not_true, Bool.not_false, eqI, eqZ', Option.map_some]
end Cod


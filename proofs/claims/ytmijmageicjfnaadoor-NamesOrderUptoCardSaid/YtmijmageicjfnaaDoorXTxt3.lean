/- The reference's ParseIdent. -/
import Derived.Test.YtmijmageicjfnaaDoorXTxt2
set_option linter.unusedSimpArgs false
set_option linter.unusedVariables false
namespace Cod
open Go

end Cod

/- What the reference reads is what Put writes. -/
namespace Cod
open Go

section
variable (i : Idt)
end
end Cod

/- How entries of a tree follow one another. -/
namespace Cod
open Go

/-- An entry of a tree. -/
structure Ety where
  mode : Int
  name : List UInt8
  id : List UInt8
  hid : id.length = 32
def Ety.cells (e : Ety) : List AV := .int .i64 e.mode :: .str e.name :: ofBytes e.id
theorem ety_len (e : Ety) : e.cells.length = 34 := by simp [Ety.cells, ofBytes_length, e.hid]
theorem ety_flats (e : Ety) : flats e.cells = true := by simp [Ety.cells, flats, flat, flats_ofBytes]
theorem ety_rens (f : Site → Nat → Option (Site × Nat)) (e : Ety) : rens f e.cells = e.cells := rens_flats _ (ety_flats e)
theorem ety_refs (e : Ety) : refsOfs e.cells = [] := by simp [Ety.cells, refsOfs, refsOf, refsOfs_ofBytes]
theorem ety_hards (e : Ety) : hards e.cells = true := by simp [Ety.cells, hards, hard, hards_ofBytes]
theorem ety_leads (e : Ety) : leadss e.cells = false := by simp [Ety.cells, leadss, leads, leadss_ofBytes]
theorem ety_sub (e : Ety) : sub e.cells 0 34 = e.cells := sub_full (by rw [ety_len]; exact Nat.le_refl _)
theorem ety_0 (e : Ety) : e.cells[0]? = some (.int .i64 e.mode) := rfl
theorem ety_1 (e : Ety) : e.cells[1]? = some (.str e.name) := rfl
attribute [go_sem] ety_len ety_flats ety_rens ety_refs ety_hards ety_leads ety_sub ety_0 ety_1
def keyE (e : Ety) : List UInt8 := if e.mode = 16384 then e.name ++ [47] else e.name
theorem go_rkey {e : Ety} (h : e.name.length ≤ 1000000000000) : S E F.ref06_key [.agg e.cells] [] = some (.str (keyE e), []) := by
  rw [S_of fn_ref06_key rfl rfl]
  unfold keyE
  by_cases hm : e.mode = 16384
  · rw [if_pos hm]
    simp (dsimp := false) (disch := first | omega | (simp only [strs_length, List.length_set, List.length_replicate, words_length, ofBytes_length, List.length_append, List.length_cons, List.length_nil, List.length_take, List.length_drop] <;> omega) | fail) only [L.ref06_key, go_sem, reduceIte, reduceCtorEq, Nat.reduceEqDiff, Nat.reduceAdd, Nat.reduceSub, Nat.reduceMul, Nat.reduceDiv, Nat.reduceMod, Nat.reduceBEq, Nat.reduceLeDiff, Nat.reduceLT, Int.reduceEq, Int.reduceNe, Int.reduceLT, Int.reduceLE, Int.reduceBEq, Int.reduceBNe, Int.reduceToNat, Int.reduceAdd, Int.reduceSub, Int.reduceMul, Int.reduceNeg, hm]
  · rw [if_neg hm]
    simp (dsimp := false) (disch := first | omega | (simp only [strs_length, List.length_set, List.length_replicate, words_length, ofBytes_length, List.length_append, List.length_cons, List.length_nil, List.length_take, List.length_drop] <;> omega) | fail) only [L.ref06_key, go_sem, reduceIte, reduceCtorEq, Nat.reduceEqDiff, Nat.reduceAdd, Nat.reduceSub, Nat.reduceMul, Nat.reduceDiv, Nat.reduceMod, Nat.reduceBEq, Nat.reduceLeDiff, Nat.reduceLT, Int.reduceEq, Int.reduceNe, Int.reduceLT, Int.reduceLE, Int.reduceBEq, Int.reduceBNe, Int.reduceToNat, Int.reduceAdd, Int.reduceSub, Int.reduceMul, Int.reduceNeg, hm]
theorem less_self : ∀ a : List UInt8, Op.bytesLess a a = false := by
  intro a
  induction a with
  | nil => rfl
  | cons x a ih => rw [Op.bytesLess, ih]; simp
theorem go_rorder {a b : Ety} (ha : a.name.length ≤ 1000000000000) (hb : b.name.length ≤ 1000000000000) : S E F.ref06_Order [.agg a.cells, .agg b.cells] [] = some (.int .i64 (cmpB (keyE a) (keyE b)), []) := by
  have h1 := go_rkey ha
  have h2 := go_rkey hb
  rw [S_of fn_ref06_Order rfl rfl]
  unfold cmpB
  generalize keyE a = x at *
  generalize keyE b = y at *
  by_cases he : x = y
  · subst he
    have hs : (x == x) = true := by simp
    simp (dsimp := false) (disch := first | omega | (simp only [strs_length, List.length_set, List.length_replicate, words_length, ofBytes_length, List.length_append, List.length_cons, List.length_nil, List.length_take, List.length_drop] <;> omega) | fail) only [L.ref06_Order, go_sem, reduceIte, reduceCtorEq, Nat.reduceEqDiff, Nat.reduceAdd, Nat.reduceSub, Nat.reduceMul, Nat.reduceDiv, Nat.reduceMod, Nat.reduceBEq, Nat.reduceLeDiff, Nat.reduceLT, Int.reduceEq, Int.reduceNe, Int.reduceLT, Int.reduceLE, Int.reduceBEq, Int.reduceBNe, Int.reduceToNat, Int.reduceAdd, Int.reduceSub, Int.reduceMul, Int.reduceNeg, h1, h2, less_self, hs, Bool.not_true]
  · have hs : (x == y) = false := by simp [he]
    rw [if_neg he]
    cases c1 : Op.bytesLess x y <;> simp (dsimp := false) (disch := first | omega | (simp only [strs_length, List.length_set, List.length_replicate, words_length, ofBytes_length, List.length_append, List.length_cons, List.length_nil, List.length_take, List.length_drop] <;> omega) | fail) only [L.ref06_Order, go_sem, reduceIte, reduceCtorEq, Nat.reduceEqDiff, Nat.reduceAdd, Nat.reduceSub, Nat.reduceMul, Nat.reduceDiv, Nat.reduceMod, Nat.reduceBEq, Nat.reduceLeDiff, Nat.reduceLT, Int.reduceEq, Int.reduceNe, Int.reduceLT, Int.reduceLE, Int.reduceBEq, Int.reduceBNe, Int.reduceToNat, Int.reduceAdd, Int.reduceSub, Int.reduceMul, Int.reduceNeg, h1, h2, c1, hs, Bool.not_false]
theorem go_cmpE {a b : List UInt8} : S E F.cmp_Compare_string [.str a, .str b] [] = some (.int .i64 (cmpB a b), []) := by
  have hn (x : List UInt8) : S E F.cmp_isNaN_string [.str x] [] = some (.bool false, []) := by
    have hb : (x == x) = true := by simp
    rw [S_of fn_cmp_isNaN_string rfl rfl]
    simp (dsimp := false) (disch := first | omega | (simp only [strs_length, List.length_set, List.length_replicate, words_length, ofBytes_length, List.length_append, List.length_cons, List.length_nil, List.length_take, List.length_drop] <;> omega) | fail) only [L.cmp_isNaN_string, go_sem, reduceIte, reduceCtorEq, Nat.reduceEqDiff, Nat.reduceAdd, Nat.reduceSub, Nat.reduceMul, Nat.reduceDiv, Nat.reduceMod, Nat.reduceBEq, Nat.reduceLeDiff, Nat.reduceLT, Int.reduceEq, Int.reduceNe, Int.reduceLT, Int.reduceLE, Int.reduceBEq, Int.reduceBNe, Int.reduceToNat, Int.reduceAdd, Int.reduceSub, Int.reduceMul, Int.reduceNeg, hb, Bool.not_true]
  rw [S_of fn_cmp_Compare_string rfl rfl]
  unfold cmpB
  by_cases he : a = b
  · subst he
    have hs : (a == a) = true := by simp
    simp (dsimp := false) (disch := first | omega | (simp only [strs_length, List.length_set, List.length_replicate, words_length, ofBytes_length, List.length_append, List.length_cons, List.length_nil, List.length_take, List.length_drop] <;> omega) | fail) only [L.cmp_Compare_string, go_sem, reduceIte, reduceCtorEq, Nat.reduceEqDiff, Nat.reduceAdd, Nat.reduceSub, Nat.reduceMul, Nat.reduceDiv, Nat.reduceMod, Nat.reduceBEq, Nat.reduceLeDiff, Nat.reduceLT, Int.reduceEq, Int.reduceNe, Int.reduceLT, Int.reduceLE, Int.reduceBEq, Int.reduceBNe, Int.reduceToNat, Int.reduceAdd, Int.reduceSub, Int.reduceMul, Int.reduceNeg, hn, less_self, hs, Bool.not_true]
  · have hs : (a == b) = false := by simp [he]
    rw [if_neg he]
    cases c1 : Op.bytesLess a b <;> simp (dsimp := false) (disch := first | omega | (simp only [strs_length, List.length_set, List.length_replicate, words_length, ofBytes_length, List.length_append, List.length_cons, List.length_nil, List.length_take, List.length_drop] <;> omega) | fail) only [L.cmp_Compare_string, go_sem, reduceIte, reduceCtorEq, Nat.reduceEqDiff, Nat.reduceAdd, Nat.reduceSub, Nat.reduceMul, Nat.reduceDiv, Nat.reduceMod, Nat.reduceBEq, Nat.reduceLeDiff, Nat.reduceLT, Int.reduceEq, Int.reduceNe, Int.reduceLT, Int.reduceLE, Int.reduceBEq, Int.reduceBNe, Int.reduceToNat, Int.reduceAdd, Int.reduceSub, Int.reduceMul, Int.reduceNeg, hn, c1, hs, Bool.not_false]
theorem go_nOrder {a b : Ety} (ha : a.name.length ≤ 1000000000000) (hb : b.name.length ≤ 1000000000000) : S E F.names_Order [.agg a.cells, .agg b.cells] [] = some (.int .i64 (cmpB (keyE a) (keyE b)), []) := by
  rw [S_of fn_names_Order rfl rfl]
  unfold keyE
  by_cases h1 : a.mode = 16384
  · by_cases h2 : b.mode = 16384 <;> simp (dsimp := false) (disch := first | omega | (simp only [strs_length, List.length_set, List.length_replicate, words_length, ofBytes_length, List.length_append, List.length_cons, List.length_nil, List.length_take, List.length_drop] <;> omega) | fail) only [L.names_Order, go_sem, reduceIte, reduceCtorEq, Nat.reduceEqDiff, Nat.reduceAdd, Nat.reduceSub, Nat.reduceMul, Nat.reduceDiv, Nat.reduceMod, Nat.reduceBEq, Nat.reduceLeDiff, Nat.reduceLT, Int.reduceEq, Int.reduceNe, Int.reduceLT, Int.reduceLE, Int.reduceBEq, Int.reduceBNe, Int.reduceToNat, Int.reduceAdd, Int.reduceSub, Int.reduceMul, Int.reduceNeg, h1, h2, go_cmpE]
  · by_cases h2 : b.mode = 16384 <;> simp (dsimp := false) (disch := first | omega | (simp only [strs_length, List.length_set, List.length_replicate, words_length, ofBytes_length, List.length_append, List.length_cons, List.length_nil, List.length_take, List.length_drop] <;> omega) | fail) only [L.names_Order, go_sem, reduceIte, reduceCtorEq, Nat.reduceEqDiff, Nat.reduceAdd, Nat.reduceSub, Nat.reduceMul, Nat.reduceDiv, Nat.reduceMod, Nat.reduceBEq, Nat.reduceLeDiff, Nat.reduceLT, Int.reduceEq, Int.reduceNe, Int.reduceLT, Int.reduceLE, Int.reduceBEq, Int.reduceBNe, Int.reduceToNat, Int.reduceAdd, Int.reduceSub, Int.reduceMul, Int.reduceNeg, h1, h2, go_cmpE]
end Cod

/- Texts in order: laws of what is less. -/
namespace Cod
open Go
theorem less_trans : ∀ {a b c : List UInt8}, Op.bytesLess a b = true → Op.bytesLess b c = true → Op.bytesLess a c = true := by
  intro a
  induction a with
  | nil =>
    intro b c h1 h2
    cases c with
    | nil => cases b <;> simp [Op.bytesLess] at h2
    | cons z c => rfl
  | cons x a ih =>
    intro b c h1 h2
    cases b with
    | nil => simp [Op.bytesLess] at h1
    | cons y b =>
      cases c with
      | nil => simp [Op.bytesLess] at h2
      | cons z c =>
        simp only [Op.bytesLess, Bool.or_eq_true, decide_eq_true_eq, Bool.and_eq_true, beq_iff_eq] at h1 h2 ⊢
        rcases h1 with h1 | ⟨rfl, h1⟩
        · rcases h2 with h2 | ⟨rfl, h2⟩
          · exact .inl (UInt8.lt_trans h1 h2)
          · exact .inl h1
        · rcases h2 with h2 | ⟨rfl, h2⟩
          · exact .inl h2
          · exact .inr ⟨rfl, ih h1 h2⟩
theorem less_tot : ∀ {a b : List UInt8}, Op.bytesLess a b = false → a ≠ b → Op.bytesLess b a = true := by
  intro a
  induction a with
  | nil => intro b h1 h2; cases b with
    | nil => exact absurd rfl h2
    | cons y b => simp [Op.bytesLess] at h1
  | cons x a ih =>
    intro b h1 h2
    cases b with
    | nil => rfl
    | cons y b =>
      simp only [Op.bytesLess, Bool.or_eq_false_iff, decide_eq_false_iff_not, Bool.and_eq_false_iff, Bool.or_eq_true, decide_eq_true_eq, Bool.and_eq_true, beq_iff_eq] at h1 ⊢
      by_cases hxy : x = y
      · subst hxy
        refine .inr ⟨rfl, ih ?_ (fun e => h2 (by rw [e]))⟩
        rcases h1.2 with h | h
        · simp at h
        · exact h
      · left
        have h3 := h1.1
        have h4 : x.toNat ≠ y.toNat := fun e => hxy (UInt8.toNat_inj.1 e)
        rw [UInt8.lt_iff_toNat_lt] at h3 ⊢
        omega
theorem less_asym {a b : List UInt8} (h : Op.bytesLess a b = true) : Op.bytesLess b a = false := by
  cases h2 : Op.bytesLess b a with
  | false => rfl
  | true =>
    have := less_trans h h2
    rw [less_self] at this
    cases this
theorem cmpB_range (a b : List UInt8) : cmpB a b = -1 ∨ cmpB a b = 0 ∨ cmpB a b = 1 := by
  unfold cmpB; split
  · simp
  · split <;> simp
theorem cmpB_neg (a b : List UInt8) : cmpB b a = - cmpB a b := by
  unfold cmpB
  by_cases h : a = b
  · rw [if_pos h, if_pos h.symm]; rfl
  · rw [if_neg h, if_neg (Ne.symm h)]
    cases h1 : Op.bytesLess a b with
    | true => rw [less_asym h1]; rfl
    | false => rw [less_tot h1 h]; rfl
theorem cmpB_self (a : List UInt8) : cmpB a a = 0 := by unfold cmpB; rw [if_pos rfl]
theorem cmpB_le {a b : List UInt8} (h : cmpB a b ≤ 0) : a = b ∨ Op.bytesLess a b = true := by
  unfold cmpB at h
  split at h
  · left; assumption
  · split at h
    · right; assumption
    · omega
theorem cmpB_trans {a b c : List UInt8} (h1 : cmpB a b ≤ 0) (h2 : cmpB b c ≤ 0) : cmpB a c ≤ 0 := by
  rcases cmpB_le h1 with rfl | h1
  · exact h2
  · rcases cmpB_le h2 with rfl | h2
    · unfold cmpB; rw [h1]; split <;> simp
    · unfold cmpB; rw [less_trans h1 h2]; split <;> simp
end Cod

/- The laws of layer 6: awake, NamesIdents, NamesBack, NamesOrder. -/
namespace Cod
open Go

def wI : Idt := ⟨[65, 32, 66], [97, 64, 98], 5, -90⟩
theorem wI_ok : identOK wI = true := by decide
theorem wI_put : putI wI = [65, 32, 66, 32, 60, 97, 64, 98, 62, 32, 53, 32, 45, 48, 49, 51, 48] := by
  unfold putI
  have : Lib.itoa wI.time = [53] := by
    show Lib.itoa 5 = _
    rw [show (5 : Int) = ((5 : Nat) : Int) from rfl, Lib.itoa_nonneg, Lib.decDigits_one (by omega)]; rfl
  rw [this]
  rfl
theorem go_awake : S E F.law06_awake [] [] = some (.bool true, []) := by
  have h1 := go_putIdent (i := wI)
  unfold putV at h1
  rw [if_pos wI_ok, wI_put] at h1
  have h2 := go_parse_put wI_ok
  rw [wI_put] at h2
  simp only [Idt.cells, wI] at h1 h2
  have h3 : S E F.names_Path [.str [97, 47, 98, 46, 99]] [] = some (.bool true, []) := by rw [S_path]; rfl
  have h4 : S E F.names_Path [.str [97, 47, 47, 98]] [] = some (.bool false, []) := by rw [S_path]; rfl
  rw [S_of fn_law06_awake rfl rfl]
  simp (dsimp := false) (disch := first | omega | (simp only [strs_length, List.length_set, List.length_replicate, words_length, ofBytes_length, List.length_append, List.length_cons, List.length_nil, List.length_take, List.length_drop, two_length] <;> omega) | fail) only [L.law06_awake, go_sem, reduceIte, reduceCtorEq, Nat.reduceEqDiff, Nat.reduceAdd, Nat.reduceSub, Nat.reduceMul, Nat.reduceDiv, Nat.reduceMod, Nat.reduceBEq, Nat.reduceLeDiff, Nat.reduceLT, Int.reduceEq, Int.reduceNe, Int.reduceLT, Int.reduceLE, Int.reduceBEq, Int.reduceBNe, Int.reduceToNat, Int.reduceAdd, Int.reduceSub, Int.reduceMul, Int.reduceNeg, h1, h2, h3, h4, Bool.not_false, beq_self_eq_true]
theorem go_namesOrder {a b c : Ety} (ha : a.name.length ≤ 1000000000000) (hb : b.name.length ≤ 1000000000000) (hc : c.name.length ≤ 1000000000000) : S E F.law06_NamesOrder [.agg a.cells, .agg b.cells, .agg c.cells] [] = some (.bool true, []) := by
  have o1 := go_nOrder ha hb
  have o2 := go_nOrder hb hc
  have o3 := go_nOrder ha hc
  have o4 := go_nOrder hb ha
  have o5 := go_nOrder ha ha
  have o6 := go_rorder ha hb
  rw [cmpB_self] at o5
  rw [cmpB_neg (keyE a) (keyE b)] at o4
  have ht : cmpB (keyE a) (keyE b) ≤ 0 → cmpB (keyE b) (keyE c) ≤ 0 → cmpB (keyE a) (keyE c) ≤ 0 := cmpB_trans
  have r1 := cmpB_range (keyE a) (keyE b)
  have r2 := cmpB_range (keyE b) (keyE c)
  have r3 := cmpB_range (keyE a) (keyE c)
  generalize cmpB (keyE a) (keyE b) = x at *
  generalize cmpB (keyE b) (keyE c) = y at *
  generalize cmpB (keyE a) (keyE c) = z at *
  rw [S_of fn_law06_NamesOrder rfl rfl]
  have e1 : 0 - x = -x := by omega
  by_cases h1 : x ≤ 0
  · by_cases h2 : y ≤ 0
    · have h3 : z ≤ 0 := ht h1 h2
      simp (dsimp := false) (disch := first | omega | (simp only [strs_length, List.length_set, List.length_replicate, words_length, ofBytes_length, List.length_append, List.length_cons, List.length_nil, List.length_take, List.length_drop, two_length] <;> omega) | fail) only [L.law06_NamesOrder, go_sem, reduceIte, reduceCtorEq, Nat.reduceEqDiff, Nat.reduceAdd, Nat.reduceSub, Nat.reduceMul, Nat.reduceDiv, Nat.reduceMod, Nat.reduceBEq, Nat.reduceLeDiff, Nat.reduceLT, Int.reduceEq, Int.reduceNe, Int.reduceLT, Int.reduceLE, Int.reduceBEq, Int.reduceBNe, Int.reduceToNat, Int.reduceAdd, Int.reduceSub, Int.reduceMul, Int.reduceNeg, go_awake, o1, o2, o3, o4, o5, o6, e1, h1, h2, h3, Bool.not_true, Bool.not_false]
    · simp (dsimp := false) (disch := first | omega | (simp only [strs_length, List.length_set, List.length_replicate, words_length, ofBytes_length, List.length_append, List.length_cons, List.length_nil, List.length_take, List.length_drop, two_length] <;> omega) | fail) only [L.law06_NamesOrder, go_sem, reduceIte, reduceCtorEq, Nat.reduceEqDiff, Nat.reduceAdd, Nat.reduceSub, Nat.reduceMul, Nat.reduceDiv, Nat.reduceMod, Nat.reduceBEq, Nat.reduceLeDiff, Nat.reduceLT, Int.reduceEq, Int.reduceNe, Int.reduceLT, Int.reduceLE, Int.reduceBEq, Int.reduceBNe, Int.reduceToNat, Int.reduceAdd, Int.reduceSub, Int.reduceMul, Int.reduceNeg, go_awake, o1, o2, o3, o4, o5, o6, e1, h1, h2, Bool.not_true, Bool.not_false]
  · simp (dsimp := false) (disch := first | omega | (simp only [strs_length, List.length_set, List.length_replicate, words_length, ofBytes_length, List.length_append, List.length_cons, List.length_nil, List.length_take, List.length_drop, two_length] <;> omega) | fail) only [L.law06_NamesOrder, go_sem, reduceIte, reduceCtorEq, Nat.reduceEqDiff, Nat.reduceAdd, Nat.reduceSub, Nat.reduceMul, Nat.reduceDiv, Nat.reduceMod, Nat.reduceBEq, Nat.reduceLeDiff, Nat.reduceLT, Int.reduceEq, Int.reduceNe, Int.reduceLT, Int.reduceLE, Int.reduceBEq, Int.reduceBNe, Int.reduceToNat, Int.reduceAdd, Int.reduceSub, Int.reduceMul, Int.reduceNeg, go_awake, o1, o2, o3, o4, o5, o6, e1, h1, Bool.not_true, Bool.not_false]
end Cod


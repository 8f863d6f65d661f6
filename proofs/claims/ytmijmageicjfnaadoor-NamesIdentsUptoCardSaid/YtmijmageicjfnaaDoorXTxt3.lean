/- The reference's ParseIdent. -/
import Derived.Test.YtmijmageicjfnaaDoorXTxt2
set_option linter.unusedSimpArgs false
set_option linter.unusedVariables false
namespace Cod
open Go

/-- The first place of a byte from place i on, among m places. -/
def scn (s : List UInt8) (c : UInt8) : Nat → Nat → Nat
  | 0, i => i
  | m + 1, i => if s.getD i 0 = c then i else scn s c m (i + 1)
theorem scn_le (s : List UInt8) (c : UInt8) : ∀ m i, i ≤ scn s c m i ∧ scn s c m i ≤ i + m := by
  intro m
  induction m with
  | zero => intro i; simp [scn]
  | succ m ih =>
    intro i
    unfold scn
    split
    · omega
    · have := ih (i + 1); omega
theorem scn_hit (s : List UInt8) (c : UInt8) : ∀ m i, scn s c m i < i + m → s.getD (scn s c m i) 0 = c := by
  intro m
  induction m with
  | zero => intro i h; simp [scn] at h
  | succ m ih =>
    intro i h
    unfold scn at h ⊢
    split
    · rename_i h1; exact h1
    · rename_i h1
      rw [if_neg h1] at h
      exact ih (i + 1) (by omega)
theorem scn_eq (s : List UInt8) (c : UInt8) (k : Nat) (hk : s.getD k 0 = c) : ∀ m i, i ≤ k → k < i + m → (∀ j, i ≤ j → j < k → s.getD j 0 ≠ c) → scn s c m i = k := by
  intro m
  induction m with
  | zero => intro i h1 h2; omega
  | succ m ih =>
    intro i h1 h2 h3
    unfold scn
    by_cases h : i = k
    · rw [h, if_pos hk]
    · rw [if_neg (h3 i (Nat.le_refl _) (by omega))]
      exact ih (i + 1) (by omega) (by omega) (fun j a b => h3 j (by omega) b)
def σD : Store := [(.s 1000000 0, ⟨0, true, true, true, [.str [], .str [], .int .i64 0, .int .i64 0]⟩)]
theorem dp_l0 (k : List It) {s : List UInt8} {n : Int} (hs : s.length ≤ 1000000000000) : ∀ (m i : Nat), i + m = s.length →
    X E [.cell 2 (some 4), .tmp 3] (.c L.ref06_DocParseIdent.x0 :: .lp [0, 2, 4, 5] L.ref06_DocParseIdent.x0 :: .blk 0 :: k) ⟨[(0, .str s), (2, .ref (.s 1000000 0) 0 0), (4, .int .i64 n), (5, .int .i64 i)], σD⟩ =
    X E [.cell 2 (some 4), .tmp 3] k ⟨[(0, .str s), (2, .ref (.s 1000000 0) 0 0), (4, .int .i64 n), (5, .int .i64 (scn s 60 m i)), (21, .bool false)], σD⟩ := by
  intro m
  induction m with
  | zero =>
    intro i hi
    rw [X_in L.ref06_DocParseIdent.x0.eq_1, scn]
    simp (dsimp := false) (disch := first | omega | (simp only [strs_length, List.length_set, List.length_replicate, words_length, ofBytes_length, List.length_append, List.length_cons, List.length_nil, List.length_take, List.length_drop, two_length] <;> omega) | fail) only [go_sem, reduceIte, reduceCtorEq, Nat.reduceEqDiff, Nat.reduceAdd, Nat.reduceSub, Nat.reduceMul, Nat.reduceDiv, Nat.reduceMod, Nat.reduceBEq, Nat.reduceLeDiff, Nat.reduceLT, Int.reduceEq, Int.reduceNe, Int.reduceLT, Int.reduceLE, Int.reduceBEq, Int.reduceBNe, Int.reduceToNat, Int.reduceAdd, Int.reduceSub, Int.reduceMul, Int.reduceNeg, σD]
  | succ m ih =>
    intro i hi
    have hp : i < s.length := by omega
    rw [X_in L.ref06_DocParseIdent.x0.eq_1, scn]
    by_cases hc : s.getD i 0 = 60
    · rw [if_pos hc]
      have hb : (bat s i != 60) = false := bne_f (by unfold bat; rw [hc]; rfl)
      simp (dsimp := false) (disch := first | omega | (simp only [strs_length, List.length_set, List.length_replicate, words_length, ofBytes_length, List.length_append, List.length_cons, List.length_nil, List.length_take, List.length_drop, two_length] <;> omega) | fail) only [go_sem, reduceIte, reduceCtorEq, Nat.reduceEqDiff, Nat.reduceAdd, Nat.reduceSub, Nat.reduceMul, Nat.reduceDiv, Nat.reduceMod, Nat.reduceBEq, Nat.reduceLeDiff, Nat.reduceLT, Int.reduceEq, Int.reduceNe, Int.reduceLT, Int.reduceLE, Int.reduceBEq, Int.reduceBNe, Int.reduceToNat, Int.reduceAdd, Int.reduceSub, Int.reduceMul, Int.reduceNeg, hp, hb, σD]
    · rw [if_neg hc, ← ih (i + 1) (by omega)]
      have hb : (bat s i != 60) = true := bne_t (fun h => hc (UInt8.toNat_inj.1 (by unfold bat at h; show (s.getD i 0).toNat = 60; omega)))
      simp (dsimp := false) (disch := first | omega | (simp only [strs_length, List.length_set, List.length_replicate, words_length, ofBytes_length, List.length_append, List.length_cons, List.length_nil, List.length_take, List.length_drop, two_length] <;> omega) | fail) only [go_sem, reduceIte, reduceCtorEq, Nat.reduceEqDiff, Nat.reduceAdd, Nat.reduceSub, Nat.reduceMul, Nat.reduceDiv, Nat.reduceMod, Nat.reduceBEq, Nat.reduceLeDiff, Nat.reduceLT, Int.reduceEq, Int.reduceNe, Int.reduceLT, Int.reduceLE, Int.reduceBEq, Int.reduceBNe, Int.reduceToNat, Int.reduceAdd, Int.reduceSub, Int.reduceMul, Int.reduceNeg, hp, hb, σD]
      rfl
theorem dp_l1 (k : List It) {s : List UInt8} {n a : Int} (hs : s.length ≤ 1000000000000) : ∀ (m i : Nat), i + m = s.length →
    X E [.cell 2 (some 4), .tmp 3] (.c L.ref06_DocParseIdent.x1 :: .lp [0, 2, 4, 5, 6] L.ref06_DocParseIdent.x1 :: .blk 2 :: k) ⟨[(0, .str s), (2, .ref (.s 1000000 0) 0 0), (4, .int .i64 n), (5, .int .i64 a), (6, .int .i64 i)], σD⟩ =
    X E [.cell 2 (some 4), .tmp 3] k ⟨[(0, .str s), (2, .ref (.s 1000000 0) 0 0), (4, .int .i64 n), (5, .int .i64 a), (6, .int .i64 (scn s 62 m i)), (34, .bool false)], σD⟩ := by
  intro m
  induction m with
  | zero =>
    intro i hi
    rw [X_in L.ref06_DocParseIdent.x1.eq_1, scn]
    simp (dsimp := false) (disch := first | omega | (simp only [strs_length, List.length_set, List.length_replicate, words_length, ofBytes_length, List.length_append, List.length_cons, List.length_nil, List.length_take, List.length_drop, two_length] <;> omega) | fail) only [go_sem, reduceIte, reduceCtorEq, Nat.reduceEqDiff, Nat.reduceAdd, Nat.reduceSub, Nat.reduceMul, Nat.reduceDiv, Nat.reduceMod, Nat.reduceBEq, Nat.reduceLeDiff, Nat.reduceLT, Int.reduceEq, Int.reduceNe, Int.reduceLT, Int.reduceLE, Int.reduceBEq, Int.reduceBNe, Int.reduceToNat, Int.reduceAdd, Int.reduceSub, Int.reduceMul, Int.reduceNeg, σD]
  | succ m ih =>
    intro i hi
    have hp : i < s.length := by omega
    rw [X_in L.ref06_DocParseIdent.x1.eq_1, scn]
    by_cases hc : s.getD i 0 = 62
    · rw [if_pos hc]
      have hb : (bat s i != 62) = false := bne_f (by unfold bat; rw [hc]; rfl)
      simp (dsimp := false) (disch := first | omega | (simp only [strs_length, List.length_set, List.length_replicate, words_length, ofBytes_length, List.length_append, List.length_cons, List.length_nil, List.length_take, List.length_drop, two_length] <;> omega) | fail) only [go_sem, reduceIte, reduceCtorEq, Nat.reduceEqDiff, Nat.reduceAdd, Nat.reduceSub, Nat.reduceMul, Nat.reduceDiv, Nat.reduceMod, Nat.reduceBEq, Nat.reduceLeDiff, Nat.reduceLT, Int.reduceEq, Int.reduceNe, Int.reduceLT, Int.reduceLE, Int.reduceBEq, Int.reduceBNe, Int.reduceToNat, Int.reduceAdd, Int.reduceSub, Int.reduceMul, Int.reduceNeg, hp, hb, σD]
    · rw [if_neg hc, ← ih (i + 1) (by omega)]
      have hb : (bat s i != 62) = true := bne_t (fun h => hc (UInt8.toNat_inj.1 (by unfold bat at h; show (s.getD i 0).toNat = 62; omega)))
      simp (dsimp := false) (disch := first | omega | (simp only [strs_length, List.length_set, List.length_replicate, words_length, ofBytes_length, List.length_append, List.length_cons, List.length_nil, List.length_take, List.length_drop, two_length] <;> omega) | fail) only [go_sem, reduceIte, reduceCtorEq, Nat.reduceEqDiff, Nat.reduceAdd, Nat.reduceSub, Nat.reduceMul, Nat.reduceDiv, Nat.reduceMod, Nat.reduceBEq, Nat.reduceLeDiff, Nat.reduceLT, Int.reduceEq, Int.reduceNe, Int.reduceLT, Int.reduceLE, Int.reduceBEq, Int.reduceBNe, Int.reduceToNat, Int.reduceAdd, Int.reduceSub, Int.reduceMul, Int.reduceNeg, hp, hb, σD]
      rfl
theorem numL_range : ∀ (l : List UInt8) (v : Int), 0 ≤ v → -1 ≤ numL l v ∧ numL l v < (v + 1) * 10 ^ l.length := by
  intro l
  induction l with
  | nil => intro v h; simp only [numL, List.length_nil, Int.pow_zero]; omega
  | cons c r ih =>
    intro v h
    unfold numL
    have hpos : (0 : Int) < 10 ^ r.length := Int.pow_pos (by omega)
    split
    · refine ⟨by omega, ?_⟩
      have : (0 : Int) < (v + 1) * 10 ^ (c :: r).length := Int.mul_pos (by omega) (Int.pow_pos (by omega))
      omega
    · rename_i hc
      obtain ⟨h1, h2⟩ := ih (10 * v + (c.toNat - 48)) (by omega)
      refine ⟨h1, Int.lt_of_lt_of_le h2 ?_⟩
      rw [List.length_cons, Int.pow_succ, Int.mul_comm (10 ^ r.length) 10, ← Int.mul_assoc]
      exact Int.mul_le_mul_of_nonneg_right (by omega) (Int.le_of_lt hpos)
theorem numF_range (l : List UInt8) : -1 ≤ numF l ∧ numF l < 10000000000000 := by
  unfold numF
  split
  · omega
  · rename_i h
    obtain ⟨h1, h2⟩ := numL_range l 0 (by omega)
    refine ⟨h1, ?_⟩
    have h3 : (10 : Int) ^ l.length ≤ 10 ^ 13 := by exact_mod_cast Nat.pow_le_pow_right (by omega) (by omega)
    have h4 : (10 : Int) ^ 13 = 10000000000000 := by decide
    omega
def docZ (s : List UInt8) : Int := numF (s.drop (s.length - 6 + 2))
def docZone (s : List UInt8) : Int := if s.getD (s.length - 6 + 1) 0 = 45 then 0 - (docZ s / 100 * 60 + docZ s % 100) else docZ s / 100 * 60 + docZ s % 100
def docAt (s : List UInt8) : Nat := scn s 60 s.length 0
def docTo (s : List UInt8) : Nat := scn s 62 (s.length - docAt s) (docAt s)
def docI (s : List UInt8) : Idt := ⟨s.take (docAt s - 1), sub s (docAt s + 1) (docTo s - (docAt s + 1)), numF (sub s (docTo s + 2) (s.length - 6 - (docTo s + 2))), docZone s⟩
def docOK (s : List UInt8) : Bool := decide (6 ≤ s.length ∧ 1 ≤ docAt s ∧ docTo s + 2 + 6 ≤ s.length ∧ 0 ≤ docZ s) && (identOK (docI s) && decide (putI (docI s) = s))
theorem go_docParse {s : List UInt8} (hs : s.length ≤ 1000000000000) : S E F.ref06_DocParseIdent [.str s] [] = some (if docOK s = true then .tup [.agg (docI s).cells, .int .i64 0] else errP, []) := by
  have h0 := dp_l0 [.c L.ref06_DocParseIdent.r0] (n := (s.length : Int) - 6) hs s.length 0 (by omega)
  have ha := scn_le s 60 s.length 0
  have h1 := dp_l1 [.c L.ref06_DocParseIdent.r1] (n := (s.length : Int) - 6) (a := docAt s) hs (s.length - docAt s) (docAt s) (by unfold docAt; omega)
  have hb := scn_le s 62 (s.length - docAt s) (docAt s)
  have hah : docAt s < s.length → s.getD (docAt s) 0 = 60 := fun h => scn_hit s 60 s.length 0 (by unfold docAt at h; omega)
  have hbh : docTo s < s.length → s.getD (docTo s) 0 = 62 := fun h => scn_hit s 62 (s.length - docAt s) (docAt s) (by unfold docTo at h; omega)
  simp only [Int.cast_ofNat_Int] at h0
  change X E _ _ _ = X E _ _ ⟨[_, _, _, (5, .int .i64 (docAt s)), _], _⟩ at h0
  change X E _ _ _ = X E _ _ ⟨[_, _, _, _, (6, .int .i64 (docTo s)), _], _⟩ at h1
  change docAt s ≤ docTo s ∧ docTo s ≤ _ at hb
  change 0 ≤ docAt s ∧ docAt s ≤ _ at ha
  unfold σD at h0 h1
  have hx : S E F.ref06_DocParseIdent [.str s] [] = X E [.cell 2 (some 4), .tmp 3] [.c L.ref06_DocParseIdent.r1] ⟨[(0, .str s), (2, .ref (.s 1000000 0) 0 0), (4, .int .i64 ((s.length : Int) - 6)), (5, .int .i64 (docAt s)), (6, .int .i64 (docTo s)), (34, .bool false)], [(.s 1000000 0, ⟨0, true, true, true, [.str [], .str [], .int .i64 0, .int .i64 0]⟩)]⟩ := by
    rw [S_of fn_ref06_DocParseIdent rfl rfl]
    simp (dsimp := false) (disch := first | omega | (simp only [strs_length, List.length_set, List.length_replicate, words_length, ofBytes_length, List.length_append, List.length_cons, List.length_nil, List.length_take, List.length_drop, two_length] <;> omega) | fail) only [L.ref06_DocParseIdent, go_sem, reduceIte, reduceCtorEq, Nat.reduceEqDiff, Nat.reduceAdd, Nat.reduceSub, Nat.reduceMul, Nat.reduceDiv, Nat.reduceMod, Nat.reduceBEq, Nat.reduceLeDiff, Nat.reduceLT, Int.reduceEq, Int.reduceNe, Int.reduceLT, Int.reduceLE, Int.reduceBEq, Int.reduceBNe, Int.reduceToNat, Int.reduceAdd, Int.reduceSub, Int.reduceMul, Int.reduceNeg]
    rw [h0]
    simp (dsimp := false) (disch := first | omega | (simp only [strs_length, List.length_set, List.length_replicate, words_length, ofBytes_length, List.length_append, List.length_cons, List.length_nil, List.length_take, List.length_drop, two_length] <;> omega) | fail) only [L.ref06_DocParseIdent.r0, go_sem, reduceIte, reduceCtorEq, Nat.reduceEqDiff, Nat.reduceAdd, Nat.reduceSub, Nat.reduceMul, Nat.reduceDiv, Nat.reduceMod, Nat.reduceBEq, Nat.reduceLeDiff, Nat.reduceLT, Int.reduceEq, Int.reduceNe, Int.reduceLT, Int.reduceLE, Int.reduceBEq, Int.reduceBNe, Int.reduceToNat, Int.reduceAdd, Int.reduceSub, Int.reduceMul, Int.reduceNeg]
    rw [h1]
  rw [hx]
  clear hx h0 h1
  by_cases c1 : 6 ≤ s.length
  · by_cases c2 : 1 ≤ docAt s
    · by_cases c3 : docTo s + 2 + 6 ≤ s.length
      · have hz : S E F.ref06_number [.str (s.drop (s.length - 6 + 2))] [] = some (.int .i64 (docZ s), []) := go_number
        have e1 : ((s.length : Int) - 6 + 2).toNat = s.length - 6 + 2 := by omega
        have e2 : sub s (s.length - 6 + 2) (s.length - (s.length - 6 + 2)) = s.drop (s.length - 6 + 2) := sub_drop (by omega)
        by_cases c4 : 0 ≤ docZ s
        · have hlt : docAt s < s.length := by omega
          have hne : docAt s ≠ docTo s := by
            intro h
            have a1 := hah hlt
            have a2 := hbh (by omega)
            rw [h, a2] at a1
            cases a1
          have e3 : ((s.length : Int) - 6 + 1).toNat = s.length - 6 + 1 := by omega
          have e4 : ((docAt s : Int) - 1).toNat = docAt s - 1 := by omega
          have e5 : ((docAt s : Int) + 1).toNat = docAt s + 1 := by omega
          have e6 : ((docTo s : Int) + 2).toNat = docTo s + 2 := by omega
          have e7 : ((s.length : Int) - 6).toNat = s.length - 6 := by omega
          have hn : S E F.ref06_number [.str (sub s (docTo s + 2) (s.length - 6 - (docTo s + 2)))] [] = some (.int .i64 (numF (sub s (docTo s + 2) (s.length - 6 - (docTo s + 2)))), []) := go_number
          obtain ⟨z0, z1⟩ := numF_range (s.drop (s.length - 6 + 2))
          change -1 ≤ docZ s at z0
          change docZ s < _ at z1
          have hsub : ∀ (a n : Nat), (sub s a n).length ≤ s.length := by
            intro a n; unfold sub; rw [List.length_take, List.length_drop]; omega
          have hid := go_rident (i := docI s) (by have := hsub 0 (docAt s - 1); exact Nat.le_trans this hs) (by have := hsub (docAt s + 1) (docTo s - (docAt s + 1)); exact Nat.le_trans this hs)
          have hb45 : (bat s (s.length - 6 + 1) == 45) = decide (s.getD (s.length - 6 + 1) 0 = 45) := by
            by_cases h : s.getD (s.length - 6 + 1) 0 = 45
            · rw [decide_eq_true h]; unfold bat; rw [h]; rfl
            · rw [decide_eq_false h]; exact beq_f (fun h2 => h (UInt8.toNat_inj.1 (by unfold bat at h2; show (s.getD (s.length - 6 + 1) 0).toNat = 45; omega)))
          have hcell : ∀ w, docZone s = w → (docI s).cells = [.str (sub s 0 (docAt s - 1)), .str (sub s (docAt s + 1) (docTo s - (docAt s + 1))), .int .i64 (numF (sub s (docTo s + 2) (s.length - 6 - (docTo s + 2)))), .int .i64 w] := by
            intro w hw; rw [← hw]; rfl
          have eOK : docOK s = (identOK (docI s) && decide (putI (docI s) = s)) := by unfold docOK; simp [c1, c2, c3, c4]
          rw [eOK]
          by_cases hm : s.getD (s.length - 6 + 1) 0 = 45
          · have hw := hcell (0 - (docZ s / 100 * 60 + docZ s % 100)) (by unfold docZone; rw [if_pos hm])
            rw [decide_eq_true hm] at hb45
            rw [hw] at hid
            cases ho : identOK (docI s)
            · rw [ho] at hid
              simp (dsimp := false) (disch := first | omega | (simp only [strs_length, List.length_set, List.length_replicate, words_length, ofBytes_length, List.length_append, List.length_cons, List.length_nil, List.length_take, List.length_drop, two_length] <;> omega) | fail) only [L.ref06_DocParseIdent.r1, go_sem, reduceIte, reduceCtorEq, Nat.reduceEqDiff, Nat.reduceAdd, Nat.reduceSub, Nat.reduceMul, Nat.reduceDiv, Nat.reduceMod, Nat.reduceBEq, Nat.reduceLeDiff, Nat.reduceLT, Int.reduceEq, Int.reduceNe, Int.reduceLT, Int.reduceLE, Int.reduceBEq, Int.reduceBNe, Int.reduceToNat, Int.reduceAdd, Int.reduceSub, Int.reduceMul, Int.reduceNeg, errP, zeroI, e1, e2, e3, e4, e5, e6, e7, hz, tdiv_pos, tmod_pos, hb45, hn, Nat.sub_zero, hid, Bool.false_and]
            · rw [ho] at hid
              have hp := go_rput ho
              rw [hw] at hp
              by_cases he : putI (docI s) = s
              · have he2 : (putI (docI s) == s) = true := by simp [he]
                simp (dsimp := false) (disch := first | omega | (simp only [strs_length, List.length_set, List.length_replicate, words_length, ofBytes_length, List.length_append, List.length_cons, List.length_nil, List.length_take, List.length_drop, two_length] <;> omega) | fail) only [L.ref06_DocParseIdent.r1, go_sem, reduceIte, reduceCtorEq, Nat.reduceEqDiff, Nat.reduceAdd, Nat.reduceSub, Nat.reduceMul, Nat.reduceDiv, Nat.reduceMod, Nat.reduceBEq, Nat.reduceLeDiff, Nat.reduceLT, Int.reduceEq, Int.reduceNe, Int.reduceLT, Int.reduceLE, Int.reduceBEq, Int.reduceBNe, Int.reduceToNat, Int.reduceAdd, Int.reduceSub, Int.reduceMul, Int.reduceNeg, errP, zeroI, e1, e2, e3, e4, e5, e6, e7, hz, tdiv_pos, tmod_pos, hb45, hn, Nat.sub_zero, hid, hp, he2, decide_eq_true he, Bool.true_and, hw]
              · have he2 : (putI (docI s) == s) = false := by simp [he]
                simp (dsimp := false) (disch := first | omega | (simp only [strs_length, List.length_set, List.length_replicate, words_length, ofBytes_length, List.length_append, List.length_cons, List.length_nil, List.length_take, List.length_drop, two_length] <;> omega) | fail) only [L.ref06_DocParseIdent.r1, go_sem, reduceIte, reduceCtorEq, Nat.reduceEqDiff, Nat.reduceAdd, Nat.reduceSub, Nat.reduceMul, Nat.reduceDiv, Nat.reduceMod, Nat.reduceBEq, Nat.reduceLeDiff, Nat.reduceLT, Int.reduceEq, Int.reduceNe, Int.reduceLT, Int.reduceLE, Int.reduceBEq, Int.reduceBNe, Int.reduceToNat, Int.reduceAdd, Int.reduceSub, Int.reduceMul, Int.reduceNeg, errP, zeroI, e1, e2, e3, e4, e5, e6, e7, hz, tdiv_pos, tmod_pos, hb45, hn, Nat.sub_zero, hid, hp, he2, decide_eq_false he, Bool.true_and]
          · have hw := hcell (docZ s / 100 * 60 + docZ s % 100) (by unfold docZone; rw [if_neg hm])
            rw [decide_eq_false hm] at hb45
            rw [hw] at hid
            cases ho : identOK (docI s)
            · rw [ho] at hid
              simp (dsimp := false) (disch := first | omega | (simp only [strs_length, List.length_set, List.length_replicate, words_length, ofBytes_length, List.length_append, List.length_cons, List.length_nil, List.length_take, List.length_drop, two_length] <;> omega) | fail) only [L.ref06_DocParseIdent.r1, go_sem, reduceIte, reduceCtorEq, Nat.reduceEqDiff, Nat.reduceAdd, Nat.reduceSub, Nat.reduceMul, Nat.reduceDiv, Nat.reduceMod, Nat.reduceBEq, Nat.reduceLeDiff, Nat.reduceLT, Int.reduceEq, Int.reduceNe, Int.reduceLT, Int.reduceLE, Int.reduceBEq, Int.reduceBNe, Int.reduceToNat, Int.reduceAdd, Int.reduceSub, Int.reduceMul, Int.reduceNeg, errP, zeroI, e1, e2, e3, e4, e5, e6, e7, hz, tdiv_pos, tmod_pos, hb45, hn, Nat.sub_zero, hid, Bool.false_and]
            · rw [ho] at hid
              have hp := go_rput ho
              rw [hw] at hp
              by_cases he : putI (docI s) = s
              · have he2 : (putI (docI s) == s) = true := by simp [he]
                simp (dsimp := false) (disch := first | omega | (simp only [strs_length, List.length_set, List.length_replicate, words_length, ofBytes_length, List.length_append, List.length_cons, List.length_nil, List.length_take, List.length_drop, two_length] <;> omega) | fail) only [L.ref06_DocParseIdent.r1, go_sem, reduceIte, reduceCtorEq, Nat.reduceEqDiff, Nat.reduceAdd, Nat.reduceSub, Nat.reduceMul, Nat.reduceDiv, Nat.reduceMod, Nat.reduceBEq, Nat.reduceLeDiff, Nat.reduceLT, Int.reduceEq, Int.reduceNe, Int.reduceLT, Int.reduceLE, Int.reduceBEq, Int.reduceBNe, Int.reduceToNat, Int.reduceAdd, Int.reduceSub, Int.reduceMul, Int.reduceNeg, errP, zeroI, e1, e2, e3, e4, e5, e6, e7, hz, tdiv_pos, tmod_pos, hb45, hn, Nat.sub_zero, hid, hp, he2, decide_eq_true he, Bool.true_and, hw]
              · have he2 : (putI (docI s) == s) = false := by simp [he]
                simp (dsimp := false) (disch := first | omega | (simp only [strs_length, List.length_set, List.length_replicate, words_length, ofBytes_length, List.length_append, List.length_cons, List.length_nil, List.length_take, List.length_drop, two_length] <;> omega) | fail) only [L.ref06_DocParseIdent.r1, go_sem, reduceIte, reduceCtorEq, Nat.reduceEqDiff, Nat.reduceAdd, Nat.reduceSub, Nat.reduceMul, Nat.reduceDiv, Nat.reduceMod, Nat.reduceBEq, Nat.reduceLeDiff, Nat.reduceLT, Int.reduceEq, Int.reduceNe, Int.reduceLT, Int.reduceLE, Int.reduceBEq, Int.reduceBNe, Int.reduceToNat, Int.reduceAdd, Int.reduceSub, Int.reduceMul, Int.reduceNeg, errP, zeroI, e1, e2, e3, e4, e5, e6, e7, hz, tdiv_pos, tmod_pos, hb45, hn, Nat.sub_zero, hid, hp, he2, decide_eq_false he, Bool.true_and]
        · have e : docOK s = false := by unfold docOK; simp [c4]
          rw [e]
          simp (dsimp := false) (disch := first | omega | (simp only [strs_length, List.length_set, List.length_replicate, words_length, ofBytes_length, List.length_append, List.length_cons, List.length_nil, List.length_take, List.length_drop, two_length] <;> omega) | fail) only [L.ref06_DocParseIdent.r1, go_sem, reduceIte, reduceCtorEq, Nat.reduceEqDiff, Nat.reduceAdd, Nat.reduceSub, Nat.reduceMul, Nat.reduceDiv, Nat.reduceMod, Nat.reduceBEq, Nat.reduceLeDiff, Nat.reduceLT, Int.reduceEq, Int.reduceNe, Int.reduceLT, Int.reduceLE, Int.reduceBEq, Int.reduceBNe, Int.reduceToNat, Int.reduceAdd, Int.reduceSub, Int.reduceMul, Int.reduceNeg, errP, zeroI, e1, e2, hz]
      · have e : docOK s = false := by unfold docOK; simp [c3]
        rw [e]
        simp (dsimp := false) (disch := first | omega | (simp only [strs_length, List.length_set, List.length_replicate, words_length, ofBytes_length, List.length_append, List.length_cons, List.length_nil, List.length_take, List.length_drop, two_length] <;> omega) | fail) only [L.ref06_DocParseIdent.r1, go_sem, reduceIte, reduceCtorEq, Nat.reduceEqDiff, Nat.reduceAdd, Nat.reduceSub, Nat.reduceMul, Nat.reduceDiv, Nat.reduceMod, Nat.reduceBEq, Nat.reduceLeDiff, Nat.reduceLT, Int.reduceEq, Int.reduceNe, Int.reduceLT, Int.reduceLE, Int.reduceBEq, Int.reduceBNe, Int.reduceToNat, Int.reduceAdd, Int.reduceSub, Int.reduceMul, Int.reduceNeg, errP, zeroI]
    · have e : docOK s = false := by unfold docOK; simp [c2]
      rw [e]
      simp (dsimp := false) (disch := first | omega | (simp only [strs_length, List.length_set, List.length_replicate, words_length, ofBytes_length, List.length_append, List.length_cons, List.length_nil, List.length_take, List.length_drop, two_length] <;> omega) | fail) only [L.ref06_DocParseIdent.r1, go_sem, reduceIte, reduceCtorEq, Nat.reduceEqDiff, Nat.reduceAdd, Nat.reduceSub, Nat.reduceMul, Nat.reduceDiv, Nat.reduceMod, Nat.reduceBEq, Nat.reduceLeDiff, Nat.reduceLT, Int.reduceEq, Int.reduceNe, Int.reduceLT, Int.reduceLE, Int.reduceBEq, Int.reduceBNe, Int.reduceToNat, Int.reduceAdd, Int.reduceSub, Int.reduceMul, Int.reduceNeg, errP, zeroI]
  · have e : docOK s = false := by unfold docOK; simp [c1]
    rw [e]
    simp (dsimp := false) (disch := first | omega | (simp only [strs_length, List.length_set, List.length_replicate, words_length, ofBytes_length, List.length_append, List.length_cons, List.length_nil, List.length_take, List.length_drop, two_length] <;> omega) | fail) only [L.ref06_DocParseIdent.r1, go_sem, reduceIte, reduceCtorEq, Nat.reduceEqDiff, Nat.reduceAdd, Nat.reduceSub, Nat.reduceMul, Nat.reduceDiv, Nat.reduceMod, Nat.reduceBEq, Nat.reduceLeDiff, Nat.reduceLT, Int.reduceEq, Int.reduceNe, Int.reduceLT, Int.reduceLE, Int.reduceBEq, Int.reduceBNe, Int.reduceToNat, Int.reduceAdd, Int.reduceSub, Int.reduceMul, Int.reduceNeg, errP, zeroI]
end Cod

/- What the reference reads is what Put writes. -/
namespace Cod
open Go

theorem nDigits_le : ∀ (k u : Nat), u < 10 ^ (k + 1) → Lib.nDigits u ≤ k + 1 := by
  intro k
  induction k with
  | zero => intro u h; rw [Lib.nDigits_small (by simpa using h)]; exact Nat.le_refl _
  | succ k ih =>
    intro u h
    by_cases h1 : u < 10
    · rw [Lib.nDigits_small h1]; omega
    · rw [Lib.nDigits_big h1]
      have := ih (u / 10) (by rw [Nat.pow_succ] at h; omega)
      omega
theorem itoa_len13 {t : Int} (h0 : 0 ≤ t) (h1 : t ≤ 1099511627776) : (Lib.itoa t).length ≤ 13 := by
  obtain ⟨u, rfl⟩ : ∃ u : Nat, t = u := ⟨t.toNat, by omega⟩
  rw [Lib.itoa_nonneg, Lib.decDigits_length]
  exact nDigits_le 12 u (by have : (10 : Nat) ^ (12 + 1) = 10000000000000 := by decide
                            omega)
theorem getD_app_l {a b : List UInt8} {j : Nat} (h : j < a.length) : (a ++ b).getD j 0 = a.getD j 0 := by
  rw [List.getD_eq_getElem?_getD, List.getElem?_append_left h, ← List.getD_eq_getElem?_getD]
theorem getD_app_r {a b : List UInt8} {j k : Nat} (h : j = a.length + k) : (a ++ b).getD j 0 = b.getD k 0 := by
  rw [List.getD_eq_getElem?_getD, List.getElem?_append_right (by omega), show j - a.length = k by omega, ← List.getD_eq_getElem?_getD]
theorem getD_ne {a : List UInt8} {c : UInt8} {j : Nat} (h : c ∉ a) (hj : j < a.length) : a.getD j 0 ≠ c := by
  intro e
  apply h
  rw [List.getD_eq_getElem?_getD, List.getElem?_eq_getElem hj] at e
  rw [← e]
  exact List.getElem_mem _
section
variable (i : Idt)
def pA : List UInt8 := i.name ++ [32]
def pB : List UInt8 := pA i ++ 60 :: i.email
def pC : List UInt8 := pB i ++ [62, 32]
def pD : List UInt8 := pC i ++ Lib.itoa i.time
theorem pA_len : (pA i).length = i.name.length + 1 := by simp [pA]
theorem pB_len : (pB i).length = i.name.length + 2 + i.email.length := by simp [pB, pA]; omega
theorem pC_len : (pC i).length = i.name.length + 4 + i.email.length := by simp [pC, pB_len]; omega
theorem pD_len : (pD i).length = i.name.length + 4 + i.email.length + (Lib.itoa i.time).length := by simp [pD, pC_len]
theorem put_a : putI i = pA i ++ 60 :: (i.email ++ [62, 32] ++ Lib.itoa i.time ++ [32] ++ zoneT i.zone) := by simp [putI, pA]
theorem put_b : putI i = pB i ++ 62 :: ([32] ++ Lib.itoa i.time ++ [32] ++ zoneT i.zone) := by simp [putI, pB, pA]
theorem put_c : putI i = pC i ++ (Lib.itoa i.time ++ ([32] ++ zoneT i.zone)) := by simp [putI, pC, pB, pA]
theorem put_d : putI i = pD i ++ 32 :: zoneT i.zone := by simp [putI, pD, pC, pB, pA]
theorem put_e : putI i = (pD i ++ [32]) ++ zoneT i.zone := by simp [put_d]
theorem put_f : putI i = (pD i ++ [32, (if i.zone < 0 then 45 else 43)]) ++ (two (zabs i.zone / 60) ++ two (zabs i.zone % 60)) := by simp [put_d, zoneT_eq]
theorem put_len : (putI i).length = i.name.length + 4 + i.email.length + (Lib.itoa i.time).length + 6 := by rw [put_d, List.length_append, pD_len, List.length_cons, zone_len]
end
theorem doc_put {i : Idt} (h : identOK i = true) : docI (putI i) = i ∧ docOK (putI i) = true := by
  obtain ⟨p0, p1, t0, t1, z0, z1⟩ := (identOK_iff i).1 h
  obtain ⟨a0, a1⟩ := zabs_range z0 z1
  obtain ⟨_, _, n60, n62⟩ := plain_mem p0
  obtain ⟨_, _, e60, e62⟩ := plain_mem p1
  obtain ⟨d0, d1, d2⟩ := itoa_dig t0
  have hl := put_len i
  have h13 := itoa_len13 t0 t1
  have hA := pA_len i
  have hB := pB_len i
  have hC := pC_len i
  have hD := pD_len i
  have hat : docAt (putI i) = i.name.length + 1 := by
    unfold docAt
    apply scn_eq
    · rw [put_a, getD_app_r (k := 0) (by omega)]; rfl
    · omega
    · omega
    · intro j _ hj
      rw [put_a, getD_app_l (by omega)]
      exact getD_ne (by simp [pA, n60]) (by omega)
  have hto : docTo (putI i) = i.name.length + 2 + i.email.length := by
    unfold docTo
    rw [hat]
    apply scn_eq
    · rw [put_b, getD_app_r (k := 0) (by omega)]; rfl
    · omega
    · omega
    · intro j _ hj
      rw [put_b, getD_app_l (by omega)]
      exact getD_ne (by simp [pB, pA, n62, e62]) (by omega)
  obtain ⟨q0, q1⟩ := zone4 (a := zabs i.zone / 60) (b := zabs i.zone % 60) (by omega) (by omega) (by omega) (by omega)
  have hz : docZ (putI i) = zabs i.zone / 60 * 100 + zabs i.zone % 60 := by
    unfold docZ
    rw [hl, put_f, List.drop_left' (by rw [List.length_append, hD, List.length_cons, List.length_cons, List.length_nil]; omega)]
    rw [numF_dig (by simp [two]) (by simp [two]) q0, q1]
  have hzone : docZone (putI i) = i.zone := by
    unfold docZone
    rw [hz, show (zabs i.zone / 60 * 100 + zabs i.zone % 60) / 100 * 60 + (zabs i.zone / 60 * 100 + zabs i.zone % 60) % 100 = zabs i.zone by omega]
    have hb : (putI i).getD ((putI i).length - 6 + 1) 0 = if i.zone < 0 then 45 else 43 := by
      rw [put_e, getD_app_r (k := 0) (by rw [← put_e, hl, List.length_append, hD, List.length_cons, List.length_nil]; omega)]; rfl
    rw [hb]
    unfold zabs
    by_cases hn : i.zone < 0
    · rw [if_pos hn, if_pos hn, if_pos rfl]; omega
    · rw [if_neg hn, if_neg hn, if_neg (by decide)]
  have hI : docI (putI i) = i := by
    unfold docI
    rw [hat, hto, hzone]
    have e1 : (putI i).take (i.name.length + 1 - 1) = i.name := by
      rw [put_a, pA, Nat.add_sub_cancel, List.append_assoc]; exact List.take_left' rfl
    have e2 : sub (putI i) (i.name.length + 1 + 1) (i.name.length + 2 + i.email.length - (i.name.length + 1 + 1)) = i.email := by
      unfold sub
      rw [show i.name.length + 2 + i.email.length - (i.name.length + 1 + 1) = i.email.length by omega]
      rw [show putI i = (pA i ++ [60]) ++ (i.email ++ ([62, 32] ++ Lib.itoa i.time ++ [32] ++ zoneT i.zone)) by simp [putI, pA], List.drop_left' (by rw [List.length_append, hA]; rfl), List.take_left' rfl]
    have e3 : sub (putI i) (i.name.length + 2 + i.email.length + 2) ((putI i).length - 6 - (i.name.length + 2 + i.email.length + 2)) = Lib.itoa i.time := by
      unfold sub
      rw [hl, put_c, List.drop_left' (by omega), List.take_left' (by omega)]
    rw [e1, e2, e3, numF_dig d2 h13 d0, d1]
  refine ⟨hI, ?_⟩
  unfold docOK
  rw [hI, h, hat, hto, hz, hl]
  simp only [Bool.true_and, Bool.and_eq_true, decide_eq_true_eq, and_true]
  omega
theorem doc_no {s : List UInt8} (h : ∀ i, identOK i = true → putI i ≠ s) : docOK s = false := by
  cases hd : docOK s with
  | false => rfl
  | true =>
    unfold docOK at hd
    simp only [Bool.and_eq_true, decide_eq_true_eq] at hd
    exact absurd hd.2.2 (h _ hd.2.1)
theorem go_docParse_put {i : Idt} (h : identOK i = true) : S E F.ref06_DocParseIdent [.str (putI i)] [] = some (.tup [.agg i.cells, .int .i64 0], []) := by
  obtain ⟨h1, h2⟩ := doc_put h
  rw [go_docParse (by have := putI_len h; omega), h1, h2]
  rfl
theorem go_docParse_no {s : List UInt8} (hs : s.length ≤ 1000000000000) (h : ∀ i, identOK i = true → putI i ≠ s) : S E F.ref06_DocParseIdent [.str s] [] = some (errP, []) := by
  rw [go_docParse hs, doc_no h]
  rfl
/-- What is read: an ident, or nothing. -/
theorem parse_cases (s : List UInt8) : (∃ i, identOK i = true ∧ putI i = s) ∨ ∀ i, identOK i = true → putI i ≠ s := by
  by_cases h : ∃ i, identOK i = true ∧ putI i = s
  · exact .inl h
  · exact .inr fun i hi he => h ⟨i, hi, he⟩
end Cod

/- How entries of a tree follow one another. -/
namespace Cod
open Go

/-- An entry of a tree. -/
structure Ety where
  mode : Int
  name : List UInt8
  id : List UInt8
  hid : id.length = 32
def Ety.cells (e : Ety) : List AV := .int .i64 e.mode :: .str e.name :: ofBytes e.id
theorem ety_len (e : Ety) : e.cells.length = 34 := by simp [Ety.cells, ofBytes_length, e.hid]
theorem ety_flats (e : Ety) : flats e.cells = true := by simp [Ety.cells, flats, flat, flats_ofBytes]
theorem ety_rens (f : Site → Nat → Option (Site × Nat)) (e : Ety) : rens f e.cells = e.cells := rens_flats _ (ety_flats e)
theorem ety_refs (e : Ety) : refsOfs e.cells = [] := by simp [Ety.cells, refsOfs, refsOf, refsOfs_ofBytes]
theorem ety_hards (e : Ety) : hards e.cells = true := by simp [Ety.cells, hards, hard, hards_ofBytes]
theorem ety_leads (e : Ety) : leadss e.cells = false := by simp [Ety.cells, leadss, leads, leadss_ofBytes]
theorem ety_sub (e : Ety) : sub e.cells 0 34 = e.cells := sub_full (by rw [ety_len]; exact Nat.le_refl _)
theorem ety_0 (e : Ety) : e.cells[0]? = some (.int .i64 e.mode) := rfl
theorem ety_1 (e : Ety) : e.cells[1]? = some (.str e.name) := rfl
attribute [go_sem] ety_len ety_flats ety_rens ety_refs ety_hards ety_leads ety_sub ety_0 ety_1
end Cod

/- Texts in order: laws of what is less. -/
namespace Cod
open Go
end Cod

/- The laws of layer 6: awake, NamesIdents, NamesBack, NamesOrder. -/
namespace Cod
open Go

def wI : Idt := ⟨[65, 32, 66], [97, 64, 98], 5, -90⟩
theorem wI_ok : identOK wI = true := by decide
theorem wI_put : putI wI = [65, 32, 66, 32, 60, 97, 64, 98, 62, 32, 53, 32, 45, 48, 49, 51, 48] := by
  unfold putI
  have : Lib.itoa wI.time = [53] := by
    show Lib.itoa 5 = _
    rw [show (5 : Int) = ((5 : Nat) : Int) from rfl, Lib.itoa_nonneg, Lib.decDigits_one (by omega)]; rfl
  rw [this]
  rfl
theorem go_awake : S E F.law06_awake [] [] = some (.bool true, []) := by
  have h1 := go_putIdent (i := wI)
  unfold putV at h1
  rw [if_pos wI_ok, wI_put] at h1
  have h2 := go_parse_put wI_ok
  rw [wI_put] at h2
  simp only [Idt.cells, wI] at h1 h2
  have h3 : S E F.names_Path [.str [97, 47, 98, 46, 99]] [] = some (.bool true, []) := by rw [S_path]; rfl
  have h4 : S E F.names_Path [.str [97, 47, 47, 98]] [] = some (.bool false, []) := by rw [S_path]; rfl
  rw [S_of fn_law06_awake rfl rfl]
  simp (dsimp := false) (disch := first | omega | (simp only [strs_length, List.length_set, List.length_replicate, words_length, ofBytes_length, List.length_append, List.length_cons, List.length_nil, List.length_take, List.length_drop, two_length] <;> omega) | fail) only [L.law06_awake, go_sem, reduceIte, reduceCtorEq, Nat.reduceEqDiff, Nat.reduceAdd, Nat.reduceSub, Nat.reduceMul, Nat.reduceDiv, Nat.reduceMod, Nat.reduceBEq, Nat.reduceLeDiff, Nat.reduceLT, Int.reduceEq, Int.reduceNe, Int.reduceLT, Int.reduceLE, Int.reduceBEq, Int.reduceBNe, Int.reduceToNat, Int.reduceAdd, Int.reduceSub, Int.reduceMul, Int.reduceNeg, h1, h2, h3, h4, Bool.not_false, beq_self_eq_true]
theorem eqC (a b c d : List UInt8) (t u z y : Int) : eqCells [2, 2, 0, 0] [.str a, .str b, .int .i64 t, .int .i64 z] [.str c, .str d, .int .i64 u, .int .i64 y] = some (a == c && (b == d && (t == u && (z == y && true)))) := rfl
theorem eqI (i : Idt) : eqCells [2, 2, 0, 0] i.cells i.cells = some true := by
  unfold Idt.cells; rw [eqC]; simp
theorem idt_over (i : Idt) : over [.str [], .str [], .int .i64 0, .int .i64 0] 0 i.cells = i.cells := rfl
theorem eqZ' : eqCells [2, 2, 0, 0] [.str [], .str [], .int .i64 0, .int .i64 0] [.str [], .str [], .int .i64 0, .int .i64 0] = some true := rfl
theorem go_namesIdents {i : Idt} {s : List UInt8} (hn : i.name.length ≤ 1000000000000) (he : i.email.length ≤ 1000000000000) (hs : s.length ≤ 1000000000000) : S E F.law06_NamesIdents [.agg i.cells, .str s] [] = some (.bool true, []) := by
  have p1 := go_putIdent (i := i)
  have p2 := go_docPutI hn he
  have n1 := go_nident (i := i)
  have n2 := go_rident hn he
  have hb : (identOK i == identOK i) = true := by simp
  obtain ⟨x, e, hp⟩ : ∃ x e, putV i = .tup [.str x, .int .i64 e] := by
    unfold putV; split
    · exact ⟨_, _, rfl⟩
    · exact ⟨_, _, rfl⟩
  rw [hp] at p1 p2
  have hx : (x == x) = true := by simp
  have hee : (e == e) = true := by simp
  rw [S_of fn_law06_NamesIdents rfl rfl]
  rcases parse_cases s with ⟨j, hj, rfl⟩ | h
  · have q1 := go_parse_put hj
    have q2 := go_docParse_put hj
    simp (dsimp := false) (disch := first | omega | (simp only [strs_length, List.length_set, List.length_replicate, words_length, ofBytes_length, List.length_append, List.length_cons, List.length_nil, List.length_take, List.length_drop, two_length] <;> omega) | fail) only [L.law06_NamesIdents, go_sem, reduceIte, reduceCtorEq, Nat.reduceEqDiff, Nat.reduceAdd, Nat.reduceSub, Nat.reduceMul, Nat.reduceDiv, Nat.reduceMod, Nat.reduceBEq, Nat.reduceLeDiff, Nat.reduceLT, Int.reduceEq, Int.reduceNe, Int.reduceLT, Int.reduceLE, Int.reduceBEq, Int.reduceBNe, Int.reduceToNat, Int.reduceAdd, Int.reduceSub, Int.reduceMul, Int.reduceNeg, idt_over, go_awake, p1, p2, q1, q2, n1, n2, hb, hx, hee, Bool.not_true, eqI, Option.map_some]
  · have q1 := go_parse_no hs h
    have q2 := go_docParse_no hs h
    unfold errP zeroI at q1 q2
    simp (dsimp := false) (disch := first | omega | (simp only [strs_length, List.length_set, List.length_replicate, words_length, ofBytes_length, List.length_append, List.length_cons, List.length_nil, List.length_take, List.length_drop, two_length] <;> omega) | fail) only [L.law06_NamesIdents, go_sem, reduceIte, reduceCtorEq, Nat.reduceEqDiff, Nat.reduceAdd, Nat.reduceSub, Nat.reduceMul, Nat.reduceDiv, Nat.reduceMod, Nat.reduceBEq, Nat.reduceLeDiff, Nat.reduceLT, Int.reduceEq, Int.reduceNe, Int.reduceLT, Int.reduceLE, Int.reduceBEq, Int.reduceBNe, Int.reduceToNat, Int.reduceAdd, Int.reduceSub, Int.reduceMul, Int.reduceNeg, idt_over, go_awake, p1, p2, q1, q2, n1, n2, hb, hx, hee, Bool.not_true, eqZ', Option.map_some]
end Cod


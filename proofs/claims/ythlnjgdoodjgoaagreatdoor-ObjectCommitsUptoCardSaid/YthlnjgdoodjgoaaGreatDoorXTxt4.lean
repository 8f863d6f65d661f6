/- The reference's ParseIdent. -/
import Derived.Test.YthlnjgdoodjgoaaGreatDoorXTxt3
import Derived.Test.YthlnjgdoodjgoaaGreatDoorXTxt2
import Derived.Test.YthlnjgdoodjgoaaGreatDoorXTxt1
set_option linter.unusedSimpArgs false
set_option linter.unusedVariables false
open Nat renaming reduceEqDiff → qn0, reduceAdd → qn1, reduceSub → qn2, reduceMul → qn3, reduceDiv → qn4, reduceMod → qn5, reduceBEq → qn6, reduceLeDiff → qn7, reduceLT → qn8
open Int renaming reduceEq → qi0, reduceNe → qi1, reduceLT → qi2, reduceLE → qi3, reduceBEq → qi4, reduceBNe → qi5, reduceToNat → qi6, reduceAdd → qi7, reduceSub → qi8, reduceMul → qi9, reduceNeg → qi10
namespace Cod
open Go
def scn (s : List UInt8) (c : UInt8) : Nat → Nat → Nat
  | 0, i => i
  | m + 1, i => if s.getD i 0 = c then i else scn s c m (i + 1)
theorem scn_le (s : List UInt8) (c : UInt8) : ∀ m i, i ≤ scn s c m i ∧ scn s c m i ≤ i + m := by
  intro m
  induction m with
  | zero => intro i; simp [scn]
  | succ m ih =>
    intro i
    unfold scn
    split
    · omega
    · have := ih (i + 1); omega
theorem scn_hit (s : List UInt8) (c : UInt8) : ∀ m i, scn s c m i < i + m → s.getD (scn s c m i) 0 = c := by
  intro m
  induction m with
  | zero => intro i h; simp [scn] at h
  | succ m ih =>
    intro i h
    unfold scn at h ⊢
    split
    · rename_i h1; exact h1
    · rename_i h1
      rw [if_neg h1] at h
      exact ih (i + 1) (by omega)
theorem scn_eq (s : List UInt8) (c : UInt8) (k : Nat) (hk : s.getD k 0 = c) : ∀ m i, i ≤ k → k < i + m → (∀ j, i ≤ j → j < k → s.getD j 0 ≠ c) → scn s c m i = k := by
  intro m
  induction m with
  | zero => intro i h1 h2; omega
  | succ m ih =>
    intro i h1 h2 h3
    unfold scn
    by_cases h : i = k
    · rw [h, if_pos hk]
    · rw [if_neg (h3 i (Nat.le_refl _) (by omega))]
      exact ih (i + 1) (by omega) (by omega) (fun j a b => h3 j (by omega) b)
def σD : Store := [(.s 1000000 0, ⟨0, true, true, true, [.str [], .str [], .int .i64 0, .int .i64 0]⟩)]
theorem dp_l0 (k : List It) {s : List UInt8} {n : Int} (hs : s.length ≤ 1000000000000) : ∀ (m i : Nat), i + m = s.length →
    X E [.cell 2 (some 4), .tmp 3] (.c L.ref06_DocParseIdent.x0 :: .lp [0, 2, 4, 5] L.ref06_DocParseIdent.x0 :: .blk 0 :: k) ⟨[(0, .str s), (2, .ref (.s 1000000 0) 0 0), (4, .int .i64 n), (5, .int .i64 i)], σD⟩ =
    X E [.cell 2 (some 4), .tmp 3] k ⟨[(0, .str s), (2, .ref (.s 1000000 0) 0 0), (4, .int .i64 n), (5, .int .i64 (scn s 60 m i)), (21, .bool false)], σD⟩ := by
  intro m
  induction m with
  | zero =>
    intro i hi
    rw [X_in L.ref06_DocParseIdent.x0.eq_1, scn]
    simp (dsimp := false) (disch := first | omega | (simp only [LENs, two_length] <;> omega) | fail) only [go_sem, reduceIte, reduceCtorEq, qn0, qn1, qn2, qn3, qn4, qn5, qn6, qn7, qn8, qi0, qi1, qi2, qi3, qi4, qi5, qi6, qi7, qi8, qi9, qi10, σD]
  | succ m ih =>
    intro i hi
    have hp : i < s.length := by omega
    rw [X_in L.ref06_DocParseIdent.x0.eq_1, scn]
    by_cases hc : s.getD i 0 = 60
    · rw [if_pos hc]
      have hb : (bat s i != 60) = false := bne_f (by unfold bat; rw [hc]; rfl)
      simp (dsimp := false) (disch := first | omega | (simp only [LENs, two_length] <;> omega) | fail) only [go_sem, reduceIte, reduceCtorEq, qn0, qn1, qn2, qn3, qn4, qn5, qn6, qn7, qn8, qi0, qi1, qi2, qi3, qi4, qi5, qi6, qi7, qi8, qi9, qi10, hp, hb, σD]
    · rw [if_neg hc, ← ih (i + 1) (by omega)]
      have hb : (bat s i != 60) = true := bne_t (fun h => hc (UInt8.toNat_inj.1 (by unfold bat at h; show (s.getD i 0).toNat = 60; omega)))
      simp (dsimp := false) (disch := first | omega | (simp only [LENs, two_length] <;> omega) | fail) only [go_sem, reduceIte, reduceCtorEq, qn0, qn1, qn2, qn3, qn4, qn5, qn6, qn7, qn8, qi0, qi1, qi2, qi3, qi4, qi5, qi6, qi7, qi8, qi9, qi10, hp, hb, σD]
      rfl
theorem dp_l1 (k : List It) {s : List UInt8} {n a : Int} (hs : s.length ≤ 1000000000000) : ∀ (m i : Nat), i + m = s.length →
    X E [.cell 2 (some 4), .tmp 3] (.c L.ref06_DocParseIdent.x1 :: .lp [0, 2, 4, 5, 6] L.ref06_DocParseIdent.x1 :: .blk 2 :: k) ⟨[(0, .str s), (2, .ref (.s 1000000 0) 0 0), (4, .int .i64 n), (5, .int .i64 a), (6, .int .i64 i)], σD⟩ =
    X E [.cell 2 (some 4), .tmp 3] k ⟨[(0, .str s), (2, .ref (.s 1000000 0) 0 0), (4, .int .i64 n), (5, .int .i64 a), (6, .int .i64 (scn s 62 m i)), (34, .bool false)], σD⟩ := by
  intro m
  induction m with
  | zero =>
    intro i hi
    rw [X_in L.ref06_DocParseIdent.x1.eq_1, scn]
    simp (dsimp := false) (disch := first | omega | (simp only [LENs, two_length] <;> omega) | fail) only [go_sem, reduceIte, reduceCtorEq, qn0, qn1, qn2, qn3, qn4, qn5, qn6, qn7, qn8, qi0, qi1, qi2, qi3, qi4, qi5, qi6, qi7, qi8, qi9, qi10, σD]
  | succ m ih =>
    intro i hi
    have hp : i < s.length := by omega
    rw [X_in L.ref06_DocParseIdent.x1.eq_1, scn]
    by_cases hc : s.getD i 0 = 62
    · rw [if_pos hc]
      have hb : (bat s i != 62) = false := bne_f (by unfold bat; rw [hc]; rfl)
      simp (dsimp := false) (disch := first | omega | (simp only [LENs, two_length] <;> omega) | fail) only [go_sem, reduceIte, reduceCtorEq, qn0, qn1, qn2, qn3, qn4, qn5, qn6, qn7, qn8, qi0, qi1, qi2, qi3, qi4, qi5, qi6, qi7, qi8, qi9, qi10, hp, hb, σD]
    · rw [if_neg hc, ← ih (i + 1) (by omega)]
      have hb : (bat s i != 62) = true := bne_t (fun h => hc (UInt8.toNat_inj.1 (by unfold bat at h; show (s.getD i 0).toNat = 62; omega)))
      simp (dsimp := false) (disch := first | omega | (simp only [LENs, two_length] <;> omega) | fail) only [go_sem, reduceIte, reduceCtorEq, qn0, qn1, qn2, qn3, qn4, qn5, qn6, qn7, qn8, qi0, qi1, qi2, qi3, qi4, qi5, qi6, qi7, qi8, qi9, qi10, hp, hb, σD]
      rfl
theorem numL_range : ∀ (l : List UInt8) (v : Int), 0 ≤ v → -1 ≤ numL l v ∧ numL l v < (v + 1) * 10 ^ l.length := by
  intro l
  induction l with
  | nil => intro v h; simp only [numL, List.length_nil, Int.pow_zero]; omega
  | cons c r ih =>
    intro v h
    unfold numL
    have hpos : (0 : Int) < 10 ^ r.length := Int.pow_pos (by omega)
    split
    · refine ⟨by omega, ?_⟩
      have : (0 : Int) < (v + 1) * 10 ^ (c :: r).length := Int.mul_pos (by omega) (Int.pow_pos (by omega))
      omega
    · rename_i hc
      obtain ⟨h1, h2⟩ := ih (10 * v + (c.toNat - 48)) (by omega)
      refine ⟨h1, Int.lt_of_lt_of_le h2 ?_⟩
      rw [List.length_cons, Int.pow_succ, Int.mul_comm (10 ^ r.length) 10, ← Int.mul_assoc]
      exact Int.mul_le_mul_of_nonneg_right (by omega) (Int.le_of_lt hpos)
theorem numF_range (l : List UInt8) : -1 ≤ numF l ∧ numF l < 10000000000000 := by
  unfold numF
  split
  · omega
  · rename_i h
    obtain ⟨h1, h2⟩ := numL_range l 0 (by omega)
    refine ⟨h1, ?_⟩
    have h3 : (10 : Int) ^ l.length ≤ 10 ^ 13 := by exact_mod_cast Nat.pow_le_pow_right (by omega) (by omega)
    have h4 : (10 : Int) ^ 13 = 10000000000000 := by decide
    omega
def docZ (s : List UInt8) : Int := numF (s.drop (s.length - 6 + 2))
def docZone (s : List UInt8) : Int := if s.getD (s.length - 6 + 1) 0 = 45 then 0 - (docZ s / 100 * 60 + docZ s % 100) else docZ s / 100 * 60 + docZ s % 100
def docAt (s : List UInt8) : Nat := scn s 60 s.length 0
def docTo (s : List UInt8) : Nat := scn s 62 (s.length - docAt s) (docAt s)
def docI (s : List UInt8) : Idt := ⟨s.take (docAt s - 1), sub s (docAt s + 1) (docTo s - (docAt s + 1)), numF (sub s (docTo s + 2) (s.length - 6 - (docTo s + 2))), docZone s⟩
def docOK (s : List UInt8) : Bool := decide (6 ≤ s.length ∧ 1 ≤ docAt s ∧ docTo s + 2 + 6 ≤ s.length ∧ 0 ≤ docZ s) && (identOK (docI s) && decide (putI (docI s) = s))
theorem go_docParse {s : List UInt8} (hs : s.length ≤ 1000000000000) : S E F.ref06_DocParseIdent [.str s] [] = some (if docOK s = true then .tup [.agg (docI s).cells, .int .i64 0] else errP, []) := by
  have h0 := dp_l0 [.c L.ref06_DocParseIdent.r0] (n := (s.length : Int) - 6) hs s.length 0 (by omega)
  have ha := scn_le s 60 s.length 0
  have h1 := dp_l1 [.c L.ref06_DocParseIdent.r1] (n := (s.length : Int) - 6) (a := docAt s) hs (s.length - docAt s) (docAt s) (by unfold docAt; omega)
  have hb := scn_le s 62 (s.length - docAt s) (docAt s)
  have hah : docAt s < s.length → s.getD (docAt s) 0 = 60 := fun h => scn_hit s 60 s.length 0 (by unfold docAt at h; omega)
  have hbh : docTo s < s.length → s.getD (docTo s) 0 = 62 := fun h => scn_hit s 62 (s.length - docAt s) (docAt s) (by unfold docTo at h; omega)
  simp only [Int.cast_ofNat_Int] at h0
  change X E _ _ _ = X E _ _ ⟨[_, _, _, (5, .int .i64 (docAt s)), _], _⟩ at h0
  change X E _ _ _ = X E _ _ ⟨[_, _, _, _, (6, .int .i64 (docTo s)), _], _⟩ at h1
  change docAt s ≤ docTo s ∧ docTo s ≤ _ at hb
  change 0 ≤ docAt s ∧ docAt s ≤ _ at ha
  unfold σD at h0 h1
  have hx : S E F.ref06_DocParseIdent [.str s] [] = X E [.cell 2 (some 4), .tmp 3] [.c L.ref06_DocParseIdent.r1] ⟨[(0, .str s), (2, .ref (.s 1000000 0) 0 0), (4, .int .i64 ((s.length : Int) - 6)), (5, .int .i64 (docAt s)), (6, .int .i64 (docTo s)), (34, .bool false)], [(.s 1000000 0, ⟨0, true, true, true, [.str [], .str [], .int .i64 0, .int .i64 0]⟩)]⟩ := by
    rw [S_of fn_ref06_DocParseIdent rfl rfl]
    simp (dsimp := false) (disch := first | omega | (simp only [LENs, two_length] <;> omega) | fail) only [L.ref06_DocParseIdent, go_sem, reduceIte, reduceCtorEq, qn0, qn1, qn2, qn3, qn4, qn5, qn6, qn7, qn8, qi0, qi1, qi2, qi3, qi4, qi5, qi6, qi7, qi8, qi9, qi10]
    rw [h0]
    simp (dsimp := false) (disch := first | omega | (simp only [LENs, two_length] <;> omega) | fail) only [L.ref06_DocParseIdent.r0, go_sem, reduceIte, reduceCtorEq, qn0, qn1, qn2, qn3, qn4, qn5, qn6, qn7, qn8, qi0, qi1, qi2, qi3, qi4, qi5, qi6, qi7, qi8, qi9, qi10]
    rw [h1]
  rw [hx]
  clear hx h0 h1
  by_cases c1 : 6 ≤ s.length
  · by_cases c2 : 1 ≤ docAt s
    · by_cases c3 : docTo s + 2 + 6 ≤ s.length
      · have hz : S E F.ref06_number [.str (s.drop (s.length - 6 + 2))] [] = some (.int .i64 (docZ s), []) := go_number
        have e1 : ((s.length : Int) - 6 + 2).toNat = s.length - 6 + 2 := by omega
        have e2 : sub s (s.length - 6 + 2) (s.length - (s.length - 6 + 2)) = s.drop (s.length - 6 + 2) := sub_drop (by omega)
        by_cases c4 : 0 ≤ docZ s
        · have hlt : docAt s < s.length := by omega
          have hne : docAt s ≠ docTo s := by
            intro h
            have a1 := hah hlt
            have a2 := hbh (by omega)
            rw [h, a2] at a1
            cases a1
          have e3 : ((s.length : Int) - 6 + 1).toNat = s.length - 6 + 1 := by omega
          have e4 : ((docAt s : Int) - 1).toNat = docAt s - 1 := by omega
          have e5 : ((docAt s : Int) + 1).toNat = docAt s + 1 := by omega
          have e6 : ((docTo s : Int) + 2).toNat = docTo s + 2 := by omega
          have e7 : ((s.length : Int) - 6).toNat = s.length - 6 := by omega
          have hn : S E F.ref06_number [.str (sub s (docTo s + 2) (s.length - 6 - (docTo s + 2)))] [] = some (.int .i64 (numF (sub s (docTo s + 2) (s.length - 6 - (docTo s + 2)))), []) := go_number
          obtain ⟨z0, z1⟩ := numF_range (s.drop (s.length - 6 + 2))
          change -1 ≤ docZ s at z0
          change docZ s < _ at z1
          have hsub : ∀ (a n : Nat), (sub s a n).length ≤ s.length := by
            intro a n; unfold sub; rw [List.length_take, List.length_drop]; omega
          have hid := go_rident (i := docI s) (by have := hsub 0 (docAt s - 1); exact Nat.le_trans this hs) (by have := hsub (docAt s + 1) (docTo s - (docAt s + 1)); exact Nat.le_trans this hs)
          have hb45 : (bat s (s.length - 6 + 1) == 45) = decide (s.getD (s.length - 6 + 1) 0 = 45) := by
            by_cases h : s.getD (s.length - 6 + 1) 0 = 45
            · rw [decide_eq_true h]; unfold bat; rw [h]; rfl
            · rw [decide_eq_false h]; exact beq_f (fun h2 => h (UInt8.toNat_inj.1 (by unfold bat at h2; show (s.getD (s.length - 6 + 1) 0).toNat = 45; omega)))
          have hcell : ∀ w, docZone s = w → (docI s).cells = [.str (sub s 0 (docAt s - 1)), .str (sub s (docAt s + 1) (docTo s - (docAt s + 1))), .int .i64 (numF (sub s (docTo s + 2) (s.length - 6 - (docTo s + 2)))), .int .i64 w] := by
            intro w hw; rw [← hw]; rfl
          have eOK : docOK s = (identOK (docI s) && decide (putI (docI s) = s)) := by unfold docOK; simp [c1, c2, c3, c4]
          rw [eOK]
          by_cases hm : s.getD (s.length - 6 + 1) 0 = 45
          · have hw := hcell (0 - (docZ s / 100 * 60 + docZ s % 100)) (by unfold docZone; rw [if_pos hm])
            rw [decide_eq_true hm] at hb45
            rw [hw] at hid
            cases ho : identOK (docI s)
            · rw [ho] at hid
              simp (dsimp := false) (disch := first | omega | (simp only [LENs, two_length] <;> omega) | fail) only [L.ref06_DocParseIdent.r1, go_sem, reduceIte, reduceCtorEq, qn0, qn1, qn2, qn3, qn4, qn5, qn6, qn7, qn8, qi0, qi1, qi2, qi3, qi4, qi5, qi6, qi7, qi8, qi9, qi10, errP, zeroI, e1, e2, e3, e4, e5, e6, e7, hz, tdiv_pos, tmod_pos, hb45, hn, Nat.sub_zero, hid, Bool.false_and]
            · rw [ho] at hid
              have hp := go_rput ho
              rw [hw] at hp
              by_cases he : putI (docI s) = s
              · have he2 : (putI (docI s) == s) = true := by simp [he]
                simp (dsimp := false) (disch := first | omega | (simp only [LENs, two_length] <;> omega) | fail) only [L.ref06_DocParseIdent.r1, go_sem, reduceIte, reduceCtorEq, qn0, qn1, qn2, qn3, qn4, qn5, qn6, qn7, qn8, qi0, qi1, qi2, qi3, qi4, qi5, qi6, qi7, qi8, qi9, qi10, errP, zeroI, e1, e2, e3, e4, e5, e6, e7, hz, tdiv_pos, tmod_pos, hb45, hn, Nat.sub_zero, hid, hp, he2, decide_eq_true he, Bool.true_and, hw]
              · have he2 : (putI (docI s) == s) = false := by simp [he]
                simp (dsimp := false) (disch := first | omega | (simp only [LENs, two_length] <;> omega) | fail) only [L.ref06_DocParseIdent.r1, go_sem, reduceIte, reduceCtorEq, qn0, qn1, qn2, qn3, qn4, qn5, qn6, qn7, qn8, qi0, qi1, qi2, qi3, qi4, qi5, qi6, qi7, qi8, qi9, qi10, errP, zeroI, e1, e2, e3, e4, e5, e6, e7, hz, tdiv_pos, tmod_pos, hb45, hn, Nat.sub_zero, hid, hp, he2, decide_eq_false he, Bool.true_and]
          · have hw := hcell (docZ s / 100 * 60 + docZ s % 100) (by unfold docZone; rw [if_neg hm])
            rw [decide_eq_false hm] at hb45
            rw [hw] at hid
            cases ho : identOK (docI s)
            · rw [ho] at hid
              simp (dsimp := false) (disch := first | omega | (simp only [LENs, two_length] <;> omega) | fail) only [L.ref06_DocParseIdent.r1, go_sem, reduceIte, reduceCtorEq, qn0, qn1, qn2, qn3, qn4, qn5, qn6, qn7, qn8, qi0, qi1, qi2, qi3, qi4, qi5, qi6, qi7, qi8, qi9, qi10, errP, zeroI, e1, e2, e3, e4, e5, e6, e7, hz, tdiv_pos, tmod_pos, hb45, hn, Nat.sub_zero, hid, Bool.false_and]
            · rw [ho] at hid
              have hp := go_rput ho
              rw [hw] at hp
              by_cases he : putI (docI s) = s
              · have he2 : (putI (docI s) == s) = true := by simp [he]
                simp (dsimp := false) (disch := first | omega | (simp only [LENs, two_length] <;> omega) | fail) only [L.ref06_DocParseIdent.r1, go_sem, reduceIte, reduceCtorEq, qn0, qn1, qn2, qn3, qn4, qn5, qn6, qn7, qn8, qi0, qi1, qi2, qi3, qi4, qi5, qi6, qi7, qi8, qi9, qi10, errP, zeroI, e1, e2, e3, e4, e5, e6, e7, hz, tdiv_pos, tmod_pos, hb45, hn, Nat.sub_zero, hid, hp, he2, decide_eq_true he, Bool.true_and, hw]
              · have he2 : (putI (docI s) == s) = false := by simp [he]
                simp (dsimp := false) (disch := first | omega | (simp only [LENs, two_length] <;> omega) | fail) only [L.ref06_DocParseIdent.r1, go_sem, reduceIte, reduceCtorEq, qn0, qn1, qn2, qn3, qn4, qn5, qn6, qn7, qn8, qi0, qi1, qi2, qi3, qi4, qi5, qi6, qi7, qi8, qi9, qi10, errP, zeroI, e1, e2, e3, e4, e5, e6, e7, hz, tdiv_pos, tmod_pos, hb45, hn, Nat.sub_zero, hid, hp, he2, decide_eq_false he, Bool.true_and]
        · have e : docOK s = false := by unfold docOK; simp [c4]
          rw [e]
          simp (dsimp := false) (disch := first | omega | (simp only [LENs, two_length] <;> omega) | fail) only [L.ref06_DocParseIdent.r1, go_sem, reduceIte, reduceCtorEq, qn0, qn1, qn2, qn3, qn4, qn5, qn6, qn7, qn8, qi0, qi1, qi2, qi3, qi4, qi5, qi6, qi7, qi8, qi9, qi10, errP, zeroI, e1, e2, hz]
      · have e : docOK s = false := by unfold docOK; simp [c3]
        rw [e]
        simp (dsimp := false) (disch := first | omega | (simp only [LENs, two_length] <;> omega) | fail) only [L.ref06_DocParseIdent.r1, go_sem, reduceIte, reduceCtorEq, qn0, qn1, qn2, qn3, qn4, qn5, qn6, qn7, qn8, qi0, qi1, qi2, qi3, qi4, qi5, qi6, qi7, qi8, qi9, qi10, errP, zeroI]
    · have e : docOK s = false := by unfold docOK; simp [c2]
      rw [e]
      simp (dsimp := false) (disch := first | omega | (simp only [LENs, two_length] <;> omega) | fail) only [L.ref06_DocParseIdent.r1, go_sem, reduceIte, reduceCtorEq, qn0, qn1, qn2, qn3, qn4, qn5, qn6, qn7, qn8, qi0, qi1, qi2, qi3, qi4, qi5, qi6, qi7, qi8, qi9, qi10, errP, zeroI]
  · have e : docOK s = false := by unfold docOK; simp [c1]
    rw [e]
    simp (dsimp := false) (disch := first | omega | (simp only [LENs, two_length] <;> omega) | fail) only [L.ref06_DocParseIdent.r1, go_sem, reduceIte, reduceCtorEq, qn0, qn1, qn2, qn3, qn4, qn5, qn6, qn7, qn8, qi0, qi1, qi2, qi3, qi4, qi5, qi6, qi7, qi8, qi9, qi10, errP, zeroI]
end Cod
namespace Cod
open Go
theorem nDigits_le : ∀ (k u : Nat), u < 10 ^ (k + 1) → Lib.nDigits u ≤ k + 1 := by
  intro k
  induction k with
  | zero => intro u h; rw [Lib.nDigits_small (by simpa using h)]; exact Nat.le_refl _
  | succ k ih =>
    intro u h
    by_cases h1 : u < 10
    · rw [Lib.nDigits_small h1]; omega
    · rw [Lib.nDigits_big h1]
      have := ih (u / 10) (by rw [Nat.pow_succ] at h; omega)
      omega
theorem itoa_len13 {t : Int} (h0 : 0 ≤ t) (h1 : t ≤ 1099511627776) : (Lib.itoa t).length ≤ 13 := by
  obtain ⟨u, rfl⟩ : ∃ u : Nat, t = u := ⟨t.toNat, by omega⟩
  rw [Lib.itoa_nonneg, Lib.decDigits_length]
  exact nDigits_le 12 u (by have : (10 : Nat) ^ (12 + 1) = 10000000000000 := by decide
                            omega)
theorem getD_app_l {a b : List UInt8} {j : Nat} (h : j < a.length) : (a ++ b).getD j 0 = a.getD j 0 := by
  rw [List.getD_eq_getElem?_getD, List.getElem?_append_left h, ← List.getD_eq_getElem?_getD]
theorem getD_app_r {a b : List UInt8} {j k : Nat} (h : j = a.length + k) : (a ++ b).getD j 0 = b.getD k 0 := by
  rw [List.getD_eq_getElem?_getD, List.getElem?_append_right (by omega), show j - a.length = k by omega, ← List.getD_eq_getElem?_getD]
theorem getD_ne {a : List UInt8} {c : UInt8} {j : Nat} (h : c ∉ a) (hj : j < a.length) : a.getD j 0 ≠ c := by
  intro e
  apply h
  rw [List.getD_eq_getElem?_getD, List.getElem?_eq_getElem hj] at e
  rw [← e]
  exact List.getElem_mem _
section
variable (i : Idt)
def pA : List UInt8 := i.name ++ [32]
def pB : List UInt8 := pA i ++ 60 :: i.email
def pC : List UInt8 := pB i ++ [62, 32]
def pD : List UInt8 := pC i ++ Lib.itoa i.time
theorem pA_len : (pA i).length = i.name.length + 1 := by simp [pA]
theorem pB_len : (pB i).length = i.name.length + 2 + i.email.length := by simp [pB, pA]; omega
theorem pC_len : (pC i).length = i.name.length + 4 + i.email.length := by simp [pC, pB_len]; omega
theorem pD_len : (pD i).length = i.name.length + 4 + i.email.length + (Lib.itoa i.time).length := by simp [pD, pC_len]
theorem put_a : putI i = pA i ++ 60 :: (i.email ++ [62, 32] ++ Lib.itoa i.time ++ [32] ++ zoneT i.zone) := by simp [putI, pA]
theorem put_b : putI i = pB i ++ 62 :: ([32] ++ Lib.itoa i.time ++ [32] ++ zoneT i.zone) := by simp [putI, pB, pA]
theorem put_c : putI i = pC i ++ (Lib.itoa i.time ++ ([32] ++ zoneT i.zone)) := by simp [putI, pC, pB, pA]
theorem put_d : putI i = pD i ++ 32 :: zoneT i.zone := by simp [putI, pD, pC, pB, pA]
theorem put_e : putI i = (pD i ++ [32]) ++ zoneT i.zone := by simp [put_d]
theorem put_f : putI i = (pD i ++ [32, (if i.zone < 0 then 45 else 43)]) ++ (two (zabs i.zone / 60) ++ two (zabs i.zone % 60)) := by simp [put_d, zoneT_eq]
theorem put_len : (putI i).length = i.name.length + 4 + i.email.length + (Lib.itoa i.time).length + 6 := by rw [put_d, List.length_append, pD_len, List.length_cons, zone_len]
end
theorem doc_put {i : Idt} (h : identOK i = true) : docI (putI i) = i ∧ docOK (putI i) = true := by
  obtain ⟨p0, p1, t0, t1, z0, z1⟩ := (identOK_iff i).1 h
  obtain ⟨a0, a1⟩ := zabs_range z0 z1
  obtain ⟨_, _, n60, n62⟩ := plain_mem p0
  obtain ⟨_, _, e60, e62⟩ := plain_mem p1
  obtain ⟨d0, d1, d2⟩ := itoa_dig t0
  have hl := put_len i
  have h13 := itoa_len13 t0 t1
  have hA := pA_len i
  have hB := pB_len i
  have hC := pC_len i
  have hD := pD_len i
  have hat : docAt (putI i) = i.name.length + 1 := by
    unfold docAt
    apply scn_eq
    · rw [put_a, getD_app_r (k := 0) (by omega)]; rfl
    · omega
    · omega
    · intro j _ hj
      rw [put_a, getD_app_l (by omega)]
      exact getD_ne (by simp [pA, n60]) (by omega)
  have hto : docTo (putI i) = i.name.length + 2 + i.email.length := by
    unfold docTo
    rw [hat]
    apply scn_eq
    · rw [put_b, getD_app_r (k := 0) (by omega)]; rfl
    · omega
    · omega
    · intro j _ hj
      rw [put_b, getD_app_l (by omega)]
      exact getD_ne (by simp [pB, pA, n62, e62]) (by omega)
  obtain ⟨q0, q1⟩ := zone4 (a := zabs i.zone / 60) (b := zabs i.zone % 60) (by omega) (by omega) (by omega) (by omega)
  have hz : docZ (putI i) = zabs i.zone / 60 * 100 + zabs i.zone % 60 := by
    unfold docZ
    rw [hl, put_f, List.drop_left' (by rw [List.length_append, hD, List.length_cons, List.length_cons, List.length_nil]; omega)]
    rw [numF_dig (by simp [two]) (by simp [two]) q0, q1]
  have hzone : docZone (putI i) = i.zone := by
    unfold docZone
    rw [hz, show (zabs i.zone / 60 * 100 + zabs i.zone % 60) / 100 * 60 + (zabs i.zone / 60 * 100 + zabs i.zone % 60) % 100 = zabs i.zone by omega]
    have hb : (putI i).getD ((putI i).length - 6 + 1) 0 = if i.zone < 0 then 45 else 43 := by
      rw [put_e, getD_app_r (k := 0) (by rw [← put_e, hl, List.length_append, hD, List.length_cons, List.length_nil]; omega)]; rfl
    rw [hb]
    unfold zabs
    by_cases hn : i.zone < 0
    · rw [if_pos hn, if_pos hn, if_pos rfl]; omega
    · rw [if_neg hn, if_neg hn, if_neg (by decide)]
  have hI : docI (putI i) = i := by
    unfold docI
    rw [hat, hto, hzone]
    have e1 : (putI i).take (i.name.length + 1 - 1) = i.name := by
      rw [put_a, pA, Nat.add_sub_cancel, List.append_assoc]; exact List.take_left' rfl
    have e2 : sub (putI i) (i.name.length + 1 + 1) (i.name.length + 2 + i.email.length - (i.name.length + 1 + 1)) = i.email := by
      unfold sub
      rw [show i.name.length + 2 + i.email.length - (i.name.length + 1 + 1) = i.email.length by omega]
      rw [show putI i = (pA i ++ [60]) ++ (i.email ++ ([62, 32] ++ Lib.itoa i.time ++ [32] ++ zoneT i.zone)) by simp [putI, pA], List.drop_left' (by rw [List.length_append, hA]; rfl), List.take_left' rfl]
    have e3 : sub (putI i) (i.name.length + 2 + i.email.length + 2) ((putI i).length - 6 - (i.name.length + 2 + i.email.length + 2)) = Lib.itoa i.time := by
      unfold sub
      rw [hl, put_c, List.drop_left' (by omega), List.take_left' (by omega)]
    rw [e1, e2, e3, numF_dig d2 h13 d0, d1]
  refine ⟨hI, ?_⟩
  unfold docOK
  rw [hI, h, hat, hto, hz, hl]
  simp only [Bool.true_and, Bool.and_eq_true, decide_eq_true_eq, and_true]
  omega
theorem doc_no {s : List UInt8} (h : ∀ i, identOK i = true → putI i ≠ s) : docOK s = false := by
  cases hd : docOK s with
  | false => rfl
  | true =>
    unfold docOK at hd
    simp only [Bool.and_eq_true, decide_eq_true_eq] at hd
    exact absurd hd.2.2 (h _ hd.2.1)
theorem go_docParse_put {i : Idt} (h : identOK i = true) : S E F.ref06_DocParseIdent [.str (putI i)] [] = some (.tup [.agg i.cells, .int .i64 0], []) := by
  obtain ⟨h1, h2⟩ := doc_put h
  rw [go_docParse (by have := putI_len h; omega), h1, h2]
  rfl
theorem go_docParse_no {s : List UInt8} (hs : s.length ≤ 1000000000000) (h : ∀ i, identOK i = true → putI i ≠ s) : S E F.ref06_DocParseIdent [.str s] [] = some (errP, []) := by
  rw [go_docParse hs, doc_no h]
  rfl
theorem parse_cases (s : List UInt8) : (∃ i, identOK i = true ∧ putI i = s) ∨ ∀ i, identOK i = true → putI i ≠ s := by
  by_cases h : ∃ i, identOK i = true ∧ putI i = s
  · exact .inl h
  · exact .inr fun i hi he => h ⟨i, hi, he⟩
end Cod
namespace Cod
open Go
def hexD (n : Nat) : UInt8 := [(48 : UInt8), 49, 50, 51, 52, 53, 54, 55, 56, 57, 97, 98, 99, 100, 101, 102].getD n 0
def hexB (b : UInt8) : List UInt8 := [hexD (b.toNat / 16), hexD (b.toNat % 16)]
def hexT (id : List UInt8) : List UInt8 := id.flatMap hexB
theorem hexT_cons (b : UInt8) (id : List UInt8) : hexT (b :: id) = hexD (b.toNat / 16) :: hexD (b.toNat % 16) :: hexT id := rfl
theorem hexT_len (id : List UInt8) : (hexT id).length = 2 * id.length := by
  induction id with
  | nil => rfl
  | cons x r ih => rw [hexT_cons, List.length_cons, List.length_cons, ih, List.length_cons]; omega
theorem hexD_range : ∀ n : Nat, n < 16 → (48 ≤ (hexD n).toNat ∧ (hexD n).toNat ≤ 57 ∨ 97 ≤ (hexD n).toNat ∧ (hexD n).toNat ≤ 102) := by decide
theorem hexT_mem {id : List UInt8} {c : UInt8} (h : c ∈ hexT id) : ∃ n, n < 16 ∧ c = hexD n := by
  induction id with
  | nil => simp [hexT] at h
  | cons x r ih =>
    rw [hexT_cons, List.mem_cons, List.mem_cons] at h
    have := x.toNat_lt
    rcases h with h | h | h
    · exact ⟨_, by omega, h⟩
    · exact ⟨_, by omega, h⟩
    · exact ih h
theorem hexT_no10 (id : List UInt8) : (10 : UInt8) ∉ hexT id := by
  intro h
  obtain ⟨n, h1, h2⟩ := hexT_mem h
  have := hexD_range n h1
  rw [← h2] at this
  simp at this
theorem hexT_get {id : List UInt8} : ∀ {i : Nat}, i < id.length → (hexT id).getD (2 * i) 0 = hexD ((id.getD i 0).toNat / 16) ∧ (hexT id).getD (2 * i + 1) 0 = hexD ((id.getD i 0).toNat % 16) := by
  induction id with
  | nil => intro i h; simp at h
  | cons x r ih =>
    intro i h
    rw [hexT_cons]
    cases i with
    | zero => exact ⟨rfl, rfl⟩
    | succ i =>
      have := ih (i := i) (by rw [List.length_cons] at h; omega)
      rw [show 2 * (i + 1) = 2 * i + 1 + 1 by omega]
      simp only [List.getD_cons_succ]
      exact this
theorem hexT_snoc (id : List UInt8) (x : UInt8) : hexT (id ++ [x]) = hexT id ++ [hexD (x.toNat / 16), hexD (x.toNat % 16)] := by simp [hexT, hexB]
theorem take_snoc {id : List UInt8} {k : Nat} (h : k < id.length) : id.take (k + 1) = id.take k ++ [id.getD k 0] := by
  rw [List.take_succ_eq_append_getElem h]; simp [List.getD, h]
theorem idx_app {c : UInt8} {H T : List UInt8} (h : c ∉ H) : (H ++ c :: T).idxOf c = H.length := by
  rw [List.idxOf_append, if_neg h, List.idxOf_cons_self, Nat.zero_add]
theorem line_ix {w v r : List UInt8} (hw : (10 : UInt8) ∉ w) (hv : (10 : UInt8) ∉ v) : (w ++ 32 :: (v ++ 10 :: r)).idxOf 10 = w.length + 1 + v.length := by
  have : w ++ 32 :: (v ++ 10 :: r) = (w ++ 32 :: v) ++ 10 :: r := by simp
  rw [this, idx_app (by simp [hw, hv])]
  simp; omega
theorem bytes_inj : ∀ {a b : List UInt8}, ofBytes a = ofBytes b → a = b := by
  intro a
  induction a with
  | nil => intro b h; cases b with
    | nil => rfl
    | cons => simp [ofBytes] at h
  | cons x a ih =>
    intro b h
    cases b with
    | nil => simp [ofBytes] at h
    | cons y b =>
      simp only [ofBytes, List.map_cons, List.cons.injEq, AV.int.injEq, true_and] at h
      have h1 : x = y := UInt8.toNat_inj.1 (by have := h.1; omega)
      rw [h1, ih (by simpa [ofBytes] using h.2)]
theorem hards_append : ∀ {xs ys : List AV}, hards (xs ++ ys) = (hards xs && hards ys) := by
  intro xs
  induction xs with
  | nil => intro ys; simp [hards]
  | cons x xs ih => intro ys; rw [List.cons_append, hards, hards, ih, Bool.and_assoc]
theorem leadss_append : ∀ {xs ys : List AV}, leadss (xs ++ ys) = (leadss xs || leadss ys) := by
  intro xs
  induction xs with
  | nil => intro ys; simp [leadss]
  | cons x xs ih => intro ys; rw [List.cons_append, leadss, leadss, ih, Bool.or_assoc]
theorem refsOfs_append : ∀ {xs ys : List AV}, refsOfs (xs ++ ys) = refsOfs xs ++ refsOfs ys := by
  intro xs
  induction xs with
  | nil => intro ys; simp [refsOfs]
  | cons x xs ih => intro ys; rw [List.cons_append, refsOfs, refsOfs, ih, List.append_assoc]
theorem over_front {xs ys v : List AV} {i j : Nat} (h : i = xs.length + j) : over (xs ++ ys) i v = xs ++ over ys j v := by
  subst h
  induction xs with
  | nil => simp
  | cons x xs ih =>
    rw [List.cons_append, List.length_cons, show xs.length + 1 + j = xs.length + j + 1 by omega, over_S, ih]
    rfl
theorem get_front {xs ys : List AV} {i j : Nat} (h : i = xs.length + j) : (xs ++ ys)[i]? = ys[j]? := by
  subst h
  rw [List.getElem?_append_right (by omega), Nat.add_sub_cancel_left]
theorem sub_front {xs ys : List AV} {i j n : Nat} (h : i = xs.length + j) : sub (xs ++ ys) i n = sub ys j n := by
  subst h
  unfold sub
  rw [← List.drop_drop, List.drop_left]
theorem sub_head {xs ys : List AV} {n : Nat} (h : n = xs.length) : sub (xs ++ ys) 0 n = xs := by
  subst h
  unfold sub
  rw [List.drop_zero, List.take_left]
end Cod
namespace Cod
open Go
set_option maxRecDepth 100000
end Cod
namespace Cod
open Go
structure Lbl where
  tgt : List UInt8
  kind : Int
  name : List UInt8
  who : Idt
  msg : List UInt8
  htgt : tgt.length = 32
def Lbl.cells (l : Lbl) : List AV := ofBytes l.tgt ++ [.int .i64 l.kind, .str l.name, .str l.who.name, .str l.who.email, .int .i64 l.who.time, .int .i64 l.who.zone, .str l.msg]
theorem tgt_len (l : Lbl) : (ofBytes l.tgt).length = 32 := by rw [ofBytes_length, l.htgt]
theorem lbl_len (l : Lbl) : l.cells.length = 39 := by unfold Lbl.cells; rw [List.length_append, tgt_len]; rfl
theorem lbl_flats (l : Lbl) : flats l.cells = true := by unfold Lbl.cells; rw [flats_append, flats_ofBytes]; rfl
theorem lbl_rens (f : Site → Nat → Option (Site × Nat)) (l : Lbl) : rens f l.cells = l.cells := rens_flats _ (lbl_flats l)
theorem lbl_refs (l : Lbl) : refsOfs l.cells = [] := by unfold Lbl.cells; rw [refsOfs_append, refsOfs_ofBytes]; rfl
theorem lbl_hards (l : Lbl) : hards l.cells = true := by unfold Lbl.cells; rw [hards_append, hards_ofBytes]; rfl
theorem lbl_leads (l : Lbl) : leadss l.cells = false := by unfold Lbl.cells; rw [leadss_append, leadss_ofBytes]; rfl
theorem lbl_sub (l : Lbl) : sub l.cells 0 39 = l.cells := sub_full (by rw [lbl_len]; exact Nat.le_refl _)
theorem lbl_get (l : Lbl) (i : Nat) : l.cells[32 + i]? = [AV.int .i64 l.kind, .str l.name, .str l.who.name, .str l.who.email, .int .i64 l.who.time, .int .i64 l.who.zone, .str l.msg][i]? := by
  unfold Lbl.cells
  rw [List.getElem?_append_right (by rw [tgt_len]; omega), tgt_len, Nat.add_sub_cancel_left]
theorem lbl_32 (l : Lbl) : l.cells[32]? = some (.int .i64 l.kind) := lbl_get l 0
theorem lbl_33 (l : Lbl) : l.cells[33]? = some (.str l.name) := lbl_get l 1
theorem lbl_38 (l : Lbl) : l.cells[38]? = some (.str l.msg) := lbl_get l 6
theorem lbl_tgt (l : Lbl) : sub l.cells 0 32 = ofBytes l.tgt := by
  unfold sub Lbl.cells
  rw [List.drop_zero]
  exact List.take_left' (tgt_len l)
theorem lbl_who (l : Lbl) : sub l.cells 34 4 = l.who.cells := by
  unfold sub Lbl.cells
  rw [List.drop_append, tgt_len, List.drop_of_length_le (by rw [tgt_len]; omega)]
  rfl
attribute [go_sem] lbl_len lbl_flats lbl_rens lbl_refs lbl_hards lbl_leads lbl_sub lbl_32 lbl_33 lbl_38 lbl_tgt lbl_who
def msgE (s : List UInt8) : Int := minE [if decide (65536 < (s.length : Int)) = true then 2 else 0, if s.contains 0 = true then 4 else 0]
theorem foldl_zero : ∀ (l : List Int) (w : Int), l.foldl lst2 w = 0 → w = 0 ∧ ∀ e ∈ l, e = 0 := by
  intro l
  induction l with
  | nil => intro w h; exact ⟨h, fun e he => by simp at he⟩
  | cons a l ih =>
    intro w h
    obtain ⟨h1, h2⟩ := ih _ h
    unfold lst2 at h1
    split at h1
    · rename_i hc; exact absurd h1 hc.1
    · rename_i hc
      subst h1
      have ha : a = 0 := by
        apply Classical.byContradiction
        intro hn
        exact hc ⟨hn, .inl rfl⟩
      refine ⟨rfl, fun e he => ?_⟩
      rcases List.mem_cons.1 he with rfl | he
      · exact ha
      · exact h2 e he
theorem minE_zero {l : List Int} (h : minE l = 0) : ∀ e ∈ l, e = 0 := (foldl_zero l 0 h).2
theorem zone_no10 {z : Int} (h0 : -1439 ≤ z) (h1 : z ≤ 1439) : (10 : UInt8) ∉ zoneT z := by
  obtain ⟨a0, a1⟩ := zabs_range h0 h1
  rw [zoneT_eq]
  have := dig_ne (zone4 (a := zabs z / 60) (b := zabs z % 60) (by omega) (by omega) (by omega) (by omega)).1 (x := 10) (by unfold isDig; decide)
  simp only [List.mem_cons, not_or]
  refine ⟨?_, this⟩
  split <;> decide
theorem put_no10 {i : Idt} (h : identOK i = true) : (10 : UInt8) ∉ putI i := by
  obtain ⟨p0, p1, t0, t1, z0, z1⟩ := (identOK_iff i).1 h
  obtain ⟨d0, _, _⟩ := itoa_dig t0
  have m1 := dig_ne d0 (x := 10) (by unfold isDig; decide)
  have m2 := zone_no10 z0 z1
  have n0 := (plain_mem p0).2.1
  have n1 := (plain_mem p1).2.1
  unfold putI
  simp only [List.mem_append, List.mem_cons, not_or, List.not_mem_nil, not_false_eq_true, and_true]
  exact ⟨⟨⟨⟨⟨⟨n0, by decide⟩, n1⟩, by decide⟩, m1⟩, by decide⟩, m2⟩
end Cod
namespace Cod
open Go
structure Id32 where
  b : List UInt8
  h : b.length = 32
instance : Inhabited Id32 := ⟨⟨List.replicate 32 0, by simp⟩⟩
def Id32.cells (d : Id32) : List AV := ofBytes d.b
theorem idc_len (d : Id32) : d.cells.length = 32 := by simp [Id32.cells, ofBytes_length, d.h]
theorem idc_flats (d : Id32) : flats d.cells = true := flats_ofBytes _
theorem idc_hards (d : Id32) : hards d.cells = true := hards_ofBytes _
theorem idc_leads (d : Id32) : leadss d.cells = false := leadss_ofBytes _
theorem idc_refs (d : Id32) : refsOfs d.cells = [] := refsOfs_ofBytes _
theorem idc_rens (f : Site → Nat → Option (Site × Nat)) (d : Id32) : rens f d.cells = d.cells := rens_ofBytes f _
def ids (l : List Id32) : List AV := l.flatMap Id32.cells
def iat (l : List Id32) (i : Nat) : Id32 := l.getD i default
theorem ids_length (l : List Id32) : (ids l).length = 32 * l.length := recs_length idc_len l
theorem ids_nil : ids [] = [] := rfl
theorem ids_snoc (a : List Id32) (s : Id32) : ids a ++ ofBytes s.b = ids (a ++ [s]) := by simp [ids, Id32.cells]
theorem flats_ids (l : List Id32) : flats (ids l) = true := recs_flats idc_flats l
theorem hards_ids (l : List Id32) : hards (ids l) = true := recs_hards idc_hards l
theorem leadss_ids (l : List Id32) : leadss (ids l) = false := recs_leadss idc_leads l
theorem refsOfs_ids (l : List Id32) : refsOfs (ids l) = [] := recs_refs idc_refs l
theorem rens_ids (f : Site → Nat → Option (Site × Nat)) (l : List Id32) : rens f (ids l) = ids l := recs_rens f (idc_rens f) l
theorem sub_ids {l : List Id32} {i : Nat} (h : i < l.length) : sub (ids l) (i * 32) 32 = ofBytes (iat l i).b := recs_sub idc_len h
theorem sub_ids_all {l : List Id32} : sub (ids l) 0 (l.length * 32) = ids l := sub_full (by rw [ids_length]; omega)
attribute [go_sem] sub_ids_all ids_length flats_ids hards_ids leadss_ids refsOfs_ids rens_ids sub_ids
def mkI (d : List UInt8) : Id32 := if h : d.length = 32 then ⟨d, h⟩ else default
theorem mkI_b {d : List UInt8} (h : d.length = 32) : (mkI d).b = d := by unfold mkI; rw [dif_pos h]
theorem mkI_self (d : Id32) : mkI d.b = d := by unfold mkI; rw [dif_pos d.h]
end Cod
namespace Cod
open Go
def autW : List UInt8 := [97, 117, 116, 104, 111, 114]
def comW : List UInt8 := [99, 111, 109, 109, 105, 116, 116, 101, 114]
def treW : List UInt8 := [116, 114, 101, 101]
def parW : List UInt8 := [112, 97, 114, 101, 110, 116]
structure Snap where
  tree : List UInt8
  par : List Id32
  aut : Idt
  com : Idt
  msg : List UInt8
  ht : tree.length = 32
def snR (t : List UInt8) (v : AV) (a c : Idt) (m : List UInt8) : List AV := ofBytes t ++ [v, .str a.name, .str a.email, .int .i64 a.time, .int .i64 a.zone, .str c.name, .str c.email, .int .i64 c.time, .int .i64 c.zone, .str m]
def Snap.cells (s : Snap) : List AV := snR s.tree (.lst (ids s.par) s.par.length) s.aut s.com s.msg
section
variable {t m : List UInt8} {v : AV} {a c : Idt}
theorem sn_len (h : t.length = 32) : (snR t v a c m).length = 42 := by unfold snR; rw [List.length_append, ofBytes_length, h]; rfl
theorem sn_32 (h : t.length = 32) : (snR t v a c m)[32]? = some v := get_front (j := 0) (by rw [ofBytes_length, h])
theorem sn_41 (h : t.length = 32) : (snR t v a c m)[41]? = some (.str m) := get_front (j := 9) (by rw [ofBytes_length, h])
theorem sn_tree (h : t.length = 32) : sub (snR t v a c m) 0 32 = ofBytes t := sub_head (by rw [ofBytes_length, h])
theorem sn_aut (h : t.length = 32) : sub (snR t v a c m) 33 4 = a.cells := by
  unfold snR
  rw [sub_front (j := 1) (by rw [ofBytes_length, h])]; rfl
theorem sn_com (h : t.length = 32) : sub (snR t v a c m) 37 4 = c.cells := by
  unfold snR
  rw [sub_front (j := 5) (by rw [ofBytes_length, h])]; rfl
theorem sn_sub (h : t.length = 32) : sub (snR t v a c m) 0 42 = snR t v a c m := sub_full (by rw [sn_len h]; exact Nat.le_refl _)
theorem sn_flats : flats (snR t v a c m) = flat v := by
  unfold snR; rw [flats_append, flats_ofBytes, Bool.true_and, flats, show flats [.str a.name, .str a.email, .int .i64 a.time, .int .i64 a.zone, .str c.name, .str c.email, .int .i64 c.time, .int .i64 c.zone, .str m] = true from rfl, Bool.and_true]
theorem sn_hards : hards (snR t v a c m) = hard v := by
  unfold snR; rw [hards_append, hards_ofBytes, Bool.true_and, hards, show hards [.str a.name, .str a.email, .int .i64 a.time, .int .i64 a.zone, .str c.name, .str c.email, .int .i64 c.time, .int .i64 c.zone, .str m] = true from rfl, Bool.and_true]
theorem sn_leads : leadss (snR t v a c m) = leads v := by
  unfold snR; rw [leadss_append, leadss_ofBytes, Bool.false_or, leadss, show leadss [.str a.name, .str a.email, .int .i64 a.time, .int .i64 a.zone, .str c.name, .str c.email, .int .i64 c.time, .int .i64 c.zone, .str m] = false from rfl, Bool.or_false]
theorem sn_refs : refsOfs (snR t v a c m) = refsOf v := by
  unfold snR; rw [refsOfs_append, refsOfs_ofBytes, List.nil_append, refsOfs, show refsOfs [.str a.name, .str a.email, .int .i64 a.time, .int .i64 a.zone, .str c.name, .str c.email, .int .i64 c.time, .int .i64 c.zone, .str m] = [] from rfl, List.append_nil]
theorem rens_append (f : Site → Nat → Option (Site × Nat)) : ∀ xs ys : List AV, rens f (xs ++ ys) = rens f xs ++ rens f ys := by
  intro xs
  induction xs with
  | nil => intro ys; simp [rens]
  | cons x xs ih => intro ys; rw [List.cons_append, rens, rens, ih]; rfl
theorem sn_rens (f : Site → Nat → Option (Site × Nat)) : rens f (snR t v a c m) = snR t (ren f v) a c m := by
  unfold snR; rw [rens_append, rens_ofBytes]; rfl
theorem sn_o0 (h : t.length = 32) {d : List UInt8} (hd : d.length = 32) : over (snR t v a c m) 0 (ofBytes d) = snR d v a c m := by
  unfold snR over
  rw [List.take_zero, List.nil_append, Nat.zero_add, ofBytes_length, hd, List.drop_left' (by rw [ofBytes_length, h])]
theorem sn_o32 (h : t.length = 32) {x : AV} : over (snR t v a c m) 32 [x] = snR t x a c m := by
  unfold snR; rw [over_front (j := 0) (by rw [ofBytes_length, h])]; rfl
theorem sn_o33 (h : t.length = 32) {x : Idt} : over (snR t v a c m) 33 x.cells = snR t v x c m := by
  unfold snR; rw [over_front (j := 1) (by rw [ofBytes_length, h])]; rfl
theorem sn_o37 (h : t.length = 32) {x : Idt} : over (snR t v a c m) 37 x.cells = snR t v a x m := by
  unfold snR; rw [over_front (j := 5) (by rw [ofBytes_length, h])]; rfl
theorem sn_o41 (h : t.length = 32) {x : List UInt8} : over (snR t v a c m) 41 [.str x] = snR t v a c x := by
  unfold snR; rw [over_front (j := 9) (by rw [ofBytes_length, h])]; rfl
theorem sn_oall {t' m' : List UInt8} {v' : AV} {a' c' : Idt} (h : t.length = 32) (h' : t'.length = 32) : over (snR t v a c m) 0 (snR t' v' a' c' m') = snR t' v' a' c' m' := by
  unfold over; exact overall (by rw [sn_len h, sn_len h'])
theorem bind_id {α : Type} (x : Acc α) : x.bind .ret = x := by
  induction x with
  | get s k ih =>
    show Acc.get s (fun e => (k e).bind .ret) = _
    rw [show (fun e => (k e).bind .ret) = k from funext ih]
  | _ => rfl
theorem views_bytes : ∀ (l : List UInt8) (r : List AV), views (ofBytes l ++ r) = (views r).bindW (fun p => .ret (ofBytes l ++ p.1, p.2)) ⟨⟩ := by
  intro l
  induction l with
  | nil =>
    intro r
    exact (bind_id (views r)).symm
  | cons b l ih =>
    intro r
    rw [ofBytes_cons, List.cons_append, views_cons, ih, view1_int, bindW_ret, bindW_bindW]
    rfl
theorem bindW_fun {α β : Type} {x : Acc α} {f g : α → Acc β} (h : f = g) {w : Wit f} {w' : Wit g} : x.bindW f w = x.bindW g w' := by subst h; rfl
theorem views_sn : views (snR t v a c m) = (view1 v).bindW (fun p => .ret (snR t p.1 a c m, p.2)) ⟨⟩ := by
  unfold snR
  rw [views_bytes, views_cons, bindW_bindW]
  refine bindW_fun (funext fun p => ?_)
  show Acc.ret (ofBytes t ++ [p.1, .str a.name, .str a.email, .int .i64 a.time, .int .i64 a.zone, .str c.name, .str c.email, .int .i64 c.time, .int .i64 c.zone, .str m], p.2 ++ ([] : List Site)) = _
  rw [List.append_nil]
end
attribute [go_sem] sn_len sn_32 sn_41 sn_tree sn_aut sn_com sn_sub sn_flats sn_hards sn_leads sn_refs sn_rens sn_o0 sn_o32 sn_o33 sn_o37 sn_o41 sn_oall views_sn
def zeroT : List UInt8 := List.replicate 32 0
theorem zeroT_len : zeroT.length = 32 := by simp [zeroT]
def zeroI' : Idt := ⟨[], [], 0, 0⟩
theorem sn0a : lcat (zer (.int .u8 0) 32) [.nils, .str [], .str [], .int .i64 0, .int .i64 0, .str [], .str [], .int .i64 0, .int .i64 0, .str []] = snR zeroT .nils zeroI' zeroI' [] := rfl
theorem sn0b : ofBytes (List.replicate 32 0) ++ [.nils, .str [], .str [], .int .i64 0, .int .i64 0, .str [], .str [], .int .i64 0, .int .i64 0, .str []] = snR zeroT .nils zeroI' zeroI' [] := rfl
theorem sn_cells (s : Snap) : s.cells = snR s.tree (.lst (ids s.par) s.par.length) s.aut s.com s.msg := rfl
attribute [go_sem] sn0a sn0b zeroT_len
def parB (l : List Id32) : List UInt8 := l.flatMap fun d => parW ++ [32] ++ hexT d.b ++ [10]
theorem parB_nil : parB [] = [] := rfl
theorem parB_cons (d : Id32) (l : List Id32) : parB (d :: l) = parW ++ 32 :: (hexT d.b ++ 10 :: parB l) := by simp [parB]
theorem parB_snoc (l : List Id32) (d : Id32) : parB (l ++ [d]) = parB l ++ (parW ++ [32] ++ hexT d.b ++ [10]) := by simp [parB]
theorem parB_len (l : List Id32) : (parB l).length = 72 * l.length := by
  induction l with
  | nil => rfl
  | cons d l ih => rw [parB_cons, List.length_append, List.length_cons, List.length_append, List.length_cons, ih, hexT_len, d.h, List.length_cons]; show 6 + _ = _; omega
def cmtE (s : Snap) : Int := minE [if decide (16 < (s.par.length : Int)) = true then 2 else 0, msgE s.msg, if identOK s.aut = true then 0 else 3, if identOK s.com = true then 0 else 3]
def cmtB (s : Snap) : List UInt8 := treW ++ [32] ++ hexT s.tree ++ [10] ++ parB s.par ++ (autW ++ [32] ++ putI s.aut ++ [10] ++ comW ++ [32] ++ putI s.com ++ [10, 10] ++ s.msg)
def IsCmt (p : List UInt8) (s : Snap) : Prop := cmtE s = 0 ∧ cmtB s = p
theorem cmt_form (s : Snap) : cmtB s = treW ++ 32 :: (hexT s.tree ++ 10 :: (parB s.par ++ (autW ++ 32 :: (putI s.aut ++ 10 :: (comW ++ 32 :: (putI s.com ++ 10 :: (10 :: s.msg))))))) := by
  unfold cmtB
  simp only [List.append_assoc, List.cons_append, List.nil_append]
theorem msgE_len {m : List UInt8} (h : msgE m = 0) : m.length ≤ 65536 := by
  have h5 := minE_zero h (if decide (65536 < (m.length : Int)) = true then 2 else 0) (by simp)
  by_cases hm : 65536 < (m.length : Int)
  · rw [if_pos (by simpa using hm)] at h5; omega
  · omega
theorem ident_zero {i : Idt} (h : (if identOK i = true then (0 : Int) else 3) = 0) : identOK i = true := by
  cases hb : identOK i with
  | true => rfl
  | false => rw [hb] at h; simp at h
theorem cmtE_ok {s : Snap} (h : cmtE s = 0) : s.par.length ≤ 16 ∧ s.msg.length ≤ 65536 ∧ identOK s.aut = true ∧ identOK s.com = true := by
  have h0 := minE_zero h
  have h1 := h0 (if decide (16 < (s.par.length : Int)) = true then 2 else 0) (by simp)
  have h2 := h0 _ (by simp : msgE s.msg ∈ _)
  have h3 := h0 (if identOK s.aut = true then 0 else 3) (by simp)
  have h4 := h0 (if identOK s.com = true then 0 else 3) (by simp)
  refine ⟨?_, msgE_len h2, ident_zero h3, ident_zero h4⟩
  by_cases hm : 16 < (s.par.length : Int)
  · rw [if_pos (by simpa using hm)] at h1; omega
  · omega
theorem cmtB_len {s : Snap} (h : cmtE s = 0) : (cmtB s).length ≤ 80000 := by
  obtain ⟨h1, h2, h3, h4⟩ := cmtE_ok h
  have a := putI_len h3
  have b := putI_len h4
  have c := parB_len s.par
  have e := hexT_len s.tree
  rw [s.ht] at e
  unfold cmtB treW autW comW
  simp only [List.length_append, List.length_cons, List.length_nil, e, c]
  omega
end Cod
namespace Cod
open Go
theorem contains_zero (s : List UInt8) : Lib.contains s [0] = s.contains 0 := by
  unfold Lib.contains
  rw [Bool.eq_iff_iff, decide_eq_true_eq, List.contains_iff_mem]
  rcases Lib.index_spec s [0] with ⟨h1, h2⟩ | ⟨i, h1, h2, h3, _⟩
  · rw [h1]
    refine ⟨fun h => by omega, fun h => ?_⟩
    obtain ⟨j, hj, he⟩ := List.getElem_of_mem h
    have h4 := h2 j (by omega)
    unfold Lib.occAt at h4
    rw [List.drop_eq_getElem_cons hj, he] at h4
    simp [List.isPrefixOf] at h4
  · rw [h1]
    refine ⟨fun _ => ?_, fun _ => by omega⟩
    have hr := Lib.occAt_room h3
    have hi : i < s.length := by
      rcases hr with hr | hr
      · simp at hr; omega
      · cases hr
    unfold Lib.occAt at h3
    rw [List.drop_eq_getElem_cons hi] at h3
    simp [List.isPrefixOf] at h3
    rw [h3]
    exact List.getElem_mem hi
theorem go_message {s : List UInt8} (hs : s.length ≤ 1000000000) : S E F.object_message [.str s] [] = some (.int .i64 (msgE s), []) := by
  have h1 := S_contains (s := s) (t := [0]) (by omega)
  rw [contains_zero] at h1
  have w1 : S E F.object_when [.bool (decide (65536 < (s.length : Int))), .int .i64 2] [] = some (.int .i64 (if decide (65536 < (s.length : Int)) = true then 2 else 0), []) := go_when
  have w2 : S E F.object_when [.bool (s.contains 0), .int .i64 4] [] = some (.int .i64 (if s.contains 0 = true then 4 else 0), []) := go_when
  unfold msgE
  generalize (if decide (65536 < (s.length : Int)) = true then (2 : Int) else 0) = a at *
  generalize (if s.contains 0 = true then (4 : Int) else 0) = b at *
  have hd : S E F.object_least [.lst [.int .i64 a, .int .i64 b] 2] [] = some (.int .i64 (minE [a, b]), []) := go_least2
  rw [S_of fn_object_message rfl rfl]
  simp (dsimp := false) (disch := first | omega | (simp only [LENs] <;> omega) | fail) only [L.object_message, go_sem, reduceIte, reduceCtorEq, qn0, qn1, qn2, qn3, qn4, qn5, qn6, qn7, qn8, qi0, qi1, qi2, qi3, qi4, qi5, qi6, qi7, qi8, qi9, qi10, h1, w1, w2, hd]
theorem go_rmessage {s : List UInt8} (hs : s.length ≤ 1000000000) : S E F.ref07_message [.str s] [] = some (.int .i64 (msgE s), []) := by
  have h1 := go_rhas (s := s) (by omega) (c := 0) (by omega) (by omega)
  rw [show byt 0 = 0 from rfl] at h1
  have w1 : S E F.ref07_If [.bool (decide (65536 < (s.length : Int))), .int .i64 2] [] = some (.int .i64 (if decide (65536 < (s.length : Int)) = true then 2 else 0), []) := go_if
  have w2 : S E F.ref07_If [.bool (s.contains 0), .int .i64 4] [] = some (.int .i64 (if s.contains 0 = true then 4 else 0), []) := go_if
  unfold msgE
  generalize (if decide (65536 < (s.length : Int)) = true then (2 : Int) else 0) = a at *
  generalize (if s.contains 0 = true then (4 : Int) else 0) = b at *
  have hd : S E F.ref07_Least [.lst [.int .i64 a, .int .i64 b] 2] [] = some (.int .i64 (minE [a, b]), []) := go_rleast2
  rw [S_of fn_ref07_message rfl rfl]
  simp (dsimp := false) (disch := first | omega | (simp only [LENs] <;> omega) | fail) only [L.ref07_message, go_sem, reduceIte, reduceCtorEq, qn0, qn1, qn2, qn3, qn4, qn5, qn6, qn7, qn8, qi0, qi1, qi2, qi3, qi4, qi5, qi6, qi7, qi8, qi9, qi10, h1, w1, w2, hd]
theorem hexD_bat : ∀ n : Nat, n < 16 → bat [48, 49, 50, 51, 52, 53, 54, 55, 56, 57, 97, 98, 99, 100, 101, 102] n = ((hexD n).toNat : Int) := by decide
theorem snoc2 (l : List UInt8) (a b : UInt8) : ofBytes l ++ [AV.int .u8 (a.toNat : Int), .int .u8 (b.toNat : Int)] = ofBytes (l ++ [a, b]) := by simp [ofBytes]
theorem bat_nat (l : List UInt8) (i : Nat) : bat l i = ((l.getD i 0).toNat : Int) := rfl
theorem rhex_l0 {id : List UInt8} (hid : id.length = 32) : ∀ (m i : Nat), i + m = 32 →
    X E [.tmp 2] (.c L.ref01_Hex.x0 :: .lp [3, 6, 7] L.ref01_Hex.x0 :: .blk 0 :: [.c L.ref01_Hex.r0]) ⟨[(3, .buf (.s 1000000 0) 0 0 (hexT (id.take i)).length 1), (6, .agg (ofBytes id)), (7, .int .i64 i)], [(.s 1000000 0, ⟨0, true, true, false, ofBytes (hexT (id.take i))⟩)]⟩ = some (.str (hexT id), []) := by
  intro m
  induction m with
  | zero =>
    intro i hi
    obtain rfl : i = 32 := by omega
    rw [X_in L.ref01_Hex.x0.eq_1]
    have ht : id.take 32 = id := List.take_of_length_le (by omega)
    rw [ht]
    have hl : (hexT id).length = 64 := by rw [hexT_len, hid]
    simp (dsimp := false) (disch := first | omega | (simp only [LENs] <;> omega) | fail) only [go_sem, reduceIte, reduceCtorEq, qn0, qn1, qn2, qn3, qn4, qn5, qn6, qn7, qn8, qi0, qi1, qi2, qi3, qi4, qi5, qi6, qi7, qi8, qi9, qi10, BYs, L.ref01_Hex.r0]
  | succ m ih =>
    intro i hi
    have hlt : i < 32 := by omega
    have h1 := ih (i + 1) (by omega)
    simp only [Int.natCast_add, Int.cast_ofNat_Int] at h1
    rw [take_snoc (by omega), hexT_snoc, List.length_append] at h1
    have hl : (hexT (id.take i)).length = 2 * i := by rw [hexT_len, List.length_take]; omega
    have e2 : ∀ a b : UInt8, [a, b].length = 2 := fun _ _ => rfl
    rw [e2] at h1
    have hb := (id.getD i 0).toNat_lt
    have e0 : bat id i = ((id.getD i 0).toNat : Int) := rfl
    generalize id.getD i 0 = x at *
    have q1 : (x.toNat : Int).tdiv 16 = ((x.toNat / 16 : Nat) : Int) := by rw [tdiv_pos (by omega)]; omega
    have q2 : (x.toNat : Int).tmod 16 = ((x.toNat % 16 : Nat) : Int) := by rw [tmod_pos (by omega)]; omega
    have d1 := hexD_bat (x.toNat / 16) (by omega)
    have d2 := hexD_bat (x.toNat % 16) (by omega)
    have w1 : (((x.toNat / 16 : Nat) : Int) % 256).toNat = x.toNat / 16 := by omega
    have w2 : (((x.toNat % 16 : Nat) : Int) % 256).toNat = x.toNat % 16 := by omega
    rw [X_in L.ref01_Hex.x0.eq_1, ← h1]
    simp (dsimp := false) (disch := first | omega | (simp only [LENs] <;> omega) | fail) only [go_sem, reduceIte, reduceCtorEq, qn0, qn1, qn2, qn3, qn4, qn5, qn6, qn7, qn8, qi0, qi1, qi2, qi3, qi4, qi5, qi6, qi7, qi8, qi9, qi10, BYs, e0, q1, q2, w1, w2, d1, d2, snoc2]
theorem go_rhex {id : List UInt8} (hid : id.length = 32) : S E F.ref01_Hex [.agg (ofBytes id)] [] = some (.str (hexT id), []) := by
  have h := rhex_l0 hid 32 0 (by omega)
  simp only [Int.cast_ofNat_Int, List.take_zero, show hexT [] = [] from rfl, List.length_nil, show ofBytes [] = [] from rfl] at h
  rw [S_of fn_ref01_Hex rfl rfl]
  simp (dsimp := false) (disch := first | omega | (simp only [LENs] <;> omega) | fail) only [L.ref01_Hex, go_sem, reduceIte, reduceCtorEq, qn0, qn1, qn2, qn3, qn4, qn5, qn6, qn7, qn8, qi0, qi1, qi2, qi3, qi4, qi5, qi6, qi7, qi8, qi9, qi10, BYs, h]
def fil (id : List UInt8) (k : Nat) : List UInt8 := id.take k ++ List.replicate (32 - k) 0
theorem fil_len {id : List UInt8} {k : Nat} (hid : id.length = 32) (hk : k ≤ 32) : (fil id k).length = 32 := by unfold fil; rw [List.length_append, List.length_take, List.length_replicate]; omega
theorem fil_set {id : List UInt8} {k : Nat} (hid : id.length = 32) (hk : k < 32) : (fil id k).set k (id.getD k 0) = fil id (k + 1) := by
  unfold fil
  have hl : (id.take k).length = k := by rw [List.length_take]; omega
  rw [List.set_append_right (h := by omega), hl, Nat.sub_self, take_snoc (by omega), List.append_assoc]
  congr 1
  rw [show 32 - k = (32 - (k + 1)) + 1 by omega, List.replicate_succ]
  rfl
theorem undig : ∀ n : Nat, n < 16 → indexB [48, 49, 50, 51, 52, 53, 54, 55, 56, 57, 97, 98, 99, 100, 101, 102] (hexD n) = (n : Int) := by decide
theorem dig_range : ∀ n : Nat, n < 256 → (-1 ≤ indexB [48, 49, 50, 51, 52, 53, 54, 55, 56, 57, 97, 98, 99, 100, 101, 102] (UInt8.ofNat n) ∧ indexB [48, 49, 50, 51, 52, 53, 54, 55, 56, 57, 97, 98, 99, 100, 101, 102] (UInt8.ofNat n) < 16) := by decide +kernel
theorem ge_sindex {l : List UInt8} {c : Int} : S E F.strings_IndexByte [.str l, .int .u8 c] [] = some (.int .i64 (indexB l (byt c)), []) := S_ext ext0 go_sindex
def digs : List UInt8 := [48, 49, 50, 51, 52, 53, 54, 55, 56, 57, 97, 98, 99, 100, 101, 102]
theorem nib : ∀ a : Nat, a < 16 → ∀ b : Nat, b < 16 → IntKind.u8.wrap (ior .i64 (ishl .i64 (a : Int) 4) (b : Int)) = ((16 * a + b : Nat) : Int) := by decide +kernel
theorem idx_range (b : UInt8) : -1 ≤ indexB digs b ∧ indexB digs b < 16 := by
  have := dig_range b.toNat b.toNat_lt
  rwa [UInt8.ofNat_toNat] at this
theorem fil_all {id : List UInt8} (hid : id.length = 32) : fil id 32 = id := by
  unfold fil
  rw [List.take_of_length_le (by omega)]
  simp
theorem sp_l0 {s : List UInt8} (hs : s.length = 64) : ∀ (m i : Nat) (d : List UInt8), i + m = 32 → d.length = 32 → ∃ d' e, d'.length = 32 ∧ (e = 0 ∨ e = 4) ∧
    X E [.cell 2 (some 32), .tmp 3] (.c L.sha_Parse.x0 :: .lp [0, 2, 4, 12] L.sha_Parse.x0 :: .blk 0 :: [.c L.sha_Parse.r0]) ⟨[(0, .str s), (2, .ref (.s 1000000 0) 0 0), (4, .ref (.s 1000000 1) 0 0), (12, .int .i64 i)], [(.s 1000000 0, ⟨0, true, true, true, ofBytes (List.replicate 32 0)⟩), (.s 1000000 1, ⟨0, true, true, true, ofBytes d⟩)]⟩ = some (.tup [.agg (ofBytes d'), .int .i64 e], []) ∧
    ∀ id, id.length = 32 → s = hexT id → d = fil id i → d' = id ∧ e = 0 := by
  intro m
  induction m with
  | zero =>
    intro i d hi hd
    obtain rfl : i = 32 := by omega
    refine ⟨d, 0, hd, .inl rfl, ?_, fun id h1 h2 h3 => ⟨by rw [h3, fil_all h1], rfl⟩⟩
    rw [X_in L.sha_Parse.x0.eq_1]
    simp (dsimp := false) (disch := first | omega | (simp only [LENs] <;> omega) | fail) only [go_sem, reduceIte, reduceCtorEq, qn0, qn1, qn2, qn3, qn4, qn5, qn6, qn7, qn8, qi0, qi1, qi2, qi3, qi4, qi5, qi6, qi7, qi8, qi9, qi10, BYs, L.sha_Parse.r0, List.length_replicate, hd]
  | succ m ih =>
    intro i d hi hd
    have hlt : i < 32 := by omega
    obtain ⟨a0, a1⟩ := idx_range (s.getD (2 * i) 0)
    obtain ⟨b0, b1⟩ := idx_range (s.getD (2 * i + 1) 0)
    have c1 := ge_sindex (l := digs) (c := bat s (2 * i))
    have c2 := ge_sindex (l := digs) (c := bat s (2 * i + 1))
    rw [byt_bat] at c1 c2
    have e1 : ((2 : Int) * (i : Int)).toNat = 2 * i := by omega
    have e2 : ((2 : Int) * (i : Int) + 1).toNat = 2 * i + 1 := by omega
    have yes : ∀ id, id.length = 32 → s = hexT id → indexB digs (s.getD (2 * i) 0) = (((id.getD i 0).toNat / 16 : Nat) : Int) ∧ indexB digs (s.getD (2 * i + 1) 0) = (((id.getD i 0).toNat % 16 : Nat) : Int) := by
      intro id h1 h2
      have := (id.getD i 0).toNat_lt
      obtain ⟨g1, g2⟩ := hexT_get (id := id) (i := i) (by omega)
      rw [h2, g1, g2]
      exact ⟨undig _ (by omega), undig _ (by omega)⟩
    unfold digs at *
    generalize indexB [48, 49, 50, 51, 52, 53, 54, 55, 56, 57, 97, 98, 99, 100, 101, 102] (s.getD (2 * i) 0) = A at *
    generalize indexB [48, 49, 50, 51, 52, 53, 54, 55, 56, 57, 97, 98, 99, 100, 101, 102] (s.getD (2 * i + 1) 0) = B at *
    rw [X_in L.sha_Parse.x0.eq_1]
    by_cases hA : A < 0
    · refine ⟨List.replicate 32 0, 4, by simp, .inr rfl, ?_, fun id h1 h2 _ => ?_⟩
      · simp (dsimp := false) (disch := first | omega | (simp only [LENs] <;> omega) | fail) only [go_sem, reduceIte, reduceCtorEq, qn0, qn1, qn2, qn3, qn4, qn5, qn6, qn7, qn8, qi0, qi1, qi2, qi3, qi4, qi5, qi6, qi7, qi8, qi9, qi10, BYs, e1, e2, c1, c2, hA, List.length_replicate, hd]
      · have := (yes id h1 h2).1; omega
    · by_cases hB : B < 0
      · refine ⟨List.replicate 32 0, 4, by simp, .inr rfl, ?_, fun id h1 h2 _ => ?_⟩
        · simp (dsimp := false) (disch := first | omega | (simp only [LENs] <;> omega) | fail) only [go_sem, reduceIte, reduceCtorEq, qn0, qn1, qn2, qn3, qn4, qn5, qn6, qn7, qn8, qi0, qi1, qi2, qi3, qi4, qi5, qi6, qi7, qi8, qi9, qi10, BYs, e1, e2, c1, c2, hA, hB, List.length_replicate, hd]
        · have := (yes id h1 h2).2; omega
      · obtain ⟨a, rfl⟩ : ∃ a : Nat, A = a := ⟨A.toNat, by omega⟩
        obtain ⟨b, rfl⟩ : ∃ b : Nat, B = b := ⟨B.toNat, by omega⟩
        have hn := nib a (by omega) b (by omega)
        obtain ⟨d', e, h1, h2, h3, h4⟩ := ih (i + 1) (d.set i (UInt8.ofNat (16 * a + b))) (by omega) (by rw [List.length_set]; exact hd)
        simp only [Int.natCast_add, Int.cast_ofNat_Int] at h3
        refine ⟨d', e, h1, h2, ?_, fun id g1 g2 g3 => h4 id g1 g2 ?_⟩
        · rw [← h3]
          simp (dsimp := false) (disch := first | omega | (simp only [LENs] <;> omega) | fail) only [go_sem, reduceIte, reduceCtorEq, qn0, qn1, qn2, qn3, qn4, qn5, qn6, qn7, qn8, qi0, qi1, qi2, qi3, qi4, qi5, qi6, qi7, qi8, qi9, qi10, BYs, e1, e2, c1, c2, hA, hB, hn, List.length_replicate, hd]
        · obtain ⟨y1, y2⟩ := yes id g1 g2
          have := (id.getD i 0).toNat_lt
          have hx : UInt8.ofNat (16 * a + b) = id.getD i 0 := by
            have : 16 * a + b = (id.getD i 0).toNat := by omega
            rw [this]
            rw [UInt8.ofNat_toNat]
          rw [hx, g3, fil_set g1 hlt]
theorem go_sparse {s : List UInt8} (hs : s.length ≤ 1000000000) : ∃ d e, d.length = 32 ∧ (e = 0 ∨ e = 4) ∧ S E F.sha_Parse [.str s] [] = some (.tup [.agg (ofBytes d), .int .i64 e], []) ∧ ∀ id, id.length = 32 → s = hexT id → d = id ∧ e = 0 := by
  by_cases hl : s.length = 64
  · obtain ⟨d, e, h1, h2, h3, h4⟩ := sp_l0 hl 32 0 (List.replicate 32 0) (by omega) (by simp)
    simp only [Int.cast_ofNat_Int] at h3
    refine ⟨d, e, h1, h2, ?_, fun id g1 g2 => h4 id g1 g2 (by unfold fil; simp)⟩
    rw [S_of fn_sha_Parse rfl rfl]
    simp (dsimp := false) (disch := first | omega | (simp only [LENs] <;> omega) | fail) only [L.sha_Parse, go_sem, reduceIte, reduceCtorEq, qn0, qn1, qn2, qn3, qn4, qn5, qn6, qn7, qn8, qi0, qi1, qi2, qi3, qi4, qi5, qi6, qi7, qi8, qi9, qi10, BYs, hl, h3]
  · refine ⟨List.replicate 32 0, 4, by simp, .inr rfl, ?_, fun id g1 g2 => ?_⟩
    · rw [S_of fn_sha_Parse rfl rfl]
      simp (dsimp := false) (disch := first | omega | (simp only [LENs] <;> omega) | fail) only [L.sha_Parse, go_sem, reduceIte, reduceCtorEq, qn0, qn1, qn2, qn3, qn4, qn5, qn6, qn7, qn8, qi0, qi1, qi2, qi3, qi4, qi5, qi6, qi7, qi8, qi9, qi10, BYs, hl, List.length_replicate]
    · exact absurd (by rw [g2, hexT_len]; omega) hl
end Cod
namespace Cod
open Go
def dgF (c : Int) : Int := if 48 ≤ c ∧ c ≤ 57 then c - 48 else if 97 ≤ c ∧ c ≤ 102 then c - 97 + 10 else 16
theorem dgF_range {c : Int} : 0 ≤ dgF c ∧ dgF c ≤ 16 := by
  unfold dgF; split
  · omega
  · split <;> omega
theorem go_digit {c : Int} (h0 : 0 ≤ c) (h1 : c < 256) : S E F.ref01_digit [.int .u8 c] [] = some (.int .i64 (dgF c), []) := by
  rw [S_of fn_ref01_digit rfl rfl]
  unfold dgF
  by_cases a : 48 ≤ c
  · by_cases b : c ≤ 57
    · have w : (c - 48) % 256 = c - 48 := by omega
      simp (dsimp := false) (disch := first | omega | (simp only [LENs] <;> omega) | fail) only [L.ref01_digit, go_sem, reduceIte, reduceCtorEq, qn0, qn1, qn2, qn3, qn4, qn5, qn6, qn7, qn8, qi0, qi1, qi2, qi3, qi4, qi5, qi6, qi7, qi8, qi9, qi10, a, b, w]
    · by_cases a' : 97 ≤ c
      · by_cases b' : c ≤ 102
        · have w : (c - 97) % 256 = c - 97 := by omega
          simp (dsimp := false) (disch := first | omega | (simp only [LENs] <;> omega) | fail) only [L.ref01_digit, go_sem, reduceIte, reduceCtorEq, qn0, qn1, qn2, qn3, qn4, qn5, qn6, qn7, qn8, qi0, qi1, qi2, qi3, qi4, qi5, qi6, qi7, qi8, qi9, qi10, a, b, a', b', w]
        · simp (dsimp := false) (disch := first | omega | (simp only [LENs] <;> omega) | fail) only [L.ref01_digit, go_sem, reduceIte, reduceCtorEq, qn0, qn1, qn2, qn3, qn4, qn5, qn6, qn7, qn8, qi0, qi1, qi2, qi3, qi4, qi5, qi6, qi7, qi8, qi9, qi10, a, b, a', b', and_false, false_and]
      · simp (dsimp := false) (disch := first | omega | (simp only [LENs] <;> omega) | fail) only [L.ref01_digit, go_sem, reduceIte, reduceCtorEq, qn0, qn1, qn2, qn3, qn4, qn5, qn6, qn7, qn8, qi0, qi1, qi2, qi3, qi4, qi5, qi6, qi7, qi8, qi9, qi10, a, b, a', and_false, false_and]
  · have a' : ¬ 97 ≤ c := by omega
    simp (dsimp := false) (disch := first | omega | (simp only [LENs] <;> omega) | fail) only [L.ref01_digit, go_sem, reduceIte, reduceCtorEq, qn0, qn1, qn2, qn3, qn4, qn5, qn6, qn7, qn8, qi0, qi1, qi2, qi3, qi4, qi5, qi6, qi7, qi8, qi9, qi10, a, a', false_and]
theorem dgF_hex : ∀ n : Nat, n < 16 → dgF ((hexD n).toNat : Int) = (n : Int) := by decide
def half (id : List UInt8) (i : Nat) : List UInt8 := if i % 2 = 0 then fil id (i / 2) else (fil id (i / 2)).set (i / 2) (UInt8.ofNat ((id.getD (i / 2) 0).toNat / 16))
theorem rp_l0 {s : List UInt8} (hs : s.length = 64) : ∀ (m i : Nat) (d : List UInt8), i + m = 64 → d.length = 32 → ∃ d' e, d'.length = 32 ∧ (e = 0 ∨ e = 4) ∧
    X E [.cell 2 (some 32), .tmp 3] (.c L.ref01_DocParse.x0 :: .lp [0, 2, 4, 5] L.ref01_DocParse.x0 :: .blk 0 :: [.c L.ref01_DocParse.r0]) ⟨[(0, .str s), (2, .ref (.s 1000000 0) 0 0), (4, .ref (.s 1000000 1) 0 0), (5, .int .i64 i)], [(.s 1000000 0, ⟨0, true, true, true, ofBytes (List.replicate 32 0)⟩), (.s 1000000 1, ⟨0, true, true, true, ofBytes d⟩)]⟩ = some (.tup [.agg (ofBytes d'), .int .i64 e], []) ∧
    ∀ id, id.length = 32 → s = hexT id → d = half id i → d' = id ∧ e = 0 := by
  intro m
  induction m with
  | zero =>
    intro i d hi hd
    obtain rfl : i = 64 := by omega
    refine ⟨d, 0, hd, .inl rfl, ?_, fun id h1 h2 h3 => ⟨by rw [h3]; exact fil_all h1, rfl⟩⟩
    rw [X_in L.ref01_DocParse.x0.eq_1]
    simp (dsimp := false) (disch := first | omega | (simp only [LENs] <;> omega) | fail) only [go_sem, reduceIte, reduceCtorEq, qn0, qn1, qn2, qn3, qn4, qn5, qn6, qn7, qn8, qi0, qi1, qi2, qi3, qi4, qi5, qi6, qi7, qi8, qi9, qi10, BYs, L.ref01_DocParse.r0, List.length_replicate, hd]
  | succ m ih =>
    intro i d hi hd
    have hlt : i < 64 := by omega
    obtain ⟨b0, b1⟩ := bat_range s i
    have c1 := go_digit b0 b1
    obtain ⟨g0, g1⟩ := dgF_range (c := bat s i)
    have yes : ∀ id, id.length = 32 → s = hexT id → dgF (bat s i) = ((if i % 2 = 0 then (id.getD (i / 2) 0).toNat / 16 else (id.getD (i / 2) 0).toNat % 16 : Nat) : Int) := by
      intro id h1 h2
      have := (id.getD (i / 2) 0).toNat_lt
      obtain ⟨k1, k2⟩ := hexT_get (id := id) (i := i / 2) (by omega)
      have e : bat s i = (((hexT id).getD i 0).toNat : Int) := by rw [← h2]; rfl
      rw [e]
      by_cases he : i % 2 = 0
      · rw [if_pos he, show i = 2 * (i / 2) by omega, k1, show 2 * (i / 2) / 2 = i / 2 by omega]
        exact dgF_hex _ (by omega)
      · rw [if_neg he, show i = 2 * (i / 2) + 1 by omega, k2, show (2 * (i / 2) + 1) / 2 = i / 2 by omega]
        exact dgF_hex _ (by omega)
    generalize dgF (bat s i) = A at *
    have e1 : (i : Int).tdiv 2 = ((i / 2 : Nat) : Int) := by rw [tdiv_pos (by omega)]; omega
    rw [X_in L.ref01_DocParse.x0.eq_1]
    by_cases hA : 15 < A
    · refine ⟨List.replicate 32 0, 4, by simp, .inr rfl, ?_, fun id h1 h2 _ => ?_⟩
      · simp (dsimp := false) (disch := first | omega | (simp only [LENs] <;> omega) | fail) only [go_sem, reduceIte, reduceCtorEq, qn0, qn1, qn2, qn3, qn4, qn5, qn6, qn7, qn8, qi0, qi1, qi2, qi3, qi4, qi5, qi6, qi7, qi8, qi9, qi10, BYs, c1, hA, List.length_replicate, hd]
      · have y := yes id h1 h2
        have := (id.getD (i / 2) 0).toNat_lt
        by_cases he : i % 2 = 0
        · rw [if_pos he] at y; omega
        · rw [if_neg he] at y; omega
    · obtain ⟨d', e, h1, h2, h3, h4⟩ := ih (i + 1) (d.set (i / 2) (UInt8.ofNat ((16 * bat d (i / 2) % 256 + A % 256) % 256).toNat)) (by omega) (by rw [List.length_set]; exact hd)
      simp only [Int.natCast_add, Int.cast_ofNat_Int] at h3
      have hx0 := bat_range d (i / 2)
      refine ⟨d', e, h1, h2, ?_, fun id g1 g2 g3 => h4 id g1 g2 ?_⟩
      · rw [← h3]
        simp (dsimp := false) (disch := first | omega | (simp only [LENs] <;> omega) | fail) only [go_sem, reduceIte, reduceCtorEq, qn0, qn1, qn2, qn3, qn4, qn5, qn6, qn7, qn8, qi0, qi1, qi2, qi3, qi4, qi5, qi6, qi7, qi8, qi9, qi10, BYs, e1, c1, hA, List.length_replicate, hd]
      · have y := yes id g1 g2
        have hx := (id.getD (i / 2) 0).toNat_lt
        have hfl := fil_len (k := i / 2) g1 (by omega)
        by_cases he : i % 2 = 0
        · rw [if_pos he] at y
          have hd0 : bat d (i / 2) = 0 := by
            rw [g3]
            unfold half bat
            rw [if_pos he]
            unfold fil
            have hl : (id.take (i / 2)).length = i / 2 := by rw [List.length_take]; omega
            simp only [List.getD]
            rw [List.getElem?_append_right (by omega), hl, Nat.sub_self, List.getElem?_replicate]
            split <;> rfl
          rw [hd0, y, show ((16 * 0 % 256 + (((id.getD (i / 2) 0).toNat / 16 : Nat) : Int) % 256) % 256).toNat = (id.getD (i / 2) 0).toNat / 16 by omega, g3]
          unfold half
          rw [if_pos he, if_neg (by omega), show (i + 1) / 2 = i / 2 by omega]
        · rw [if_neg he] at y
          have hd0 : bat d (i / 2) = (((id.getD (i / 2) 0).toNat / 16 : Nat) : Int) := by
            rw [g3]
            unfold half bat
            rw [if_neg he]
            have key : ∀ (l : List UInt8) (k : Nat) (x : UInt8), k < l.length → (l.set k x).getD k 0 = x := by intro l k x h; simp [List.getD, h]
            rw [key _ _ _ (by omega), UInt8.toNat_ofNat']
            omega
          rw [hd0, y, show ((16 * (((id.getD (i / 2) 0).toNat / 16 : Nat) : Int) % 256 + (((id.getD (i / 2) 0).toNat % 16 : Nat) : Int) % 256) % 256).toNat = (id.getD (i / 2) 0).toNat by omega, g3, UInt8.ofNat_toNat]
          unfold half
          rw [if_neg he, if_pos (by omega), List.set_set, fil_set g1 (by omega), show (i + 1) / 2 = i / 2 + 1 by omega]
theorem go_rdparse {s : List UInt8} (hs : s.length ≤ 1000000000) : ∃ d e, d.length = 32 ∧ (e = 0 ∨ e = 4) ∧ S E F.ref01_DocParse [.str s] [] = some (.tup [.agg (ofBytes d), .int .i64 e], []) ∧ ∀ id, id.length = 32 → s = hexT id → d = id ∧ e = 0 := by
  by_cases hl : s.length = 64
  · obtain ⟨d, e, h1, h2, h3, h4⟩ := rp_l0 hl 64 0 (List.replicate 32 0) (by omega) (by simp)
    simp only [Int.cast_ofNat_Int] at h3
    refine ⟨d, e, h1, h2, ?_, fun id g1 g2 => h4 id g1 g2 (by unfold half fil; simp)⟩
    rw [S_of fn_ref01_DocParse rfl rfl]
    simp (dsimp := false) (disch := first | omega | (simp only [LENs] <;> omega) | fail) only [L.ref01_DocParse, go_sem, reduceIte, reduceCtorEq, qn0, qn1, qn2, qn3, qn4, qn5, qn6, qn7, qn8, qi0, qi1, qi2, qi3, qi4, qi5, qi6, qi7, qi8, qi9, qi10, BYs, hl, h3]
  · refine ⟨List.replicate 32 0, 4, by simp, .inr rfl, ?_, fun id g1 g2 => ?_⟩
    · rw [S_of fn_ref01_DocParse rfl rfl]
      simp (dsimp := false) (disch := first | omega | (simp only [LENs] <;> omega) | fail) only [L.ref01_DocParse, go_sem, reduceIte, reduceCtorEq, qn0, qn1, qn2, qn3, qn4, qn5, qn6, qn7, qn8, qi0, qi1, qi2, qi3, qi4, qi5, qi6, qi7, qi8, qi9, qi10, BYs, hl, List.length_replicate]
    · exact absurd (by rw [g2, hexT_len]; omega) hl
end Cod
namespace Cod
open Go
theorem ixB_pos {l : List UInt8} {c : UInt8} (h : c ∈ l) : indexB l c = (l.idxOf c : Nat) := by simp [indexB, h]
theorem ixB_neg {l : List UInt8} {c : UInt8} (h : c ∉ l) : indexB l c = -1 := by simp [indexB, h]
theorem byt_u8 (c : UInt8) : byt (c.toNat : Int) = c := by simp [byt]
theorem sl_index {s : List UInt8} {c : UInt8} : S E F.stringslite_Index [.str s, .str [c]] [] = some (.int .i64 (indexB s c), []) := by
  have hx : S E F.bytealg_IndexByteString [.str s, .int .u8 c.toNat] [] = some (.int .i64 (indexB s c), []) := by
    have h := S_ext ext0 (S_indexS (l := s) (c := c.toNat))
    rw [byt_u8] at h
    exact h
  have h1 : S E F.stringslite_IndexByte [.str s, .int .u8 c.toNat] [] = some (.int .i64 (indexB s c), []) := by
    rw [S_of fn_stringslite_IndexByte rfl rfl]
    simp (dsimp := false) (disch := first | omega | (simp only [LENs] <;> omega) | fail) only [L.stringslite_IndexByte, go_sem, reduceIte, reduceCtorEq, qn0, qn1, qn2, qn3, qn4, qn5, qn6, qn7, qn8, qi0, qi1, qi2, qi3, qi4, qi5, qi6, qi7, qi8, qi9, qi10, hx]
  have b0 : bat [c] 0 = c.toNat := rfl
  rw [S_of fn_stringslite_Index rfl rfl]
  cases hs : (([c] : List UInt8) == s) with
  | true =>
    have := eq_of_beq hs
    subst this
    have hi : indexB [c] c = 0 := by simp [indexB]
    rw [hi]
    simp (dsimp := false) (disch := first | omega | (simp only [LENs] <;> omega) | fail) only [L.stringslite_Index, go_sem, reduceIte, reduceCtorEq, qn0, qn1, qn2, qn3, qn4, qn5, qn6, qn7, qn8, qi0, qi1, qi2, qi3, qi4, qi5, qi6, qi7, qi8, qi9, qi10, hs, h1, b0]
  | false =>
    simp (dsimp := false) (disch := first | omega | (simp only [LENs] <;> omega) | fail) only [L.stringslite_Index, go_sem, reduceIte, reduceCtorEq, qn0, qn1, qn2, qn3, qn4, qn5, qn6, qn7, qn8, qi0, qi1, qi2, qi3, qi4, qi5, qi6, qi7, qi8, qi9, qi10, hs, h1, b0]
theorem sl_cut {s : List UInt8} {c : UInt8} (hs : s.length ≤ 1000000000000) : S E F.stringslite_Cut [.str s, .str [c]] [] = some (if c ∈ s then .tup [.str (s.take (s.idxOf c)), .str (s.drop (s.idxOf c + 1)), .bool true] else .tup [.str s, .str [], .bool false], []) := by
  have h := sl_index (s := s) (c := c)
  rw [S_of fn_stringslite_Cut rfl rfl]
  by_cases hc : c ∈ s
  · rw [ixB_pos hc] at h
    have hi := List.idxOf_lt_length_of_mem hc
    rw [if_pos hc]
    have e1 : ((s.idxOf c : Int) + ((1 : Nat) : Int)).toNat = s.idxOf c + 1 := by omega
    have e2 : sub s 0 (s.idxOf c) = s.take (s.idxOf c) := by simp [sub]
    have e3 : sub s (s.idxOf c + 1) (s.length - (s.idxOf c + 1)) = s.drop (s.idxOf c + 1) := sub_drop (by omega)
    simp (dsimp := false) (disch := first | omega | (simp only [LENs] <;> omega) | fail) only [L.stringslite_Cut, go_sem, reduceIte, reduceCtorEq, qn0, qn1, qn2, qn3, qn4, qn5, qn6, qn7, qn8, qi0, qi1, qi2, qi3, qi4, qi5, qi6, qi7, qi8, qi9, qi10, h, e1, e2, e3, Nat.sub_zero]
  · rw [ixB_neg hc] at h
    rw [if_neg hc]
    simp (dsimp := false) (disch := first | omega | (simp only [LENs] <;> omega) | fail) only [L.stringslite_Cut, go_sem, reduceIte, reduceCtorEq, qn0, qn1, qn2, qn3, qn4, qn5, qn6, qn7, qn8, qi0, qi1, qi2, qi3, qi4, qi5, qi6, qi7, qi8, qi9, qi10, h]
theorem go_scut {s : List UInt8} {c : UInt8} (hs : s.length ≤ 1000000000000) : S E F.strings_Cut [.str s, .str [c]] [] = some (if c ∈ s then .tup [.str (s.take (s.idxOf c)), .str (s.drop (s.idxOf c + 1)), .bool true] else .tup [.str s, .str [], .bool false], []) := by
  have h := sl_cut (c := c) hs
  rw [S_of fn_strings_Cut rfl rfl]
  by_cases hc : c ∈ s
  · rw [if_pos hc] at h ⊢
    simp (dsimp := false) (disch := first | omega | (simp only [LENs] <;> omega) | fail) only [L.strings_Cut, go_sem, reduceIte, reduceCtorEq, qn0, qn1, qn2, qn3, qn4, qn5, qn6, qn7, qn8, qi0, qi1, qi2, qi3, qi4, qi5, qi6, qi7, qi8, qi9, qi10, h]
  · rw [if_neg hc] at h ⊢
    simp (dsimp := false) (disch := first | omega | (simp only [LENs] <;> omega) | fail) only [L.strings_Cut, go_sem, reduceIte, reduceCtorEq, qn0, qn1, qn2, qn3, qn4, qn5, qn6, qn7, qn8, qi0, qi1, qi2, qi3, qi4, qi5, qi6, qi7, qi8, qi9, qi10, h]
end Cod
namespace Cod
open Go
theorem pre_drop {w v : List UInt8} : (w ++ v).drop w.length = v := List.drop_left
theorem go_prefix {s t : List UInt8} (hs : s.length ≤ 1000000000000) (ht : t.length ≤ 1000000000000) : S E F.strings_HasPrefix [.str s, .str t] [] = some (.bool (decide (t.length ≤ s.length) && (s.take t.length == t)), []) := by
  have h0 : S E F.stringslite_HasPrefix [.str s, .str t] [] = some (.bool (decide (t.length ≤ s.length) && (s.take t.length == t)), []) := by
    rw [S_of fn_stringslite_HasPrefix rfl rfl]
    by_cases h : t.length ≤ s.length
    · simp (dsimp := false) (disch := first | omega | (simp only [LENs] <;> omega) | fail) only [L.stringslite_HasPrefix, go_sem, reduceIte, reduceCtorEq, qn0, qn1, qn2, qn3, qn4, qn5, qn6, qn7, qn8, qi0, qi1, qi2, qi3, qi4, qi5, qi6, qi7, qi8, qi9, qi10, h, sub_take, take_len, sub_drop, decide_true, Bool.true_and, Nat.sub_zero]
    · simp (dsimp := false) (disch := first | omega | (simp only [LENs] <;> omega) | fail) only [L.stringslite_HasPrefix, go_sem, reduceIte, reduceCtorEq, qn0, qn1, qn2, qn3, qn4, qn5, qn6, qn7, qn8, qi0, qi1, qi2, qi3, qi4, qi5, qi6, qi7, qi8, qi9, qi10, h, sub_take, take_len, sub_drop, decide_false, Bool.false_and]
  rw [S_of fn_strings_HasPrefix rfl rfl]
  simp (dsimp := false) (disch := first | omega | (simp only [LENs] <;> omega) | fail) only [L.strings_HasPrefix, go_sem, reduceIte, reduceCtorEq, qn0, qn1, qn2, qn3, qn4, qn5, qn6, qn7, qn8, qi0, qi1, qi2, qi3, qi4, qi5, qi6, qi7, qi8, qi9, qi10, h0]
def preB (s t : List UInt8) : Bool := decide (t.length ≤ s.length) && (s.take t.length == t)
theorem preB_app (w v : List UInt8) : preB (w ++ v) w = true := by
  unfold preB
  simp
theorem go_cutPre {s t : List UInt8} (hs : s.length ≤ 1000000000000) (ht : t.length ≤ 1000000000000) : S E F.strings_CutPrefix [.str s, .str t] [] = some (if preB s t = true then .tup [.str (s.drop t.length), .bool true] else .tup [.str s, .bool false], []) := by
  have h0 : S E F.stringslite_CutPrefix [.str s, .str t] [] = some (if preB s t = true then .tup [.str (s.drop t.length), .bool true] else .tup [.str s, .bool false], []) := by
    have hp : S E F.stringslite_HasPrefix [.str s, .str t] [] = some (.bool (preB s t), []) := by
      rw [S_of fn_stringslite_HasPrefix rfl rfl]
      unfold preB
      by_cases h : t.length ≤ s.length
      · simp (dsimp := false) (disch := first | omega | (simp only [LENs] <;> omega) | fail) only [L.stringslite_HasPrefix, go_sem, reduceIte, reduceCtorEq, qn0, qn1, qn2, qn3, qn4, qn5, qn6, qn7, qn8, qi0, qi1, qi2, qi3, qi4, qi5, qi6, qi7, qi8, qi9, qi10, h, sub_take, take_len, sub_drop, decide_true, Bool.true_and, Nat.sub_zero]
      · simp (dsimp := false) (disch := first | omega | (simp only [LENs] <;> omega) | fail) only [L.stringslite_HasPrefix, go_sem, reduceIte, reduceCtorEq, qn0, qn1, qn2, qn3, qn4, qn5, qn6, qn7, qn8, qi0, qi1, qi2, qi3, qi4, qi5, qi6, qi7, qi8, qi9, qi10, h, sub_take, take_len, sub_drop, decide_false, Bool.false_and]
    rw [S_of fn_stringslite_CutPrefix rfl rfl]
    cases hb : preB s t with
    | true =>
      have hl : t.length ≤ s.length := by unfold preB at hb; simp only [Bool.and_eq_true, decide_eq_true_eq] at hb; exact hb.1
      simp (dsimp := false) (disch := first | omega | (simp only [LENs] <;> omega) | fail) only [L.stringslite_CutPrefix, go_sem, reduceIte, reduceCtorEq, qn0, qn1, qn2, qn3, qn4, qn5, qn6, qn7, qn8, qi0, qi1, qi2, qi3, qi4, qi5, qi6, qi7, qi8, qi9, qi10, hp, hb, sub_take, take_len, sub_drop]
    | false => simp (dsimp := false) (disch := first | omega | (simp only [LENs] <;> omega) | fail) only [L.stringslite_CutPrefix, go_sem, reduceIte, reduceCtorEq, qn0, qn1, qn2, qn3, qn4, qn5, qn6, qn7, qn8, qi0, qi1, qi2, qi3, qi4, qi5, qi6, qi7, qi8, qi9, qi10, hp, hb, sub_take, take_len, sub_drop]
  rw [S_of fn_strings_CutPrefix rfl rfl]
  cases hb : preB s t with
  | true => rw [hb] at h0; simp (dsimp := false) (disch := first | omega | (simp only [LENs] <;> omega) | fail) only [L.strings_CutPrefix, go_sem, reduceIte, reduceCtorEq, qn0, qn1, qn2, qn3, qn4, qn5, qn6, qn7, qn8, qi0, qi1, qi2, qi3, qi4, qi5, qi6, qi7, qi8, qi9, qi10] at h0 ⊢; simp (dsimp := false) (disch := first | omega | (simp only [LENs] <;> omega) | fail) only [go_sem, reduceIte, reduceCtorEq, qn0, qn1, qn2, qn3, qn4, qn5, qn6, qn7, qn8, qi0, qi1, qi2, qi3, qi4, qi5, qi6, qi7, qi8, qi9, qi10, h0]
  | false => rw [hb] at h0; simp (dsimp := false) (disch := first | omega | (simp only [LENs] <;> omega) | fail) only [L.strings_CutPrefix, go_sem, reduceIte, reduceCtorEq, qn0, qn1, qn2, qn3, qn4, qn5, qn6, qn7, qn8, qi0, qi1, qi2, qi3, qi4, qi5, qi6, qi7, qi8, qi9, qi10] at h0 ⊢; simp (dsimp := false) (disch := first | omega | (simp only [LENs] <;> omega) | fail) only [go_sem, reduceIte, reduceCtorEq, qn0, qn1, qn2, qn3, qn4, qn5, qn6, qn7, qn8, qi0, qi1, qi2, qi3, qi4, qi5, qi6, qi7, qi8, qi9, qi10, h0]
/- Steps of a reader of lines. -/
theorem take_ex {rest w : List UInt8} {bad : Nat} (hr : rest.length ≤ 1000000000) (hw : w.length ≤ 100) (hw10 : (10 : UInt8) ∉ w) (hb : bad ≤ 100000) : ∃ v r b, v.length ≤ rest.length ∧ r.length ≤ rest.length ∧ bad ≤ b ∧ b ≤ bad + 1 ∧
    (∀ x : Site, S E F.object_lines_take [.ref (.up x) 0 0, .str w] [(.up x, ⟨0, true, true, true, [.str rest, .int .i64 bad]⟩)] = some (.str v, [(.up x, ⟨0, true, true, true, [.str r, .int .i64 (b : Int)]⟩)])) ∧
    (b = bad → r.length < rest.length) ∧
    ∀ v0 r0, (10 : UInt8) ∉ v0 → rest = w ++ 32 :: (v0 ++ 10 :: r0) → v = v0 ∧ r = r0 ∧ b = bad := by
  have h1 := go_scut (s := rest) (c := 10) (by omega)
  by_cases hc : (10 : UInt8) ∈ rest
  · rw [if_pos hc] at h1
    have hlt : (rest.take (rest.idxOf 10)).length ≤ rest.length := by rw [List.length_take]; omega
    have h2 := go_cutPre (s := rest.take (rest.idxOf 10)) (t := w ++ [32]) (by omega) (by rw [List.length_append, List.length_singleton]; omega)
    have hi := List.idxOf_lt_length_of_mem hc
    have hsplit : rest = rest.take (rest.idxOf 10) ++ 10 :: rest.drop (rest.idxOf 10 + 1) := by
      conv => lhs; rw [← List.take_append_drop (rest.idxOf 10) rest, List.drop_eq_getElem_cons hi]
      rw [List.getElem_idxOf hi]
    have hno := List.idxOf_lt_length_of_mem hc
    have yes : ∀ v0 r0, (10 : UInt8) ∉ v0 → rest = w ++ 32 :: (v0 ++ 10 :: r0) → rest.take (rest.idxOf 10) = w ++ [32] ++ v0 ∧ rest.drop (rest.idxOf 10 + 1) = r0 := by
      intro v0 r0 g1 g2
      have gi := line_ix (r := r0) hw10 g1
      rw [← g2] at gi
      rw [gi]
      have e : rest = (w ++ [32] ++ v0) ++ 10 :: r0 := by rw [g2]; simp
      have el : (w ++ [32] ++ v0).length = w.length + 1 + v0.length := by simp; omega
      rw [e, ← el]
      refine ⟨List.take_left, ?_⟩
      rw [← List.drop_drop, List.drop_left]
      rfl
    generalize rest.take (rest.idxOf 10) = line at *
    generalize rest.drop (rest.idxOf 10 + 1) = tail at *
    have htl' : tail.length < rest.length := by rw [hsplit, List.length_append, List.length_cons]; omega
    have htl : tail.length ≤ rest.length := by omega
    cases hp : preB line (w ++ [32]) with
    | true =>
      rw [hp, if_pos rfl] at h2
      have hd : (line.drop (w ++ [32]).length).length ≤ rest.length := by rw [List.length_drop]; omega
      refine ⟨line.drop (w ++ [32]).length, tail, bad, hd, htl, Nat.le_refl _, by omega, ?_, fun _ => htl', fun v0 r0 g1 g2 => ?_⟩
      · intro x; rw [S_of fn_object_lines_take rfl rfl]
        simp (dsimp := false) (disch := first | omega | (simp only [LENs] <;> omega) | fail) only [L.object_lines_take, go_sem, reduceIte, reduceCtorEq, qn0, qn1, qn2, qn3, qn4, qn5, qn6, qn7, qn8, qi0, qi1, qi2, qi3, qi4, qi5, qi6, qi7, qi8, qi9, qi10, h1, h2, Int.natCast_add, Int.cast_ofNat_Int]
      · obtain ⟨e1, e2⟩ := yes v0 r0 g1 g2
        refine ⟨?_, e2, rfl⟩
        rw [e1]; exact pre_drop
    | false =>
      rw [hp, if_neg (by simp)] at h2
      refine ⟨[], rest, bad + 1, by simp, Nat.le_refl _, by omega, Nat.le_refl _, ?_, fun h => by omega, fun v0 r0 g1 g2 => ?_⟩
      · intro x; rw [S_of fn_object_lines_take rfl rfl]
        simp (dsimp := false) (disch := first | omega | (simp only [LENs] <;> omega) | fail) only [L.object_lines_take, go_sem, reduceIte, reduceCtorEq, qn0, qn1, qn2, qn3, qn4, qn5, qn6, qn7, qn8, qi0, qi1, qi2, qi3, qi4, qi5, qi6, qi7, qi8, qi9, qi10, h1, h2, Int.natCast_add, Int.cast_ofNat_Int]
      · obtain ⟨e1, e2⟩ := yes v0 r0 g1 g2
        rw [e1, preB_app] at hp
        cases hp
  · rw [if_neg hc] at h1
    have h2 := go_cutPre (s := rest) (t := w ++ [32]) (by omega) (by rw [List.length_append, List.length_singleton]; omega)
    refine ⟨[], rest, bad + 1, by simp, Nat.le_refl _, by omega, Nat.le_refl _, ?_, fun h => by omega, fun v0 r0 g1 g2 => ?_⟩
    · intro x; rw [S_of fn_object_lines_take rfl rfl]
      cases hp : preB rest (w ++ [32]) with
      | true => rw [hp, if_pos rfl] at h2; simp (dsimp := false) (disch := first | omega | (simp only [LENs] <;> omega) | fail) only [L.object_lines_take, go_sem, reduceIte, reduceCtorEq, qn0, qn1, qn2, qn3, qn4, qn5, qn6, qn7, qn8, qi0, qi1, qi2, qi3, qi4, qi5, qi6, qi7, qi8, qi9, qi10, h1, h2, Int.natCast_add, Int.cast_ofNat_Int]
      | false => rw [hp, if_neg (by simp)] at h2; simp (dsimp := false) (disch := first | omega | (simp only [LENs] <;> omega) | fail) only [L.object_lines_take, go_sem, reduceIte, reduceCtorEq, qn0, qn1, qn2, qn3, qn4, qn5, qn6, qn7, qn8, qi0, qi1, qi2, qi3, qi4, qi5, qi6, qi7, qi8, qi9, qi10, h1, h2, Int.natCast_add, Int.cast_ofNat_Int]
    · exact absurd (by rw [g2]; simp) hc
end Cod
namespace Cod
open Go
theorem idl_ex {rest w : List UInt8} {bad : Nat} (hr : rest.length ≤ 1000000000) (hw : w.length ≤ 100) (hw10 : (10 : UInt8) ∉ w) (hb : bad ≤ 100000) : ∃ d r b, d.length = 32 ∧ r.length ≤ rest.length ∧ bad ≤ b ∧ b ≤ bad + 2 ∧
    (∀ x : Site, S E F.object_lines_id [.ref (.up x) 0 0, .str w] [(.up x, ⟨0, true, true, true, [.str rest, .int .i64 bad]⟩)] = some (.agg (ofBytes d), [(.up x, ⟨0, true, true, true, [.str r, .int .i64 (b : Int)]⟩)])) ∧
    (b = bad → r.length < rest.length) ∧
    ∀ id r0, id.length = 32 → rest = w ++ 32 :: (hexT id ++ 10 :: r0) → d = id ∧ r = r0 ∧ b = bad := by
  obtain ⟨v, r, b, h1, h2, h3, h4, h5, hpr, h6⟩ := take_ex hr hw hw10 hb
  obtain ⟨d, e, k1, k2, k3, k4⟩ := go_sparse (s := v) (by omega)
  have ho : over (ofBytes (List.replicate 32 0)) 0 (ofBytes d) = ofBytes d := over_ofBytes_all (by rw [k1]; simp)
  rcases k2 with rfl | rfl
  · refine ⟨d, r, b, k1, h2, h3, by omega, ?_, hpr, fun id r0 g1 g2 => ?_⟩
    · intro x; rw [S_of fn_object_lines_id rfl rfl]
      simp (dsimp := false) (disch := first | omega | (simp only [LENs] <;> omega) | fail) only [L.object_lines_id, go_sem, reduceIte, reduceCtorEq, qn0, qn1, qn2, qn3, qn4, qn5, qn6, qn7, qn8, qi0, qi1, qi2, qi3, qi4, qi5, qi6, qi7, qi8, qi9, qi10, BYs, h5, k3, ho, List.length_replicate]
    · obtain ⟨e1, e2, e3⟩ := h6 _ _ (hexT_no10 id) g2
      exact ⟨(k4 id g1 e1).1, e2, e3⟩
  · refine ⟨d, r, b + 1, k1, h2, by omega, by omega, ?_, fun h => by omega, fun id r0 g1 g2 => ?_⟩
    · intro x; rw [S_of fn_object_lines_id rfl rfl]
      simp (dsimp := false) (disch := first | omega | (simp only [LENs] <;> omega) | fail) only [L.object_lines_id, go_sem, reduceIte, reduceCtorEq, qn0, qn1, qn2, qn3, qn4, qn5, qn6, qn7, qn8, qi0, qi1, qi2, qi3, qi4, qi5, qi6, qi7, qi8, qi9, qi10, BYs, h5, k3, ho, List.length_replicate, Int.natCast_add, Int.cast_ofNat_Int]
    · obtain ⟨e1, e2, e3⟩ := h6 _ _ (hexT_no10 id) g2
      have := (k4 id g1 e1).2
      omega
theorem who_ex {rest w : List UInt8} {bad : Nat} (hr : rest.length ≤ 1000000000) (hw : w.length ≤ 100) (hw10 : (10 : UInt8) ∉ w) (hb : bad ≤ 100000) : ∃ (i : Idt) (r : List UInt8) (b : Nat), i.name.length ≤ 100 ∧ i.email.length ≤ 100 ∧ r.length ≤ rest.length ∧ bad ≤ b ∧ b ≤ bad + 2 ∧
    (∀ x : Site, S E F.object_lines_who [.ref (.up x) 0 0, .str w] [(.up x, ⟨0, true, true, true, [.str rest, .int .i64 bad]⟩)] = some (.agg i.cells, [(.up x, ⟨0, true, true, true, [.str r, .int .i64 (b : Int)]⟩)])) ∧
    ∀ j r0, identOK j = true → rest = w ++ 32 :: (putI j ++ 10 :: r0) → i = j ∧ r = r0 ∧ b = bad := by
  obtain ⟨v, r, b, h1, h2, h3, h4, h5, hpr, h6⟩ := take_ex hr hw hw10 hb
  rcases parse_cases v with ⟨i, i1, i2⟩ | hno
  · have k3 := go_parse_put i1
    rw [i2] at k3
    refine ⟨i, r, b, ?_, ?_, h2, h3, by omega, ?_, fun j r0 g1 g2 => ?_⟩
    · exact plain_len ((identOK_iff i).1 i1).1
    · exact plain_len ((identOK_iff i).1 i1).2.1
    · intro x; rw [S_of fn_object_lines_who rfl rfl]
      simp (dsimp := false) (disch := first | omega | (simp only [LENs] <;> omega) | fail) only [L.object_lines_who, go_sem, reduceIte, reduceCtorEq, qn0, qn1, qn2, qn3, qn4, qn5, qn6, qn7, qn8, qi0, qi1, qi2, qi3, qi4, qi5, qi6, qi7, qi8, qi9, qi10, BYs, h5, k3, Idt.cells]
    · obtain ⟨e1, e2, e3⟩ := h6 _ _ (put_no10 g1) g2
      refine ⟨?_, e2, e3⟩
      rw [e1] at i2
      have a1 := (doc_put i1).1
      have a2 := (doc_put g1).1
      rw [i2] at a1
      exact a1.symm.trans a2
  · have k3 := go_parse_no (s := v) (by omega) hno
    unfold errP zeroI at k3
    refine ⟨⟨[], [], 0, 0⟩, r, b + 1, by simp, by simp, h2, by omega, by omega, ?_, fun j r0 g1 g2 => ?_⟩
    · intro x; rw [S_of fn_object_lines_who rfl rfl]
      simp (dsimp := false) (disch := first | omega | (simp only [LENs] <;> omega) | fail) only [L.object_lines_who, go_sem, reduceIte, reduceCtorEq, qn0, qn1, qn2, qn3, qn4, qn5, qn6, qn7, qn8, qi0, qi1, qi2, qi3, qi4, qi5, qi6, qi7, qi8, qi9, qi10, BYs, h5, k3, Idt.cells, Int.natCast_add, Int.cast_ofNat_Int]
    · obtain ⟨e1, e2, e3⟩ := h6 _ _ (put_no10 g1) g2
      exact absurd e1.symm (hno j g1)
theorem end_ex {rest : List UInt8} {bad : Nat} (hr : rest.length ≤ 1000000000) (hb : bad ≤ 100000) : ∃ m b, m.length ≤ rest.length ∧ bad ≤ b ∧ b ≤ bad + 1 ∧
    (∀ x : Site, S E F.object_lines_end [.ref (.up x) 0 0] [(.up x, ⟨0, true, true, true, [.str rest, .int .i64 bad]⟩)] = some (.str m, [(.up x, ⟨0, true, true, true, [.str rest, .int .i64 (b : Int)]⟩)])) ∧
    ∀ m0, rest = 10 :: m0 → m = m0 ∧ b = bad := by
  have h2 := go_cutPre (s := rest) (t := [10]) (by omega) (by simp)
  cases hp : preB rest [10] with
  | true =>
    rw [hp, if_pos rfl] at h2
    refine ⟨rest.drop 1, bad, by rw [List.length_drop]; omega, Nat.le_refl _, by omega, ?_, fun m0 g => ⟨by rw [g]; rfl, rfl⟩⟩
    intro x; rw [S_of fn_object_lines_end rfl rfl]
    simp (dsimp := false) (disch := first | omega | (simp only [LENs] <;> omega) | fail) only [L.object_lines_end, go_sem, reduceIte, reduceCtorEq, qn0, qn1, qn2, qn3, qn4, qn5, qn6, qn7, qn8, qi0, qi1, qi2, qi3, qi4, qi5, qi6, qi7, qi8, qi9, qi10, h2, List.length_cons, List.length_nil]
  | false =>
    rw [hp, if_neg (by simp)] at h2
    refine ⟨rest, bad + 1, Nat.le_refl _, by omega, Nat.le_refl _, ?_, fun m0 g => ?_⟩
    · intro x; rw [S_of fn_object_lines_end rfl rfl]
      simp (dsimp := false) (disch := first | omega | (simp only [LENs] <;> omega) | fail) only [L.object_lines_end, go_sem, reduceIte, reduceCtorEq, qn0, qn1, qn2, qn3, qn4, qn5, qn6, qn7, qn8, qi0, qi1, qi2, qi3, qi4, qi5, qi6, qi7, qi8, qi9, qi10, h2, Int.natCast_add, Int.cast_ofNat_Int]
    · rw [g] at hp
      have := preB_app [10] m0
      rw [List.singleton_append] at this
      rw [this] at hp
      cases hp
theorem rline_l0 {t w : List UInt8} (ht : t.length ≤ 1000000000) (hw : w.length ≤ 100) : ∀ (m i : Nat), i + m = t.length → w.length + 1 ≤ i → ∃ v r ok, v.length ≤ t.length ∧ r.length ≤ t.length ∧
    X E [.tmp 4, .tmp 5, .tmp 6] (.c L.ref07_line.x0 :: .lp [0, 7, 8] L.ref07_line.x0 :: .blk 0 :: [.c L.ref07_line.r0]) ⟨[(0, .str t), (7, .int .i64 ((w.length : Int) + 1)), (8, .int .i64 i)], []⟩ = some (.tup [.str v, .str r, .bool ok], []) ∧ (ok = true → r.length < t.length) ∧
    ∀ v0 r0, t = w ++ 32 :: (v0 ++ 10 :: r0) → (10 : UInt8) ∉ v0 → i ≤ w.length + 1 + v0.length → v = v0 ∧ r = r0 ∧ ok = true := by
  intro m
  induction m with
  | zero =>
    intro i hi h0
    refine ⟨[], [], false, by simp, by simp, ?_, fun h => (by cases h), fun v0 r0 g1 g2 g3 => ?_⟩
    · rw [X_in L.ref07_line.x0.eq_1]
      obtain rfl : i = t.length := by omega
      simp (dsimp := false) (disch := first | omega | (simp only [LENs] <;> omega) | fail) only [go_sem, reduceIte, reduceCtorEq, qn0, qn1, qn2, qn3, qn4, qn5, qn6, qn7, qn8, qi0, qi1, qi2, qi3, qi4, qi5, qi6, qi7, qi8, qi9, qi10, L.ref07_line.r0]
    · have := congrArg List.length g1
      simp only [List.length_append, List.length_cons] at this
      omega
  | succ m ih =>
    intro i hi h0
    have hlt : i < t.length := by omega
    have e1 : ((w.length : Int) + 1).toNat = w.length + 1 := by omega
    have e2 : ((i : Int) + 1).toNat = i + 1 := by omega
    by_cases hc : t.getD i 0 = 10
    · refine ⟨sub t (w.length + 1) (i - (w.length + 1)), t.drop (i + 1), true, by unfold sub; rw [List.length_take, List.length_drop]; omega, by rw [List.length_drop]; omega, ?_, fun _ => by rw [List.length_drop]; omega, fun v0 r0 g1 g2 g3 => ?_⟩
      · rw [X_in L.ref07_line.x0.eq_1]
        have hb : (bat t i == (10 : Int)) = true := by rw [bat_nat, hc]; rfl
        simp (dsimp := false) (disch := first | omega | (simp only [LENs] <;> omega) | fail) only [go_sem, reduceIte, reduceCtorEq, qn0, qn1, qn2, qn3, qn4, qn5, qn6, qn7, qn8, qi0, qi1, qi2, qi3, qi4, qi5, qi6, qi7, qi8, qi9, qi10, sub_take, take_len, sub_drop, hb, e1, e2]
      · have hi2 : i = w.length + 1 + v0.length := by
          apply Classical.byContradiction
          intro hn
          apply g2
          have hlt2 : i - (w.length + 1) < v0.length := by omega
          have : t.getD i 0 = v0.getD (i - (w.length + 1)) 0 := by
            rw [g1]
            simp only [List.getD]
            rw [List.getElem?_append_right (by omega), show i - w.length = (i - (w.length + 1)) + 1 by omega, List.getElem?_cons_succ, List.getElem?_append_left (by omega)]
          rw [hc] at this
          rw [this, List.getD, List.getElem?_eq_getElem hlt2]
          exact List.getElem_mem hlt2
        have el : (w ++ [32] ++ v0).length = w.length + 1 + v0.length := by simp; omega
        have et : t = (w ++ [32] ++ v0) ++ 10 :: r0 := by rw [g1]; simp
        refine ⟨?_, ?_, rfl⟩
        · rw [hi2]
          unfold sub
          have el1 : (w ++ [32]).length = w.length + 1 := by simp
          rw [show w.length + 1 + v0.length - (w.length + 1) = v0.length by omega, ← el1, et, List.append_assoc (w ++ [32]), List.drop_left, List.take_left]
        · rw [hi2, ← el, et, ← List.drop_drop, List.drop_left]
          rfl
    · obtain ⟨v, r, ok, h1, h2, h3, hrl, h4⟩ := ih (i + 1) (by omega) (by omega)
      simp only [Int.natCast_add, Int.cast_ofNat_Int] at h3
      refine ⟨v, r, ok, h1, h2, ?_, hrl, fun v0 r0 g1 g2 g3 => h4 v0 r0 g1 g2 ?_⟩
      · rw [X_in L.ref07_line.x0.eq_1, ← h3]
        have hb : (bat t i == (10 : Int)) = false := beq_f (fun h => hc (UInt8.toNat_inj.1 (by rw [bat_nat] at h; have t10 : (10 : UInt8).toNat = 10 := rfl; omega)))
        simp (dsimp := false) (disch := first | omega | (simp only [LENs] <;> omega) | fail) only [go_sem, reduceIte, reduceCtorEq, qn0, qn1, qn2, qn3, qn4, qn5, qn6, qn7, qn8, qi0, qi1, qi2, qi3, qi4, qi5, qi6, qi7, qi8, qi9, qi10, hb]
      · apply Classical.byContradiction
        intro hn
        apply hc
        have hi2 : i = w.length + 1 + v0.length := by omega
        have el : (w ++ [32] ++ v0).length = w.length + 1 + v0.length := by simp; omega
        rw [hi2, ← el, show t = (w ++ [32] ++ v0) ++ 10 :: r0 by rw [g1]; simp]
        simp [List.getD]
theorem rline_ex {t w : List UInt8} (ht : t.length ≤ 1000000000) (hw : w.length ≤ 100) : ∃ v r ok, v.length ≤ t.length ∧ r.length ≤ t.length ∧
    S E F.ref07_line [.str t, .str w] [] = some (.tup [.str v, .str r, .bool ok], []) ∧ (ok = true → preB t (w ++ [32]) = true ∧ r.length < t.length) ∧
    ∀ v0 r0, t = w ++ 32 :: (v0 ++ 10 :: r0) → (10 : UInt8) ∉ v0 → v = v0 ∧ r = r0 ∧ ok = true := by
  have e1 : ((w.length : Int) + 1).toNat = w.length + 1 := by omega
  rw [S_of fn_ref07_line rfl rfl]
  by_cases hl : t.length < w.length + 1
  · refine ⟨[], [], false, by simp, by simp, ?_, fun h => (by cases h), fun v0 r0 g1 g2 => ?_⟩
    · simp (dsimp := false) (disch := first | omega | (simp only [LENs] <;> omega) | fail) only [L.ref07_line, go_sem, reduceIte, reduceCtorEq, qn0, qn1, qn2, qn3, qn4, qn5, qn6, qn7, qn8, qi0, qi1, qi2, qi3, qi4, qi5, qi6, qi7, qi8, qi9, qi10, hl]
    · have := congrArg List.length g1
      simp only [List.length_append, List.length_cons] at this
      omega
  · cases hp : (sub t 0 (w.length + 1) == w ++ [32]) with
    | false =>
      refine ⟨[], [], false, by simp, by simp, ?_, fun h => (by cases h), fun v0 r0 g1 g2 => ?_⟩
      · simp (dsimp := false) (disch := first | omega | (simp only [LENs] <;> omega) | fail) only [L.ref07_line, go_sem, reduceIte, reduceCtorEq, qn0, qn1, qn2, qn3, qn4, qn5, qn6, qn7, qn8, qi0, qi1, qi2, qi3, qi4, qi5, qi6, qi7, qi8, qi9, qi10, hl, e1, Nat.sub_zero, hp, Bool.not_false]
      · have el1 : (w ++ [32]).length = w.length + 1 := by simp
        unfold sub at hp
        rw [List.drop_zero, ← el1, show t = (w ++ [32]) ++ (v0 ++ 10 :: r0) by rw [g1]; simp, List.take_left] at hp
        simp at hp
    | true =>
      obtain ⟨v, r, ok, h1, h2, h3, hrl, h4⟩ := rline_l0 ht hw (t.length - (w.length + 1)) (w.length + 1) (by omega) (Nat.le_refl _)
      simp only [Int.natCast_add, Int.cast_ofNat_Int] at h3
      refine ⟨v, r, ok, h1, h2, ?_, fun h => ⟨?_, hrl h⟩, fun v0 r0 g1 g2 => h4 v0 r0 g1 g2 (by omega)⟩
      rotate_left
      · unfold preB
        unfold sub at hp
        rw [List.drop_zero] at hp
        rw [List.length_append, List.length_singleton, hp, decide_eq_true (by omega)]
        rfl
      simp (dsimp := false) (disch := first | omega | (simp only [LENs] <;> omega) | fail) only [L.ref07_line, go_sem, reduceIte, reduceCtorEq, qn0, qn1, qn2, qn3, qn4, qn5, qn6, qn7, qn8, qi0, qi1, qi2, qi3, qi4, qi5, qi6, qi7, qi8, qi9, qi10, hl, e1, Nat.sub_zero, hp, Bool.not_true, h3]
end Cod

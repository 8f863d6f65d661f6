/- The reference's ParseIdent. -/
import Derived.Test.YtmijmageicjfnaaDoorXTxt2
import Derived.Test.YtmijmageicjfnaaDoorXTxt1
set_option linter.unusedSimpArgs false
set_option linter.unusedVariables false
namespace Cod
open Go

end Cod

/- What the reference reads is what Put writes. -/
namespace Cod
open Go

section
variable (i : Idt)
end
end Cod

/- How entries of a tree follow one another. -/
namespace Cod
open Go

/-- An entry of a tree. -/
structure Ety where
  mode : Int
  name : List UInt8
  id : List UInt8
  hid : id.length = 32
def Ety.cells (e : Ety) : List AV := .int .i64 e.mode :: .str e.name :: ofBytes e.id
theorem ety_len (e : Ety) : e.cells.length = 34 := by simp [Ety.cells, ofBytes_length, e.hid]
theorem ety_flats (e : Ety) : flats e.cells = true := by simp [Ety.cells, flats, flat, flats_ofBytes]
theorem ety_rens (f : Site → Nat → Option (Site × Nat)) (e : Ety) : rens f e.cells = e.cells := rens_flats _ (ety_flats e)
theorem ety_refs (e : Ety) : refsOfs e.cells = [] := by simp [Ety.cells, refsOfs, refsOf, refsOfs_ofBytes]
theorem ety_hards (e : Ety) : hards e.cells = true := by simp [Ety.cells, hards, hard, hards_ofBytes]
theorem ety_leads (e : Ety) : leadss e.cells = false := by simp [Ety.cells, leadss, leads, leadss_ofBytes]
theorem ety_sub (e : Ety) : sub e.cells 0 34 = e.cells := sub_full (by rw [ety_len]; exact Nat.le_refl _)
theorem ety_0 (e : Ety) : e.cells[0]? = some (.int .i64 e.mode) := rfl
theorem ety_1 (e : Ety) : e.cells[1]? = some (.str e.name) := rfl
attribute [go_sem] ety_len ety_flats ety_rens ety_refs ety_hards ety_leads ety_sub ety_0 ety_1
end Cod

/- Texts in order: laws of what is less. -/
namespace Cod
open Go
end Cod

/- The laws of layer 6: awake, NamesIdents, NamesBack, NamesOrder. -/
namespace Cod
open Go

def wI : Idt := ⟨[65, 32, 66], [97, 64, 98], 5, -90⟩
theorem wI_ok : identOK wI = true := by decide
theorem wI_put : putI wI = [65, 32, 66, 32, 60, 97, 64, 98, 62, 32, 53, 32, 45, 48, 49, 51, 48] := by
  unfold putI
  have : Lib.itoa wI.time = [53] := by
    show Lib.itoa 5 = _
    rw [show (5 : Int) = ((5 : Nat) : Int) from rfl, Lib.itoa_nonneg, Lib.decDigits_one (by omega)]; rfl
  rw [this]
  rfl
theorem go_awake : S E F.law06_awake [] [] = some (.bool true, []) := by
  have h1 := go_putIdent (i := wI)
  unfold putV at h1
  rw [if_pos wI_ok, wI_put] at h1
  have h2 := go_parse_put wI_ok
  rw [wI_put] at h2
  simp only [Idt.cells, wI] at h1 h2
  have h3 : S E F.names_Path [.str [97, 47, 98, 46, 99]] [] = some (.bool true, []) := by rw [S_path]; rfl
  have h4 : S E F.names_Path [.str [97, 47, 47, 98]] [] = some (.bool false, []) := by rw [S_path]; rfl
  rw [S_of fn_law06_awake rfl rfl]
  simp (dsimp := false) (disch := first | omega | (simp only [strs_length, List.length_set, List.length_replicate, words_length, ofBytes_length, List.length_append, List.length_cons, List.length_nil, List.length_take, List.length_drop, two_length] <;> omega) | fail) only [L.law06_awake, go_sem, reduceIte, reduceCtorEq, Nat.reduceEqDiff, Nat.reduceAdd, Nat.reduceSub, Nat.reduceMul, Nat.reduceDiv, Nat.reduceMod, Nat.reduceBEq, Nat.reduceLeDiff, Nat.reduceLT, Int.reduceEq, Int.reduceNe, Int.reduceLT, Int.reduceLE, Int.reduceBEq, Int.reduceBNe, Int.reduceToNat, Int.reduceAdd, Int.reduceSub, Int.reduceMul, Int.reduceNeg, h1, h2, h3, h4, Bool.not_false, beq_self_eq_true]
end Cod

/- Paths, the reference's. -/
namespace Cod
open Go

theorem parts_ne (s : List UInt8) : ∃ p r, parts s = p :: r := by
  cases s with
  | nil => exact ⟨[], [], rfl⟩
  | cons c t =>
    unfold parts
    by_cases h : c = 47
    · rw [if_pos h]; exact ⟨_, _, rfl⟩
    · rw [if_neg h]
      split <;> exact ⟨_, _, rfl⟩
theorem drop_get0 {s : List UInt8} {i : Nat} (h : i < s.length) : s.drop i = s.getD i 0 :: s.drop (i + 1) := by
  rw [List.getD_eq_getElem?_getD, List.getElem?_eq_getElem h, Option.getD_some]
  exact List.drop_eq_getElem_cons h
theorem sub_snoc {s : List UInt8} {a i : Nat} (h1 : a ≤ i) (h2 : i < s.length) : sub s a (i + 1 - a) = sub s a (i - a) ++ [s.getD i 0] := by
  unfold sub
  rw [show i + 1 - a = (i - a) + 1 by omega, List.take_succ_eq_append_getElem (by rw [List.length_drop]; omega)]
  congr 2
  rw [List.getElem_drop, List.getD_eq_getElem?_getD, List.getElem?_eq_getElem h2, Option.getD_some]
  congr 1; omega
theorem partsI_eq (s : List UInt8) : ∀ (m i a : Nat) (acc : List (List UInt8)), i + m = s.length + 1 → i ≤ s.length → a ≤ i → ∀ p r, parts (s.drop i) = p :: r → partsI s m i a acc = acc ++ (sub s a (i - a) ++ p) :: r := by
  intro m
  induction m with
  | zero => intro i a acc h1 h2; omega
  | succ m ih =>
    intro i a acc h1 h2 h3 p r hp
    by_cases hi : i = s.length
    · rw [hi, List.drop_length] at hp
      simp only [parts, List.cons.injEq] at hp
      obtain ⟨rfl, rfl⟩ := hp
      have hm : m = 0 := by omega
      subst hm
      rw [partsI, if_pos (.inl hi), partsI, List.append_nil]
    · have hlt : i < s.length := by omega
      rw [drop_get0 hlt] at hp
      obtain ⟨p', r', hp'⟩ := parts_ne (s.drop (i + 1))
      by_cases h47 : s.getD i 0 = 47
      · rw [parts, if_pos h47, hp'] at hp
        simp only [List.cons.injEq] at hp
        obtain ⟨rfl, rfl⟩ := hp
        rw [partsI, if_pos (.inr h47), ih (i + 1) (i + 1) _ (by omega) (by omega) (Nat.le_refl _) p' r' hp']
        simp [sub]
      · rw [parts, if_neg h47, hp'] at hp
        simp only [List.cons.injEq] at hp
        obtain ⟨rfl, rfl⟩ := hp
        have hno : ¬ (i = s.length ∨ s.getD i 0 = 47) := by
          rintro (h | h)
          · exact hi h
          · exact h47 h
        rw [partsI, if_neg hno, ih (i + 1) a acc (by omega) (by omega) (by omega) p' r' hp', sub_snoc h3 hlt]
        simp
theorem partsI_parts (s : List UInt8) : partsI s (s.length + 1) 0 0 [] = parts s := by
  obtain ⟨p, r, hp⟩ := parts_ne s
  rw [partsI_eq s (s.length + 1) 0 0 [] (by omega) (by omega) (by omega) p r (by simpa using hp), hp]
  simp [sub]

theorem parts_length (s : List UInt8) : (parts s).length ≤ s.length + 1 := by
  induction s with
  | nil => simp [parts]
  | cons c t ih =>
    unfold parts
    split
    · simp; omega
    · split
      · rename_i p r hp; rw [hp] at ih; simp at ih ⊢; omega
      · simp
theorem parts_mem (s : List UInt8) : ∀ p ∈ parts s, p.length ≤ s.length := by
  induction s with
  | nil => simp [parts]
  | cons c t ih =>
    intro p hp
    unfold parts at hp
    split at hp
    · rcases List.mem_cons.1 hp with rfl | hp
      · simp
      · have := ih p hp; simp; omega
    · split at hp
      · rename_i q r hq
        rw [hq] at ih
        rcases List.mem_cons.1 hp with rfl | hp
        · have := ih q (by simp); simp; omega
        · have := ih p (by simp [hp]); simp; omega
      · rcases List.mem_cons.1 hp with rfl | hp
        · simp
        · simp at hp

theorem go_rparts {s : List UInt8} (hs : s.length ≤ 1000000000) : S E F.ref06_Parts [.str s] [] = some (.buf (.r 0) 0 0 (parts s).length 1, [(.r 0, ⟨0, true, true, false, strs (parts s)⟩)]) := by
  obtain ⟨a', i', h⟩ := parts_l0 hs [.c L.ref06_Parts.r0] (s.length + 1) 0 0 [] (by omega) (by omega) (by simp)
  rw [partsI_parts] at h
  simp only [Int.cast_ofNat_Int, List.length_nil, show strs [] = [] from rfl] at h
  rw [S_of fn_ref06_Parts rfl rfl]
  simp (dsimp := false) (disch := first | omega | (simp only [strs_length, List.length_set, List.length_replicate, words_length, ofBytes_length, List.length_append, List.length_cons, List.length_nil, List.length_take, List.length_drop] <;> omega) | fail) only [L.ref06_Parts, go_sem, reduceIte, reduceCtorEq, Nat.reduceEqDiff, Nat.reduceAdd, Nat.reduceSub, Nat.reduceMul, Nat.reduceDiv, Nat.reduceMod, Nat.reduceBEq, Nat.reduceLeDiff, Nat.reduceLT, Int.reduceEq, Int.reduceNe, Int.reduceLT, Int.reduceLE, Int.reduceBEq, Int.reduceBNe, Int.reduceToNat, Int.reduceAdd, Int.reduceSub, Int.reduceMul, Int.reduceNeg]
  rw [h]
  simp (dsimp := false) (disch := first | omega | (simp only [strs_length, List.length_set, List.length_replicate, words_length, ofBytes_length, List.length_append, List.length_cons, List.length_nil, List.length_take, List.length_drop] <;> omega) | fail) only [L.ref06_Parts.r0, go_sem, reduceIte, reduceCtorEq, Nat.reduceEqDiff, Nat.reduceAdd, Nat.reduceSub, Nat.reduceMul, Nat.reduceDiv, Nat.reduceMod, Nat.reduceBEq, Nat.reduceLeDiff, Nat.reduceLT, Int.reduceEq, Int.reduceNe, Int.reduceLT, Int.reduceLE, Int.reduceBEq, Int.reduceBNe, Int.reduceToNat, Int.reduceAdd, Int.reduceSub, Int.reduceMul, Int.reduceNeg, strs_length, flats_strs, hards_strs, leadss_strs, refsOfs_strs, rens_strs, strs_snoc, get_strs]

end Cod

/- References: the reference's Ref. -/
namespace Cod
open Go

def lockT : List UInt8 := [46, 108, 111, 99, 107]
def badS : List UInt8 := [126, 94, 58, 63, 42, 91, 92]
def partOK (p : List UInt8) : Bool := p != [] && (p.getD 0 0 != 46 && (!endsB p [46] && !endsB p lockT))
def badC (b : UInt8) : Bool := decide (b.toNat ≤ 32) || (decide (127 ≤ b.toNat) || badS.contains b)
def pairB (s : List UInt8) (i : Nat) : Bool := decide (0 < i) && (sub s (i - 1) 2 == [46, 46] || sub s (i - 1) 2 == [64, 123])
def headT : List UInt8 := [72, 69, 65, 68]
def refsT : List UInt8 := [114, 101, 102, 115]
def all2 (l : List (List UInt8)) : Nat → Nat → Bool
  | 0, _ => true
  | m + 1, i => partOK (l.getD i []) && all2 l m (i + 1)
theorem all2_all (l : List (List UInt8)) : ∀ m i, i + m = l.length → all2 l m i = (l.drop i).all partOK := by
  intro m
  induction m with
  | zero => intro i h; rw [List.drop_eq_nil_of_le (by omega)]; rfl
  | succ m ih =>
    intro i h
    have hlt : i < l.length := by omega
    rw [all2, ih (i + 1) (by omega), List.drop_eq_getElem_cons hlt, List.all_cons]
    congr 2
    simp [hlt]
def chk (s : List UInt8) : Nat → Nat → Bool
  | 0, _ => true
  | m + 1, i => (!badC (s.getD i 0) && !pairB s i) && chk s m (i + 1)
def refOK (s : List UInt8) : Bool := s == headT || (decide (3 ≤ (parts s).length) && ((parts s).getD 0 [] == refsT && (decide (s.length ≤ 200) && ((parts s).all partOK && chk s s.length 0))))
end Cod

/- References: names.Ref, and the modes. -/
namespace Cod
open Go

theorem go_nindex (s : List UInt8) (i : Nat) : S E F.strings_IndexByte [.str badS, .int .u8 (bat s i)] [] = some (.int .i64 (indexB badS (s.getD i 0)), []) := by
  have h0 : S E F.stringslite_IndexByte [.str badS, .int .u8 (bat s i)] [] = some (.int .i64 (indexB badS (s.getD i 0)), []) := by
    have h1 : S E F.bytealg_IndexByteString [.str badS, .int .u8 (bat s i)] [] = some (.int .i64 (indexB badS (s.getD i 0)), []) := by
      have := S_ext ext0 (S_indexS (l := badS) (c := bat s i))
      rw [show byt (bat s i) = s.getD i 0 by unfold byt bat; simp] at this
      exact this
    rw [S_of fn_stringslite_IndexByte rfl rfl]
    simp (dsimp := false) (disch := first | omega | (simp only [strs_length, List.length_set, List.length_replicate, words_length, ofBytes_length, List.length_append, List.length_cons, List.length_nil, List.length_take, List.length_drop] <;> omega) | fail) only [L.stringslite_IndexByte, go_sem, reduceIte, reduceCtorEq, Nat.reduceEqDiff, Nat.reduceAdd, Nat.reduceSub, Nat.reduceMul, Nat.reduceDiv, Nat.reduceMod, Nat.reduceBEq, Nat.reduceLeDiff, Nat.reduceLT, Int.reduceEq, Int.reduceNe, Int.reduceLT, Int.reduceLE, Int.reduceBEq, Int.reduceBNe, Int.reduceToNat, Int.reduceAdd, Int.reduceSub, Int.reduceMul, Int.reduceNeg, h1]
  rw [S_of fn_strings_IndexByte rfl rfl]
  simp (dsimp := false) (disch := first | omega | (simp only [strs_length, List.length_set, List.length_replicate, words_length, ofBytes_length, List.length_append, List.length_cons, List.length_nil, List.length_take, List.length_drop] <;> omega) | fail) only [L.strings_IndexByte, go_sem, reduceIte, reduceCtorEq, Nat.reduceEqDiff, Nat.reduceAdd, Nat.reduceSub, Nat.reduceMul, Nat.reduceDiv, Nat.reduceMod, Nat.reduceBEq, Nat.reduceLeDiff, Nat.reduceLT, Int.reduceEq, Int.reduceNe, Int.reduceLT, Int.reduceLE, Int.reduceBEq, Int.reduceBNe, Int.reduceToNat, Int.reduceAdd, Int.reduceSub, Int.reduceMul, Int.reduceNeg, h0]
theorem index_ge (b : UInt8) : decide (0 ≤ indexB badS b) = badS.contains b := by
  unfold indexB
  cases hc : badS.contains b with
  | true => rw [if_pos (by simpa using hc)]; simp
  | false => rw [if_neg (by simpa using hc)]; rfl
def chkC (s : List UInt8) : Nat → Nat → Bool
  | 0, _ => true
  | m + 1, i => !badC (s.getD i 0) && chkC s m (i + 1)
theorem nref_l0 {s : List UInt8} (hs : s.length ≤ 1000000000) (k : List It) : ∀ (m i : Nat), i + m = s.length →
    X E [.tmp 2] (.c L.names_Ref.x0 :: .lp [0, 21, 22] L.names_Ref.x0 :: .blk 0 :: k) ⟨[(0, .str s), (21, .int .i64 s.length), (22, .int .i64 i)], []⟩ =
    if chkC s m i = true then X E [.tmp 2] k ⟨[(0, .str s), (21, .int .i64 s.length), (22, .int .i64 s.length), (23, .bool false)], []⟩ else some (.bool false, []) := by
  intro m
  induction m with
  | zero =>
    intro i h
    obtain rfl : i = s.length := by omega
    rw [X_in L.names_Ref.x0.eq_1, chkC]
    simp (dsimp := false) (disch := first | omega | (simp only [strs_length, List.length_set, List.length_replicate, words_length, ofBytes_length, List.length_append, List.length_cons, List.length_nil, List.length_take, List.length_drop] <;> omega) | fail) only [go_sem, reduceIte, reduceCtorEq, Nat.reduceEqDiff, Nat.reduceAdd, Nat.reduceSub, Nat.reduceMul, Nat.reduceDiv, Nat.reduceMod, Nat.reduceBEq, Nat.reduceLeDiff, Nat.reduceLT, Int.reduceEq, Int.reduceNe, Int.reduceLT, Int.reduceLE, Int.reduceBEq, Int.reduceBNe, Int.reduceToNat, Int.reduceAdd, Int.reduceSub, Int.reduceMul, Int.reduceNeg]
  | succ m ih =>
    intro i h
    have := ih (i + 1) (by omega)
    simp only [Int.natCast_add, Int.cast_ofNat_Int] at this
    have hp : i < s.length := by omega
    have hh := go_nindex s i
    unfold badS at hh
    have hge := index_ge (s.getD i 0)
    unfold badS at hge
    have hbc : badC (s.getD i 0) = (decide (bat s i ≤ 32) || (decide (127 ≤ bat s i) || badS.contains (s.getD i 0))) := by
      unfold badC bat
      rw [show decide ((s.getD i 0).toNat ≤ 32) = decide (((s.getD i 0).toNat : Int) ≤ 32) from decide_eq_decide.2 (by omega), show decide (127 ≤ (s.getD i 0).toNat) = decide (127 ≤ ((s.getD i 0).toNat : Int)) from decide_eq_decide.2 (by omega)]
    unfold badS at hbc
    rw [X_in L.names_Ref.x0.eq_1, chkC]
    by_cases c1 : bat s i ≤ 32
    · rw [hbc, decide_eq_true c1]
      simp (dsimp := false) (disch := first | omega | (simp only [strs_length, List.length_set, List.length_replicate, words_length, ofBytes_length, List.length_append, List.length_cons, List.length_nil, List.length_take, List.length_drop] <;> omega) | fail) only [go_sem, reduceIte, reduceCtorEq, Nat.reduceEqDiff, Nat.reduceAdd, Nat.reduceSub, Nat.reduceMul, Nat.reduceDiv, Nat.reduceMod, Nat.reduceBEq, Nat.reduceLeDiff, Nat.reduceLT, Int.reduceEq, Int.reduceNe, Int.reduceLT, Int.reduceLE, Int.reduceBEq, Int.reduceBNe, Int.reduceToNat, Int.reduceAdd, Int.reduceSub, Int.reduceMul, Int.reduceNeg, hp, c1, Bool.true_or, Bool.not_true, Bool.false_and, Bool.false_eq_true]
    · by_cases c2 : 127 ≤ bat s i
      · rw [hbc, decide_eq_false c1, decide_eq_true c2]
        simp (dsimp := false) (disch := first | omega | (simp only [strs_length, List.length_set, List.length_replicate, words_length, ofBytes_length, List.length_append, List.length_cons, List.length_nil, List.length_take, List.length_drop] <;> omega) | fail) only [go_sem, reduceIte, reduceCtorEq, Nat.reduceEqDiff, Nat.reduceAdd, Nat.reduceSub, Nat.reduceMul, Nat.reduceDiv, Nat.reduceMod, Nat.reduceBEq, Nat.reduceLeDiff, Nat.reduceLT, Int.reduceEq, Int.reduceNe, Int.reduceLT, Int.reduceLE, Int.reduceBEq, Int.reduceBNe, Int.reduceToNat, Int.reduceAdd, Int.reduceSub, Int.reduceMul, Int.reduceNeg, hp, c1, c2, Bool.true_or, Bool.false_or, Bool.not_true, Bool.false_and, Bool.false_eq_true]
      · rw [hbc, decide_eq_false c1, decide_eq_false c2]
        rw [← hge]
        by_cases c3 : 0 ≤ indexB [126, 94, 58, 63, 42, 91, 92] (s.getD i 0)
        · simp (dsimp := false) (disch := first | omega | (simp only [strs_length, List.length_set, List.length_replicate, words_length, ofBytes_length, List.length_append, List.length_cons, List.length_nil, List.length_take, List.length_drop] <;> omega) | fail) only [go_sem, reduceIte, reduceCtorEq, Nat.reduceEqDiff, Nat.reduceAdd, Nat.reduceSub, Nat.reduceMul, Nat.reduceDiv, Nat.reduceMod, Nat.reduceBEq, Nat.reduceLeDiff, Nat.reduceLT, Int.reduceEq, Int.reduceNe, Int.reduceLT, Int.reduceLE, Int.reduceBEq, Int.reduceBNe, Int.reduceToNat, Int.reduceAdd, Int.reduceSub, Int.reduceMul, Int.reduceNeg, hp, c1, c2, hh, c3, decide_true, Bool.true_or, Bool.false_or, Bool.not_true, Bool.false_and, Bool.false_eq_true]
        · simp (dsimp := false) (disch := first | omega | (simp only [strs_length, List.length_set, List.length_replicate, words_length, ofBytes_length, List.length_append, List.length_cons, List.length_nil, List.length_take, List.length_drop] <;> omega) | fail) only [go_sem, reduceIte, reduceCtorEq, Nat.reduceEqDiff, Nat.reduceAdd, Nat.reduceSub, Nat.reduceMul, Nat.reduceDiv, Nat.reduceMod, Nat.reduceBEq, Nat.reduceLeDiff, Nat.reduceLT, Int.reduceEq, Int.reduceNe, Int.reduceLT, Int.reduceLE, Int.reduceBEq, Int.reduceBNe, Int.reduceToNat, Int.reduceAdd, Int.reduceSub, Int.reduceMul, Int.reduceNeg, hp, c1, c2, hh, c3, this, decide_false, Bool.true_or, Bool.false_or, Bool.not_false, Bool.true_and, Bool.false_and, Bool.false_eq_true]
theorem nref_l1 {s : List UInt8} (hs : s.length ≤ 1000000000) (k : List It) : ∀ (m i : Nat), i + m = (parts s).length →
    X E [.tmp 2] (.c L.names_Ref.x1 :: .lp [54, 55, 56] L.names_Ref.x1 :: .blk 2 :: k) ⟨[(54, .buf (.s 1000000 0) 0 0 (parts s).length 1), (55, .int .i64 (parts s).length), (56, .int .i64 i)], [(.s 1000000 0, ⟨0, true, true, false, strs (parts s)⟩)]⟩ =
    if all2 (parts s) m i = true then X E [.tmp 2] k ⟨[(54, .buf (.s 1000000 0) 0 0 (parts s).length 1), (55, .int .i64 (parts s).length), (56, .int .i64 (parts s).length), (57, .bool false)], [(.s 1000000 0, ⟨0, true, true, false, strs (parts s)⟩)]⟩ else some (.bool false, []) := by
  have hlen := parts_length s
  intro m
  induction m with
  | zero =>
    intro i h
    obtain rfl : i = (parts s).length := by omega
    rw [X_in L.names_Ref.x1.eq_1, all2]
    simp (dsimp := false) (disch := first | omega | (simp only [strs_length, List.length_set, List.length_replicate, words_length, ofBytes_length, List.length_append, List.length_cons, List.length_nil, List.length_take, List.length_drop] <;> omega) | fail) only [go_sem, reduceIte, reduceCtorEq, Nat.reduceEqDiff, Nat.reduceAdd, Nat.reduceSub, Nat.reduceMul, Nat.reduceDiv, Nat.reduceMod, Nat.reduceBEq, Nat.reduceLeDiff, Nat.reduceLT, Int.reduceEq, Int.reduceNe, Int.reduceLT, Int.reduceLE, Int.reduceBEq, Int.reduceBNe, Int.reduceToNat, Int.reduceAdd, Int.reduceSub, Int.reduceMul, Int.reduceNeg, strs_length, flats_strs, hards_strs, leadss_strs, refsOfs_strs, rens_strs, strs_snoc, get_strs]
  | succ m ih =>
    intro i h
    have := ih (i + 1) (by omega)
    simp only [Int.natCast_add, Int.cast_ofNat_Int] at this
    have hmem : (parts s).getD i [] ∈ parts s := by
      rw [List.getD_eq_getElem?_getD, List.getElem?_eq_getElem (by omega), Option.getD_some]
      exact List.getElem_mem _
    have hpl := parts_mem s _ hmem
    generalize hq : (parts s).getD i [] = p at *
    have h1 := go_suffix (s := p) (t := [46]) (by omega) (by decide)
    have h2 := go_suffix (s := p) (t := lockT) (by omega) (by decide)
    unfold lockT at h2
    rw [X_in L.names_Ref.x1.eq_1, all2, hq]
    unfold partOK
    by_cases h0 : p = []
    · subst h0
      simp (dsimp := false) (disch := first | omega | (simp only [strs_length, List.length_set, List.length_replicate, words_length, ofBytes_length, List.length_append, List.length_cons, List.length_nil, List.length_take, List.length_drop] <;> omega) | fail) only [go_sem, reduceIte, reduceCtorEq, Nat.reduceEqDiff, Nat.reduceAdd, Nat.reduceSub, Nat.reduceMul, Nat.reduceDiv, Nat.reduceMod, Nat.reduceBEq, Nat.reduceLeDiff, Nat.reduceLT, Int.reduceEq, Int.reduceNe, Int.reduceLT, Int.reduceLE, Int.reduceBEq, Int.reduceBNe, Int.reduceToNat, Int.reduceAdd, Int.reduceSub, Int.reduceMul, Int.reduceNeg, strs_length, flats_strs, hards_strs, leadss_strs, refsOfs_strs, rens_strs, strs_snoc, get_strs, hq, beq_self_eq_true]
      simp
    · have hl : 0 < p.length := List.length_pos_iff.2 h0
      have e0 : (p == []) = false := by simp [h0]
      have e1 : (p != []) = true := by simp [h0]
      by_cases hb : p.getD 0 0 = 46
      · have b1 : (bat p 0 == 46) = true := beq_t (by unfold bat; rw [hb]; rfl)
        have b2 : (p.getD 0 0 != 46) = false := by rw [hb]; rfl
        simp (dsimp := false) (disch := first | omega | (simp only [strs_length, List.length_set, List.length_replicate, words_length, ofBytes_length, List.length_append, List.length_cons, List.length_nil, List.length_take, List.length_drop] <;> omega) | fail) only [go_sem, reduceIte, reduceCtorEq, Nat.reduceEqDiff, Nat.reduceAdd, Nat.reduceSub, Nat.reduceMul, Nat.reduceDiv, Nat.reduceMod, Nat.reduceBEq, Nat.reduceLeDiff, Nat.reduceLT, Int.reduceEq, Int.reduceNe, Int.reduceLT, Int.reduceLE, Int.reduceBEq, Int.reduceBNe, Int.reduceToNat, Int.reduceAdd, Int.reduceSub, Int.reduceMul, Int.reduceNeg, strs_length, flats_strs, hards_strs, leadss_strs, refsOfs_strs, rens_strs, strs_snoc, get_strs, hq, e0, e1, b1, b2, Bool.false_and, Bool.and_false, Bool.not_false, Bool.false_eq_true]
      · have b1 : (bat p 0 == 46) = false := beq_f (fun h => hb (UInt8.toNat_inj.1 (by unfold bat at h; show (p.getD 0 0).toNat = 46; omega)))
        have b2 : (p.getD 0 0 != 46) = true := bne_iff_ne.2 hb
        unfold lockT
        cases c1 : endsB p [46] <;> cases c2 : endsB p [46, 108, 111, 99, 107] <;> simp (dsimp := false) (disch := first | omega | (simp only [strs_length, List.length_set, List.length_replicate, words_length, ofBytes_length, List.length_append, List.length_cons, List.length_nil, List.length_take, List.length_drop] <;> omega) | fail) only [go_sem, reduceIte, reduceCtorEq, Nat.reduceEqDiff, Nat.reduceAdd, Nat.reduceSub, Nat.reduceMul, Nat.reduceDiv, Nat.reduceMod, Nat.reduceBEq, Nat.reduceLeDiff, Nat.reduceLT, Int.reduceEq, Int.reduceNe, Int.reduceLT, Int.reduceLE, Int.reduceBEq, Int.reduceBNe, Int.reduceToNat, Int.reduceAdd, Int.reduceSub, Int.reduceMul, Int.reduceNeg, strs_length, flats_strs, hards_strs, leadss_strs, refsOfs_strs, rens_strs, strs_snoc, get_strs, hq, e0, e1, b1, b2, h1, h2, c1, c2, this, Bool.true_and, Bool.false_and, Bool.not_true, Bool.not_false, Bool.and_true, Bool.and_false, Bool.false_eq_true]
end Cod

/- names.Ref is the reference's; the modes. -/
namespace Cod
open Go

def pairFree (s : List UInt8) : Nat → Nat → Bool
  | 0, _ => true
  | m + 1, i => !pairB s i && pairFree s m (i + 1)
theorem chk_eq (s : List UInt8) : ∀ m i, chk s m i = (chkC s m i && pairFree s m i) := by
  intro m
  induction m with
  | zero => intro i; rfl
  | succ m ih =>
    intro i
    rw [chk, chkC, pairFree, ih]
    cases badC (s.getD i 0) <;> cases pairB s i <;> cases chkC s m (i + 1) <;> cases pairFree s m (i + 1) <;> rfl
theorem pairFree_iff (s : List UInt8) : ∀ m i, pairFree s m i = true ↔ ∀ j, i ≤ j → j < i + m → pairB s j = false := by
  intro m
  induction m with
  | zero => intro i; simp only [pairFree, true_iff]; intro j h1 h2; omega
  | succ m ih =>
    intro i
    rw [pairFree, Bool.and_eq_true, ih, Bool.not_eq_true']
    constructor
    · rintro ⟨h1, h2⟩ j h3 h4
      by_cases he : j = i
      · rw [he]; exact h1
      · exact h2 j (by omega) (by omega)
    · intro h
      exact ⟨h i (Nat.le_refl _) (by omega), fun j h1 h2 => h j (by omega) (by omega)⟩
theorem contains2 (s t : List UInt8) (ht : t.length = 2) : Lib.contains s t = true ↔ ∃ j, j + 2 ≤ s.length ∧ sub s j 2 = t := by
  unfold Lib.contains
  rw [decide_eq_true_eq]
  rcases Lib.index_spec s t with ⟨h1, h2⟩ | ⟨i, h1, h2, h3, _⟩
  · rw [h1]
    constructor
    · intro h; omega
    · rintro ⟨j, hj, hs⟩
      have := h2 j (by omega)
      rw [Lib.occAt_iff_take s t j (by omega), ht] at this
      unfold sub at hs
      rw [hs] at this
      simp at this
  · rw [h1]
    constructor
    · intro _
      have hr := Lib.occAt_room h3
      have hj : i + 2 ≤ s.length := by
        rcases hr with hr | hr
        · omega
        · rw [hr] at ht; simp at ht
      rw [Lib.occAt_iff_take s t i (by omega), ht] at h3
      exact ⟨i, hj, by unfold sub; exact eq_of_beq h3⟩
    · intro _; omega
theorem pairFree_contains (s : List UInt8) : pairFree s s.length 0 = (!Lib.contains s [46, 46] && !Lib.contains s [64, 123]) := by
  rw [Bool.eq_iff_iff, pairFree_iff, Bool.and_eq_true, Bool.not_eq_true', Bool.not_eq_true', ← Bool.not_eq_true, ← Bool.not_eq_true, contains2 _ _ rfl, contains2 _ _ rfl]
  unfold pairB
  constructor
  · intro h
    constructor
    · rintro ⟨j, h1, h2⟩
      have := h (j + 1) (by omega) (by omega)
      rw [Nat.add_sub_cancel, h2] at this
      simp at this
    · rintro ⟨j, h1, h2⟩
      have := h (j + 1) (by omega) (by omega)
      rw [Nat.add_sub_cancel, h2] at this
      simp at this
  · rintro ⟨h1, h2⟩ j h3 h4
    by_cases hj : 0 < j
    · have a1 : (sub s (j - 1) 2 == [46, 46]) = false := by
        rw [← Bool.not_eq_true, beq_iff_eq]; exact fun e => h1 ⟨j - 1, by omega, e⟩
      have a2 : (sub s (j - 1) 2 == [64, 123]) = false := by
        rw [← Bool.not_eq_true, beq_iff_eq]; exact fun e => h2 ⟨j - 1, by omega, e⟩
      rw [a1, a2]; simp
    · simp [hj]
theorem go_nref {s : List UInt8} (hs : s.length ≤ 1000000000) : S E F.names_Ref [.str s] [] = some (.bool (refOK s), []) := by
  have hlen := parts_length s
  have h0 := nref_l0 hs [.c L.names_Ref.r0] s.length 0 (by omega)
  have h1 := nref_l1 hs [.c L.names_Ref.r1] (parts s).length 0 (by omega)
  rw [all2_all _ _ _ (by omega)] at h1
  simp only [Int.cast_ofNat_Int, List.drop_zero] at h0 h1
  have hp := S_split (s := s) (by omega)
  have k1 := S_contains (s := s) (t := [46, 46]) (by omega)
  have k2 := S_contains (s := s) (t := [64, 123]) (by omega)
  rw [S_of fn_names_Ref rfl rfl]
  unfold refOK
  rw [chk_eq, pairFree_contains]
  by_cases e : s = headT
  · subst e
    simp (dsimp := false) (disch := first | omega | (simp only [strs_length, List.length_set, List.length_replicate, words_length, ofBytes_length, List.length_append, List.length_cons, List.length_nil, List.length_take, List.length_drop] <;> omega) | fail) only [L.names_Ref, go_sem, reduceIte, reduceCtorEq, Nat.reduceEqDiff, Nat.reduceAdd, Nat.reduceSub, Nat.reduceMul, Nat.reduceDiv, Nat.reduceMod, Nat.reduceBEq, Nat.reduceLeDiff, Nat.reduceLT, Int.reduceEq, Int.reduceNe, Int.reduceLT, Int.reduceLE, Int.reduceBEq, Int.reduceBNe, Int.reduceToNat, Int.reduceAdd, Int.reduceSub, Int.reduceMul, Int.reduceNeg, headT, beq_self_eq_true]
  · have e1 : (s == headT) = false := by simp [e]
    rw [e1]
    unfold headT at e1
    by_cases c3 : s.length ≤ 200
    · cases d1 : Lib.contains s [46, 46] with
      | true =>
        simp (dsimp := false) (disch := first | omega | (simp only [strs_length, List.length_set, List.length_replicate, words_length, ofBytes_length, List.length_append, List.length_cons, List.length_nil, List.length_take, List.length_drop] <;> omega) | fail) only [L.names_Ref, go_sem, reduceIte, reduceCtorEq, Nat.reduceEqDiff, Nat.reduceAdd, Nat.reduceSub, Nat.reduceMul, Nat.reduceDiv, Nat.reduceMod, Nat.reduceBEq, Nat.reduceLeDiff, Nat.reduceLT, Int.reduceEq, Int.reduceNe, Int.reduceLT, Int.reduceLE, Int.reduceBEq, Int.reduceBNe, Int.reduceToNat, Int.reduceAdd, Int.reduceSub, Int.reduceMul, Int.reduceNeg, strs_length, flats_strs, hards_strs, leadss_strs, refsOfs_strs, rens_strs, strs_snoc, get_strs, e1, c3, k1, d1]
      | false =>
        cases d2 : Lib.contains s [64, 123] with
        | true =>
          simp (dsimp := false) (disch := first | omega | (simp only [strs_length, List.length_set, List.length_replicate, words_length, ofBytes_length, List.length_append, List.length_cons, List.length_nil, List.length_take, List.length_drop] <;> omega) | fail) only [L.names_Ref, go_sem, reduceIte, reduceCtorEq, Nat.reduceEqDiff, Nat.reduceAdd, Nat.reduceSub, Nat.reduceMul, Nat.reduceDiv, Nat.reduceMod, Nat.reduceBEq, Nat.reduceLeDiff, Nat.reduceLT, Int.reduceEq, Int.reduceNe, Int.reduceLT, Int.reduceLE, Int.reduceBEq, Int.reduceBNe, Int.reduceToNat, Int.reduceAdd, Int.reduceSub, Int.reduceMul, Int.reduceNeg, strs_length, flats_strs, hards_strs, leadss_strs, refsOfs_strs, rens_strs, strs_snoc, get_strs, e1, c3, k1, k2, d1, d2]
        | false =>
          simp (dsimp := false) (disch := first | omega | (simp only [strs_length, List.length_set, List.length_replicate, words_length, ofBytes_length, List.length_append, List.length_cons, List.length_nil, List.length_take, List.length_drop] <;> omega) | fail) only [L.names_Ref, go_sem, reduceIte, reduceCtorEq, Nat.reduceEqDiff, Nat.reduceAdd, Nat.reduceSub, Nat.reduceMul, Nat.reduceDiv, Nat.reduceMod, Nat.reduceBEq, Nat.reduceLeDiff, Nat.reduceLT, Int.reduceEq, Int.reduceNe, Int.reduceLT, Int.reduceLE, Int.reduceBEq, Int.reduceBNe, Int.reduceToNat, Int.reduceAdd, Int.reduceSub, Int.reduceMul, Int.reduceNeg, strs_length, flats_strs, hards_strs, leadss_strs, refsOfs_strs, rens_strs, strs_snoc, get_strs, e1, c3, k1, k2, d1, d2]
          rw [h0]
          cases d3 : chkC s s.length 0 with
          | false => simp
          | true =>
            rw [if_pos rfl]
            by_cases c1 : 3 ≤ (parts s).length
            · cases c2 : (parts s).getD 0 [] == refsT with
              | false =>
                unfold refsT at c2
                simp (dsimp := false) (disch := first | omega | (simp only [strs_length, List.length_set, List.length_replicate, words_length, ofBytes_length, List.length_append, List.length_cons, List.length_nil, List.length_take, List.length_drop] <;> omega) | fail) only [L.names_Ref.r0, go_sem, reduceIte, reduceCtorEq, Nat.reduceEqDiff, Nat.reduceAdd, Nat.reduceSub, Nat.reduceMul, Nat.reduceDiv, Nat.reduceMod, Nat.reduceBEq, Nat.reduceLeDiff, Nat.reduceLT, Int.reduceEq, Int.reduceNe, Int.reduceLT, Int.reduceLE, Int.reduceBEq, Int.reduceBNe, Int.reduceToNat, Int.reduceAdd, Int.reduceSub, Int.reduceMul, Int.reduceNeg, strs_length, flats_strs, hards_strs, leadss_strs, refsOfs_strs, rens_strs, strs_snoc, get_strs, hp, c1, c2]
              | true =>
                unfold refsT at c2
                simp (dsimp := false) (disch := first | omega | (simp only [strs_length, List.length_set, List.length_replicate, words_length, ofBytes_length, List.length_append, List.length_cons, List.length_nil, List.length_take, List.length_drop] <;> omega) | fail) only [L.names_Ref.r0, go_sem, reduceIte, reduceCtorEq, Nat.reduceEqDiff, Nat.reduceAdd, Nat.reduceSub, Nat.reduceMul, Nat.reduceDiv, Nat.reduceMod, Nat.reduceBEq, Nat.reduceLeDiff, Nat.reduceLT, Int.reduceEq, Int.reduceNe, Int.reduceLT, Int.reduceLE, Int.reduceBEq, Int.reduceBNe, Int.reduceToNat, Int.reduceAdd, Int.reduceSub, Int.reduceMul, Int.reduceNeg, strs_length, flats_strs, hards_strs, leadss_strs, refsOfs_strs, rens_strs, strs_snoc, get_strs, hp, c1, c2]
                rw [h1]
                cases c4 : (parts s).all partOK with
                | false => simp
                | true =>
                  simp (dsimp := false) (disch := first | omega | (simp only [strs_length, List.length_set, List.length_replicate, words_length, ofBytes_length, List.length_append, List.length_cons, List.length_nil, List.length_take, List.length_drop] <;> omega) | fail) only [L.names_Ref.r1, go_sem, reduceIte, reduceCtorEq, Nat.reduceEqDiff, Nat.reduceAdd, Nat.reduceSub, Nat.reduceMul, Nat.reduceDiv, Nat.reduceMod, Nat.reduceBEq, Nat.reduceLeDiff, Nat.reduceLT, Int.reduceEq, Int.reduceNe, Int.reduceLT, Int.reduceLE, Int.reduceBEq, Int.reduceBNe, Int.reduceToNat, Int.reduceAdd, Int.reduceSub, Int.reduceMul, Int.reduceNeg, strs_length, flats_strs, hards_strs, leadss_strs, refsOfs_strs, rens_strs, strs_snoc, get_strs]
            · simp (dsimp := false) (disch := first | omega | (simp only [strs_length, List.length_set, List.length_replicate, words_length, ofBytes_length, List.length_append, List.length_cons, List.length_nil, List.length_take, List.length_drop] <;> omega) | fail) only [L.names_Ref.r0, go_sem, reduceIte, reduceCtorEq, Nat.reduceEqDiff, Nat.reduceAdd, Nat.reduceSub, Nat.reduceMul, Nat.reduceDiv, Nat.reduceMod, Nat.reduceBEq, Nat.reduceLeDiff, Nat.reduceLT, Int.reduceEq, Int.reduceNe, Int.reduceLT, Int.reduceLE, Int.reduceBEq, Int.reduceBNe, Int.reduceToNat, Int.reduceAdd, Int.reduceSub, Int.reduceMul, Int.reduceNeg, strs_length, flats_strs, hards_strs, leadss_strs, refsOfs_strs, rens_strs, strs_snoc, get_strs, hp, c1]
    · simp (dsimp := false) (disch := first | omega | (simp only [strs_length, List.length_set, List.length_replicate, words_length, ofBytes_length, List.length_append, List.length_cons, List.length_nil, List.length_take, List.length_drop] <;> omega) | fail) only [L.names_Ref, go_sem, reduceIte, reduceCtorEq, Nat.reduceEqDiff, Nat.reduceAdd, Nat.reduceSub, Nat.reduceMul, Nat.reduceDiv, Nat.reduceMod, Nat.reduceBEq, Nat.reduceLeDiff, Nat.reduceLT, Int.reduceEq, Int.reduceNe, Int.reduceLT, Int.reduceLE, Int.reduceBEq, Int.reduceBNe, Int.reduceToNat, Int.reduceAdd, Int.reduceSub, Int.reduceMul, Int.reduceNeg, strs_length, flats_strs, hards_strs, leadss_strs, refsOfs_strs, rens_strs, strs_snoc, get_strs, e1, c3]
end Cod


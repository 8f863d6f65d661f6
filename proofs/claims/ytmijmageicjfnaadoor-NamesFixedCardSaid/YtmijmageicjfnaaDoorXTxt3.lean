/- The reference's ParseIdent. -/
import Derived.Test.YtmijmageicjfnaaDoorXTxt2
import Derived.Test.YtmijmageicjfnaaDoorXTxt1
set_option linter.unusedSimpArgs false
set_option linter.unusedVariables false
namespace Cod
open Go

/-- The first place of a byte from place i on, among m places. -/
def scn (s : List UInt8) (c : UInt8) : Nat → Nat → Nat
  | 0, i => i
  | m + 1, i => if s.getD i 0 = c then i else scn s c m (i + 1)
theorem scn_eq (s : List UInt8) (c : UInt8) (k : Nat) (hk : s.getD k 0 = c) : ∀ m i, i ≤ k → k < i + m → (∀ j, i ≤ j → j < k → s.getD j 0 ≠ c) → scn s c m i = k := by
  intro m
  induction m with
  | zero => intro i h1 h2; omega
  | succ m ih =>
    intro i h1 h2 h3
    unfold scn
    by_cases h : i = k
    · rw [h, if_pos hk]
    · rw [if_neg (h3 i (Nat.le_refl _) (by omega))]
      exact ih (i + 1) (by omega) (by omega) (fun j a b => h3 j (by omega) b)
def docZ (s : List UInt8) : Int := numF (s.drop (s.length - 6 + 2))
def docZone (s : List UInt8) : Int := if s.getD (s.length - 6 + 1) 0 = 45 then 0 - (docZ s / 100 * 60 + docZ s % 100) else docZ s / 100 * 60 + docZ s % 100
def docAt (s : List UInt8) : Nat := scn s 60 s.length 0
def docTo (s : List UInt8) : Nat := scn s 62 (s.length - docAt s) (docAt s)
def docI (s : List UInt8) : Idt := ⟨s.take (docAt s - 1), sub s (docAt s + 1) (docTo s - (docAt s + 1)), numF (sub s (docTo s + 2) (s.length - 6 - (docTo s + 2))), docZone s⟩
def docOK (s : List UInt8) : Bool := decide (6 ≤ s.length ∧ 1 ≤ docAt s ∧ docTo s + 2 + 6 ≤ s.length ∧ 0 ≤ docZ s) && (identOK (docI s) && decide (putI (docI s) = s))
end Cod

/- What the reference reads is what Put writes. -/
namespace Cod
open Go

theorem nDigits_le : ∀ (k u : Nat), u < 10 ^ (k + 1) → Lib.nDigits u ≤ k + 1 := by
  intro k
  induction k with
  | zero => intro u h; rw [Lib.nDigits_small (by simpa using h)]; exact Nat.le_refl _
  | succ k ih =>
    intro u h
    by_cases h1 : u < 10
    · rw [Lib.nDigits_small h1]; omega
    · rw [Lib.nDigits_big h1]
      have := ih (u / 10) (by rw [Nat.pow_succ] at h; omega)
      omega
theorem itoa_len13 {t : Int} (h0 : 0 ≤ t) (h1 : t ≤ 1099511627776) : (Lib.itoa t).length ≤ 13 := by
  obtain ⟨u, rfl⟩ : ∃ u : Nat, t = u := ⟨t.toNat, by omega⟩
  rw [Lib.itoa_nonneg, Lib.decDigits_length]
  exact nDigits_le 12 u (by have : (10 : Nat) ^ (12 + 1) = 10000000000000 := by decide
                            omega)
theorem getD_app_l {a b : List UInt8} {j : Nat} (h : j < a.length) : (a ++ b).getD j 0 = a.getD j 0 := by
  rw [List.getD_eq_getElem?_getD, List.getElem?_append_left h, ← List.getD_eq_getElem?_getD]
theorem getD_app_r {a b : List UInt8} {j k : Nat} (h : j = a.length + k) : (a ++ b).getD j 0 = b.getD k 0 := by
  rw [List.getD_eq_getElem?_getD, List.getElem?_append_right (by omega), show j - a.length = k by omega, ← List.getD_eq_getElem?_getD]
theorem getD_ne {a : List UInt8} {c : UInt8} {j : Nat} (h : c ∉ a) (hj : j < a.length) : a.getD j 0 ≠ c := by
  intro e
  apply h
  rw [List.getD_eq_getElem?_getD, List.getElem?_eq_getElem hj] at e
  rw [← e]
  exact List.getElem_mem _
section
variable (i : Idt)
def pA : List UInt8 := i.name ++ [32]
def pB : List UInt8 := pA i ++ 60 :: i.email
def pC : List UInt8 := pB i ++ [62, 32]
def pD : List UInt8 := pC i ++ Lib.itoa i.time
theorem pA_len : (pA i).length = i.name.length + 1 := by simp [pA]
theorem pB_len : (pB i).length = i.name.length + 2 + i.email.length := by simp [pB, pA]; omega
theorem pC_len : (pC i).length = i.name.length + 4 + i.email.length := by simp [pC, pB_len]; omega
theorem pD_len : (pD i).length = i.name.length + 4 + i.email.length + (Lib.itoa i.time).length := by simp [pD, pC_len]
theorem put_a : putI i = pA i ++ 60 :: (i.email ++ [62, 32] ++ Lib.itoa i.time ++ [32] ++ zoneT i.zone) := by simp [putI, pA]
theorem put_b : putI i = pB i ++ 62 :: ([32] ++ Lib.itoa i.time ++ [32] ++ zoneT i.zone) := by simp [putI, pB, pA]
theorem put_c : putI i = pC i ++ (Lib.itoa i.time ++ ([32] ++ zoneT i.zone)) := by simp [putI, pC, pB, pA]
theorem put_d : putI i = pD i ++ 32 :: zoneT i.zone := by simp [putI, pD, pC, pB, pA]
theorem put_e : putI i = (pD i ++ [32]) ++ zoneT i.zone := by simp [put_d]
theorem put_f : putI i = (pD i ++ [32, (if i.zone < 0 then 45 else 43)]) ++ (two (zabs i.zone / 60) ++ two (zabs i.zone % 60)) := by simp [put_d, zoneT_eq]
theorem put_len : (putI i).length = i.name.length + 4 + i.email.length + (Lib.itoa i.time).length + 6 := by rw [put_d, List.length_append, pD_len, List.length_cons, zone_len]
end
theorem doc_put {i : Idt} (h : identOK i = true) : docI (putI i) = i ∧ docOK (putI i) = true := by
  obtain ⟨p0, p1, t0, t1, z0, z1⟩ := (identOK_iff i).1 h
  obtain ⟨a0, a1⟩ := zabs_range z0 z1
  obtain ⟨_, _, n60, n62⟩ := plain_mem p0
  obtain ⟨_, _, e60, e62⟩ := plain_mem p1
  obtain ⟨d0, d1, d2⟩ := itoa_dig t0
  have hl := put_len i
  have h13 := itoa_len13 t0 t1
  have hA := pA_len i
  have hB := pB_len i
  have hC := pC_len i
  have hD := pD_len i
  have hat : docAt (putI i) = i.name.length + 1 := by
    unfold docAt
    apply scn_eq
    · rw [put_a, getD_app_r (k := 0) (by omega)]; rfl
    · omega
    · omega
    · intro j _ hj
      rw [put_a, getD_app_l (by omega)]
      exact getD_ne (by simp [pA, n60]) (by omega)
  have hto : docTo (putI i) = i.name.length + 2 + i.email.length := by
    unfold docTo
    rw [hat]
    apply scn_eq
    · rw [put_b, getD_app_r (k := 0) (by omega)]; rfl
    · omega
    · omega
    · intro j _ hj
      rw [put_b, getD_app_l (by omega)]
      exact getD_ne (by simp [pB, pA, n62, e62]) (by omega)
  obtain ⟨q0, q1⟩ := zone4 (a := zabs i.zone / 60) (b := zabs i.zone % 60) (by omega) (by omega) (by omega) (by omega)
  have hz : docZ (putI i) = zabs i.zone / 60 * 100 + zabs i.zone % 60 := by
    unfold docZ
    rw [hl, put_f, List.drop_left' (by rw [List.length_append, hD, List.length_cons, List.length_cons, List.length_nil]; omega)]
    rw [numF_dig (by simp [two]) (by simp [two]) q0, q1]
  have hzone : docZone (putI i) = i.zone := by
    unfold docZone
    rw [hz, show (zabs i.zone / 60 * 100 + zabs i.zone % 60) / 100 * 60 + (zabs i.zone / 60 * 100 + zabs i.zone % 60) % 100 = zabs i.zone by omega]
    have hb : (putI i).getD ((putI i).length - 6 + 1) 0 = if i.zone < 0 then 45 else 43 := by
      rw [put_e, getD_app_r (k := 0) (by rw [← put_e, hl, List.length_append, hD, List.length_cons, List.length_nil]; omega)]; rfl
    rw [hb]
    unfold zabs
    by_cases hn : i.zone < 0
    · rw [if_pos hn, if_pos hn, if_pos rfl]; omega
    · rw [if_neg hn, if_neg hn, if_neg (by decide)]
  have hI : docI (putI i) = i := by
    unfold docI
    rw [hat, hto, hzone]
    have e1 : (putI i).take (i.name.length + 1 - 1) = i.name := by
      rw [put_a, pA, Nat.add_sub_cancel, List.append_assoc]; exact List.take_left' rfl
    have e2 : sub (putI i) (i.name.length + 1 + 1) (i.name.length + 2 + i.email.length - (i.name.length + 1 + 1)) = i.email := by
      unfold sub
      rw [show i.name.length + 2 + i.email.length - (i.name.length + 1 + 1) = i.email.length by omega]
      rw [show putI i = (pA i ++ [60]) ++ (i.email ++ ([62, 32] ++ Lib.itoa i.time ++ [32] ++ zoneT i.zone)) by simp [putI, pA], List.drop_left' (by rw [List.length_append, hA]; rfl), List.take_left' rfl]
    have e3 : sub (putI i) (i.name.length + 2 + i.email.length + 2) ((putI i).length - 6 - (i.name.length + 2 + i.email.length + 2)) = Lib.itoa i.time := by
      unfold sub
      rw [hl, put_c, List.drop_left' (by omega), List.take_left' (by omega)]
    rw [e1, e2, e3, numF_dig d2 h13 d0, d1]
  refine ⟨hI, ?_⟩
  unfold docOK
  rw [hI, h, hat, hto, hz, hl]
  simp only [Bool.true_and, Bool.and_eq_true, decide_eq_true_eq, and_true]
  omega
end Cod

/- How entries of a tree follow one another. -/
namespace Cod
open Go

/-- An entry of a tree. -/
structure Ety where
  mode : Int
  name : List UInt8
  id : List UInt8
  hid : id.length = 32
def Ety.cells (e : Ety) : List AV := .int .i64 e.mode :: .str e.name :: ofBytes e.id
theorem ety_len (e : Ety) : e.cells.length = 34 := by simp [Ety.cells, ofBytes_length, e.hid]
theorem ety_flats (e : Ety) : flats e.cells = true := by simp [Ety.cells, flats, flat, flats_ofBytes]
theorem ety_rens (f : Site → Nat → Option (Site × Nat)) (e : Ety) : rens f e.cells = e.cells := rens_flats _ (ety_flats e)
theorem ety_refs (e : Ety) : refsOfs e.cells = [] := by simp [Ety.cells, refsOfs, refsOf, refsOfs_ofBytes]
theorem ety_hards (e : Ety) : hards e.cells = true := by simp [Ety.cells, hards, hard, hards_ofBytes]
theorem ety_leads (e : Ety) : leadss e.cells = false := by simp [Ety.cells, leadss, leads, leadss_ofBytes]
theorem ety_sub (e : Ety) : sub e.cells 0 34 = e.cells := sub_full (by rw [ety_len]; exact Nat.le_refl _)
theorem ety_0 (e : Ety) : e.cells[0]? = some (.int .i64 e.mode) := rfl
theorem ety_1 (e : Ety) : e.cells[1]? = some (.str e.name) := rfl
attribute [go_sem] ety_len ety_flats ety_rens ety_refs ety_hards ety_leads ety_sub ety_0 ety_1
def keyE (e : Ety) : List UInt8 := if e.mode = 16384 then e.name ++ [47] else e.name
theorem less_self : ∀ a : List UInt8, Op.bytesLess a a = false := by
  intro a
  induction a with
  | nil => rfl
  | cons x a ih => rw [Op.bytesLess, ih]; simp
theorem go_cmpE {a b : List UInt8} : S E F.cmp_Compare_string [.str a, .str b] [] = some (.int .i64 (cmpB a b), []) := by
  have hn (x : List UInt8) : S E F.cmp_isNaN_string [.str x] [] = some (.bool false, []) := by
    have hb : (x == x) = true := by simp
    rw [S_of fn_cmp_isNaN_string rfl rfl]
    simp (dsimp := false) (disch := first | omega | (simp only [strs_length, List.length_set, List.length_replicate, words_length, ofBytes_length, List.length_append, List.length_cons, List.length_nil, List.length_take, List.length_drop] <;> omega) | fail) only [L.cmp_isNaN_string, go_sem, reduceIte, reduceCtorEq, Nat.reduceEqDiff, Nat.reduceAdd, Nat.reduceSub, Nat.reduceMul, Nat.reduceDiv, Nat.reduceMod, Nat.reduceBEq, Nat.reduceLeDiff, Nat.reduceLT, Int.reduceEq, Int.reduceNe, Int.reduceLT, Int.reduceLE, Int.reduceBEq, Int.reduceBNe, Int.reduceToNat, Int.reduceAdd, Int.reduceSub, Int.reduceMul, Int.reduceNeg, hb, Bool.not_true]
  rw [S_of fn_cmp_Compare_string rfl rfl]
  unfold cmpB
  by_cases he : a = b
  · subst he
    have hs : (a == a) = true := by simp
    simp (dsimp := false) (disch := first | omega | (simp only [strs_length, List.length_set, List.length_replicate, words_length, ofBytes_length, List.length_append, List.length_cons, List.length_nil, List.length_take, List.length_drop] <;> omega) | fail) only [L.cmp_Compare_string, go_sem, reduceIte, reduceCtorEq, Nat.reduceEqDiff, Nat.reduceAdd, Nat.reduceSub, Nat.reduceMul, Nat.reduceDiv, Nat.reduceMod, Nat.reduceBEq, Nat.reduceLeDiff, Nat.reduceLT, Int.reduceEq, Int.reduceNe, Int.reduceLT, Int.reduceLE, Int.reduceBEq, Int.reduceBNe, Int.reduceToNat, Int.reduceAdd, Int.reduceSub, Int.reduceMul, Int.reduceNeg, hn, less_self, hs, Bool.not_true]
  · have hs : (a == b) = false := by simp [he]
    rw [if_neg he]
    cases c1 : Op.bytesLess a b <;> simp (dsimp := false) (disch := first | omega | (simp only [strs_length, List.length_set, List.length_replicate, words_length, ofBytes_length, List.length_append, List.length_cons, List.length_nil, List.length_take, List.length_drop] <;> omega) | fail) only [L.cmp_Compare_string, go_sem, reduceIte, reduceCtorEq, Nat.reduceEqDiff, Nat.reduceAdd, Nat.reduceSub, Nat.reduceMul, Nat.reduceDiv, Nat.reduceMod, Nat.reduceBEq, Nat.reduceLeDiff, Nat.reduceLT, Int.reduceEq, Int.reduceNe, Int.reduceLT, Int.reduceLE, Int.reduceBEq, Int.reduceBNe, Int.reduceToNat, Int.reduceAdd, Int.reduceSub, Int.reduceMul, Int.reduceNeg, hn, c1, hs, Bool.not_false]
theorem go_nOrder {a b : Ety} (ha : a.name.length ≤ 1000000000000) (hb : b.name.length ≤ 1000000000000) : S E F.names_Order [.agg a.cells, .agg b.cells] [] = some (.int .i64 (cmpB (keyE a) (keyE b)), []) := by
  rw [S_of fn_names_Order rfl rfl]
  unfold keyE
  by_cases h1 : a.mode = 16384
  · by_cases h2 : b.mode = 16384 <;> simp (dsimp := false) (disch := first | omega | (simp only [strs_length, List.length_set, List.length_replicate, words_length, ofBytes_length, List.length_append, List.length_cons, List.length_nil, List.length_take, List.length_drop] <;> omega) | fail) only [L.names_Order, go_sem, reduceIte, reduceCtorEq, Nat.reduceEqDiff, Nat.reduceAdd, Nat.reduceSub, Nat.reduceMul, Nat.reduceDiv, Nat.reduceMod, Nat.reduceBEq, Nat.reduceLeDiff, Nat.reduceLT, Int.reduceEq, Int.reduceNe, Int.reduceLT, Int.reduceLE, Int.reduceBEq, Int.reduceBNe, Int.reduceToNat, Int.reduceAdd, Int.reduceSub, Int.reduceMul, Int.reduceNeg, h1, h2, go_cmpE]
  · by_cases h2 : b.mode = 16384 <;> simp (dsimp := false) (disch := first | omega | (simp only [strs_length, List.length_set, List.length_replicate, words_length, ofBytes_length, List.length_append, List.length_cons, List.length_nil, List.length_take, List.length_drop] <;> omega) | fail) only [L.names_Order, go_sem, reduceIte, reduceCtorEq, Nat.reduceEqDiff, Nat.reduceAdd, Nat.reduceSub, Nat.reduceMul, Nat.reduceDiv, Nat.reduceMod, Nat.reduceBEq, Nat.reduceLeDiff, Nat.reduceLT, Int.reduceEq, Int.reduceNe, Int.reduceLT, Int.reduceLE, Int.reduceBEq, Int.reduceBNe, Int.reduceToNat, Int.reduceAdd, Int.reduceSub, Int.reduceMul, Int.reduceNeg, h1, h2, go_cmpE]
end Cod

/- Texts in order: laws of what is less. -/
namespace Cod
open Go
end Cod

/- The laws of layer 6: awake, NamesIdents, NamesBack, NamesOrder. -/
namespace Cod
open Go

def wI : Idt := ⟨[65, 32, 66], [97, 64, 98], 5, -90⟩
theorem wI_ok : identOK wI = true := by decide
theorem wI_put : putI wI = [65, 32, 66, 32, 60, 97, 64, 98, 62, 32, 53, 32, 45, 48, 49, 51, 48] := by
  unfold putI
  have : Lib.itoa wI.time = [53] := by
    show Lib.itoa 5 = _
    rw [show (5 : Int) = ((5 : Nat) : Int) from rfl, Lib.itoa_nonneg, Lib.decDigits_one (by omega)]; rfl
  rw [this]
  rfl
theorem go_awake : S E F.law06_awake [] [] = some (.bool true, []) := by
  have h1 := go_putIdent (i := wI)
  unfold putV at h1
  rw [if_pos wI_ok, wI_put] at h1
  have h2 := go_parse_put wI_ok
  rw [wI_put] at h2
  simp only [Idt.cells, wI] at h1 h2
  have h3 : S E F.names_Path [.str [97, 47, 98, 46, 99]] [] = some (.bool true, []) := by rw [S_path]; rfl
  have h4 : S E F.names_Path [.str [97, 47, 47, 98]] [] = some (.bool false, []) := by rw [S_path]; rfl
  rw [S_of fn_law06_awake rfl rfl]
  simp (dsimp := false) (disch := first | omega | (simp only [strs_length, List.length_set, List.length_replicate, words_length, ofBytes_length, List.length_append, List.length_cons, List.length_nil, List.length_take, List.length_drop, two_length] <;> omega) | fail) only [L.law06_awake, go_sem, reduceIte, reduceCtorEq, Nat.reduceEqDiff, Nat.reduceAdd, Nat.reduceSub, Nat.reduceMul, Nat.reduceDiv, Nat.reduceMod, Nat.reduceBEq, Nat.reduceLeDiff, Nat.reduceLT, Int.reduceEq, Int.reduceNe, Int.reduceLT, Int.reduceLE, Int.reduceBEq, Int.reduceBNe, Int.reduceToNat, Int.reduceAdd, Int.reduceSub, Int.reduceMul, Int.reduceNeg, h1, h2, h3, h4, Bool.not_false, beq_self_eq_true]
end Cod

/- Paths, the reference's. -/
namespace Cod
open Go

theorem parts_length (s : List UInt8) : (parts s).length ≤ s.length + 1 := by
  induction s with
  | nil => simp [parts]
  | cons c t ih =>
    unfold parts
    split
    · simp; omega
    · split
      · rename_i p r hp; rw [hp] at ih; simp at ih ⊢; omega
      · simp
theorem parts_mem (s : List UInt8) : ∀ p ∈ parts s, p.length ≤ s.length := by
  induction s with
  | nil => simp [parts]
  | cons c t ih =>
    intro p hp
    unfold parts at hp
    split at hp
    · rcases List.mem_cons.1 hp with rfl | hp
      · simp
      · have := ih p hp; simp; omega
    · split at hp
      · rename_i q r hq
        rw [hq] at ih
        rcases List.mem_cons.1 hp with rfl | hp
        · have := ih q (by simp); simp; omega
        · have := ih p (by simp [hp]); simp; omega
      · rcases List.mem_cons.1 hp with rfl | hp
        · simp
        · simp at hp

end Cod

/- References: the reference's Ref. -/
namespace Cod
open Go

def lockT : List UInt8 := [46, 108, 111, 99, 107]
def badS : List UInt8 := [126, 94, 58, 63, 42, 91, 92]
def partOK (p : List UInt8) : Bool := p != [] && (p.getD 0 0 != 46 && (!endsB p [46] && !endsB p lockT))
def badC (b : UInt8) : Bool := decide (b.toNat ≤ 32) || (decide (127 ≤ b.toNat) || badS.contains b)
def pairB (s : List UInt8) (i : Nat) : Bool := decide (0 < i) && (sub s (i - 1) 2 == [46, 46] || sub s (i - 1) 2 == [64, 123])
def headT : List UInt8 := [72, 69, 65, 68]
def refsT : List UInt8 := [114, 101, 102, 115]
def all2 (l : List (List UInt8)) : Nat → Nat → Bool
  | 0, _ => true
  | m + 1, i => partOK (l.getD i []) && all2 l m (i + 1)
theorem all2_all (l : List (List UInt8)) : ∀ m i, i + m = l.length → all2 l m i = (l.drop i).all partOK := by
  intro m
  induction m with
  | zero => intro i h; rw [List.drop_eq_nil_of_le (by omega)]; rfl
  | succ m ih =>
    intro i h
    have hlt : i < l.length := by omega
    rw [all2, ih (i + 1) (by omega), List.drop_eq_getElem_cons hlt, List.all_cons]
    congr 2
    simp [hlt]
def chk (s : List UInt8) : Nat → Nat → Bool
  | 0, _ => true
  | m + 1, i => (!badC (s.getD i 0) && !pairB s i) && chk s m (i + 1)
def refOK (s : List UInt8) : Bool := s == headT || (decide (3 ≤ (parts s).length) && ((parts s).getD 0 [] == refsT && (decide (s.length ≤ 200) && ((parts s).all partOK && chk s s.length 0))))
end Cod

/- References: names.Ref, and the modes. -/
namespace Cod
open Go

theorem go_nindex (s : List UInt8) (i : Nat) : S E F.strings_IndexByte [.str badS, .int .u8 (bat s i)] [] = some (.int .i64 (indexB badS (s.getD i 0)), []) := by
  have h0 : S E F.stringslite_IndexByte [.str badS, .int .u8 (bat s i)] [] = some (.int .i64 (indexB badS (s.getD i 0)), []) := by
    have h1 : S E F.bytealg_IndexByteString [.str badS, .int .u8 (bat s i)] [] = some (.int .i64 (indexB badS (s.getD i 0)), []) := by
      have := S_ext ext0 (S_indexS (l := badS) (c := bat s i))
      rw [show byt (bat s i) = s.getD i 0 by unfold byt bat; simp] at this
      exact this
    rw [S_of fn_stringslite_IndexByte rfl rfl]
    simp (dsimp := false) (disch := first | omega | (simp only [strs_length, List.length_set, List.length_replicate, words_length, ofBytes_length, List.length_append, List.length_cons, List.length_nil, List.length_take, List.length_drop] <;> omega) | fail) only [L.stringslite_IndexByte, go_sem, reduceIte, reduceCtorEq, Nat.reduceEqDiff, Nat.reduceAdd, Nat.reduceSub, Nat.reduceMul, Nat.reduceDiv, Nat.reduceMod, Nat.reduceBEq, Nat.reduceLeDiff, Nat.reduceLT, Int.reduceEq, Int.reduceNe, Int.reduceLT, Int.reduceLE, Int.reduceBEq, Int.reduceBNe, Int.reduceToNat, Int.reduceAdd, Int.reduceSub, Int.reduceMul, Int.reduceNeg, h1]
  rw [S_of fn_strings_IndexByte rfl rfl]
  simp (dsimp := false) (disch := first | omega | (simp only [strs_length, List.length_set, List.length_replicate, words_length, ofBytes_length, List.length_append, List.length_cons, List.length_nil, List.length_take, List.length_drop] <;> omega) | fail) only [L.strings_IndexByte, go_sem, reduceIte, reduceCtorEq, Nat.reduceEqDiff, Nat.reduceAdd, Nat.reduceSub, Nat.reduceMul, Nat.reduceDiv, Nat.reduceMod, Nat.reduceBEq, Nat.reduceLeDiff, Nat.reduceLT, Int.reduceEq, Int.reduceNe, Int.reduceLT, Int.reduceLE, Int.reduceBEq, Int.reduceBNe, Int.reduceToNat, Int.reduceAdd, Int.reduceSub, Int.reduceMul, Int.reduceNeg, h0]
theorem index_ge (b : UInt8) : decide (0 ≤ indexB badS b) = badS.contains b := by
  unfold indexB
  cases hc : badS.contains b with
  | true => rw [if_pos (by simpa using hc)]; simp
  | false => rw [if_neg (by simpa using hc)]; rfl
def chkC (s : List UInt8) : Nat → Nat → Bool
  | 0, _ => true
  | m + 1, i => !badC (s.getD i 0) && chkC s m (i + 1)
theorem nref_l0 {s : List UInt8} (hs : s.length ≤ 1000000000) (k : List It) : ∀ (m i : Nat), i + m = s.length →
    X E [.tmp 2] (.c L.names_Ref.x0 :: .lp [0, 21, 22] L.names_Ref.x0 :: .blk 0 :: k) ⟨[(0, .str s), (21, .int .i64 s.length), (22, .int .i64 i)], []⟩ =
    if chkC s m i = true then X E [.tmp 2] k ⟨[(0, .str s), (21, .int .i64 s.length), (22, .int .i64 s.length), (23, .bool false)], []⟩ else some (.bool false, []) := by
  intro m
  induction m with
  | zero =>
    intro i h
    obtain rfl : i = s.length := by omega
    rw [X_in L.names_Ref.x0.eq_1, chkC]
    simp (dsimp := false) (disch := first | omega | (simp only [strs_length, List.length_set, List.length_replicate, words_length, ofBytes_length, List.length_append, List.length_cons, List.length_nil, List.length_take, List.length_drop] <;> omega) | fail) only [go_sem, reduceIte, reduceCtorEq, Nat.reduceEqDiff, Nat.reduceAdd, Nat.reduceSub, Nat.reduceMul, Nat.reduceDiv, Nat.reduceMod, Nat.reduceBEq, Nat.reduceLeDiff, Nat.reduceLT, Int.reduceEq, Int.reduceNe, Int.reduceLT, Int.reduceLE, Int.reduceBEq, Int.reduceBNe, Int.reduceToNat, Int.reduceAdd, Int.reduceSub, Int.reduceMul, Int.reduceNeg]
  | succ m ih =>
    intro i h
    have := ih (i + 1) (by omega)
    simp only [Int.natCast_add, Int.cast_ofNat_Int] at this
    have hp : i < s.length := by omega
    have hh := go_nindex s i
    unfold badS at hh
    have hge := index_ge (s.getD i 0)
    unfold badS at hge
    have hbc : badC (s.getD i 0) = (decide (bat s i ≤ 32) || (decide (127 ≤ bat s i) || badS.contains (s.getD i 0))) := by
      unfold badC bat
      rw [show decide ((s.getD i 0).toNat ≤ 32) = decide (((s.getD i 0).toNat : Int) ≤ 32) from decide_eq_decide.2 (by omega), show decide (127 ≤ (s.getD i 0).toNat) = decide (127 ≤ ((s.getD i 0).toNat : Int)) from decide_eq_decide.2 (by omega)]
    unfold badS at hbc
    rw [X_in L.names_Ref.x0.eq_1, chkC]
    by_cases c1 : bat s i ≤ 32
    · rw [hbc, decide_eq_true c1]
      simp (dsimp := false) (disch := first | omega | (simp only [strs_length, List.length_set, List.length_replicate, words_length, ofBytes_length, List.length_append, List.length_cons, List.length_nil, List.length_take, List.length_drop] <;> omega) | fail) only [go_sem, reduceIte, reduceCtorEq, Nat.reduceEqDiff, Nat.reduceAdd, Nat.reduceSub, Nat.reduceMul, Nat.reduceDiv, Nat.reduceMod, Nat.reduceBEq, Nat.reduceLeDiff, Nat.reduceLT, Int.reduceEq, Int.reduceNe, Int.reduceLT, Int.reduceLE, Int.reduceBEq, Int.reduceBNe, Int.reduceToNat, Int.reduceAdd, Int.reduceSub, Int.reduceMul, Int.reduceNeg, hp, c1, Bool.true_or, Bool.not_true, Bool.false_and, Bool.false_eq_true]
    · by_cases c2 : 127 ≤ bat s i
      · rw [hbc, decide_eq_false c1, decide_eq_true c2]
        simp (dsimp := false) (disch := first | omega | (simp only [strs_length, List.length_set, List.length_replicate, words_length, ofBytes_length, List.length_append, List.length_cons, List.length_nil, List.length_take, List.length_drop] <;> omega) | fail) only [go_sem, reduceIte, reduceCtorEq, Nat.reduceEqDiff, Nat.reduceAdd, Nat.reduceSub, Nat.reduceMul, Nat.reduceDiv, Nat.reduceMod, Nat.reduceBEq, Nat.reduceLeDiff, Nat.reduceLT, Int.reduceEq, Int.reduceNe, Int.reduceLT, Int.reduceLE, Int.reduceBEq, Int.reduceBNe, Int.reduceToNat, Int.reduceAdd, Int.reduceSub, Int.reduceMul, Int.reduceNeg, hp, c1, c2, Bool.true_or, Bool.false_or, Bool.not_true, Bool.false_and, Bool.false_eq_true]
      · rw [hbc, decide_eq_false c1, decide_eq_false c2]
        rw [← hge]
        by_cases c3 : 0 ≤ indexB [126, 94, 58, 63, 42, 91, 92] (s.getD i 0)
        · simp (dsimp := false) (disch := first | omega | (simp only [strs_length, List.length_set, List.length_replicate, words_length, ofBytes_length, List.length_append, List.length_cons, List.length_nil, List.length_take, List.length_drop] <;> omega) | fail) only [go_sem, reduceIte, reduceCtorEq, Nat.reduceEqDiff, Nat.reduceAdd, Nat.reduceSub, Nat.reduceMul, Nat.reduceDiv, Nat.reduceMod, Nat.reduceBEq, Nat.reduceLeDiff, Nat.reduceLT, Int.reduceEq, Int.reduceNe, Int.reduceLT, Int.reduceLE, Int.reduceBEq, Int.reduceBNe, Int.reduceToNat, Int.reduceAdd, Int.reduceSub, Int.reduceMul, Int.reduceNeg, hp, c1, c2, hh, c3, decide_true, Bool.true_or, Bool.false_or, Bool.not_true, Bool.false_and, Bool.false_eq_true]
        · simp (dsimp := false) (disch := first | omega | (simp only [strs_length, List.length_set, List.length_replicate, words_length, ofBytes_length, List.length_append, List.length_cons, List.length_nil, List.length_take, List.length_drop] <;> omega) | fail) only [go_sem, reduceIte, reduceCtorEq, Nat.reduceEqDiff, Nat.reduceAdd, Nat.reduceSub, Nat.reduceMul, Nat.reduceDiv, Nat.reduceMod, Nat.reduceBEq, Nat.reduceLeDiff, Nat.reduceLT, Int.reduceEq, Int.reduceNe, Int.reduceLT, Int.reduceLE, Int.reduceBEq, Int.reduceBNe, Int.reduceToNat, Int.reduceAdd, Int.reduceSub, Int.reduceMul, Int.reduceNeg, hp, c1, c2, hh, c3, this, decide_false, Bool.true_or, Bool.false_or, Bool.not_false, Bool.true_and, Bool.false_and, Bool.false_eq_true]
theorem nref_l1 {s : List UInt8} (hs : s.length ≤ 1000000000) (k : List It) : ∀ (m i : Nat), i + m = (parts s).length →
    X E [.tmp 2] (.c L.names_Ref.x1 :: .lp [54, 55, 56] L.names_Ref.x1 :: .blk 2 :: k) ⟨[(54, .buf (.s 1000000 0) 0 0 (parts s).length 1), (55, .int .i64 (parts s).length), (56, .int .i64 i)], [(.s 1000000 0, ⟨0, true, true, false, strs (parts s)⟩)]⟩ =
    if all2 (parts s) m i = true then X E [.tmp 2] k ⟨[(54, .buf (.s 1000000 0) 0 0 (parts s).length 1), (55, .int .i64 (parts s).length), (56, .int .i64 (parts s).length), (57, .bool false)], [(.s 1000000 0, ⟨0, true, true, false, strs (parts s)⟩)]⟩ else some (.bool false, []) := by
  have hlen := parts_length s
  intro m
  induction m with
  | zero =>
    intro i h
    obtain rfl : i = (parts s).length := by omega
    rw [X_in L.names_Ref.x1.eq_1, all2]
    simp (dsimp := false) (disch := first | omega | (simp only [strs_length, List.length_set, List.length_replicate, words_length, ofBytes_length, List.length_append, List.length_cons, List.length_nil, List.length_take, List.length_drop] <;> omega) | fail) only [go_sem, reduceIte, reduceCtorEq, Nat.reduceEqDiff, Nat.reduceAdd, Nat.reduceSub, Nat.reduceMul, Nat.reduceDiv, Nat.reduceMod, Nat.reduceBEq, Nat.reduceLeDiff, Nat.reduceLT, Int.reduceEq, Int.reduceNe, Int.reduceLT, Int.reduceLE, Int.reduceBEq, Int.reduceBNe, Int.reduceToNat, Int.reduceAdd, Int.reduceSub, Int.reduceMul, Int.reduceNeg, strs_length, flats_strs, hards_strs, leadss_strs, refsOfs_strs, rens_strs, strs_snoc, get_strs]
  | succ m ih =>
    intro i h
    have := ih (i + 1) (by omega)
    simp only [Int.natCast_add, Int.cast_ofNat_Int] at this
    have hmem : (parts s).getD i [] ∈ parts s := by
      rw [List.getD_eq_getElem?_getD, List.getElem?_eq_getElem (by omega), Option.getD_some]
      exact List.getElem_mem _
    have hpl := parts_mem s _ hmem
    generalize hq : (parts s).getD i [] = p at *
    have h1 := go_suffix (s := p) (t := [46]) (by omega) (by decide)
    have h2 := go_suffix (s := p) (t := lockT) (by omega) (by decide)
    unfold lockT at h2
    rw [X_in L.names_Ref.x1.eq_1, all2, hq]
    unfold partOK
    by_cases h0 : p = []
    · subst h0
      simp (dsimp := false) (disch := first | omega | (simp only [strs_length, List.length_set, List.length_replicate, words_length, ofBytes_length, List.length_append, List.length_cons, List.length_nil, List.length_take, List.length_drop] <;> omega) | fail) only [go_sem, reduceIte, reduceCtorEq, Nat.reduceEqDiff, Nat.reduceAdd, Nat.reduceSub, Nat.reduceMul, Nat.reduceDiv, Nat.reduceMod, Nat.reduceBEq, Nat.reduceLeDiff, Nat.reduceLT, Int.reduceEq, Int.reduceNe, Int.reduceLT, Int.reduceLE, Int.reduceBEq, Int.reduceBNe, Int.reduceToNat, Int.reduceAdd, Int.reduceSub, Int.reduceMul, Int.reduceNeg, strs_length, flats_strs, hards_strs, leadss_strs, refsOfs_strs, rens_strs, strs_snoc, get_strs, hq, beq_self_eq_true]
      simp
    · have hl : 0 < p.length := List.length_pos_iff.2 h0
      have e0 : (p == []) = false := by simp [h0]
      have e1 : (p != []) = true := by simp [h0]
      by_cases hb : p.getD 0 0 = 46
      · have b1 : (bat p 0 == 46) = true := beq_t (by unfold bat; rw [hb]; rfl)
        have b2 : (p.getD 0 0 != 46) = false := by rw [hb]; rfl
        simp (dsimp := false) (disch := first | omega | (simp only [strs_length, List.length_set, List.length_replicate, words_length, ofBytes_length, List.length_append, List.length_cons, List.length_nil, List.length_take, List.length_drop] <;> omega) | fail) only [go_sem, reduceIte, reduceCtorEq, Nat.reduceEqDiff, Nat.reduceAdd, Nat.reduceSub, Nat.reduceMul, Nat.reduceDiv, Nat.reduceMod, Nat.reduceBEq, Nat.reduceLeDiff, Nat.reduceLT, Int.reduceEq, Int.reduceNe, Int.reduceLT, Int.reduceLE, Int.reduceBEq, Int.reduceBNe, Int.reduceToNat, Int.reduceAdd, Int.reduceSub, Int.reduceMul, Int.reduceNeg, strs_length, flats_strs, hards_strs, leadss_strs, refsOfs_strs, rens_strs, strs_snoc, get_strs, hq, e0, e1, b1, b2, Bool.false_and, Bool.and_false, Bool.not_false, Bool.false_eq_true]
      · have b1 : (bat p 0 == 46) = false := beq_f (fun h => hb (UInt8.toNat_inj.1 (by unfold bat at h; show (p.getD 0 0).toNat = 46; omega)))
        have b2 : (p.getD 0 0 != 46) = true := bne_iff_ne.2 hb
        unfold lockT
        cases c1 : endsB p [46] <;> cases c2 : endsB p [46, 108, 111, 99, 107] <;> simp (dsimp := false) (disch := first | omega | (simp only [strs_length, List.length_set, List.length_replicate, words_length, ofBytes_length, List.length_append, List.length_cons, List.length_nil, List.length_take, List.length_drop] <;> omega) | fail) only [go_sem, reduceIte, reduceCtorEq, Nat.reduceEqDiff, Nat.reduceAdd, Nat.reduceSub, Nat.reduceMul, Nat.reduceDiv, Nat.reduceMod, Nat.reduceBEq, Nat.reduceLeDiff, Nat.reduceLT, Int.reduceEq, Int.reduceNe, Int.reduceLT, Int.reduceLE, Int.reduceBEq, Int.reduceBNe, Int.reduceToNat, Int.reduceAdd, Int.reduceSub, Int.reduceMul, Int.reduceNeg, strs_length, flats_strs, hards_strs, leadss_strs, refsOfs_strs, rens_strs, strs_snoc, get_strs, hq, e0, e1, b1, b2, h1, h2, c1, c2, this, Bool.true_and, Bool.false_and, Bool.not_true, Bool.not_false, Bool.and_true, Bool.and_false, Bool.false_eq_true]
end Cod

/- names.Ref is the reference's; the modes. -/
namespace Cod
open Go

def pairFree (s : List UInt8) : Nat → Nat → Bool
  | 0, _ => true
  | m + 1, i => !pairB s i && pairFree s m (i + 1)
theorem chk_eq (s : List UInt8) : ∀ m i, chk s m i = (chkC s m i && pairFree s m i) := by
  intro m
  induction m with
  | zero => intro i; rfl
  | succ m ih =>
    intro i
    rw [chk, chkC, pairFree, ih]
    cases badC (s.getD i 0) <;> cases pairB s i <;> cases chkC s m (i + 1) <;> cases pairFree s m (i + 1) <;> rfl
theorem pairFree_iff (s : List UInt8) : ∀ m i, pairFree s m i = true ↔ ∀ j, i ≤ j → j < i + m → pairB s j = false := by
  intro m
  induction m with
  | zero => intro i; simp only [pairFree, true_iff]; intro j h1 h2; omega
  | succ m ih =>
    intro i
    rw [pairFree, Bool.and_eq_true, ih, Bool.not_eq_true']
    constructor
    · rintro ⟨h1, h2⟩ j h3 h4
      by_cases he : j = i
      · rw [he]; exact h1
      · exact h2 j (by omega) (by omega)
    · intro h
      exact ⟨h i (Nat.le_refl _) (by omega), fun j h1 h2 => h j (by omega) (by omega)⟩
theorem contains2 (s t : List UInt8) (ht : t.length = 2) : Lib.contains s t = true ↔ ∃ j, j + 2 ≤ s.length ∧ sub s j 2 = t := by
  unfold Lib.contains
  rw [decide_eq_true_eq]
  rcases Lib.index_spec s t with ⟨h1, h2⟩ | ⟨i, h1, h2, h3, _⟩
  · rw [h1]
    constructor
    · intro h; omega
    · rintro ⟨j, hj, hs⟩
      have := h2 j (by omega)
      rw [Lib.occAt_iff_take s t j (by omega), ht] at this
      unfold sub at hs
      rw [hs] at this
      simp at this
  · rw [h1]
    constructor
    · intro _
      have hr := Lib.occAt_room h3
      have hj : i + 2 ≤ s.length := by
        rcases hr with hr | hr
        · omega
        · rw [hr] at ht; simp at ht
      rw [Lib.occAt_iff_take s t i (by omega), ht] at h3
      exact ⟨i, hj, by unfold sub; exact eq_of_beq h3⟩
    · intro _; omega
theorem pairFree_contains (s : List UInt8) : pairFree s s.length 0 = (!Lib.contains s [46, 46] && !Lib.contains s [64, 123]) := by
  rw [Bool.eq_iff_iff, pairFree_iff, Bool.and_eq_true, Bool.not_eq_true', Bool.not_eq_true', ← Bool.not_eq_true, ← Bool.not_eq_true, contains2 _ _ rfl, contains2 _ _ rfl]
  unfold pairB
  constructor
  · intro h
    constructor
    · rintro ⟨j, h1, h2⟩
      have := h (j + 1) (by omega) (by omega)
      rw [Nat.add_sub_cancel, h2] at this
      simp at this
    · rintro ⟨j, h1, h2⟩
      have := h (j + 1) (by omega) (by omega)
      rw [Nat.add_sub_cancel, h2] at this
      simp at this
  · rintro ⟨h1, h2⟩ j h3 h4
    by_cases hj : 0 < j
    · have a1 : (sub s (j - 1) 2 == [46, 46]) = false := by
        rw [← Bool.not_eq_true, beq_iff_eq]; exact fun e => h1 ⟨j - 1, by omega, e⟩
      have a2 : (sub s (j - 1) 2 == [64, 123]) = false := by
        rw [← Bool.not_eq_true, beq_iff_eq]; exact fun e => h2 ⟨j - 1, by omega, e⟩
      rw [a1, a2]; simp
    · simp [hj]
theorem go_nref {s : List UInt8} (hs : s.length ≤ 1000000000) : S E F.names_Ref [.str s] [] = some (.bool (refOK s), []) := by
  have hlen := parts_length s
  have h0 := nref_l0 hs [.c L.names_Ref.r0] s.length 0 (by omega)
  have h1 := nref_l1 hs [.c L.names_Ref.r1] (parts s).length 0 (by omega)
  rw [all2_all _ _ _ (by omega)] at h1
  simp only [Int.cast_ofNat_Int, List.drop_zero] at h0 h1
  have hp := S_split (s := s) (by omega)
  have k1 := S_contains (s := s) (t := [46, 46]) (by omega)
  have k2 := S_contains (s := s) (t := [64, 123]) (by omega)
  rw [S_of fn_names_Ref rfl rfl]
  unfold refOK
  rw [chk_eq, pairFree_contains]
  by_cases e : s = headT
  · subst e
    simp (dsimp := false) (disch := first | omega | (simp only [strs_length, List.length_set, List.length_replicate, words_length, ofBytes_length, List.length_append, List.length_cons, List.length_nil, List.length_take, List.length_drop] <;> omega) | fail) only [L.names_Ref, go_sem, reduceIte, reduceCtorEq, Nat.reduceEqDiff, Nat.reduceAdd, Nat.reduceSub, Nat.reduceMul, Nat.reduceDiv, Nat.reduceMod, Nat.reduceBEq, Nat.reduceLeDiff, Nat.reduceLT, Int.reduceEq, Int.reduceNe, Int.reduceLT, Int.reduceLE, Int.reduceBEq, Int.reduceBNe, Int.reduceToNat, Int.reduceAdd, Int.reduceSub, Int.reduceMul, Int.reduceNeg, headT, beq_self_eq_true]
  · have e1 : (s == headT) = false := by simp [e]
    rw [e1]
    unfold headT at e1
    by_cases c3 : s.length ≤ 200
    · cases d1 : Lib.contains s [46, 46] with
      | true =>
        simp (dsimp := false) (disch := first | omega | (simp only [strs_length, List.length_set, List.length_replicate, words_length, ofBytes_length, List.length_append, List.length_cons, List.length_nil, List.length_take, List.length_drop] <;> omega) | fail) only [L.names_Ref, go_sem, reduceIte, reduceCtorEq, Nat.reduceEqDiff, Nat.reduceAdd, Nat.reduceSub, Nat.reduceMul, Nat.reduceDiv, Nat.reduceMod, Nat.reduceBEq, Nat.reduceLeDiff, Nat.reduceLT, Int.reduceEq, Int.reduceNe, Int.reduceLT, Int.reduceLE, Int.reduceBEq, Int.reduceBNe, Int.reduceToNat, Int.reduceAdd, Int.reduceSub, Int.reduceMul, Int.reduceNeg, strs_length, flats_strs, hards_strs, leadss_strs, refsOfs_strs, rens_strs, strs_snoc, get_strs, e1, c3, k1, d1]
      | false =>
        cases d2 : Lib.contains s [64, 123] with
        | true =>
          simp (dsimp := false) (disch := first | omega | (simp only [strs_length, List.length_set, List.length_replicate, words_length, ofBytes_length, List.length_append, List.length_cons, List.length_nil, List.length_take, List.length_drop] <;> omega) | fail) only [L.names_Ref, go_sem, reduceIte, reduceCtorEq, Nat.reduceEqDiff, Nat.reduceAdd, Nat.reduceSub, Nat.reduceMul, Nat.reduceDiv, Nat.reduceMod, Nat.reduceBEq, Nat.reduceLeDiff, Nat.reduceLT, Int.reduceEq, Int.reduceNe, Int.reduceLT, Int.reduceLE, Int.reduceBEq, Int.reduceBNe, Int.reduceToNat, Int.reduceAdd, Int.reduceSub, Int.reduceMul, Int.reduceNeg, strs_length, flats_strs, hards_strs, leadss_strs, refsOfs_strs, rens_strs, strs_snoc, get_strs, e1, c3, k1, k2, d1, d2]
        | false =>
          simp (dsimp := false) (disch := first | omega | (simp only [strs_length, List.length_set, List.length_replicate, words_length, ofBytes_length, List.length_append, List.length_cons, List.length_nil, List.length_take, List.length_drop] <;> omega) | fail) only [L.names_Ref, go_sem, reduceIte, reduceCtorEq, Nat.reduceEqDiff, Nat.reduceAdd, Nat.reduceSub, Nat.reduceMul, Nat.reduceDiv, Nat.reduceMod, Nat.reduceBEq, Nat.reduceLeDiff, Nat.reduceLT, Int.reduceEq, Int.reduceNe, Int.reduceLT, Int.reduceLE, Int.reduceBEq, Int.reduceBNe, Int.reduceToNat, Int.reduceAdd, Int.reduceSub, Int.reduceMul, Int.reduceNeg, strs_length, flats_strs, hards_strs, leadss_strs, refsOfs_strs, rens_strs, strs_snoc, get_strs, e1, c3, k1, k2, d1, d2]
          rw [h0]
          cases d3 : chkC s s.length 0 with
          | false => simp
          | true =>
            rw [if_pos rfl]
            by_cases c1 : 3 ≤ (parts s).length
            · cases c2 : (parts s).getD 0 [] == refsT with
              | false =>
                unfold refsT at c2
                simp (dsimp := false) (disch := first | omega | (simp only [strs_length, List.length_set, List.length_replicate, words_length, ofBytes_length, List.length_append, List.length_cons, List.length_nil, List.length_take, List.length_drop] <;> omega) | fail) only [L.names_Ref.r0, go_sem, reduceIte, reduceCtorEq, Nat.reduceEqDiff, Nat.reduceAdd, Nat.reduceSub, Nat.reduceMul, Nat.reduceDiv, Nat.reduceMod, Nat.reduceBEq, Nat.reduceLeDiff, Nat.reduceLT, Int.reduceEq, Int.reduceNe, Int.reduceLT, Int.reduceLE, Int.reduceBEq, Int.reduceBNe, Int.reduceToNat, Int.reduceAdd, Int.reduceSub, Int.reduceMul, Int.reduceNeg, strs_length, flats_strs, hards_strs, leadss_strs, refsOfs_strs, rens_strs, strs_snoc, get_strs, hp, c1, c2]
              | true =>
                unfold refsT at c2
                simp (dsimp := false) (disch := first | omega | (simp only [strs_length, List.length_set, List.length_replicate, words_length, ofBytes_length, List.length_append, List.length_cons, List.length_nil, List.length_take, List.length_drop] <;> omega) | fail) only [L.names_Ref.r0, go_sem, reduceIte, reduceCtorEq, Nat.reduceEqDiff, Nat.reduceAdd, Nat.reduceSub, Nat.reduceMul, Nat.reduceDiv, Nat.reduceMod, Nat.reduceBEq, Nat.reduceLeDiff, Nat.reduceLT, Int.reduceEq, Int.reduceNe, Int.reduceLT, Int.reduceLE, Int.reduceBEq, Int.reduceBNe, Int.reduceToNat, Int.reduceAdd, Int.reduceSub, Int.reduceMul, Int.reduceNeg, strs_length, flats_strs, hards_strs, leadss_strs, refsOfs_strs, rens_strs, strs_snoc, get_strs, hp, c1, c2]
                rw [h1]
                cases c4 : (parts s).all partOK with
                | false => simp
                | true =>
                  simp (dsimp := false) (disch := first | omega | (simp only [strs_length, List.length_set, List.length_replicate, words_length, ofBytes_length, List.length_append, List.length_cons, List.length_nil, List.length_take, List.length_drop] <;> omega) | fail) only [L.names_Ref.r1, go_sem, reduceIte, reduceCtorEq, Nat.reduceEqDiff, Nat.reduceAdd, Nat.reduceSub, Nat.reduceMul, Nat.reduceDiv, Nat.reduceMod, Nat.reduceBEq, Nat.reduceLeDiff, Nat.reduceLT, Int.reduceEq, Int.reduceNe, Int.reduceLT, Int.reduceLE, Int.reduceBEq, Int.reduceBNe, Int.reduceToNat, Int.reduceAdd, Int.reduceSub, Int.reduceMul, Int.reduceNeg, strs_length, flats_strs, hards_strs, leadss_strs, refsOfs_strs, rens_strs, strs_snoc, get_strs]
            · simp (dsimp := false) (disch := first | omega | (simp only [strs_length, List.length_set, List.length_replicate, words_length, ofBytes_length, List.length_append, List.length_cons, List.length_nil, List.length_take, List.length_drop] <;> omega) | fail) only [L.names_Ref.r0, go_sem, reduceIte, reduceCtorEq, Nat.reduceEqDiff, Nat.reduceAdd, Nat.reduceSub, Nat.reduceMul, Nat.reduceDiv, Nat.reduceMod, Nat.reduceBEq, Nat.reduceLeDiff, Nat.reduceLT, Int.reduceEq, Int.reduceNe, Int.reduceLT, Int.reduceLE, Int.reduceBEq, Int.reduceBNe, Int.reduceToNat, Int.reduceAdd, Int.reduceSub, Int.reduceMul, Int.reduceNeg, strs_length, flats_strs, hards_strs, leadss_strs, refsOfs_strs, rens_strs, strs_snoc, get_strs, hp, c1]
    · simp (dsimp := false) (disch := first | omega | (simp only [strs_length, List.length_set, List.length_replicate, words_length, ofBytes_length, List.length_append, List.length_cons, List.length_nil, List.length_take, List.length_drop] <;> omega) | fail) only [L.names_Ref, go_sem, reduceIte, reduceCtorEq, Nat.reduceEqDiff, Nat.reduceAdd, Nat.reduceSub, Nat.reduceMul, Nat.reduceDiv, Nat.reduceMod, Nat.reduceBEq, Nat.reduceLeDiff, Nat.reduceLT, Int.reduceEq, Int.reduceNe, Int.reduceLT, Int.reduceLE, Int.reduceBEq, Int.reduceBNe, Int.reduceToNat, Int.reduceAdd, Int.reduceSub, Int.reduceMul, Int.reduceNeg, strs_length, flats_strs, hards_strs, leadss_strs, refsOfs_strs, rens_strs, strs_snoc, get_strs, e1, c3]
end Cod


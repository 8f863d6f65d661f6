/- names.Ident. -/
import Derived.Test.YthlnjgdoodjgoaaGreatDoorXTxt3
import Derived.Test.YthlnjgdoodjgoaaGreatDoorXTxt2
import Derived.Test.YthlnjgdoodjgoaaGreatDoorXTxt1
set_option linter.unusedSimpArgs false
set_option linter.unusedVariables false
namespace Cod
open Go
theorem ge_containsAny4 {s : List UInt8} (hs : s.length ≤ 1000000) : S E F.strings_ContainsAny [.str s, .str [0, 10, 60, 62]] [] = some (.bool (s.any bad4), []) := S_ext ext0 (go_containsAny4 hs)
theorem any_bad4 (s : List UInt8) : s.any bad4 = (s.contains 0 || (s.contains 10 || (s.contains 60 || s.contains 62))) := by
  rw [Bool.eq_iff_iff]
  simp only [List.any_eq_true, bad4, Bool.or_eq_true, beq_iff_eq, List.contains_iff_mem]
  constructor
  · rintro ⟨b, hb, h | h | h | h⟩ <;> subst h <;> simp [hb]
  · rintro (h | h | h | h)
    · exact ⟨_, h, .inl rfl⟩
    · exact ⟨_, h, .inr (.inl rfl)⟩
    · exact ⟨_, h, .inr (.inr (.inl rfl))⟩
    · exact ⟨_, h, .inr (.inr (.inr rfl))⟩
theorem plain_any (s : List UInt8) : plainOK s = (decide (s.length ≤ 100) && !s.any bad4) := by
  unfold plainOK
  rw [any_bad4]
  simp only [Bool.not_or]
theorem go_nident {i : Idt} : S E F.names_Ident [.agg i.cells] [] = some (.bool (identOK i), []) := by
  rw [S_of fn_names_Ident rfl rfl]
  unfold identOK
  rw [plain_any, plain_any]
  by_cases l0 : 100 < i.name.length
  · simp (dsimp := false) (disch := first | omega | (simp only [LENs] <;> omega) | fail) only [L.names_Ident, L.names_Ident.x0, go_sem, reduceIte, reduceCtorEq, Nat.reduceEqDiff, Nat.reduceAdd, Nat.reduceSub, Nat.reduceMul, Nat.reduceDiv, Nat.reduceMod, Nat.reduceBEq, Nat.reduceLeDiff, Nat.reduceLT, Int.reduceEq, Int.reduceNe, Int.reduceLT, Int.reduceLE, Int.reduceBEq, Int.reduceBNe, Int.reduceToNat, Int.reduceAdd, Int.reduceSub, Int.reduceMul, Int.reduceNeg, Idt.cells, l0]
  · have h0 := ge_containsAny4 (s := i.name) (by omega)
    have l0' : i.name.length ≤ 100 := by omega
    cases c0 : i.name.any bad4
    · by_cases l1 : 100 < i.email.length
      · simp (dsimp := false) (disch := first | omega | (simp only [LENs] <;> omega) | fail) only [L.names_Ident, L.names_Ident.x0, go_sem, reduceIte, reduceCtorEq, Nat.reduceEqDiff, Nat.reduceAdd, Nat.reduceSub, Nat.reduceMul, Nat.reduceDiv, Nat.reduceMod, Nat.reduceBEq, Nat.reduceLeDiff, Nat.reduceLT, Int.reduceEq, Int.reduceNe, Int.reduceLT, Int.reduceLE, Int.reduceBEq, Int.reduceBNe, Int.reduceToNat, Int.reduceAdd, Int.reduceSub, Int.reduceMul, Int.reduceNeg, Idt.cells, l0, l0', l1, h0, c0, Bool.and_false, Bool.false_and]
      · have h1 := ge_containsAny4 (s := i.email) (by omega)
        have l1' : i.email.length ≤ 100 := by omega
        cases c1 : i.email.any bad4
        · have e1 : decide (-1440 < i.zone) = decide (-1439 ≤ i.zone) := by rw [decide_eq_decide]; omega
          have e2 : decide (i.zone < 1440) = decide (i.zone ≤ 1439) := by rw [decide_eq_decide]; omega
          by_cases t0 : 0 ≤ i.time
          · by_cases t1 : i.time ≤ 1099511627776
            · by_cases z0 : -1439 ≤ i.zone
              · by_cases z1 : i.zone ≤ 1439 <;> simp (dsimp := false) (disch := first | omega | (simp only [LENs] <;> omega) | fail) only [L.names_Ident, L.names_Ident.x0, L.names_Ident.r0, go_sem, reduceIte, reduceCtorEq, Nat.reduceEqDiff, Nat.reduceAdd, Nat.reduceSub, Nat.reduceMul, Nat.reduceDiv, Nat.reduceMod, Nat.reduceBEq, Nat.reduceLeDiff, Nat.reduceLT, Int.reduceEq, Int.reduceNe, Int.reduceLT, Int.reduceLE, Int.reduceBEq, Int.reduceBNe, Int.reduceToNat, Int.reduceAdd, Int.reduceSub, Int.reduceMul, Int.reduceNeg, Idt.cells, l0, l0', l1, l1', h0, c0, h1, c1, t0, t1, z0, z1, decide_true, decide_false, Bool.not_false, Bool.and_true, Bool.true_and]
              · simp (dsimp := false) (disch := first | omega | (simp only [LENs] <;> omega) | fail) only [L.names_Ident, L.names_Ident.x0, L.names_Ident.r0, go_sem, reduceIte, reduceCtorEq, Nat.reduceEqDiff, Nat.reduceAdd, Nat.reduceSub, Nat.reduceMul, Nat.reduceDiv, Nat.reduceMod, Nat.reduceBEq, Nat.reduceLeDiff, Nat.reduceLT, Int.reduceEq, Int.reduceNe, Int.reduceLT, Int.reduceLE, Int.reduceBEq, Int.reduceBNe, Int.reduceToNat, Int.reduceAdd, Int.reduceSub, Int.reduceMul, Int.reduceNeg, Idt.cells, l0, l0', l1, l1', h0, c0, h1, c1, t0, t1, z0, decide_true, decide_false, Bool.not_false, Bool.and_true, Bool.true_and, Bool.false_and]
            · simp (dsimp := false) (disch := first | omega | (simp only [LENs] <;> omega) | fail) only [L.names_Ident, L.names_Ident.x0, L.names_Ident.r0, go_sem, reduceIte, reduceCtorEq, Nat.reduceEqDiff, Nat.reduceAdd, Nat.reduceSub, Nat.reduceMul, Nat.reduceDiv, Nat.reduceMod, Nat.reduceBEq, Nat.reduceLeDiff, Nat.reduceLT, Int.reduceEq, Int.reduceNe, Int.reduceLT, Int.reduceLE, Int.reduceBEq, Int.reduceBNe, Int.reduceToNat, Int.reduceAdd, Int.reduceSub, Int.reduceMul, Int.reduceNeg, Idt.cells, l0, l0', l1, l1', h0, c0, h1, c1, t0, t1, decide_true, decide_false, Bool.not_false, Bool.and_true, Bool.true_and, Bool.false_and]
          · simp (dsimp := false) (disch := first | omega | (simp only [LENs] <;> omega) | fail) only [L.names_Ident, L.names_Ident.x0, L.names_Ident.r0, go_sem, reduceIte, reduceCtorEq, Nat.reduceEqDiff, Nat.reduceAdd, Nat.reduceSub, Nat.reduceMul, Nat.reduceDiv, Nat.reduceMod, Nat.reduceBEq, Nat.reduceLeDiff, Nat.reduceLT, Int.reduceEq, Int.reduceNe, Int.reduceLT, Int.reduceLE, Int.reduceBEq, Int.reduceBNe, Int.reduceToNat, Int.reduceAdd, Int.reduceSub, Int.reduceMul, Int.reduceNeg, Idt.cells, l0, l0', l1, l1', h0, c0, h1, c1, t0, decide_true, decide_false, Bool.not_false, Bool.and_true, Bool.true_and, Bool.false_and]
        · simp (dsimp := false) (disch := first | omega | (simp only [LENs] <;> omega) | fail) only [L.names_Ident, L.names_Ident.x0, go_sem, reduceIte, reduceCtorEq, Nat.reduceEqDiff, Nat.reduceAdd, Nat.reduceSub, Nat.reduceMul, Nat.reduceDiv, Nat.reduceMod, Nat.reduceBEq, Nat.reduceLeDiff, Nat.reduceLT, Int.reduceEq, Int.reduceNe, Int.reduceLT, Int.reduceLE, Int.reduceBEq, Int.reduceBNe, Int.reduceToNat, Int.reduceAdd, Int.reduceSub, Int.reduceMul, Int.reduceNeg, Idt.cells, l0, l0', l1, l1', h0, c0, h1, c1, Bool.not_true, Bool.and_false, Bool.false_and]
    · simp (dsimp := false) (disch := first | omega | (simp only [LENs] <;> omega) | fail) only [L.names_Ident, L.names_Ident.x0, go_sem, reduceIte, reduceCtorEq, Nat.reduceEqDiff, Nat.reduceAdd, Nat.reduceSub, Nat.reduceMul, Nat.reduceDiv, Nat.reduceMod, Nat.reduceBEq, Nat.reduceLeDiff, Nat.reduceLT, Int.reduceEq, Int.reduceNe, Int.reduceLT, Int.reduceLE, Int.reduceBEq, Int.reduceBNe, Int.reduceToNat, Int.reduceAdd, Int.reduceSub, Int.reduceMul, Int.reduceNeg, Idt.cells, l0, l0', h0, c0, Bool.not_true, Bool.and_false, Bool.false_and]
end Cod
namespace Cod
open Go
theorem zone_digits : ∀ n : Nat, n < 1440 → (Lib.itoa (10000 + (n : Int) / 60 * 100 + (n : Int) % 60)).drop 1 = two ((n : Int) / 60) ++ two ((n : Int) % 60) ∧ (Lib.itoa (10000 + (n : Int) / 60 * 100 + (n : Int) % 60)).length = 5 := by
  intro n hn
  have e : (10000 + (n : Int) / 60 * 100 + (n : Int) % 60) = ((10000 + n / 60 * 100 + n % 60 : Nat) : Int) := by omega
  rw [e]
  have h1 : n / 60 < 24 := by omega
  have h2 : n % 60 < 60 := by omega
  rw [Lib.itoa_nonneg]
  generalize ha : n / 60 = a at *
  generalize hb : n % 60 = b at *
  have d : Lib.decDigits (10000 + a * 100 + b) = [49, UInt8.ofNat (48 + a / 10), UInt8.ofNat (48 + a % 10), UInt8.ofNat (48 + b / 10), UInt8.ofNat (48 + b % 10)] := by
    rw [Lib.decDigits, dif_neg (by omega), Lib.decDigits, dif_neg (by omega), Lib.decDigits, dif_neg (by omega), Lib.decDigits, dif_neg (by omega), Lib.decDigits, dif_pos (by omega)]
    rw [show (10000 + a * 100 + b) / 10 / 10 / 10 / 10 = 1 by omega, show (10000 + a * 100 + b) / 10 / 10 / 10 % 10 = a / 10 by omega, show (10000 + a * 100 + b) / 10 / 10 % 10 = a % 10 by omega, show (10000 + a * 100 + b) / 10 % 10 = b / 10 by omega, show (10000 + a * 100 + b) % 10 = b % 10 by omega]
    rfl
  rw [d]
  refine ⟨?_, rfl⟩
  unfold two byt
  rw [show (48 + ((n : Int) / 60) / 10).toNat = 48 + a / 10 by omega, show (48 + ((n : Int) / 60) % 10).toNat = 48 + a % 10 by omega, show (48 + ((n : Int) % 60) / 10).toNat = 48 + b / 10 by omega, show (48 + ((n : Int) % 60) % 10).toNat = 48 + b % 10 by omega]
  rfl
theorem idt_0 (i : Idt) : i.cells[0]? = some (.str i.name) := rfl
theorem idt_1 (i : Idt) : i.cells[1]? = some (.str i.email) := rfl
theorem idt_2 (i : Idt) : i.cells[2]? = some (.int .i64 i.time) := rfl
theorem idt_3 (i : Idt) : i.cells[3]? = some (.int .i64 i.zone) := rfl
theorem go_putIdent {i : Idt} : S E F.names_PutIdent [.agg i.cells] [] = some (putV i, []) := by
  have h0 := go_nident (i := i)
  rw [S_of fn_names_PutIdent rfl rfl]
  unfold putV
  cases h : identOK i
  · simp (dsimp := false) (disch := first | omega | (simp only [LENs, two_length] <;> omega) | fail) only [L.names_PutIdent, go_sem, reduceIte, reduceCtorEq, Nat.reduceEqDiff, Nat.reduceAdd, Nat.reduceSub, Nat.reduceMul, Nat.reduceDiv, Nat.reduceMod, Nat.reduceBEq, Nat.reduceLeDiff, Nat.reduceLT, Int.reduceEq, Int.reduceNe, Int.reduceLT, Int.reduceLE, Int.reduceBEq, Int.reduceBNe, Int.reduceToNat, Int.reduceAdd, Int.reduceSub, Int.reduceMul, Int.reduceNeg, h0, h, Bool.not_false]
  · obtain ⟨p0, p1, t0, t1, z0, z1⟩ := (identOK_iff i).1 h
    have hi := S_itoa (n := i.time) (by omega)
    have hl := Lib.itoa_length_le i.time (by omega) (by omega)
    have hn := plain_len p0
    have he := plain_len p1
    by_cases hz : i.zone < 0
    · obtain ⟨m, hm⟩ : ∃ m : Nat, -i.zone = m := ⟨(-i.zone).toNat, by omega⟩
      have hj := S_itoa (n := 10000 + (m : Int) / 60 * 100 + (m : Int) % 60) (by omega)
      obtain ⟨d1, d2⟩ := zone_digits m (by omega)
      have d3 : sub (Lib.itoa (10000 + (m : Int) / 60 * 100 + (m : Int) % 60)) 1 4 = two ((m : Int) / 60) ++ two ((m : Int) % 60) := by
        unfold sub; rw [d1]; rfl
      simp (dsimp := false) (disch := first | omega | (simp only [LENs, two_length] <;> omega) | fail) only [L.names_PutIdent, go_sem, reduceIte, reduceCtorEq, Nat.reduceEqDiff, Nat.reduceAdd, Nat.reduceSub, Nat.reduceMul, Nat.reduceDiv, Nat.reduceMod, Nat.reduceBEq, Nat.reduceLeDiff, Nat.reduceLT, Int.reduceEq, Int.reduceNe, Int.reduceLT, Int.reduceLE, Int.reduceBEq, Int.reduceBNe, Int.reduceToNat, Int.reduceAdd, Int.reduceSub, Int.reduceMul, Int.reduceNeg, h0, h, Bool.not_true, idt_0, idt_1, idt_2, idt_3, hi, hz, Int.zero_sub, hm, tdiv_pos, tmod_pos, hj, d2, d3]
      simp only [putI, zoneT, hz, if_true, hm, List.append_assoc, List.cons_append, List.nil_append]
    · obtain ⟨m, hm⟩ : ∃ m : Nat, i.zone = m := ⟨i.zone.toNat, by omega⟩
      have hj := S_itoa (n := 10000 + (m : Int) / 60 * 100 + (m : Int) % 60) (by omega)
      obtain ⟨d1, d2⟩ := zone_digits m (by omega)
      have d3 : sub (Lib.itoa (10000 + (m : Int) / 60 * 100 + (m : Int) % 60)) 1 4 = two ((m : Int) / 60) ++ two ((m : Int) % 60) := by
        unfold sub; rw [d1]; rfl
      have hz2 : ¬ (m : Int) < 0 := by omega
      simp (dsimp := false) (disch := first | omega | (simp only [LENs, two_length] <;> omega) | fail) only [L.names_PutIdent, go_sem, reduceIte, reduceCtorEq, Nat.reduceEqDiff, Nat.reduceAdd, Nat.reduceSub, Nat.reduceMul, Nat.reduceDiv, Nat.reduceMod, Nat.reduceBEq, Nat.reduceLeDiff, Nat.reduceLT, Int.reduceEq, Int.reduceNe, Int.reduceLT, Int.reduceLE, Int.reduceBEq, Int.reduceBNe, Int.reduceToNat, Int.reduceAdd, Int.reduceSub, Int.reduceMul, Int.reduceNeg, h0, h, Bool.not_true, idt_0, idt_1, idt_2, idt_3, hi, hz2, hm, tdiv_pos, tmod_pos, hj, d2, d3]
      simp only [putI, zoneT, hm, hz2, if_false, List.append_assoc, List.cons_append, List.nil_append]
end Cod
namespace Cod
open Go
theorem go_cut_any {s : List UInt8} (hs : s.length ≤ 1000000000000) : ∃ a b c d ok, S E F.names_cut [.str s] [] = some (.tup [.agg [.str a, .str b, .str c, .str d], .bool ok], []) ∧ c.length ≤ 1000000000000 ∧ d.length ≤ 1000000000000 := by
  have hsub : ∀ (l : List UInt8) (a n : Nat), (sub l a n).length ≤ l.length := by
    intro l a n; unfold sub; rw [List.length_take, List.length_drop]; omega
  rcases lastB_range s 32 s.length with h | ⟨i, h, hi, _⟩
  · exact ⟨[], [], [], [], false, cut_a hs h, by simp, by simp⟩
  · have hr := hsub s 0 i
    have hz := hsub s (i + 1) (s.length - (i + 1))
    rcases lastB_range (sub s 0 i) 32 (sub s 0 i).length with h1 | ⟨j, h1, hj, _⟩
    · exact ⟨[], [], [], _, false, cut_b hs h hi rfl rfl h1, by simp, by omega⟩
    · have hq := hsub (sub s 0 i) (j + 1) ((sub s 0 i).length - (j + 1))
      by_cases h2 : Lib.lastIndex (sub (sub s 0 i) 0 j) [32, 60] < 0 ∨ endsB (sub (sub s 0 i) 0 j) [62] = false
      · exact ⟨[], [], _, _, false, cut_c hs h hi rfl rfl h1 hj rfl rfl h2, by omega, by omega⟩
      · have h3 : ¬ Lib.lastIndex (sub (sub s 0 i) 0 j) [32, 60] < 0 := fun x => h2 (.inl x)
        have h4 : endsB (sub (sub s 0 i) 0 j) [62] = true := by
          cases hb : endsB (sub (sub s 0 i) 0 j) [62]
          · exact absurd (.inr hb) h2
          · rfl
        rcases last_cases (sub (sub s 0 i) 0 j) with h5 | ⟨k, h5⟩
        · exact absurd h5 h3
        · exact ⟨_, _, _, _, true, cut_d hs h hi rfl rfl h1 hj rfl rfl h5 (last_room h5 h4) h4, by omega, by omega⟩
theorem sub_pre {a b : List UInt8} : sub (a ++ b) 0 a.length = a := by unfold sub; simp
theorem sub_post {a b : List UInt8} {x : UInt8} {n m : Nat} (hn : n = a.length + 1) (hm : m = b.length) : sub (a ++ x :: b) n m = b := by
  subst hn hm; unfold sub; rw [show a ++ x :: b = (a ++ [x]) ++ b by simp, List.drop_left' (by simp), List.take_length]
theorem plain_mem {s : List UInt8} (h : plainOK s = true) : 0 ∉ s ∧ 10 ∉ s ∧ 60 ∉ s ∧ 62 ∉ s := by
  unfold plainOK at h
  simp only [Bool.and_eq_true, Bool.not_eq_true', List.contains_eq_mem, decide_eq_false_iff_not] at h
  exact ⟨h.2.1, h.2.2.1, h.2.2.2.1, h.2.2.2.2⟩
def zabs (z : Int) : Int := if z < 0 then -z else z
theorem zoneT_eq (z : Int) : zoneT z = (if z < 0 then 45 else 43) :: (two (zabs z / 60) ++ two (zabs z % 60)) := rfl
theorem zabs_range {z : Int} (h0 : -1439 ≤ z) (h1 : z ≤ 1439) : 0 ≤ zabs z ∧ zabs z < 1440 := by unfold zabs; split <;> omega
theorem zone_no32 {z : Int} (h0 : -1439 ≤ z) (h1 : z ≤ 1439) : 32 ∉ zoneT z := by
  obtain ⟨a0, a1⟩ := zabs_range h0 h1
  rw [zoneT_eq]
  have := dig_ne (zone4 (a := zabs z / 60) (b := zabs z % 60) (by omega) (by omega) (by omega) (by omega)).1 (x := 32) (by unfold isDig; decide)
  simp only [List.mem_cons, not_or]
  refine ⟨?_, this⟩
  split <;> decide
theorem zone_len (z : Int) : (zoneT z).length = 5 := rfl
theorem putI_eq (i : Idt) : putI i = (i.name ++ [32, 60] ++ (i.email ++ [62]) ++ 32 :: Lib.itoa i.time) ++ 32 :: zoneT i.zone := by
  unfold putI; simp
theorem putI_len {i : Idt} (h : identOK i = true) : (putI i).length ≤ 1000 := by
  obtain ⟨p0, p1, t0, t1, z0, z1⟩ := (identOK_iff i).1 h
  have hl := Lib.itoa_length_le i.time (by omega) (by omega)
  have hn := plain_len p0
  have he := plain_len p1
  unfold putI
  simp only [List.length_append, List.length_cons, List.length_nil, zone_len]
  omega
theorem go_cut_put {i : Idt} (h : identOK i = true) : S E F.names_cut [.str (putI i)] [] = some (.tup [.agg [.str i.name, .str i.email, .str (Lib.itoa i.time), .str (zoneT i.zone)], .bool true], []) := by
  obtain ⟨p0, p1, t0, t1, z0, z1⟩ := (identOK_iff i).1 h
  have hs := putI_len h
  obtain ⟨d0, _, _⟩ := itoa_dig t0
  have m1 := dig_ne d0 (x := 32) (by unfold isDig; decide)
  have m2 := zone_no32 z0 z1
  obtain ⟨_, _, e60, _⟩ := plain_mem p1
  have m3 : 60 ∉ i.email ++ [62] := by simp [e60]
  have hend : endsB (i.name ++ [32, 60] ++ (i.email ++ [62])) [62] = true := by
    rw [ends1]
    refine ⟨by simp, ?_⟩
    rw [← List.append_assoc]
    simp
  have hlen : (i.name ++ [32, 60] ++ (i.email ++ [62])).length = i.name.length + 2 + (i.email.length + 1) := by simp only [List.length_append, List.length_cons, List.length_nil]
  have := cut_d (s := putI i) (i := (i.name ++ [32, 60] ++ (i.email ++ [62]) ++ 32 :: Lib.itoa i.time).length) (r := i.name ++ [32, 60] ++ (i.email ++ [62]) ++ 32 :: Lib.itoa i.time) (z := zoneT i.zone) (j := (i.name ++ [32, 60] ++ (i.email ++ [62])).length) (q := i.name ++ [32, 60] ++ (i.email ++ [62])) (t := Lib.itoa i.time) (k := i.name.length)
    (by omega) (by rw [putI_eq]; exact lastB_app m2) (by rw [putI_eq]; simp) (by rw [putI_eq]; exact sub_pre) (by rw [putI_eq]; exact sub_post rfl (by simp only [List.length_append, List.length_cons]; omega))
    (lastB_app m1) (by simp) sub_pre (sub_post rfl (by simp only [List.length_append, List.length_cons]; omega)) (last_app m3) (by rw [hlen]; omega) hend
  rw [this]
  have e1 : sub (i.name ++ [32, 60] ++ (i.email ++ [62])) 0 i.name.length = i.name := by rw [List.append_assoc]; exact sub_pre
  have e2 : sub (i.name ++ [32, 60] ++ (i.email ++ [62])) (i.name.length + 2) ((i.name ++ [32, 60] ++ (i.email ++ [62])).length - 1 - (i.name.length + 2)) = i.email := by
    rw [hlen, show i.name.length + 2 + (i.email.length + 1) - 1 - (i.name.length + 2) = i.email.length by omega]
    unfold sub
    rw [List.drop_left' (by simp), List.take_left' rfl]
  rw [e1, e2]
theorem atoi_range {s : List UInt8} {v : Int} (h : Lib.atoiAll s = .ok v) : -9223372036854775808 ≤ v ∧ v < 9223372036854775808 := by
  unfold Lib.atoiAll at h
  split at h
  · cases h
  · dsimp only at h
    split at h
    · cases h
    · cases h
    · split at h
      · cases h
      · split at h
        · cases h
        · cases h
          split <;> omega
def zeroI : List AV := [.str [], .str [], .int .i64 0, .int .i64 0]
def errP : AV := .tup [.agg zeroI, .int .i64 4]
theorem go_parse_put {i : Idt} (h : identOK i = true) : S E F.names_ParseIdent [.str (putI i)] [] = some (.tup [.agg i.cells, .int .i64 0], []) := by
  obtain ⟨p0, p1, t0, t1, z0, z1⟩ := (identOK_iff i).1 h
  obtain ⟨a0, a1⟩ := zabs_range z0 z1
  have hs := putI_len h
  have hc := go_cut_put h
  have hl := Lib.itoa_length_le i.time (by omega) (by omega)
  obtain ⟨d0, d1, d2⟩ := itoa_dig t0
  have ht := S_atoi (s := Lib.itoa i.time) (by omega)
  rw [show atoiV (Lib.itoa i.time) = .tup [.int .i64 i.time, .nili] by unfold atoiV; rw [atoi_dig d2 d0 (by omega)]; simp only [d1]] at ht
  obtain ⟨q0, q1⟩ := zone4 (a := zabs i.zone / 60) (b := zabs i.zone % 60) (by omega) (by omega) (by omega) (by omega)
  have hz := S_atoi (s := two (zabs i.zone / 60) ++ two (zabs i.zone % 60)) (by simp only [two, List.length_append, List.length_cons, List.length_nil]; omega)
  rw [show atoiV (two (zabs i.zone / 60) ++ two (zabs i.zone % 60)) = .tup [.int .i64 (zabs i.zone / 60 * 100 + zabs i.zone % 60), .nili] by unfold atoiV; rw [atoi_dig (by simp [two]) q0 (by omega)]; simp only [q1]] at hz
  have e3 : sub (zoneT i.zone) 1 4 = two (zabs i.zone / 60) ++ two (zabs i.zone % 60) := rfl
  have e4 := zone_len i.zone
  have hp : S E F.names_PutIdent [.agg [.str i.name, .str i.email, .int .i64 i.time, .int .i64 i.zone]] [] = some (.tup [.str (putI i), .int .i64 0], []) := by
    have hp := go_putIdent (i := i)
    unfold putV at hp
    rw [if_pos h] at hp
    exact hp
  have e5 : (zabs i.zone / 60 * 100 + zabs i.zone % 60) / 100 * 60 + (zabs i.zone / 60 * 100 + zabs i.zone % 60) % 100 = zabs i.zone := by omega
  have e7 : (putI i != putI i) = false := by simp
  rw [S_of fn_names_ParseIdent rfl rfl]
  by_cases hn : i.zone < 0
  · have hz2 : zabs i.zone = - i.zone := by unfold zabs; rw [if_pos hn]
    have hb : bat (zoneT i.zone) 0 = 45 := by rw [zoneT_eq, if_pos hn]; rfl
    have e6 : 0 - zabs i.zone = i.zone := by omega
    simp (dsimp := false) (disch := first | omega | (simp only [LENs, two_length] <;> omega) | fail) only [L.names_ParseIdent, go_sem, reduceIte, reduceCtorEq, Nat.reduceEqDiff, Nat.reduceAdd, Nat.reduceSub, Nat.reduceMul, Nat.reduceDiv, Nat.reduceMod, Nat.reduceBEq, Nat.reduceLeDiff, Nat.reduceLT, Int.reduceEq, Int.reduceNe, Int.reduceLT, Int.reduceLE, Int.reduceBEq, Int.reduceBNe, Int.reduceToNat, Int.reduceAdd, Int.reduceSub, Int.reduceMul, Int.reduceNeg, hc, ht, hz, e3, e4, tdiv_pos, tmod_pos, e5, hb, e6, hp, e7, Idt.cells]
  · have hz2 : zabs i.zone = i.zone := by unfold zabs; rw [if_neg hn]
    have hb : bat (zoneT i.zone) 0 = 43 := by rw [zoneT_eq, if_neg hn]; rfl
    rw [hz2] at hz e3 e5
    simp (dsimp := false) (disch := first | omega | (simp only [LENs, two_length] <;> omega) | fail) only [L.names_ParseIdent, go_sem, reduceIte, reduceCtorEq, Nat.reduceEqDiff, Nat.reduceAdd, Nat.reduceSub, Nat.reduceMul, Nat.reduceDiv, Nat.reduceMod, Nat.reduceBEq, Nat.reduceLeDiff, Nat.reduceLT, Int.reduceEq, Int.reduceNe, Int.reduceLT, Int.reduceLE, Int.reduceBEq, Int.reduceBNe, Int.reduceToNat, Int.reduceAdd, Int.reduceSub, Int.reduceMul, Int.reduceNeg, hc, ht, hz, e3, e4, tdiv_pos, tmod_pos, e5, hb, hp, e7, Idt.cells]
theorem atoi_cases (s : List UInt8) : (∃ v, Lib.atoiAll s = .ok v ∧ atoiV s = .tup [.int .i64 v, .nili] ∧ -9223372036854775808 ≤ v ∧ v < 9223372036854775808) ∨ ∃ v T, atoiV s = .tup [.int .i64 v, .ifc T .junk] := by
  unfold atoiV
  split
  · rename_i v h
    left; exact ⟨v, h, rfl, atoi_range h⟩
  · right; exact ⟨_, _, rfl⟩
  · right; exact ⟨_, _, rfl⟩
theorem quo_rem {z : Int} (h0 : -9223372036854775808 ≤ z) (h1 : z < 9223372036854775808) : ∃ q r, z.tdiv 100 = q ∧ z.tmod 100 = r ∧ -92233720368547758 ≤ q ∧ q ≤ 92233720368547758 ∧ -100 < r ∧ r < 100 := by
  by_cases h : 0 ≤ z
  · exact ⟨_, _, rfl, rfl, by rw [Int.tdiv_eq_ediv_of_nonneg h]; omega, by rw [Int.tdiv_eq_ediv_of_nonneg h]; omega, by rw [Int.tmod_eq_emod_of_nonneg h]; omega, by rw [Int.tmod_eq_emod_of_nonneg h]; omega⟩
  · obtain ⟨y, rfl⟩ : ∃ y, z = -y := ⟨-z, by omega⟩
    rw [Int.neg_tdiv, Int.neg_tmod]
    exact ⟨_, _, rfl, rfl, by rw [Int.tdiv_eq_ediv_of_nonneg (by omega)]; omega, by rw [Int.tdiv_eq_ediv_of_nonneg (by omega)]; omega, by rw [Int.tmod_eq_emod_of_nonneg (by omega)]; omega, by rw [Int.tmod_eq_emod_of_nonneg (by omega)]; omega⟩
theorem put_no {s : List UInt8} (h : ∀ i, identOK i = true → putI i ≠ s) (a b : List UInt8) (t z : Int) : ∃ p e, S E F.names_PutIdent [.agg [.str a, .str b, .int .i64 t, .int .i64 z]] [] = some (.tup [.str p, .int .i64 e], []) ∧ (e = 3 ∨ e = 0 ∧ (p == s) = false) := by
  have hp := go_putIdent (i := ⟨a, b, t, z⟩)
  unfold putV at hp
  by_cases hi : identOK ⟨a, b, t, z⟩ = true
  · rw [if_pos hi] at hp
    exact ⟨_, _, hp, .inr ⟨rfl, by simpa using h _ hi⟩⟩
  · rw [if_neg hi] at hp
    exact ⟨_, _, hp, .inl rfl⟩
theorem go_parse_no {s : List UInt8} (hs : s.length ≤ 1000000000000) (h : ∀ i, identOK i = true → putI i ≠ s) : S E F.names_ParseIdent [.str s] [] = some (errP, []) := by
  obtain ⟨a, b, c, d, ok, hc, lc, ld⟩ := go_cut_any hs
  rw [S_of fn_names_ParseIdent rfl rfl]
  cases ok
  · simp (dsimp := false) (disch := first | omega | (simp only [LENs, two_length] <;> omega) | fail) only [L.names_ParseIdent, go_sem, reduceIte, reduceCtorEq, Nat.reduceEqDiff, Nat.reduceAdd, Nat.reduceSub, Nat.reduceMul, Nat.reduceDiv, Nat.reduceMod, Nat.reduceBEq, Nat.reduceLeDiff, Nat.reduceLT, Int.reduceEq, Int.reduceNe, Int.reduceLT, Int.reduceLE, Int.reduceBEq, Int.reduceBNe, Int.reduceToNat, Int.reduceAdd, Int.reduceSub, Int.reduceMul, Int.reduceNeg, hc, errP, zeroI]
  · by_cases hd : d.length = 5
    · have ht := S_atoi (s := c) (by omega)
      have hsl : (sub d 1 4).length ≤ 4 := by unfold sub; rw [List.length_take]; omega
      have hz := S_atoi (s := sub d 1 4) (by omega)
      rcases atoi_cases c with ⟨t, _, e1, _⟩ | ⟨t, T1, e1⟩
      · rcases atoi_cases (sub d 1 4) with ⟨z, _, e2, z0, z1⟩ | ⟨z, T2, e2⟩
        · obtain ⟨q, r, hq, hr, q0, q1, r0, r1⟩ := quo_rem z0 z1
          rw [e1] at ht
          rw [e2] at hz
          by_cases hb : bat d 0 = 45
          · obtain ⟨p, e, hp, hpe⟩ := put_no h a b t (0 - (q * 60 + r))
            rcases hpe with rfl | ⟨rfl, hne⟩
            · simp (dsimp := false) (disch := first | omega | (simp only [LENs, two_length] <;> omega) | fail) only [L.names_ParseIdent, go_sem, reduceIte, reduceCtorEq, Nat.reduceEqDiff, Nat.reduceAdd, Nat.reduceSub, Nat.reduceMul, Nat.reduceDiv, Nat.reduceMod, Nat.reduceBEq, Nat.reduceLeDiff, Nat.reduceLT, Int.reduceEq, Int.reduceNe, Int.reduceLT, Int.reduceLE, Int.reduceBEq, Int.reduceBNe, Int.reduceToNat, Int.reduceAdd, Int.reduceSub, Int.reduceMul, Int.reduceNeg, hc, ht, hz, hd, hq, hr, hb, hp, errP, zeroI]
            · simp (dsimp := false) (disch := first | omega | (simp only [LENs, two_length] <;> omega) | fail) only [L.names_ParseIdent, go_sem, reduceIte, reduceCtorEq, Nat.reduceEqDiff, Nat.reduceAdd, Nat.reduceSub, Nat.reduceMul, Nat.reduceDiv, Nat.reduceMod, Nat.reduceBEq, Nat.reduceLeDiff, Nat.reduceLT, Int.reduceEq, Int.reduceNe, Int.reduceLT, Int.reduceLE, Int.reduceBEq, Int.reduceBNe, Int.reduceToNat, Int.reduceAdd, Int.reduceSub, Int.reduceMul, Int.reduceNeg, hc, ht, hz, hd, hq, hr, hb, hp, hne, errP, zeroI]
          · obtain ⟨p, e, hp, hpe⟩ := put_no h a b t (q * 60 + r)
            rcases hpe with rfl | ⟨rfl, hne⟩
            · simp (dsimp := false) (disch := first | omega | (simp only [LENs, two_length] <;> omega) | fail) only [L.names_ParseIdent, go_sem, reduceIte, reduceCtorEq, Nat.reduceEqDiff, Nat.reduceAdd, Nat.reduceSub, Nat.reduceMul, Nat.reduceDiv, Nat.reduceMod, Nat.reduceBEq, Nat.reduceLeDiff, Nat.reduceLT, Int.reduceEq, Int.reduceNe, Int.reduceLT, Int.reduceLE, Int.reduceBEq, Int.reduceBNe, Int.reduceToNat, Int.reduceAdd, Int.reduceSub, Int.reduceMul, Int.reduceNeg, hc, ht, hz, hd, hq, hr, hb, hp, errP, zeroI]
            · simp (dsimp := false) (disch := first | omega | (simp only [LENs, two_length] <;> omega) | fail) only [L.names_ParseIdent, go_sem, reduceIte, reduceCtorEq, Nat.reduceEqDiff, Nat.reduceAdd, Nat.reduceSub, Nat.reduceMul, Nat.reduceDiv, Nat.reduceMod, Nat.reduceBEq, Nat.reduceLeDiff, Nat.reduceLT, Int.reduceEq, Int.reduceNe, Int.reduceLT, Int.reduceLE, Int.reduceBEq, Int.reduceBNe, Int.reduceToNat, Int.reduceAdd, Int.reduceSub, Int.reduceMul, Int.reduceNeg, hc, ht, hz, hd, hq, hr, hb, hp, hne, errP, zeroI]
        · rw [e1] at ht
          rw [e2] at hz
          simp (dsimp := false) (disch := first | omega | (simp only [LENs, two_length] <;> omega) | fail) only [L.names_ParseIdent, go_sem, reduceIte, reduceCtorEq, Nat.reduceEqDiff, Nat.reduceAdd, Nat.reduceSub, Nat.reduceMul, Nat.reduceDiv, Nat.reduceMod, Nat.reduceBEq, Nat.reduceLeDiff, Nat.reduceLT, Int.reduceEq, Int.reduceNe, Int.reduceLT, Int.reduceLE, Int.reduceBEq, Int.reduceBNe, Int.reduceToNat, Int.reduceAdd, Int.reduceSub, Int.reduceMul, Int.reduceNeg, hc, ht, hz, hd, errP, zeroI]
      · rw [e1] at ht
        rcases atoi_cases (sub d 1 4) with ⟨z, _, e2, z0, z1⟩ | ⟨z, T2, e2⟩
        · rw [e2] at hz
          simp (dsimp := false) (disch := first | omega | (simp only [LENs, two_length] <;> omega) | fail) only [L.names_ParseIdent, go_sem, reduceIte, reduceCtorEq, Nat.reduceEqDiff, Nat.reduceAdd, Nat.reduceSub, Nat.reduceMul, Nat.reduceDiv, Nat.reduceMod, Nat.reduceBEq, Nat.reduceLeDiff, Nat.reduceLT, Int.reduceEq, Int.reduceNe, Int.reduceLT, Int.reduceLE, Int.reduceBEq, Int.reduceBNe, Int.reduceToNat, Int.reduceAdd, Int.reduceSub, Int.reduceMul, Int.reduceNeg, hc, ht, hz, hd, errP, zeroI]
        · rw [e2] at hz
          simp (dsimp := false) (disch := first | omega | (simp only [LENs, two_length] <;> omega) | fail) only [L.names_ParseIdent, go_sem, reduceIte, reduceCtorEq, Nat.reduceEqDiff, Nat.reduceAdd, Nat.reduceSub, Nat.reduceMul, Nat.reduceDiv, Nat.reduceMod, Nat.reduceBEq, Nat.reduceLeDiff, Nat.reduceLT, Int.reduceEq, Int.reduceNe, Int.reduceLT, Int.reduceLE, Int.reduceBEq, Int.reduceBNe, Int.reduceToNat, Int.reduceAdd, Int.reduceSub, Int.reduceMul, Int.reduceNeg, hc, ht, hz, hd, errP, zeroI]
    · simp (dsimp := false) (disch := first | omega | (simp only [LENs, two_length] <;> omega) | fail) only [L.names_ParseIdent, go_sem, reduceIte, reduceCtorEq, Nat.reduceEqDiff, Nat.reduceAdd, Nat.reduceSub, Nat.reduceMul, Nat.reduceDiv, Nat.reduceMod, Nat.reduceBEq, Nat.reduceLeDiff, Nat.reduceLT, Int.reduceEq, Int.reduceNe, Int.reduceLT, Int.reduceLE, Int.reduceBEq, Int.reduceBNe, Int.reduceToNat, Int.reduceAdd, Int.reduceSub, Int.reduceMul, Int.reduceNeg, hc, hd, errP, zeroI]
end Cod
namespace Cod
open Go
def scn (s : List UInt8) (c : UInt8) : Nat → Nat → Nat
  | 0, i => i
  | m + 1, i => if s.getD i 0 = c then i else scn s c m (i + 1)
theorem scn_le (s : List UInt8) (c : UInt8) : ∀ m i, i ≤ scn s c m i ∧ scn s c m i ≤ i + m := by
  intro m
  induction m with
  | zero => intro i; simp [scn]
  | succ m ih =>
    intro i
    unfold scn
    split
    · omega
    · have := ih (i + 1); omega
theorem scn_hit (s : List UInt8) (c : UInt8) : ∀ m i, scn s c m i < i + m → s.getD (scn s c m i) 0 = c := by
  intro m
  induction m with
  | zero => intro i h; simp [scn] at h
  | succ m ih =>
    intro i h
    unfold scn at h ⊢
    split
    · rename_i h1; exact h1
    · rename_i h1
      rw [if_neg h1] at h
      exact ih (i + 1) (by omega)
theorem scn_eq (s : List UInt8) (c : UInt8) (k : Nat) (hk : s.getD k 0 = c) : ∀ m i, i ≤ k → k < i + m → (∀ j, i ≤ j → j < k → s.getD j 0 ≠ c) → scn s c m i = k := by
  intro m
  induction m with
  | zero => intro i h1 h2; omega
  | succ m ih =>
    intro i h1 h2 h3
    unfold scn
    by_cases h : i = k
    · rw [h, if_pos hk]
    · rw [if_neg (h3 i (Nat.le_refl _) (by omega))]
      exact ih (i + 1) (by omega) (by omega) (fun j a b => h3 j (by omega) b)
def σD : Store := [(.s 1000000 0, ⟨0, true, true, true, [.str [], .str [], .int .i64 0, .int .i64 0]⟩)]
theorem dp_l0 (k : List It) {s : List UInt8} {n : Int} (hs : s.length ≤ 1000000000000) : ∀ (m i : Nat), i + m = s.length →
    X E [.cell 2 (some 4), .tmp 3] (.c L.ref06_DocParseIdent.x0 :: .lp [0, 2, 4, 5] L.ref06_DocParseIdent.x0 :: .blk 0 :: k) ⟨[(0, .str s), (2, .ref (.s 1000000 0) 0 0), (4, .int .i64 n), (5, .int .i64 i)], σD⟩ =
    X E [.cell 2 (some 4), .tmp 3] k ⟨[(0, .str s), (2, .ref (.s 1000000 0) 0 0), (4, .int .i64 n), (5, .int .i64 (scn s 60 m i)), (21, .bool false)], σD⟩ := by
  intro m
  induction m with
  | zero =>
    intro i hi
    rw [X_in L.ref06_DocParseIdent.x0.eq_1, scn]
    simp (dsimp := false) (disch := first | omega | (simp only [LENs, two_length] <;> omega) | fail) only [go_sem, reduceIte, reduceCtorEq, Nat.reduceEqDiff, Nat.reduceAdd, Nat.reduceSub, Nat.reduceMul, Nat.reduceDiv, Nat.reduceMod, Nat.reduceBEq, Nat.reduceLeDiff, Nat.reduceLT, Int.reduceEq, Int.reduceNe, Int.reduceLT, Int.reduceLE, Int.reduceBEq, Int.reduceBNe, Int.reduceToNat, Int.reduceAdd, Int.reduceSub, Int.reduceMul, Int.reduceNeg, σD]
  | succ m ih =>
    intro i hi
    have hp : i < s.length := by omega
    rw [X_in L.ref06_DocParseIdent.x0.eq_1, scn]
    by_cases hc : s.getD i 0 = 60
    · rw [if_pos hc]
      have hb : (bat s i != 60) = false := bne_f (by unfold bat; rw [hc]; rfl)
      simp (dsimp := false) (disch := first | omega | (simp only [LENs, two_length] <;> omega) | fail) only [go_sem, reduceIte, reduceCtorEq, Nat.reduceEqDiff, Nat.reduceAdd, Nat.reduceSub, Nat.reduceMul, Nat.reduceDiv, Nat.reduceMod, Nat.reduceBEq, Nat.reduceLeDiff, Nat.reduceLT, Int.reduceEq, Int.reduceNe, Int.reduceLT, Int.reduceLE, Int.reduceBEq, Int.reduceBNe, Int.reduceToNat, Int.reduceAdd, Int.reduceSub, Int.reduceMul, Int.reduceNeg, hp, hb, σD]
    · rw [if_neg hc, ← ih (i + 1) (by omega)]
      have hb : (bat s i != 60) = true := bne_t (fun h => hc (UInt8.toNat_inj.1 (by unfold bat at h; show (s.getD i 0).toNat = 60; omega)))
      simp (dsimp := false) (disch := first | omega | (simp only [LENs, two_length] <;> omega) | fail) only [go_sem, reduceIte, reduceCtorEq, Nat.reduceEqDiff, Nat.reduceAdd, Nat.reduceSub, Nat.reduceMul, Nat.reduceDiv, Nat.reduceMod, Nat.reduceBEq, Nat.reduceLeDiff, Nat.reduceLT, Int.reduceEq, Int.reduceNe, Int.reduceLT, Int.reduceLE, Int.reduceBEq, Int.reduceBNe, Int.reduceToNat, Int.reduceAdd, Int.reduceSub, Int.reduceMul, Int.reduceNeg, hp, hb, σD]
      rfl
theorem dp_l1 (k : List It) {s : List UInt8} {n a : Int} (hs : s.length ≤ 1000000000000) : ∀ (m i : Nat), i + m = s.length →
    X E [.cell 2 (some 4), .tmp 3] (.c L.ref06_DocParseIdent.x1 :: .lp [0, 2, 4, 5, 6] L.ref06_DocParseIdent.x1 :: .blk 2 :: k) ⟨[(0, .str s), (2, .ref (.s 1000000 0) 0 0), (4, .int .i64 n), (5, .int .i64 a), (6, .int .i64 i)], σD⟩ =
    X E [.cell 2 (some 4), .tmp 3] k ⟨[(0, .str s), (2, .ref (.s 1000000 0) 0 0), (4, .int .i64 n), (5, .int .i64 a), (6, .int .i64 (scn s 62 m i)), (34, .bool false)], σD⟩ := by
  intro m
  induction m with
  | zero =>
    intro i hi
    rw [X_in L.ref06_DocParseIdent.x1.eq_1, scn]
    simp (dsimp := false) (disch := first | omega | (simp only [LENs, two_length] <;> omega) | fail) only [go_sem, reduceIte, reduceCtorEq, Nat.reduceEqDiff, Nat.reduceAdd, Nat.reduceSub, Nat.reduceMul, Nat.reduceDiv, Nat.reduceMod, Nat.reduceBEq, Nat.reduceLeDiff, Nat.reduceLT, Int.reduceEq, Int.reduceNe, Int.reduceLT, Int.reduceLE, Int.reduceBEq, Int.reduceBNe, Int.reduceToNat, Int.reduceAdd, Int.reduceSub, Int.reduceMul, Int.reduceNeg, σD]
  | succ m ih =>
    intro i hi
    have hp : i < s.length := by omega
    rw [X_in L.ref06_DocParseIdent.x1.eq_1, scn]
    by_cases hc : s.getD i 0 = 62
    · rw [if_pos hc]
      have hb : (bat s i != 62) = false := bne_f (by unfold bat; rw [hc]; rfl)
      simp (dsimp := false) (disch := first | omega | (simp only [LENs, two_length] <;> omega) | fail) only [go_sem, reduceIte, reduceCtorEq, Nat.reduceEqDiff, Nat.reduceAdd, Nat.reduceSub, Nat.reduceMul, Nat.reduceDiv, Nat.reduceMod, Nat.reduceBEq, Nat.reduceLeDiff, Nat.reduceLT, Int.reduceEq, Int.reduceNe, Int.reduceLT, Int.reduceLE, Int.reduceBEq, Int.reduceBNe, Int.reduceToNat, Int.reduceAdd, Int.reduceSub, Int.reduceMul, Int.reduceNeg, hp, hb, σD]
    · rw [if_neg hc, ← ih (i + 1) (by omega)]
      have hb : (bat s i != 62) = true := bne_t (fun h => hc (UInt8.toNat_inj.1 (by unfold bat at h; show (s.getD i 0).toNat = 62; omega)))
      simp (dsimp := false) (disch := first | omega | (simp only [LENs, two_length] <;> omega) | fail) only [go_sem, reduceIte, reduceCtorEq, Nat.reduceEqDiff, Nat.reduceAdd, Nat.reduceSub, Nat.reduceMul, Nat.reduceDiv, Nat.reduceMod, Nat.reduceBEq, Nat.reduceLeDiff, Nat.reduceLT, Int.reduceEq, Int.reduceNe, Int.reduceLT, Int.reduceLE, Int.reduceBEq, Int.reduceBNe, Int.reduceToNat, Int.reduceAdd, Int.reduceSub, Int.reduceMul, Int.reduceNeg, hp, hb, σD]
      rfl
theorem numL_range : ∀ (l : List UInt8) (v : Int), 0 ≤ v → -1 ≤ numL l v ∧ numL l v < (v + 1) * 10 ^ l.length := by
  intro l
  induction l with
  | nil => intro v h; simp only [numL, List.length_nil, Int.pow_zero]; omega
  | cons c r ih =>
    intro v h
    unfold numL
    have hpos : (0 : Int) < 10 ^ r.length := Int.pow_pos (by omega)
    split
    · refine ⟨by omega, ?_⟩
      have : (0 : Int) < (v + 1) * 10 ^ (c :: r).length := Int.mul_pos (by omega) (Int.pow_pos (by omega))
      omega
    · rename_i hc
      obtain ⟨h1, h2⟩ := ih (10 * v + (c.toNat - 48)) (by omega)
      refine ⟨h1, Int.lt_of_lt_of_le h2 ?_⟩
      rw [List.length_cons, Int.pow_succ, Int.mul_comm (10 ^ r.length) 10, ← Int.mul_assoc]
      exact Int.mul_le_mul_of_nonneg_right (by omega) (Int.le_of_lt hpos)
theorem numF_range (l : List UInt8) : -1 ≤ numF l ∧ numF l < 10000000000000 := by
  unfold numF
  split
  · omega
  · rename_i h
    obtain ⟨h1, h2⟩ := numL_range l 0 (by omega)
    refine ⟨h1, ?_⟩
    have h3 : (10 : Int) ^ l.length ≤ 10 ^ 13 := by exact_mod_cast Nat.pow_le_pow_right (by omega) (by omega)
    have h4 : (10 : Int) ^ 13 = 10000000000000 := by decide
    omega
def docZ (s : List UInt8) : Int := numF (s.drop (s.length - 6 + 2))
def docZone (s : List UInt8) : Int := if s.getD (s.length - 6 + 1) 0 = 45 then 0 - (docZ s / 100 * 60 + docZ s % 100) else docZ s / 100 * 60 + docZ s % 100
def docAt (s : List UInt8) : Nat := scn s 60 s.length 0
def docTo (s : List UInt8) : Nat := scn s 62 (s.length - docAt s) (docAt s)
def docI (s : List UInt8) : Idt := ⟨s.take (docAt s - 1), sub s (docAt s + 1) (docTo s - (docAt s + 1)), numF (sub s (docTo s + 2) (s.length - 6 - (docTo s + 2))), docZone s⟩
def docOK (s : List UInt8) : Bool := decide (6 ≤ s.length ∧ 1 ≤ docAt s ∧ docTo s + 2 + 6 ≤ s.length ∧ 0 ≤ docZ s) && (identOK (docI s) && decide (putI (docI s) = s))
theorem go_docParse {s : List UInt8} (hs : s.length ≤ 1000000000000) : S E F.ref06_DocParseIdent [.str s] [] = some (if docOK s = true then .tup [.agg (docI s).cells, .int .i64 0] else errP, []) := by
  have h0 := dp_l0 [.c L.ref06_DocParseIdent.r0] (n := (s.length : Int) - 6) hs s.length 0 (by omega)
  have ha := scn_le s 60 s.length 0
  have h1 := dp_l1 [.c L.ref06_DocParseIdent.r1] (n := (s.length : Int) - 6) (a := docAt s) hs (s.length - docAt s) (docAt s) (by unfold docAt; omega)
  have hb := scn_le s 62 (s.length - docAt s) (docAt s)
  have hah : docAt s < s.length → s.getD (docAt s) 0 = 60 := fun h => scn_hit s 60 s.length 0 (by unfold docAt at h; omega)
  have hbh : docTo s < s.length → s.getD (docTo s) 0 = 62 := fun h => scn_hit s 62 (s.length - docAt s) (docAt s) (by unfold docTo at h; omega)
  simp only [Int.cast_ofNat_Int] at h0
  change X E _ _ _ = X E _ _ ⟨[_, _, _, (5, .int .i64 (docAt s)), _], _⟩ at h0
  change X E _ _ _ = X E _ _ ⟨[_, _, _, _, (6, .int .i64 (docTo s)), _], _⟩ at h1
  change docAt s ≤ docTo s ∧ docTo s ≤ _ at hb
  change 0 ≤ docAt s ∧ docAt s ≤ _ at ha
  unfold σD at h0 h1
  have hx : S E F.ref06_DocParseIdent [.str s] [] = X E [.cell 2 (some 4), .tmp 3] [.c L.ref06_DocParseIdent.r1] ⟨[(0, .str s), (2, .ref (.s 1000000 0) 0 0), (4, .int .i64 ((s.length : Int) - 6)), (5, .int .i64 (docAt s)), (6, .int .i64 (docTo s)), (34, .bool false)], [(.s 1000000 0, ⟨0, true, true, true, [.str [], .str [], .int .i64 0, .int .i64 0]⟩)]⟩ := by
    rw [S_of fn_ref06_DocParseIdent rfl rfl]
    simp (dsimp := false) (disch := first | omega | (simp only [LENs, two_length] <;> omega) | fail) only [L.ref06_DocParseIdent, go_sem, reduceIte, reduceCtorEq, Nat.reduceEqDiff, Nat.reduceAdd, Nat.reduceSub, Nat.reduceMul, Nat.reduceDiv, Nat.reduceMod, Nat.reduceBEq, Nat.reduceLeDiff, Nat.reduceLT, Int.reduceEq, Int.reduceNe, Int.reduceLT, Int.reduceLE, Int.reduceBEq, Int.reduceBNe, Int.reduceToNat, Int.reduceAdd, Int.reduceSub, Int.reduceMul, Int.reduceNeg]
    rw [h0]
    simp (dsimp := false) (disch := first | omega | (simp only [LENs, two_length] <;> omega) | fail) only [L.ref06_DocParseIdent.r0, go_sem, reduceIte, reduceCtorEq, Nat.reduceEqDiff, Nat.reduceAdd, Nat.reduceSub, Nat.reduceMul, Nat.reduceDiv, Nat.reduceMod, Nat.reduceBEq, Nat.reduceLeDiff, Nat.reduceLT, Int.reduceEq, Int.reduceNe, Int.reduceLT, Int.reduceLE, Int.reduceBEq, Int.reduceBNe, Int.reduceToNat, Int.reduceAdd, Int.reduceSub, Int.reduceMul, Int.reduceNeg]
    rw [h1]
  rw [hx]
  clear hx h0 h1
  by_cases c1 : 6 ≤ s.length
  · by_cases c2 : 1 ≤ docAt s
    · by_cases c3 : docTo s + 2 + 6 ≤ s.length
      · have hz : S E F.ref06_number [.str (s.drop (s.length - 6 + 2))] [] = some (.int .i64 (docZ s), []) := go_number
        have e1 : ((s.length : Int) - 6 + 2).toNat = s.length - 6 + 2 := by omega
        have e2 : sub s (s.length - 6 + 2) (s.length - (s.length - 6 + 2)) = s.drop (s.length - 6 + 2) := sub_drop (by omega)
        by_cases c4 : 0 ≤ docZ s
        · have hlt : docAt s < s.length := by omega
          have hne : docAt s ≠ docTo s := by
            intro h
            have a1 := hah hlt
            have a2 := hbh (by omega)
            rw [h, a2] at a1
            cases a1
          have e3 : ((s.length : Int) - 6 + 1).toNat = s.length - 6 + 1 := by omega
          have e4 : ((docAt s : Int) - 1).toNat = docAt s - 1 := by omega
          have e5 : ((docAt s : Int) + 1).toNat = docAt s + 1 := by omega
          have e6 : ((docTo s : Int) + 2).toNat = docTo s + 2 := by omega
          have e7 : ((s.length : Int) - 6).toNat = s.length - 6 := by omega
          have hn : S E F.ref06_number [.str (sub s (docTo s + 2) (s.length - 6 - (docTo s + 2)))] [] = some (.int .i64 (numF (sub s (docTo s + 2) (s.length - 6 - (docTo s + 2)))), []) := go_number
          obtain ⟨z0, z1⟩ := numF_range (s.drop (s.length - 6 + 2))
          change -1 ≤ docZ s at z0
          change docZ s < _ at z1
          have hsub : ∀ (a n : Nat), (sub s a n).length ≤ s.length := by
            intro a n; unfold sub; rw [List.length_take, List.length_drop]; omega
          have hid := go_rident (i := docI s) (by have := hsub 0 (docAt s - 1); exact Nat.le_trans this hs) (by have := hsub (docAt s + 1) (docTo s - (docAt s + 1)); exact Nat.le_trans this hs)
          have hb45 : (bat s (s.length - 6 + 1) == 45) = decide (s.getD (s.length - 6 + 1) 0 = 45) := by
            by_cases h : s.getD (s.length - 6 + 1) 0 = 45
            · rw [decide_eq_true h]; unfold bat; rw [h]; rfl
            · rw [decide_eq_false h]; exact beq_f (fun h2 => h (UInt8.toNat_inj.1 (by unfold bat at h2; show (s.getD (s.length - 6 + 1) 0).toNat = 45; omega)))
          have hcell : ∀ w, docZone s = w → (docI s).cells = [.str (sub s 0 (docAt s - 1)), .str (sub s (docAt s + 1) (docTo s - (docAt s + 1))), .int .i64 (numF (sub s (docTo s + 2) (s.length - 6 - (docTo s + 2)))), .int .i64 w] := by
            intro w hw; rw [← hw]; rfl
          have eOK : docOK s = (identOK (docI s) && decide (putI (docI s) = s)) := by unfold docOK; simp [c1, c2, c3, c4]
          rw [eOK]
          by_cases hm : s.getD (s.length - 6 + 1) 0 = 45
          · have hw := hcell (0 - (docZ s / 100 * 60 + docZ s % 100)) (by unfold docZone; rw [if_pos hm])
            rw [decide_eq_true hm] at hb45
            rw [hw] at hid
            cases ho : identOK (docI s)
            · rw [ho] at hid
              simp (dsimp := false) (disch := first | omega | (simp only [LENs, two_length] <;> omega) | fail) only [L.ref06_DocParseIdent.r1, go_sem, reduceIte, reduceCtorEq, Nat.reduceEqDiff, Nat.reduceAdd, Nat.reduceSub, Nat.reduceMul, Nat.reduceDiv, Nat.reduceMod, Nat.reduceBEq, Nat.reduceLeDiff, Nat.reduceLT, Int.reduceEq, Int.reduceNe, Int.reduceLT, Int.reduceLE, Int.reduceBEq, Int.reduceBNe, Int.reduceToNat, Int.reduceAdd, Int.reduceSub, Int.reduceMul, Int.reduceNeg, errP, zeroI, e1, e2, e3, e4, e5, e6, e7, hz, tdiv_pos, tmod_pos, hb45, hn, Nat.sub_zero, hid, Bool.false_and]
            · rw [ho] at hid
              have hp := go_rput ho
              rw [hw] at hp
              by_cases he : putI (docI s) = s
              · have he2 : (putI (docI s) == s) = true := by simp [he]
                simp (dsimp := false) (disch := first | omega | (simp only [LENs, two_length] <;> omega) | fail) only [L.ref06_DocParseIdent.r1, go_sem, reduceIte, reduceCtorEq, Nat.reduceEqDiff, Nat.reduceAdd, Nat.reduceSub, Nat.reduceMul, Nat.reduceDiv, Nat.reduceMod, Nat.reduceBEq, Nat.reduceLeDiff, Nat.reduceLT, Int.reduceEq, Int.reduceNe, Int.reduceLT, Int.reduceLE, Int.reduceBEq, Int.reduceBNe, Int.reduceToNat, Int.reduceAdd, Int.reduceSub, Int.reduceMul, Int.reduceNeg, errP, zeroI, e1, e2, e3, e4, e5, e6, e7, hz, tdiv_pos, tmod_pos, hb45, hn, Nat.sub_zero, hid, hp, he2, decide_eq_true he, Bool.true_and, hw]
              · have he2 : (putI (docI s) == s) = false := by simp [he]
                simp (dsimp := false) (disch := first | omega | (simp only [LENs, two_length] <;> omega) | fail) only [L.ref06_DocParseIdent.r1, go_sem, reduceIte, reduceCtorEq, Nat.reduceEqDiff, Nat.reduceAdd, Nat.reduceSub, Nat.reduceMul, Nat.reduceDiv, Nat.reduceMod, Nat.reduceBEq, Nat.reduceLeDiff, Nat.reduceLT, Int.reduceEq, Int.reduceNe, Int.reduceLT, Int.reduceLE, Int.reduceBEq, Int.reduceBNe, Int.reduceToNat, Int.reduceAdd, Int.reduceSub, Int.reduceMul, Int.reduceNeg, errP, zeroI, e1, e2, e3, e4, e5, e6, e7, hz, tdiv_pos, tmod_pos, hb45, hn, Nat.sub_zero, hid, hp, he2, decide_eq_false he, Bool.true_and]
          · have hw := hcell (docZ s / 100 * 60 + docZ s % 100) (by unfold docZone; rw [if_neg hm])
            rw [decide_eq_false hm] at hb45
            rw [hw] at hid
            cases ho : identOK (docI s)
            · rw [ho] at hid
              simp (dsimp := false) (disch := first | omega | (simp only [LENs, two_length] <;> omega) | fail) only [L.ref06_DocParseIdent.r1, go_sem, reduceIte, reduceCtorEq, Nat.reduceEqDiff, Nat.reduceAdd, Nat.reduceSub, Nat.reduceMul, Nat.reduceDiv, Nat.reduceMod, Nat.reduceBEq, Nat.reduceLeDiff, Nat.reduceLT, Int.reduceEq, Int.reduceNe, Int.reduceLT, Int.reduceLE, Int.reduceBEq, Int.reduceBNe, Int.reduceToNat, Int.reduceAdd, Int.reduceSub, Int.reduceMul, Int.reduceNeg, errP, zeroI, e1, e2, e3, e4, e5, e6, e7, hz, tdiv_pos, tmod_pos, hb45, hn, Nat.sub_zero, hid, Bool.false_and]
            · rw [ho] at hid
              have hp := go_rput ho
              rw [hw] at hp
              by_cases he : putI (docI s) = s
              · have he2 : (putI (docI s) == s) = true := by simp [he]
                simp (dsimp := false) (disch := first | omega | (simp only [LENs, two_length] <;> omega) | fail) only [L.ref06_DocParseIdent.r1, go_sem, reduceIte, reduceCtorEq, Nat.reduceEqDiff, Nat.reduceAdd, Nat.reduceSub, Nat.reduceMul, Nat.reduceDiv, Nat.reduceMod, Nat.reduceBEq, Nat.reduceLeDiff, Nat.reduceLT, Int.reduceEq, Int.reduceNe, Int.reduceLT, Int.reduceLE, Int.reduceBEq, Int.reduceBNe, Int.reduceToNat, Int.reduceAdd, Int.reduceSub, Int.reduceMul, Int.reduceNeg, errP, zeroI, e1, e2, e3, e4, e5, e6, e7, hz, tdiv_pos, tmod_pos, hb45, hn, Nat.sub_zero, hid, hp, he2, decide_eq_true he, Bool.true_and, hw]
              · have he2 : (putI (docI s) == s) = false := by simp [he]
                simp (dsimp := false) (disch := first | omega | (simp only [LENs, two_length] <;> omega) | fail) only [L.ref06_DocParseIdent.r1, go_sem, reduceIte, reduceCtorEq, Nat.reduceEqDiff, Nat.reduceAdd, Nat.reduceSub, Nat.reduceMul, Nat.reduceDiv, Nat.reduceMod, Nat.reduceBEq, Nat.reduceLeDiff, Nat.reduceLT, Int.reduceEq, Int.reduceNe, Int.reduceLT, Int.reduceLE, Int.reduceBEq, Int.reduceBNe, Int.reduceToNat, Int.reduceAdd, Int.reduceSub, Int.reduceMul, Int.reduceNeg, errP, zeroI, e1, e2, e3, e4, e5, e6, e7, hz, tdiv_pos, tmod_pos, hb45, hn, Nat.sub_zero, hid, hp, he2, decide_eq_false he, Bool.true_and]
        · have e : docOK s = false := by unfold docOK; simp [c4]
          rw [e]
          simp (dsimp := false) (disch := first | omega | (simp only [LENs, two_length] <;> omega) | fail) only [L.ref06_DocParseIdent.r1, go_sem, reduceIte, reduceCtorEq, Nat.reduceEqDiff, Nat.reduceAdd, Nat.reduceSub, Nat.reduceMul, Nat.reduceDiv, Nat.reduceMod, Nat.reduceBEq, Nat.reduceLeDiff, Nat.reduceLT, Int.reduceEq, Int.reduceNe, Int.reduceLT, Int.reduceLE, Int.reduceBEq, Int.reduceBNe, Int.reduceToNat, Int.reduceAdd, Int.reduceSub, Int.reduceMul, Int.reduceNeg, errP, zeroI, e1, e2, hz]
      · have e : docOK s = false := by unfold docOK; simp [c3]
        rw [e]
        simp (dsimp := false) (disch := first | omega | (simp only [LENs, two_length] <;> omega) | fail) only [L.ref06_DocParseIdent.r1, go_sem, reduceIte, reduceCtorEq, Nat.reduceEqDiff, Nat.reduceAdd, Nat.reduceSub, Nat.reduceMul, Nat.reduceDiv, Nat.reduceMod, Nat.reduceBEq, Nat.reduceLeDiff, Nat.reduceLT, Int.reduceEq, Int.reduceNe, Int.reduceLT, Int.reduceLE, Int.reduceBEq, Int.reduceBNe, Int.reduceToNat, Int.reduceAdd, Int.reduceSub, Int.reduceMul, Int.reduceNeg, errP, zeroI]
    · have e : docOK s = false := by unfold docOK; simp [c2]
      rw [e]
      simp (dsimp := false) (disch := first | omega | (simp only [LENs, two_length] <;> omega) | fail) only [L.ref06_DocParseIdent.r1, go_sem, reduceIte, reduceCtorEq, Nat.reduceEqDiff, Nat.reduceAdd, Nat.reduceSub, Nat.reduceMul, Nat.reduceDiv, Nat.reduceMod, Nat.reduceBEq, Nat.reduceLeDiff, Nat.reduceLT, Int.reduceEq, Int.reduceNe, Int.reduceLT, Int.reduceLE, Int.reduceBEq, Int.reduceBNe, Int.reduceToNat, Int.reduceAdd, Int.reduceSub, Int.reduceMul, Int.reduceNeg, errP, zeroI]
  · have e : docOK s = false := by unfold docOK; simp [c1]
    rw [e]
    simp (dsimp := false) (disch := first | omega | (simp only [LENs, two_length] <;> omega) | fail) only [L.ref06_DocParseIdent.r1, go_sem, reduceIte, reduceCtorEq, Nat.reduceEqDiff, Nat.reduceAdd, Nat.reduceSub, Nat.reduceMul, Nat.reduceDiv, Nat.reduceMod, Nat.reduceBEq, Nat.reduceLeDiff, Nat.reduceLT, Int.reduceEq, Int.reduceNe, Int.reduceLT, Int.reduceLE, Int.reduceBEq, Int.reduceBNe, Int.reduceToNat, Int.reduceAdd, Int.reduceSub, Int.reduceMul, Int.reduceNeg, errP, zeroI]
end Cod
namespace Cod
open Go
theorem nDigits_le : ∀ (k u : Nat), u < 10 ^ (k + 1) → Lib.nDigits u ≤ k + 1 := by
  intro k
  induction k with
  | zero => intro u h; rw [Lib.nDigits_small (by simpa using h)]; exact Nat.le_refl _
  | succ k ih =>
    intro u h
    by_cases h1 : u < 10
    · rw [Lib.nDigits_small h1]; omega
    · rw [Lib.nDigits_big h1]
      have := ih (u / 10) (by rw [Nat.pow_succ] at h; omega)
      omega
theorem itoa_len13 {t : Int} (h0 : 0 ≤ t) (h1 : t ≤ 1099511627776) : (Lib.itoa t).length ≤ 13 := by
  obtain ⟨u, rfl⟩ : ∃ u : Nat, t = u := ⟨t.toNat, by omega⟩
  rw [Lib.itoa_nonneg, Lib.decDigits_length]
  exact nDigits_le 12 u (by have : (10 : Nat) ^ (12 + 1) = 10000000000000 := by decide
                            omega)
theorem getD_app_l {a b : List UInt8} {j : Nat} (h : j < a.length) : (a ++ b).getD j 0 = a.getD j 0 := by
  rw [List.getD_eq_getElem?_getD, List.getElem?_append_left h, ← List.getD_eq_getElem?_getD]
theorem getD_app_r {a b : List UInt8} {j k : Nat} (h : j = a.length + k) : (a ++ b).getD j 0 = b.getD k 0 := by
  rw [List.getD_eq_getElem?_getD, List.getElem?_append_right (by omega), show j - a.length = k by omega, ← List.getD_eq_getElem?_getD]
theorem getD_ne {a : List UInt8} {c : UInt8} {j : Nat} (h : c ∉ a) (hj : j < a.length) : a.getD j 0 ≠ c := by
  intro e
  apply h
  rw [List.getD_eq_getElem?_getD, List.getElem?_eq_getElem hj] at e
  rw [← e]
  exact List.getElem_mem _
section
variable (i : Idt)
def pA : List UInt8 := i.name ++ [32]
def pB : List UInt8 := pA i ++ 60 :: i.email
def pC : List UInt8 := pB i ++ [62, 32]
def pD : List UInt8 := pC i ++ Lib.itoa i.time
theorem pA_len : (pA i).length = i.name.length + 1 := by simp [pA]
theorem pB_len : (pB i).length = i.name.length + 2 + i.email.length := by simp [pB, pA]; omega
theorem pC_len : (pC i).length = i.name.length + 4 + i.email.length := by simp [pC, pB_len]; omega
theorem pD_len : (pD i).length = i.name.length + 4 + i.email.length + (Lib.itoa i.time).length := by simp [pD, pC_len]
theorem put_a : putI i = pA i ++ 60 :: (i.email ++ [62, 32] ++ Lib.itoa i.time ++ [32] ++ zoneT i.zone) := by simp [putI, pA]
theorem put_b : putI i = pB i ++ 62 :: ([32] ++ Lib.itoa i.time ++ [32] ++ zoneT i.zone) := by simp [putI, pB, pA]
theorem put_c : putI i = pC i ++ (Lib.itoa i.time ++ ([32] ++ zoneT i.zone)) := by simp [putI, pC, pB, pA]
theorem put_d : putI i = pD i ++ 32 :: zoneT i.zone := by simp [putI, pD, pC, pB, pA]
theorem put_e : putI i = (pD i ++ [32]) ++ zoneT i.zone := by simp [put_d]
theorem put_f : putI i = (pD i ++ [32, (if i.zone < 0 then 45 else 43)]) ++ (two (zabs i.zone / 60) ++ two (zabs i.zone % 60)) := by simp [put_d, zoneT_eq]
theorem put_len : (putI i).length = i.name.length + 4 + i.email.length + (Lib.itoa i.time).length + 6 := by rw [put_d, List.length_append, pD_len, List.length_cons, zone_len]
end
theorem doc_put {i : Idt} (h : identOK i = true) : docI (putI i) = i ∧ docOK (putI i) = true := by
  obtain ⟨p0, p1, t0, t1, z0, z1⟩ := (identOK_iff i).1 h
  obtain ⟨a0, a1⟩ := zabs_range z0 z1
  obtain ⟨_, _, n60, n62⟩ := plain_mem p0
  obtain ⟨_, _, e60, e62⟩ := plain_mem p1
  obtain ⟨d0, d1, d2⟩ := itoa_dig t0
  have hl := put_len i
  have h13 := itoa_len13 t0 t1
  have hA := pA_len i
  have hB := pB_len i
  have hC := pC_len i
  have hD := pD_len i
  have hat : docAt (putI i) = i.name.length + 1 := by
    unfold docAt
    apply scn_eq
    · rw [put_a, getD_app_r (k := 0) (by omega)]; rfl
    · omega
    · omega
    · intro j _ hj
      rw [put_a, getD_app_l (by omega)]
      exact getD_ne (by simp [pA, n60]) (by omega)
  have hto : docTo (putI i) = i.name.length + 2 + i.email.length := by
    unfold docTo
    rw [hat]
    apply scn_eq
    · rw [put_b, getD_app_r (k := 0) (by omega)]; rfl
    · omega
    · omega
    · intro j _ hj
      rw [put_b, getD_app_l (by omega)]
      exact getD_ne (by simp [pB, pA, n62, e62]) (by omega)
  obtain ⟨q0, q1⟩ := zone4 (a := zabs i.zone / 60) (b := zabs i.zone % 60) (by omega) (by omega) (by omega) (by omega)
  have hz : docZ (putI i) = zabs i.zone / 60 * 100 + zabs i.zone % 60 := by
    unfold docZ
    rw [hl, put_f, List.drop_left' (by rw [List.length_append, hD, List.length_cons, List.length_cons, List.length_nil]; omega)]
    rw [numF_dig (by simp [two]) (by simp [two]) q0, q1]
  have hzone : docZone (putI i) = i.zone := by
    unfold docZone
    rw [hz, show (zabs i.zone / 60 * 100 + zabs i.zone % 60) / 100 * 60 + (zabs i.zone / 60 * 100 + zabs i.zone % 60) % 100 = zabs i.zone by omega]
    have hb : (putI i).getD ((putI i).length - 6 + 1) 0 = if i.zone < 0 then 45 else 43 := by
      rw [put_e, getD_app_r (k := 0) (by rw [← put_e, hl, List.length_append, hD, List.length_cons, List.length_nil]; omega)]; rfl
    rw [hb]
    unfold zabs
    by_cases hn : i.zone < 0
    · rw [if_pos hn, if_pos hn, if_pos rfl]; omega
    · rw [if_neg hn, if_neg hn, if_neg (by decide)]
  have hI : docI (putI i) = i := by
    unfold docI
    rw [hat, hto, hzone]
    have e1 : (putI i).take (i.name.length + 1 - 1) = i.name := by
      rw [put_a, pA, Nat.add_sub_cancel, List.append_assoc]; exact List.take_left' rfl
    have e2 : sub (putI i) (i.name.length + 1 + 1) (i.name.length + 2 + i.email.length - (i.name.length + 1 + 1)) = i.email := by
      unfold sub
      rw [show i.name.length + 2 + i.email.length - (i.name.length + 1 + 1) = i.email.length by omega]
      rw [show putI i = (pA i ++ [60]) ++ (i.email ++ ([62, 32] ++ Lib.itoa i.time ++ [32] ++ zoneT i.zone)) by simp [putI, pA], List.drop_left' (by rw [List.length_append, hA]; rfl), List.take_left' rfl]
    have e3 : sub (putI i) (i.name.length + 2 + i.email.length + 2) ((putI i).length - 6 - (i.name.length + 2 + i.email.length + 2)) = Lib.itoa i.time := by
      unfold sub
      rw [hl, put_c, List.drop_left' (by omega), List.take_left' (by omega)]
    rw [e1, e2, e3, numF_dig d2 h13 d0, d1]
  refine ⟨hI, ?_⟩
  unfold docOK
  rw [hI, h, hat, hto, hz, hl]
  simp only [Bool.true_and, Bool.and_eq_true, decide_eq_true_eq, and_true]
  omega
theorem doc_no {s : List UInt8} (h : ∀ i, identOK i = true → putI i ≠ s) : docOK s = false := by
  cases hd : docOK s with
  | false => rfl
  | true =>
    unfold docOK at hd
    simp only [Bool.and_eq_true, decide_eq_true_eq] at hd
    exact absurd hd.2.2 (h _ hd.2.1)
theorem go_docParse_put {i : Idt} (h : identOK i = true) : S E F.ref06_DocParseIdent [.str (putI i)] [] = some (.tup [.agg i.cells, .int .i64 0], []) := by
  obtain ⟨h1, h2⟩ := doc_put h
  rw [go_docParse (by have := putI_len h; omega), h1, h2]
  rfl
theorem go_docParse_no {s : List UInt8} (hs : s.length ≤ 1000000000000) (h : ∀ i, identOK i = true → putI i ≠ s) : S E F.ref06_DocParseIdent [.str s] [] = some (errP, []) := by
  rw [go_docParse hs, doc_no h]
  rfl
theorem parse_cases (s : List UInt8) : (∃ i, identOK i = true ∧ putI i = s) ∨ ∀ i, identOK i = true → putI i ≠ s := by
  by_cases h : ∃ i, identOK i = true ∧ putI i = s
  · exact .inl h
  · exact .inr fun i hi he => h ⟨i, hi, he⟩
end Cod
namespace Cod
open Go
def hexD (n : Nat) : UInt8 := [(48 : UInt8), 49, 50, 51, 52, 53, 54, 55, 56, 57, 97, 98, 99, 100, 101, 102].getD n 0
def hexB (b : UInt8) : List UInt8 := [hexD (b.toNat / 16), hexD (b.toNat % 16)]
def hexT (id : List UInt8) : List UInt8 := id.flatMap hexB
theorem hexT_cons (b : UInt8) (id : List UInt8) : hexT (b :: id) = hexD (b.toNat / 16) :: hexD (b.toNat % 16) :: hexT id := rfl
theorem hexT_len (id : List UInt8) : (hexT id).length = 2 * id.length := by
  induction id with
  | nil => rfl
  | cons x r ih => rw [hexT_cons, List.length_cons, List.length_cons, ih, List.length_cons]; omega
theorem hexD_range : ∀ n : Nat, n < 16 → (48 ≤ (hexD n).toNat ∧ (hexD n).toNat ≤ 57 ∨ 97 ≤ (hexD n).toNat ∧ (hexD n).toNat ≤ 102) := by decide
theorem hexT_mem {id : List UInt8} {c : UInt8} (h : c ∈ hexT id) : ∃ n, n < 16 ∧ c = hexD n := by
  induction id with
  | nil => simp [hexT] at h
  | cons x r ih =>
    rw [hexT_cons, List.mem_cons, List.mem_cons] at h
    have := x.toNat_lt
    rcases h with h | h | h
    · exact ⟨_, by omega, h⟩
    · exact ⟨_, by omega, h⟩
    · exact ih h
theorem hexT_no10 (id : List UInt8) : (10 : UInt8) ∉ hexT id := by
  intro h
  obtain ⟨n, h1, h2⟩ := hexT_mem h
  have := hexD_range n h1
  rw [← h2] at this
  simp at this
theorem hexT_get {id : List UInt8} : ∀ {i : Nat}, i < id.length → (hexT id).getD (2 * i) 0 = hexD ((id.getD i 0).toNat / 16) ∧ (hexT id).getD (2 * i + 1) 0 = hexD ((id.getD i 0).toNat % 16) := by
  induction id with
  | nil => intro i h; simp at h
  | cons x r ih =>
    intro i h
    rw [hexT_cons]
    cases i with
    | zero => exact ⟨rfl, rfl⟩
    | succ i =>
      have := ih (i := i) (by rw [List.length_cons] at h; omega)
      rw [show 2 * (i + 1) = 2 * i + 1 + 1 by omega]
      simp only [List.getD_cons_succ]
      exact this
theorem hexT_snoc (id : List UInt8) (x : UInt8) : hexT (id ++ [x]) = hexT id ++ [hexD (x.toNat / 16), hexD (x.toNat % 16)] := by simp [hexT, hexB]
theorem take_snoc {id : List UInt8} {k : Nat} (h : k < id.length) : id.take (k + 1) = id.take k ++ [id.getD k 0] := by
  rw [List.take_succ_eq_append_getElem h]; simp [List.getD, h]
theorem idx_app {c : UInt8} {H T : List UInt8} (h : c ∉ H) : (H ++ c :: T).idxOf c = H.length := by
  rw [List.idxOf_append, if_neg h, List.idxOf_cons_self, Nat.zero_add]
theorem line_ix {w v r : List UInt8} (hw : (10 : UInt8) ∉ w) (hv : (10 : UInt8) ∉ v) : (w ++ 32 :: (v ++ 10 :: r)).idxOf 10 = w.length + 1 + v.length := by
  have : w ++ 32 :: (v ++ 10 :: r) = (w ++ 32 :: v) ++ 10 :: r := by simp
  rw [this, idx_app (by simp [hw, hv])]
  simp; omega
theorem hards_append : ∀ {xs ys : List AV}, hards (xs ++ ys) = (hards xs && hards ys) := by
  intro xs
  induction xs with
  | nil => intro ys; simp [hards]
  | cons x xs ih => intro ys; rw [List.cons_append, hards, hards, ih, Bool.and_assoc]
theorem leadss_append : ∀ {xs ys : List AV}, leadss (xs ++ ys) = (leadss xs || leadss ys) := by
  intro xs
  induction xs with
  | nil => intro ys; simp [leadss]
  | cons x xs ih => intro ys; rw [List.cons_append, leadss, leadss, ih, Bool.or_assoc]
theorem refsOfs_append : ∀ {xs ys : List AV}, refsOfs (xs ++ ys) = refsOfs xs ++ refsOfs ys := by
  intro xs
  induction xs with
  | nil => intro ys; simp [refsOfs]
  | cons x xs ih => intro ys; rw [List.cons_append, refsOfs, refsOfs, ih, List.append_assoc]
theorem over_front {xs ys v : List AV} {i j : Nat} (h : i = xs.length + j) : over (xs ++ ys) i v = xs ++ over ys j v := by
  subst h
  induction xs with
  | nil => simp
  | cons x xs ih =>
    rw [List.cons_append, List.length_cons, show xs.length + 1 + j = xs.length + j + 1 by omega, over_S, ih]
    rfl
end Cod
namespace Cod
open Go
set_option maxRecDepth 100000
theorem go_rune_errN : S E0 F.strings_IndexRune [.str [0, 10], .int .i32 65533] [] = some (.int .i64 (-1), []) := S_iff.2 ⟨300, by kernel_rfl⟩
theorem go_rune_lowN {r : Int} (h0 : 0 ≤ r) (h1 : r < 128) : S E0 F.strings_IndexRune [.str [0, 10], .int .i32 r] [] = some (.int .i64 (indexB [0, 10] (byt r)), []) := by
  rw [S_of0 fn_strings_IndexRune rfl rfl]
  have h2 : IntKind.u8.wrap r = r := by rw [wrap_u8]; omega
  simp (dsimp := false) (disch := first | omega | (simp only [LENs] <;> omega) | fail) only [L.strings_IndexRune, go_sem, reduceIte, reduceCtorEq, Nat.reduceEqDiff, Nat.reduceAdd, Nat.reduceSub, Nat.reduceMul, Nat.reduceDiv, Nat.reduceMod, Nat.reduceBEq, Nat.reduceLeDiff, Nat.reduceLT, Int.reduceEq, Int.reduceNe, Int.reduceLT, Int.reduceLE, Int.reduceBEq, Int.reduceBNe, Int.reduceToNat, Int.reduceAdd, Int.reduceSub, Int.reduceMul, Int.reduceNeg, dec_t h0, dec_t h1, h2, go_sindex]
theorem go_rune_highN {r : Int} (h0 : 128 ≤ r) (h1 : r ≤ 1114111) : S E0 F.strings_IndexRune [.str [0, 10], .int .i32 r] [] = some (.int .i64 (-1), []) := by
  by_cases he : r = 65533
  · subst he; exact go_rune_errN
  · have h2 : ¬ r < 128 := by omega
    have h3 : (0 : Int) ≤ r := by omega
    rw [S_of0 fn_strings_IndexRune rfl rfl]
    have hvv : S E0 F.utf8_ValidRune [.int .i32 r] [] = some (.bool (decide (r < 55296) || decide (57343 < r)), []) := by rw [go_valid h0, dec_t h1, Bool.and_true]
    cases hv : (decide (r < 55296) || decide (57343 < r)) with
    | false => simp (dsimp := false) (disch := first | omega | (simp only [LENs] <;> omega) | fail) only [L.strings_IndexRune, go_sem, reduceIte, reduceCtorEq, Nat.reduceEqDiff, Nat.reduceAdd, Nat.reduceSub, Nat.reduceMul, Nat.reduceDiv, Nat.reduceMod, Nat.reduceBEq, Nat.reduceLeDiff, Nat.reduceLT, Int.reduceEq, Int.reduceNe, Int.reduceLT, Int.reduceLE, Int.reduceBEq, Int.reduceBNe, Int.reduceToNat, Int.reduceAdd, Int.reduceSub, Int.reduceMul, Int.reduceNeg, dec_t h3, dec_f h2, beq_f he, hvv, hv]
    | true =>
      obtain ⟨e1, e2, e3⟩ := enc_high h0 h1
      simp (dsimp := false) (disch := first | omega | (simp only [LENs] <;> omega) | fail) only [L.strings_IndexRune, go_sem, reduceIte, reduceCtorEq, Nat.reduceEqDiff, Nat.reduceAdd, Nat.reduceSub, Nat.reduceMul, Nat.reduceDiv, Nat.reduceMod, Nat.reduceBEq, Nat.reduceLeDiff, Nat.reduceLT, Int.reduceEq, Int.reduceNe, Int.reduceLT, Int.reduceLE, Int.reduceBEq, Int.reduceBNe, Int.reduceToNat, Int.reduceAdd, Int.reduceSub, Int.reduceMul, Int.reduceNeg, dec_t h3, dec_f h2, beq_f he, hvv, hv]
      rw [X_in L.strings_IndexRune.x1.eq_1]
      by_cases e4 : (encS r).length = 2
      · have e5 := e3 e4
        have b1 : bat [0, 10] 1 = 10 := rfl
        have b2 : ((((10 : UInt8).toNat : Nat) : Int) != bat (encS r) 1) = true := bne_t (by show (10 : Int) ≠ _; omega)
        have b3 : (((2 : Nat) : Int) - 1).toNat = 1 := rfl
        have b4 : indexB ([0, 10].drop (((2 : Nat) : Int) - 1 + 1).toNat) (byt (bat (encS r) 1)) = -1 := rfl
        have b5 : indexB [] (byt (bat (encS r) 1)) = -1 := rfl
        simp (dsimp := false) (disch := first | omega | (simp only [LENs] <;> omega) | fail) only [go_sem, reduceIte, reduceCtorEq, Nat.reduceEqDiff, Nat.reduceAdd, Nat.reduceSub, Nat.reduceMul, Nat.reduceDiv, Nat.reduceMod, Nat.reduceBEq, Nat.reduceLeDiff, Nat.reduceLT, Int.reduceEq, Int.reduceNe, Int.reduceLT, Int.reduceLE, Int.reduceBEq, Int.reduceBNe, Int.reduceToNat, Int.reduceAdd, Int.reduceSub, Int.reduceMul, Int.reduceNeg, L.strings_IndexRune.r2, e4, b1, b2, b3, go_sindex, sub_take, take_len, sub_drop, b4, b5, List.drop_nil]
      · simp (dsimp := false) (disch := first | omega | (simp only [LENs] <;> omega) | fail) only [go_sem, reduceIte, reduceCtorEq, Nat.reduceEqDiff, Nat.reduceAdd, Nat.reduceSub, Nat.reduceMul, Nat.reduceDiv, Nat.reduceMod, Nat.reduceBEq, Nat.reduceLeDiff, Nat.reduceLT, Int.reduceEq, Int.reduceNe, Int.reduceLT, Int.reduceLE, Int.reduceBEq, Int.reduceBNe, Int.reduceToNat, Int.reduceAdd, Int.reduceSub, Int.reduceMul, Int.reduceNeg, L.strings_IndexRune.r2]
def badN (b : UInt8) : Bool := b == 0 || b == 10
theorem indexN_n : ∀ n : Nat, n < 256 → decide (0 ≤ indexB [0, 10] (UInt8.ofNat n)) = badN (UInt8.ofNat n) := by decide +kernel
theorem indexN (b : UInt8) : (0 ≤ indexB [0, 10] b) ↔ badN b = true := by
  have := indexN_n b.toNat b.toNat_lt
  rw [UInt8.ofNat_toNat] at this
  rw [← this, decide_eq_true_eq]
theorem highN_n : ∀ n : Nat, n < 256 → 128 ≤ n → badN (UInt8.ofNat n) = false := by decide +kernel
theorem any_walkN {s : List UInt8} (hs : s.length ≤ 1000000) : ∀ (m p : Nat), p + m ≤ s.length → s.length ≤ p + m → ∃ i : Int, ((0 ≤ i) ↔ (s.drop p).any badN = true) ∧
    X E0 [.tmp 4] (.c L.strings_IndexAny.x1 :: .lp [1, 45] L.strings_IndexAny.x1 :: .blk 2 :: .c L.strings_IndexAny.r2 :: []) ⟨[(1, .str [0, 10]), (45, .it (.s 1000000 0) 0)], [(.s 1000000 0, ⟨0, true, true, true, [.itr s p]⟩)]⟩ = some (.int .i64 i, []) := by
  intro m
  induction m using Nat.strongRecOn with
  | _ m ih =>
    intro p h1 h2
    rw [X_in L.strings_IndexAny.x1.eq_1]
    by_cases hp : p < s.length
    · have hd : s.drop p = s.getD p 0 :: s.drop (p + 1) := by
        rw [List.drop_eq_getElem_cons hp]; simp [hp]
      rcases dec_facts hp with ⟨e1, e2, e3⟩ | ⟨e1, e2, e3, e4, e5⟩
      · cases hbad : badN (s.getD p 0) with
        | true =>
          have h3 := (indexN (byt (bat s p))).2 (by rw [byt_bat]; exact hbad)
          refine ⟨p, ⟨fun _ => by rw [hd, List.any_cons, hbad]; rfl, fun _ => by omega⟩, ?_⟩
          simp (dsimp := false) (disch := first | omega | (simp only [LENs] <;> omega) | fail) only [go_sem, reduceIte, reduceCtorEq, Nat.reduceEqDiff, Nat.reduceAdd, Nat.reduceSub, Nat.reduceMul, Nat.reduceDiv, Nat.reduceMod, Nat.reduceBEq, Nat.reduceLeDiff, Nat.reduceLT, Int.reduceEq, Int.reduceNe, Int.reduceLT, Int.reduceLE, Int.reduceBEq, Int.reduceBNe, Int.reduceToNat, Int.reduceAdd, Int.reduceSub, Int.reduceMul, Int.reduceNeg, hp, e2, e3, go_rune_lowN (bat_range s p).1 e1, dec_t h3]
        | false =>
          have h3 : ¬ 0 ≤ indexB [0, 10] (byt (bat s p)) := fun h => by rw [indexN, byt_bat, hbad] at h; cases h
          obtain ⟨i, h4, h5⟩ := ih (m - 1) (by omega) (p + 1) (by omega) (by omega)
          refine ⟨i, by rw [h4, hd, List.any_cons, hbad, Bool.false_or], ?_⟩
          rw [← h5]
          simp (dsimp := false) (disch := first | omega | (simp only [LENs] <;> omega) | fail) only [go_sem, reduceIte, reduceCtorEq, Nat.reduceEqDiff, Nat.reduceAdd, Nat.reduceSub, Nat.reduceMul, Nat.reduceDiv, Nat.reduceMod, Nat.reduceBEq, Nat.reduceLeDiff, Nat.reduceLT, Int.reduceEq, Int.reduceNe, Int.reduceLT, Int.reduceLE, Int.reduceBEq, Int.reduceBNe, Int.reduceToNat, Int.reduceAdd, Int.reduceSub, Int.reduceMul, Int.reduceNeg, hp, e2, e3, go_rune_lowN (bat_range s p).1 e1, dec_f h3]
      · have hw : p + (decS s p).2 ≤ s.length := by
          have := (e5 (p + (decS s p).2 - 1) (by omega) (by omega)).1
          omega
        obtain ⟨i, h4, h5⟩ := ih (m - (decS s p).2) (by omega) (p + (decS s p).2) (by omega) (by omega)
        refine ⟨i, ?_, ?_⟩
        · rw [h4]
          have : ∀ w, p + w ≤ s.length → (∀ j, p ≤ j → j < p + w → j < s.length ∧ 128 ≤ bat s j) → (s.drop p).any badN = (s.drop (p + w)).any badN := by
            intro w
            induction w with
            | zero => intro _ _; rfl
            | succ w ihw =>
              intro hw1 hw2
              rw [ihw (by omega) (fun j j1 j2 => hw2 j j1 (by omega)), List.drop_eq_getElem_cons (by omega : p + w < s.length), List.any_cons]
              have hh := (hw2 (p + w) (by omega) (by omega)).2
              have : badN s[p + w] = false := by
                unfold bat at hh
                rw [List.getD_eq_getElem?_getD, List.getElem?_eq_getElem (by omega), Option.getD_some] at hh
                have h9 := highN_n s[p + w].toNat (UInt8.toNat_lt _) (by omega)
                rwa [UInt8.ofNat_toNat] at h9
              rw [this, Bool.false_or]
              rfl
          rw [this _ hw e5]
        · rw [← h5]
          have h6 := go_rune_highN (r := ((decS s p).1 : Int)) (by omega) (by omega)
          simp (dsimp := false) (disch := first | omega | (simp only [LENs] <;> omega) | fail) only [go_sem, reduceIte, reduceCtorEq, Nat.reduceEqDiff, Nat.reduceAdd, Nat.reduceSub, Nat.reduceMul, Nat.reduceDiv, Nat.reduceMod, Nat.reduceBEq, Nat.reduceLeDiff, Nat.reduceLT, Int.reduceEq, Int.reduceNe, Int.reduceLT, Int.reduceLE, Int.reduceBEq, Int.reduceBNe, Int.reduceToNat, Int.reduceAdd, Int.reduceSub, Int.reduceMul, Int.reduceNeg, hp, h6]
    · refine ⟨-1, ⟨fun h => by omega, fun h => by rw [List.drop_of_length_le (by omega)] at h; simp at h⟩, ?_⟩
      simp (dsimp := false) (disch := first | omega | (simp only [LENs] <;> omega) | fail) only [go_sem, reduceIte, reduceCtorEq, Nat.reduceEqDiff, Nat.reduceAdd, Nat.reduceSub, Nat.reduceMul, Nat.reduceDiv, Nat.reduceMod, Nat.reduceBEq, Nat.reduceLeDiff, Nat.reduceLT, Int.reduceEq, Int.reduceNe, Int.reduceLT, Int.reduceLE, Int.reduceBEq, Int.reduceBNe, Int.reduceToNat, Int.reduceAdd, Int.reduceSub, Int.reduceMul, Int.reduceNeg, hp, L.strings_IndexAny.r2]
def setN : List AV := (List.range 256).map fun i => .bool (i == 0 || i == 10)
theorem go_setN : S E0 F.strings_makeASCIISet [.str [0, 10]] [] = some (.tup [.agg setN, .bool true], []) := S_iff.2 ⟨300, by kernel_rfl⟩
theorem setN_get : ∀ n : Nat, n < 256 → setN[n]? = some (.bool (badN (UInt8.ofNat n))) := by
  intro n hn
  simp only [setN, List.getElem?_map, List.getElem?_range hn, Option.map_some, badN]
  have : ∀ n : Nat, n < 256 → (n == 0 || n == 10) = (UInt8.ofNat n == 0 || UInt8.ofNat n == 10) := by decide +kernel
  rw [this n hn]
theorem flats_setN : flats setN = true := by kernel_rfl
theorem setN_length : setN.length = 256 := by simp [setN]
theorem setN_at {b : Int} (h0 : 0 ≤ b) (h1 : b < 256) : setN[b.toNat]? = some (.bool (badN (byt b))) := setN_get b.toNat (by omega)
theorem flatN : leadss setN = false := by kernel_rfl
theorem refsN : refsOfs setN = [] := by kernel_rfl
theorem rensN (f : Site → Nat → Option (Site × Nat)) : rens f setN = setN := rens_flats setN flats_setN
theorem hardsN : hards setN = true := by kernel_rfl
theorem go_containsN {x : Site} {b : Int} (h0 : 0 ≤ b) (h1 : b < 256) : S E0 F.strings_asciiSet_contains [.ref (.up x) 0 0, .int .u8 b] [(.up x, ⟨0, true, true, true, setN⟩)] = some (.bool (badN (byt b)), [(.up x, ⟨0, true, true, true, setN⟩)]) := by
  rw [S_of0 fn_strings_asciiSet_contains rfl rfl]
  simp (dsimp := false) (disch := first | omega | (simp only [LENs] <;> omega) | fail) only [L.strings_asciiSet_contains, go_sem, reduceIte, reduceCtorEq, Nat.reduceEqDiff, Nat.reduceAdd, Nat.reduceSub, Nat.reduceMul, Nat.reduceDiv, Nat.reduceMod, Nat.reduceBEq, Nat.reduceLeDiff, Nat.reduceLT, Int.reduceEq, Int.reduceNe, Int.reduceLT, Int.reduceLE, Int.reduceBEq, Int.reduceBNe, Int.reduceToNat, Int.reduceAdd, Int.reduceSub, Int.reduceMul, Int.reduceNeg, setN_length, flats_setN, flatN, refsN, rensN, hardsN, setN_at h0 h1]
theorem set_walkN {s : List UInt8} (hs : s.length ≤ 1000000) : ∀ (m p : Nat), p + m = s.length → ∃ i : Int, ((0 ≤ i) ↔ (s.drop p).any badN = true) ∧
    X E0 [.tmp 4] (.c L.strings_IndexAny.x0 :: .lp [0, 6, 8] L.strings_IndexAny.x0 :: .blk 0 :: .c L.strings_IndexAny.r0 :: .c L.strings_IndexAny.r1 :: []) ⟨[(0, .str s), (6, .ref (.s 1000000 0) 0 0), (8, .int .i64 p)], [(.s 1000000 0, ⟨0, true, true, true, setN⟩)]⟩ = some (.int .i64 i, []) := by
  intro m
  induction m with
  | zero =>
    intro p h
    refine ⟨-1, ⟨fun h => by omega, fun h => by rw [List.drop_of_length_le (by omega)] at h; simp at h⟩, ?_⟩
    rw [X_in L.strings_IndexAny.x0.eq_1]
    simp (dsimp := false) (disch := first | omega | (simp only [LENs] <;> omega) | fail) only [go_sem, reduceIte, reduceCtorEq, Nat.reduceEqDiff, Nat.reduceAdd, Nat.reduceSub, Nat.reduceMul, Nat.reduceDiv, Nat.reduceMod, Nat.reduceBEq, Nat.reduceLeDiff, Nat.reduceLT, Int.reduceEq, Int.reduceNe, Int.reduceLT, Int.reduceLE, Int.reduceBEq, Int.reduceBNe, Int.reduceToNat, Int.reduceAdd, Int.reduceSub, Int.reduceMul, Int.reduceNeg, setN_length, flats_setN, flatN, refsN, rensN, hardsN, L.strings_IndexAny.r0]
  | succ m ih =>
    intro p h
    have hp : p < s.length := by omega
    have hd : s.drop p = s.getD p 0 :: s.drop (p + 1) := by
      rw [List.drop_eq_getElem_cons hp]; simp [hp]
    obtain ⟨b0, b1⟩ := bat_range s p
    cases hbad : badN (s.getD p 0) with
    | true =>
      have h3 : badN (byt (bat s p)) = true := by rw [byt_bat]; exact hbad
      refine ⟨p, ⟨fun _ => by rw [hd, List.any_cons, hbad]; rfl, fun _ => by omega⟩, ?_⟩
      rw [X_in L.strings_IndexAny.x0.eq_1]
      simp (dsimp := false) (disch := first | omega | (simp only [LENs] <;> omega) | fail) only [go_sem, reduceIte, reduceCtorEq, Nat.reduceEqDiff, Nat.reduceAdd, Nat.reduceSub, Nat.reduceMul, Nat.reduceDiv, Nat.reduceMod, Nat.reduceBEq, Nat.reduceLeDiff, Nat.reduceLT, Int.reduceEq, Int.reduceNe, Int.reduceLT, Int.reduceLE, Int.reduceBEq, Int.reduceBNe, Int.reduceToNat, Int.reduceAdd, Int.reduceSub, Int.reduceMul, Int.reduceNeg, setN_length, flats_setN, flatN, refsN, rensN, hardsN, go_containsN b0 b1, h3]
    | false =>
      have h3 : badN (byt (bat s p)) = false := by rw [byt_bat]; exact hbad
      obtain ⟨i, h4, h5⟩ := ih (p + 1) (by omega)
      refine ⟨i, by rw [h4, hd, List.any_cons, hbad, Bool.false_or], ?_⟩
      rw [← h5, X_in L.strings_IndexAny.x0.eq_1]
      simp (dsimp := false) (disch := first | omega | (simp only [LENs] <;> omega) | fail) only [go_sem, reduceIte, reduceCtorEq, Nat.reduceEqDiff, Nat.reduceAdd, Nat.reduceSub, Nat.reduceMul, Nat.reduceDiv, Nat.reduceMod, Nat.reduceBEq, Nat.reduceLeDiff, Nat.reduceLT, Int.reduceEq, Int.reduceNe, Int.reduceLT, Int.reduceLE, Int.reduceBEq, Int.reduceBNe, Int.reduceToNat, Int.reduceAdd, Int.reduceSub, Int.reduceMul, Int.reduceNeg, setN_length, flats_setN, flatN, refsN, rensN, hardsN, go_containsN b0 b1, h3]
      rfl
theorem go_anyN {s : List UInt8} (hs : s.length ≤ 1000000) : ∃ i : Int, ((0 ≤ i) ↔ s.any badN = true) ∧ S E0 F.strings_IndexAny [.str s, .str [0, 10]] [] = some (.int .i64 i, []) := by
  rw [S_of0 fn_strings_IndexAny rfl rfl]
  have e0 : (([0, 10] : List UInt8) == []) = false := rfl
  by_cases h8 : 8 < s.length
  · obtain ⟨i, h1, h2⟩ := set_walkN hs s.length 0 (by omega)
    refine ⟨i, by simpa using h1, ?_⟩
    rw [← h2]
    have h9 : decide (8 < (s.length : Int)) = true := by simp; omega
    simp (dsimp := false) (disch := first | omega | (simp only [LENs] <;> omega) | fail) only [L.strings_IndexAny, go_sem, reduceIte, reduceCtorEq, Nat.reduceEqDiff, Nat.reduceAdd, Nat.reduceSub, Nat.reduceMul, Nat.reduceDiv, Nat.reduceMod, Nat.reduceBEq, Nat.reduceLeDiff, Nat.reduceLT, Int.reduceEq, Int.reduceNe, Int.reduceLT, Int.reduceLE, Int.reduceBEq, Int.reduceBNe, Int.reduceToNat, Int.reduceAdd, Int.reduceSub, Int.reduceMul, Int.reduceNeg, setN_length, flats_setN, flatN, refsN, rensN, hardsN, e0, go_use, h9, go_setN]
    rfl
  · obtain ⟨i, h1, h2⟩ := any_walkN hs s.length 0 (by omega) (by omega)
    refine ⟨i, by simpa using h1, ?_⟩
    rw [← h2]
    have h9 : decide (8 < (s.length : Int)) = false := by simp; omega
    simp (dsimp := false) (disch := first | omega | (simp only [LENs] <;> omega) | fail) only [L.strings_IndexAny, go_sem, reduceIte, reduceCtorEq, Nat.reduceEqDiff, Nat.reduceAdd, Nat.reduceSub, Nat.reduceMul, Nat.reduceDiv, Nat.reduceMod, Nat.reduceBEq, Nat.reduceLeDiff, Nat.reduceLT, Int.reduceEq, Int.reduceNe, Int.reduceLT, Int.reduceLE, Int.reduceBEq, Int.reduceBNe, Int.reduceToNat, Int.reduceAdd, Int.reduceSub, Int.reduceMul, Int.reduceNeg, setN_length, flats_setN, flatN, refsN, rensN, hardsN, e0, go_use, h9, L.strings_IndexAny.r1]
theorem go_containsAnyN {s : List UInt8} (hs : s.length ≤ 1000000) : S E0 F.strings_ContainsAny [.str s, .str [0, 10]] [] = some (.bool (s.any badN), []) := by
  rw [S_of0 fn_strings_ContainsAny rfl rfl]
  obtain ⟨i, h1, h2⟩ := go_anyN hs
  have h3 : decide (0 ≤ i) = s.any badN := by
    cases h : s.any badN with
    | true => simp [h1.2 h]
    | false => rw [decide_eq_false_iff_not, h1, h]; simp
  simp (dsimp := false) (disch := first | omega | (simp only [LENs] <;> omega) | fail) only [L.strings_ContainsAny, go_sem, reduceIte, reduceCtorEq, Nat.reduceEqDiff, Nat.reduceAdd, Nat.reduceSub, Nat.reduceMul, Nat.reduceDiv, Nat.reduceMod, Nat.reduceBEq, Nat.reduceLeDiff, Nat.reduceLT, Int.reduceEq, Int.reduceNe, Int.reduceLT, Int.reduceLE, Int.reduceBEq, Int.reduceBNe, Int.reduceToNat, Int.reduceAdd, Int.reduceSub, Int.reduceMul, Int.reduceNeg, h2, h3]
end Cod
namespace Cod
open Go
structure Lbl where
  tgt : List UInt8
  kind : Int
  name : List UInt8
  who : Idt
  msg : List UInt8
  htgt : tgt.length = 32
def Lbl.cells (l : Lbl) : List AV := ofBytes l.tgt ++ [.int .i64 l.kind, .str l.name, .str l.who.name, .str l.who.email, .int .i64 l.who.time, .int .i64 l.who.zone, .str l.msg]
theorem tgt_len (l : Lbl) : (ofBytes l.tgt).length = 32 := by rw [ofBytes_length, l.htgt]
theorem lbl_len (l : Lbl) : l.cells.length = 39 := by unfold Lbl.cells; rw [List.length_append, tgt_len]; rfl
theorem lbl_flats (l : Lbl) : flats l.cells = true := by unfold Lbl.cells; rw [flats_append, flats_ofBytes]; rfl
theorem lbl_rens (f : Site → Nat → Option (Site × Nat)) (l : Lbl) : rens f l.cells = l.cells := rens_flats _ (lbl_flats l)
theorem lbl_refs (l : Lbl) : refsOfs l.cells = [] := by unfold Lbl.cells; rw [refsOfs_append, refsOfs_ofBytes]; rfl
theorem lbl_hards (l : Lbl) : hards l.cells = true := by unfold Lbl.cells; rw [hards_append, hards_ofBytes]; rfl
theorem lbl_leads (l : Lbl) : leadss l.cells = false := by unfold Lbl.cells; rw [leadss_append, leadss_ofBytes]; rfl
theorem lbl_sub (l : Lbl) : sub l.cells 0 39 = l.cells := sub_full (by rw [lbl_len]; exact Nat.le_refl _)
theorem lbl_get (l : Lbl) (i : Nat) : l.cells[32 + i]? = [AV.int .i64 l.kind, .str l.name, .str l.who.name, .str l.who.email, .int .i64 l.who.time, .int .i64 l.who.zone, .str l.msg][i]? := by
  unfold Lbl.cells
  rw [List.getElem?_append_right (by rw [tgt_len]; omega), tgt_len, Nat.add_sub_cancel_left]
theorem lbl_32 (l : Lbl) : l.cells[32]? = some (.int .i64 l.kind) := lbl_get l 0
theorem lbl_33 (l : Lbl) : l.cells[33]? = some (.str l.name) := lbl_get l 1
theorem lbl_38 (l : Lbl) : l.cells[38]? = some (.str l.msg) := lbl_get l 6
theorem lbl_tgt (l : Lbl) : sub l.cells 0 32 = ofBytes l.tgt := by
  unfold sub Lbl.cells
  rw [List.drop_zero]
  exact List.take_left' (tgt_len l)
theorem lbl_who (l : Lbl) : sub l.cells 34 4 = l.who.cells := by
  unfold sub Lbl.cells
  rw [List.drop_append, tgt_len, List.drop_of_length_le (by rw [tgt_len]; omega)]
  rfl
attribute [go_sem] lbl_len lbl_flats lbl_rens lbl_refs lbl_hards lbl_leads lbl_sub lbl_32 lbl_33 lbl_38 lbl_tgt lbl_who
def objW : List UInt8 := [111, 98, 106, 101, 99, 116]
def typW : List UInt8 := [116, 121, 112, 101]
def tagW : List UInt8 := [116, 97, 103]
def tgrW : List UInt8 := [116, 97, 103, 103, 101, 114]
def msgE (s : List UInt8) : Int := minE [if decide (65536 < (s.length : Int)) = true then 2 else 0, if s.contains 0 = true then 4 else 0]
def nameB (s : List UInt8) : Bool := s == [] || (decide (100 < (s.length : Int)) || s.any badN)
def tagE (l : Lbl) : Int := minE [eWord l.kind, msgE l.msg, if nameB l.name = true then 3 else 0, if identOK l.who = true then 0 else 3]
def tagB (l : Lbl) : List UInt8 := objW ++ [32] ++ hexT l.tgt ++ [10] ++ typW ++ [32] ++ wordF l.kind ++ [10] ++ tagW ++ [32] ++ l.name ++ [10] ++ tgrW ++ [32] ++ putI l.who ++ [10, 10] ++ l.msg
def IsTag (p : List UInt8) (l : Lbl) : Prop := tagE l = 0 ∧ tagB l = p
theorem tag_form (l : Lbl) : tagB l = objW ++ 32 :: (hexT l.tgt ++ 10 :: (typW ++ 32 :: (wordF l.kind ++ 10 :: (tagW ++ 32 :: (l.name ++ 10 :: (tgrW ++ 32 :: (putI l.who ++ 10 :: (10 :: l.msg)))))))) := by
  unfold tagB
  simp only [List.append_assoc, List.cons_append, List.nil_append]
theorem foldl_zero : ∀ (l : List Int) (w : Int), l.foldl lst2 w = 0 → w = 0 ∧ ∀ e ∈ l, e = 0 := by
  intro l
  induction l with
  | nil => intro w h; exact ⟨h, fun e he => by simp at he⟩
  | cons a l ih =>
    intro w h
    obtain ⟨h1, h2⟩ := ih _ h
    unfold lst2 at h1
    split at h1
    · rename_i hc; exact absurd h1 hc.1
    · rename_i hc
      subst h1
      have ha : a = 0 := by
        apply Classical.byContradiction
        intro hn
        exact hc ⟨hn, .inl rfl⟩
      refine ⟨rfl, fun e he => ?_⟩
      rcases List.mem_cons.1 he with rfl | he
      · exact ha
      · exact h2 e he
theorem minE_zero {l : List Int} (h : minE l = 0) : ∀ e ∈ l, e = 0 := (foldl_zero l 0 h).2
theorem any_badN (s : List UInt8) : s.any badN = (s.contains 0 || s.contains 10) := by
  rw [Bool.eq_iff_iff]
  simp only [List.any_eq_true, badN, Bool.or_eq_true, beq_iff_eq, List.contains_iff_mem]
  constructor
  · rintro ⟨b, hb, h | h⟩ <;> subst h <;> simp [hb]
  · rintro (h | h)
    · exact ⟨_, h, .inl rfl⟩
    · exact ⟨_, h, .inr rfl⟩
theorem zone_no10 {z : Int} (h0 : -1439 ≤ z) (h1 : z ≤ 1439) : (10 : UInt8) ∉ zoneT z := by
  obtain ⟨a0, a1⟩ := zabs_range h0 h1
  rw [zoneT_eq]
  have := dig_ne (zone4 (a := zabs z / 60) (b := zabs z % 60) (by omega) (by omega) (by omega) (by omega)).1 (x := 10) (by unfold isDig; decide)
  simp only [List.mem_cons, not_or]
  refine ⟨?_, this⟩
  split <;> decide
theorem put_no10 {i : Idt} (h : identOK i = true) : (10 : UInt8) ∉ putI i := by
  obtain ⟨p0, p1, t0, t1, z0, z1⟩ := (identOK_iff i).1 h
  obtain ⟨d0, _, _⟩ := itoa_dig t0
  have m1 := dig_ne d0 (x := 10) (by unfold isDig; decide)
  have m2 := zone_no10 z0 z1
  have n0 := (plain_mem p0).2.1
  have n1 := (plain_mem p1).2.1
  unfold putI
  simp only [List.mem_append, List.mem_cons, not_or, List.not_mem_nil, not_false_eq_true, and_true]
  exact ⟨⟨⟨⟨⟨⟨n0, by decide⟩, n1⟩, by decide⟩, m1⟩, by decide⟩, m2⟩
theorem word_no10 (k : Int) : (10 : UInt8) ∉ wordF k := by
  unfold wordF; split <;> (try split) <;> (try split) <;> (try split) <;> decide
theorem tagE_ok {l : Lbl} (h : tagE l = 0) : wordF l.kind ≠ [] ∧ l.msg.length ≤ 65536 ∧ (10 : UInt8) ∉ l.name ∧ l.name.length ≤ 100 ∧ l.name ≠ [] ∧ identOK l.who = true := by
  have h0 := minE_zero h
  have h1 := h0 _ (by simp : eWord l.kind ∈ _)
  have h2 := h0 _ (by simp : msgE l.msg ∈ _)
  have h3 := h0 (if nameB l.name = true then 3 else 0) (by simp)
  have h4 := h0 (if identOK l.who = true then 0 else 3) (by simp)
  refine ⟨?_, ?_, ?_⟩
  · intro hc
    unfold eWord at h1
    rw [hc] at h1
    simp at h1
  · have h5 := minE_zero h2 (if decide (65536 < (l.msg.length : Int)) = true then 2 else 0) (by simp)
    by_cases hm : 65536 < (l.msg.length : Int)
    · rw [if_pos (by simpa using hm)] at h5; omega
    · omega
  · have h6 : nameB l.name = false := by
      cases hb : nameB l.name with
      | false => rfl
      | true => rw [hb] at h3; simp at h3
    have h7 : identOK l.who = true := by
      cases hb : identOK l.who with
      | true => rfl
      | false => rw [hb] at h4; simp at h4
    unfold nameB at h6
    rw [any_badN] at h6
    simp only [Bool.or_eq_false_iff, decide_eq_false_iff_not, beq_eq_false_iff_ne, List.contains_eq_mem] at h6
    refine ⟨h6.2.2.2, by omega, h6.1, h7⟩
theorem kind_of {k : Int} (h : wordF k ≠ []) : k = 1 ∨ k = 2 ∨ k = 3 ∨ k = 4 := by
  apply Classical.byContradiction
  intro hn
  apply h
  unfold wordF
  rw [if_neg (by omega), if_neg (by omega), if_neg (by omega), if_neg (by omega)]
theorem tagB_len {l : Lbl} (h : tagE l = 0) : (tagB l).length ≤ 70000 := by
  obtain ⟨_, h2, _, h4, _, h6⟩ := tagE_ok h
  have := putI_len h6
  have := wordF_len l.kind
  have e := hexT_len l.tgt
  rw [l.htgt] at e
  unfold tagB objW typW tagW tgrW
  simp only [List.length_append, List.length_cons, List.length_nil, e]
  omega
def kindF (s : List UInt8) : Int := if (wordF 1 == s) = true then 1 else if (wordF 2 == s) = true then 2 else if (wordF 3 == s) = true then 3 else if (wordF 4 == s) = true then 4 else 0
theorem kindF_word {k : Int} (h : wordF k ≠ []) : kindF (wordF k) = k := by
  rcases kind_of h with rfl | rfl | rfl | rfl <;> decide
end Cod
namespace Cod
open Go
theorem contains_zero (s : List UInt8) : Lib.contains s [0] = s.contains 0 := by
  unfold Lib.contains
  rw [Bool.eq_iff_iff, decide_eq_true_eq, List.contains_iff_mem]
  rcases Lib.index_spec s [0] with ⟨h1, h2⟩ | ⟨i, h1, h2, h3, _⟩
  · rw [h1]
    refine ⟨fun h => by omega, fun h => ?_⟩
    obtain ⟨j, hj, he⟩ := List.getElem_of_mem h
    have h4 := h2 j (by omega)
    unfold Lib.occAt at h4
    rw [List.drop_eq_getElem_cons hj, he] at h4
    simp [List.isPrefixOf] at h4
  · rw [h1]
    refine ⟨fun _ => ?_, fun _ => by omega⟩
    have hr := Lib.occAt_room h3
    have hi : i < s.length := by
      rcases hr with hr | hr
      · simp at hr; omega
      · cases hr
    unfold Lib.occAt at h3
    rw [List.drop_eq_getElem_cons hi] at h3
    simp [List.isPrefixOf] at h3
    rw [h3]
    exact List.getElem_mem hi
theorem go_message {s : List UInt8} (hs : s.length ≤ 1000000000) : S E F.object_message [.str s] [] = some (.int .i64 (msgE s), []) := by
  have h1 := S_contains (s := s) (t := [0]) (by omega)
  rw [contains_zero] at h1
  have w1 : S E F.object_when [.bool (decide (65536 < (s.length : Int))), .int .i64 2] [] = some (.int .i64 (if decide (65536 < (s.length : Int)) = true then 2 else 0), []) := go_when
  have w2 : S E F.object_when [.bool (s.contains 0), .int .i64 4] [] = some (.int .i64 (if s.contains 0 = true then 4 else 0), []) := go_when
  unfold msgE
  generalize (if decide (65536 < (s.length : Int)) = true then (2 : Int) else 0) = a at *
  generalize (if s.contains 0 = true then (4 : Int) else 0) = b at *
  have hd : S E F.object_least [.lst [.int .i64 a, .int .i64 b] 2] [] = some (.int .i64 (minE [a, b]), []) := go_least2
  rw [S_of fn_object_message rfl rfl]
  simp (dsimp := false) (disch := first | omega | (simp only [LENs] <;> omega) | fail) only [L.object_message, go_sem, reduceIte, reduceCtorEq, Nat.reduceEqDiff, Nat.reduceAdd, Nat.reduceSub, Nat.reduceMul, Nat.reduceDiv, Nat.reduceMod, Nat.reduceBEq, Nat.reduceLeDiff, Nat.reduceLT, Int.reduceEq, Int.reduceNe, Int.reduceLT, Int.reduceLE, Int.reduceBEq, Int.reduceBNe, Int.reduceToNat, Int.reduceAdd, Int.reduceSub, Int.reduceMul, Int.reduceNeg, h1, w1, w2, hd]
theorem go_rmessage {s : List UInt8} (hs : s.length ≤ 1000000000) : S E F.ref07_message [.str s] [] = some (.int .i64 (msgE s), []) := by
  have h1 := go_rhas (s := s) (by omega) (c := 0) (by omega) (by omega)
  rw [show byt 0 = 0 from rfl] at h1
  have w1 : S E F.ref07_If [.bool (decide (65536 < (s.length : Int))), .int .i64 2] [] = some (.int .i64 (if decide (65536 < (s.length : Int)) = true then 2 else 0), []) := go_if
  have w2 : S E F.ref07_If [.bool (s.contains 0), .int .i64 4] [] = some (.int .i64 (if s.contains 0 = true then 4 else 0), []) := go_if
  unfold msgE
  generalize (if decide (65536 < (s.length : Int)) = true then (2 : Int) else 0) = a at *
  generalize (if s.contains 0 = true then (4 : Int) else 0) = b at *
  have hd : S E F.ref07_Least [.lst [.int .i64 a, .int .i64 b] 2] [] = some (.int .i64 (minE [a, b]), []) := go_rleast2
  rw [S_of fn_ref07_message rfl rfl]
  simp (dsimp := false) (disch := first | omega | (simp only [LENs] <;> omega) | fail) only [L.ref07_message, go_sem, reduceIte, reduceCtorEq, Nat.reduceEqDiff, Nat.reduceAdd, Nat.reduceSub, Nat.reduceMul, Nat.reduceDiv, Nat.reduceMod, Nat.reduceBEq, Nat.reduceLeDiff, Nat.reduceLT, Int.reduceEq, Int.reduceNe, Int.reduceLT, Int.reduceLE, Int.reduceBEq, Int.reduceBNe, Int.reduceToNat, Int.reduceAdd, Int.reduceSub, Int.reduceMul, Int.reduceNeg, h1, w1, w2, hd]
theorem hexD_bat : ∀ n : Nat, n < 16 → bat [48, 49, 50, 51, 52, 53, 54, 55, 56, 57, 97, 98, 99, 100, 101, 102] n = ((hexD n).toNat : Int) := by decide
theorem snoc2 (l : List UInt8) (a b : UInt8) : ofBytes l ++ [AV.int .u8 (a.toNat : Int), .int .u8 (b.toNat : Int)] = ofBytes (l ++ [a, b]) := by simp [ofBytes]
theorem bat_nat (l : List UInt8) (i : Nat) : bat l i = ((l.getD i 0).toNat : Int) := rfl
theorem rhex_l0 {id : List UInt8} (hid : id.length = 32) : ∀ (m i : Nat), i + m = 32 →
    X E [.tmp 2] (.c L.ref01_Hex.x0 :: .lp [3, 6, 7] L.ref01_Hex.x0 :: .blk 0 :: [.c L.ref01_Hex.r0]) ⟨[(3, .buf (.s 1000000 0) 0 0 (hexT (id.take i)).length 1), (6, .agg (ofBytes id)), (7, .int .i64 i)], [(.s 1000000 0, ⟨0, true, true, false, ofBytes (hexT (id.take i))⟩)]⟩ = some (.str (hexT id), []) := by
  intro m
  induction m with
  | zero =>
    intro i hi
    obtain rfl : i = 32 := by omega
    rw [X_in L.ref01_Hex.x0.eq_1]
    have ht : id.take 32 = id := List.take_of_length_le (by omega)
    rw [ht]
    have hl : (hexT id).length = 64 := by rw [hexT_len, hid]
    simp (dsimp := false) (disch := first | omega | (simp only [LENs] <;> omega) | fail) only [go_sem, reduceIte, reduceCtorEq, Nat.reduceEqDiff, Nat.reduceAdd, Nat.reduceSub, Nat.reduceMul, Nat.reduceDiv, Nat.reduceMod, Nat.reduceBEq, Nat.reduceLeDiff, Nat.reduceLT, Int.reduceEq, Int.reduceNe, Int.reduceLT, Int.reduceLE, Int.reduceBEq, Int.reduceBNe, Int.reduceToNat, Int.reduceAdd, Int.reduceSub, Int.reduceMul, Int.reduceNeg, BYs, L.ref01_Hex.r0]
  | succ m ih =>
    intro i hi
    have hlt : i < 32 := by omega
    have h1 := ih (i + 1) (by omega)
    simp only [Int.natCast_add, Int.cast_ofNat_Int] at h1
    rw [take_snoc (by omega), hexT_snoc, List.length_append] at h1
    have hl : (hexT (id.take i)).length = 2 * i := by rw [hexT_len, List.length_take]; omega
    have e2 : ∀ a b : UInt8, [a, b].length = 2 := fun _ _ => rfl
    rw [e2] at h1
    have hb := (id.getD i 0).toNat_lt
    have e0 : bat id i = ((id.getD i 0).toNat : Int) := rfl
    generalize id.getD i 0 = x at *
    have q1 : (x.toNat : Int).tdiv 16 = ((x.toNat / 16 : Nat) : Int) := by rw [tdiv_pos (by omega)]; omega
    have q2 : (x.toNat : Int).tmod 16 = ((x.toNat % 16 : Nat) : Int) := by rw [tmod_pos (by omega)]; omega
    have d1 := hexD_bat (x.toNat / 16) (by omega)
    have d2 := hexD_bat (x.toNat % 16) (by omega)
    have w1 : (((x.toNat / 16 : Nat) : Int) % 256).toNat = x.toNat / 16 := by omega
    have w2 : (((x.toNat % 16 : Nat) : Int) % 256).toNat = x.toNat % 16 := by omega
    rw [X_in L.ref01_Hex.x0.eq_1, ← h1]
    simp (dsimp := false) (disch := first | omega | (simp only [LENs] <;> omega) | fail) only [go_sem, reduceIte, reduceCtorEq, Nat.reduceEqDiff, Nat.reduceAdd, Nat.reduceSub, Nat.reduceMul, Nat.reduceDiv, Nat.reduceMod, Nat.reduceBEq, Nat.reduceLeDiff, Nat.reduceLT, Int.reduceEq, Int.reduceNe, Int.reduceLT, Int.reduceLE, Int.reduceBEq, Int.reduceBNe, Int.reduceToNat, Int.reduceAdd, Int.reduceSub, Int.reduceMul, Int.reduceNeg, BYs, e0, q1, q2, w1, w2, d1, d2, snoc2]
theorem go_rhex {id : List UInt8} (hid : id.length = 32) : S E F.ref01_Hex [.agg (ofBytes id)] [] = some (.str (hexT id), []) := by
  have h := rhex_l0 hid 32 0 (by omega)
  simp only [Int.cast_ofNat_Int, List.take_zero, show hexT [] = [] from rfl, List.length_nil, show ofBytes [] = [] from rfl] at h
  rw [S_of fn_ref01_Hex rfl rfl]
  simp (dsimp := false) (disch := first | omega | (simp only [LENs] <;> omega) | fail) only [L.ref01_Hex, go_sem, reduceIte, reduceCtorEq, Nat.reduceEqDiff, Nat.reduceAdd, Nat.reduceSub, Nat.reduceMul, Nat.reduceDiv, Nat.reduceMod, Nat.reduceBEq, Nat.reduceLeDiff, Nat.reduceLT, Int.reduceEq, Int.reduceNe, Int.reduceLT, Int.reduceLE, Int.reduceBEq, Int.reduceBNe, Int.reduceToNat, Int.reduceAdd, Int.reduceSub, Int.reduceMul, Int.reduceNeg, BYs, h]
def fil (id : List UInt8) (k : Nat) : List UInt8 := id.take k ++ List.replicate (32 - k) 0
theorem fil_len {id : List UInt8} {k : Nat} (hid : id.length = 32) (hk : k ≤ 32) : (fil id k).length = 32 := by unfold fil; rw [List.length_append, List.length_take, List.length_replicate]; omega
theorem fil_set {id : List UInt8} {k : Nat} (hid : id.length = 32) (hk : k < 32) : (fil id k).set k (id.getD k 0) = fil id (k + 1) := by
  unfold fil
  have hl : (id.take k).length = k := by rw [List.length_take]; omega
  rw [List.set_append_right (h := by omega), hl, Nat.sub_self, take_snoc (by omega), List.append_assoc]
  congr 1
  rw [show 32 - k = (32 - (k + 1)) + 1 by omega, List.replicate_succ]
  rfl
theorem undig : ∀ n : Nat, n < 16 → indexB [48, 49, 50, 51, 52, 53, 54, 55, 56, 57, 97, 98, 99, 100, 101, 102] (hexD n) = (n : Int) := by decide
theorem dig_range : ∀ n : Nat, n < 256 → (-1 ≤ indexB [48, 49, 50, 51, 52, 53, 54, 55, 56, 57, 97, 98, 99, 100, 101, 102] (UInt8.ofNat n) ∧ indexB [48, 49, 50, 51, 52, 53, 54, 55, 56, 57, 97, 98, 99, 100, 101, 102] (UInt8.ofNat n) < 16) := by decide +kernel
theorem ge_sindex {l : List UInt8} {c : Int} : S E F.strings_IndexByte [.str l, .int .u8 c] [] = some (.int .i64 (indexB l (byt c)), []) := S_ext ext0 go_sindex
def digs : List UInt8 := [48, 49, 50, 51, 52, 53, 54, 55, 56, 57, 97, 98, 99, 100, 101, 102]
theorem nib : ∀ a : Nat, a < 16 → ∀ b : Nat, b < 16 → IntKind.u8.wrap (ior .i64 (ishl .i64 (a : Int) 4) (b : Int)) = ((16 * a + b : Nat) : Int) := by decide +kernel
theorem idx_range (b : UInt8) : -1 ≤ indexB digs b ∧ indexB digs b < 16 := by
  have := dig_range b.toNat b.toNat_lt
  rwa [UInt8.ofNat_toNat] at this
theorem fil_all {id : List UInt8} (hid : id.length = 32) : fil id 32 = id := by
  unfold fil
  rw [List.take_of_length_le (by omega)]
  simp
theorem sp_l0 {s : List UInt8} (hs : s.length = 64) : ∀ (m i : Nat) (d : List UInt8), i + m = 32 → d.length = 32 → ∃ d' e, d'.length = 32 ∧ (e = 0 ∨ e = 4) ∧
    X E [.cell 2 (some 32), .tmp 3] (.c L.sha_Parse.x0 :: .lp [0, 2, 4, 12] L.sha_Parse.x0 :: .blk 0 :: [.c L.sha_Parse.r0]) ⟨[(0, .str s), (2, .ref (.s 1000000 0) 0 0), (4, .ref (.s 1000000 1) 0 0), (12, .int .i64 i)], [(.s 1000000 0, ⟨0, true, true, true, ofBytes (List.replicate 32 0)⟩), (.s 1000000 1, ⟨0, true, true, true, ofBytes d⟩)]⟩ = some (.tup [.agg (ofBytes d'), .int .i64 e], []) ∧
    ∀ id, id.length = 32 → s = hexT id → d = fil id i → d' = id ∧ e = 0 := by
  intro m
  induction m with
  | zero =>
    intro i d hi hd
    obtain rfl : i = 32 := by omega
    refine ⟨d, 0, hd, .inl rfl, ?_, fun id h1 h2 h3 => ⟨by rw [h3, fil_all h1], rfl⟩⟩
    rw [X_in L.sha_Parse.x0.eq_1]
    simp (dsimp := false) (disch := first | omega | (simp only [LENs] <;> omega) | fail) only [go_sem, reduceIte, reduceCtorEq, Nat.reduceEqDiff, Nat.reduceAdd, Nat.reduceSub, Nat.reduceMul, Nat.reduceDiv, Nat.reduceMod, Nat.reduceBEq, Nat.reduceLeDiff, Nat.reduceLT, Int.reduceEq, Int.reduceNe, Int.reduceLT, Int.reduceLE, Int.reduceBEq, Int.reduceBNe, Int.reduceToNat, Int.reduceAdd, Int.reduceSub, Int.reduceMul, Int.reduceNeg, BYs, L.sha_Parse.r0, List.length_replicate, hd]
  | succ m ih =>
    intro i d hi hd
    have hlt : i < 32 := by omega
    obtain ⟨a0, a1⟩ := idx_range (s.getD (2 * i) 0)
    obtain ⟨b0, b1⟩ := idx_range (s.getD (2 * i + 1) 0)
    have c1 := ge_sindex (l := digs) (c := bat s (2 * i))
    have c2 := ge_sindex (l := digs) (c := bat s (2 * i + 1))
    rw [byt_bat] at c1 c2
    have e1 : ((2 : Int) * (i : Int)).toNat = 2 * i := by omega
    have e2 : ((2 : Int) * (i : Int) + 1).toNat = 2 * i + 1 := by omega
    have yes : ∀ id, id.length = 32 → s = hexT id → indexB digs (s.getD (2 * i) 0) = (((id.getD i 0).toNat / 16 : Nat) : Int) ∧ indexB digs (s.getD (2 * i + 1) 0) = (((id.getD i 0).toNat % 16 : Nat) : Int) := by
      intro id h1 h2
      have := (id.getD i 0).toNat_lt
      obtain ⟨g1, g2⟩ := hexT_get (id := id) (i := i) (by omega)
      rw [h2, g1, g2]
      exact ⟨undig _ (by omega), undig _ (by omega)⟩
    unfold digs at *
    generalize indexB [48, 49, 50, 51, 52, 53, 54, 55, 56, 57, 97, 98, 99, 100, 101, 102] (s.getD (2 * i) 0) = A at *
    generalize indexB [48, 49, 50, 51, 52, 53, 54, 55, 56, 57, 97, 98, 99, 100, 101, 102] (s.getD (2 * i + 1) 0) = B at *
    rw [X_in L.sha_Parse.x0.eq_1]
    by_cases hA : A < 0
    · refine ⟨List.replicate 32 0, 4, by simp, .inr rfl, ?_, fun id h1 h2 _ => ?_⟩
      · simp (dsimp := false) (disch := first | omega | (simp only [LENs] <;> omega) | fail) only [go_sem, reduceIte, reduceCtorEq, Nat.reduceEqDiff, Nat.reduceAdd, Nat.reduceSub, Nat.reduceMul, Nat.reduceDiv, Nat.reduceMod, Nat.reduceBEq, Nat.reduceLeDiff, Nat.reduceLT, Int.reduceEq, Int.reduceNe, Int.reduceLT, Int.reduceLE, Int.reduceBEq, Int.reduceBNe, Int.reduceToNat, Int.reduceAdd, Int.reduceSub, Int.reduceMul, Int.reduceNeg, BYs, e1, e2, c1, c2, hA, List.length_replicate, hd]
      · have := (yes id h1 h2).1; omega
    · by_cases hB : B < 0
      · refine ⟨List.replicate 32 0, 4, by simp, .inr rfl, ?_, fun id h1 h2 _ => ?_⟩
        · simp (dsimp := false) (disch := first | omega | (simp only [LENs] <;> omega) | fail) only [go_sem, reduceIte, reduceCtorEq, Nat.reduceEqDiff, Nat.reduceAdd, Nat.reduceSub, Nat.reduceMul, Nat.reduceDiv, Nat.reduceMod, Nat.reduceBEq, Nat.reduceLeDiff, Nat.reduceLT, Int.reduceEq, Int.reduceNe, Int.reduceLT, Int.reduceLE, Int.reduceBEq, Int.reduceBNe, Int.reduceToNat, Int.reduceAdd, Int.reduceSub, Int.reduceMul, Int.reduceNeg, BYs, e1, e2, c1, c2, hA, hB, List.length_replicate, hd]
        · have := (yes id h1 h2).2; omega
      · obtain ⟨a, rfl⟩ : ∃ a : Nat, A = a := ⟨A.toNat, by omega⟩
        obtain ⟨b, rfl⟩ : ∃ b : Nat, B = b := ⟨B.toNat, by omega⟩
        have hn := nib a (by omega) b (by omega)
        obtain ⟨d', e, h1, h2, h3, h4⟩ := ih (i + 1) (d.set i (UInt8.ofNat (16 * a + b))) (by omega) (by rw [List.length_set]; exact hd)
        simp only [Int.natCast_add, Int.cast_ofNat_Int] at h3
        refine ⟨d', e, h1, h2, ?_, fun id g1 g2 g3 => h4 id g1 g2 ?_⟩
        · rw [← h3]
          simp (dsimp := false) (disch := first | omega | (simp only [LENs] <;> omega) | fail) only [go_sem, reduceIte, reduceCtorEq, Nat.reduceEqDiff, Nat.reduceAdd, Nat.reduceSub, Nat.reduceMul, Nat.reduceDiv, Nat.reduceMod, Nat.reduceBEq, Nat.reduceLeDiff, Nat.reduceLT, Int.reduceEq, Int.reduceNe, Int.reduceLT, Int.reduceLE, Int.reduceBEq, Int.reduceBNe, Int.reduceToNat, Int.reduceAdd, Int.reduceSub, Int.reduceMul, Int.reduceNeg, BYs, e1, e2, c1, c2, hA, hB, hn, List.length_replicate, hd]
        · obtain ⟨y1, y2⟩ := yes id g1 g2
          have := (id.getD i 0).toNat_lt
          have hx : UInt8.ofNat (16 * a + b) = id.getD i 0 := by
            have : 16 * a + b = (id.getD i 0).toNat := by omega
            rw [this]
            rw [UInt8.ofNat_toNat]
          rw [hx, g3, fil_set g1 hlt]
theorem go_sparse {s : List UInt8} (hs : s.length ≤ 1000000000) : ∃ d e, d.length = 32 ∧ (e = 0 ∨ e = 4) ∧ S E F.sha_Parse [.str s] [] = some (.tup [.agg (ofBytes d), .int .i64 e], []) ∧ ∀ id, id.length = 32 → s = hexT id → d = id ∧ e = 0 := by
  by_cases hl : s.length = 64
  · obtain ⟨d, e, h1, h2, h3, h4⟩ := sp_l0 hl 32 0 (List.replicate 32 0) (by omega) (by simp)
    simp only [Int.cast_ofNat_Int] at h3
    refine ⟨d, e, h1, h2, ?_, fun id g1 g2 => h4 id g1 g2 (by unfold fil; simp)⟩
    rw [S_of fn_sha_Parse rfl rfl]
    simp (dsimp := false) (disch := first | omega | (simp only [LENs] <;> omega) | fail) only [L.sha_Parse, go_sem, reduceIte, reduceCtorEq, Nat.reduceEqDiff, Nat.reduceAdd, Nat.reduceSub, Nat.reduceMul, Nat.reduceDiv, Nat.reduceMod, Nat.reduceBEq, Nat.reduceLeDiff, Nat.reduceLT, Int.reduceEq, Int.reduceNe, Int.reduceLT, Int.reduceLE, Int.reduceBEq, Int.reduceBNe, Int.reduceToNat, Int.reduceAdd, Int.reduceSub, Int.reduceMul, Int.reduceNeg, BYs, hl, h3]
  · refine ⟨List.replicate 32 0, 4, by simp, .inr rfl, ?_, fun id g1 g2 => ?_⟩
    · rw [S_of fn_sha_Parse rfl rfl]
      simp (dsimp := false) (disch := first | omega | (simp only [LENs] <;> omega) | fail) only [L.sha_Parse, go_sem, reduceIte, reduceCtorEq, Nat.reduceEqDiff, Nat.reduceAdd, Nat.reduceSub, Nat.reduceMul, Nat.reduceDiv, Nat.reduceMod, Nat.reduceBEq, Nat.reduceLeDiff, Nat.reduceLT, Int.reduceEq, Int.reduceNe, Int.reduceLT, Int.reduceLE, Int.reduceBEq, Int.reduceBNe, Int.reduceToNat, Int.reduceAdd, Int.reduceSub, Int.reduceMul, Int.reduceNeg, BYs, hl, List.length_replicate]
    · exact absurd (by rw [g2, hexT_len]; omega) hl
end Cod
namespace Cod
open Go
def dgF (c : Int) : Int := if 48 ≤ c ∧ c ≤ 57 then c - 48 else if 97 ≤ c ∧ c ≤ 102 then c - 97 + 10 else 16
theorem dgF_range {c : Int} : 0 ≤ dgF c ∧ dgF c ≤ 16 := by
  unfold dgF; split
  · omega
  · split <;> omega
theorem go_digit {c : Int} (h0 : 0 ≤ c) (h1 : c < 256) : S E F.ref01_digit [.int .u8 c] [] = some (.int .i64 (dgF c), []) := by
  rw [S_of fn_ref01_digit rfl rfl]
  unfold dgF
  by_cases a : 48 ≤ c
  · by_cases b : c ≤ 57
    · have w : (c - 48) % 256 = c - 48 := by omega
      simp (dsimp := false) (disch := first | omega | (simp only [LENs] <;> omega) | fail) only [L.ref01_digit, go_sem, reduceIte, reduceCtorEq, Nat.reduceEqDiff, Nat.reduceAdd, Nat.reduceSub, Nat.reduceMul, Nat.reduceDiv, Nat.reduceMod, Nat.reduceBEq, Nat.reduceLeDiff, Nat.reduceLT, Int.reduceEq, Int.reduceNe, Int.reduceLT, Int.reduceLE, Int.reduceBEq, Int.reduceBNe, Int.reduceToNat, Int.reduceAdd, Int.reduceSub, Int.reduceMul, Int.reduceNeg, a, b, w]
    · by_cases a' : 97 ≤ c
      · by_cases b' : c ≤ 102
        · have w : (c - 97) % 256 = c - 97 := by omega
          simp (dsimp := false) (disch := first | omega | (simp only [LENs] <;> omega) | fail) only [L.ref01_digit, go_sem, reduceIte, reduceCtorEq, Nat.reduceEqDiff, Nat.reduceAdd, Nat.reduceSub, Nat.reduceMul, Nat.reduceDiv, Nat.reduceMod, Nat.reduceBEq, Nat.reduceLeDiff, Nat.reduceLT, Int.reduceEq, Int.reduceNe, Int.reduceLT, Int.reduceLE, Int.reduceBEq, Int.reduceBNe, Int.reduceToNat, Int.reduceAdd, Int.reduceSub, Int.reduceMul, Int.reduceNeg, a, b, a', b', w]
        · simp (dsimp := false) (disch := first | omega | (simp only [LENs] <;> omega) | fail) only [L.ref01_digit, go_sem, reduceIte, reduceCtorEq, Nat.reduceEqDiff, Nat.reduceAdd, Nat.reduceSub, Nat.reduceMul, Nat.reduceDiv, Nat.reduceMod, Nat.reduceBEq, Nat.reduceLeDiff, Nat.reduceLT, Int.reduceEq, Int.reduceNe, Int.reduceLT, Int.reduceLE, Int.reduceBEq, Int.reduceBNe, Int.reduceToNat, Int.reduceAdd, Int.reduceSub, Int.reduceMul, Int.reduceNeg, a, b, a', b', and_false, false_and]
      · simp (dsimp := false) (disch := first | omega | (simp only [LENs] <;> omega) | fail) only [L.ref01_digit, go_sem, reduceIte, reduceCtorEq, Nat.reduceEqDiff, Nat.reduceAdd, Nat.reduceSub, Nat.reduceMul, Nat.reduceDiv, Nat.reduceMod, Nat.reduceBEq, Nat.reduceLeDiff, Nat.reduceLT, Int.reduceEq, Int.reduceNe, Int.reduceLT, Int.reduceLE, Int.reduceBEq, Int.reduceBNe, Int.reduceToNat, Int.reduceAdd, Int.reduceSub, Int.reduceMul, Int.reduceNeg, a, b, a', and_false, false_and]
  · have a' : ¬ 97 ≤ c := by omega
    simp (dsimp := false) (disch := first | omega | (simp only [LENs] <;> omega) | fail) only [L.ref01_digit, go_sem, reduceIte, reduceCtorEq, Nat.reduceEqDiff, Nat.reduceAdd, Nat.reduceSub, Nat.reduceMul, Nat.reduceDiv, Nat.reduceMod, Nat.reduceBEq, Nat.reduceLeDiff, Nat.reduceLT, Int.reduceEq, Int.reduceNe, Int.reduceLT, Int.reduceLE, Int.reduceBEq, Int.reduceBNe, Int.reduceToNat, Int.reduceAdd, Int.reduceSub, Int.reduceMul, Int.reduceNeg, a, a', false_and]
theorem dgF_hex : ∀ n : Nat, n < 16 → dgF ((hexD n).toNat : Int) = (n : Int) := by decide
def half (id : List UInt8) (i : Nat) : List UInt8 := if i % 2 = 0 then fil id (i / 2) else (fil id (i / 2)).set (i / 2) (UInt8.ofNat ((id.getD (i / 2) 0).toNat / 16))
theorem rp_l0 {s : List UInt8} (hs : s.length = 64) : ∀ (m i : Nat) (d : List UInt8), i + m = 64 → d.length = 32 → ∃ d' e, d'.length = 32 ∧ (e = 0 ∨ e = 4) ∧
    X E [.cell 2 (some 32), .tmp 3] (.c L.ref01_DocParse.x0 :: .lp [0, 2, 4, 5] L.ref01_DocParse.x0 :: .blk 0 :: [.c L.ref01_DocParse.r0]) ⟨[(0, .str s), (2, .ref (.s 1000000 0) 0 0), (4, .ref (.s 1000000 1) 0 0), (5, .int .i64 i)], [(.s 1000000 0, ⟨0, true, true, true, ofBytes (List.replicate 32 0)⟩), (.s 1000000 1, ⟨0, true, true, true, ofBytes d⟩)]⟩ = some (.tup [.agg (ofBytes d'), .int .i64 e], []) ∧
    ∀ id, id.length = 32 → s = hexT id → d = half id i → d' = id ∧ e = 0 := by
  intro m
  induction m with
  | zero =>
    intro i d hi hd
    obtain rfl : i = 64 := by omega
    refine ⟨d, 0, hd, .inl rfl, ?_, fun id h1 h2 h3 => ⟨by rw [h3]; exact fil_all h1, rfl⟩⟩
    rw [X_in L.ref01_DocParse.x0.eq_1]
    simp (dsimp := false) (disch := first | omega | (simp only [LENs] <;> omega) | fail) only [go_sem, reduceIte, reduceCtorEq, Nat.reduceEqDiff, Nat.reduceAdd, Nat.reduceSub, Nat.reduceMul, Nat.reduceDiv, Nat.reduceMod, Nat.reduceBEq, Nat.reduceLeDiff, Nat.reduceLT, Int.reduceEq, Int.reduceNe, Int.reduceLT, Int.reduceLE, Int.reduceBEq, Int.reduceBNe, Int.reduceToNat, Int.reduceAdd, Int.reduceSub, Int.reduceMul, Int.reduceNeg, BYs, L.ref01_DocParse.r0, List.length_replicate, hd]
  | succ m ih =>
    intro i d hi hd
    have hlt : i < 64 := by omega
    obtain ⟨b0, b1⟩ := bat_range s i
    have c1 := go_digit b0 b1
    obtain ⟨g0, g1⟩ := dgF_range (c := bat s i)
    have yes : ∀ id, id.length = 32 → s = hexT id → dgF (bat s i) = ((if i % 2 = 0 then (id.getD (i / 2) 0).toNat / 16 else (id.getD (i / 2) 0).toNat % 16 : Nat) : Int) := by
      intro id h1 h2
      have := (id.getD (i / 2) 0).toNat_lt
      obtain ⟨k1, k2⟩ := hexT_get (id := id) (i := i / 2) (by omega)
      have e : bat s i = (((hexT id).getD i 0).toNat : Int) := by rw [← h2]; rfl
      rw [e]
      by_cases he : i % 2 = 0
      · rw [if_pos he, show i = 2 * (i / 2) by omega, k1, show 2 * (i / 2) / 2 = i / 2 by omega]
        exact dgF_hex _ (by omega)
      · rw [if_neg he, show i = 2 * (i / 2) + 1 by omega, k2, show (2 * (i / 2) + 1) / 2 = i / 2 by omega]
        exact dgF_hex _ (by omega)
    generalize dgF (bat s i) = A at *
    have e1 : (i : Int).tdiv 2 = ((i / 2 : Nat) : Int) := by rw [tdiv_pos (by omega)]; omega
    rw [X_in L.ref01_DocParse.x0.eq_1]
    by_cases hA : 15 < A
    · refine ⟨List.replicate 32 0, 4, by simp, .inr rfl, ?_, fun id h1 h2 _ => ?_⟩
      · simp (dsimp := false) (disch := first | omega | (simp only [LENs] <;> omega) | fail) only [go_sem, reduceIte, reduceCtorEq, Nat.reduceEqDiff, Nat.reduceAdd, Nat.reduceSub, Nat.reduceMul, Nat.reduceDiv, Nat.reduceMod, Nat.reduceBEq, Nat.reduceLeDiff, Nat.reduceLT, Int.reduceEq, Int.reduceNe, Int.reduceLT, Int.reduceLE, Int.reduceBEq, Int.reduceBNe, Int.reduceToNat, Int.reduceAdd, Int.reduceSub, Int.reduceMul, Int.reduceNeg, BYs, c1, hA, List.length_replicate, hd]
      · have y := yes id h1 h2
        have := (id.getD (i / 2) 0).toNat_lt
        by_cases he : i % 2 = 0
        · rw [if_pos he] at y; omega
        · rw [if_neg he] at y; omega
    · obtain ⟨d', e, h1, h2, h3, h4⟩ := ih (i + 1) (d.set (i / 2) (UInt8.ofNat ((16 * bat d (i / 2) % 256 + A % 256) % 256).toNat)) (by omega) (by rw [List.length_set]; exact hd)
      simp only [Int.natCast_add, Int.cast_ofNat_Int] at h3
      have hx0 := bat_range d (i / 2)
      refine ⟨d', e, h1, h2, ?_, fun id g1 g2 g3 => h4 id g1 g2 ?_⟩
      · rw [← h3]
        simp (dsimp := false) (disch := first | omega | (simp only [LENs] <;> omega) | fail) only [go_sem, reduceIte, reduceCtorEq, Nat.reduceEqDiff, Nat.reduceAdd, Nat.reduceSub, Nat.reduceMul, Nat.reduceDiv, Nat.reduceMod, Nat.reduceBEq, Nat.reduceLeDiff, Nat.reduceLT, Int.reduceEq, Int.reduceNe, Int.reduceLT, Int.reduceLE, Int.reduceBEq, Int.reduceBNe, Int.reduceToNat, Int.reduceAdd, Int.reduceSub, Int.reduceMul, Int.reduceNeg, BYs, e1, c1, hA, List.length_replicate, hd]
      · have y := yes id g1 g2
        have hx := (id.getD (i / 2) 0).toNat_lt
        have hfl := fil_len (k := i / 2) g1 (by omega)
        by_cases he : i % 2 = 0
        · rw [if_pos he] at y
          have hd0 : bat d (i / 2) = 0 := by
            rw [g3]
            unfold half bat
            rw [if_pos he]
            unfold fil
            have hl : (id.take (i / 2)).length = i / 2 := by rw [List.length_take]; omega
            simp only [List.getD]
            rw [List.getElem?_append_right (by omega), hl, Nat.sub_self, List.getElem?_replicate]
            split <;> rfl
          rw [hd0, y, show ((16 * 0 % 256 + (((id.getD (i / 2) 0).toNat / 16 : Nat) : Int) % 256) % 256).toNat = (id.getD (i / 2) 0).toNat / 16 by omega, g3]
          unfold half
          rw [if_pos he, if_neg (by omega), show (i + 1) / 2 = i / 2 by omega]
        · rw [if_neg he] at y
          have hd0 : bat d (i / 2) = (((id.getD (i / 2) 0).toNat / 16 : Nat) : Int) := by
            rw [g3]
            unfold half bat
            rw [if_neg he]
            have key : ∀ (l : List UInt8) (k : Nat) (x : UInt8), k < l.length → (l.set k x).getD k 0 = x := by intro l k x h; simp [List.getD, h]
            rw [key _ _ _ (by omega), UInt8.toNat_ofNat']
            omega
          rw [hd0, y, show ((16 * (((id.getD (i / 2) 0).toNat / 16 : Nat) : Int) % 256 + (((id.getD (i / 2) 0).toNat % 16 : Nat) : Int) % 256) % 256).toNat = (id.getD (i / 2) 0).toNat by omega, g3, UInt8.ofNat_toNat]
          unfold half
          rw [if_neg he, if_pos (by omega), List.set_set, fil_set g1 (by omega), show (i + 1) / 2 = i / 2 + 1 by omega]
theorem go_rdparse {s : List UInt8} (hs : s.length ≤ 1000000000) : ∃ d e, d.length = 32 ∧ (e = 0 ∨ e = 4) ∧ S E F.ref01_DocParse [.str s] [] = some (.tup [.agg (ofBytes d), .int .i64 e], []) ∧ ∀ id, id.length = 32 → s = hexT id → d = id ∧ e = 0 := by
  by_cases hl : s.length = 64
  · obtain ⟨d, e, h1, h2, h3, h4⟩ := rp_l0 hl 64 0 (List.replicate 32 0) (by omega) (by simp)
    simp only [Int.cast_ofNat_Int] at h3
    refine ⟨d, e, h1, h2, ?_, fun id g1 g2 => h4 id g1 g2 (by unfold half fil; simp)⟩
    rw [S_of fn_ref01_DocParse rfl rfl]
    simp (dsimp := false) (disch := first | omega | (simp only [LENs] <;> omega) | fail) only [L.ref01_DocParse, go_sem, reduceIte, reduceCtorEq, Nat.reduceEqDiff, Nat.reduceAdd, Nat.reduceSub, Nat.reduceMul, Nat.reduceDiv, Nat.reduceMod, Nat.reduceBEq, Nat.reduceLeDiff, Nat.reduceLT, Int.reduceEq, Int.reduceNe, Int.reduceLT, Int.reduceLE, Int.reduceBEq, Int.reduceBNe, Int.reduceToNat, Int.reduceAdd, Int.reduceSub, Int.reduceMul, Int.reduceNeg, BYs, hl, h3]
  · refine ⟨List.replicate 32 0, 4, by simp, .inr rfl, ?_, fun id g1 g2 => ?_⟩
    · rw [S_of fn_ref01_DocParse rfl rfl]
      simp (dsimp := false) (disch := first | omega | (simp only [LENs] <;> omega) | fail) only [L.ref01_DocParse, go_sem, reduceIte, reduceCtorEq, Nat.reduceEqDiff, Nat.reduceAdd, Nat.reduceSub, Nat.reduceMul, Nat.reduceDiv, Nat.reduceMod, Nat.reduceBEq, Nat.reduceLeDiff, Nat.reduceLT, Int.reduceEq, Int.reduceNe, Int.reduceLT, Int.reduceLE, Int.reduceBEq, Int.reduceBNe, Int.reduceToNat, Int.reduceAdd, Int.reduceSub, Int.reduceMul, Int.reduceNeg, BYs, hl, List.length_replicate]
    · exact absurd (by rw [g2, hexT_len]; omega) hl
end Cod

/- The law's own functions. -/
import Derived.Test.YtaahcmnekjlacaaDoorXTxt4
set_option linter.unusedSimpArgs false
set_option linter.unusedVariables false
namespace Cod
open Go

def aw : Slot := ⟨[97], 0, 33188, (List.replicate 32 0).set 0 1, 5, 9, rfl⟩
theorem aw_check : checkF [aw] = 0 := by decide +kernel
theorem aw_len : (putF [aw]).length = 124 := by
  rw [putF, List.length_append, shaF_length]
  rfl
theorem go_awake : S E F.law17_awake [] [] = some (.bool true, []) := by
  have hp := go_put (l := [aw]) (by simp)
  rw [if_pos aw_check, aw_len, aw_check] at hp
  simp only [List.length_singleton] at hp
  have hw : ∀ h, Slot.cells ⟨[97], (default : Slot).stage, 33188, (List.replicate 32 0).set 0 (UInt8.ofNat 1), 5, 9, h⟩ = slots [aw] := fun _ => rfl
  have hq := go_parse (p := putF [aw]) (n := 124) aw_len.symm (by rw [aw_len]; omega)
  rw [parse_put aw_check] at hq
  simp only [List.length_singleton] at hq
  have hs := go_slotsame (a := [aw]) (b := [aw]) (n := 1) (m := 1) rfl rfl (by simp) (by simp)
  have e1 : sub (putF [aw]) 0 124 = putF [aw] := sub_full (by rw [aw_len]; omega)
  have e2 : sub (slots [aw]) 0 37 = slots [aw] := rfl
  rw [S_of fn_law17_awake rfl rfl]
  simp (dsimp := false) (disch := first | omega | (simp only [strs_length, List.length_set, List.length_replicate, words_length, ofBytes_length, List.length_append, List.length_cons, List.length_nil, List.length_take, List.length_drop] <;> omega) | fail) only [L.law17_awake, go_sem, reduceIte, reduceCtorEq, Nat.reduceEqDiff, Nat.reduceAdd, Nat.reduceSub, Nat.reduceMul, Nat.reduceDiv, Nat.reduceMod, Nat.reduceBEq, Nat.reduceLeDiff, Nat.reduceLT, Int.reduceEq, Int.reduceNe, Int.reduceLT, Int.reduceLE, Int.reduceBEq, Int.reduceBNe, Int.reduceToNat, Int.reduceAdd, Int.reduceSub, Int.reduceMul, Int.reduceNeg, zer_bytes, app_ofBytes, ofBytes_length, flats_ofBytes, hards_ofBytes, leadss_ofBytes, refsOfs_ofBytes, rens_ofBytes, bytesOf_ofBytes, sub_ofBytes, take_ofBytes, drop_ofBytes, get_ofBytes, over_ofBytes_all, over_ofBytes, ofBytes_snoc, slot0, slot0z, cells_length, flats_cells, hards_cells, leadss_cells, refsOfs_cells, rens_cells, cells_0, cells_1, cells_2, cells_35, cells_36, cells_id, over_cells, sub_cells, take_cells, slots_length, flats_slots, hards_slots, leadss_slots, refsOfs_slots, rens_slots, sub_slots, slots_0, slots_1, slots_2, slots_35, slots_36, slots_snoc, over_c0, over_c1, over_c2, over_c3, over_c35, over_c36]
  simp only [hw]
  simp (dsimp := false) (disch := first | omega | (simp only [strs_length, List.length_set, List.length_replicate, words_length, ofBytes_length, List.length_append, List.length_cons, List.length_nil, List.length_take, List.length_drop] <;> omega) | fail) only [go_sem, reduceIte, reduceCtorEq, Nat.reduceEqDiff, Nat.reduceAdd, Nat.reduceSub, Nat.reduceMul, Nat.reduceDiv, Nat.reduceMod, Nat.reduceBEq, Nat.reduceLeDiff, Nat.reduceLT, Int.reduceEq, Int.reduceNe, Int.reduceLT, Int.reduceLE, Int.reduceBEq, Int.reduceBNe, Int.reduceToNat, Int.reduceAdd, Int.reduceSub, Int.reduceMul, Int.reduceNeg, zer_bytes, app_ofBytes, ofBytes_length, flats_ofBytes, hards_ofBytes, leadss_ofBytes, refsOfs_ofBytes, rens_ofBytes, bytesOf_ofBytes, sub_ofBytes, take_ofBytes, drop_ofBytes, get_ofBytes, over_ofBytes_all, over_ofBytes, ofBytes_snoc, slot0, slot0z, cells_length, flats_cells, hards_cells, leadss_cells, refsOfs_cells, rens_cells, cells_0, cells_1, cells_2, cells_35, cells_36, cells_id, over_cells, sub_cells, take_cells, slots_length, flats_slots, hards_slots, leadss_slots, refsOfs_slots, rens_slots, sub_slots, slots_0, slots_1, slots_2, slots_35, slots_36, slots_snoc, hw, hp, hq, hs, decide_true, aw_len, e1, e2]
end Cod

/- An index is parsed, by the reference: numbers, a slot. -/
namespace Cod
open Go

end Cod

/- An index is parsed, by the reference: the whole; it answers as Parse does. -/
namespace Cod
open Go

end Cod

/- The law IndexReads. -/
namespace Cod
open Go

theorem parseF_length (p : List UInt8) : (parseF p).1.length ≤ 4096 := by
  unfold parseF
  split
  · simp
  · split
    · simp
    · split
      · simp
      · rename_i l hl
        unfold parseG
        split
        · split
          · exact parseL_length hl (by simp)
          · simp
        · simp
end Cod

/- The law IndexBack. -/
namespace Cod
open Go

theorem xor_u8 : ∀ a : Nat, a < 256 → ∀ b : Nat, b < 256 → 0 ≤ ixor .u8 a b ∧ ixor .u8 a b < 256 ∧ (b ≠ 0 → ixor .u8 a b ≠ a) := by
  intro a ha b hb
  have e : ixor .u8 (a : Int) (b : Int) = (((BitVec.ofNat 8 a) ^^^ (BitVec.ofNat 8 b)).toNat : Int) := by
    unfold ixor
    show IntKind.u8.wrap (((BitVec.ofInt 8 (a : Int)) ^^^ (BitVec.ofInt 8 (b : Int))).toNat : Int) = _
    rw [BitVec.ofInt_natCast, BitVec.ofInt_natCast, wrap_u8]
    have := (BitVec.ofNat 8 a ^^^ BitVec.ofNat 8 b).isLt
    omega
  have hlt := (BitVec.ofNat 8 a ^^^ BitVec.ofNat 8 b).isLt
  refine ⟨by rw [e]; omega, by rw [e]; omega, fun hb0 h => hb0 ?_⟩
  rw [e] at h
  have h2 : (BitVec.ofNat 8 a ^^^ BitVec.ofNat 8 b) = BitVec.ofNat 8 a := by
    apply BitVec.eq_of_toNat_eq
    rw [BitVec.toNat_ofNat, Nat.mod_eq_of_lt (by omega : a < 2 ^ 8)]
    omega
  have h3 : BitVec.ofNat 8 b = 0#8 := by
    have := congrArg (fun x => BitVec.ofNat 8 a ^^^ x) h2
    simpa [← BitVec.xor_assoc] using this
  have := congrArg BitVec.toNat h3
  simp at this
  omega
theorem parse_none {p : List UInt8} (h : (parseF p).2 ≠ 0) : (parseF p).1 = [] := by
  unfold parseF at h ⊢
  split
  · rfl
  · rename_i h1
    rw [if_neg h1] at h
    split
    · rfl
    · rename_i h2
      rw [if_neg h2] at h
      split
      · rfl
      · rename_i l hl
        rw [hl] at h
        simp only at h
        unfold parseG at h ⊢
        split
        · rename_i h3
          rw [if_pos h3] at h
          split
          · rename_i h4; rw [if_pos h4] at h; exact absurd rfl h
          · rfl
        · rfl
theorem parse_some {p : List UInt8} (h : (parseF p).2 = 0) : checkF (parseF p).1 = 0 ∧ putF (parseF p).1 = p := by
  unfold parseF at h ⊢
  split at h
  · cases h
  · split at h
    · cases h
    · split at h
      · cases h
      · rename_i h1 h2 _ l hl
        rw [if_neg h1, if_neg h2]
        unfold parseG at h ⊢
        split at h
        · rename_i h3
          split at h
          · rename_i h4
            rw [if_pos h3, if_pos h4]
            exact ⟨h3.1, h4⟩
          · cases h
        · cases h
theorem parse_turn {l : List Slot} (h : checkF l = 0) {j : Nat} {c : UInt8} (hj : (putF l).length - 32 ≤ j) (hj2 : j < (putF l).length) (hc : c ≠ (putF l).getD j 0) : parseF ((putF l).set j c) = ([], 6) := by
  have hp := parse_put h
  have hlen := putF_len h
  have hne : putF l ≠ (putF l).set j c := by
    intro he
    have := congrArg (fun x : List UInt8 => x.getD j 0) he
    simp only [List.getD_eq_getElem?_getD, List.getElem?_set_self hj2, Option.getD_some] at this
    exact hc (by rw [List.getD_eq_getElem?_getD]; exact this.symm)
  have htake : ((putF l).set j c).take ((putF l).length - 32) = (putF l).take ((putF l).length - 32) := List.take_set_of_le hj
  have hsub : sub ((putF l).set j c) 12 ((putF l).length - 44) = sub (putF l) 12 ((putF l).length - 44) := by
    unfold sub
    have e1 : ∀ q : List UInt8, (q.drop 12).take ((putF l).length - 44) = (q.take ((putF l).length - 32)).drop 12 := fun q => by
      rw [List.drop_take, show (putF l).length - 32 - 12 = (putF l).length - 44 by omega]
    rw [e1, e1, htake]
  unfold parseF at hp ⊢
  rw [List.length_set]
  split at hp
  · cases hp
  · rename_i h1
    split at hp
    · cases hp
    · rename_i h2
      rw [if_neg h1, if_neg h2, hsub]
      split at hp
      · cases hp
      · rename_i l' hl
        unfold parseG at hp ⊢
        split at hp
        · rename_i h3
          split at hp
          · rename_i h4
            cases hp
            rw [List.length_set, htake, if_pos ⟨h, rfl⟩, if_neg hne]
          · cases hp
        · cases hp
theorem go_indexBack {l : List Slot} {p : List UInt8} {by_ at_ : Int} (hb0 : 0 ≤ by_) (hb1 : by_ < 256) (ha : i64 at_) :
    S E F.law17_IndexBack [.lst (slots l) l.length, .lst (ofBytes p) p.length, .int .u8 by_, .int .i64 at_] [] = some (.bool true, []) := by
  rw [S_of fn_law17_IndexBack rfl rfl]
  by_cases h1 : 200 < l.length
  · have d1 : decide (200 < (l.length : Int)) = true := dec_t (by omega)
    simp (dsimp := false) (disch := first | omega | (simp only [strs_length, List.length_set, List.length_replicate, words_length, ofBytes_length, List.length_append, List.length_cons, List.length_nil, List.length_take, List.length_drop, slots_length, sub_len] <;> omega) | fail) only [L.law17_IndexBack, go_sem, reduceIte, reduceCtorEq, Nat.reduceEqDiff, Nat.reduceAdd, Nat.reduceSub, Nat.reduceMul, Nat.reduceDiv, Nat.reduceMod, Nat.reduceBEq, Nat.reduceLeDiff, Nat.reduceLT, Int.reduceEq, Int.reduceNe, Int.reduceLT, Int.reduceLE, Int.reduceBEq, Int.reduceBNe, Int.reduceToNat, Int.reduceAdd, Int.reduceSub, Int.reduceMul, Int.reduceNeg, zer_bytes, app_ofBytes, ofBytes_length, flats_ofBytes, hards_ofBytes, leadss_ofBytes, refsOfs_ofBytes, rens_ofBytes, bytesOf_ofBytes, sub_ofBytes, take_ofBytes, drop_ofBytes, get_ofBytes, over_ofBytes_all, over_ofBytes, ofBytes_snoc, slot0, slot0z, cells_length, flats_cells, hards_cells, leadss_cells, refsOfs_cells, rens_cells, cells_0, cells_1, cells_2, cells_35, cells_36, cells_id, over_cells, sub_cells, take_cells, slots_length, flats_slots, hards_slots, leadss_slots, refsOfs_slots, rens_slots, sub_slots, slots_0, slots_1, slots_2, slots_35, slots_36, slots_snoc, go_awake, d1]
  have d1 : decide (200 < (l.length : Int)) = false := dec_f (by omega)
  by_cases h2 : 10000 < p.length
  · have d2 : decide (10000 < (p.length : Int)) = true := dec_t (by omega)
    simp (dsimp := false) (disch := first | omega | (simp only [strs_length, List.length_set, List.length_replicate, words_length, ofBytes_length, List.length_append, List.length_cons, List.length_nil, List.length_take, List.length_drop, slots_length, sub_len] <;> omega) | fail) only [L.law17_IndexBack, go_sem, reduceIte, reduceCtorEq, Nat.reduceEqDiff, Nat.reduceAdd, Nat.reduceSub, Nat.reduceMul, Nat.reduceDiv, Nat.reduceMod, Nat.reduceBEq, Nat.reduceLeDiff, Nat.reduceLT, Int.reduceEq, Int.reduceNe, Int.reduceLT, Int.reduceLE, Int.reduceBEq, Int.reduceBNe, Int.reduceToNat, Int.reduceAdd, Int.reduceSub, Int.reduceMul, Int.reduceNeg, zer_bytes, app_ofBytes, ofBytes_length, flats_ofBytes, hards_ofBytes, leadss_ofBytes, refsOfs_ofBytes, rens_ofBytes, bytesOf_ofBytes, sub_ofBytes, take_ofBytes, drop_ofBytes, get_ofBytes, over_ofBytes_all, over_ofBytes, ofBytes_snoc, slot0, slot0z, cells_length, flats_cells, hards_cells, leadss_cells, refsOfs_cells, rens_cells, cells_0, cells_1, cells_2, cells_35, cells_36, cells_id, over_cells, sub_cells, take_cells, slots_length, flats_slots, hards_slots, leadss_slots, refsOfs_slots, rens_slots, sub_slots, slots_0, slots_1, slots_2, slots_35, slots_36, slots_snoc, go_awake, d1, d2]
  have d2 : decide (10000 < (p.length : Int)) = false := dec_f (by omega)
  have hput := go_put (l := l) (by omega)
  have hq := go_parse (p := p) (n := p.length) rfl (by omega)
  have ht := go_twin (a := p) (n := p.length) rfl (by omega)
  have hml := parseF_length p
  have hpn := @parse_none p
  have hps := @parse_some p
  have hput2 := go_put (l := (parseF p).1) (by omega)
  have hchk := go_check (l := (parseF p).1) (by omega)
  obtain ⟨⟨m, e⟩, hme⟩ : ∃ q, parseF p = q := ⟨_, rfl⟩
  rw [hme] at hq hml hpn hps hput2 hchk
  simp only at hq hml hpn hps hput2 hchk
  have hturn : ∀ (h : checkF l = 0) (j : Nat), (putF l).length - 32 ≤ j → j < (putF l).length → by_ ≠ 0 → S E F.index_Parse [.lst (ofBytes ((putF l).set j (UInt8.ofNat (ixor .u8 (bat (putF l) j) by_).toNat))) (putF l).length] [] =
      some (.tup [.buf (.r 0) 0 0 0 37, .int .i64 6], [(.r 0, ⟨0, true, true, false, []⟩)]) := by
    intro h j j1 j2 hb
    have hlen := putF_len h
    obtain ⟨b0, b1⟩ := bat_range (putF l) j
    obtain ⟨x0, x1, x2⟩ := xor_u8 (bat (putF l) j).toNat (by omega) by_.toNat (by omega)
    rw [show (((bat (putF l) j).toNat : Nat) : Int) = bat (putF l) j by omega, show ((by_.toNat : Nat) : Int) = by_ by omega] at x0 x1 x2
    have hne : UInt8.ofNat (ixor .u8 (bat (putF l) j) by_).toNat ≠ (putF l).getD j 0 := by
      intro hx
      refine x2 (by omega) ?_
      have := congrArg UInt8.toNat hx
      unfold bat at this x0 x1 ⊢
      simp only [UInt8.toNat_ofNat'] at this
      omega
    have := go_parse (p := (putF l).set j (UInt8.ofNat (ixor .u8 (bat (putF l) j) by_).toNat)) (n := (putF l).length) (by rw [List.length_set]) (by rw [List.length_set]; omega)
    rw [parse_turn h j1 j2 hne] at this
    exact this
  have hxr : ∀ j, 0 ≤ ixor .u8 (bat (putF l) j) by_ ∧ ixor .u8 (bat (putF l) j) by_ < 256 := by
    intro j
    obtain ⟨b0, b1⟩ := bat_range (putF l) j
    obtain ⟨x0, x1, _⟩ := xor_u8 (bat (putF l) j).toNat (by omega) by_.toNat (by omega)
    rw [show (((bat (putF l) j).toNat : Nat) : Int) = bat (putF l) j by omega, show ((by_.toNat : Nat) : Int) = by_ by omega] at x0 x1
    exact ⟨x0, x1⟩
  have hfin : (e = 0 ∧ (e != 0) = false ∧ S E F.index_Put [.lst (slots m) m.length] [] = some (.tup [.buf (.r 0) 0 0 p.length 1, .int .i64 0], [(.r 0, ⟨0, true, true, false, ofBytes p⟩)]) ∧ S E F.index_Check [.lst (slots m) m.length] [] = some (.int .i64 0, [])) ∨ ((e != 0) = true ∧ m = []) := by
    by_cases he : e = 0
    · obtain ⟨k1, k2⟩ := hps he
      simp only [k1, if_true, k2] at hput2
      rw [k1] at hchk
      exact .inl ⟨he, bne_f he, hput2, hchk⟩
    · exact .inr ⟨bne_t he, hpn he⟩
  clear hput2 hchk hps hpn
  by_cases hc : checkF l = 0
  · have hlen := putF_len hc
    have hbk := go_parse (p := putF l) (n := (putF l).length) rfl (by omega)
    rw [parse_put hc] at hbk
    simp only [hc, if_true] at hput
    simp only at hbk
    have hturn := hturn hc
    have hsame := go_slotsame (a := l) (b := l) (n := l.length) (m := l.length) rfl rfl (by omega) (by omega)
    have d3 : decide (((putF l).length : Int) < 44) = false := dec_f (by omega)
    by_cases hby : by_ = 0 ∨ at_ < 0
    · rcases hfin with ⟨he, hen, hput2, hchk⟩ | ⟨hen, hm⟩
      · subst he
        rcases hby with hby | hby
        · have d4 : (by_ != 0) = false := bne_f hby
          simp (dsimp := false) (disch := first | omega | (simp only [strs_length, List.length_set, List.length_replicate, words_length, ofBytes_length, List.length_append, List.length_cons, List.length_nil, List.length_take, List.length_drop, slots_length, sub_len] <;> omega) | fail) only [L.law17_IndexBack, go_sem, reduceIte, reduceCtorEq, Nat.reduceEqDiff, Nat.reduceAdd, Nat.reduceSub, Nat.reduceMul, Nat.reduceDiv, Nat.reduceMod, Nat.reduceBEq, Nat.reduceLeDiff, Nat.reduceLT, Int.reduceEq, Int.reduceNe, Int.reduceLT, Int.reduceLE, Int.reduceBEq, Int.reduceBNe, Int.reduceToNat, Int.reduceAdd, Int.reduceSub, Int.reduceMul, Int.reduceNeg, zer_bytes, app_ofBytes, ofBytes_length, flats_ofBytes, hards_ofBytes, leadss_ofBytes, refsOfs_ofBytes, rens_ofBytes, bytesOf_ofBytes, sub_ofBytes, take_ofBytes, drop_ofBytes, get_ofBytes, over_ofBytes_all, over_ofBytes, ofBytes_snoc, slot0, slot0z, cells_length, flats_cells, hards_cells, leadss_cells, refsOfs_cells, rens_cells, cells_0, cells_1, cells_2, cells_35, cells_36, cells_id, over_cells, sub_cells, take_cells, slots_length, flats_slots, hards_slots, leadss_slots, refsOfs_slots, rens_slots, sub_slots, slots_0, slots_1, slots_2, slots_35, slots_36, slots_snoc, go_awake, d1, d2, hput, hbk, hsame, decide_true, d3, d4, ht, hq, hput2, hchk, go_same]
        · cases d4 : (by_ != 0) with
          | false => simp (dsimp := false) (disch := first | omega | (simp only [strs_length, List.length_set, List.length_replicate, words_length, ofBytes_length, List.length_append, List.length_cons, List.length_nil, List.length_take, List.length_drop, slots_length, sub_len] <;> omega) | fail) only [L.law17_IndexBack, go_sem, reduceIte, reduceCtorEq, Nat.reduceEqDiff, Nat.reduceAdd, Nat.reduceSub, Nat.reduceMul, Nat.reduceDiv, Nat.reduceMod, Nat.reduceBEq, Nat.reduceLeDiff, Nat.reduceLT, Int.reduceEq, Int.reduceNe, Int.reduceLT, Int.reduceLE, Int.reduceBEq, Int.reduceBNe, Int.reduceToNat, Int.reduceAdd, Int.reduceSub, Int.reduceMul, Int.reduceNeg, zer_bytes, app_ofBytes, ofBytes_length, flats_ofBytes, hards_ofBytes, leadss_ofBytes, refsOfs_ofBytes, rens_ofBytes, bytesOf_ofBytes, sub_ofBytes, take_ofBytes, drop_ofBytes, get_ofBytes, over_ofBytes_all, over_ofBytes, ofBytes_snoc, slot0, slot0z, cells_length, flats_cells, hards_cells, leadss_cells, refsOfs_cells, rens_cells, cells_0, cells_1, cells_2, cells_35, cells_36, cells_id, over_cells, sub_cells, take_cells, slots_length, flats_slots, hards_slots, leadss_slots, refsOfs_slots, rens_slots, sub_slots, slots_0, slots_1, slots_2, slots_35, slots_36, slots_snoc, go_awake, d1, d2, hput, hbk, hsame, decide_true, d3, d4, ht, hq, hput2, hchk, go_same]
          | true =>
            have d5 : decide (0 ≤ at_) = false := dec_f (by omega)
            simp (dsimp := false) (disch := first | omega | (simp only [strs_length, List.length_set, List.length_replicate, words_length, ofBytes_length, List.length_append, List.length_cons, List.length_nil, List.length_take, List.length_drop, slots_length, sub_len] <;> omega) | fail) only [L.law17_IndexBack, go_sem, reduceIte, reduceCtorEq, Nat.reduceEqDiff, Nat.reduceAdd, Nat.reduceSub, Nat.reduceMul, Nat.reduceDiv, Nat.reduceMod, Nat.reduceBEq, Nat.reduceLeDiff, Nat.reduceLT, Int.reduceEq, Int.reduceNe, Int.reduceLT, Int.reduceLE, Int.reduceBEq, Int.reduceBNe, Int.reduceToNat, Int.reduceAdd, Int.reduceSub, Int.reduceMul, Int.reduceNeg, zer_bytes, app_ofBytes, ofBytes_length, flats_ofBytes, hards_ofBytes, leadss_ofBytes, refsOfs_ofBytes, rens_ofBytes, bytesOf_ofBytes, sub_ofBytes, take_ofBytes, drop_ofBytes, get_ofBytes, over_ofBytes_all, over_ofBytes, ofBytes_snoc, slot0, slot0z, cells_length, flats_cells, hards_cells, leadss_cells, refsOfs_cells, rens_cells, cells_0, cells_1, cells_2, cells_35, cells_36, cells_id, over_cells, sub_cells, take_cells, slots_length, flats_slots, hards_slots, leadss_slots, refsOfs_slots, rens_slots, sub_slots, slots_0, slots_1, slots_2, slots_35, slots_36, slots_snoc, go_awake, d1, d2, hput, hbk, hsame, decide_true, d3, d4, d5, ht, hq, hput2, hchk, go_same]
      · subst hm
        rcases hby with hby | hby
        · have d4 : (by_ != 0) = false := bne_f hby
          simp (dsimp := false) (disch := first | omega | (simp only [strs_length, List.length_set, List.length_replicate, words_length, ofBytes_length, List.length_append, List.length_cons, List.length_nil, List.length_take, List.length_drop, slots_length, sub_len] <;> omega) | fail) only [L.law17_IndexBack, go_sem, reduceIte, reduceCtorEq, Nat.reduceEqDiff, Nat.reduceAdd, Nat.reduceSub, Nat.reduceMul, Nat.reduceDiv, Nat.reduceMod, Nat.reduceBEq, Nat.reduceLeDiff, Nat.reduceLT, Int.reduceEq, Int.reduceNe, Int.reduceLT, Int.reduceLE, Int.reduceBEq, Int.reduceBNe, Int.reduceToNat, Int.reduceAdd, Int.reduceSub, Int.reduceMul, Int.reduceNeg, zer_bytes, app_ofBytes, ofBytes_length, flats_ofBytes, hards_ofBytes, leadss_ofBytes, refsOfs_ofBytes, rens_ofBytes, bytesOf_ofBytes, sub_ofBytes, take_ofBytes, drop_ofBytes, get_ofBytes, over_ofBytes_all, over_ofBytes, ofBytes_snoc, slot0, slot0z, cells_length, flats_cells, hards_cells, leadss_cells, refsOfs_cells, rens_cells, cells_0, cells_1, cells_2, cells_35, cells_36, cells_id, over_cells, sub_cells, take_cells, slots_length, flats_slots, hards_slots, leadss_slots, refsOfs_slots, rens_slots, sub_slots, slots_0, slots_1, slots_2, slots_35, slots_36, slots_snoc, go_awake, d1, d2, hput, hbk, hsame, decide_true, d3, d4, ht, hq, hen]
        · cases d4 : (by_ != 0) with
          | false => simp (dsimp := false) (disch := first | omega | (simp only [strs_length, List.length_set, List.length_replicate, words_length, ofBytes_length, List.length_append, List.length_cons, List.length_nil, List.length_take, List.length_drop, slots_length, sub_len] <;> omega) | fail) only [L.law17_IndexBack, go_sem, reduceIte, reduceCtorEq, Nat.reduceEqDiff, Nat.reduceAdd, Nat.reduceSub, Nat.reduceMul, Nat.reduceDiv, Nat.reduceMod, Nat.reduceBEq, Nat.reduceLeDiff, Nat.reduceLT, Int.reduceEq, Int.reduceNe, Int.reduceLT, Int.reduceLE, Int.reduceBEq, Int.reduceBNe, Int.reduceToNat, Int.reduceAdd, Int.reduceSub, Int.reduceMul, Int.reduceNeg, zer_bytes, app_ofBytes, ofBytes_length, flats_ofBytes, hards_ofBytes, leadss_ofBytes, refsOfs_ofBytes, rens_ofBytes, bytesOf_ofBytes, sub_ofBytes, take_ofBytes, drop_ofBytes, get_ofBytes, over_ofBytes_all, over_ofBytes, ofBytes_snoc, slot0, slot0z, cells_length, flats_cells, hards_cells, leadss_cells, refsOfs_cells, rens_cells, cells_0, cells_1, cells_2, cells_35, cells_36, cells_id, over_cells, sub_cells, take_cells, slots_length, flats_slots, hards_slots, leadss_slots, refsOfs_slots, rens_slots, sub_slots, slots_0, slots_1, slots_2, slots_35, slots_36, slots_snoc, go_awake, d1, d2, hput, hbk, hsame, decide_true, d3, d4, ht, hq, hen]
          | true =>
            have d5 : decide (0 ≤ at_) = false := dec_f (by omega)
            simp (dsimp := false) (disch := first | omega | (simp only [strs_length, List.length_set, List.length_replicate, words_length, ofBytes_length, List.length_append, List.length_cons, List.length_nil, List.length_take, List.length_drop, slots_length, sub_len] <;> omega) | fail) only [L.law17_IndexBack, go_sem, reduceIte, reduceCtorEq, Nat.reduceEqDiff, Nat.reduceAdd, Nat.reduceSub, Nat.reduceMul, Nat.reduceDiv, Nat.reduceMod, Nat.reduceBEq, Nat.reduceLeDiff, Nat.reduceLT, Int.reduceEq, Int.reduceNe, Int.reduceLT, Int.reduceLE, Int.reduceBEq, Int.reduceBNe, Int.reduceToNat, Int.reduceAdd, Int.reduceSub, Int.reduceMul, Int.reduceNeg, zer_bytes, app_ofBytes, ofBytes_length, flats_ofBytes, hards_ofBytes, leadss_ofBytes, refsOfs_ofBytes, rens_ofBytes, bytesOf_ofBytes, sub_ofBytes, take_ofBytes, drop_ofBytes, get_ofBytes, over_ofBytes_all, over_ofBytes, ofBytes_snoc, slot0, slot0z, cells_length, flats_cells, hards_cells, leadss_cells, refsOfs_cells, rens_cells, cells_0, cells_1, cells_2, cells_35, cells_36, cells_id, over_cells, sub_cells, take_cells, slots_length, flats_slots, hards_slots, leadss_slots, refsOfs_slots, rens_slots, sub_slots, slots_0, slots_1, slots_2, slots_35, slots_36, slots_snoc, go_awake, d1, d2, hput, hbk, hsame, decide_true, d3, d4, d5, ht, hq, hen]
    · rw [not_or] at hby
      have d4 : (by_ != 0) = true := bne_t hby.1
      have d5 : decide (0 ≤ at_) = true := dec_t (by omega)
      obtain ⟨a, rfl⟩ := Int.eq_ofNat_of_zero_le (show 0 ≤ at_ by omega)
      have e5 : (((putF l).length : Int) - 1 - (a : Int) % 32).toNat = (putF l).length - 1 - a % 32 := by omega
      have hj := hturn ((putF l).length - 1 - a % 32) (by omega) (by omega) hby.1
      obtain ⟨x0, x1⟩ := hxr ((putF l).length - 1 - a % 32)
      rcases hfin with ⟨he, hen, hput2, hchk⟩ | ⟨hen, hm⟩
      · subst he
        simp (dsimp := false) (disch := first | omega | (simp only [strs_length, List.length_set, List.length_replicate, words_length, ofBytes_length, List.length_append, List.length_cons, List.length_nil, List.length_take, List.length_drop, slots_length, sub_len] <;> omega) | fail) only [L.law17_IndexBack, go_sem, reduceIte, reduceCtorEq, Nat.reduceEqDiff, Nat.reduceAdd, Nat.reduceSub, Nat.reduceMul, Nat.reduceDiv, Nat.reduceMod, Nat.reduceBEq, Nat.reduceLeDiff, Nat.reduceLT, Int.reduceEq, Int.reduceNe, Int.reduceLT, Int.reduceLE, Int.reduceBEq, Int.reduceBNe, Int.reduceToNat, Int.reduceAdd, Int.reduceSub, Int.reduceMul, Int.reduceNeg, zer_bytes, app_ofBytes, ofBytes_length, flats_ofBytes, hards_ofBytes, leadss_ofBytes, refsOfs_ofBytes, rens_ofBytes, bytesOf_ofBytes, sub_ofBytes, take_ofBytes, drop_ofBytes, get_ofBytes, over_ofBytes_all, over_ofBytes, ofBytes_snoc, slot0, slot0z, cells_length, flats_cells, hards_cells, leadss_cells, refsOfs_cells, rens_cells, cells_0, cells_1, cells_2, cells_35, cells_36, cells_id, over_cells, sub_cells, take_cells, slots_length, flats_slots, hards_slots, leadss_slots, refsOfs_slots, rens_slots, sub_slots, slots_0, slots_1, slots_2, slots_35, slots_36, slots_snoc, go_awake, d1, d2, hput, hbk, hsame, decide_true, d3, d4, d5, e5, x0, x1, hj, ht, hq, hput2, hchk, go_same]
      · subst hm
        simp (dsimp := false) (disch := first | omega | (simp only [strs_length, List.length_set, List.length_replicate, words_length, ofBytes_length, List.length_append, List.length_cons, List.length_nil, List.length_take, List.length_drop, slots_length, sub_len] <;> omega) | fail) only [L.law17_IndexBack, go_sem, reduceIte, reduceCtorEq, Nat.reduceEqDiff, Nat.reduceAdd, Nat.reduceSub, Nat.reduceMul, Nat.reduceDiv, Nat.reduceMod, Nat.reduceBEq, Nat.reduceLeDiff, Nat.reduceLT, Int.reduceEq, Int.reduceNe, Int.reduceLT, Int.reduceLE, Int.reduceBEq, Int.reduceBNe, Int.reduceToNat, Int.reduceAdd, Int.reduceSub, Int.reduceMul, Int.reduceNeg, zer_bytes, app_ofBytes, ofBytes_length, flats_ofBytes, hards_ofBytes, leadss_ofBytes, refsOfs_ofBytes, rens_ofBytes, bytesOf_ofBytes, sub_ofBytes, take_ofBytes, drop_ofBytes, get_ofBytes, over_ofBytes_all, over_ofBytes, ofBytes_snoc, slot0, slot0z, cells_length, flats_cells, hards_cells, leadss_cells, refsOfs_cells, rens_cells, cells_0, cells_1, cells_2, cells_35, cells_36, cells_id, over_cells, sub_cells, take_cells, slots_length, flats_slots, hards_slots, leadss_slots, refsOfs_slots, rens_slots, sub_slots, slots_0, slots_1, slots_2, slots_35, slots_36, slots_snoc, go_awake, d1, d2, hput, hbk, hsame, decide_true, d3, d4, d5, e5, x0, x1, hj, ht, hq, hen]
  · have d6 : (checkF l == 0) = false := beq_f hc
    rcases hfin with ⟨he, hen, hput2, hchk⟩ | ⟨hen, hm⟩
    · subst he
      simp (dsimp := false) (disch := first | omega | (simp only [strs_length, List.length_set, List.length_replicate, words_length, ofBytes_length, List.length_append, List.length_cons, List.length_nil, List.length_take, List.length_drop, slots_length, sub_len] <;> omega) | fail) only [L.law17_IndexBack, go_sem, reduceIte, reduceCtorEq, Nat.reduceEqDiff, Nat.reduceAdd, Nat.reduceSub, Nat.reduceMul, Nat.reduceDiv, Nat.reduceMod, Nat.reduceBEq, Nat.reduceLeDiff, Nat.reduceLT, Int.reduceEq, Int.reduceNe, Int.reduceLT, Int.reduceLE, Int.reduceBEq, Int.reduceBNe, Int.reduceToNat, Int.reduceAdd, Int.reduceSub, Int.reduceMul, Int.reduceNeg, zer_bytes, app_ofBytes, ofBytes_length, flats_ofBytes, hards_ofBytes, leadss_ofBytes, refsOfs_ofBytes, rens_ofBytes, bytesOf_ofBytes, sub_ofBytes, take_ofBytes, drop_ofBytes, get_ofBytes, over_ofBytes_all, over_ofBytes, ofBytes_snoc, slot0, slot0z, cells_length, flats_cells, hards_cells, leadss_cells, refsOfs_cells, rens_cells, cells_0, cells_1, cells_2, cells_35, cells_36, cells_id, over_cells, sub_cells, take_cells, slots_length, flats_slots, hards_slots, leadss_slots, refsOfs_slots, rens_slots, sub_slots, slots_0, slots_1, slots_2, slots_35, slots_36, slots_snoc, go_awake, d1, d2, hput, d6, ht, hq, hput2, hchk, go_same]
    · subst hm
      simp (dsimp := false) (disch := first | omega | (simp only [strs_length, List.length_set, List.length_replicate, words_length, ofBytes_length, List.length_append, List.length_cons, List.length_nil, List.length_take, List.length_drop, slots_length, sub_len] <;> omega) | fail) only [L.law17_IndexBack, go_sem, reduceIte, reduceCtorEq, Nat.reduceEqDiff, Nat.reduceAdd, Nat.reduceSub, Nat.reduceMul, Nat.reduceDiv, Nat.reduceMod, Nat.reduceBEq, Nat.reduceLeDiff, Nat.reduceLT, Int.reduceEq, Int.reduceNe, Int.reduceLT, Int.reduceLE, Int.reduceBEq, Int.reduceBNe, Int.reduceToNat, Int.reduceAdd, Int.reduceSub, Int.reduceMul, Int.reduceNeg, zer_bytes, app_ofBytes, ofBytes_length, flats_ofBytes, hards_ofBytes, leadss_ofBytes, refsOfs_ofBytes, rens_ofBytes, bytesOf_ofBytes, sub_ofBytes, take_ofBytes, drop_ofBytes, get_ofBytes, over_ofBytes_all, over_ofBytes, ofBytes_snoc, slot0, slot0z, cells_length, flats_cells, hards_cells, leadss_cells, refsOfs_cells, rens_cells, cells_0, cells_1, cells_2, cells_35, cells_36, cells_id, over_cells, sub_cells, take_cells, slots_length, flats_slots, hards_slots, leadss_slots, refsOfs_slots, rens_slots, sub_slots, slots_0, slots_1, slots_2, slots_35, slots_36, slots_snoc, go_awake, d1, d2, hput, d6, ht, hq, hen]
end Cod


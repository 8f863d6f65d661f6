/- The error of entries: the loop. -/
import Derived.Lib.BufferKept
import Derived.Lib.BufferWrite
import Derived.Lib.VarintMem
import Derived.Laws.BitsLemmas
import Derived.Laws.RangeAny
import Derived.Deep.MidRow
import Derived.Laws.IdiomCopy
import Derived.Deep.Cut
import Derived.Deep.RegionWith
import Derived.Lib.BufferOld
import Derived.Shelf.Strings.BuilderK
import Derived.WalkKit
import Derived.BigCall
import Derived.BigGuard
import Derived.Lib.ConvBytes
import Derived.Test.YthlnjgdoodjgoaaGreatDoorXTxt2
import Derived.Test.YthlnjgdoodjgoaaGreatDoorXTxt1
import Derived.Test.YthlnjgdoodjgoaaGreatDoorXShelf1
import Derived.Test.YthlnjgdoodjgoaaGreatDoorXTxt4
import Derived.Test.YthlnjgdoodjgoaaGreatDoorXTxt5
import Derived.Test.YthlnjgdoodjgoaaGreatDoorXTxt3
set_option linter.unusedSimpArgs false
set_option linter.unusedVariables false
open Nat renaming reduceEqDiff → qn0, reduceAdd → qn1, reduceSub → qn2, reduceMul → qn3, reduceDiv → qn4, reduceMod → qn5, reduceBEq → qn6, reduceLeDiff → qn7, reduceLT → qn8
open Int renaming reduceEq → qi0, reduceNe → qi1, reduceLT → qi2, reduceLE → qi3, reduceBEq → qi4, reduceBNe → qi5, reduceToNat → qi6, reduceAdd → qi7, reduceSub → qi8, reduceMul → qi9, reduceNeg → qi10
namespace Cod
open Go
def modeOK (m : Int) : Bool := decide (m = 16384) || (decide (m = 33188) || (decide (m = 33261) || decide (m = 40960)))
theorem ge_mode {m : Int} : S E F.names_Mode [.int .i64 m] [] = some (.bool (modeOK m), []) := by
  rw [S_of fn_names_Mode rfl rfl]
  unfold modeOK
  by_cases a : m = 16384
  · simp (dsimp := false) (disch := first | omega | (simp only [LENs, etys_length, ints64_length] <;> omega) | fail) only [L.names_Mode, go_sem, reduceIte, reduceCtorEq, qn0, qn1, qn2, qn3, qn4, qn5, qn6, qn7, qn8, qi0, qi1, qi2, qi3, qi4, qi5, qi6, qi7, qi8, qi9, qi10, a]
  · by_cases b : m = 33188
    · simp (dsimp := false) (disch := first | omega | (simp only [LENs, etys_length, ints64_length] <;> omega) | fail) only [L.names_Mode, go_sem, reduceIte, reduceCtorEq, qn0, qn1, qn2, qn3, qn4, qn5, qn6, qn7, qn8, qi0, qi1, qi2, qi3, qi4, qi5, qi6, qi7, qi8, qi9, qi10, a, b]
    · by_cases c : m = 33261
      · simp (dsimp := false) (disch := first | omega | (simp only [LENs, etys_length, ints64_length] <;> omega) | fail) only [L.names_Mode, go_sem, reduceIte, reduceCtorEq, qn0, qn1, qn2, qn3, qn4, qn5, qn6, qn7, qn8, qi0, qi1, qi2, qi3, qi4, qi5, qi6, qi7, qi8, qi9, qi10, a, b, c]
      · by_cases d : m = 40960
        · simp (dsimp := false) (disch := first | omega | (simp only [LENs, etys_length, ints64_length] <;> omega) | fail) only [L.names_Mode, go_sem, reduceIte, reduceCtorEq, qn0, qn1, qn2, qn3, qn4, qn5, qn6, qn7, qn8, qi0, qi1, qi2, qi3, qi4, qi5, qi6, qi7, qi8, qi9, qi10, a, b, c, d]
        · simp (dsimp := false) (disch := first | omega | (simp only [LENs, etys_length, ints64_length] <;> omega) | fail) only [L.names_Mode, go_sem, reduceIte, reduceCtorEq, qn0, qn1, qn2, qn3, qn4, qn5, qn6, qn7, qn8, qi0, qi1, qi2, qi3, qi4, qi5, qi6, qi7, qi8, qi9, qi10, a, b, c, d]
theorem nameOK_len {s : List UInt8} (h : nameOK s = true) : s.length ≤ 100 := by
  unfold nameOK at h
  simp only [Bool.and_eq_true, decide_eq_true_eq] at h
  exact h.1.1.1.1.1.2
theorem ge_name {s : List UInt8} : S E F.names_Name [.str s] [] = some (.bool (nameOK s), []) := by
  by_cases h : s.length ≤ 1000000
  · exact S_ext ext0 (go_name h)
  · have e : nameOK s = false := by
      cases hn : nameOK s with
      | false => rfl
      | true => have := nameOK_len hn; omega
    rw [e, S_of fn_names_Name rfl rfl]
    have e1 : (s == []) = false := by
      cases s with
      | nil => simp at h
      | cons a t => rfl
    have e2 : (s == [46]) = false := by
      rw [← Bool.not_eq_true, beq_iff_eq]; intro he; rw [he] at h; simp at h
    have e3 : (s == [46, 46]) = false := by
      rw [← Bool.not_eq_true, beq_iff_eq]; intro he; rw [he] at h; simp at h
    simp (dsimp := false) (disch := first | omega | (simp only [LENs, etys_length, ints64_length] <;> omega) | fail) only [L.names_Name, go_sem, reduceIte, reduceCtorEq, qn0, qn1, qn2, qn3, qn4, qn5, qn6, qn7, qn8, qi0, qi1, qi2, qi3, qi4, qi5, qi6, qi7, qi8, qi9, qi10, e1, e2, e3]
theorem strs_set {ks : List (List UInt8)} {n : List UInt8} (h : n ∈ ks) : (strs ks).set (ks.idxOf n) (.str n) = strs ks := by
  apply List.ext_getElem?
  intro j
  rw [List.getElem?_set]
  split
  · rename_i hj
    subst hj
    have hi := List.idxOf_lt_length_of_mem h
    rw [if_pos (by simpa [strs] using hi)]
    unfold strs
    rw [List.getElem?_map, List.getElem?_eq_getElem hi]
    simp [List.getElem_idxOf]
  · rfl
theorem ints_set (vs : List Int) (j : Nat) (v : Int) : (ints64 vs).set j (.int .i64 v) = ints64 (vs.set j v) := by simp [ints64, List.map_set]
theorem ints_snoc (vs : List Int) (v : Int) : ints64 vs ++ [.int .i64 v] = ints64 (vs ++ [v]) := by simp [ints64]
theorem ints_at {vs : List Int} {j : Nat} {v : Int} (h : vs[j]? = some v) : (ints64 vs)[j]? = some (.int .i64 v) := by simp [ints64, h]
def eName (e : Ety) : Int := if !nameOK e.name then 3 else 0
def eMode (e : Ety) : Int := if !modeOK e.mode then 4 else 0
def eOrd (l : List Ety) (i : Nat) : Int := if decide (0 < i) && decide (0 ≤ cmpB (keyE (eat l (i - 1))) (keyE (eat l i))) then 4 else 0
def eDup (l : List Ety) (i : Nat) : Int := if decide ((eat l i).name ∈ (l.take i).map (·.name)) then 8 else 0
def entI (l : List Ety) : Nat → Nat → Int → Nat → Int × Nat
  | 0, _, w, z => (w, z)
  | m + 1, i, w, z => entI l m (i + 1) (minE [w, eName (eat l i), eMode (eat l i), eOrd l i, eDup l i]) (z + ((octT (eat l i).mode).length + (eat l i).name.length + 34))
theorem ent_l0 {l : List Ety} (hl : l.length ≤ 4096) (hn : ∀ i, (eat l i).name.length ≤ 1000000000) (hm : ∀ i, -9223372036854775808 ≤ (eat l i).mode ∧ (eat l i).mode ≤ 9223372036854775807) : ∀ (m i z : Nat) (w : Int) (ks : List (List UInt8)) (vs : List Int), i + m = l.length → z ≤ i * 2000000000 → MapOK ((l.take i).map (·.name)) ks vs →
    ∃ ks' vs', X E [.tmp 2] (.c L.object_entries.x0 :: .lp [0, 3, 4, 5, 12, 13, 14] L.object_entries.x0 :: .blk 0 :: [.c L.object_entries.r0]) ⟨[(0, .lst (etys l) l.length), (3, .int .i64 w), (4, .int .i64 z), (5, .mpr (.s 1000000 0) 0), (12, .lst (etys l) l.length), (13, .int .i64 l.length), (14, .int .i64 i)], [(.s 1000000 0, ⟨0, true, true, true, [.mp (strs ks) (ints64 vs)]⟩)]⟩ =
    X E [.tmp 2] [.c L.object_entries.r0] ⟨[(0, .lst (etys l) l.length), (3, .int .i64 (entI l m i w z).1), (4, .int .i64 (entI l m i w z).2), (5, .mpr (.s 1000000 0) 0), (12, .lst (etys l) l.length), (13, .int .i64 l.length), (14, .int .i64 l.length), (15, .bool false)], [(.s 1000000 0, ⟨0, true, true, true, [.mp (strs ks') (ints64 vs')]⟩)]⟩ := by
  intro m
  induction m with
  | zero =>
    intro i z w ks vs h hz hM
    obtain rfl : i = l.length := by omega
    refine ⟨ks, vs, ?_⟩
    rw [X_in L.object_entries.x0.eq_1, entI]
    simp (dsimp := false) (disch := first | omega | (simp only [LENs, etys_length, ints64_length] <;> omega) | fail) only [go_sem, reduceIte, reduceCtorEq, qn0, qn1, qn2, qn3, qn4, qn5, qn6, qn7, qn8, qi0, qi1, qi2, qi3, qi4, qi5, qi6, qi7, qi8, qi9, qi10, strs_length, flats_strs, hards_strs, leadss_strs, refsOfs_strs, rens_strs, strs_snoc, get_strs]
  | succ m ih =>
    intro i z w ks vs h hz hM
    have hlt : i < l.length := by omega
    have hf := go_format8 (hm i).1 (hm i).2
    have hol := octT_len (eat l i).mode
    have hnl := hn i
    have hnm := ge_name (s := (eat l i).name)
    have hmd := ge_mode (m := (eat l i).mode)
    have w1 : S E F.object_when [.bool (!nameOK (eat l i).name), .int .i64 3] [] = some (.int .i64 (eName (eat l i)), []) := go_when
    have w2 : S E F.object_when [.bool (!modeOK (eat l i).mode), .int .i64 4] [] = some (.int .i64 (eMode (eat l i)), []) := go_when
    have wl := go_least (l := [w, eName (eat l i), eMode (eat l i), eOrd l i, eDup l i]) (by simp)
    simp only [ints64, List.map_cons, List.map_nil, List.length_cons, List.length_nil] at wl
    have htake : (l.take (i + 1)).map (·.name) = (l.take i).map (·.name) ++ [(eat l i).name] := by
      rw [List.take_succ_eq_append_getElem hlt, List.map_append]
      simp [eat, List.getD, hlt]
    have hseen : ((l.take i).map (·.name)).length ≤ 4096 := by rw [List.length_map, List.length_take]; omega
    rw [X_in L.object_entries.x0.eq_1, entI]
    by_cases hin : (eat l i).name ∈ ks
    · obtain ⟨v, hv, v1, v2, hM2⟩ := hM.old hin
      rw [← htake] at hM2
      have hv2 := ints_at hv
      have hw : IntKind.i64.wrap (v + 1) = v + 1 := wrap_i64 (by omega) (by omega)
      have hv3 : (ints64 (vs.set (ks.idxOf (eat l i).name) (v + 1)))[ks.idxOf (eat l i).name]? = some (.int .i64 (v + 1)) := ints_at (by
        rw [List.getElem?_set, if_pos rfl, if_pos (List.getElem?_eq_some_iff.1 hv).1])
      have hfk : findK true (.str (eat l i).name) (strs ks) 0 = some (some (ks.idxOf (eat l i).name)) := by rw [findK_strs, if_pos hin, Nat.zero_add]
      have w4 : S E F.object_when [.bool true, .int .i64 8] [] = some (.int .i64 (eDup l i), []) := by
        have e : eDup l i = 8 := by unfold eDup; rw [decide_eq_true ((hM.mem _).1 hin)]; rfl
        rw [e]; exact go_when (b := true)
      obtain ⟨ks', vs', ih2⟩ := ih (i + 1) (z + ((octT (eat l i).mode).length + (eat l i).name.length + 34)) (minE [w, eName (eat l i), eMode (eat l i), eOrd l i, eDup l i]) ks _ (by omega) (by omega) hM2
      simp only [Int.natCast_add, Int.cast_ofNat_Int] at ih2
      refine ⟨ks', vs', ?_⟩
      by_cases hi0 : 0 < i
      · have o1 := go_nOrder (a := eat l (i - 1)) (b := eat l i) (by have := hn (i - 1); omega) (by omega)
        have w3 : S E F.object_when [.bool (decide (0 ≤ cmpB (keyE (eat l (i - 1))) (keyE (eat l i)))), .int .i64 4] [] = some (.int .i64 (eOrd l i), []) := by
          have e : eOrd l i = if decide (0 ≤ cmpB (keyE (eat l (i - 1))) (keyE (eat l i))) = true then 4 else 0 := by unfold eOrd; rw [decide_eq_true hi0, Bool.true_and]
          rw [e]; exact go_when
        have e1 : (if (i : Int) - 1 < 0 then (0 : Int) else (i : Int) - 1) = ((i - 1 : Nat) : Int) := by rw [if_neg (by omega)]; omega
        simp (dsimp := false) (disch := first | omega | (simp only [LENs, etys_length, ints64_length] <;> omega) | fail) only [go_sem, reduceIte, reduceCtorEq, qn0, qn1, qn2, qn3, qn4, qn5, qn6, qn7, qn8, qi0, qi1, qi2, qi3, qi4, qi5, qi6, qi7, qi8, qi9, qi10, strs_length, flats_strs, hards_strs, leadss_strs, refsOfs_strs, rens_strs, strs_snoc, get_strs, hf, hnm, hmd, hv2, hv3, hw, hfk, strs_set hin, ints_set, w1, w2, w3, w4, hi0, o1, wl, e1, toNat_cast, ih2]
      · have w3 : S E F.object_when [.bool false, .int .i64 4] [] = some (.int .i64 (eOrd l i), []) := by
          have e : eOrd l i = 0 := by unfold eOrd; rw [decide_eq_false hi0]; rfl
          rw [e]; exact go_when (b := false)
        simp (dsimp := false) (disch := first | omega | (simp only [LENs, etys_length, ints64_length] <;> omega) | fail) only [go_sem, reduceIte, reduceCtorEq, qn0, qn1, qn2, qn3, qn4, qn5, qn6, qn7, qn8, qi0, qi1, qi2, qi3, qi4, qi5, qi6, qi7, qi8, qi9, qi10, strs_length, flats_strs, hards_strs, leadss_strs, refsOfs_strs, rens_strs, strs_snoc, get_strs, hf, hnm, hmd, hv2, hv3, hw, hfk, strs_set hin, ints_set, w1, w2, w3, w4, hi0, wl, ih2]
    · have hM2 := hM.new hin
      rw [← htake] at hM2
      have hfk : findK true (.str (eat l i).name) (strs ks) 0 = some none := by rw [findK_strs, if_neg hin]
      have hfk2 : findK true (.str (eat l i).name) (strs (ks ++ [(eat l i).name])) 0 = some (some ks.length) := by
        rw [findK_strs, if_pos (by simp), List.idxOf_append, if_neg hin]
        simp
      have hv3 : (ints64 (vs ++ [1]))[ks.length]? = some (.int .i64 1) := ints_at (by rw [← hM.len, List.getElem?_append_right (Nat.le_refl _), Nat.sub_self]; rfl)
      have w4 : S E F.object_when [.bool false, .int .i64 8] [] = some (.int .i64 (eDup l i), []) := by
        have e : eDup l i = 0 := by unfold eDup; rw [decide_eq_false (fun x => hin ((hM.mem _).2 x))]; rfl
        rw [e]; exact go_when (b := false)
      obtain ⟨ks', vs', ih2⟩ := ih (i + 1) (z + ((octT (eat l i).mode).length + (eat l i).name.length + 34)) (minE [w, eName (eat l i), eMode (eat l i), eOrd l i, eDup l i]) _ _ (by omega) (by omega) hM2
      simp only [Int.natCast_add, Int.cast_ofNat_Int] at ih2
      refine ⟨ks', vs', ?_⟩
      by_cases hi0 : 0 < i
      · have o1 := go_nOrder (a := eat l (i - 1)) (b := eat l i) (by have := hn (i - 1); omega) (by omega)
        have w3 : S E F.object_when [.bool (decide (0 ≤ cmpB (keyE (eat l (i - 1))) (keyE (eat l i)))), .int .i64 4] [] = some (.int .i64 (eOrd l i), []) := by
          have e : eOrd l i = if decide (0 ≤ cmpB (keyE (eat l (i - 1))) (keyE (eat l i))) = true then 4 else 0 := by unfold eOrd; rw [decide_eq_true hi0, Bool.true_and]
          rw [e]; exact go_when
        have e1 : (if (i : Int) - 1 < 0 then (0 : Int) else (i : Int) - 1) = ((i - 1 : Nat) : Int) := by rw [if_neg (by omega)]; omega
        simp (dsimp := false) (disch := first | omega | (simp only [LENs, etys_length, ints64_length] <;> omega) | fail) only [go_sem, reduceIte, reduceCtorEq, qn0, qn1, qn2, qn3, qn4, qn5, qn6, qn7, qn8, qi0, qi1, qi2, qi3, qi4, qi5, qi6, qi7, qi8, qi9, qi10, strs_length, flats_strs, hards_strs, leadss_strs, refsOfs_strs, rens_strs, strs_snoc, get_strs, hf, hnm, hmd, hv3, hfk, hfk2, ints_snoc, w1, w2, w3, w4, hi0, o1, wl, e1, toNat_cast, ih2]
      · have w3 : S E F.object_when [.bool false, .int .i64 4] [] = some (.int .i64 (eOrd l i), []) := by
          have e : eOrd l i = 0 := by unfold eOrd; rw [decide_eq_false hi0]; rfl
          rw [e]; exact go_when (b := false)
        simp (dsimp := false) (disch := first | omega | (simp only [LENs, etys_length, ints64_length] <;> omega) | fail) only [go_sem, reduceIte, reduceCtorEq, qn0, qn1, qn2, qn3, qn4, qn5, qn6, qn7, qn8, qi0, qi1, qi2, qi3, qi4, qi5, qi6, qi7, qi8, qi9, qi10, strs_length, flats_strs, hards_strs, leadss_strs, refsOfs_strs, rens_strs, strs_snoc, get_strs, hf, hnm, hmd, hv3, hfk, hfk2, ints_snoc, w1, w2, w3, w4, hi0, wl, ih2]
def entE (l : List Ety) : Int := if 4096 < l.length then 2 else minE [(entI l l.length 0 0 0).1, if decide (1048576 < (entI l l.length 0 0 0).2) then 2 else 0]
theorem entI_z (l : List Ety) (hn : ∀ i, (eat l i).name.length ≤ 1000000000) : ∀ (m i z : Nat) (w : Int), z ≤ i * 2000000000 → (entI l m i w z).2 ≤ (i + m) * 2000000000 := by
  intro m
  induction m with
  | zero => intro i z w h; exact h
  | succ m ih =>
    intro i z w h
    rw [entI]
    have := ih (i + 1) (z + ((octT (eat l i).mode).length + (eat l i).name.length + 34)) (minE [w, eName (eat l i), eMode (eat l i), eOrd l i, eDup l i]) (by have := hn i; have := octT_len (eat l i).mode; omega)
    rw [show i + (m + 1) = i + 1 + m by omega]
    exact this
theorem go_entries {l : List Ety} (hn : ∀ i, (eat l i).name.length ≤ 1000000000) (hm : ∀ i, -9223372036854775808 ≤ (eat l i).mode ∧ (eat l i).mode ≤ 9223372036854775807) (hl : l.length ≤ 1000000000) : S E F.object_entries [.lst (etys l) l.length] [] = some (.int .i64 (entE l), []) := by
  rw [S_of fn_object_entries rfl rfl]
  unfold entE
  by_cases hlen : 4096 < l.length
  · rw [if_pos hlen]
    simp (dsimp := false) (disch := first | omega | (simp only [LENs, etys_length, ints64_length] <;> omega) | fail) only [L.object_entries, go_sem, reduceIte, reduceCtorEq, qn0, qn1, qn2, qn3, qn4, qn5, qn6, qn7, qn8, qi0, qi1, qi2, qi3, qi4, qi5, qi6, qi7, qi8, qi9, qi10, hlen]
  · rw [if_neg hlen]
    obtain ⟨ks, vs, h⟩ := ent_l0 (l := l) (by omega) hn hm l.length 0 0 0 [] [] (by omega) (by omega) (by simpa using MapOK.nil)
    have hz := entI_z l hn l.length 0 0 0 (by omega)
    simp only [Int.cast_ofNat_Int, show strs [] = [] from rfl, show ints64 [] = [] from rfl] at h
    simp (dsimp := false) (disch := first | omega | (simp only [LENs, etys_length, ints64_length] <;> omega) | fail) only [L.object_entries, go_sem, reduceIte, reduceCtorEq, qn0, qn1, qn2, qn3, qn4, qn5, qn6, qn7, qn8, qi0, qi1, qi2, qi3, qi4, qi5, qi6, qi7, qi8, qi9, qi10, hlen]
    rw [h]
    generalize (entI l l.length 0 0 0).1 = w at *
    generalize (entI l l.length 0 0 0).2 = z at *
    have w1 : S E F.object_when [.bool (decide (1048576 < (z : Int))), .int .i64 2] [] = some (.int .i64 (if decide (1048576 < z) then 2 else 0), []) := by
      rw [show decide (1048576 < (z : Int)) = decide (1048576 < z) from decide_eq_decide.2 (by omega)]; exact go_when
    have wl := go_least (l := [w, if decide (1048576 < z) then 2 else 0]) (by simp)
    simp only [ints64, List.map_cons, List.map_nil, List.length_cons, List.length_nil] at wl
    simp (dsimp := false) (disch := first | omega | (simp only [LENs, etys_length, ints64_length] <;> omega) | fail) only [L.object_entries.r0, go_sem, reduceIte, reduceCtorEq, qn0, qn1, qn2, qn3, qn4, qn5, qn6, qn7, qn8, qi0, qi1, qi2, qi3, qi4, qi5, qi6, qi7, qi8, qi9, qi10, w1, wl]
end Cod
namespace Cod
open Go Go.RowKit Go.Proofs Go.Shelf
set_option maxRecDepth 1000000
def entB (e : Ety) : List UInt8 := octT e.mode ++ [32] ++ e.name ++ [0] ++ e.id
def treeB (l : List Ety) : List UInt8 := l.flatMap entB
def TreeOK (l : List Ety) : Prop := (∀ i, (eat l i).name.length ≤ 1000000000) ∧ (∀ i, -9223372036854775808 ≤ (eat l i).mode ∧ (eat l i).mode ≤ 9223372036854775807) ∧ l.length ≤ 1000000000
theorem ent_calls {l : List Ety} (hl : TreeOK l) {a : Option Addr} {cap : Nat} {w : World} (hW : Start w) (hv : VR (ctx [] LaE w) (.lst (etys l) l.length) (.slice a l.length cap)) :
    Calls Tryz.prog 41 #[.slice a l.length cap] w fun e w' => e = .returned (.int .i64 (entE l)) ∧ Below w.heap.size w w' :=
  e_calls Tryz.func41 (by rfl) (by kernel_rfl) (go_entries hl.1 hl.2.1 hl.2.2) hW (vs := [.slice a l.length cap]) (by simp only [VRL]; exact ⟨_, _, rfl, hv, rfl⟩) (fun c z hz => by simpa [VR] using hz)
theorem fmt_calls {m : Int} (h0 : -9223372036854775808 ≤ m) (h1 : m ≤ 9223372036854775807) {w : World} (hW : Start w) :
    Calls Tryz.prog 43 #[.int .i64 m, .int .i64 8] w fun e w' => e = .returned (.string ⟨(octT m).toArray⟩) ∧ Below w.heap.size w w' :=
  e_calls Tryz.func43 (by rfl) (by kernel_rfl) (go_format8 h0 h1) hW (vs := [.int .i64 m, .int .i64 8]) (by simp [VRL, VR]) (fun c z hz => by simpa [VR] using hz)
def valsE (e : Ety) : List Value := .int .i64 e.mode :: .string ⟨e.name.toArray⟩ :: Lib.byteCells e.id
theorem valsE_len (e : Ety) : (valsE e).length = 34 := by simp [valsE, Lib.byteCells_length, e.hid]
theorem vals_one (e : Ety) : (valsE e).toArray.all (·.oneCell') = true := by
  rw [Array.all_eq_true_iff_forall_mem]
  intro v hv
  simp only [List.mem_toArray, valsE, List.mem_cons] at hv
  rcases hv with rfl | rfl | hv
  · rfl
  · rfl
  · unfold Lib.byteCells at hv
    obtain ⟨b, _, rfl⟩ := List.mem_map.1 hv
    rfl
theorem vrl_bytes {c : Ctx} : ∀ {l : List UInt8} {vs : List Value}, VRL c (ofBytes l) vs → vs = Lib.byteCells l := by
  intro l
  induction l with
  | nil => intro vs h; simp only [ofBytes, List.map_nil, VRL] at h; rw [h]; rfl
  | cons a l ih =>
    intro vs h
    simp only [ofBytes, List.map_cons, VRL] at h
    obtain ⟨v, r, rfl, h1, h2⟩ := h
    rw [ih h2]
    simp only [VR] at h1
    rw [h1]; rfl
theorem ety_range {c : Ctx} {b o : Nat} {e : Ety} (h : VRC c b o e.cells) : c.w.rangeAt b o (valsE e) := by
  obtain ⟨vs, h1, h2⟩ := VRC_list h
  unfold Ety.cells at h1
  simp only [VRL, VR] at h1
  obtain ⟨v0, r0, rfl, rfl, v1, r1, rfl, rfl, h3⟩ := h1
  rw [vrl_bytes h3] at h2
  exact h2
theorem below_sets {B b : Nat} (hb : B ≤ b) : ∀ (vs : List Value) (o : Nat) {W w : World}, Below B W w → Below B W (w.setCells b o vs) := by
  intro vs
  induction vs with
  | nil => intro o W w h; exact h
  | cons v r ih => intro o W w h; exact ih (o + 1) (h.setCell (p := ⟨b, o, none⟩) hb v)
theorem size_sets (b : Nat) : ∀ (vs : List Value) (o : Nat) (w : World), (w.setCells b o vs).heap.size = w.heap.size := by
  intro vs
  induction vs with
  | nil => intro o w; rfl
  | cons v r ih => intro o w; show ((w.setCell _ v).setCells b (o + 1) r).heap.size = _; rw [ih]; simp [World.setCell]
theorem row_sets {b : Nat} {T : TypeId} : ∀ (vs : List Value) (o : Nat) (w : World), (∃ cs fr, w.heap[b]? = some (.cells cs T fr)) → ∃ cs fr, (w.setCells b o vs).heap[b]? = some (.cells cs T fr) := by
  intro vs
  induction vs with
  | nil => intro o w h; exact h
  | cons v r ih =>
    intro o w h
    refine ih (o + 1) _ ?_
    obtain ⟨cs, fr, h⟩ := h
    refine ⟨cs.setIfInBounds o v, fr, ?_⟩
    simp only [World.setCell, Array.getElem?_modify, if_true, h]
    rfl
theorem owns_mono {w : World} {B B' : Nat} {e sz n : Nat} {v : Value} {xs : List Value} (h : w.ownsRow B e sz v n xs) (hB : B' ≤ B) : w.ownsRow B' e sz v n xs := by
  obtain ⟨h1, h2⟩ := h
  refine ⟨h1, ?_⟩
  rcases h2 with h2 | ⟨g, cap, cur, q1, q2, q3⟩
  · exact .inl h2
  · exact .inr ⟨g, cap, cur, q1, Nat.le_trans hB q2, q3⟩
structure VarAt (wr W3 : World) (T : TypeId) (vals : List Value) : Prop where
  below : Below wr.heap.size wr W3
  size : W3.heap.size = wr.heap.size + 1
  cell : ∀ j v, vals[j]? = some v → W3.cell? ⟨wr.heap.size, j, none⟩ = some v
  row : ∃ cs fr, W3.heap[wr.heap.size]? = some (.cells cs T fr)
theorem varAt_new (wr : World) (z : Array Value) (T : TypeId) (vals : List Value) (hz : z.size = vals.length) : VarAt wr ((wr.alloc (.cells z T)).setCells wr.heap.size 0 vals) T vals := by
  have hc : ∀ j, j < vals.length → ((wr.alloc (.cells z T)).cell? ⟨wr.heap.size, 0 + j, none⟩).isSome = true := by
    intro j hj
    simp only [World.cell?, heap_alloc_new]
    rw [if_neg (by simp), Nat.zero_add, Array.getElem?_eq_getElem (by omega)]
    rfl
  refine ⟨below_sets (Nat.le_refl _) _ _ ((Below.refl _ wr).alloc (Nat.le_refl _) _), ?_, ?_, row_sets _ _ _ ⟨_, _, heap_alloc_new wr _⟩⟩
  · rw [size_sets]; exact Array.size_push _
  · intro j v hv
    have hj := (List.getElem?_eq_some_iff.1 hv).1
    have := World.cell?_setCells_in wr.heap.size vals 0 _ hc j hj
    rw [Nat.zero_add] at this
    rw [this]
    rw [List.getElem?_eq_getElem hj] at hv
    exact hv
theorem with_var {wr : World} {z : Array Value} {T : TypeId} {vals : List Value} (hz : z.size = vals.length) {p : World → Prop} (h : ∀ W3, VarAt wr W3 T vals → p W3) : p ((wr.alloc (.cells z T)).setCells wr.heap.size 0 vals) := h _ (varAt_new wr z T vals hz)
theorem entB_len (e : Ety) : (entB e).length = (octT e.mode).length + e.name.length + 34 := by
  unfold entB; simp [e.hid]; omega
theorem treeB_take (l : List Ety) (k : Nat) : (treeB (l.take k)).length ≤ (treeB l).length := by
  have h : treeB l = treeB (l.take k) ++ treeB (l.drop k) := by unfold treeB; rw [← List.flatMap_append, List.take_append_drop]
  rw [h, List.length_append]; omega
theorem treeB_succ {l : List Ety} {k : Nat} (h : k < l.length) : treeB (l.take (k + 1)) = treeB (l.take k) ++ entB (eat l k) := by
  rw [List.take_succ_eq_append_getElem h]
  unfold treeB
  rw [List.flatMap_append]
  simp [eat, List.getD, h]
theorem entI_len (l : List Ety) : ∀ (m i z : Nat) (w : Int), i + m = l.length → (entI l m i w z).2 = z + (treeB (l.drop i)).length := by
  intro m
  induction m with
  | zero =>
    intro i z w h
    rw [List.drop_eq_nil_of_le (by omega)]
    simp [entI, treeB]
  | succ m ih =>
    intro i z w h
    have hlt : i < l.length := by omega
    rw [entI, ih (i + 1) _ _ (by omega), List.drop_eq_getElem_cons hlt]
    have he : eat l i = l[i] := by simp [eat, List.getD, hlt]
    have e2 : treeB (l[i] :: l.drop (i + 1)) = entB l[i] ++ treeB (l.drop (i + 1)) := by unfold treeB; rw [List.flatMap_cons]
    rw [e2, List.length_append, entB_len, he]
    omega
theorem lst2_0 (w : Int) : lst2 0 w = w := by
  unfold lst2
  by_cases h : w = 0
  · rw [h]; simp
  · rw [if_pos ⟨h, .inl rfl⟩]
theorem minE2 {w e : Int} (h : minE [w, e] = 0) : e = 0 := by
  have h1 : lst2 (lst2 0 w) e = 0 := h
  rw [lst2_0] at h1
  unfold lst2 at h1
  by_cases he : e = 0
  · exact he
  · split at h1
    · exact h1
    · rename_i h2
      exact absurd ⟨he, .inl h1⟩ h2
theorem treeB_small {l : List Ety} (h : entE l = 0) : (treeB l).length ≤ 1048576 := by
  unfold entE at h
  split at h
  · omega
  · have h2 := minE2 h
    rw [entI_len l l.length 0 0 0 (by omega), List.drop_zero] at h2
    split at h2
    · omega
    · rename_i h3
      simp at h3
      omega
theorem one_bytes : ∀ (l : List UInt8), ∀ v ∈ Lib.byteCells l, v.oneCell' = true := by
  intro l v hv
  unfold Lib.byteCells at hv
  obtain ⟨b, _, rfl⟩ := List.mem_map.1 hv
  rfl
theorem src_id {wr W3 W4 W5 : World} {e : Ety} {T : TypeId} {b : Nat} (hva : VarAt wr W3 T (valsE e)) (hT : T ≠ 5) (hb : b < wr.heap.size) (hk4 : ∀ j, j < W3.heap.size → W4.heap[j]? = W3.heap[j]?) (hk5 : Lib.OthersKept 5 (some b) W4 W5) :
    ∀ j v, (Lib.byteCells e.id)[j]? = some v → W5.cell? ((⟨wr.heap.size, 2, none⟩ : Addr).add j) = some v := by
  intro j v hj
  obtain ⟨cs, fr, hr⟩ := hva.row
  have hn1 : wr.heap.size < W3.heap.size := by rw [hva.size]; omega
  have h4 : W4.heap[wr.heap.size]? = some (.cells cs T fr) := (hk4 _ hn1).trans hr
  have h5 := hk5 _ _ h4 (by simp; omega) (fun c fz h => by cases h; exact hT rfl)
  have hc := hva.cell (j + 2) v (by simpa [valsE] using hj)
  rw [Addr.add_mid]
  simp only [World.cell?, hr, h5] at hc ⊢
  rw [Nat.add_comm]; exact hc
theorem cat_data {T1 T2 : ByteArray} {m : Int} {n : List UInt8} (d1 : T1.data.toList = octT m) (d2 : T2.data.toList = n) : (T1 ++ ⟨#[32]⟩ ++ T2 ++ ⟨#[0]⟩).data.toList = octT m ++ [32] ++ n ++ [0] := by
  simp only [ByteArray.data_append, Array.toList_append, d1, d2]
theorem cells_app (a b : List UInt8) : Lib.byteCells a ++ Lib.byteCells b = Lib.byteCells (a ++ b) := by simp [Lib.byteCells]
theorem cat_tree {T1 T2 : ByteArray} {l : List Ety} {k : Nat} (hk : k < l.length) (d1 : T1.data.toList = octT (eat l k).mode) (d2 : T2.data.toList = (eat l k).name) :
    Lib.byteCells (treeB (l.take k)) ++ Lib.byteCells (T1 ++ ⟨#[32]⟩ ++ T2 ++ ⟨#[0]⟩).data.toList ++ Lib.byteCells (eat l k).id = Lib.byteCells (treeB (l.take (k + 1))) := by
  rw [cat_data d1 d2, cells_app, cells_app, treeB_succ hk]
  congr 1
  simp [entB]
theorem below_weak {B B' : Nat} {a w : World} (h : Below B a w) (hB : B' ≤ B) : Below B' a w := ⟨h.os, h.tape, h.output, h.size, fun k hk => h.block k (Nat.lt_of_lt_of_le hk hB)⟩
theorem wrap64_succ {k : Nat} (h : k ≤ 1000000000) : wrap64 ((k : Int) + 1) = ((k + 1 : Nat) : Int) := by
  unfold wrap64; omega
end Cod
namespace Cod
open Go Go.RowKit Go.Proofs Go.Shelf
set_option maxRecDepth 1000000
set_option maxHeartbeats 6400000 in
theorem put_tree {l : List Ety} (hl : TreeOK l) {p : Option Addr} {b0 o0 cap : Nat} {w : World} (hW : Start w) (hv : VR (ctx [] LaE w) (.lst (etys l) l.length) (.slice p l.length cap)) (hp : 0 < l.length → p = some ⟨b0, o0, none⟩) (hrow : ∀ k, k < l.length → w.rangeAt b0 (o0 + k * 34) (valsE (eat l k))) (hb0 : 0 < l.length → b0 < w.heap.size) :
    Calls Tryz.prog 11 #[.slice p l.length cap] w fun e w' => Below w.heap.size w w' ∧ ((entE l ≠ 0 ∧ e = .returned (.tuple #[.slice none 0 0, .int .i64 (entE l)])) ∨ (entE l = 0 ∧ ∃ v, e = .returned (.tuple #[v, .int .i64 0]) ∧ w'.ownsRow w.heap.size 5 1 v (treeB l).length ((treeB l).map fun b => Value.int .u8 b.toNat))) := by
  have hi39 : (Tryz.prog.info? 58).map (·.size) = some 34 := by kernel_rfl
  by_cases he : entE l = 0
  · go_enter Tryz.func11, Tryz.ntmps11
    go_wp2_with (go_at_call 41; refine (ent_calls hl hW hv).mono ?_; rw [he]; rintro e W1 ⟨rfl, hb1⟩)
    go_loopw [15] (fun i wr => ∃ k : Nat, i = .int .i64 k ∧ k ≤ l.length ∧ Lib.IsBuffer 83 5 W1.heap.size W1.heap.size (Lib.byteCells (treeB (l.take k))) wr ∧ Below W1.heap.size W1 wr) (fun i _ => l.length - (intOf i).toNat)
    case atStart =>
      exact ⟨0, rfl, Nat.zero_le _, ⟨Nat.le_refl _, .slice none 0 0, 0, heap_alloc_new W1 _, World.ownsRow_nil _ _ _ _, by simp [Value.ownBlock]⟩, (Below.refl _ W1).alloc (Nat.le_refl _) _⟩
    case round =>
      obtain ⟨k, rfl, hk, hI, hbw⟩ := hrel
      have hbel : Below w.heap.size w wr := hb1.trans ⟨hbw.os, hbw.tape, hbw.output, hbw.size, fun j hj => hbw.block j (Nat.lt_of_lt_of_le hj hb1.size)⟩
      by_cases hlt : k < l.length
      · obtain rfl := hp (by omega)
        have hb0 := hb0 (by omega)
        have hrange : wr.rangeAt b0 (o0 + k * 34) (valsE (eat l k)) := fun j v hj => (hbel.cell (p := ⟨b0, o0 + k * 34 + j, none⟩) hb0).trans (hrow k hlt j v hj)
        go_upto_region 8 with (first | (refine wpList_load_mid rfl 58 _ rfl b0 (o0 + k * 34) (by first | rfl | simp [Addr.add_mid]) (valsE (eat l k)) _ hrange Tryz.underlying58 rfl (by rw [valsE_len]; exact hi39) ?_) | (refine wpList_store_mid rfl 58 _ _ rfl wr.heap.size 0 (valsE (eat l k)).toArray (by rfl) (by rfl) ?_ ?_ (vals_one _) ?_))
        · intro j hj
          first | rw [List.size_toArray, valsE_len] at hj | rw [valsE_len] at hj
          refine ⟨?_, ?_⟩
          · simp only [World.cell?, heap_alloc_new]
            rw [if_neg (by simp), Nat.zero_add, Array.getElem?_eq_getElem (by simpa using hj)]; rfl
          · simp only [World.frozen?, heap_alloc_new]
            simp
        · first | (rw [List.size_toArray, valsE_len]; exact hi39) | rw [valsE_len]
        · refine with_var (p := Code.wp _ _ _ _) (T := 58) (vals := valsE (eat l k)) (by rw [valsE_len]; rfl) ?_
          intro W3 hva
          have hn1 : wr.heap.size < W3.heap.size := by rw [hva.size]; omega
          have c0 : W3.cell? ⟨wr.heap.size, 0, none⟩ = some (.int .i64 (eat l k).mode) := hva.cell 0 _ rfl
          have c1 : W3.cell? ⟨wr.heap.size, 1, none⟩ = some (.string ⟨(eat l k).name.toArray⟩) := hva.cell 1 _ rfl
          have hI3 := hI.old hva.below
          have hb3 : Below w.heap.size w W3 := hbel.trans ⟨hva.below.os, hva.below.tape, hva.below.output, hva.below.size, fun j hj => hva.below.block j (Nat.lt_of_lt_of_le hj hbel.size)⟩
          have hS3 : Start W3 := hW.below hb3
          have hm := hl.2.1 k
          have hF : Calls Tryz.prog 43 #[.int .i64 (eat l k).mode, .int .i64 8] W3.drew fun e W4 => e = .returned (.string ⟨(octT (eat l k).mode).toArray⟩) ∧ W4.cell? ⟨wr.heap.size, 1, none⟩ = some (.string ⟨(eat l k).name.toArray⟩) ∧ Below wr.heap.size wr W4 ∧ W3.heap.size ≤ W4.heap.size ∧ (∀ j, j < W3.heap.size → W4.heap[j]? = W3.heap[j]?) := by
            have hSd : Start W3.drew := hS3.below ⟨rfl, rfl, rfl, Nat.le_refl _, fun _ _ => rfl⟩
            refine (fmt_calls hm.1 hm.2 hSd).mono ?_
            rintro e W4 ⟨rfl, hb4x⟩
            have hb4 : Below W3.heap.size W3 W4 := ⟨hb4x.os, hb4x.tape, hb4x.output, hb4x.size, hb4x.block⟩
            exact ⟨rfl, (hb4.cell (p := ⟨wr.heap.size, 1, none⟩) hn1).trans c1, hva.below.trans ⟨hb4.os, hb4.tape, hb4.output, hb4.size, fun j hj => hb4.block j (by omega)⟩, hb4.size, hb4.block⟩
          have hts := treeB_small he
          have htk := treeB_take l k
          have hol := octT_len (eat l k).mode
          have hnl := hl.1 k
          obtain ⟨T1, hT1⟩ : ∃ T1 : ByteArray, T1 = ⟨(octT (eat l k).mode).toArray⟩ := ⟨_, rfl⟩
          obtain ⟨T2, hT2⟩ : ∃ T2 : ByteArray, T2 = ⟨(eat l k).name.toArray⟩ := ⟨_, rfl⟩
          have z1 : T1.size ≤ 23 := by rw [hT1]; simpa [ByteArray.size] using hol
          have z2 : T2.size ≤ 1000000000 := by rw [hT2]; simpa [ByteArray.size] using hnl
          rw [← hT1, ← hT2] at hF
          rw [← hT2] at c1
          have d1 : T1.data.toList = octT (eat l k).mode := by rw [hT1]
          have d2 : T2.data.toList = (eat l k).name := by rw [hT2]
          clear hT1 hT2
          have g1 : ¬ 9223372036854775807 < T1.size + 1 := by omega
          have g2 : ¬ 9223372036854775807 < T1.size + 1 + T2.size := by omega
          have g3 : ¬ 9223372036854775807 < T1.size + 1 + T2.size + 1 := by omega
          have g4 : ¬ 9223372036854775807 ≤ T1.size := by omega
          have g5 : ¬ 9223372036854775807 ≤ T1.size + 1 + T2.size := by omega
          go_region_with (first | (go_at_call 43; refine hF.mono ?_; rintro e W4 ⟨rfl, c1', hb4, hz4, hk4⟩; have hI4 := hI.old hb4) | (go_at_call 42; refine Calls.mono (Tryz.Buffer_WriteString_kept W1.heap.size W1.heap.size _ _ W4 hI4 (by have := hbw.size; have := hb4.size; omega) (one_bytes _) (by rw [Lib.byteCells_length]; simp only [ByteArray.size_append]; have e1 : (⟨#[32]⟩ : ByteArray).size = 1 := rfl; have e2 : (⟨#[0]⟩ : ByteArray).size = 1 := rfl; omega)) ?_; rintro e W5 ⟨rfl, hI5, hb5, hk5⟩))
          all_goals have hsrc := src_id hva (by decide) hI.lt hk4 hk5
          all_goals go_wp2_with (go_at_call 44; refine Calls.mono (Tryz.Buffer_Write_any W1.heap.size W1.heap.size _ (Lib.byteCells (eat l k).id) ⟨wr.heap.size, 2, none⟩ 32 32 W5 hI5 (by have := hbw.size; have := hb4.size; have := hb5.size; omega) (by rw [cells_app]; exact one_bytes _) (by rw [Lib.byteCells_length]; exact (eat l k).hid) (by have := hI.lt; show wr.heap.size ≠ W1.heap.size; omega) hsrc (one_bytes _) (by rw [List.length_append, Lib.byteCells_length, Lib.byteCells_length, cat_data d1 d2]; simp only [List.length_append, List.length_cons, List.length_nil]; omega)) ?_; rintro e W6 ⟨rfl, hI6, hb6, hk6⟩)
          all_goals rw [cat_tree hlt d1 d2] at hI6
          all_goals go_roundw
          all_goals first
            | exact ⟨k + 1, by rw [wrap64_succ (by have := hl.2.2; omega)], by omega, hI6, hbw.trans ((below_weak hb4 hbw.size).trans (hb5.trans hb6))⟩
            | (rw [wrap64_succ (by have := hl.2.2; omega)]; simp only [intOf]; omega)
      · obtain rfl : k = l.length := by omega
        rw [List.take_length] at hI
        go_wp2_with (go_at_call 45; refine (Tryz.Buffer_Bytes W1.heap.size W1.heap.size _ wr hI).mono ?_; rintro e W2 ⟨v, rfl, hown, n, rfl⟩)
        go_ret2
        refine ⟨hbel.trans ⟨rfl, rfl, rfl, Nat.le_refl _, fun _ _ => rfl⟩, .inr ⟨he, v, rfl, ?_⟩⟩
        have e1 : Lib.byteCells (treeB l) = (treeB l).map fun b => Value.int .u8 b.toNat := rfl
        rw [e1, List.length_map] at hown
        exact owns_mono hown hb1.size
  · go_enter Tryz.func11, Tryz.ntmps11
    go_wp2_with (go_at_call 41; refine (ent_calls hl hW hv).mono ?_; rintro e W1 ⟨rfl, hb1⟩)
    go_ret2
    exact ⟨hb1, .inl ⟨he, rfl⟩⟩
end Cod
namespace Cod
open Go Go.RowKit Go.Proofs Go.Shelf
set_option maxRecDepth 1000000
set_option maxHeartbeats 2000000 in
theorem bc_fresh (b : Nat) (w : World) (h0 : w.cell? ⟨b, 0, none⟩ = some (.pointer none)) (hsh : w.shape? b = some (123, 2)) (hfz : w.frozen? ⟨b, 0, none⟩ = false) :
    Calls Tryz.prog 114 #[.pointer (some ⟨b, 0, none⟩)] w fun e w' => e = .returned (.tuple #[]) ∧ w' = w.setCell ⟨b, 0, none⟩ (.pointer (some ⟨b, 0, none⟩)) := by
  obtain ⟨j, hj, hjs⟩ := Option.map_eq_some_iff.1 Tryz.Builder_Extra_169.sizeBuilder
  go_enter Tryz.func114, Tryz.ntmps114
  go_wp2
  rw [Lib.run_to_unsafe w ⟨b, 0, none⟩ Tryz.underlying121 Tryz.underlying190 hj (by rw [hjs]; decide) hsh (Nat.zero_lt_succ 1)]
  simp only [Result.andThen]
  rw [Oper.upon_value]
  go_wp2
  rw [run_callFunc_extern Tryz.func152 (by kernel_rfl) (by kernel_rfl) (by kernel_rfl) (e := Extern.AbiNoEscape.same) (by kernel_rfl)]
  rw [Lib.run_noEscape]
  simp only [Result.andThen]
  rw [Oper.upon_value]
  go_wp2
  rw [Lib.run_from_unsafe w ⟨b, 0, none⟩ Tryz.underlying190 Tryz.underlying121 hj hsh Tryz.Builder_Extra_169.liesBuilder]
  simp only [Result.andThen]
  rw [Oper.upon_value]
  go_wp2
  go_end0
  exact ⟨rfl, rfl⟩
set_option maxHeartbeats 2000000 in
theorem bc_used (b : Nat) (w : World) (h0 : w.cell? ⟨b, 0, none⟩ = some (.pointer (some ⟨b, 0, none⟩))) :
    Calls Tryz.prog 114 #[.pointer (some ⟨b, 0, none⟩)] w fun e w' => e = .returned (.tuple #[]) ∧ w' = w := by
  obtain ⟨j, hj, _⟩ := Option.map_eq_some_iff.1 Tryz.Builder_Extra_169.sizeBuilder
  go_enter Tryz.func114, Tryz.ntmps114
  go_wp2
  rw [Lib.run_neq_ptr_same w _ Tryz.underlying121 hj]
  go_wp2
  go_end0
  exact ⟨rfl, rfl⟩
theorem bc_k (B b : Nat) (bs : List Value) (w : World) (h : Lib.IsBuilderF 123 5 B b bs w) :
    Calls Tryz.prog 114 #[.pointer (some ⟨b, 0, none⟩)] w fun e w' => e = .returned (.tuple #[]) ∧ (Lib.BuilderAtF 123 5 B b (.pointer (some ⟨b, 0, none⟩)) bs w' ∧ Below B w w' ∧ Lib.OthersKept 5 (some b) w w') := by
  rcases h with h | h
  · refine (bc_fresh b w h.cell0 h.shape h.frozen0).mono ?_
    rintro e w' ⟨rfl, rfl⟩
    exact ⟨rfl, h.used _, (Below.refl B w).setCell (p := ⟨b, 0, none⟩) h.1 _, (Lib.OthersKept.refl _ _ w).setCell ⟨b, 0, none⟩ rfl _⟩
  · refine (bc_used b w h.cell0).mono ?_
    rintro e w' ⟨rfl, rfl⟩
    exact ⟨rfl, h, Below.refl B _, Lib.OthersKept.refl _ _ _⟩
set_option maxHeartbeats 2000000 in
theorem bwByte (B b : Nat) (bs : List Value) (c : Int) (w : World) (h : Lib.IsBuilderF 123 5 B b bs w) (hlen : bs.length + 1 ≤ 140737488355328) (hBw : B ≤ w.heap.size) :
    Calls Tryz.prog 102 #[.pointer (some ⟨b, 0, none⟩), .int .u8 c] w fun e w' => e = .returned .nilIface ∧ (Lib.BuilderAtF 123 5 B b (.pointer (some ⟨b, 0, none⟩)) (bs ++ [.int .u8 c]) w' ∧ Below B w w' ∧ Lib.OthersKept 5 (some b) w w') := by
  obtain ⟨i0, hi, hz0, hz1, hz2⟩ := info_parts Tryz.Builder_Extra_169.infoByte
  go_enter Tryz.func102, Tryz.ntmps102
  go_wp2_with (go_at_call 114; refine (bc_k B b bs _ h).mono ?_)
  rintro e w1 ⟨rfl, h1, hb1, hk1⟩
  obtain ⟨hB, v, hbk, hown, hne⟩ := h1
  have c0 : w1.cell? ⟨b, 0, none⟩ = some (.pointer (some ⟨b, 0, none⟩)) := by rw [Lib.cell_of_heap hbk]; rfl
  have c1 : w1.cell? ⟨b, 1, none⟩ = some v := by rw [Lib.cell_of_heap hbk]; rfl
  go_wp2_with (at_builtin; refine wpList_append_ownF _ rfl _ _ 23 rfl B 5 i0 (.int .u8 0) 1 1 Tryz.underlying23 hi hz0 hz1 hz2 rfl (by decide) _ _ _ rfl (hown.alloc _) ⟨w1.heap.size, 0, none⟩ 1 1 [.int .u8 c] rfl rfl ?c1 ?c2 ?c3 ?c4 ?c5 ?_)
  case c1 =>
    intro j u hj
    match j, hj with
    | 0, hj => simp at hj; subst hj; simp [Addr.add]
  case c2 => intro u hu; simp at hu; subst hu; rfl
  case c3 => unfold maxLen; omega
  case c4 => omega
  case c5 => have := hb1.size; simp; omega
  intro v' w2 hown' hgrow _
  have hlt : b < w1.heap.size := by
    rcases Nat.lt_or_ge b w1.heap.size with h' | h'
    · exact h'
    · simp [Array.getElem?_eq_none h'] at hbk
  have hb2 : w2.heap[b]? = some (.cells #[.pointer (some ⟨b, 0, none⟩), v] 123 (0, 0)) := by
    rw [hgrow.block b (by simp; omega) (fun e => hne e.symm), Lib.alloc_old w1 _ b hlt]
    exact hbk
  have d0 : w2.cell? ⟨b, 0, none⟩ = some (.pointer (some ⟨b, 0, none⟩)) := by rw [Lib.cell_of_heap hb2]; rfl
  have d1 : w2.cell? ⟨b, 1, none⟩ = some v := by rw [Lib.cell_of_heap hb2]; rfl
  have f1 : w2.frozen? ⟨b, 1, none⟩ = false := Lib.frozen_of_heap hb2 1
  obtain ⟨g, cap, rfl⟩ : ∃ g cap, v' = .slice (some ⟨g, 0, none⟩) (bs.length + 1) cap := by
    rcases hown'.2 with ⟨_, h0⟩ | ⟨g, cap, cur, fz, hv, _⟩
    · omega
    · exact ⟨g, cap, hv⟩
  go_wp2
  go_ret
  refine ⟨rfl, ?_, ?_, ((hk1.alloc _).grown hgrow (Lib.ownsRowF_kind (hown.alloc _))).setCell ⟨b, 1, none⟩ rfl _⟩
  · exact Lib.BuilderAtF.put (T := 123) (e := 5) hB hb2 (bs' := bs ++ [.int .u8 c]) (by simpa using hown') Tryz.Builder_Extra_169.neB5
  · exact ((hb1.alloc (by have := hb1.size; omega) _).grown hgrow (by have := hb1.size; simp; omega) (fun k hk => (hown.lt k hk).1)).setCell (p := ⟨b, 1, none⟩) hB _
set_option maxHeartbeats 2000000 in
theorem bwString (B b : Nat) (bs : List Value) (s : ByteArray) (w : World) (h : Lib.IsBuilderF 123 5 B b bs w) (hlen : bs.length + s.size ≤ 140737488355328) (hBw : B ≤ w.heap.size) :
    Calls Tryz.prog 70 #[.pointer (some ⟨b, 0, none⟩), .string s] w fun e w' => e = .returned (.tuple #[.int .i64 s.size, .nilIface]) ∧ (Lib.BuilderAtF 123 5 B b (.pointer (some ⟨b, 0, none⟩)) (bs ++ Lib.strCells s) w' ∧ Below B w w' ∧ Lib.OthersKept 5 (some b) w w') := by
  obtain ⟨i0, hi, hz0, hz1, hz2⟩ := info_parts Tryz.Builder_Extra_169.infoByte
  go_enter Tryz.func70, Tryz.ntmps70
  go_wp2_with (go_at_call 114; refine (bc_k B b bs _ h).mono ?_)
  rintro e w1 ⟨rfl, h1, hb1, hk1⟩
  obtain ⟨hB, v, hbk, hown, hne⟩ := h1
  have c0 : w1.cell? ⟨b, 0, none⟩ = some (.pointer (some ⟨b, 0, none⟩)) := by rw [Lib.cell_of_heap hbk]; rfl
  have c1 : w1.cell? ⟨b, 1, none⟩ = some v := by rw [Lib.cell_of_heap hbk]; rfl
  go_wp2_with (at_builtin; refine Lib.wpList_append_own_stringF _ rfl _ _ 23 9 rfl B 5 i0 Tryz.underlying23 Tryz.underlying9 hi hz0 hz1 hz2 _ _ _ rfl hown s rfl ?c3 ?c4 ?c5 ?_)
  case c3 => unfold maxLen; omega
  case c4 => omega
  case c5 => have := hb1.size; omega
  intro v' w2 hown' hgrow _
  have hlt : b < w1.heap.size := by
    rcases Nat.lt_or_ge b w1.heap.size with h' | h'
    · exact h'
    · simp [Array.getElem?_eq_none h'] at hbk
  have hb2 : w2.heap[b]? = some (.cells #[.pointer (some ⟨b, 0, none⟩), v] 123 (0, 0)) := by
    rw [hgrow.block b hlt (fun e => hne e.symm)]
    exact hbk
  have d0 : w2.cell? ⟨b, 0, none⟩ = some (.pointer (some ⟨b, 0, none⟩)) := by rw [Lib.cell_of_heap hb2]; rfl
  have d1 : w2.cell? ⟨b, 1, none⟩ = some v := by rw [Lib.cell_of_heap hb2]; rfl
  have f1 : w2.frozen? ⟨b, 1, none⟩ = false := Lib.frozen_of_heap hb2 1
  obtain ⟨ao, n', cap, rfl⟩ : ∃ ao n' cap, v' = .slice ao n' cap := by
    rcases hown'.2 with ⟨hv, _⟩ | ⟨g, cap, cur, fz, hv, _⟩
    · exact ⟨_, _, _, hv⟩
    · exact ⟨_, _, _, hv⟩
  go_wp2
  go_ret2
  refine ⟨rfl, ?_, ?_, (hk1.grown hgrow (Lib.ownsRowF_kind hown)).setCell ⟨b, 1, none⟩ rfl _⟩
  · exact Lib.BuilderAtF.put (T := 123) (e := 5) hB hb2 (bs' := bs ++ Lib.strCells s) (by simpa [Lib.strCells_length] using hown') Tryz.Builder_Extra_169.neB5
  · exact (hb1.grown hgrow (by have := hb1.size; omega) (fun k hk => (hown.lt k hk).1)).setCell (p := ⟨b, 1, none⟩) hB _
end Cod
namespace Cod
open Go Go.RowKit Go.Proofs Go.Shelf
set_option maxRecDepth 1000000
theorem digit_at (i : Nat) (h : i < 16) : ∀ W, (Instr.index 9 (.string ⟨#[48, 49, 50, 51, 52, 53, 54, 55, 56, 57, 97, 98, 99, 100, 101, 102]⟩) (.int .u8 (i : Int))).run Tryz.prog W = .ok (.int .u8 (hexD i).toNat) W := by
  intro W
  rw [run_index_string W 9 _ .u8 _ Tryz.underlying9, dif_pos ⟨by omega, by show (i : Int) < 16; omega⟩]
  have : ∀ j : Fin 16, ∀ h, ((⟨#[48, 49, 50, 51, 52, 53, 54, 55, 56, 57, 97, 98, 99, 100, 101, 102]⟩ : ByteArray)[((j.val : Nat) : Int).toNat]'h) = hexD j.val := by decide
  rw [this ⟨i, h⟩]
theorem and15 (x : UInt8) : bits .and .u8 (x.toNat : Int) 15 = ((x.toNat % 16 : Nat) : Int) := by
  have key : ∀ n : Nat, n < 256 → bits .and .u8 (n : Int) 15 = ((n % 16 : Nat) : Int) := by decide +kernel
  exact key _ x.toNat_lt
set_option maxHeartbeats 4000000 in
theorem hex_calls {id : List UInt8} (hid : id.length = 32) {w : World} :
    Calls Tryz.prog 59 #[.agg (Lib.byteCells id).toArray] w fun e w' => e = .returned (.string ⟨(hexT id).toArray⟩) ∧ Below w.heap.size w w' := by
  have hi35 : (Tryz.prog.info? 35).map (·.size) = some (Lib.byteCells id).length := by rw [Lib.byteCells_length, hid]; kernel_rfl
  go_enter Tryz.func59, Tryz.ntmps59
  go_upto_region 3 with (refine wpList_load_mid rfl 35 _ rfl w.heap.size 0 (by rfl) (Lib.byteCells id) _ ?_ Tryz.underlying35 rfl hi35 ?_)
  · intro j v hj
    have hh : ((w.alloc (Obj.cells (Lib.byteCells id).toArray 35)).alloc (Obj.cells #[Value.pointer none, Value.slice none 0 0] 123)).heap[w.heap.size]? = some (.cells (Lib.byteCells id).toArray 35) := (Lib.alloc_old _ _ _ (by simp)).trans (heap_alloc_new _ _)
    rw [Lib.cell_of_heap hh]
    simpa using hj
  · have hb0 : Lib.BuilderAtF 123 5 w.heap.size (w.heap.size + 1) (.pointer none) [] ((w.alloc (Obj.cells (Lib.byteCells id).toArray 35)).alloc (Obj.cells #[Value.pointer none, Value.slice none 0 0] 123)) := by
      refine ⟨by omega, .slice none 0 0, ?_, World.ownsRowF_nil _ _ _ _, by simp [Value.ownBlock]⟩
      have := heap_alloc_new (w.alloc (Obj.cells (Lib.byteCells id).toArray 35)) (Obj.cells #[Value.pointer none, Value.slice none 0 0] 123)
      simpa using this
    have hbel : Below w.heap.size w ((w.alloc (Obj.cells (Lib.byteCells id).toArray 35)).alloc (Obj.cells #[Value.pointer none, Value.slice none 0 0] 123)) := ((Below.refl _ w).alloc (Nat.le_refl _) _).alloc (by simp) _
    have hsz : w.heap.size ≤ ((w.alloc (Obj.cells (Lib.byteCells id).toArray 35)).alloc (Obj.cells #[Value.pointer none, Value.slice none 0 0] 123)).heap.size := hbel.size
    generalize ((w.alloc (Obj.cells (Lib.byteCells id).toArray 35)).alloc (Obj.cells #[Value.pointer none, Value.slice none 0 0] 123)) = W1 at *
    go_loopw [7] (fun i wr => ∃ k : Nat, i = .int .i64 k ∧ k ≤ 32 ∧ Lib.IsBuilderF 123 5 w.heap.size (w.heap.size + 1) (Lib.byteCells (hexT (id.take k))) wr ∧ Below w.heap.size w wr) (fun i _ => 32 - (intOf i).toNat)
    case atStart => exact ⟨0, rfl, by omega, .inl hb0, hbel⟩
    case round =>
      obtain ⟨k, rfl, hk, hI, hbw⟩ := hrel
      by_cases hlt : k < 32
      · have hx : (Lib.byteCells id)[k]? = some (.int .u8 (id.getD k 0).toNat) := by
          rw [Lib.byteCells, List.getElem?_map, List.getElem?_eq_getElem (by omega)]
          simp [List.getD, show k < id.length by omega]
        have hT : id.take (k + 1) = id.take k ++ [id.getD k 0] := by
          rw [List.take_succ_eq_append_getElem (by omega)]
          simp [List.getD, show k < id.length by omega]
        generalize id.getD k 0 = x at hx hT
        have hix : ∀ W, (Instr.index 35 (.agg (Lib.byteCells id).toArray) (.int .i64 (k : Int))).run Tryz.prog W = .ok (.int .u8 x.toNat) W := fun W => by
          simp [Instr.index, run_underlying Tryz.underlying35, asIntOf, hlt, hx, go_sem]
        have hd1 := digit_at (x.toNat / 16) (by have := x.toNat_lt; omega)
        have hd2 := digit_at (x.toNat % 16) (by omega)
        rw [← and15] at hd2
        simp only [Int.natCast_ediv, Int.cast_ofNat_Int] at hd1
        have hl : (hexT (id.take k)).length = 2 * k := by
          rw [hexT_len, List.length_take]; omega
        have hl1 : (Lib.byteCells (hexT (id.take k))).length + 1 ≤ 140737488355328 := by rw [Lib.byteCells_length]; omega
        go_wp2_with (go_at_call 102; refine (bwByte _ _ _ _ _ hI hl1 hbw.size).mono ?_)
        rintro e W2 ⟨rfl, hA, hb2, _⟩
        have hl2 : (Lib.byteCells (hexT (id.take k)) ++ [Value.int .u8 (hexD (x.toNat / 16)).toNat]).length + 1 ≤ 140737488355328 := by rw [List.length_append, Lib.byteCells_length, List.length_singleton]; omega
        go_wp2_with (go_at_call 102; refine (bwByte _ _ _ _ _ (.inr hA) hl2 (Nat.le_trans hbw.size hb2.size)).mono ?_)
        rintro e W3 ⟨rfl, hA3, hb3, _⟩
        go_wp2
        refine ⟨⟨k + 1, rfl, by omega, .inr ?_, (hbw.trans hb2).trans hb3⟩, by simp [intOf]; omega⟩
        rw [hT]
        unfold hexT at hA3 ⊢
        rw [List.flatMap_append]
        simpa [hexB, Lib.byteCells] using hA3
      · obtain rfl : k = 32 := by omega
        have hne : hexT (id.take 32) = hexT id := by rw [List.take_of_length_le (by omega)]
        rw [hne] at hI
        go_wp2_with (go_at_call 71; refine (Tryz.Builder_String_any_k _ _ _ _ hI hbw.size).mono ?_)
        rintro e W2 ⟨rfl, _, hb2, _⟩
        go_wp2
        go_ret
        exact ⟨rfl, hbw.trans hb2⟩
end Cod
namespace Cod
open Go Go.RowKit Go.Proofs Go.Shelf
set_option maxRecDepth 1000000
def whoT (i : Idt) : List UInt8 := if identOK i = true then putI i else []
theorem go_who' {i : Idt} : S E F.object_who [.agg i.cells] [] = some (.tup [.str (whoT i), .int .i64 (idE i)], []) := by
  rw [go_who]
  unfold putV whoT idE
  cases identOK i <;> rfl
def valsI (i : Idt) : List Value := [.string ⟨i.name.toArray⟩, .string ⟨i.email.toArray⟩, .int .i64 i.time, .int .i64 i.zone]
theorem who_calls {i : Idt} {w : World} (hW : Start w) :
    Calls Tryz.prog 53 #[.agg (valsI i).toArray] w fun e w' => e = .returned (.tuple #[.string ⟨(whoT i).toArray⟩, .int .i64 (idE i)]) ∧ Below w.heap.size w w' :=
  e_calls Tryz.func53 (by rfl) (by kernel_rfl) (go_who' (i := i)) hW (vs := [.agg (valsI i).toArray]) (by simp [VRL, VR, Idt.cells, valsI]) (fun c z hz => by
    simp only [VR, VRL] at hz
    obtain ⟨vs, rfl, _, _, h1, rfl, _, _, h2, rfl, h3⟩ := hz
    have : vs = #[.string ⟨(whoT i).toArray⟩, .int .i64 (idE i)] := by
      apply Array.ext'
      rw [h1, h2, h3]
    rw [this])
theorem msg_calls {m : List UInt8} (hm : m.length ≤ 1000000000) {w : World} (hW : Start w) :
    Calls Tryz.prog 58 #[.string ⟨m.toArray⟩] w fun e w' => e = .returned (.int .i64 (msgE m)) ∧ Below w.heap.size w w' :=
  e_calls Tryz.func58 (by rfl) (by kernel_rfl) (go_message hm) hW (vs := [.string ⟨m.toArray⟩]) (by simp [VRL, VR]) (fun c z hz => by simpa [VR] using hz)
theorem when_calls {b : Bool} {n : Int} {w : World} (hW : Start w) :
    Calls Tryz.prog 56 #[.bool b, .int .i64 n] w fun e w' => e = .returned (.int .i64 (if b = true then n else 0)) ∧ Below w.heap.size w w' :=
  e_calls Tryz.func56 (by rfl) (by kernel_rfl) (go_when (b := b) (e := n)) hW (vs := [.bool b, .int .i64 n]) (by simp [VRL, VR]) (fun c z hz => by simpa [VR] using hz)
theorem least_calls {a b c d : Int} {g : Nat} {w : World} (hW : Start w) (hg : g < w.heap.size) (h0 : w.cell? ⟨g, 0, none⟩ = some (.int .i64 a)) (h1 : w.cell? ⟨g, 1, none⟩ = some (.int .i64 b)) (h2 : w.cell? ⟨g, 2, none⟩ = some (.int .i64 c)) (h3 : w.cell? ⟨g, 3, none⟩ = some (.int .i64 d)) :
    Calls Tryz.prog 55 #[.slice (some ⟨g, 0, none⟩) 4 4] w fun e w' => e = .returned (.int .i64 (minE [a, b, c, d])) ∧ Below w.heap.size w w' :=
  e_calls Tryz.func55 (by rfl) (by kernel_rfl) (go_least4 (a := a) (b := b) (c := c) (d := d)) hW (vs := [.slice (some ⟨g, 0, none⟩) 4 4]) (by
    simp only [VRL]
    refine ⟨_, _, rfl, ?_, rfl⟩
    simp only [VR]
    refine ⟨rfl, .inr ⟨g, 0, 4, rfl, Nat.le_refl _, hg, ?_, ?_⟩⟩
    · rintro (⟨s, e, o, he, _⟩ | h)
      · simp [getS] at he
      · exact h.elim
    · simp only [VRC, VR]
      exact ⟨⟨_, h0, rfl⟩, ⟨_, h1, rfl⟩, ⟨_, h2, rfl⟩, ⟨_, h3, rfl⟩, trivial⟩) (fun c z hz => by simpa [VR] using hz)
def valsS (s : Snap) (x : Value) : List Value := Lib.byteCells s.tree ++ ([x] ++ valsI s.aut ++ valsI s.com ++ [.string ⟨s.msg.toArray⟩])
theorem valsS_len (s : Snap) (x : Value) : (valsS s x).length = 42 := by
  unfold valsS
  rw [List.length_append, Lib.byteCells_length, s.ht]; rfl
theorem valsS_get (s : Snap) (x : Value) (i : Nat) : (valsS s x)[32 + i]? = ([x] ++ valsI s.aut ++ valsI s.com ++ [Value.string ⟨s.msg.toArray⟩])[i]? := by
  unfold valsS
  rw [List.getElem?_append_right (by rw [Lib.byteCells_length, s.ht]; omega), Lib.byteCells_length, s.ht, Nat.add_sub_cancel_left]
end Cod
namespace Cod
open Go Go.RowKit Go.Proofs Go.Shelf
set_option maxRecDepth 1000000
theorem vals_onel (l : List UInt8) : (Lib.byteCells l).toArray.all (·.oneCell') = true := by
  rw [Array.all_eq_true_iff_forall_mem]
  intro v hv
  exact one_bytes l v (by simpa using hv)
def NewRow (w : World) (B : Nat) (v : Value) (n : Nat) (xs : List Value) : Prop := ∃ g cap cur el fr, v = .slice (some ⟨g, 0, none⟩) n cap ∧ B ≤ g ∧ w.heap[g]? = some (.cells cur el fr) ∧ (fr.1 = fr.2 ∨ cur.size ≤ fr.1) ∧ n ≤ cap ∧ cur.size = cap ∧ cur.toList.take n = xs
theorem conv_row {w : World} {B : Nat} (hB : B ≤ w.heap.size) (e : TypeId) (l : List UInt8) : NewRow (Lib.bytesWorld w e ⟨l.toArray⟩) B (.slice (some ⟨w.heap.size, 0, none⟩) (⟨l.toArray⟩ : ByteArray).size (grownCap w (⟨l.toArray⟩ : ByteArray).size 0 e)) l.length (l.map fun b => Value.int .u8 b.toNat) ∧ Below w.heap.size w (Lib.bytesWorld w e ⟨l.toArray⟩) := by
  have hz : (⟨l.toArray⟩ : ByteArray).size = l.length := by simp [ByteArray.size]
  have hcap := grownCap_ge w l.length 0 e
  rw [hz]
  have hsz : (Lib.bytesCells w e ⟨l.toArray⟩).size = grownCap w l.length 0 e := by
    unfold Lib.bytesCells
    rw [hz, Array.size_append, Array.size_map, Array.size_replicate, List.size_toArray]
    omega
  refine ⟨⟨w.heap.size, grownCap w l.length 0 e, _, e, _, rfl, hB, Lib.bytesWorld_at_new w e _, .inr (Nat.le_refl _), hcap, hsz, ?_⟩, ?_⟩
  · unfold Lib.bytesCells
    rw [Array.toList_append, Array.toList_map]
    exact List.take_left' (by simp)
  · exact ⟨rfl, rfl, rfl, by rw [Lib.bytesWorld_size]; omega, fun k hk => Lib.bytesWorld_at_old w e _ k hk⟩
theorem bf_below {T e : TypeId} {B b : Nat} {bs : List Value} {W W' : World} (h : Lib.IsBuilderF T e B b bs W) (hb : Below W.heap.size W W') : Lib.IsBuilderF T e B b bs W' := by
  have lt : ∀ {k o}, W.heap[k]? = some o → k < W.heap.size := fun h => (Array.getElem?_eq_some_iff.1 h).1
  have key : ∀ p, Lib.BuilderAtF T e B b p bs W → Lib.BuilderAtF T e B b p bs W' := by
    rintro p ⟨hB, v, hv, ⟨hl, hr⟩, hne⟩
    refine ⟨hB, v, (hb.block b (lt hv)).trans hv, ⟨hl, ?_⟩, hne⟩
    rcases hr with hr | ⟨g, cap, cur, fz, q1, q2, q3, q4⟩
    · exact .inl hr
    · exact .inr ⟨g, cap, cur, fz, q1, q2, (hb.block g (lt q3)).trans q3, q4⟩
  exact h.elim (fun x => .inl (key _ x)) fun x => .inr (key _ x)
set_option maxHeartbeats 6400000 in
theorem put_commit {s : Snap} (hs : SnapOK s) {p : Option Addr} {b0 o0 cap : Nat} {w : World} (hW : Start w) (hp : 0 < s.par.length → p = some ⟨b0, o0, none⟩) (hrow : ∀ k, k < s.par.length → w.rangeAt b0 (o0 + k * 32) (Lib.byteCells (iat s.par k).b)) (hb0 : 0 < s.par.length → b0 < w.heap.size) :
    Calls Tryz.prog 22 #[.agg (valsS s (.slice p s.par.length cap)).toArray] w fun e w' => Below w.heap.size w w' ∧ ((cmtE s ≠ 0 ∧ e = .returned (.tuple #[.slice none 0 0, .int .i64 (cmtE s)])) ∨ (cmtE s = 0 ∧ ∃ v, e = .returned (.tuple #[v, .int .i64 0]) ∧ NewRow w' w.heap.size v (cmtB s).length ((cmtB s).map fun b => Value.int .u8 b.toNat))) := by
  have hi42 : (Tryz.prog.info? 47).map (·.size) = some 42 := by kernel_rfl
  have hg := valsS_get s (.slice p s.par.length cap)
  have hl := valsS_len s (.slice p s.par.length cap)
  have hg0 : ∀ (j : Nat) v, (Lib.byteCells s.tree)[j]? = some v → (valsS s (.slice p s.par.length cap))[j]? = some v := by
    intro j v hj
    unfold valsS
    rw [List.getElem?_append_left (List.getElem?_eq_some_iff.1 hj).1]
    exact hj
  generalize valsS s (.slice p s.par.length cap) = vals at *
  go_enter Tryz.func22, Tryz.ntmps22
  go_upto_region 1 with fail
  have hcell : ∀ (j : Nat) v, vals[j]? = some v → (w.alloc (Obj.cells vals.toArray 47)).cell? ⟨w.heap.size, j, none⟩ = some v := by
    intro j v hj
    rw [Lib.cell_of_heap (heap_alloc_new w _)]
    simpa using hj
  have hb0w : Below w.heap.size w (w.alloc (Obj.cells vals.toArray 47)) := (Below.refl _ w).alloc (Nat.le_refl _) _
  have hn0 : w.heap.size < (w.alloc (Obj.cells vals.toArray 47)).heap.size := by
    show w.heap.size < (w.heap.push _).size
    rw [Array.size_push]; omega
  generalize (w.alloc (Obj.cells vals.toArray 47)) = W0 at *
  have hS0 : Start W0 := hW.below hb0w
  have c32 := hcell 32 _ (hg 0)
  have c33 := hcell 33 _ (hg 1)
  have c34 := hcell 34 _ (hg 2)
  have c35 := hcell 35 _ (hg 3)
  have c36 := hcell 36 _ (hg 4)
  have c37 := hcell 37 _ (hg 5)
  have c38 := hcell 38 _ (hg 6)
  have c39 := hcell 39 _ (hg 7)
  have c40 := hcell 40 _ (hg 8)
  have c41 := hcell 41 _ (hg 9)
  have crow : ∀ (j : Nat) v, (Lib.byteCells s.tree)[j]? = some v → W0.cell? ⟨w.heap.size, j, none⟩ = some v := fun j v h => hcell j v (hg0 j v h)
  clear hcell hg hg0 hl hi42
  go_upto_region 2 with (go_at_call 53; refine (who_calls (i := s.aut) hS0).mono ?_; rintro e W1 ⟨rfl, hb1⟩)
  have k1 : ∀ {j v}, W0.cell? ⟨w.heap.size, j, none⟩ = some v → W1.cell? ⟨w.heap.size, j, none⟩ = some v := fun {j v} h => (hb1.cell (p := ⟨w.heap.size, j, none⟩) hn0).trans h
  have d32 := k1 c32
  have d37 := k1 c37
  have d38 := k1 c38
  have d39 := k1 c39
  have d40 := k1 c40
  have d41 := k1 c41
  go_upto_region 3 with (go_at_call 53; refine (who_calls (i := s.com) (hS0.below hb1)).mono ?_; rintro e W2 ⟨rfl, hb2⟩)
  have k2 : ∀ {j v}, W1.cell? ⟨w.heap.size, j, none⟩ = some v → W2.cell? ⟨w.heap.size, j, none⟩ = some v := fun {j v} h => (hb2.cell (p := ⟨w.heap.size, j, none⟩) (Nat.lt_of_lt_of_le hn0 hb1.size)).trans h
  have hS2 : Start W2 := (hS0.below hb1).below hb2
  have hn2 : w.heap.size < W2.heap.size := Nat.lt_of_lt_of_le hn0 (Nat.le_trans hb1.size hb2.size)
  have hS2d : Start W2.drew := hS2.below ⟨rfl, rfl, rfl, Nat.le_refl _, fun _ _ => rfl⟩
  have e32 := k2 d32
  have e41 := k2 d41
  have e32d : W2.drew.cell? ⟨w.heap.size, 32, none⟩ = some (.slice p s.par.length cap) := e32
  have e41d : W2.drew.cell? ⟨w.heap.size, 41, none⟩ = some (.string ⟨s.msg.toArray⟩) := e41
  obtain ⟨E1, hE1⟩ : ∃ E1 : Int, (if decide (16 < (s.par.length : Int)) = true then (2 : Int) else 0) = E1 := ⟨_, rfl⟩
  have hwh : ∀ {W : World}, Start W → Calls Tryz.prog 56 #[.bool (decide (16 < (s.par.length : Int))), .int .i64 2] W fun e w' => e = .returned (.int .i64 E1) ∧ Below W.heap.size W w' := fun h => by rw [← hE1]; exact when_calls h
  have hcm : minE [E1, msgE s.msg, idE s.aut, idE s.com] = cmtE s := by rw [← hE1]; rfl
  go_cut [8] from 24 (fun s8 wc => s8 = .int .i64 (cmtE s) ∧ Below W2.heap.size W2 wc)
  case first =>
    go_region_with (first
      | (go_at_call 56; refine (hwh hS2d).mono ?_; rintro e W3 ⟨rfl, hb3⟩; have hS3 : Start W3 := hS2d.below hb3; have f41 : W3.cell? ⟨w.heap.size, 41, none⟩ = some (.string ⟨s.msg.toArray⟩) := (hb3.cell (p := ⟨w.heap.size, 41, none⟩) hn2).trans e41d)
      | (go_at_call 58; refine (msg_calls hs.2 hS3).mono ?_; rintro e W4 ⟨rfl, hb4⟩; have hS4 : Start W4 := hS3.below hb4)
      | (go_at_call 55; refine (least_calls (g := W4.heap.size) (hS4.below ((Below.refl _ W4).alloc (Nat.le_refl _) _)) (by show _ < (W4.heap.push _).size; rw [Array.size_push]; omega) (by rw [Lib.cell_of_heap (heap_alloc_new W4 _)]; rfl) (by rw [Lib.cell_of_heap (heap_alloc_new W4 _)]; rfl) (by rw [Lib.cell_of_heap (heap_alloc_new W4 _)]; rfl) (by rw [Lib.cell_of_heap (heap_alloc_new W4 _)]; rfl)).mono ?_; rintro e W5 ⟨rfl, hb5⟩))
    all_goals go_wp2
    all_goals go_meet
    all_goals
      refine ⟨rfl, ?_⟩
      have x3 : Below W2.heap.size W2 W3 := ⟨hb3.os, hb3.tape, hb3.output, hb3.size, hb3.block⟩
      have x4 := x3.trans (below_weak hb4 x3.size)
      have x5 : ∀ o, Below W2.heap.size W2 (W4.alloc o) := fun o => x4.trans (below_weak ((Below.refl _ W4).alloc (Nat.le_refl _) o) x4.size)
      exact (x5 _).trans (below_weak hb5 (x5 _).size)
  case rest =>
    obtain ⟨rfl, hb5⟩ := hcut
    clear hE1 hwh hcm
    have k5 : ∀ {j v}, W2.cell? ⟨w.heap.size, j, none⟩ = some v → wc.cell? ⟨w.heap.size, j, none⟩ = some v := fun {j v} h => (hb5.cell (p := ⟨w.heap.size, j, none⟩) hn2).trans h
    have g32 := k5 e32
    have g41 := k5 e41
    have grow : ∀ (j : Nat) v, (Lib.byteCells s.tree)[j]? = some v → wc.cell? ⟨w.heap.size, j, none⟩ = some v := fun j v h => k5 (k2 (k1 (crow j v h)))
    have hnc : w.heap.size < wc.heap.size := Nat.lt_of_lt_of_le hn2 hb5.size
    by_cases he : cmtE s = 0
    · obtain ⟨hp16, hm16, hia, hic⟩ := cmtE_ok he
      have hwa : whoT s.aut = putI s.aut := if_pos hia
      have hwc : whoT s.com = putI s.com := if_pos hic
      have hla := putI_len hia
      have hlc := putI_len hic
      rw [hwa, hwc]
      go_upto_region 7 with fail
      have hbw : Lib.BuilderAtF 123 5 wc.heap.size wc.heap.size (.pointer none) [] (wc.alloc (Obj.cells #[Value.pointer none, Value.slice none 0 0] 123)) := by
        refine ⟨Nat.le_refl _, .slice none 0 0, ?_, World.ownsRowF_nil _ _ _ _, by simp [Value.ownBlock]⟩
        have := heap_alloc_new wc (Obj.cells #[Value.pointer none, Value.slice none 0 0] 123)
        simpa using this
      have hb6 : Below wc.heap.size wc (wc.alloc (Obj.cells #[Value.pointer none, Value.slice none 0 0] 123)) := (Below.refl _ wc).alloc (Nat.le_refl _) _
      generalize (wc.alloc (Obj.cells #[Value.pointer none, Value.slice none 0 0] 123)) = W6 at *
      have k6 : ∀ {j v}, wc.cell? ⟨w.heap.size, j, none⟩ = some v → W6.cell? ⟨w.heap.size, j, none⟩ = some v := fun {j v} h => (hb6.cell (p := ⟨w.heap.size, j, none⟩) hnc).trans h
      have hr6 : W6.rangeAt w.heap.size 0 (Lib.byteCells s.tree) := fun j v hj => by rw [Nat.zero_add]; exact k6 (grow j v hj)
      have hi35 : ∀ d : List UInt8, d.length = 32 → (Tryz.prog.info? 35).map (·.size) = some (Lib.byteCells d).length := fun d hd => by rw [Lib.byteCells_length, hd]; kernel_rfl
      obtain ⟨T1, hT1⟩ : ∃ T1 : ByteArray, T1 = ⟨(hexT s.tree).toArray⟩ := ⟨_, rfl⟩
      have z1 : T1.size = 64 := by rw [hT1]; show (hexT s.tree).toArray.size = 64; rw [List.size_toArray, hexT_len, s.ht]
      have hex1 : ∀ W, Calls Tryz.prog 59 #[.agg (Lib.byteCells s.tree).toArray] W fun e w' => e = .returned (.string T1) ∧ Below W.heap.size W w' := fun W => by rw [hT1]; exact hex_calls s.ht
      have t1 : T1.data.toList = hexT s.tree := by rw [hT1]
      clear hT1
      have g1 : ¬ 9223372036854775807 < 5 + T1.size := by omega
      have g2 : ¬ 9223372036854775807 < 5 + T1.size + 1 := by omega
      go_upto_region 8 with (first
        | (refine wpList_load_mid rfl 35 _ rfl w.heap.size 0 (by rfl) (Lib.byteCells s.tree) _ hr6 Tryz.underlying35 rfl (hi35 _ s.ht) ?_)
        | (go_at_call 59; refine (hex1 W6).mono ?_; rintro e W7 ⟨rfl, hb7⟩; have hI7 := bf_below (show Lib.IsBuilderF 123 5 wc.heap.size wc.heap.size [] W6 from .inl hbw) hb7)
        | (go_at_call 70; refine (bwString wc.heap.size wc.heap.size [] _ W7 hI7 (by rw [List.length_nil]; simp only [ByteArray.size_append, z1]; decide) (Nat.le_trans hb6.size hb7.size)).mono ?_; rintro e W8 ⟨rfl, hA8, hb8, _⟩))
      obtain ⟨TB, hTB⟩ : ∃ TB : List UInt8, TB = treW ++ [32] ++ hexT s.tree ++ [10] := ⟨_, rfl⟩
      have hI8 : Lib.IsBuilderF 123 5 wc.heap.size wc.heap.size (Lib.byteCells TB) W8 := by
        right
        have e : ([] : List Value) ++ Lib.strCells (⟨#[116, 114, 101, 101, 32]⟩ ++ T1 ++ ⟨#[10]⟩) = Lib.byteCells TB := by
          rw [List.nil_append, hTB, ← t1]
          simp [Lib.strCells, Lib.byteCells, ByteArray.data_append, treW]
        rw [← e]; exact hA8
      have hlTB : TB.length = 70 := by rw [hTB]; simp [treW, hexT_len, s.ht]
      have hbw8 : Below wc.heap.size wc W8 := (hb6.trans (below_weak hb7 hb6.size)).trans hb8
      have c8 : W8.cell? ⟨w.heap.size, 32, none⟩ = some (.slice p s.par.length cap) := (hbw8.cell (p := ⟨w.heap.size, 32, none⟩) hnc).trans g32
      clear hA8 hbw hI7 hr6 hex1 hb7 hb8
      have hww : Below w.heap.size w wc := ((hb0w.trans (below_weak hb1 hb0w.size)).trans (below_weak hb2 (Nat.le_trans hb0w.size hb1.size))).trans (below_weak hb5 (Nat.le_trans hb0w.size (Nat.le_trans hb1.size hb2.size)))
      go_wp2
      go_loopw [48] (fun i wr => ∃ k : Nat, i = .int .i64 k ∧ k ≤ s.par.length ∧ Lib.IsBuilderF 123 5 wc.heap.size wc.heap.size (Lib.byteCells (TB ++ parB (s.par.take k))) wr ∧ Below wc.heap.size wc wr) (fun i _ => s.par.length - (intOf i).toNat)
      case atStart => exact ⟨0, rfl, Nat.zero_le _, by rw [List.take_zero, parB_nil, List.append_nil]; exact hI8, hbw8⟩
      case round =>
        obtain ⟨k, rfl, hk, hI, hbw⟩ := hrel
        by_cases hlt : k < s.par.length
        · obtain rfl := hp (by omega)
          have hb0 := hb0 (by omega)
          have hrange : wr.rangeAt b0 (o0 + k * 32) (Lib.byteCells (iat s.par k).b) := fun j v hj => (hbw.cell (p := ⟨b0, o0 + k * 32 + j, none⟩) (Nat.lt_of_lt_of_le hb0 hww.size)).trans ((hww.cell (p := ⟨b0, o0 + k * 32 + j, none⟩) hb0).trans (hrow k hlt j v hj))
          have hlen32 : (Lib.byteCells (iat s.par k).b).length = 32 := by rw [Lib.byteCells_length]; exact (iat s.par k).h
          go_upto_region 11 with (first | (refine wpList_load_mid rfl 35 _ rfl b0 (o0 + k * 32) (by first | rfl | simp [Addr.add_mid]) (Lib.byteCells (iat s.par k).b) _ hrange Tryz.underlying35 rfl (hi35 _ (iat s.par k).h) ?_) | (refine wpList_store_mid rfl 35 _ _ rfl wr.heap.size 0 (Lib.byteCells (iat s.par k).b).toArray (by rfl) (by rfl) ?_ ?_ (vals_onel _) ?_))
          · intro j hj
            first | rw [List.size_toArray, hlen32] at hj | rw [hlen32] at hj | skip
            refine ⟨?_, ?_⟩
            · simp only [World.cell?, heap_alloc_new]
              rw [if_neg (by simp), Nat.zero_add, Array.getElem?_eq_getElem (by simpa using hj)]; rfl
            · simp only [World.frozen?, heap_alloc_new]
              simp
          · first
              | (rw [List.size_toArray]; exact hi35 _ (iat s.par k).h)
              | (have h0 := hi35 _ (iat s.par k).h; rw [hlen32] at h0; simpa using h0)
          · refine with_var (p := Code.wp _ _ _ _) (T := 35) (vals := Lib.byteCells (iat s.par k).b) (by rw [hlen32]; rfl) ?_
            intro W3 hva
            have hI3 := bf_below hI hva.below
            have hr3 : W3.rangeAt wr.heap.size 0 (Lib.byteCells (iat s.par k).b) := fun j v hj => by rw [Nat.zero_add]; exact hva.cell j v hj
            obtain ⟨T2, hT2⟩ : ∃ T2 : ByteArray, T2 = ⟨(hexT (iat s.par k).b).toArray⟩ := ⟨_, rfl⟩
            have z2 : T2.size = 64 := by rw [hT2]; show (hexT (iat s.par k).b).toArray.size = 64; rw [List.size_toArray, hexT_len, (iat s.par k).h]
            have hex2 : ∀ W, Calls Tryz.prog 59 #[.agg (Lib.byteCells (iat s.par k).b).toArray] W fun e w' => e = .returned (.string T2) ∧ Below W.heap.size W w' := fun W => by rw [hT2]; exact hex_calls (iat s.par k).h
            have t2 : T2.data.toList = hexT (iat s.par k).b := by rw [hT2]
            clear hT2
            have g3 : ¬ 9223372036854775807 < 7 + T2.size := by omega
            have g4 : ¬ 9223372036854775807 < 7 + T2.size + 1 := by omega
            have htl : (parB (s.par.take k)).length = 72 * k := by rw [parB_len, List.length_take]; omega
            go_wp2_with (first
              | (refine wpList_load_mid rfl 35 _ rfl wr.heap.size 0 (by rfl) (Lib.byteCells (iat s.par k).b) _ hr3 Tryz.underlying35 rfl (hi35 _ (iat s.par k).h) ?_)
              | (go_at_call 59; refine (hex2 W3).mono ?_; rintro e W7 ⟨rfl, hb7⟩; have hI7 := bf_below hI3 hb7)
              | (go_at_call 70; refine (bwString wc.heap.size wc.heap.size _ _ W7 hI7 (by rw [Lib.byteCells_length, List.length_append, hlTB, htl]; simp only [ByteArray.size_append, z2]; have e7 : (⟨#[112, 97, 114, 101, 110, 116, 32]⟩ : ByteArray).size = 7 := rfl; have e1 : (⟨#[10]⟩ : ByteArray).size = 1 := rfl; omega) (Nat.le_trans hbw.size (Nat.le_trans hva.below.size hb7.size))).mono ?_; rintro e W8 ⟨rfl, hA8, hb8, _⟩))
            go_roundw
            case measure => first | (simp only [intOf]; omega) | (rw [wrap64_succ (by omega)]; simp only [intOf]; omega)
            refine ⟨k + 1, by first | rfl | (rw [wrap64_succ (by omega)]), by omega, .inr ?_, ((hbw.trans (below_weak hva.below hbw.size)).trans (below_weak hb7 (Nat.le_trans hbw.size hva.below.size))).trans hb8⟩
            have e : Lib.byteCells (TB ++ parB (s.par.take k)) ++ Lib.strCells (⟨#[112, 97, 114, 101, 110, 116, 32]⟩ ++ T2 ++ ⟨#[10]⟩) = Lib.byteCells (TB ++ parB (s.par.take (k + 1))) := by
              have hts : s.par.take (k + 1) = s.par.take k ++ [iat s.par k] := by rw [List.take_succ_eq_append_getElem hlt]; simp [iat, List.getD, hlt]
              rw [hts, parB_snoc, ← t2]
              simp [Lib.strCells, Lib.byteCells, ByteArray.data_append, parW]
            rw [← e]; exact hA8
        · obtain rfl : k = s.par.length := by omega
          rw [List.take_length] at hI
          have r41 : wr.cell? ⟨w.heap.size, 41, none⟩ = some (.string ⟨s.msg.toArray⟩) := (hbw.cell (p := ⟨w.heap.size, 41, none⟩) hnc).trans g41
          have htl := parB_len s.par
          have q1 : ¬ 9223372036854775807 < 7 + (putI s.aut).length := by omega
          have q2 : ¬ 9223372036854775807 < 7 + (putI s.aut).length + 11 := by omega
          have q3 : ¬ 9223372036854775807 < 7 + (putI s.aut).length + 11 + (putI s.com).length := by omega
          have q4 : ¬ 9223372036854775807 < 7 + (putI s.aut).length + 11 + (putI s.com).length + 2 := by omega
          have q5 : ¬ 9223372036854775807 < 7 + (putI s.aut).length + 11 + (putI s.com).length + 2 + s.msg.length := by omega
          have za : (⟨(putI s.aut).toArray⟩ : ByteArray).size = (putI s.aut).length := by simp [ByteArray.size]
          have zc : (⟨(putI s.com).toArray⟩ : ByteArray).size = (putI s.com).length := by simp [ByteArray.size]
          have zm : (⟨s.msg.toArray⟩ : ByteArray).size = s.msg.length := by simp [ByteArray.size]
          have y7 : (⟨#[97, 117, 116, 104, 111, 114, 32]⟩ : ByteArray).size = 7 := rfl
          have y11 : (⟨#[10, 99, 111, 109, 109, 105, 116, 116, 101, 114, 32]⟩ : ByteArray).size = 11 := rfl
          have y2 : (⟨#[10, 10]⟩ : ByteArray).size = 2 := rfl
          go_upto_region 14 with (go_at_call 70; refine (bwString wc.heap.size wc.heap.size _ _ wr hI (by rw [Lib.byteCells_length, List.length_append, hlTB, htl]; simp only [ByteArray.size_append, za, zc, zm, y7, y11, y2]; omega) hbw.size).mono ?_; rintro e W8 ⟨rfl, hA8, hb8, _⟩)
          have hI9 : Lib.IsBuilderF 123 5 wc.heap.size wc.heap.size (Lib.byteCells (cmtB s)) W8 := by
            right
            have e : Lib.byteCells (TB ++ parB s.par) ++ Lib.strCells (⟨#[97, 117, 116, 104, 111, 114, 32]⟩ ++ ⟨(putI s.aut).toArray⟩ ++ ⟨#[10, 99, 111, 109, 109, 105, 116, 116, 101, 114, 32]⟩ ++ ⟨(putI s.com).toArray⟩ ++ ⟨#[10, 10]⟩ ++ ⟨s.msg.toArray⟩) = Lib.byteCells (cmtB s) := by
              unfold cmtB
              rw [← hTB]
              simp [Lib.strCells, Lib.byteCells, ByteArray.data_append, autW, comW]
            rw [← e]; exact hA8
          clear hA8
          go_wp2_with (go_at_call 71; refine (Tryz.Builder_String_any_k _ _ _ _ hI9 (Nat.le_trans hbw.size hb8.size)).mono ?_; rintro e W9 ⟨rfl, _, hb9, _⟩)
          obtain ⟨hnew, hbc⟩ := conv_row (w := W9) (B := w.heap.size) (Nat.le_trans hww.size (Nat.le_trans hbw.size (Nat.le_trans hb8.size hb9.size))) 5 (cmtB s)
          rw [Lib.run_convert_string_bytes W9 9 23 5 _ Tryz.underlying9 Tryz.underlying23 Tryz.underlying5]
          have hz : (⟨(cmtB s).toArray⟩ : ByteArray).size = (cmtB s).length := by simp [ByteArray.size]
          generalize Lib.bytesWorld W9 5 ⟨(cmtB s).toArray⟩ = WA at *
          generalize grownCap W9 (⟨(cmtB s).toArray⟩ : ByteArray).size 0 5 = CA at *
          simp only [Result.andThen]
          go_wp2
          go_ret2
          refine ⟨((((hww.trans (below_weak hbw hww.size)).trans (below_weak hb8 hww.size)).trans (below_weak hb9 hww.size))).trans (below_weak hbc (Nat.le_trans hww.size (Nat.le_trans hbw.size (Nat.le_trans hb8.size hb9.size)))), .inr ⟨he, _, rfl, ?_⟩⟩
          exact hnew
    · go_wp2
      go_ret2
      exact ⟨((hb0w.trans (below_weak hb1 hb0w.size)).trans (below_weak hb2 (Nat.le_trans hb0w.size hb1.size))).trans (below_weak hb5 (Nat.le_trans hb0w.size (Nat.le_trans hb1.size hb2.size))), .inl ⟨he, rfl⟩⟩
end Cod
namespace Cod
open Go Go.RowKit Go.Proofs
set_option maxRecDepth 100000
theorem vrl_ofb {c : Ctx} : ∀ {l : List UInt8} {vs : List Value}, VRL c (ofBytes l) vs → vs = Lib.byteCells l := by
  intro l
  induction l with
  | nil => intro vs h; simpa [ofBytes, VRL, Lib.byteCells] using h
  | cons b l ih =>
    intro vs h
    rw [ofBytes_cons, VRL] at h
    obtain ⟨v, r, rfl, hv, hr⟩ := h
    rw [ih hr]
    simp only [VR] at hv
    rw [hv]; rfl
def kHex : List AV → Option AV
  | [.agg cs] => if isBytes cs = true ∧ cs.length = 32 then (bytesOf cs).map fun l => .str (hexT l) else none
  | _ => none
theorem ok_hex {E : Env} : PureOK2 Tryz.prog E F.sha_Hex kHex := by
  intro args v vs La w hg hv hr
  unfold kHex at hg
  split at hg
  · rename_i cs
    split at hg
    · rename_i hn
      obtain ⟨l, rfl⟩ := isBytes_some hn.1
      rw [bytesOf_ofBytes] at hg
      cases hg
      simp only [VRL] at hv
      obtain ⟨x, r, rfl, hx, rfl⟩ := hv
      simp only [VR] at hx
      obtain ⟨ws, rfl, hw⟩ := hx
      have hl : l.length = 32 := by have := hn.2; rwa [ofBytes_length] at this
      have hws : ws = (Lib.byteCells l).toArray := by
        have := vrl_ofb hw
        rw [← this]
      subst hws
      refine fn_of_calls Tryz.func59 (by rfl) (by kernel_rfl) ((hex_calls hl).mono fun e w' ⟨he, hb⟩ => ?_)
      exact ⟨_, he, fun c => by simp [VR], hb⟩
    · cases hg
  · cases hg
end Cod
namespace Cod
open Go Go.RowKit Go.Proofs Go.Shelf
set_option maxRecDepth 100000
theorem ids_inj : ∀ {a b : List Id32}, ids a = ids b → a = b := by
  intro a
  induction a with
  | nil =>
    intro b h
    have := congrArg List.length h
    rw [ids_length, ids_length] at this
    cases b with
    | nil => rfl
    | cons => simp at this
  | cons x a ih =>
    intro b h
    cases b with
    | nil => have := congrArg List.length h; rw [ids_length, ids_length] at this; simp at this
    | cons y b =>
      have h' : x.cells ++ ids a = y.cells ++ ids b := h
      obtain ⟨h1, h2⟩ := List.append_inj h' (by rw [idc_len, idc_len])
      have h3 : x = y := by
        have := bytes_inj h1
        cases x; cases y
        simp only at this
        subst this
        rfl
      rw [h3, ih h2]
theorem pv_inj {v : AV} {a b : List Id32} (h : PV v a) (h' : PV v b) : a = b := by
  rcases h with rfl | ⟨rfl, rfl⟩
  · rcases h' with h' | ⟨_, h'⟩
    · injection h' with h1 h2
      exact ids_inj h1
    · cases h'
  · rcases h' with h' | ⟨rfl, _⟩
    · cases h'
    · rfl
theorem snap_inj {s s' : Snap} {v v' : AV} (hv : PV v s.par) (hv' : PV v' s'.par) (h : snR s.tree v s.aut s.com s.msg = snR s'.tree v' s'.aut s'.com s'.msg) : s = s' := by
  unfold snR at h
  obtain ⟨h1, h2⟩ := List.append_inj h (by rw [ofBytes_length, ofBytes_length, s.ht, s'.ht])
  have h0 := bytes_inj h1
  simp only [List.cons.injEq, AV.str.injEq, AV.int.injEq, true_and, and_true] at h2
  obtain ⟨rfl, h3, h4, h5, h6, h7, h8, h9, h10, h11⟩ := h2
  have hp := pv_inj hv hv'
  obtain ⟨t, ps, ⟨a1, a2, a3, a4⟩, ⟨c1, c2, c3, c4⟩, m, ht⟩ := s
  obtain ⟨t', ps', ⟨a1', a2', a3', a4'⟩, ⟨c1', c2', c3', c4'⟩, m', ht'⟩ := s'
  simp only at *
  subst h0 hp h3 h4 h5 h6 h7 h8 h9 h10 h11
  rfl
open Classical in
noncomputable def kPutC (args : List AV) (σ : Store) : Option (AV × Store) :=
  if h : ∃ s : Snap, (∃ v, PV v s.par ∧ args = [.agg (snR s.tree v s.aut s.com s.msg)]) ∧ σ = [] ∧ SnapOK s then some (cmtV (choose h)) else none
theorem kPutC_eq {s : Snap} {v : AV} (hv : PV v s.par) (hs : SnapOK s) : kPutC [.agg (snR s.tree v s.aut s.com s.msg)] [] = some (cmtV s) := by
  have hx : ∃ s' : Snap, (∃ v', PV v' s'.par ∧ [AV.agg (snR s.tree v s.aut s.com s.msg)] = [.agg (snR s'.tree v' s'.aut s'.com s'.msg)]) ∧ ([] : Store) = [] ∧ SnapOK s' := ⟨s, ⟨v, hv, rfl⟩, rfl, hs⟩
  unfold kPutC
  rw [dif_pos hx]
  have key : ∀ s' : Snap, (∃ v', PV v' s'.par ∧ [AV.agg (snR s.tree v s.aut s.com s.msg)] = [.agg (snR s'.tree v' s'.aut s'.com s'.msg)]) → s' = s := by
    rintro s' ⟨v', h1, h2⟩
    injection h2 with h3 _
    injection h3 with h4
    exact (snap_inj hv h1 h4).symm
  rw [key _ (Classical.choose_spec hx).1]
theorem vrl_split {c : Ctx} : ∀ {xs ys : List AV} {vs : List Value}, VRL c (xs ++ ys) vs → ∃ a b, vs = a ++ b ∧ VRL c xs a ∧ VRL c ys b := by
  intro xs
  induction xs with
  | nil => intro ys vs h; exact ⟨[], vs, rfl, rfl, h⟩
  | cons x xs ih =>
    intro ys vs h
    rw [List.cons_append, VRL] at h
    obtain ⟨v, r, rfl, h1, h2⟩ := h
    obtain ⟨a, b, rfl, h3, h4⟩ := ih h2
    exact ⟨v :: a, b, rfl, by rw [VRL]; exact ⟨v, a, rfl, h1, h3⟩, h4⟩
theorem rel_new2 {E : Env} {w w' : World} {La : Lay} (h : Rel E w (ownS [] La) [] La [] La w) (hb : Below w.heap.size w w') {v' : Value} {n : Nat} {xs : List Int} (hn : xs.length = n) (ho : NewRow w' w.heap.size v' n (xs.map (Value.int .u8))) :
    ∃ La', Rel E w (ownS [] La) [] La [(.r 0, ⟨0, true, true, false, xs.map (AV.int .u8 ·)⟩)] La' w' ∧ VR (ctx [(.r 0, ⟨0, true, true, false, xs.map (AV.int .u8 ·)⟩)] La' w') (.buf (.r 0) 0 0 n 1) v' := by
  obtain ⟨g, cap, cur, el, fr, rfl, hg, hcell, hfr, hcap, hsz, htake⟩ := ho
  refine ⟨_, rel_entry h hb (pos := some (g, 0)) (fun g' o hh => by cases hh; exact hg) ?_, ?_⟩
  · simp only [EntOK, ctx, if_true]
    refine .inl ⟨⟨cur, el, fr, hcell, by simp only [List.length_map]; omega, hfr⟩, vrc_ints fun i hi => ?_⟩
    show w'.cell? ⟨g, i, none⟩ = _
    have h1 : (cur.toList.take n)[i]? = some (Value.int .u8 (xs.getD i 0)) := by rw [htake]; simp [List.getD, hi]
    rw [List.getElem?_take_of_lt (by omega)] at h1
    simp only [World.cell?, hcell]
    simpa using h1
  · simp only [VR]
    refine ⟨rfl, 0, true, rfl, Nat.le_refl _, fun _ _ => ?_⟩
    simp only [BufAt, ctx, if_true]
    exact .inr ⟨cap, rfl, hcap, cur, el, fr, hcell, by omega⟩
theorem ok_putC {E : Env} (hE : E.glob = globOf) : RowOK Tryz.prog E F.object_PutCommit kPutC := by
  intro args σa v σr hk La w vs hr hv hup
  unfold kPutC at hk
  split at hk
  · rename_i hx
    obtain ⟨⟨pv, q0, q1⟩, q2, q3⟩ := Classical.choose_spec hx
    generalize Classical.choose hx = s at *
    subst q1 q2
    simp only [Option.some.injEq] at hk
    simp only [VRL] at hv
    obtain ⟨x, r, rfl, hx, rfl⟩ := hv
    simp only [VR] at hx
    obtain ⟨ws, rfl, hw⟩ := hx
    have hS := start_of hE hr
    unfold snR at hw
    obtain ⟨a, b, hab, h1, h2⟩ := vrl_split hw
    have ha := vrl_ofb h1
    simp only [VRL, VR] at h2
    obtain ⟨x0, r0, rfl, hx0, _, _, rfl, rfl, _, _, rfl, rfl, _, _, rfl, rfl, _, _, rfl, rfl, _, _, rfl, rfl, _, _, rfl, rfl, _, _, rfl, rfl, _, _, rfl, rfl, _, _, rfl, rfl, rfl⟩ := h2
    have hcase : ∃ p b0 o0 cap, x0 = .slice p s.par.length cap ∧ (0 < s.par.length → p = some ⟨b0, o0, none⟩) ∧ (0 < s.par.length → b0 < w.heap.size) ∧ ∀ k, k < s.par.length → w.rangeAt b0 (o0 + k * 32) (Lib.byteCells (iat s.par k).b) := by
      rcases q0 with rfl | ⟨h0, rfl⟩
      · simp only [VR] at hx0
        obtain ⟨_, h2⟩ := hx0
        rcases h2 with ⟨h3, h4, h5⟩ | ⟨b, o, cap, h3, _, h4, _, h5⟩
        · exact ⟨none, 0, 0, 0, by rw [h5, h4], fun h => by omega, fun h => by omega, fun k hk => by omega⟩
        · refine ⟨_, b, o, cap, h3, fun _ => rfl, fun _ => h4, fun k hk => ?_⟩
          have := VRC_sub h5 (k * 32) 32
          rw [sub_ids hk] at this
          obtain ⟨vs, g1, g2⟩ := VRC_list this
          rw [vrl_ofb g1] at g2
          exact g2
      · simp only [VR] at hx0
        exact ⟨none, 0, 0, 0, by rw [hx0, h0]; rfl, fun h => by rw [h0] at h; simp at h, fun h => by rw [h0] at h; simp at h, fun k hk => by rw [h0] at hk; simp at hk⟩
    obtain ⟨p, b0, o0, cap, rfl, hp, hb0, hrow⟩ := hcase
    have hws : ws = (valsS s (.slice p s.par.length cap)).toArray := by
      apply Array.ext'
      rw [hab, ha]
      rfl
    subst hws
    refine fn_of_calls Tryz.func22 (by rfl) (by kernel_rfl) ((put_commit q3 hS hp hrow hb0).mono fun e w' ⟨hb, hw⟩ => ?_)
    unfold cmtV at hk
    rcases hw with ⟨he, rfl⟩ | ⟨he, v', rfl, hown⟩
    · rw [if_neg he] at hk
      cases hk
      exact ⟨_, rfl, La, rel_below hr hb, by simp [VR, VRL]⟩
    · rw [if_pos he] at hk
      cases hk
      have e1 : ((cmtB s).map fun b => Value.int .u8 b.toNat) = ((cmtB s).map fun b => ((b.toNat : Nat) : Int)).map (Value.int .u8) := by rw [List.map_map]; rfl
      rw [e1] at hown
      obtain ⟨La', h1, h2⟩ := rel_new2 hr hb (by rw [List.length_map]) hown
      have e2 : ((cmtB s).map fun b => ((b.toNat : Nat) : Int)).map (AV.int .u8 ·) = ofBytes (cmtB s) := by unfold ofBytes; rw [List.map_map]; rfl
      rw [e2] at h1 h2
      refine ⟨_, rfl, La', h1, ?_⟩
      simp only [VR, VRL]
      exact ⟨_, rfl, _, _, rfl, h2, _, _, rfl, rfl, rfl⟩
  · cases hk
end Cod
namespace Cod
open Go Go.RowKit Go.Proofs Go.Shelf
set_option maxRecDepth 100000
def treeV (l : List Ety) : AV × Store := if entE l = 0 then (.tup [.buf (.r 0) 0 0 (treeB l).length 1, .int .i64 0], [(.r 0, ⟨0, true, true, false, ofBytes (treeB l)⟩)]) else (.tup [.nils, .int .i64 (entE l)], [])
open Classical in
noncomputable def kPutT (args : List AV) (σ : Store) : Option (AV × Store) :=
  if h : ∃ l, args = [.lst (etys l) l.length] ∧ σ = [] ∧ TreeOK l then some (treeV (choose h)) else none
theorem ety_inj {a b : Ety} (h : a.cells = b.cells) : a = b := by
  unfold Ety.cells at h
  simp only [List.cons.injEq, AV.int.injEq, AV.str.injEq, true_and] at h
  obtain ⟨h1, h2, h30⟩ := h
  have h3 := bytes_inj h30
  clear h30
  cases a; cases b
  simp only at h1 h2 h3
  subst h1 h2 h3
  rfl
theorem etys_inj : ∀ {a b : List Ety}, etys a = etys b → a = b := by
  intro a
  induction a with
  | nil =>
    intro b h
    have := congrArg List.length h
    rw [etys_length, etys_length] at this
    cases b with
    | nil => rfl
    | cons => simp at this
  | cons x a ih =>
    intro b h
    cases b with
    | nil => have := congrArg List.length h; rw [etys_length, etys_length] at this; simp at this
    | cons y b =>
      have h' : x.cells ++ etys a = y.cells ++ etys b := h
      obtain ⟨h1, h2⟩ := List.append_inj h' (by rw [ety_len, ety_len])
      rw [ety_inj h1, ih h2]
theorem kPutT_eq {l : List Ety} (h : TreeOK l) : kPutT [.lst (etys l) l.length] [] = some (treeV l) := by
  have hx : ∃ l', [AV.lst (etys l) l.length] = [.lst (etys l') l'.length] ∧ ([] : Store) = [] ∧ TreeOK l' := ⟨l, rfl, rfl, h⟩
  unfold kPutT
  rw [dif_pos hx]
  have key : ∀ l', [AV.lst (etys l) l.length] = [.lst (etys l') l'.length] → l' = l := by
    intro l' hc
    injection hc with hc1 _
    injection hc1 with h1 h2
    exact (etys_inj h1).symm
  rw [key _ (Classical.choose_spec hx).1]
theorem lst_start {c' : Lay} {w : World} {cs : List AV} {n : Nat} {v : Value} (h : VR (ctx [] c' w) (.lst cs n) v) : VR (ctx [] LaE w) (.lst cs n) v := by
  refine VR_le ?_ _ _ h
  refine ⟨fun s g0 al h => by simp [ctx, tabS, getS] at h, fun b _ h => ?_, fun b _ _ => rfl, fun _ _ h => h, Nat.le_refl _⟩
  rcases h with ⟨s, e, o, he, _⟩ | h
  · simp [getS] at he
  · exact h.elim
theorem ok_putT {E : Env} (hE : E.glob = globOf) : RowOK Tryz.prog E F.object_PutTree kPutT := by
  intro args σa v σr hk La w vs hr hv hup
  unfold kPutT at hk
  split at hk
  · rename_i hx
    obtain ⟨q1, q2, q3⟩ := Classical.choose_spec hx
    generalize Classical.choose hx = l at *
    subst q1 q2
    simp only [Option.some.injEq] at hk
    simp only [VRL] at hv
    obtain ⟨x, r, rfl, hx, rfl⟩ := hv
    have hS := start_of hE hr
    have hx' := lst_start hx
    have hcase : ∃ p b0 o0 cap, x = .slice p l.length cap ∧ (0 < l.length → p = some ⟨b0, o0, none⟩) ∧ (0 < l.length → b0 < w.heap.size) ∧ ∀ k, k < l.length → w.rangeAt b0 (o0 + k * 34) (valsE (eat l k)) := by
      have h2 := hx'
      simp only [VR] at h2
      obtain ⟨_, h2⟩ := h2
      rcases h2 with ⟨h3, h4, h5⟩ | ⟨b, o, cap, h3, _, h4, _, h5⟩
      · exact ⟨none, 0, 0, 0, by rw [h5, h4], fun h => by omega, fun h => by omega, fun k hk => by omega⟩
      · refine ⟨_, b, o, cap, h3, fun _ => rfl, fun _ => h4, fun k hk => ?_⟩
        have := VRC_sub h5 (k * 34) 34
        rw [sub_etys hk] at this
        exact ety_range this
    obtain ⟨p, b0, o0, cap, rfl, hp, hb0, hrow⟩ := hcase
    refine fn_of_calls Tryz.func11 (by rfl) (by kernel_rfl) ((put_tree q3 hS hx' hp hrow hb0).mono fun e w' ⟨hb, hw⟩ => ?_)
    unfold treeV at hk
    rcases hw with ⟨he, rfl⟩ | ⟨he, v', rfl, hown⟩
    · rw [if_neg he] at hk
      cases hk
      exact ⟨_, rfl, La, rel_below hr hb, by simp [VR, VRL]⟩
    · rw [if_pos he] at hk
      cases hk
      have e1 : ((treeB l).map fun b => Value.int .u8 b.toNat) = ((treeB l).map fun b => ((b.toNat : Nat) : Int)).map (Value.int .u8) := by rw [List.map_map]; rfl
      rw [e1] at hown
      obtain ⟨La', h1, h2⟩ := rel_new hr hb hown
      have e2 : ((treeB l).map fun b => ((b.toNat : Nat) : Int)).map (AV.int .u8 ·) = ofBytes (treeB l) := by unfold ofBytes; rw [List.map_map]; rfl
      rw [e2] at h1 h2
      refine ⟨_, rfl, La', h1, ?_⟩
      simp only [VR, VRL]
      exact ⟨_, rfl, _, _, rfl, h2, _, _, rfl, rfl, rfl⟩
  · cases hk
theorem ext_cons {E : Env} {fn : Nat → Option LFn} {tab : List (Nat × (List AV → Store → Option (AV × Store)))} {glob : Nat → List AV} {f : Nat} {h : List AV → Store → Option (AV × Store)} (hx : Ext E ⟨fn, fun g => tab.lookup g, glob⟩) (h1 : E.known f = none) (h2 : E.fn f = none) : Ext E ⟨fn, fun g => ((f, h) :: tab).lookup g, glob⟩ where
  glob := hx.glob
  fn := hx.fn
  known g h' hk := by
    show ((f, h) :: tab).lookup g = some h'
    rw [List.lookup_cons]
    cases hb : g == f with
    | false => exact hx.known g h' hk
    | true =>
      rw [beq_iff_eq] at hb
      rw [hb, h1] at hk
      cases hk
  none g hk := by
    by_cases hb : g = f
    · right; rw [hb]; exact h2
    · rcases hx.none g hk with hn | hn
      · left
        show ((f, h) :: tab).lookup g = none
        rw [List.lookup_cons, beq_eq_false_iff_ne.2 hb]
        exact hn
      · exact .inr hn
noncomputable def knownTabT : List (Nat × (List AV → Store → Option (AV × Store))) := (F.object_PutCommit, kPutC) :: (F.sha_Hex, pureK kHex) :: (F.object_PutTree, kPutT) :: knownTab
noncomputable def EE : Env := ⟨fnOf, fun f => knownTabT.lookup f, globOf⟩
theorem fnsT_ok : FnsOK Tryz.prog EE := fnsOK_of (by kernel_rfl) all_ok (fun _ => rfl)
theorem knownT_ok : KnownOK Tryz.prog EE := by
  intro f h hf
  have hm := lookup_memK (show knownTabT.lookup f = some h from hf)
  unfold knownTabT at hm
  rcases List.mem_cons.1 hm with hm | hm
  · cases hm; exact ok_putC rfl
  rcases List.mem_cons.1 hm with hm | hm
  · cases hm; exact row_pure2 ok_hex
  rcases List.mem_cons.1 hm with hm | hm
  · cases hm; exact ok_putT rfl
  · exact tabG_ok (E := EE) rfl (f, h) hm
theorem ext_base : Ext E ⟨fnOf, fun g => knownTab.lookup g, globOf⟩ := ⟨rfl, rfl, fun _ _ hk => hk, fun _ hk => .inl hk⟩
theorem extE : Ext E EE := ext_cons (ext_cons (ext_cons ext_base rfl rfl) rfl rfl) rfl rfl
theorem envP : EnvP EE := ⟨extE, fun {id} h => by
  rw [S_eq, show EE.known F.sha_Hex = some (pureK kHex) from rfl]
  show pureK kHex [.agg (ofBytes id)] [] = _
  simp only [pureK, kHex, List.isEmpty_nil, if_true, isBytes_of, ofBytes_length, h, and_self, bytesOf_ofBytes, Option.map_some]⟩
theorem envC : EnvC EE where
  toEnvP := envP
  put {s v} hv hs := by
    rw [S_eq, show EE.known F.object_PutCommit = some kPutC from rfl]
    exact kPutC_eq hv hs
theorem S_ofT {f : Nat} {l : LFn} (hf : fnOf f = some l) (hk : EE.known f = none) {args : List AV} {σ : Store} (hn : args.length = l.np) : S EE f args σ = X EE l.results [.c l.code] ⟨params 0 args, σ⟩ := S_fn hk hf hn
theorem S_putT {l : List Ety} (h : TreeOK l) : S EE F.object_PutTree [.lst (etys l) l.length] [] = some (treeV l) := by
  rw [S_eq, show EE.known F.object_PutTree = some kPutT from rfl]
  exact kPutT_eq h
end Cod
namespace Cod
open Go
def wE : Ety := ⟨33188, [97], List.replicate 32 0, by simp⟩
theorem wE_tree : treeB [wE] = [49, 48, 48, 54, 52, 52, 32, 97, 0] ++ List.replicate 32 0 := by decide +kernel
theorem wE_ent : entE [wE] = 0 := by decide +kernel
theorem wE_ok : TreeOK [wE] := by
  refine ⟨fun i => ?_, fun i => ?_, by decide⟩
  · cases i with
    | zero => decide
    | succ i => show (default : Ety).name.length ≤ _; decide
  · cases i with
    | zero => decide
    | succ i => show _ ≤ (default : Ety).mode ∧ (default : Ety).mode ≤ _; decide
theorem go_putW : S EE F.object_PutTree [.lst (.int .i64 33188 :: .str [97] :: ofBytes (List.replicate 32 0)) 1] [] = some (.tup [.buf (.r 0) 0 0 41 1, .int .i64 0], [(.r 0, ⟨0, true, true, false, ofBytes (treeB [wE])⟩)]) := by
  have h := S_putT wE_ok
  have e : treeV [wE] = (.tup [.buf (.r 0) 0 0 41 1, .int .i64 0], [(.r 0, ⟨0, true, true, false, ofBytes (treeB [wE])⟩)]) := by
    unfold treeV; rw [if_pos wE_ent, wE_tree]; rfl
  rw [e] at h
  exact h
theorem hdr_w : hdrT 3 3 = [98, 108, 111, 98, 32, 51, 0] := by
  unfold hdrT
  rw [show (3 : Int) = ((3 : Nat) : Int) from rfl, Lib.itoa_nonneg, Lib.decDigits_one (by omega)]; rfl
theorem obj_w : objE 3 3 = 0 := by decide +kernel
theorem go_idW : S EE F.object_Id [.agg [.int .i64 3, .lst (ofBytes [97, 98, 99]) 3]] [] = some (.tup [.agg (ofBytes (shaF [98, 108, 111, 98, 32, 51, 0, 97, 98, 99])), .int .i64 0], []) := by
  have h := S_ext extE (go_oid (k := 3) (p := [97, 98, 99]) (n := 3) rfl (by simp))
  unfold idV idF at h
  simp only [List.length_cons, List.length_nil, Nat.zero_add, Nat.reduceAdd] at h
  rw [obj_w, if_pos rfl] at h
  rw [show (((3 : Nat)) : Int) = 3 from rfl, hdr_w] at h
  exact h
theorem go_awake : S EE F.law07_awake [] [] = some (.bool true, []) := by
  have h1 : S EE F.object_Id [.agg [.int .i64 3, .lst [.int .u8 97, .int .u8 98, .int .u8 99] 3]] [] = some (.tup [.agg (ofBytes (shaF [98, 108, 111, 98, 32, 51, 0, 97, 98, 99])), .int .i64 0], []) := go_idW
  have h2 := go_putW
  have h3 : S EE F.sha_Sum [.lst [.int .u8 98, .int .u8 108, .int .u8 111, .int .u8 98, .int .u8 32, .int .u8 51, .int .u8 0, .int .u8 97, .int .u8 98, .int .u8 99] 10] [] = some (.agg (ofBytes (shaF [98, 108, 111, 98, 32, 51, 0, 97, 98, 99])), []) := S_ext extE (go_sum (p := [98, 108, 111, 98, 32, 51, 0, 97, 98, 99]) (by simp))
  have hs : (shaF [98, 108, 111, 98, 32, 51, 0, 97, 98, 99]).length = 32 := by unfold shaF; simp [idOf]
  generalize shaF [98, 108, 111, 98, 32, 51, 0, 97, 98, 99] = d at *
  have ht : (treeB [wE]).length = 41 := by rw [wE_tree]; rfl
  have h9 : sub (treeB [wE]) 0 9 = [49, 48, 48, 54, 52, 52, 32, 97, 0] := by rw [wE_tree]; rfl
  have h9' : (treeB [wE]).take 9 = [49, 48, 48, 54, 52, 52, 32, 97, 0] := by rw [wE_tree]; rfl
  generalize treeB [wE] = tr at *
  have s3 : sub [AV.int .u8 97, AV.int .u8 98, AV.int .u8 99] 0 3 = [.int .u8 97, .int .u8 98, .int .u8 99] := rfl
  have s10 : sub [AV.int .u8 98, AV.int .u8 108, AV.int .u8 111, AV.int .u8 98, AV.int .u8 32, AV.int .u8 51, AV.int .u8 0, AV.int .u8 97, AV.int .u8 98, AV.int .u8 99] 0 10 = [.int .u8 98, .int .u8 108, .int .u8 111, .int .u8 98, .int .u8 32, .int .u8 51, .int .u8 0, .int .u8 97, .int .u8 98, .int .u8 99] := rfl
  have s34 : sub (AV.int .i64 33188 :: AV.str [97] :: ofBytes (List.replicate 32 0)) 0 34 = AV.int .i64 33188 :: AV.str [97] :: ofBytes (List.replicate 32 0) := rfl
  have o1 : over (default : Ety).cells 0 [AV.int .i64 33188] = AV.int .i64 33188 :: AV.str [] :: ofBytes (List.replicate 32 0) := rfl
  have o2 : over (AV.int .i64 33188 :: AV.str [] :: ofBytes (List.replicate 32 0)) 1 [AV.str [97]] = AV.int .i64 33188 :: AV.str [97] :: ofBytes (List.replicate 32 0) := rfl
  have l34 : (AV.int .i64 33188 :: AV.str [97] :: ofBytes (List.replicate 32 0)).length = 34 := rfl
  have o3 : over (default : Ety).cells 0 (AV.int .i64 33188 :: AV.str [97] :: ofBytes (List.replicate 32 0)) = AV.int .i64 33188 :: AV.str [97] :: ofBytes (List.replicate 32 0) := rfl
  have o4 : over (ofBytes (List.replicate 32 0)) 0 (ofBytes d) = ofBytes d := over_ofBytes_all (by rw [hs]; rfl)
  have q4 : eqCells [0, 0, 0, 0, 0, 0, 0, 0, 0, 0, 0, 0, 0, 0, 0, 0, 0, 0, 0, 0, 0, 0, 0, 0, 0, 0, 0, 0, 0, 0, 0, 0] (ofBytes d) (ofBytes d) = some true := by rw [eqCells_32 hs hs]; simp
  rw [S_ofT fn_law07_awake rfl rfl]
  simp (dsimp := false) (disch := first | omega | (simp only [LENs, etys_length, ints64_length, treeB_length] <;> omega) | fail) only [L.law07_awake, go_sem, reduceIte, reduceCtorEq, qn0, qn1, qn2, qn3, qn4, qn5, qn6, qn7, qn8, qi0, qi1, qi2, qi3, qi4, qi5, qi6, qi7, qi8, qi9, qi10, BYs, h1, h2, h3, ht, h9, h9', List.isEmpty_cons, List.length_replicate, s3, s10, s34, o1, o2, o3, l34, o4, q4]
end Cod
namespace Cod
open Go
def idtTy : Ty := .cat .str (.cat .str (.cat (.int .i64) (.cat (.int .i64) .nil)))
def snapTy : Ty := .cat (.rep 32 (.int .u8)) (.cat (.sl (.rep 32 (.int .u8))) (.cat idtTy (.cat idtTy (.cat .str .nil))))
theorem wf_idt {x : List AV} (h : Wf idtTy x) : ∃ i : Idt, x = i.cells ∧ i.name.length ≤ abulks x ∧ i.email.length ≤ abulks x := by
  obtain ⟨a1, b1, rfl, ⟨p, rfl, hp⟩, a2, b2, rfl, ⟨q, rfl, hq⟩, a3, b3, rfl, ⟨t, rfl, ht⟩, a4, b4, rfl, ⟨z, rfl, hz⟩, rfl⟩ := h
  refine ⟨⟨p, q, t, z⟩, rfl, ?_, ?_⟩ <;> simp only [List.cons_append, List.nil_append, abulks, abulk] <;> omega
theorem wf_id {x : List AV} (h : Wf (.rep 32 (.int .u8)) x) : ∃ d : Id32, x = d.cells := by
  obtain ⟨r, rfl, hr, hw⟩ := h
  obtain ⟨l, h1, h2⟩ := wf_bytes hw
  exact ⟨⟨l, by rw [h2, hr]⟩, h1⟩
theorem wf_ids : ∀ {r : List (List AV)}, (∀ x ∈ r, Wf (.rep 32 (.int .u8)) x) → ∃ l : List Id32, r.flatten = ids l ∧ l.length = r.length := by
  intro r
  induction r with
  | nil => intro _; exact ⟨[], rfl, rfl⟩
  | cons x r ih =>
    intro h
    obtain ⟨l, h1, h2⟩ := ih fun y hy => h y (List.mem_cons_of_mem _ hy)
    obtain ⟨d, rfl⟩ := wf_id (h x (by simp))
    exact ⟨d :: l, by rw [List.flatten_cons, h1]; rfl, by simp [h2]⟩
theorem wf_snap {x : List AV} (h : Wf snapTy x) : ∃ s : Snap, x = s.cells ∧ s.par.length ≤ abulks x ∧ s.msg.length ≤ abulks x ∧ s.aut.name.length ≤ abulks x ∧ s.aut.email.length ≤ abulks x ∧ s.com.name.length ≤ abulks x ∧ s.com.email.length ≤ abulks x := by
  obtain ⟨a0, b0, rfl, ⟨r, rfl, hr, hw⟩, a1, b1, rfl, ⟨q, rfl, _, hq⟩, a2, b2, rfl, hi, a3, b3, rfl, hj, a4, b4, rfl, ⟨m, rfl, hm⟩, rfl⟩ := h
  obtain ⟨d, h1, h2⟩ := wf_bytes hw
  obtain ⟨l, h3, h4⟩ := wf_ids hq
  obtain ⟨i, rfl, i1, i2⟩ := wf_idt hi
  obtain ⟨j, rfl, j1, j2⟩ := wf_idt hj
  rw [h1, h3, ← h4]
  refine ⟨⟨d, l, i, j, m, by rw [h2, hr]⟩, ?_, ?_, ?_, ?_, ?_, ?_, ?_⟩
  · simp [Snap.cells, snR, Idt.cells]
  all_goals
    simp only [abulks_append, abulks, abulk]
    first
      | (show l.length ≤ _; omega)
      | (show m.length ≤ _; omega)
      | (show i.name.length ≤ _; omega)
      | (show i.email.length ≤ _; omega)
      | (show j.name.length ≤ _; omega)
      | (show j.email.length ≤ _; omega)
theorem run_ObjectCommits {xs : List AV} (h : ArgsOK [(true, snapTy), (false, .sl (.int .u8))] xs) (hb : abulks xs ≤ 1048576) : ∃ σr, S EE 5 xs [] = some (.bool true, σr) := by
  obtain ⟨a, b, rfl, ⟨y, rfl, hw⟩, c, d, rfl, ⟨r, hr, _, h2⟩, rfl⟩ := h
  simp only [List.cons.injEq, and_true] at hr
  subst hr
  obtain ⟨p, h3, h4⟩ := wf_bytes h2
  obtain ⟨s, rfl, l1, l2, l3, l4, l5, l6⟩ := wf_snap hw
  rw [h3, ← h4] at hb ⊢
  simp only [List.cons_append, List.nil_append, abulks, abulk] at hb
  exact ⟨[], go_objectCommits envC go_awake ⟨by omega, by omega⟩ (by omega) (by omega) (by omega) (by omega) (by omega)⟩
end Cod

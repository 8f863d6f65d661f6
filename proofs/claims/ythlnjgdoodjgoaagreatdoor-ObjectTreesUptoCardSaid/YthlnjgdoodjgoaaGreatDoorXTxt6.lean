/- Both ways of parsing a tree agree. -/
import Derived.Test.YthlnjgdoodjgoaaGreatDoorXTxt5
import Derived.Test.YthlnjgdoodjgoaaGreatDoorXTxt2
set_option linter.unusedSimpArgs false
set_option linter.unusedVariables false
namespace Cod
open Go

theorem nmI_no {l : List Ety} : ∀ (m i : Nat) (n : Bool), nmI l m i n = false → n = false ∧ ∀ j, i ≤ j → j < i + m → nameOK (eat l j).name = true := by
  intro m
  induction m with
  | zero => intro i n h; exact ⟨h, fun j h1 h2 => by omega⟩
  | succ m ih =>
    intro i n h
    rw [nmI] at h
    obtain ⟨h1, h2⟩ := ih (i + 1) _ h
    rw [Bool.or_eq_false_iff, Bool.not_eq_false'] at h1
    refine ⟨h1.1, fun j h3 h4 => ?_⟩
    by_cases hj : j = i
    · rw [hj]; exact h1.2
    · exact h2 j (by omega) (by omega)
theorem fmI_no {l : List Ety} : ∀ (m i : Nat) (f : Bool), fmI l m i f = false → f = false ∧ ∀ j, i ≤ j → j < i + m → modeOK (eat l j).mode = true := by
  intro m
  induction m with
  | zero => intro i n h; exact ⟨h, fun j h1 h2 => by omega⟩
  | succ m ih =>
    intro i n h
    rw [fmI] at h
    obtain ⟨h1, h2⟩ := ih (i + 1) _ h
    rw [Bool.or_eq_false_iff, Bool.or_eq_false_iff, Bool.not_eq_false'] at h1
    refine ⟨h1.1.1, fun j h3 h4 => ?_⟩
    by_cases hj : j = i
    · rw [hj]; exact h1.1.2
    · exact h2 j (by omega) (by omega)
def okE (e : Ety) : Prop := nameOK e.name = true ∧ modeOK e.mode = true
theorem entE_ok {l : List Ety} (h : entE l = 0) : l.length ≤ 4096 ∧ ∀ e ∈ l, okE e := by
  have hl : l.length ≤ 4096 := by
    apply Classical.byContradiction
    intro hn
    unfold entE at h
    rw [if_pos (by omega)] at h
    omega
  refine ⟨hl, ?_⟩
  rw [entE_eq l hl] at h
  have h1 : nmI l l.length 0 false = false ∧ fmI l l.length 0 false = false := by
    generalize nmI l l.length 0 false = a at *
    generalize fmI l l.length 0 false = b at *
    generalize tw l l.length 0 = c at *
    generalize decide (1048576 < (treeB l).length) = d at *
    revert h
    cases a <;> cases b <;> cases c <;> cases d <;> decide
  intro e he
  obtain ⟨i, hi, rfl⟩ := List.getElem_of_mem he
  have e1 : eat l i = l[i] := by simp [eat, List.getD, hi]
  exact ⟨by rw [← e1]; exact (nmI_no _ _ _ h1.1).2 i (by omega) (by omega), by rw [← e1]; exact (fmI_no _ _ _ h1.2).2 i (by omega) (by omega)⟩
theorem mode_facts {m : Int} (h : modeOK m = true) : pi8 (octT m) = (m, 0) ∧ octF (octT m) = m ∧ (32 : UInt8) ∉ octT m ∧ (0 : UInt8) ∉ octT m := by
  unfold modeOK at h
  simp only [Bool.or_eq_true, decide_eq_true_eq] at h
  rcases h with rfl | rfl | rfl | rfl <;> decide +kernel
theorem name_no0 {s : List UInt8} (h : nameOK s = true) : (0 : UInt8) ∉ s := by
  unfold nameOK at h
  simp only [Bool.and_eq_true, Bool.not_eq_true', List.contains_eq_mem, decide_eq_false_iff_not] at h
  exact h.1.1.1.2
theorem entB_form (e : Ety) (r : List UInt8) : entB e ++ r = (octT e.mode ++ 32 :: e.name) ++ 0 :: (e.id ++ r) := by
  unfold entB
  simp only [List.append_assoc, List.cons_append, List.nil_append]
theorem ix_app {c : UInt8} {H T : List UInt8} (h : c ∉ H) : (H ++ c :: T).idxOf c = H.length := by
  rw [List.idxOf_append, if_neg h, List.idxOf_cons_self, Nat.zero_add]
theorem mkT_self (e : Ety) : mkT e.mode e.name e.id = e := by unfold mkT; rw [dif_pos e.hid]
theorem cutP_ent {e : Ety} (h : okE e) (r : List UInt8) : cutP (entB e ++ r) = some (e, r) := by
  obtain ⟨m1, m2, m3, m4⟩ := mode_facts h.2
  have n0 := name_no0 h.1
  have hid := e.hid
  rw [entB_form]
  have hH : (0 : UInt8) ∉ octT e.mode ++ 32 :: e.name := by
    simp only [List.mem_append, List.mem_cons, not_or]
    exact ⟨m4, by decide, n0⟩
  have i1 := ix_app (T := e.id ++ r) hH
  have i2 := ix_app (T := e.name) m3
  have t1 : ((octT e.mode ++ 32 :: e.name) ++ 0 :: (e.id ++ r)).take (octT e.mode ++ 32 :: e.name).length = octT e.mode ++ 32 :: e.name := List.take_left
  have t2 : ((octT e.mode ++ 32 :: e.name) ++ 0 :: (e.id ++ r)).drop ((octT e.mode ++ 32 :: e.name).length + 1) = e.id ++ r := by
    rw [← List.drop_drop, List.drop_left]; rfl
  have t3 : (octT e.mode ++ 32 :: e.name).take (octT e.mode).length = octT e.mode := List.take_left
  have t4 : (octT e.mode ++ 32 :: e.name).drop ((octT e.mode).length + 1) = e.name := by
    rw [← List.drop_drop, List.drop_left]; rfl
  have t5 : (e.id ++ r).take 32 = e.id := by rw [← hid]; exact List.take_left
  have t6 : (e.id ++ r).drop 32 = r := by rw [← hid]; exact List.drop_left
  unfold cutP
  rw [i1, t1, i2, t2, t3, t4, t5, t6, m1, mkT_self]
  rw [if_pos]
  refine ⟨by simp, by simp, rfl, by rw [List.length_append, hid]; omega⟩
theorem sp_app {c : UInt8} {H T : List UInt8} {i0 : Nat} (hH : ∀ j, i0 ≤ j → j < H.length → H.getD j 0 ≠ c) : ∀ (m i : Nat), i0 ≤ i → i ≤ H.length → i + m = (H ++ c :: T).length → spI (H ++ c :: T) c m i = H.length := by
  intro m
  induction m with
  | zero => intro i _ h1 h2; rw [List.length_append, List.length_cons] at h2; omega
  | succ m ih =>
    intro i h0 h1 h2
    rw [spI]
    by_cases hi : i = H.length
    · rw [if_pos (by subst hi; simp [List.getD])]; exact hi
    · have e1 : (H ++ c :: T).getD i 0 = H.getD i 0 := by
        simp only [List.getD]
        rw [List.getElem?_append_left (by omega)]
      rw [e1, if_neg (hH i h0 (by omega))]
      exact ih (i + 1) (by omega) (by omega) (by omega)
theorem getD_ne {c : UInt8} {H : List UInt8} (h : c ∉ H) (j : Nat) (hj : j < H.length) : H.getD j 0 ≠ c := by
  intro e
  apply h
  rw [← e]
  simp [List.getD, hj]
theorem nextF_ent {e : Ety} (h : okE e) (r : List UInt8) : nextF (entB e ++ r) = some (e, r) := by
  obtain ⟨m1, m2, m3, m4⟩ := mode_facts h.2
  have n0 := name_no0 h.1
  have hid := e.hid
  rw [entB_form]
  have hH : (0 : UInt8) ∉ octT e.mode ++ 32 :: e.name := by
    simp only [List.mem_append, List.mem_cons, not_or]
    exact ⟨m4, by decide, n0⟩
  have ha : nextA ((octT e.mode ++ 32 :: e.name) ++ 0 :: (e.id ++ r)) = (octT e.mode).length := by
    unfold nextA
    rw [List.append_assoc, List.cons_append]
    exact sp_app (i0 := 0) (fun j _ hj => getD_ne m3 j hj) _ 0 (Nat.le_refl _) (by omega) (by omega)
  have hb : nextB ((octT e.mode ++ 32 :: e.name) ++ 0 :: (e.id ++ r)) = (octT e.mode ++ 32 :: e.name).length := by
    unfold nextB
    rw [ha]
    refine sp_app (i0 := 0) (fun j _ hj => getD_ne hH j hj) _ _ (by omega) (by rw [List.length_append]; omega) ?_
    simp only [List.length_append, List.length_cons]
    omega
  have hl : (octT e.mode ++ 32 :: e.name).length = (octT e.mode).length + 1 + e.name.length := by simp only [List.length_append, List.length_cons]; omega
  have t1 : ((octT e.mode ++ 32 :: e.name) ++ 0 :: (e.id ++ r)).take (octT e.mode).length = octT e.mode := by
    rw [List.append_assoc]; exact List.take_left
  have t2 : sub ((octT e.mode ++ 32 :: e.name) ++ 0 :: (e.id ++ r)) ((octT e.mode).length + 1) ((octT e.mode ++ 32 :: e.name).length - ((octT e.mode).length + 1)) = e.name := by
    unfold sub
    rw [List.append_assoc, ← List.drop_drop, List.drop_left, hl, show (octT e.mode).length + 1 + e.name.length - ((octT e.mode).length + 1) = e.name.length by omega]
    exact List.take_left
  have t3 : (((octT e.mode ++ 32 :: e.name) ++ 0 :: (e.id ++ r)).drop ((octT e.mode ++ 32 :: e.name).length + 1)).take 32 = e.id := by
    rw [← List.drop_drop, List.drop_left, ← hid]
    exact List.take_left
  have t4 : ((octT e.mode ++ 32 :: e.name) ++ 0 :: (e.id ++ r)).drop ((octT e.mode ++ 32 :: e.name).length + 33) = r := by
    rw [← List.drop_drop, List.drop_left, show 33 = 1 + e.id.length by omega, ← List.drop_drop]
    exact List.drop_left
  unfold nextF
  rw [ha, hb, t1, t2, t3, t4, m2, mkT_self, if_pos]
  refine ⟨by omega, ?_⟩
  simp only [List.length_append, List.length_cons, hid]
  omega
theorem entB_pos (e : Ety) : 0 < (entB e).length := by rw [entB_len]; omega
theorem ptL_all : ∀ (l : List Ety) (m : Nat) (acc : List Ety), (treeB l).length ≤ m → acc.length + l.length ≤ 4096 → (∀ e ∈ l, okE e) → ptL m (treeB l) acc = some (acc ++ l) := by
  intro l
  induction l with
  | nil =>
    intro m acc _ _ _
    cases m <;> rw [ptL, if_pos (show treeB [] = [] from rfl), List.append_nil]
  | cons e l ih =>
    intro m acc hm ha ho
    have hp := entB_pos e
    rw [treeB_cons, List.length_append] at hm
    rw [List.length_cons] at ha
    cases m with
    | zero => omega
    | succ m =>
      have hne : treeB (e :: l) ≠ [] := by
        intro h
        rw [treeB_cons] at h
        have := congrArg List.length h
        rw [List.length_append, List.length_nil] at this
        omega
      rw [ptL, if_neg hne, treeB_cons, cutP_ent (ho e (List.mem_cons_self ..))]
      simp only
      rw [if_neg (by omega), ih m (acc ++ [e]) (by omega) (by rw [List.length_append, List.length_singleton]; omega) (fun x hx => ho x (List.mem_cons_of_mem _ hx)), List.append_assoc]
      rfl
theorem rpL_all : ∀ (l : List Ety) (m : Nat) (acc : List Ety), (treeB l).length ≤ m → acc.length + l.length ≤ 4096 → (∀ e ∈ l, okE e) → rpL m (treeB l) acc = some (acc ++ l) := by
  intro l
  induction l with
  | nil =>
    intro m acc _ _ _
    cases m <;> rw [rpL, if_pos (show treeB [] = [] from rfl), List.append_nil]
  | cons e l ih =>
    intro m acc hm ha ho
    have hp := entB_pos e
    rw [treeB_cons, List.length_append] at hm
    rw [List.length_cons] at ha
    cases m with
    | zero => omega
    | succ m =>
      have hne : treeB (e :: l) ≠ [] := by
        intro h
        rw [treeB_cons] at h
        have := congrArg List.length h
        rw [List.length_append, List.length_nil] at this
        omega
      rw [rpL, if_neg hne, treeB_cons, nextF_ent (ho e (List.mem_cons_self ..))]
      simp only
      rw [if_neg (by omega), ih m (acc ++ [e]) (by omega) (by rw [List.length_append, List.length_singleton]; omega) (fun x hx => ho x (List.mem_cons_of_mem _ hx)), List.append_assoc]
      rfl
/-- A list of entries whose tree these bytes are. -/
def IsTree (p : List UInt8) (l : List Ety) : Prop := entE l = 0 ∧ treeB l = p
theorem pt_of {p : List UInt8} {l : List Ety} (h : IsTree p l) : ptL p.length p [] = some l := by
  obtain ⟨h1, h2⟩ := entE_ok h.1
  have := ptL_all l (treeB l).length [] (Nat.le_refl _) (by simpa using h1) h2
  rw [h.2] at this
  exact this
theorem rp_of {p : List UInt8} {l : List Ety} (h : IsTree p l) : rpL p.length p [] = some l := by
  obtain ⟨h1, h2⟩ := entE_ok h.1
  have := rpL_all l (treeB l).length [] (Nat.le_refl _) (by simpa using h1) h2
  rw [h.2] at this
  exact this
theorem parV_yes {p : List UInt8} {l : List Ety} (h : IsTree p l) (hp : p.length ≤ 1048576) : parV p = okTr l := by
  unfold parV
  rw [if_neg (by omega), pt_of h]
  exact if_pos h
theorem rparV_yes {p : List UInt8} {l : List Ety} (h : IsTree p l) (hp : p.length ≤ 1048576) : rparV p = okTr l := by
  unfold rparV
  rw [if_neg (by omega), rp_of h]
  exact if_pos h
theorem parV_no {p : List UInt8} (h : ∀ l, ¬ IsTree p l) (hp : p.length ≤ 1048576) : parV p = errTr := by
  unfold parV
  rw [if_neg (by omega)]
  cases ptL p.length p [] with
  | none => rfl
  | some l => exact if_neg (h l)
theorem rparV_no {p : List UInt8} (h : ∀ l, ¬ IsTree p l) (hp : p.length ≤ 1048576) : rparV p = errTr := by
  unfold rparV
  rw [if_neg (by omega)]
  cases rpL p.length p [] with
  | none => rfl
  | some l => exact if_neg (h l)
end Cod

/- The law ObjectTrees. -/
namespace Cod
open Go

theorem eqCells_ety (e : Ety) : eqCells [0, 2, 0, 0, 0, 0, 0, 0, 0, 0, 0, 0, 0, 0, 0, 0, 0, 0, 0, 0, 0, 0, 0, 0, 0, 0, 0, 0, 0, 0, 0, 0, 0, 0] e.cells e.cells = some true := by
  show eqCells (0 :: 2 :: [0, 0, 0, 0, 0, 0, 0, 0, 0, 0, 0, 0, 0, 0, 0, 0, 0, 0, 0, 0, 0, 0, 0, 0, 0, 0, 0, 0, 0, 0, 0, 0]) (.int .i64 e.mode :: .str e.name :: ofBytes e.id) (.int .i64 e.mode :: .str e.name :: ofBytes e.id) = _
  rw [eqCells, if_pos rfl, eqCells, eqCells_32 e.hid e.hid]
  simp
theorem se_l0 {l : List Ety} (hl : l.length ≤ 4096) : ∀ (m i : Nat), i + m = l.length →
    X E [.tmp 4] (.c L.ref07_SameEntries.x0 :: .lp [0, 1, 12, 13] L.ref07_SameEntries.x0 :: .blk 0 :: [.c L.ref07_SameEntries.r0]) ⟨[(0, .lst (etys l) l.length), (1, .lst (etys l) l.length), (12, .int .i64 l.length), (13, .int .i64 i)], []⟩ = some (.bool true, []) := by
  intro m
  induction m with
  | zero =>
    intro i h
    obtain rfl : i = l.length := by omega
    rw [X_in L.ref07_SameEntries.x0.eq_1]
    simp (dsimp := false) (disch := first | omega | (simp only [strs_length, List.length_set, List.length_replicate, words_length, ofBytes_length, List.length_append, List.length_cons, List.length_nil, List.length_take, List.length_drop, etys_length, ints64_length] <;> omega) | fail) only [go_sem, reduceIte, reduceCtorEq, Nat.reduceEqDiff, Nat.reduceAdd, Nat.reduceSub, Nat.reduceMul, Nat.reduceDiv, Nat.reduceMod, Nat.reduceBEq, Nat.reduceLeDiff, Nat.reduceLT, Int.reduceEq, Int.reduceNe, Int.reduceLT, Int.reduceLE, Int.reduceBEq, Int.reduceBNe, Int.reduceToNat, Int.reduceAdd, Int.reduceSub, Int.reduceMul, Int.reduceNeg, L.ref07_SameEntries.r0]
  | succ m ih =>
    intro i h
    have h1 := ih (i + 1) (by omega)
    simp only [Int.natCast_add, Int.cast_ofNat_Int] at h1
    have hq := eqCells_ety (eat l i)
    rw [X_in L.ref07_SameEntries.x0.eq_1]
    simp (dsimp := false) (disch := first | omega | (simp only [strs_length, List.length_set, List.length_replicate, words_length, ofBytes_length, List.length_append, List.length_cons, List.length_nil, List.length_take, List.length_drop, etys_length, ints64_length] <;> omega) | fail) only [go_sem, reduceIte, reduceCtorEq, Nat.reduceEqDiff, Nat.reduceAdd, Nat.reduceSub, Nat.reduceMul, Nat.reduceDiv, Nat.reduceMod, Nat.reduceBEq, Nat.reduceLeDiff, Nat.reduceLT, Int.reduceEq, Int.reduceNe, Int.reduceLT, Int.reduceLE, Int.reduceBEq, Int.reduceBNe, Int.reduceToNat, Int.reduceAdd, Int.reduceSub, Int.reduceMul, Int.reduceNeg, hq, h1, Option.map_some, Bool.not_true]
theorem go_sameEntries {l : List Ety} {n m : Nat} (hn : n = l.length) (hm : m = l.length) (hl : l.length ≤ 4096) : S E F.ref07_SameEntries [.lst (etys l) n, .lst (etys l) m] [] = some (.bool true, []) := by
  subst hn hm
  have h := se_l0 hl l.length 0 (by omega)
  simp only [Int.cast_ofNat_Int] at h
  rw [S_of fn_ref07_SameEntries rfl rfl]
  simp (dsimp := false) (disch := first | omega | (simp only [strs_length, List.length_set, List.length_replicate, words_length, ofBytes_length, List.length_append, List.length_cons, List.length_nil, List.length_take, List.length_drop, etys_length, ints64_length] <;> omega) | fail) only [L.ref07_SameEntries, go_sem, reduceIte, reduceCtorEq, Nat.reduceEqDiff, Nat.reduceAdd, Nat.reduceSub, Nat.reduceMul, Nat.reduceDiv, Nat.reduceMod, Nat.reduceBEq, Nat.reduceLeDiff, Nat.reduceLT, Int.reduceEq, Int.reduceNe, Int.reduceLT, Int.reduceLE, Int.reduceBEq, Int.reduceBNe, Int.reduceToNat, Int.reduceAdd, Int.reduceSub, Int.reduceMul, Int.reduceNeg, h]
def parX (l : List Ety) (e : Int) : AV × Store := (.tup [.buf (.r 0) 0 0 l.length 34, .int .i64 e], [(.r 0, ⟨0, true, true, false, etys l⟩)])
theorem parse_same (p : List UInt8) : ∃ l e, l.length ≤ 4096 ∧ parV p = parX l e ∧ rparV p = parX l e := by
  by_cases hl : 1048576 < p.length
  · refine ⟨[], 2, by simp, ?_, ?_⟩
    · unfold parV; rw [if_pos hl]; rfl
    · unfold rparV; rw [if_pos hl]; rfl
  · by_cases h : ∃ l, IsTree p l
    · obtain ⟨l, h⟩ := h
      exact ⟨l, 0, (entE_ok h.1).1, parV_yes h (by omega), rparV_yes h (by omega)⟩
    · have h' : ∀ l, ¬ IsTree p l := fun l hl => h ⟨l, hl⟩
      exact ⟨[], 4, by simp, parV_no h' (by omega), rparV_no h' (by omega)⟩
theorem same_nil : S E F.ref01_Same [.lst [] 0, .lst [] 0] [] = some (.bool true, []) := go_rsame (a := []) (b := []) rfl rfl
theorem go_objectTrees {l : List Ety} {p : List UInt8} (hb : ∀ i, (eat l i).name.length ≤ 1048576) (hm : ∀ i, -9223372036854775808 ≤ (eat l i).mode ∧ (eat l i).mode ≤ 9223372036854775807) (hl : l.length ≤ 1000000000) (hp : p.length ≤ 1000000000000) :
    S EE F.law07_ObjectTrees [.lst (etys l) l.length, .lst (ofBytes p) p.length] [] = some (.bool true, []) := by
  rw [S_ofT fn_law07_ObjectTrees rfl rfl]
  have a1 := S_putT (l := l) ⟨fun i => by have := hb i; omega, hm, hl⟩
  have a2 := S_ext extE (go_docPutTree (l := l) hb (by omega) hm hl)
  have a3 := S_ext extE (go_twin (a := p) rfl hp)
  have a4 := go_parseTree (p := p) (n := p.length) rfl hp
  have a5 := S_ext extE (go_docParseTree (p := p) (n := p.length) rfl hp)
  obtain ⟨l2, e2, h2, p1, p2⟩ := parse_same p
  rw [p1] at a4
  rw [p2] at a5
  unfold parX at a4 a5
  have a6 := S_ext extE (go_sameEntries (l := l2) rfl rfl h2)
  have a7 := S_ext extE (go_rsame (a := treeB l) (b := treeB l) (n := (treeB l).length) (m := (treeB l).length) rfl rfl)
  have b7 : (treeB l == treeB l) = true := by simp
  rw [b7] at a7
  have a8 := S_ext extE same_nil
  unfold treeV at a1
  unfold rtreeV at a2
  by_cases g1 : 300 < l.length
  · by_cases g2 : l.length ≤ 4096
    · simp (dsimp := false) (disch := first | omega | (simp only [strs_length, List.length_set, List.length_replicate, words_length, ofBytes_length, List.length_append, List.length_cons, List.length_nil, List.length_take, List.length_drop, etys_length, ints64_length] <;> omega) | fail) only [L.law07_ObjectTrees, go_sem, reduceIte, reduceCtorEq, Nat.reduceEqDiff, Nat.reduceAdd, Nat.reduceSub, Nat.reduceMul, Nat.reduceDiv, Nat.reduceMod, Nat.reduceBEq, Nat.reduceLeDiff, Nat.reduceLT, Int.reduceEq, Int.reduceNe, Int.reduceLT, Int.reduceLE, Int.reduceBEq, Int.reduceBNe, Int.reduceToNat, Int.reduceAdd, Int.reduceSub, Int.reduceMul, Int.reduceNeg, zer_bytes, app_ofBytes, ofBytes_length, flats_ofBytes, hards_ofBytes, leadss_ofBytes, refsOfs_ofBytes, rens_ofBytes, bytesOf_ofBytes, sub_ofBytes, take_ofBytes, drop_ofBytes, get_ofBytes, over_ofBytes_all, over_ofBytes, ofBytes_snoc, go_awake, g1, g2]
    · have he : ¬ entE l = 0 := by
        unfold entE; rw [if_pos (by omega)]; omega
      rw [if_neg he] at a1 a2
      by_cases q1 : 20000 < p.length
      · by_cases q2 : p.length ≤ 1048576
        · simp (dsimp := false) (disch := first | omega | (simp only [strs_length, List.length_set, List.length_replicate, words_length, ofBytes_length, List.length_append, List.length_cons, List.length_nil, List.length_take, List.length_drop, etys_length, ints64_length] <;> omega) | fail) only [L.law07_ObjectTrees, go_sem, reduceIte, reduceCtorEq, Nat.reduceEqDiff, Nat.reduceAdd, Nat.reduceSub, Nat.reduceMul, Nat.reduceDiv, Nat.reduceMod, Nat.reduceBEq, Nat.reduceLeDiff, Nat.reduceLT, Int.reduceEq, Int.reduceNe, Int.reduceLT, Int.reduceLE, Int.reduceBEq, Int.reduceBNe, Int.reduceToNat, Int.reduceAdd, Int.reduceSub, Int.reduceMul, Int.reduceNeg, zer_bytes, app_ofBytes, ofBytes_length, flats_ofBytes, hards_ofBytes, leadss_ofBytes, refsOfs_ofBytes, rens_ofBytes, bytesOf_ofBytes, sub_ofBytes, take_ofBytes, drop_ofBytes, get_ofBytes, over_ofBytes_all, over_ofBytes, ofBytes_snoc, go_awake, g1, g2, q1, q2]
        · simp (dsimp := false) (disch := first | omega | (simp only [strs_length, List.length_set, List.length_replicate, words_length, ofBytes_length, List.length_append, List.length_cons, List.length_nil, List.length_take, List.length_drop, etys_length, ints64_length] <;> omega) | fail) only [L.law07_ObjectTrees, go_sem, reduceIte, reduceCtorEq, Nat.reduceEqDiff, Nat.reduceAdd, Nat.reduceSub, Nat.reduceMul, Nat.reduceDiv, Nat.reduceMod, Nat.reduceBEq, Nat.reduceLeDiff, Nat.reduceLT, Int.reduceEq, Int.reduceNe, Int.reduceLT, Int.reduceLE, Int.reduceBEq, Int.reduceBNe, Int.reduceToNat, Int.reduceAdd, Int.reduceSub, Int.reduceMul, Int.reduceNeg, zer_bytes, app_ofBytes, ofBytes_length, flats_ofBytes, hards_ofBytes, leadss_ofBytes, refsOfs_ofBytes, rens_ofBytes, bytesOf_ofBytes, sub_ofBytes, take_ofBytes, drop_ofBytes, get_ofBytes, over_ofBytes_all, over_ofBytes, ofBytes_snoc, go_awake, g1, g2, q1, q2, a1, a2, a3, a4, a5, a6, a8]
      · simp (dsimp := false) (disch := first | omega | (simp only [strs_length, List.length_set, List.length_replicate, words_length, ofBytes_length, List.length_append, List.length_cons, List.length_nil, List.length_take, List.length_drop, etys_length, ints64_length] <;> omega) | fail) only [L.law07_ObjectTrees, go_sem, reduceIte, reduceCtorEq, Nat.reduceEqDiff, Nat.reduceAdd, Nat.reduceSub, Nat.reduceMul, Nat.reduceDiv, Nat.reduceMod, Nat.reduceBEq, Nat.reduceLeDiff, Nat.reduceLT, Int.reduceEq, Int.reduceNe, Int.reduceLT, Int.reduceLE, Int.reduceBEq, Int.reduceBNe, Int.reduceToNat, Int.reduceAdd, Int.reduceSub, Int.reduceMul, Int.reduceNeg, zer_bytes, app_ofBytes, ofBytes_length, flats_ofBytes, hards_ofBytes, leadss_ofBytes, refsOfs_ofBytes, rens_ofBytes, bytesOf_ofBytes, sub_ofBytes, take_ofBytes, drop_ofBytes, get_ofBytes, over_ofBytes_all, over_ofBytes, ofBytes_snoc, go_awake, g1, g2, q1, a1, a2, a3, a4, a5, a6, a8]
  · by_cases he : entE l = 0
    · have hts := treeB_small he
      rw [if_pos he] at a1 a2
      generalize treeB l = tb at *
      by_cases q1 : 20000 < p.length
      · by_cases q2 : p.length ≤ 1048576
        · simp (dsimp := false) (disch := first | omega | (simp only [strs_length, List.length_set, List.length_replicate, words_length, ofBytes_length, List.length_append, List.length_cons, List.length_nil, List.length_take, List.length_drop, etys_length, ints64_length] <;> omega) | fail) only [L.law07_ObjectTrees, go_sem, reduceIte, reduceCtorEq, Nat.reduceEqDiff, Nat.reduceAdd, Nat.reduceSub, Nat.reduceMul, Nat.reduceDiv, Nat.reduceMod, Nat.reduceBEq, Nat.reduceLeDiff, Nat.reduceLT, Int.reduceEq, Int.reduceNe, Int.reduceLT, Int.reduceLE, Int.reduceBEq, Int.reduceBNe, Int.reduceToNat, Int.reduceAdd, Int.reduceSub, Int.reduceMul, Int.reduceNeg, zer_bytes, app_ofBytes, ofBytes_length, flats_ofBytes, hards_ofBytes, leadss_ofBytes, refsOfs_ofBytes, rens_ofBytes, bytesOf_ofBytes, sub_ofBytes, take_ofBytes, drop_ofBytes, get_ofBytes, over_ofBytes_all, over_ofBytes, ofBytes_snoc, go_awake, g1, q1, q2]
        · simp (dsimp := false) (disch := first | omega | (simp only [strs_length, List.length_set, List.length_replicate, words_length, ofBytes_length, List.length_append, List.length_cons, List.length_nil, List.length_take, List.length_drop, etys_length, ints64_length] <;> omega) | fail) only [L.law07_ObjectTrees, go_sem, reduceIte, reduceCtorEq, Nat.reduceEqDiff, Nat.reduceAdd, Nat.reduceSub, Nat.reduceMul, Nat.reduceDiv, Nat.reduceMod, Nat.reduceBEq, Nat.reduceLeDiff, Nat.reduceLT, Int.reduceEq, Int.reduceNe, Int.reduceLT, Int.reduceLE, Int.reduceBEq, Int.reduceBNe, Int.reduceToNat, Int.reduceAdd, Int.reduceSub, Int.reduceMul, Int.reduceNeg, zer_bytes, app_ofBytes, ofBytes_length, flats_ofBytes, hards_ofBytes, leadss_ofBytes, refsOfs_ofBytes, rens_ofBytes, bytesOf_ofBytes, sub_ofBytes, take_ofBytes, drop_ofBytes, get_ofBytes, over_ofBytes_all, over_ofBytes, ofBytes_snoc, go_awake, g1, q1, q2, a1, a2, a3, a4, a5, a6, a7]
      · simp (dsimp := false) (disch := first | omega | (simp only [strs_length, List.length_set, List.length_replicate, words_length, ofBytes_length, List.length_append, List.length_cons, List.length_nil, List.length_take, List.length_drop, etys_length, ints64_length] <;> omega) | fail) only [L.law07_ObjectTrees, go_sem, reduceIte, reduceCtorEq, Nat.reduceEqDiff, Nat.reduceAdd, Nat.reduceSub, Nat.reduceMul, Nat.reduceDiv, Nat.reduceMod, Nat.reduceBEq, Nat.reduceLeDiff, Nat.reduceLT, Int.reduceEq, Int.reduceNe, Int.reduceLT, Int.reduceLE, Int.reduceBEq, Int.reduceBNe, Int.reduceToNat, Int.reduceAdd, Int.reduceSub, Int.reduceMul, Int.reduceNeg, zer_bytes, app_ofBytes, ofBytes_length, flats_ofBytes, hards_ofBytes, leadss_ofBytes, refsOfs_ofBytes, rens_ofBytes, bytesOf_ofBytes, sub_ofBytes, take_ofBytes, drop_ofBytes, get_ofBytes, over_ofBytes_all, over_ofBytes, ofBytes_snoc, go_awake, g1, q1, a1, a2, a3, a4, a5, a6, a7]
    · rw [if_neg he] at a1 a2
      by_cases q1 : 20000 < p.length
      · by_cases q2 : p.length ≤ 1048576
        · simp (dsimp := false) (disch := first | omega | (simp only [strs_length, List.length_set, List.length_replicate, words_length, ofBytes_length, List.length_append, List.length_cons, List.length_nil, List.length_take, List.length_drop, etys_length, ints64_length] <;> omega) | fail) only [L.law07_ObjectTrees, go_sem, reduceIte, reduceCtorEq, Nat.reduceEqDiff, Nat.reduceAdd, Nat.reduceSub, Nat.reduceMul, Nat.reduceDiv, Nat.reduceMod, Nat.reduceBEq, Nat.reduceLeDiff, Nat.reduceLT, Int.reduceEq, Int.reduceNe, Int.reduceLT, Int.reduceLE, Int.reduceBEq, Int.reduceBNe, Int.reduceToNat, Int.reduceAdd, Int.reduceSub, Int.reduceMul, Int.reduceNeg, zer_bytes, app_ofBytes, ofBytes_length, flats_ofBytes, hards_ofBytes, leadss_ofBytes, refsOfs_ofBytes, rens_ofBytes, bytesOf_ofBytes, sub_ofBytes, take_ofBytes, drop_ofBytes, get_ofBytes, over_ofBytes_all, over_ofBytes, ofBytes_snoc, go_awake, g1, q1, q2]
        · simp (dsimp := false) (disch := first | omega | (simp only [strs_length, List.length_set, List.length_replicate, words_length, ofBytes_length, List.length_append, List.length_cons, List.length_nil, List.length_take, List.length_drop, etys_length, ints64_length] <;> omega) | fail) only [L.law07_ObjectTrees, go_sem, reduceIte, reduceCtorEq, Nat.reduceEqDiff, Nat.reduceAdd, Nat.reduceSub, Nat.reduceMul, Nat.reduceDiv, Nat.reduceMod, Nat.reduceBEq, Nat.reduceLeDiff, Nat.reduceLT, Int.reduceEq, Int.reduceNe, Int.reduceLT, Int.reduceLE, Int.reduceBEq, Int.reduceBNe, Int.reduceToNat, Int.reduceAdd, Int.reduceSub, Int.reduceMul, Int.reduceNeg, zer_bytes, app_ofBytes, ofBytes_length, flats_ofBytes, hards_ofBytes, leadss_ofBytes, refsOfs_ofBytes, rens_ofBytes, bytesOf_ofBytes, sub_ofBytes, take_ofBytes, drop_ofBytes, get_ofBytes, over_ofBytes_all, over_ofBytes, ofBytes_snoc, go_awake, g1, q1, q2, a1, a2, a3, a4, a5, a6, a8]
      · simp (dsimp := false) (disch := first | omega | (simp only [strs_length, List.length_set, List.length_replicate, words_length, ofBytes_length, List.length_append, List.length_cons, List.length_nil, List.length_take, List.length_drop, etys_length, ints64_length] <;> omega) | fail) only [L.law07_ObjectTrees, go_sem, reduceIte, reduceCtorEq, Nat.reduceEqDiff, Nat.reduceAdd, Nat.reduceSub, Nat.reduceMul, Nat.reduceDiv, Nat.reduceMod, Nat.reduceBEq, Nat.reduceLeDiff, Nat.reduceLT, Int.reduceEq, Int.reduceNe, Int.reduceLT, Int.reduceLE, Int.reduceBEq, Int.reduceBNe, Int.reduceToNat, Int.reduceAdd, Int.reduceSub, Int.reduceMul, Int.reduceNeg, zer_bytes, app_ofBytes, ofBytes_length, flats_ofBytes, hards_ofBytes, leadss_ofBytes, refsOfs_ofBytes, rens_ofBytes, bytesOf_ofBytes, sub_ofBytes, take_ofBytes, drop_ofBytes, get_ofBytes, over_ofBytes_all, over_ofBytes, ofBytes_snoc, go_awake, g1, q1, a1, a2, a3, a4, a5, a6, a8]
end Cod

/- The arguments of the law ObjectTrees. -/
namespace Cod
open Go
def etyTy : Ty := .cat (.int .i64) (.cat .str (.cat (.rep 32 (.int .u8)) .nil))
theorem wf_ety {x : List AV} (h : Wf etyTy x) : ∃ e : Ety, x = e.cells ∧ e.name.length ≤ abulks x ∧ -9223372036854775808 ≤ e.mode ∧ e.mode ≤ 9223372036854775807 := by
  obtain ⟨a1, b1, rfl, ⟨m, rfl, hm⟩, a2, b2, rfl, ⟨p, rfl, hp⟩, a3, b3, rfl, ⟨r, rfl, hr, hw⟩, rfl⟩ := h
  obtain ⟨l, h1, h2⟩ := wf_bytes hw
  simp [Lit.wf, IntKind.min, IntKind.max, IntKind.signed, IntKind.bits] at hm
  refine ⟨⟨m, p, l, by rw [h2, hr]⟩, ?_, ?_, ?_, ?_⟩
  · rw [h1]; simp [Ety.cells]
  · simp only [List.cons_append, List.nil_append, abulks, abulk]; omega
  · show -9223372036854775808 ≤ m; omega
  · show m ≤ 9223372036854775807; omega
theorem wf_etys : ∀ {r : List (List AV)}, (∀ x ∈ r, Wf etyTy x) → ∃ l : List Ety, r.flatten = etys l ∧ l.length = r.length ∧ (∀ e ∈ l, e.name.length ≤ abulks r.flatten ∧ -9223372036854775808 ≤ e.mode ∧ e.mode ≤ 9223372036854775807) := by
  intro r
  induction r with
  | nil => intro _; exact ⟨[], rfl, rfl, fun e he => by simp at he⟩
  | cons x r ih =>
    intro h
    obtain ⟨l, h1, h2, h3⟩ := ih fun y hy => h y (List.mem_cons_of_mem _ hy)
    obtain ⟨e, rfl, he, hm⟩ := wf_ety (h x (by simp))
    refine ⟨e :: l, by rw [List.flatten_cons, h1]; rfl, by simp [h2], fun y hy => ?_⟩
    rw [List.flatten_cons, abulks_append]
    rcases List.mem_cons.1 hy with rfl | hy
    · exact ⟨by omega, hm⟩
    · have := h3 y hy; exact ⟨by omega, this.2⟩
theorem arg_etys {x : List AV} (h : Wf (.sl etyTy) x) (hb : abulks x ≤ 1048576) : ∃ l : List Ety, x = [.lst (etys l) l.length] ∧ l.length ≤ 1048576 ∧ (∀ i, (eat l i).name.length ≤ 1048576) ∧ ∀ i, -9223372036854775808 ≤ (eat l i).mode ∧ (eat l i).mode ≤ 9223372036854775807 := by
  obtain ⟨r, rfl, _, h2⟩ := h
  obtain ⟨l, h3, h4, h5⟩ := wf_etys h2
  rw [h3] at h5
  rw [h3, ← h4] at hb ⊢
  simp only [abulks, abulk] at hb
  have key : ∀ i, (eat l i).name.length ≤ 1048576 ∧ -9223372036854775808 ≤ (eat l i).mode ∧ (eat l i).mode ≤ 9223372036854775807 := by
    intro i
    unfold eat
    by_cases hi : i < l.length
    · have := h5 l[i] (List.getElem_mem hi)
      rw [show l.getD i default = l[i] by simp [List.getD, hi]]
      exact ⟨by omega, this.2⟩
    · rw [List.getD, List.getElem?_eq_none (by omega)]
      exact ⟨by decide, by decide, by decide⟩
  exact ⟨l, rfl, by omega, fun i => (key i).1, fun i => (key i).2⟩
theorem arg_bytes7 {x : List AV} (h : Wf (.sl (.int .u8)) x) (hb : abulks x ≤ 1048576) : ∃ p : List UInt8, x = [.lst (ofBytes p) p.length] ∧ p.length ≤ 1048576 := by
  obtain ⟨r, rfl, _, hw⟩ := h
  obtain ⟨l, h1, h2⟩ := wf_bytes hw
  rw [h1, ← h2] at hb ⊢
  simp only [abulks, abulk] at hb
  exact ⟨l, rfl, by omega⟩
theorem run_ObjectTrees {xs : List AV} (h : ArgsOK [(false, .sl etyTy), (false, .sl (.int .u8))] xs) (hb : abulks xs ≤ 1048576) : ∃ σr, S EE 3 xs [] = some (.bool true, σr) := by
  obtain ⟨a, b, rfl, h1, c, d, rfl, h2, rfl⟩ := h
  have hs : abulks [a] + abulks [c] ≤ 1048576 := by
    simp only [abulks] at hb ⊢; omega
  obtain ⟨l, hl, l1, l2, l3⟩ := arg_etys h1 (by omega)
  obtain ⟨p, hp, p1⟩ := arg_bytes7 h2 (by omega)
  simp only [List.cons.injEq, and_true] at hl hp
  subst hl hp
  exact ⟨[], go_objectTrees l2 l3 (by omega) (by omega)⟩
end Cod


/- What the rows of this seat share. -/
import Derived.Test.YthlnjgdoodjgoaaGreatDoorRows
import Derived.KernelRfl
import Derived.Test.YthlnjgdoodjgoaaGreatDoorXTxt1
import Derived.Test.YthlnjgdoodjgoaaGreatDoorXShelf1
import Derived.Test.YthlnjgdoodjgoaaGreatDoorXLit3
import Derived.Test.YthlnjgdoodjgoaaGreatDoorXCod1
set_option linter.unusedSimpArgs false
set_option linter.unusedVariables false
namespace Cod
open Go Go.Proofs Go.Proofs.YthlnjgdoodjgoaaGreatDoor
set_option maxRecDepth 100000

theorem lookup_mem2 {α β : Type} [BEq α] [LawfulBEq α] {a : α} {b : β} : ∀ {l : List (α × β)}, l.lookup a = some b → (a, b) ∈ l := by
  intro l
  induction l with
  | nil => intro h; simp at h
  | cons x l ih =>
    intro h
    rw [List.lookup_cons] at h
    split at h
    · rename_i he
      rw [beq_iff_eq] at he
      cases h
      rw [he]; exact List.mem_cons_self
    · exact List.mem_cons_of_mem _ (ih h)
theorem own : ownKnob Tryz.prog.godebug = none := by kernel_rfl
theorem laidOut : laidOutB Tryz.prog = true := by kernel_rfl
theorem bool_type : Tryz.prog.underlying 4 = some .bool := Tryz.underlying4

/-! ### the bulk -/
mutual
theorem bulk_eq {H : Type} : ∀ d : DataW H, Rows.uptoBulk d = dbulk d
  | .lit (.string _) => by simp [Rows.uptoBulk, dbulk]
  | .lit (.bool _) => by simp [Rows.uptoBulk, dbulk]
  | .lit (.int _ _) => by simp [Rows.uptoBulk, dbulk]
  | .lit (.float _ _) => by simp [Rows.uptoBulk, dbulk]
  | .lit .nil => by simp [Rows.uptoBulk, dbulk]
  | .nil => by simp [Rows.uptoBulk, dbulk]
  | .ptr d => by simp [Rows.uptoBulk, dbulk, bulk_eq d]
  | .slice a b => by simp [Rows.uptoBulk, dbulk, bulkAll_eq a, bulkAll_eq b]
  | .agg a => by simp [Rows.uptoBulk, dbulk, bulkAll_eq a]
  | .iface _ d => by simp [Rows.uptoBulk, dbulk, bulk_eq d]
  | .map l => by simp [Rows.uptoBulk, dbulk, bulkEntries_eq l]
  | .held _ => by simp [Rows.uptoBulk, dbulk]
theorem bulkAll_eq {H : Type} : ∀ l : List (DataW H), Rows.uptoBulkAll l = dbulkAll l
  | [] => by simp [Rows.uptoBulkAll, dbulkAll]
  | d :: r => by simp [Rows.uptoBulkAll, dbulkAll, bulk_eq d, bulkAll_eq r]
theorem bulkEntries_eq {H : Type} : ∀ l : List (Lit × DataW H), Rows.uptoBulkEntries l = dbulkEntries l
  | [] => by simp [Rows.uptoBulkEntries, dbulkEntries]
  | d :: r => by simp [Rows.uptoBulkEntries, dbulkEntries, bulkEntry_eq d, bulkEntries_eq r]
theorem bulkEntry_eq {H : Type} : ∀ x : Lit × DataW H, Rows.uptoBulkEntry x = dbulkEntry x
  | (.string _, d) => by simp [Rows.uptoBulkEntry, dbulkEntry, bulk_eq d]
  | (.bool _, d) => by simp [Rows.uptoBulkEntry, dbulkEntry, bulk_eq d]
  | (.int _ _, d) => by simp [Rows.uptoBulkEntry, dbulkEntry, bulk_eq d]
  | (.float _ _, d) => by simp [Rows.uptoBulkEntry, dbulkEntry, bulk_eq d]
  | (.nil, d) => by simp [Rows.uptoBulkEntry, dbulkEntry, bulk_eq d]
end
theorem dbulkAll_append {H : Type} (a b : List (DataW H)) : dbulkAll (a ++ b) = dbulkAll a + dbulkAll b := by
  induction a with
  | nil => simp [dbulkAll]
  | cons x a ih => simp only [List.cons_append, dbulkAll, ih]; omega
theorem small_of {H : Type} {ds gs : List (DataW H)} (h : Rows.uptoSmall H (ds ++ gs) = true) : dbulkAll ds ≤ 1048576 := by
  simp only [Rows.uptoSmall, decide_eq_true_eq, bulkAll_eq, dbulkAll_append] at h
  omega

/-! ### the tables -/
def kInts : List Int := kTab.map fun x => (x.toNat : Int)
theorem kWords : words kTab = kInts.map fun z => AV.int .u32 z := by kernel_rfl
theorem kLaid : (Rows.laid_codicil_sha_k : DataW Unit) = Lib.tabData .u32 kInts := by kernel_rfl
theorem gK : Tryz.prog.globalNamed "codicil/sha.k" = some G.sha_k := by kernel_rfl
theorem sha_tab {W : World} {l : List (String × DataW Unit)} (h : laidMetH Tryz.prog l W) (hm : ("codicil/sha.k", Rows.laid_codicil_sha_k) ∈ l) : GV (ctx [] La0 W) G.sha_k (words kTab) := by
  rw [kWords]
  exact glob_tab (tab_of_laid (n := 64) h (kLaid ▸ hm) gK (by kernel_rfl) (t := 162) (e := 131) (by kernel_rfl) (by kernel_rfl) (by kernel_rfl) (by kernel_rfl)) gK (by simp [kInts, kTab])
theorem foldLaid : (Rows.laid_unicode_asciiFold : DataW Unit) = Lib.tabData .u16 foldTab := by kernel_rfl
theorem gF : Tryz.prog.globalNamed "unicode.asciiFold" = some G.unicode_asciiFold := by kernel_rfl
theorem fold_tab {W : World} {l : List (String × DataW Unit)} (h : laidMetH Tryz.prog l W) (hm : ("unicode.asciiFold", Rows.laid_unicode_asciiFold) ∈ l) : GV (ctx [] La0 W) G.unicode_asciiFold (foldTab.map fun z => .int .u16 z) :=
  glob_tab (tab_of_laid (n := 128) h (foldLaid ▸ hm) gF (by kernel_rfl) (t := 209) (e := 208) (by kernel_rfl) (by kernel_rfl) (by kernel_rfl) (by kernel_rfl)) gF (by simp [foldTab])
theorem powLaid : (Rows.laid_internal_strconv_uint64pow10 : DataW Unit) = Lib.tabData .u64 Lib.pow10Tab := by kernel_rfl
theorem gP : Tryz.prog.globalNamed "internal/strconv.uint64pow10" = some G.strconv_uint64pow10 := by kernel_rfl
theorem pow_tab {W : World} {l : List (String × DataW Unit)} (h : laidMetH Tryz.prog l W) (hm : ("internal/strconv.uint64pow10", Rows.laid_internal_strconv_uint64pow10) ∈ l) : GV (ctx [] La0 W) G.strconv_uint64pow10 (Lib.pow10Tab.map fun z => .int .u64 z) :=
  glob_tab (tab_of_laid (n := 20) h (powLaid ▸ hm) gP (by kernel_rfl) (t := 196) (e := 164) (by kernel_rfl) (by kernel_rfl) (by kernel_rfl) (by kernel_rfl)) gP (by simp [Lib.pow10Tab])
theorem form_tab {W : World} {l : List (String × DataW Unit)} (h : laidMetH Tryz.prog l W) (hm : ("strconv.ErrSyntax", Rows.laid_strconv_ErrSyntax) ∈ l) : GV (ctx [] La0 W) G.strconv_ErrSyntax [.any none] :=
  err_laid h hm (by rfl) (by kernel_rfl) (t := 85) (by kernel_rfl) (by kernel_rfl)
theorem range_tab {W : World} {l : List (String × DataW Unit)} (h : laidMetH Tryz.prog l W) (hm : ("strconv.ErrRange", Rows.laid_strconv_ErrRange) ∈ l) : GV (ctx [] La0 W) G.strconv_ErrRange [.any none] :=
  err_laid h hm (by rfl) (by kernel_rfl) (t := 85) (by kernel_rfl) (by kernel_rfl)
theorem max_tab {W : World} (h : W.ShapedOpen Tryz.prog) : GV (ctx [] La0 W) G.bytealg_MaxLen [.any (some .i64)] :=
  int_shaped h (of_decide_eq_true (by kernel_rfl)) (by kernel_rfl) (Go.Proofs.cell_of_shapedOpen_int (zero := #[.int .i64 0]) (t := 3) h (of_decide_eq_true (by kernel_rfl)) (by kernel_rfl) rfl (by kernel_rfl) (by kernel_rfl) Tryz.underlying3)
theorem bruLaid : (Rows.laid_math_bits_deBruijn64tab : DataW Unit) = Lib.tabData .u8 bruTab := by kernel_rfl
theorem gB : Tryz.prog.globalNamed "math/bits.deBruijn64tab" = some G.bits_deBruijn64tab := by kernel_rfl
theorem bru_tab {W : World} {l : List (String × DataW Unit)} (h : laidMetH Tryz.prog l W) (hm : ("math/bits.deBruijn64tab", Rows.laid_math_bits_deBruijn64tab) ∈ l) : GV (ctx [] La0 W) G.bits_deBruijn64tab (bruTab.map fun z => .int .u8 z) :=
  glob_tab (tab_of_laid (n := 64) h (bruLaid ▸ hm) gB (by kernel_rfl) (t := 134) (e := 5) (by kernel_rfl) (by kernel_rfl) (by kernel_rfl) (by kernel_rfl)) gB (by simp [bruTab])
theorem glob_of {W : World} (h : ∀ p ∈ globTab, GV (ctx [] La0 W) p.1 p.2) : GlobOK E W := by
  intro n
  show GV _ n (globOf n)
  unfold globOf
  cases hl : globTab.lookup n with
  | none => exact glob_none
  | some l => exact h _ (lookup_mem2 hl)
theorem glob_ok {W : World} {l : List (String × DataW Unit)} (h : laidMetH Tryz.prog l W) (hs : W.ShapedOpen Tryz.prog) (hk : ("codicil/sha.k", Rows.laid_codicil_sha_k) ∈ l) (hf : ("unicode.asciiFold", Rows.laid_unicode_asciiFold) ∈ l) (hp : ("internal/strconv.uint64pow10", Rows.laid_internal_strconv_uint64pow10) ∈ l) (h1 : ("strconv.ErrSyntax", Rows.laid_strconv_ErrSyntax) ∈ l) (h2 : ("strconv.ErrRange", Rows.laid_strconv_ErrRange) ∈ l) (hb : ("math/bits.deBruijn64tab", Rows.laid_math_bits_deBruijn64tab) ∈ l) : GlobOK E W := by
  refine glob_of ?_
  unfold globTab
  refine List.forall_mem_cons.2 ⟨sha_tab h hk, ?_⟩
  refine List.forall_mem_cons.2 ⟨fold_tab h hf, ?_⟩
  refine List.forall_mem_cons.2 ⟨pow_tab h hp, ?_⟩
  refine List.forall_mem_cons.2 ⟨form_tab h h1, ?_⟩
  refine List.forall_mem_cons.2 ⟨range_tab h h2, ?_⟩
  refine List.forall_mem_cons.2 ⟨max_tab hs, ?_⟩
  refine List.forall_mem_cons.2 ⟨bru_tab h hb, ?_⟩
  exact fun p h => nomatch h

end Cod

/- Bytes and numbers among arguments. -/
namespace Cod
open Go
theorem wf_bytes : ∀ {r : List (List AV)}, (∀ x ∈ r, Wf (.int .u8) x) → ∃ l : List UInt8, r.flatten = ofBytes l ∧ l.length = r.length := by
  intro r
  induction r with
  | nil => intro _; exact ⟨[], rfl, rfl⟩
  | cons x r ih =>
    intro h
    obtain ⟨l, h1, h2⟩ := ih fun y hy => h y (List.mem_cons_of_mem _ hy)
    obtain ⟨n, rfl, hn⟩ := h x (by simp)
    simp [Lit.wf, IntKind.min, IntKind.max, IntKind.signed, IntKind.bits] at hn
    refine ⟨byt n :: l, ?_, by simp [h2]⟩
    rw [List.flatten_cons, h1, int_byt (by omega) (by omega)]
    rfl
end Cod

/- Lists of records, as cells. -/
namespace Cod
open Go

theorem flatsA (a b : List AV) : flats (a ++ b) = (flats a && flats b) := by
  induction a with
  | nil => simp [flats]
  | cons x a ih => simp [flats, ih, Bool.and_assoc]
theorem hardsA (a b : List AV) : hards (a ++ b) = (hards a && hards b) := by
  induction a with
  | nil => simp [hards]
  | cons x a ih => simp [hards, ih, Bool.and_assoc]
theorem leadssA (a b : List AV) : leadss (a ++ b) = (leadss a || leadss b) := by
  induction a with
  | nil => simp [leadss]
  | cons x a ih => simp [leadss, ih, Bool.or_assoc]
theorem refsOfsA (a b : List AV) : refsOfs (a ++ b) = refsOfs a ++ refsOfs b := by
  induction a with
  | nil => simp [refsOfs]
  | cons x a ih => simp [refsOfs, ih]
theorem rensA (f : Site → Nat → Option (Site × Nat)) (a b : List AV) : rens f (a ++ b) = rens f a ++ rens f b := by
  induction a with
  | nil => simp [rens]
  | cons x a ih => simp [rens, ih]

section
variable {α : Type} {f : α → List AV} {n : Nat}
theorem recs_length (hn : ∀ a, (f a).length = n) (l : List α) : (l.flatMap f).length = n * l.length := by
  induction l with
  | nil => simp
  | cons s l ih => rw [List.flatMap_cons, List.length_append, ih, hn, List.length_cons, Nat.mul_add]; omega
theorem recs_flats (h : ∀ a, flats (f a) = true) (l : List α) : flats (l.flatMap f) = true := by
  induction l with
  | nil => rfl
  | cons s l ih => rw [List.flatMap_cons, flatsA, ih, h]; rfl
theorem recs_hards (h : ∀ a, hards (f a) = true) (l : List α) : hards (l.flatMap f) = true := by
  induction l with
  | nil => rfl
  | cons s l ih => rw [List.flatMap_cons, hardsA, ih, h]; rfl
theorem recs_leadss (h : ∀ a, leadss (f a) = false) (l : List α) : leadss (l.flatMap f) = false := by
  induction l with
  | nil => rfl
  | cons s l ih => rw [List.flatMap_cons, leadssA, ih, h]; rfl
theorem recs_refs (h : ∀ a, refsOfs (f a) = []) (l : List α) : refsOfs (l.flatMap f) = [] := by
  induction l with
  | nil => rfl
  | cons s l ih => rw [List.flatMap_cons, refsOfsA, ih, h]; rfl
theorem recs_rens (g : Site → Nat → Option (Site × Nat)) (h : ∀ a, rens g (f a) = f a) (l : List α) : rens g (l.flatMap f) = l.flatMap f := by
  induction l with
  | nil => rfl
  | cons s l ih => rw [List.flatMap_cons, rensA, ih, h]
theorem recs_drop (hn : ∀ a, (f a).length = n) (l : List α) (i : Nat) : (l.flatMap f).drop (i * n) = (l.drop i).flatMap f := by
  induction i generalizing l with
  | zero => simp
  | succ i ih =>
    cases l with
    | nil => simp
    | cons s l =>
      have h1 : (i + 1) * n = (f s).length + i * n := by rw [hn, Nat.add_mul]; omega
      rw [List.flatMap_cons, h1, List.drop_append, List.drop_of_length_le (by omega), List.nil_append, show (f s).length + i * n - (f s).length = i * n by omega, ih]
      rfl
variable [Inhabited α]
theorem drop_getD {l : List α} {i : Nat} (h : i < l.length) : l.drop i = l.getD i default :: l.drop (i + 1) := by
  rw [List.getD_eq_getElem?_getD, List.getElem?_eq_getElem h, Option.getD_some]
  exact List.drop_eq_getElem_cons h
theorem recs_sub (hn : ∀ a, (f a).length = n) {l : List α} {i : Nat} (h : i < l.length) : sub (l.flatMap f) (i * n) n = f (l.getD i default) := by
  rw [sub, recs_drop hn, drop_getD h, List.flatMap_cons, List.take_append_of_le_length (by rw [hn]; exact Nat.le_refl _), List.take_of_length_le (by rw [hn]; exact Nat.le_refl _)]
theorem recs_at (hn : ∀ a, (f a).length = n) {l : List α} {i j : Nat} (h : i < l.length) (hj : j < n) : (l.flatMap f)[i * n + j]? = (f (l.getD i default))[j]? := by
  have h1 : (l.flatMap f)[i * n + j]? = ((l.flatMap f).drop (i * n))[j]? := by rw [List.getElem?_drop]
  rw [h1, recs_drop hn, drop_getD h, List.flatMap_cons, List.getElem?_append_left (by rw [hn]; exact hj)]
end

/-! ### texts -/
theorem strs_flatMap (l : List (List UInt8)) : strs l = l.flatMap fun s => [.str s] := by
  induction l with
  | nil => rfl
  | cons s l ih => rw [List.flatMap_cons, ← ih]; rfl
theorem flats_strs (l : List (List UInt8)) : flats (strs l) = true := by rw [strs_flatMap]; exact recs_flats (fun _ => rfl) l
theorem hards_strs (l : List (List UInt8)) : hards (strs l) = true := by rw [strs_flatMap]; exact recs_hards (fun _ => rfl) l
theorem leadss_strs (l : List (List UInt8)) : leadss (strs l) = false := by rw [strs_flatMap]; exact recs_leadss (fun _ => rfl) l
theorem refsOfs_strs (l : List (List UInt8)) : refsOfs (strs l) = [] := by rw [strs_flatMap]; exact recs_refs (fun _ => rfl) l
theorem rens_strs (f : Site → Nat → Option (Site × Nat)) (l : List (List UInt8)) : rens f (strs l) = strs l := by rw [strs_flatMap]; exact recs_rens f (fun _ => rfl) l
theorem strs_snoc (l : List (List UInt8)) (s : List UInt8) : strs l ++ [.str s] = strs (l ++ [s]) := by simp [strs]
theorem get_strs {l : List (List UInt8)} {i : Nat} (h : i < l.length) : (strs l)[i]? = some (.str (l.getD i [])) := by simp [strs, h]

end Cod

/- Entries of a tree. -/
namespace Cod
open Go

/-- An entry of a tree. -/
structure Ety where
  mode : Int
  name : List UInt8
  id : List UInt8
  hid : id.length = 32
def Ety.cells (e : Ety) : List AV := .int .i64 e.mode :: .str e.name :: ofBytes e.id
theorem ety_len (e : Ety) : e.cells.length = 34 := by simp [Ety.cells, ofBytes_length, e.hid]
theorem ety_flats (e : Ety) : flats e.cells = true := by simp [Ety.cells, flats, flat, flats_ofBytes]
theorem ety_rens (f : Site → Nat → Option (Site × Nat)) (e : Ety) : rens f e.cells = e.cells := rens_flats _ (ety_flats e)
theorem ety_refs (e : Ety) : refsOfs e.cells = [] := by simp [Ety.cells, refsOfs, refsOf, refsOfs_ofBytes]
theorem ety_hards (e : Ety) : hards e.cells = true := by simp [Ety.cells, hards, hard, hards_ofBytes]
theorem ety_leads (e : Ety) : leadss e.cells = false := by simp [Ety.cells, leadss, leads, leadss_ofBytes]
theorem ety_sub (e : Ety) : sub e.cells 0 34 = e.cells := sub_full (by rw [ety_len]; exact Nat.le_refl _)
theorem ety_0 (e : Ety) : e.cells[0]? = some (.int .i64 e.mode) := rfl
theorem ety_1 (e : Ety) : e.cells[1]? = some (.str e.name) := rfl
attribute [go_sem] ety_len ety_flats ety_rens ety_refs ety_hards ety_leads ety_sub ety_0 ety_1
def keyE (e : Ety) : List UInt8 := if e.mode = 16384 then e.name ++ [47] else e.name
theorem less_self : ∀ a : List UInt8, Op.bytesLess a a = false := by
  intro a
  induction a with
  | nil => rfl
  | cons x a ih => rw [Op.bytesLess, ih]; simp
theorem go_cmpE {a b : List UInt8} : S E F.cmp_Compare_string [.str a, .str b] [] = some (.int .i64 (cmpB a b), []) := by
  have hn (x : List UInt8) : S E F.cmp_isNaN_string [.str x] [] = some (.bool false, []) := by
    have hb : (x == x) = true := by simp
    rw [S_of fn_cmp_isNaN_string rfl rfl]
    simp (dsimp := false) (disch := first | omega | (simp only [strs_length, List.length_set, List.length_replicate, words_length, ofBytes_length, List.length_append, List.length_cons, List.length_nil, List.length_take, List.length_drop] <;> omega) | fail) only [L.cmp_isNaN_string, go_sem, reduceIte, reduceCtorEq, Nat.reduceEqDiff, Nat.reduceAdd, Nat.reduceSub, Nat.reduceMul, Nat.reduceDiv, Nat.reduceMod, Nat.reduceBEq, Nat.reduceLeDiff, Nat.reduceLT, Int.reduceEq, Int.reduceNe, Int.reduceLT, Int.reduceLE, Int.reduceBEq, Int.reduceBNe, Int.reduceToNat, Int.reduceAdd, Int.reduceSub, Int.reduceMul, Int.reduceNeg, hb, Bool.not_true]
  rw [S_of fn_cmp_Compare_string rfl rfl]
  unfold cmpB
  by_cases he : a = b
  · subst he
    have hs : (a == a) = true := by simp
    simp (dsimp := false) (disch := first | omega | (simp only [strs_length, List.length_set, List.length_replicate, words_length, ofBytes_length, List.length_append, List.length_cons, List.length_nil, List.length_take, List.length_drop] <;> omega) | fail) only [L.cmp_Compare_string, go_sem, reduceIte, reduceCtorEq, Nat.reduceEqDiff, Nat.reduceAdd, Nat.reduceSub, Nat.reduceMul, Nat.reduceDiv, Nat.reduceMod, Nat.reduceBEq, Nat.reduceLeDiff, Nat.reduceLT, Int.reduceEq, Int.reduceNe, Int.reduceLT, Int.reduceLE, Int.reduceBEq, Int.reduceBNe, Int.reduceToNat, Int.reduceAdd, Int.reduceSub, Int.reduceMul, Int.reduceNeg, hn, less_self, hs, Bool.not_true]
  · have hs : (a == b) = false := by simp [he]
    rw [if_neg he]
    cases c1 : Op.bytesLess a b <;> simp (dsimp := false) (disch := first | omega | (simp only [strs_length, List.length_set, List.length_replicate, words_length, ofBytes_length, List.length_append, List.length_cons, List.length_nil, List.length_take, List.length_drop] <;> omega) | fail) only [L.cmp_Compare_string, go_sem, reduceIte, reduceCtorEq, Nat.reduceEqDiff, Nat.reduceAdd, Nat.reduceSub, Nat.reduceMul, Nat.reduceDiv, Nat.reduceMod, Nat.reduceBEq, Nat.reduceLeDiff, Nat.reduceLT, Int.reduceEq, Int.reduceNe, Int.reduceLT, Int.reduceLE, Int.reduceBEq, Int.reduceBNe, Int.reduceToNat, Int.reduceAdd, Int.reduceSub, Int.reduceMul, Int.reduceNeg, hn, c1, hs, Bool.not_false]
theorem go_nOrder {a b : Ety} (ha : a.name.length ≤ 1000000000000) (hb : b.name.length ≤ 1000000000000) : S E F.names_Order [.agg a.cells, .agg b.cells] [] = some (.int .i64 (cmpB (keyE a) (keyE b)), []) := by
  rw [S_of fn_names_Order rfl rfl]
  unfold keyE
  by_cases h1 : a.mode = 16384
  · by_cases h2 : b.mode = 16384 <;> simp (dsimp := false) (disch := first | omega | (simp only [strs_length, List.length_set, List.length_replicate, words_length, ofBytes_length, List.length_append, List.length_cons, List.length_nil, List.length_take, List.length_drop] <;> omega) | fail) only [L.names_Order, go_sem, reduceIte, reduceCtorEq, Nat.reduceEqDiff, Nat.reduceAdd, Nat.reduceSub, Nat.reduceMul, Nat.reduceDiv, Nat.reduceMod, Nat.reduceBEq, Nat.reduceLeDiff, Nat.reduceLT, Int.reduceEq, Int.reduceNe, Int.reduceLT, Int.reduceLE, Int.reduceBEq, Int.reduceBNe, Int.reduceToNat, Int.reduceAdd, Int.reduceSub, Int.reduceMul, Int.reduceNeg, h1, h2, go_cmpE]
  · by_cases h2 : b.mode = 16384 <;> simp (dsimp := false) (disch := first | omega | (simp only [strs_length, List.length_set, List.length_replicate, words_length, ofBytes_length, List.length_append, List.length_cons, List.length_nil, List.length_take, List.length_drop] <;> omega) | fail) only [L.names_Order, go_sem, reduceIte, reduceCtorEq, Nat.reduceEqDiff, Nat.reduceAdd, Nat.reduceSub, Nat.reduceMul, Nat.reduceDiv, Nat.reduceMod, Nat.reduceBEq, Nat.reduceLeDiff, Nat.reduceLT, Int.reduceEq, Int.reduceNe, Int.reduceLT, Int.reduceLE, Int.reduceBEq, Int.reduceBNe, Int.reduceToNat, Int.reduceAdd, Int.reduceSub, Int.reduceMul, Int.reduceNeg, h1, h2, go_cmpE]
end Cod

/- Lists of entries, as cells. -/
namespace Cod
open Go

instance : Inhabited Ety := ⟨0, [], List.replicate 32 0, by simp⟩
def etys (l : List Ety) : List AV := l.flatMap Ety.cells
def eat (l : List Ety) (i : Nat) : Ety := l.getD i default
theorem etys_length (l : List Ety) : (etys l).length = 34 * l.length := recs_length ety_len l
theorem etys_nil : etys [] = [] := rfl
theorem etys_snoc (a : List Ety) (s : Ety) : etys a ++ s.cells = etys (a ++ [s]) := by simp [etys]
theorem flats_etys (l : List Ety) : flats (etys l) = true := recs_flats ety_flats l
theorem hards_etys (l : List Ety) : hards (etys l) = true := recs_hards ety_hards l
theorem leadss_etys (l : List Ety) : leadss (etys l) = false := recs_leadss ety_leads l
theorem refsOfs_etys (l : List Ety) : refsOfs (etys l) = [] := recs_refs ety_refs l
theorem rens_etys (f : Site → Nat → Option (Site × Nat)) (l : List Ety) : rens f (etys l) = etys l := recs_rens f (ety_rens f) l
theorem sub_etys {l : List Ety} {i : Nat} (h : i < l.length) : sub (etys l) (i * 34) 34 = (eat l i).cells := recs_sub ety_len h
theorem etys_at {l : List Ety} {i j : Nat} (h : i < l.length) (hj : j < 34) : (etys l)[i * 34 + j]? = (eat l i).cells[j]? := recs_at ety_len h hj
theorem ety0z : (AV.int .i64 0 :: .str [] :: zer (.int .u8 0) 32) = (default : Ety).cells := rfl
theorem ety0b : (AV.int .i64 0 :: .str [] :: ofBytes (List.replicate 32 0)) = (default : Ety).cells := rfl
theorem over_ety (a b : Ety) : over a.cells 0 b.cells = b.cells := by
  unfold over; exact overall (by rw [ety_len, ety_len])
theorem ety_id (e : Ety) : sub e.cells 2 32 = ofBytes e.id := by
  simp only [sub, Ety.cells, List.drop_succ_cons, List.drop_zero]
  exact List.take_of_length_le (by rw [ofBytes_length, e.hid]; exact Nat.le_refl _)
theorem take_ety (e : Ety) : e.cells.take 34 = e.cells := List.take_of_length_le (by rw [ety_len]; exact Nat.le_refl _)
attribute [go_sem] etys_length flats_etys hards_etys leadss_etys refsOfs_etys rens_etys sub_etys ety0z ety0b over_ety ety_id take_ety
end Cod

/- A map from names to how often they came. -/
namespace Cod
open Go

def ints64 (l : List Int) : List AV := l.map (.int .i64)
theorem ints64_length (l : List Int) : (ints64 l).length = l.length := by simp [ints64]
theorem findK_strs (n : List UInt8) : ∀ (ks : List (List UInt8)) (j : Nat), findK true (.str n) (strs ks) j = some (if n ∈ ks then some (j + ks.idxOf n) else none) := by
  intro ks
  induction ks with
  | nil => intro j; rfl
  | cons k ks ih =>
    intro j
    show findK true (.str n) (.str k :: strs ks) j = _
    unfold findK
    by_cases h : n = k
    · subst h
      simp [keyEq]
    · have e : keyEq true (.str n) (.str k) = some false := by simp [keyEq, h]
      rw [e]
      simp only
      rw [ih (j + 1)]
      by_cases hm : n ∈ ks
      · have e2 : (k :: ks).idxOf n = ks.idxOf n + 1 := by
          rw [List.idxOf_cons]
          have : (k == n) = false := by simp [Ne.symm h]
          rw [this]; rfl
        rw [if_pos hm, if_pos (List.mem_cons_of_mem _ hm), e2]
        congr 2; omega
      · rw [if_neg hm, if_neg (by simp [h, hm])]
/-- What the map holds behind the names 'seen'. -/
structure MapOK (seen : List (List UInt8)) (ks : List (List UInt8)) (vs : List Int) : Prop where
  len : vs.length = ks.length
  mem : ∀ n, n ∈ ks ↔ n ∈ seen
  pos : ∀ v ∈ vs, 1 ≤ v ∧ v ≤ seen.length
theorem MapOK.nil : MapOK [] [] [] := ⟨rfl, fun _ => Iff.rfl, fun v h => by simp at h⟩
/-- A name more: one that came before. -/
theorem MapOK.old {seen ks : List (List UInt8)} {vs : List Int} (h : MapOK seen ks vs) {n : List UInt8} (hn : n ∈ ks) : ∃ v, vs[ks.idxOf n]? = some v ∧ 1 ≤ v ∧ v ≤ seen.length ∧ MapOK (seen ++ [n]) ks (vs.set (ks.idxOf n) (v + 1)) := by
  have hi : ks.idxOf n < vs.length := by rw [h.len]; exact List.idxOf_lt_length_of_mem hn
  obtain ⟨v, hv⟩ : ∃ v, vs[ks.idxOf n]? = some v := ⟨_, List.getElem?_eq_getElem hi⟩
  obtain ⟨p1, p2⟩ := h.pos v (List.mem_of_getElem? hv)
  refine ⟨v, hv, p1, p2, ⟨by rw [List.length_set]; exact h.len, ?_, ?_⟩⟩
  · intro m
    rw [h.mem, List.mem_append, List.mem_singleton]
    constructor
    · exact .inl
    · rintro (h1 | h1)
      · exact h1
      · rw [h1]; exact (h.mem n).1 hn
  · intro x hx
    rw [List.length_append, List.length_singleton]
    rcases List.mem_or_eq_of_mem_set hx with h1 | h1
    · have := h.pos x h1; omega
    · omega
/-- A name more: a new one. -/
theorem MapOK.new {seen ks : List (List UInt8)} {vs : List Int} (h : MapOK seen ks vs) {n : List UInt8} (hn : n ∉ ks) : MapOK (seen ++ [n]) (ks ++ [n]) (vs ++ [1]) := by
  refine ⟨by simp [h.len], ?_, ?_⟩
  · intro m
    simp only [List.mem_append, List.mem_singleton, h.mem]
  · intro x hx
    rw [List.length_append, List.length_singleton]
    rcases List.mem_append.1 hx with h1 | h1
    · have := h.pos x h1; omega
    · rw [List.mem_singleton.1 h1]; omega
end Cod

/- Octal texts. -/
namespace Cod
open Go

/-- The octal digits of u, ahead of 'acc'; the fuel is the count of digits that there may be. -/
def octL : Nat → Nat → List UInt8 → List UInt8
  | 0, _, acc => acc
  | f + 1, u, acc => if u < 8 then byt (48 + (u : Int)) :: acc else octL f (u / 8) (byt (48 + (u % 8 : Nat)) :: acc)
def octT (m : Int) : List UInt8 := (if m < 0 then [45] else []) ++ octL 22 m.natAbs []
theorem octL_len : ∀ (f u : Nat) (acc : List UInt8), (octL f u acc).length ≤ f + acc.length := by
  intro f
  induction f with
  | zero => intro u acc; simp [octL]
  | succ f ih =>
    intro u acc
    unfold octL
    split
    · simp; omega
    · have := ih (u / 8) (byt (48 + (u % 8 : Nat)) :: acc)
      simp only [List.length_cons] at this
      omega
theorem octT_len (m : Int) : (octT m).length ≤ 23 := by
  unfold octT
  have := octL_len 22 m.natAbs []
  rw [List.length_append]
  simp only [List.length_nil] at this
  split <;> simp <;> omega
end Cod

/- strconv.FormatInt at base 8. -/
namespace Cod
open Go
set_option maxRecDepth 100000

theorem tz8 : S E F.bits_TrailingZeros [.int .u64 8] [] = some (.int .i64 3, []) := S_iff.2 ⟨60, by kernel_rfl⟩
theorem pow8 : S E F.strconv_isPowerOfTwo [.int .i64 8] [] = some (.bool true, []) := S_iff.2 ⟨60, by kernel_rfl⟩
def dig36 : List UInt8 := [48, 49, 50, 51, 52, 53, 54, 55, 56, 57, 97, 98, 99, 100, 101, 102, 103, 104, 105, 106, 107, 108, 109, 110, 111, 112, 113, 114, 115, 116, 117, 118, 119, 120, 121, 122]
theorem dig36_at : ∀ u : Nat, u < 8 → bat dig36 u = 48 + (u : Int) := by decide
/-- The digits stand behind zeros. -/
def fbuf (i : Nat) (acc : List UInt8) : List UInt8 := List.replicate i 0 ++ acc
theorem fbuf_len (i : Nat) (acc : List UInt8) : (fbuf i acc).length = i + acc.length := by simp [fbuf]
theorem fbuf_set (i : Nat) (acc : List UInt8) (b : UInt8) : (fbuf (i + 1) acc).set i b = fbuf i (b :: acc) := by
  unfold fbuf
  rw [List.replicate_succ', List.append_assoc, List.set_append_right _ _ (by simp)]
  simp
theorem and7 (u : Nat) (h : u < 18446744073709551616) : iand .u64 (u : Int) 7 = ((u % 8 : Nat) : Int) := by
  unfold iand
  have e : (BitVec.ofInt IntKind.u64.bits (u : Int) &&& BitVec.ofInt IntKind.u64.bits 7).toNat = u % 8 := by
    rw [BitVec.toNat_and, BitVec.toNat_ofInt, BitVec.toNat_ofInt]
    show ((u : Int) % 18446744073709551616).toNat &&& 7 = u % 8
    rw [show ((u : Int) % 18446744073709551616).toNat = u by omega]
    exact Nat.and_two_pow_sub_one_eq_mod u 3
  rw [e, wrap_u64 (by omega) (by omega)]
theorem shr3 (u : Nat) : ishr .u64 (u : Int) 3 = ((u / 8 : Nat) : Int) := by
  have := ishr_any (k := .u64) (a := (u : Int)) (n := 3) (by decide)
  simp only [Int.cast_ofNat_Int] at this
  rw [this]
  omega
theorem fmt_l0 (k : List It) (b : Bool) : ∀ (f u i : Nat) (acc : List UInt8), u < 8 ^ f → u < 18446744073709551616 → f ≤ i → 1 ≤ f → i + acc.length = 65 →
    ∃ (i' u' : Nat) (acc' : List UInt8), u' < 8 ∧ 1 ≤ i' ∧ i' + acc'.length = 65 ∧ byt (48 + (u' : Int)) :: acc' = octL f u acc ∧ i + 1 ≤ f + i' ∧
    X E [.tmp 10, .tmp 11] (.c L.strconv_formatBits.x0 :: .lp [0, 1, 3, 4, 10, 11, 12, 13, 14, 15, 16] L.strconv_formatBits.x0 :: .blk 0 :: k) ⟨[(0, .nils), (1, .int .u64 u), (3, .bool b), (4, .bool false), (10, .buf (.s 1000000 0) 0 0 0 1), (11, .str []), (12, .ref (.s 1000000 1) 0 0), (13, .int .i64 i), (14, .int .u64 3), (15, .int .u64 8), (16, .int .u64 7)], [(.s 1000000 0, ⟨0, true, true, false, []⟩), (.s 1000000 1, ⟨0, true, true, true, ofBytes (fbuf i acc)⟩)]⟩ =
    X E [.tmp 10, .tmp 11] k ⟨[(0, .nils), (1, .int .u64 u'), (3, .bool b), (4, .bool false), (10, .buf (.s 1000000 0) 0 0 0 1), (11, .str []), (12, .ref (.s 1000000 1) 0 0), (13, .int .i64 i'), (14, .int .u64 3), (15, .int .u64 8), (16, .int .u64 7), (46, .bool false)], [(.s 1000000 0, ⟨0, true, true, false, []⟩), (.s 1000000 1, ⟨0, true, true, true, ofBytes (fbuf i' acc')⟩)]⟩ := by
  intro f
  induction f with
  | zero => intro u i acc hu h64 hi h1; omega
  | succ f ih =>
    intro u i acc hu h64 hi _ hl
    rw [X_in L.strconv_formatBits.x0.eq_1]
    by_cases h8 : u < 8
    · refine ⟨i, u, acc, h8, by omega, hl, by rw [octL, if_pos h8], by omega, ?_⟩
      simp (dsimp := false) (disch := first | omega | (simp only [strs_length, List.length_set, List.length_replicate, words_length, ofBytes_length, List.length_append, List.length_cons, List.length_nil, List.length_take, List.length_drop, fbuf_len] <;> omega) | fail) only [go_sem, reduceIte, reduceCtorEq, Nat.reduceEqDiff, Nat.reduceAdd, Nat.reduceSub, Nat.reduceMul, Nat.reduceDiv, Nat.reduceMod, Nat.reduceBEq, Nat.reduceLeDiff, Nat.reduceLT, Int.reduceEq, Int.reduceNe, Int.reduceLT, Int.reduceLE, Int.reduceBEq, Int.reduceBNe, Int.reduceToNat, Int.reduceAdd, Int.reduceSub, Int.reduceMul, Int.reduceNeg, zer_bytes, app_ofBytes, ofBytes_length, flats_ofBytes, hards_ofBytes, leadss_ofBytes, refsOfs_ofBytes, rens_ofBytes, bytesOf_ofBytes, sub_ofBytes, take_ofBytes, drop_ofBytes, get_ofBytes, over_ofBytes_all, over_ofBytes, ofBytes_snoc, h8]
    · have hf : 1 ≤ f := by
        rcases Nat.eq_zero_or_pos f with rfl | h
        · simp at hu; omega
        · exact h
      obtain ⟨j, rfl⟩ : ∃ j, i = j + 1 := ⟨i - 1, by omega⟩
      have hmod := dig36_at (u % 8) (by omega)
      obtain ⟨i', u', acc', q1, q2, q3, q4, q5, q6⟩ := ih (u / 8) j (byt (48 + (u % 8 : Nat)) :: acc) (by rw [Nat.pow_succ] at hu; omega) (by omega) (by omega) hf (by rw [List.length_cons]; omega)
      refine ⟨i', u', acc', q1, q2, q3, by rw [octL, if_neg h8]; exact q4, by omega, ?_⟩
      rw [← q6]
      have e1 : ((j + 1 : Nat) : Int) - 1 = j := by omega
      have e2 : iand .u64 (u : Int) 7 = ((u % 8 : Nat) : Int) := and7 u h64
      have e3 : ishr .u64 (u : Int) 3 = ((u / 8 : Nat) : Int) := shr3 u
      unfold dig36 at hmod
      have e4 : UInt8.ofNat (48 + ((u % 8 : Nat) : Int)).toNat = byt (48 + ((u % 8 : Nat) : Int)) := rfl
      simp (dsimp := false) (disch := first | omega | (simp only [strs_length, List.length_set, List.length_replicate, words_length, ofBytes_length, List.length_append, List.length_cons, List.length_nil, List.length_take, List.length_drop, fbuf_len] <;> omega) | fail) only [go_sem, reduceIte, reduceCtorEq, Nat.reduceEqDiff, Nat.reduceAdd, Nat.reduceSub, Nat.reduceMul, Nat.reduceDiv, Nat.reduceMod, Nat.reduceBEq, Nat.reduceLeDiff, Nat.reduceLT, Int.reduceEq, Int.reduceNe, Int.reduceLT, Int.reduceLE, Int.reduceBEq, Int.reduceBNe, Int.reduceToNat, Int.reduceAdd, Int.reduceSub, Int.reduceMul, Int.reduceNeg, zer_bytes, app_ofBytes, ofBytes_length, flats_ofBytes, hards_ofBytes, leadss_ofBytes, refsOfs_ofBytes, rens_ofBytes, bytesOf_ofBytes, sub_ofBytes, take_ofBytes, drop_ofBytes, get_ofBytes, over_ofBytes_all, over_ofBytes, ofBytes_snoc, h8, e1, e2, e3, toNat_cast, hmod, e4, fbuf_set]
theorem fbuf_drop (i : Nat) (acc : List UInt8) : sub (fbuf i acc) i acc.length = acc := by
  unfold fbuf sub
  rw [List.drop_left' (by simp), List.take_length]
theorem go_fmtBits {u : Nat} {b : Bool} (h64 : u ≤ 9223372036854775808) : S E F.strconv_formatBits [.nils, .int .u64 (if b then (if u = 0 then 0 else 18446744073709551616 - (u : Int)) else u), .int .i64 8, .bool b, .bool false] [] = some (.tup [.buf (.r 0) 0 0 0 1, .str ((if b then [45] else []) ++ octL 22 u [])], [(.r 0, ⟨0, true, true, false, []⟩)]) := by
  have h22 : (8 : Nat) ^ 22 = 73786976294838206464 := by decide
  obtain ⟨i', u', acc', q1, q2, q3, q4, q5, q6⟩ := fmt_l0 [.c L.strconv_formatBits.r0, .c L.strconv_formatBits.r2] b 22 u 65 [] (by omega) (by omega) (by omega) (by omega) rfl
  obtain ⟨j, rfl⟩ : ∃ j, i' = j + 1 := ⟨i' - 1, by omega⟩
  have hmod := dig36_at u' q1
  unfold dig36 at hmod
  have e1 : ((j + 1 : Nat) : Int) - 1 = j := by omega
  have e4 : UInt8.ofNat (48 + (u' : Int)).toNat = byt (48 + (u' : Int)) := rfl
  have e5 : fbuf 65 [] = List.replicate 65 0 := by simp [fbuf]
  rw [e5] at q6
  simp only [Int.cast_ofNat_Int] at q6
  have hs1 : sub (fbuf j (byt (48 + (u' : Int)) :: acc')) j (65 - j) = octL 22 u [] := by
    rw [← q4, show 65 - j = (byt (48 + (u' : Int)) :: acc').length by rw [List.length_cons]; omega]
    exact fbuf_drop j _
  rw [S_of fn_strconv_formatBits rfl rfl]
  cases b with
  | false =>
    simp (dsimp := false) (disch := first | omega | (simp only [strs_length, List.length_set, List.length_replicate, words_length, ofBytes_length, List.length_append, List.length_cons, List.length_nil, List.length_take, List.length_drop, fbuf_len] <;> omega) | fail) only [L.strconv_formatBits, go_sem, reduceIte, reduceCtorEq, Nat.reduceEqDiff, Nat.reduceAdd, Nat.reduceSub, Nat.reduceMul, Nat.reduceDiv, Nat.reduceMod, Nat.reduceBEq, Nat.reduceLeDiff, Nat.reduceLT, Int.reduceEq, Int.reduceNe, Int.reduceLT, Int.reduceLE, Int.reduceBEq, Int.reduceBNe, Int.reduceToNat, Int.reduceAdd, Int.reduceSub, Int.reduceMul, Int.reduceNeg, zer_bytes, app_ofBytes, ofBytes_length, flats_ofBytes, hards_ofBytes, leadss_ofBytes, refsOfs_ofBytes, rens_ofBytes, bytesOf_ofBytes, sub_ofBytes, take_ofBytes, drop_ofBytes, get_ofBytes, over_ofBytes_all, over_ofBytes, ofBytes_snoc, tz8, pow8]
    rw [q6]
    simp (dsimp := false) (disch := first | omega | (simp only [strs_length, List.length_set, List.length_replicate, words_length, ofBytes_length, List.length_append, List.length_cons, List.length_nil, List.length_take, List.length_drop, fbuf_len] <;> omega) | fail) only [L.strconv_formatBits.r0, go_sem, reduceIte, reduceCtorEq, Nat.reduceEqDiff, Nat.reduceAdd, Nat.reduceSub, Nat.reduceMul, Nat.reduceDiv, Nat.reduceMod, Nat.reduceBEq, Nat.reduceLeDiff, Nat.reduceLT, Int.reduceEq, Int.reduceNe, Int.reduceLT, Int.reduceLE, Int.reduceBEq, Int.reduceBNe, Int.reduceToNat, Int.reduceAdd, Int.reduceSub, Int.reduceMul, Int.reduceNeg, zer_bytes, app_ofBytes, ofBytes_length, flats_ofBytes, hards_ofBytes, leadss_ofBytes, refsOfs_ofBytes, rens_ofBytes, bytesOf_ofBytes, sub_ofBytes, take_ofBytes, drop_ofBytes, get_ofBytes, over_ofBytes_all, over_ofBytes, ofBytes_snoc, e1, hmod, e4, fbuf_set, toNat_cast]
    simp (dsimp := false) (disch := first | omega | (simp only [strs_length, List.length_set, List.length_replicate, words_length, ofBytes_length, List.length_append, List.length_cons, List.length_nil, List.length_take, List.length_drop, fbuf_len] <;> omega) | fail) only [L.strconv_formatBits.r2, go_sem, reduceIte, reduceCtorEq, Nat.reduceEqDiff, Nat.reduceAdd, Nat.reduceSub, Nat.reduceMul, Nat.reduceDiv, Nat.reduceMod, Nat.reduceBEq, Nat.reduceLeDiff, Nat.reduceLT, Int.reduceEq, Int.reduceNe, Int.reduceLT, Int.reduceLE, Int.reduceBEq, Int.reduceBNe, Int.reduceToNat, Int.reduceAdd, Int.reduceSub, Int.reduceMul, Int.reduceNeg, zer_bytes, app_ofBytes, ofBytes_length, flats_ofBytes, hards_ofBytes, leadss_ofBytes, refsOfs_ofBytes, rens_ofBytes, bytesOf_ofBytes, sub_ofBytes, take_ofBytes, drop_ofBytes, get_ofBytes, over_ofBytes_all, over_ofBytes, ofBytes_snoc, e1, hmod, e4, fbuf_set, toNat_cast, hs1]
  | true =>
    have e6 : IntKind.u64.wrap (0 - (if u = 0 then 0 else 18446744073709551616 - (u : Int))) = u := by
      simp only [IntKind.wrap, IntKind.signed, IntKind.bits]
      split <;> simp <;> omega
    simp (dsimp := false) (disch := first | omega | (simp only [strs_length, List.length_set, List.length_replicate, words_length, ofBytes_length, List.length_append, List.length_cons, List.length_nil, List.length_take, List.length_drop, fbuf_len] <;> omega) | fail) only [L.strconv_formatBits, go_sem, reduceIte, reduceCtorEq, Nat.reduceEqDiff, Nat.reduceAdd, Nat.reduceSub, Nat.reduceMul, Nat.reduceDiv, Nat.reduceMod, Nat.reduceBEq, Nat.reduceLeDiff, Nat.reduceLT, Int.reduceEq, Int.reduceNe, Int.reduceLT, Int.reduceLE, Int.reduceBEq, Int.reduceBNe, Int.reduceToNat, Int.reduceAdd, Int.reduceSub, Int.reduceMul, Int.reduceNeg, zer_bytes, app_ofBytes, ofBytes_length, flats_ofBytes, hards_ofBytes, leadss_ofBytes, refsOfs_ofBytes, rens_ofBytes, bytesOf_ofBytes, sub_ofBytes, take_ofBytes, drop_ofBytes, get_ofBytes, over_ofBytes_all, over_ofBytes, ofBytes_snoc, tz8, pow8, e6]
    rw [q6]
    obtain ⟨m, rfl⟩ : ∃ m, j = m + 1 := ⟨j - 1, by omega⟩
    have e7 : ((m + 1 : Nat) : Int) - 1 = m := by omega
    have hs2 : sub (fbuf m (45 :: byt (48 + (u' : Int)) :: acc')) m (65 - m) = 45 :: octL 22 u [] := by
      rw [← q4, show 65 - m = (45 :: byt (48 + (u' : Int)) :: acc').length by rw [List.length_cons, List.length_cons]; omega]
      exact fbuf_drop m _
    have e8 : UInt8.ofNat 45 = 45 := rfl
    simp (dsimp := false) (disch := first | omega | (simp only [strs_length, List.length_set, List.length_replicate, words_length, ofBytes_length, List.length_append, List.length_cons, List.length_nil, List.length_take, List.length_drop, fbuf_len] <;> omega) | fail) only [L.strconv_formatBits.r0, go_sem, reduceIte, reduceCtorEq, Nat.reduceEqDiff, Nat.reduceAdd, Nat.reduceSub, Nat.reduceMul, Nat.reduceDiv, Nat.reduceMod, Nat.reduceBEq, Nat.reduceLeDiff, Nat.reduceLT, Int.reduceEq, Int.reduceNe, Int.reduceLT, Int.reduceLE, Int.reduceBEq, Int.reduceBNe, Int.reduceToNat, Int.reduceAdd, Int.reduceSub, Int.reduceMul, Int.reduceNeg, zer_bytes, app_ofBytes, ofBytes_length, flats_ofBytes, hards_ofBytes, leadss_ofBytes, refsOfs_ofBytes, rens_ofBytes, bytesOf_ofBytes, sub_ofBytes, take_ofBytes, drop_ofBytes, get_ofBytes, over_ofBytes_all, over_ofBytes, ofBytes_snoc, e1, hmod, e4, fbuf_set, toNat_cast]
    simp (dsimp := false) (disch := first | omega | (simp only [strs_length, List.length_set, List.length_replicate, words_length, ofBytes_length, List.length_append, List.length_cons, List.length_nil, List.length_take, List.length_drop, fbuf_len] <;> omega) | fail) only [L.strconv_formatBits.r2, go_sem, reduceIte, reduceCtorEq, Nat.reduceEqDiff, Nat.reduceAdd, Nat.reduceSub, Nat.reduceMul, Nat.reduceDiv, Nat.reduceMod, Nat.reduceBEq, Nat.reduceLeDiff, Nat.reduceLT, Int.reduceEq, Int.reduceNe, Int.reduceLT, Int.reduceLE, Int.reduceBEq, Int.reduceBNe, Int.reduceToNat, Int.reduceAdd, Int.reduceSub, Int.reduceMul, Int.reduceNeg, zer_bytes, app_ofBytes, ofBytes_length, flats_ofBytes, hards_ofBytes, leadss_ofBytes, refsOfs_ofBytes, rens_ofBytes, bytesOf_ofBytes, sub_ofBytes, take_ofBytes, drop_ofBytes, get_ofBytes, over_ofBytes_all, over_ofBytes, ofBytes_snoc, e7, e8, fbuf_set, toNat_cast, hs2]
theorem go_format8 {m : Int} (h0 : -9223372036854775808 ≤ m) (h1 : m ≤ 9223372036854775807) : S E F.strconv_FormatInt [.int .i64 m, .int .i64 8] [] = some (.str (octT m), []) := by
  have hb : S E F.strconv_FormatInt_87 [.int .i64 m, .int .i64 8] [] = some (.str (octT m), []) := by
    rw [S_of fn_strconv_FormatInt_87 rfl rfl]
    unfold octT
    by_cases hn : m < 0
    · have h2 := go_fmtBits (u := m.natAbs) (b := true) (by omega)
      rw [if_pos rfl, if_neg (by omega), if_pos rfl] at h2
      have e : IntKind.u64.wrap m = 18446744073709551616 - ((m.natAbs : Nat) : Int) := by
        simp only [IntKind.wrap, IntKind.signed, IntKind.bits]; simp; omega
      rw [if_pos hn]
      simp (dsimp := false) (disch := first | omega | (simp only [strs_length, List.length_set, List.length_replicate, words_length, ofBytes_length, List.length_append, List.length_cons, List.length_nil, List.length_take, List.length_drop, fbuf_len] <;> omega) | fail) only [L.strconv_FormatInt_87, go_sem, reduceIte, reduceCtorEq, Nat.reduceEqDiff, Nat.reduceAdd, Nat.reduceSub, Nat.reduceMul, Nat.reduceDiv, Nat.reduceMod, Nat.reduceBEq, Nat.reduceLeDiff, Nat.reduceLT, Int.reduceEq, Int.reduceNe, Int.reduceLT, Int.reduceLE, Int.reduceBEq, Int.reduceBNe, Int.reduceToNat, Int.reduceAdd, Int.reduceSub, Int.reduceMul, Int.reduceNeg, zer_bytes, app_ofBytes, ofBytes_length, flats_ofBytes, hards_ofBytes, leadss_ofBytes, refsOfs_ofBytes, rens_ofBytes, bytesOf_ofBytes, sub_ofBytes, take_ofBytes, drop_ofBytes, get_ofBytes, over_ofBytes_all, over_ofBytes, ofBytes_snoc, hn, e, h2]
    · have h2 := go_fmtBits (u := m.natAbs) (b := false) (by omega)
      rw [if_neg (by simp), if_neg (by simp)] at h2
      have e : IntKind.u64.wrap m = ((m.natAbs : Nat) : Int) := by
        simp only [IntKind.wrap, IntKind.signed, IntKind.bits]; simp; omega
      rw [if_neg hn]
      simp (dsimp := false) (disch := first | omega | (simp only [strs_length, List.length_set, List.length_replicate, words_length, ofBytes_length, List.length_append, List.length_cons, List.length_nil, List.length_take, List.length_drop, fbuf_len] <;> omega) | fail) only [L.strconv_FormatInt_87, go_sem, reduceIte, reduceCtorEq, Nat.reduceEqDiff, Nat.reduceAdd, Nat.reduceSub, Nat.reduceMul, Nat.reduceDiv, Nat.reduceMod, Nat.reduceBEq, Nat.reduceLeDiff, Nat.reduceLT, Int.reduceEq, Int.reduceNe, Int.reduceLT, Int.reduceLE, Int.reduceBEq, Int.reduceBNe, Int.reduceToNat, Int.reduceAdd, Int.reduceSub, Int.reduceMul, Int.reduceNeg, zer_bytes, app_ofBytes, ofBytes_length, flats_ofBytes, hards_ofBytes, leadss_ofBytes, refsOfs_ofBytes, rens_ofBytes, bytesOf_ofBytes, sub_ofBytes, take_ofBytes, drop_ofBytes, get_ofBytes, over_ofBytes_all, over_ofBytes, ofBytes_snoc, hn, e, h2]
  rw [S_of fn_strconv_FormatInt rfl rfl]
  simp (dsimp := false) (disch := first | omega | (simp only [strs_length, List.length_set, List.length_replicate, words_length, ofBytes_length, List.length_append, List.length_cons, List.length_nil, List.length_take, List.length_drop, fbuf_len] <;> omega) | fail) only [L.strconv_FormatInt, go_sem, reduceIte, reduceCtorEq, Nat.reduceEqDiff, Nat.reduceAdd, Nat.reduceSub, Nat.reduceMul, Nat.reduceDiv, Nat.reduceMod, Nat.reduceBEq, Nat.reduceLeDiff, Nat.reduceLT, Int.reduceEq, Int.reduceNe, Int.reduceLT, Int.reduceLE, Int.reduceBEq, Int.reduceBNe, Int.reduceToNat, Int.reduceAdd, Int.reduceSub, Int.reduceMul, Int.reduceNeg, hb]
end Cod

/- Functions of texts out of the library: as they are used by names. -/
namespace Cod
open Go
set_option maxRecDepth 100000

theorem fold_closed (r v : Int) (h : (r = 46 ∧ v = 46) ∨ (r = 103 ∧ v = 71) ∨ (r = 71 ∧ v = 103) ∨ (r = 105 ∧ v = 73) ∨ (r = 73 ∧ v = 105) ∨ (r = 116 ∧ v = 84) ∨ (r = 84 ∧ v = 116)) : S E0 F.unicode_SimpleFold [.int .i32 r] [] = some (.int .i32 v, []) := by
  rcases h with ⟨rfl, rfl⟩ | ⟨rfl, rfl⟩ | ⟨rfl, rfl⟩ | ⟨rfl, rfl⟩ | ⟨rfl, rfl⟩ | ⟨rfl, rfl⟩ | ⟨rfl, rfl⟩ <;> exact S_iff.2 ⟨60, by kernel_rfl⟩
theorem decode_ascii {b : UInt8} {l : List UInt8} (h : b < 128) : S E0 F.utf8_DecodeRuneInString [.str (b :: l)] [] = some (.tup [.int .i32 b.toNat, .int .i64 1], []) := by
  have hb : b.toNat < 128 := h
  rw [S_of0 fn_utf8_DecodeRuneInString rfl rfl]
  have h1 : ((b :: l : List UInt8) == []) = false := rfl
  have h2 : ((b.toNat : Int) < 128) := by omega
  have h3 : IntKind.i32.wrap (b.toNat : Int) = b.toNat := by
    simp only [IntKind.wrap, IntKind.signed, IntKind.bits]; simp; omega
  simp (dsimp := false) (disch := first | omega | (simp only [strs_length, List.length_set, List.length_replicate, words_length, ofBytes_length, List.length_append, List.length_cons, List.length_nil, List.length_take, List.length_drop] <;> omega) | fail) only [L.utf8_DecodeRuneInString, go_sem, reduceIte, reduceCtorEq, Nat.reduceEqDiff, Nat.reduceAdd, Nat.reduceSub, Nat.reduceMul, Nat.reduceDiv, Nat.reduceMod, Nat.reduceBEq, Nat.reduceLeDiff, Nat.reduceLT, Int.reduceEq, Int.reduceNe, Int.reduceLT, Int.reduceLE, Int.reduceBEq, Int.reduceBNe, Int.reduceToNat, Int.reduceAdd, Int.reduceSub, Int.reduceMul, Int.reduceNeg, h1, h2, h3, bat, List.getD_cons_zero]
/-- What stands behind the label. -/
def EFrest : LCode := match L.strings_EqualFold.r0 with | .seq _ (.seq _ r) => r | _ => .skip
theorem ba_get {l : List UInt8} {i : Nat} (h : i < l.length) : ((⟨l.toArray⟩ : ByteArray).get! i).toNat = (l.getD i 0).toNat := by
  simp [ByteArray.get!, h, List.getD]
theorem dec_high {l : List UInt8} {i : Nat} (h : i < l.length) (hb : 128 ≤ bat l i) : 128 ≤ (decS l i).1 := by
  have hg : ((⟨l.toArray⟩ : ByteArray).get! (i + 0)).toNat = (l.getD i 0).toNat := ba_get h
  unfold bat at hb
  unfold decS Utf8.decode Utf8.runeError
  simp only [hg]
  repeat' split
  all_goals (try simp only [ge_iff_le, Bool.and_eq_true, decide_eq_true_eq] at *)
  all_goals omega
theorem or_high : ∀ t ∈ [46, 103, 105, 116], ∀ n : Nat, n < 256 → (decide ((128 : Int) ≤ ior .u8 n t)) = decide (128 ≤ n) := by decide +kernel
theorem ef_uni {SC : LCode} {s : List UInt8} (hs : s.length = 4) (i : Nat) (hi : i < 4) (hb : 128 ≤ bat s i) (v6 v21 v7 v8 v33 : AV) :
    X E0 [.tmp 4] [.c EFrest, .scp SC] ⟨[(0, .str s), (1, .str [46, 103, 105, 116]), (5, .int .i64 i), (6, v6), (21, v21), (7, v7), (8, v8), (33, v33)], []⟩ = some (.bool false, []) := by
  have hd : 0 < (s.drop i).length := by rw [List.length_drop]; omega
  have hb' : 128 ≤ bat (s.drop i) 0 := by simpa [bat] using hb
  have hr := dec_high hd hb'
  generalize he : decS (s.drop i) 0 = q at hr
  obtain ⟨r, wd⟩ := q
  have : i = 0 ∨ i = 1 ∨ i = 2 ∨ i = 3 := by omega
  have hrz : (128 : Int) ≤ r := by simp only at hr; omega
  have d46 : S E0 F.utf8_DecodeRuneInString [.str [46, 103, 105, 116]] [] = some (.tup [.int .i32 46, .int .i64 1], []) := decode_ascii (by decide)
  have d103 : S E0 F.utf8_DecodeRuneInString [.str [103, 105, 116]] [] = some (.tup [.int .i32 103, .int .i64 1], []) := decode_ascii (by decide)
  have d105 : S E0 F.utf8_DecodeRuneInString [.str [105, 116]] [] = some (.tup [.int .i32 105, .int .i64 1], []) := decode_ascii (by decide)
  have d116 : S E0 F.utf8_DecodeRuneInString [.str [116]] [] = some (.tup [.int .i32 116, .int .i64 1], []) := decode_ascii (by decide)
  have f46 := fold_closed 46 46 (by simp)
  have f103 := fold_closed 103 71 (by simp)
  have f71 := fold_closed 71 103 (by simp)
  have f105 := fold_closed 105 73 (by simp)
  have f73 := fold_closed 73 105 (by simp)
  have f116 := fold_closed 116 84 (by simp)
  have f84 := fold_closed 84 116 (by simp)
  rcases this with rfl | rfl | rfl | rfl
  · simp (dsimp := false) (disch := first | omega | (simp only [strs_length, List.length_set, List.length_replicate, words_length, ofBytes_length, List.length_append, List.length_cons, List.length_nil, List.length_take, List.length_drop] <;> omega) | fail) only [EFrest, L.strings_EqualFold.r0, go_sem, reduceIte, reduceCtorEq, Nat.reduceEqDiff, Nat.reduceAdd, Nat.reduceSub, Nat.reduceMul, Nat.reduceDiv, Nat.reduceMod, Nat.reduceBEq, Nat.reduceLeDiff, Nat.reduceLT, Int.reduceEq, Int.reduceNe, Int.reduceLT, Int.reduceLE, Int.reduceBEq, Int.reduceBNe, Int.reduceToNat, Int.reduceAdd, Int.reduceSub, Int.reduceMul, Int.reduceNeg, sub_take, take_len, sub_drop]
    simp only [List.drop_zero] at hd he
    rw [X_in L.strings_EqualFold.x1.eq_1]
    simp (dsimp := false) (disch := first | omega | (simp only [strs_length, List.length_set, List.length_replicate, words_length, ofBytes_length, List.length_append, List.length_cons, List.length_nil, List.length_take, List.length_drop] <;> omega) | fail) only [go_sem, reduceIte, reduceCtorEq, Nat.reduceEqDiff, Nat.reduceAdd, Nat.reduceSub, Nat.reduceMul, Nat.reduceDiv, Nat.reduceMod, Nat.reduceBEq, Nat.reduceLeDiff, Nat.reduceLT, Int.reduceEq, Int.reduceNe, Int.reduceLT, Int.reduceLE, Int.reduceBEq, Int.reduceBNe, Int.reduceToNat, Int.reduceAdd, Int.reduceSub, Int.reduceMul, Int.reduceNeg, sub_take, take_len, sub_drop, hd, he, d46, f46]
    rw [X_in L.strings_EqualFold.x2.eq_1]
    simp (dsimp := false) (disch := first | omega | (simp only [strs_length, List.length_set, List.length_replicate, words_length, ofBytes_length, List.length_append, List.length_cons, List.length_nil, List.length_take, List.length_drop] <;> omega) | fail) only [go_sem, reduceIte, reduceCtorEq, Nat.reduceEqDiff, Nat.reduceAdd, Nat.reduceSub, Nat.reduceMul, Nat.reduceDiv, Nat.reduceMod, Nat.reduceBEq, Nat.reduceLeDiff, Nat.reduceLT, Int.reduceEq, Int.reduceNe, Int.reduceLT, Int.reduceLE, Int.reduceBEq, Int.reduceBNe, Int.reduceToNat, Int.reduceAdd, Int.reduceSub, Int.reduceMul, Int.reduceNeg, sub_take, take_len, sub_drop, f46, L.strings_EqualFold.r1]
  · simp (dsimp := false) (disch := first | omega | (simp only [strs_length, List.length_set, List.length_replicate, words_length, ofBytes_length, List.length_append, List.length_cons, List.length_nil, List.length_take, List.length_drop] <;> omega) | fail) only [EFrest, L.strings_EqualFold.r0, go_sem, reduceIte, reduceCtorEq, Nat.reduceEqDiff, Nat.reduceAdd, Nat.reduceSub, Nat.reduceMul, Nat.reduceDiv, Nat.reduceMod, Nat.reduceBEq, Nat.reduceLeDiff, Nat.reduceLT, Int.reduceEq, Int.reduceNe, Int.reduceLT, Int.reduceLE, Int.reduceBEq, Int.reduceBNe, Int.reduceToNat, Int.reduceAdd, Int.reduceSub, Int.reduceMul, Int.reduceNeg, sub_take, take_len, sub_drop]
    rw [X_in L.strings_EqualFold.x1.eq_1]
    simp (dsimp := false) (disch := first | omega | (simp only [strs_length, List.length_set, List.length_replicate, words_length, ofBytes_length, List.length_append, List.length_cons, List.length_nil, List.length_take, List.length_drop] <;> omega) | fail) only [go_sem, reduceIte, reduceCtorEq, Nat.reduceEqDiff, Nat.reduceAdd, Nat.reduceSub, Nat.reduceMul, Nat.reduceDiv, Nat.reduceMod, Nat.reduceBEq, Nat.reduceLeDiff, Nat.reduceLT, Int.reduceEq, Int.reduceNe, Int.reduceLT, Int.reduceLE, Int.reduceBEq, Int.reduceBNe, Int.reduceToNat, Int.reduceAdd, Int.reduceSub, Int.reduceMul, Int.reduceNeg, sub_take, take_len, sub_drop, hd, he, d103, f103]
    rw [X_in L.strings_EqualFold.x2.eq_1]
    simp (dsimp := false) (disch := first | omega | (simp only [strs_length, List.length_set, List.length_replicate, words_length, ofBytes_length, List.length_append, List.length_cons, List.length_nil, List.length_take, List.length_drop] <;> omega) | fail) only [go_sem, reduceIte, reduceCtorEq, Nat.reduceEqDiff, Nat.reduceAdd, Nat.reduceSub, Nat.reduceMul, Nat.reduceDiv, Nat.reduceMod, Nat.reduceBEq, Nat.reduceLeDiff, Nat.reduceLT, Int.reduceEq, Int.reduceNe, Int.reduceLT, Int.reduceLE, Int.reduceBEq, Int.reduceBNe, Int.reduceToNat, Int.reduceAdd, Int.reduceSub, Int.reduceMul, Int.reduceNeg, sub_take, take_len, sub_drop, f71, L.strings_EqualFold.r1]
    rw [X_in L.strings_EqualFold.x2.eq_1]
    simp (dsimp := false) (disch := first | omega | (simp only [strs_length, List.length_set, List.length_replicate, words_length, ofBytes_length, List.length_append, List.length_cons, List.length_nil, List.length_take, List.length_drop] <;> omega) | fail) only [go_sem, reduceIte, reduceCtorEq, Nat.reduceEqDiff, Nat.reduceAdd, Nat.reduceSub, Nat.reduceMul, Nat.reduceDiv, Nat.reduceMod, Nat.reduceBEq, Nat.reduceLeDiff, Nat.reduceLT, Int.reduceEq, Int.reduceNe, Int.reduceLT, Int.reduceLE, Int.reduceBEq, Int.reduceBNe, Int.reduceToNat, Int.reduceAdd, Int.reduceSub, Int.reduceMul, Int.reduceNeg, sub_take, take_len, sub_drop, f71, L.strings_EqualFold.r1]
  · simp (dsimp := false) (disch := first | omega | (simp only [strs_length, List.length_set, List.length_replicate, words_length, ofBytes_length, List.length_append, List.length_cons, List.length_nil, List.length_take, List.length_drop] <;> omega) | fail) only [EFrest, L.strings_EqualFold.r0, go_sem, reduceIte, reduceCtorEq, Nat.reduceEqDiff, Nat.reduceAdd, Nat.reduceSub, Nat.reduceMul, Nat.reduceDiv, Nat.reduceMod, Nat.reduceBEq, Nat.reduceLeDiff, Nat.reduceLT, Int.reduceEq, Int.reduceNe, Int.reduceLT, Int.reduceLE, Int.reduceBEq, Int.reduceBNe, Int.reduceToNat, Int.reduceAdd, Int.reduceSub, Int.reduceMul, Int.reduceNeg, sub_take, take_len, sub_drop]
    rw [X_in L.strings_EqualFold.x1.eq_1]
    simp (dsimp := false) (disch := first | omega | (simp only [strs_length, List.length_set, List.length_replicate, words_length, ofBytes_length, List.length_append, List.length_cons, List.length_nil, List.length_take, List.length_drop] <;> omega) | fail) only [go_sem, reduceIte, reduceCtorEq, Nat.reduceEqDiff, Nat.reduceAdd, Nat.reduceSub, Nat.reduceMul, Nat.reduceDiv, Nat.reduceMod, Nat.reduceBEq, Nat.reduceLeDiff, Nat.reduceLT, Int.reduceEq, Int.reduceNe, Int.reduceLT, Int.reduceLE, Int.reduceBEq, Int.reduceBNe, Int.reduceToNat, Int.reduceAdd, Int.reduceSub, Int.reduceMul, Int.reduceNeg, sub_take, take_len, sub_drop, hd, he, d105, f105]
    rw [X_in L.strings_EqualFold.x2.eq_1]
    simp (dsimp := false) (disch := first | omega | (simp only [strs_length, List.length_set, List.length_replicate, words_length, ofBytes_length, List.length_append, List.length_cons, List.length_nil, List.length_take, List.length_drop] <;> omega) | fail) only [go_sem, reduceIte, reduceCtorEq, Nat.reduceEqDiff, Nat.reduceAdd, Nat.reduceSub, Nat.reduceMul, Nat.reduceDiv, Nat.reduceMod, Nat.reduceBEq, Nat.reduceLeDiff, Nat.reduceLT, Int.reduceEq, Int.reduceNe, Int.reduceLT, Int.reduceLE, Int.reduceBEq, Int.reduceBNe, Int.reduceToNat, Int.reduceAdd, Int.reduceSub, Int.reduceMul, Int.reduceNeg, sub_take, take_len, sub_drop, f73, L.strings_EqualFold.r1]
    rw [X_in L.strings_EqualFold.x2.eq_1]
    simp (dsimp := false) (disch := first | omega | (simp only [strs_length, List.length_set, List.length_replicate, words_length, ofBytes_length, List.length_append, List.length_cons, List.length_nil, List.length_take, List.length_drop] <;> omega) | fail) only [go_sem, reduceIte, reduceCtorEq, Nat.reduceEqDiff, Nat.reduceAdd, Nat.reduceSub, Nat.reduceMul, Nat.reduceDiv, Nat.reduceMod, Nat.reduceBEq, Nat.reduceLeDiff, Nat.reduceLT, Int.reduceEq, Int.reduceNe, Int.reduceLT, Int.reduceLE, Int.reduceBEq, Int.reduceBNe, Int.reduceToNat, Int.reduceAdd, Int.reduceSub, Int.reduceMul, Int.reduceNeg, sub_take, take_len, sub_drop, f73, L.strings_EqualFold.r1]
  · simp (dsimp := false) (disch := first | omega | (simp only [strs_length, List.length_set, List.length_replicate, words_length, ofBytes_length, List.length_append, List.length_cons, List.length_nil, List.length_take, List.length_drop] <;> omega) | fail) only [EFrest, L.strings_EqualFold.r0, go_sem, reduceIte, reduceCtorEq, Nat.reduceEqDiff, Nat.reduceAdd, Nat.reduceSub, Nat.reduceMul, Nat.reduceDiv, Nat.reduceMod, Nat.reduceBEq, Nat.reduceLeDiff, Nat.reduceLT, Int.reduceEq, Int.reduceNe, Int.reduceLT, Int.reduceLE, Int.reduceBEq, Int.reduceBNe, Int.reduceToNat, Int.reduceAdd, Int.reduceSub, Int.reduceMul, Int.reduceNeg, sub_take, take_len, sub_drop]
    rw [X_in L.strings_EqualFold.x1.eq_1]
    simp (dsimp := false) (disch := first | omega | (simp only [strs_length, List.length_set, List.length_replicate, words_length, ofBytes_length, List.length_append, List.length_cons, List.length_nil, List.length_take, List.length_drop] <;> omega) | fail) only [go_sem, reduceIte, reduceCtorEq, Nat.reduceEqDiff, Nat.reduceAdd, Nat.reduceSub, Nat.reduceMul, Nat.reduceDiv, Nat.reduceMod, Nat.reduceBEq, Nat.reduceLeDiff, Nat.reduceLT, Int.reduceEq, Int.reduceNe, Int.reduceLT, Int.reduceLE, Int.reduceBEq, Int.reduceBNe, Int.reduceToNat, Int.reduceAdd, Int.reduceSub, Int.reduceMul, Int.reduceNeg, sub_take, take_len, sub_drop, hd, he, d116, f116]
    rw [X_in L.strings_EqualFold.x2.eq_1]
    simp (dsimp := false) (disch := first | omega | (simp only [strs_length, List.length_set, List.length_replicate, words_length, ofBytes_length, List.length_append, List.length_cons, List.length_nil, List.length_take, List.length_drop] <;> omega) | fail) only [go_sem, reduceIte, reduceCtorEq, Nat.reduceEqDiff, Nat.reduceAdd, Nat.reduceSub, Nat.reduceMul, Nat.reduceDiv, Nat.reduceMod, Nat.reduceBEq, Nat.reduceLeDiff, Nat.reduceLT, Int.reduceEq, Int.reduceNe, Int.reduceLT, Int.reduceLE, Int.reduceBEq, Int.reduceBNe, Int.reduceToNat, Int.reduceAdd, Int.reduceSub, Int.reduceMul, Int.reduceNeg, sub_take, take_len, sub_drop, f84, L.strings_EqualFold.r1]
    rw [X_in L.strings_EqualFold.x2.eq_1]
    simp (dsimp := false) (disch := first | omega | (simp only [strs_length, List.length_set, List.length_replicate, words_length, ofBytes_length, List.length_append, List.length_cons, List.length_nil, List.length_take, List.length_drop] <;> omega) | fail) only [go_sem, reduceIte, reduceCtorEq, Nat.reduceEqDiff, Nat.reduceAdd, Nat.reduceSub, Nat.reduceMul, Nat.reduceDiv, Nat.reduceMod, Nat.reduceBEq, Nat.reduceLeDiff, Nat.reduceLT, Int.reduceEq, Int.reduceNe, Int.reduceLT, Int.reduceLE, Int.reduceBEq, Int.reduceBNe, Int.reduceToNat, Int.reduceAdd, Int.reduceSub, Int.reduceMul, Int.reduceNeg, sub_take, take_len, sub_drop, f84, L.strings_EqualFold.r1]
/-- Are two letters of an ASCII text alike when case is folded? -/
def gitAt (b t : Int) : Bool := b == t || (decide (b < t) && (decide (65 ≤ b) && (decide (b ≤ 90) && (t == b + 32))))
theorem ef_it {SC : LCode} (hSC : findL SC 0 = some (.seq .skip EFrest)) {s : List UInt8} (hs : s.length = 4) (i : Nat) (t : Int) (hi : (i = 0 ∧ t = 46) ∨ (i = 1 ∧ t = 103) ∨ (i = 2 ∧ t = 105) ∨ (i = 3 ∧ t = 116)) :
    X E0 [.tmp 4] (.c L.strings_EqualFold.x0 :: .lp [0, 1, 5, 6] L.strings_EqualFold.x0 :: .blk 0 :: .c L.strings_EqualFold.r0 :: .scp SC :: []) ⟨[(0, .str s), (1, .str [46, 103, 105, 116]), (5, .int .i64 i), (6, .int .i64 4)], []⟩ =
    if bat s i < 128 ∧ gitAt (bat s i) t = true then X E0 [.tmp 4] (.c L.strings_EqualFold.x0 :: .lp [0, 1, 5, 6] L.strings_EqualFold.x0 :: .blk 0 :: .c L.strings_EqualFold.r0 :: .scp SC :: []) ⟨[(0, .str s), (1, .str [46, 103, 105, 116]), (5, .int .i64 (i + 1 : Int)), (6, .int .i64 4)], []⟩ else some (.bool false, []) := by
  obtain ⟨h0, h1⟩ := bat_range s i
  have hor := or_high t (by rcases hi with ⟨_, rfl⟩ | ⟨_, rfl⟩ | ⟨_, rfl⟩ | ⟨_, rfl⟩ <;> simp) (bat s i).toNat (by omega)
  rw [show (((bat s i).toNat : Nat) : Int) = bat s i by omega] at hor
  have hti : bat [46, 103, 105, 116] i = t := by rcases hi with ⟨rfl, rfl⟩ | ⟨rfl, rfl⟩ | ⟨rfl, rfl⟩ | ⟨rfl, rfl⟩ <;> rfl
  have hi4 : i < 4 := by omega
  have htr : 46 ≤ t ∧ t ≤ 116 := by omega
  have hil : i < [46, 103, 105, (116 : UInt8)].length := by simpa using hi4
  rw [X_in L.strings_EqualFold.x0.eq_1]
  by_cases hb : bat s i < 128
  · have hd : decide (128 ≤ (bat s i).toNat) = false := by simp; omega
    rw [hd] at hor
    generalize hx : bat s i = x at *
    by_cases e1 : x = t
    · rw [if_pos ⟨hb, by simp [gitAt, e1]⟩]
      have e9 : (t == x) = true := beq_t e1.symm
      simp (dsimp := false) (disch := first | omega | (simp only [strs_length, List.length_set, List.length_replicate, words_length, ofBytes_length, List.length_append, List.length_cons, List.length_nil, List.length_take, List.length_drop] <;> omega) | fail) only [go_sem, reduceIte, reduceCtorEq, Nat.reduceEqDiff, Nat.reduceAdd, Nat.reduceSub, Nat.reduceMul, Nat.reduceDiv, Nat.reduceMod, Nat.reduceBEq, Nat.reduceLeDiff, Nat.reduceLT, Int.reduceEq, Int.reduceNe, Int.reduceLT, Int.reduceLE, Int.reduceBEq, Int.reduceBNe, Int.reduceToNat, Int.reduceAdd, Int.reduceSub, Int.reduceMul, Int.reduceNeg, sub_take, take_len, sub_drop, hx, hti, hor, e9]
    · have e2 : (x == t) = false := beq_f e1
      have e2' : (t == x) = false := beq_f (fun h => e1 h.symm)
      by_cases e3 : x < t
      · have e4 : ¬ t < x := by omega
        by_cases e5 : 65 ≤ x
        · by_cases e6 : x ≤ 90
          · have w1 : IntKind.u8.wrap (x + 97) = x + 97 := by rw [wrap_u8]; omega
            have w2 : IntKind.u8.wrap (x + 97 - 65) = x + 32 := by rw [wrap_u8]; omega
            by_cases e7 : t = x + 32
            · rw [if_pos ⟨hb, by simp only [gitAt, e2, dec_t e3, dec_t e5, dec_t e6, beq_t e7, Bool.true_and, Bool.and_true, Bool.false_or]⟩]
              have e8 : (t == x + 32) = true := beq_t e7
              simp (dsimp := false) (disch := first | omega | (simp only [strs_length, List.length_set, List.length_replicate, words_length, ofBytes_length, List.length_append, List.length_cons, List.length_nil, List.length_take, List.length_drop] <;> omega) | fail) only [go_sem, reduceIte, reduceCtorEq, Nat.reduceEqDiff, Nat.reduceAdd, Nat.reduceSub, Nat.reduceMul, Nat.reduceDiv, Nat.reduceMod, Nat.reduceBEq, Nat.reduceLeDiff, Nat.reduceLT, Int.reduceEq, Int.reduceNe, Int.reduceLT, Int.reduceLE, Int.reduceBEq, Int.reduceBNe, Int.reduceToNat, Int.reduceAdd, Int.reduceSub, Int.reduceMul, Int.reduceNeg, sub_take, take_len, sub_drop, hx, hti, hor, e2', e4, e5, e6, w1, w2, e8]
            · rw [if_neg (by simp only [gitAt, e2, dec_t e3, dec_t e5, dec_t e6, beq_f e7, Bool.true_and, Bool.and_true, Bool.false_or]; simp)]
              have e8 : (t == x + 32) = false := beq_f e7
              simp (dsimp := false) (disch := first | omega | (simp only [strs_length, List.length_set, List.length_replicate, words_length, ofBytes_length, List.length_append, List.length_cons, List.length_nil, List.length_take, List.length_drop] <;> omega) | fail) only [go_sem, reduceIte, reduceCtorEq, Nat.reduceEqDiff, Nat.reduceAdd, Nat.reduceSub, Nat.reduceMul, Nat.reduceDiv, Nat.reduceMod, Nat.reduceBEq, Nat.reduceLeDiff, Nat.reduceLT, Int.reduceEq, Int.reduceNe, Int.reduceLT, Int.reduceLE, Int.reduceBEq, Int.reduceBNe, Int.reduceToNat, Int.reduceAdd, Int.reduceSub, Int.reduceMul, Int.reduceNeg, sub_take, take_len, sub_drop, hx, hti, hor, e2', e4, e5, e6, w1, w2, e8]
          · rw [if_neg (by simp only [gitAt, e2, dec_t e3, dec_t e5, dec_f e6, Bool.true_and, Bool.false_and, Bool.false_or]; simp)]
            simp (dsimp := false) (disch := first | omega | (simp only [strs_length, List.length_set, List.length_replicate, words_length, ofBytes_length, List.length_append, List.length_cons, List.length_nil, List.length_take, List.length_drop] <;> omega) | fail) only [go_sem, reduceIte, reduceCtorEq, Nat.reduceEqDiff, Nat.reduceAdd, Nat.reduceSub, Nat.reduceMul, Nat.reduceDiv, Nat.reduceMod, Nat.reduceBEq, Nat.reduceLeDiff, Nat.reduceLT, Int.reduceEq, Int.reduceNe, Int.reduceLT, Int.reduceLE, Int.reduceBEq, Int.reduceBNe, Int.reduceToNat, Int.reduceAdd, Int.reduceSub, Int.reduceMul, Int.reduceNeg, sub_take, take_len, sub_drop, hx, hti, hor, e2', e4, e5, e6]
        · rw [if_neg (by simp only [gitAt, e2, dec_t e3, dec_f e5, Bool.true_and, Bool.false_and, Bool.false_or]; simp)]
          simp (dsimp := false) (disch := first | omega | (simp only [strs_length, List.length_set, List.length_replicate, words_length, ofBytes_length, List.length_append, List.length_cons, List.length_nil, List.length_take, List.length_drop] <;> omega) | fail) only [go_sem, reduceIte, reduceCtorEq, Nat.reduceEqDiff, Nat.reduceAdd, Nat.reduceSub, Nat.reduceMul, Nat.reduceDiv, Nat.reduceMod, Nat.reduceBEq, Nat.reduceLeDiff, Nat.reduceLT, Int.reduceEq, Int.reduceNe, Int.reduceLT, Int.reduceLE, Int.reduceBEq, Int.reduceBNe, Int.reduceToNat, Int.reduceAdd, Int.reduceSub, Int.reduceMul, Int.reduceNeg, sub_take, take_len, sub_drop, hx, hti, hor, e2', e4, e5]
      · have e4 : t < x := by omega
        rw [if_neg (by simp only [gitAt, e2, dec_f e3, Bool.false_and, Bool.false_or]; simp)]
        by_cases e5 : 65 ≤ t
        · have e6 : ¬ t ≤ 90 := by omega
          simp (dsimp := false) (disch := first | omega | (simp only [strs_length, List.length_set, List.length_replicate, words_length, ofBytes_length, List.length_append, List.length_cons, List.length_nil, List.length_take, List.length_drop] <;> omega) | fail) only [go_sem, reduceIte, reduceCtorEq, Nat.reduceEqDiff, Nat.reduceAdd, Nat.reduceSub, Nat.reduceMul, Nat.reduceDiv, Nat.reduceMod, Nat.reduceBEq, Nat.reduceLeDiff, Nat.reduceLT, Int.reduceEq, Int.reduceNe, Int.reduceLT, Int.reduceLE, Int.reduceBEq, Int.reduceBNe, Int.reduceToNat, Int.reduceAdd, Int.reduceSub, Int.reduceMul, Int.reduceNeg, sub_take, take_len, sub_drop, hx, hti, hor, e2', e4, e5, e6]
        · simp (dsimp := false) (disch := first | omega | (simp only [strs_length, List.length_set, List.length_replicate, words_length, ofBytes_length, List.length_append, List.length_cons, List.length_nil, List.length_take, List.length_drop] <;> omega) | fail) only [go_sem, reduceIte, reduceCtorEq, Nat.reduceEqDiff, Nat.reduceAdd, Nat.reduceSub, Nat.reduceMul, Nat.reduceDiv, Nat.reduceMod, Nat.reduceBEq, Nat.reduceLeDiff, Nat.reduceLT, Int.reduceEq, Int.reduceNe, Int.reduceLT, Int.reduceLE, Int.reduceBEq, Int.reduceBNe, Int.reduceToNat, Int.reduceAdd, Int.reduceSub, Int.reduceMul, Int.reduceNeg, sub_take, take_len, sub_drop, hx, hti, hor, e2', e4, e5]
  · have hd : decide (128 ≤ (bat s i).toNat) = true := by simp; omega
    rw [hd] at hor
    rw [if_neg (fun h => hb h.1)]
    simp (dsimp := false) (disch := first | omega | (simp only [strs_length, List.length_set, List.length_replicate, words_length, ofBytes_length, List.length_append, List.length_cons, List.length_nil, List.length_take, List.length_drop] <;> omega) | fail) only [go_sem, reduceIte, reduceCtorEq, Nat.reduceEqDiff, Nat.reduceAdd, Nat.reduceSub, Nat.reduceMul, Nat.reduceDiv, Nat.reduceMod, Nat.reduceBEq, Nat.reduceLeDiff, Nat.reduceLT, Int.reduceEq, Int.reduceNe, Int.reduceLT, Int.reduceLE, Int.reduceBEq, Int.reduceBNe, Int.reduceToNat, Int.reduceAdd, Int.reduceSub, Int.reduceMul, Int.reduceNeg, sub_take, take_len, sub_drop, hti, hor, hSC]
    exact ef_uni hs i hi4 (by omega) _ _ _ _ _
/-- Is a text of four bytes '.git' in ASCII letters, large or small? -/
def git4 (s : List UInt8) : Bool := decide (bat s 0 < 128 ∧ gitAt (bat s 0) 46 = true) && (decide (bat s 1 < 128 ∧ gitAt (bat s 1) 103 = true) && (decide (bat s 2 < 128 ∧ gitAt (bat s 2) 105 = true) && decide (bat s 3 < 128 ∧ gitAt (bat s 3) 116 = true)))
theorem go_fold {s : List UInt8} (hs : s.length = 4) : S E0 F.strings_EqualFold [.str s, .str [46, 103, 105, 116]] [] = some (.bool (git4 s), []) := by
  rw [S_of0 fn_strings_EqualFold rfl rfl]
  have l4 : ((s.length : Int)) = 4 := by omega
  simp (dsimp := false) (disch := first | omega | (simp only [strs_length, List.length_set, List.length_replicate, words_length, ofBytes_length, List.length_append, List.length_cons, List.length_nil, List.length_take, List.length_drop] <;> omega) | fail) only [L.strings_EqualFold, go_sem, reduceIte, reduceCtorEq, Nat.reduceEqDiff, Nat.reduceAdd, Nat.reduceSub, Nat.reduceMul, Nat.reduceDiv, Nat.reduceMod, Nat.reduceBEq, Nat.reduceLeDiff, Nat.reduceLT, Int.reduceEq, Int.reduceNe, Int.reduceLT, Int.reduceLE, Int.reduceBEq, Int.reduceBNe, Int.reduceToNat, Int.reduceAdd, Int.reduceSub, Int.reduceMul, Int.reduceNeg, hs]
  generalize hSC : LCode.seq _ _ = SC
  have hf : findL SC 0 = some (.seq .skip EFrest) := by subst hSC; rfl
  have i0 := ef_it hf hs 0 46 (by simp)
  have i1 := ef_it hf hs 1 103 (by simp)
  have i2 := ef_it hf hs 2 105 (by simp)
  have i3 := ef_it hf hs 3 116 (by simp)
  have i4 : X E0 [.tmp 4] (.c L.strings_EqualFold.x0 :: .lp [0, 1, 5, 6] L.strings_EqualFold.x0 :: .blk 0 :: .c L.strings_EqualFold.r0 :: .scp SC :: []) ⟨[(0, .str s), (1, .str [46, 103, 105, 116]), (5, .int .i64 4), (6, .int .i64 4)], []⟩ = some (.bool true, []) := by
    rw [X_in L.strings_EqualFold.x0.eq_1]
    simp (dsimp := false) (disch := first | omega | (simp only [strs_length, List.length_set, List.length_replicate, words_length, ofBytes_length, List.length_append, List.length_cons, List.length_nil, List.length_take, List.length_drop] <;> omega) | fail) only [go_sem, reduceIte, reduceCtorEq, Nat.reduceEqDiff, Nat.reduceAdd, Nat.reduceSub, Nat.reduceMul, Nat.reduceDiv, Nat.reduceMod, Nat.reduceBEq, Nat.reduceLeDiff, Nat.reduceLT, Int.reduceEq, Int.reduceNe, Int.reduceLT, Int.reduceLE, Int.reduceBEq, Int.reduceBNe, Int.reduceToNat, Int.reduceAdd, Int.reduceSub, Int.reduceMul, Int.reduceNeg, L.strings_EqualFold.r0, hs]
  simp only [show ((0 : Nat) : Int) = 0 from rfl, show ((1 : Nat) : Int) = 1 from rfl, show ((2 : Nat) : Int) = 2 from rfl, show ((3 : Nat) : Int) = 3 from rfl, show (0 : Int) + 1 = 1 from rfl, show (1 : Int) + 1 = 2 from rfl, show (2 : Int) + 1 = 3 from rfl, show (3 : Int) + 1 = 4 from rfl] at i0 i1 i2 i3
  rw [show (if ((4 : Nat) : Int) < ((4 : Nat) : Int) then ((4 : Nat) : Int) else ((4 : Nat) : Int)) = 4 from rfl, i0]
  by_cases c0 : bat s 0 < 128 ∧ gitAt (bat s 0) 46 = true
  · rw [if_pos c0, i1]
    by_cases c1 : bat s 1 < 128 ∧ gitAt (bat s 1) 103 = true
    · rw [if_pos c1, i2]
      by_cases c2 : bat s 2 < 128 ∧ gitAt (bat s 2) 105 = true
      · rw [if_pos c2, i3]
        by_cases c3 : bat s 3 < 128 ∧ gitAt (bat s 3) 116 = true
        · rw [if_pos c3, i4]; simp only [git4, dec_t c0, dec_t c1, dec_t c2, dec_t c3]; rfl
        · rw [if_neg c3]; simp only [git4, dec_t c0, dec_t c1, dec_t c2, dec_f c3]; rfl
      · rw [if_neg c2]; simp only [git4, dec_t c0, dec_t c1, dec_f c2]; rfl
    · rw [if_neg c1]; simp only [git4, dec_t c0, dec_f c1]; rfl
  · rw [if_neg c0]; simp only [git4, dec_f c0]; rfl
theorem gitAt_lower : ∀ n : Nat, n < 256 → ∀ t ∈ [(46 : UInt8), 103, 105, 116], decide ((n : Int) < 128 ∧ gitAt n t.toNat = true) = (lower (UInt8.ofNat n) == t) := by decide +kernel
theorem git4_eq {s : List UInt8} (hs : s.length = 4) : git4 s = isGit s := by
  match s, hs with
  | [a, b, c, d], _ =>
    have key : ∀ (x : UInt8) (t : UInt8), t ∈ [(46 : UInt8), 103, 105, 116] → decide ((x.toNat : Int) < 128 ∧ gitAt x.toNat t.toNat = true) = (lower x == t) := fun x t ht => by
      have := gitAt_lower x.toNat x.toNat_lt t ht
      rwa [UInt8.ofNat_toNat] at this
    have h0 := key a 46 (by simp)
    have h1 := key b 103 (by simp)
    have h2 := key c 105 (by simp)
    have h3 := key d 116 (by simp)
    have e0 : (lower a == 46) = (a == 46) := by
      have : ∀ n : Nat, n < 256 → (lower (UInt8.ofNat n) == 46) = (UInt8.ofNat n == 46) := by decide +kernel
      have := this a.toNat a.toNat_lt
      rwa [UInt8.ofNat_toNat] at this
    show (decide ((a.toNat : Int) < 128 ∧ gitAt a.toNat (46 : UInt8).toNat = true) && (decide ((b.toNat : Int) < 128 ∧ gitAt b.toNat (103 : UInt8).toNat = true) && (decide ((c.toNat : Int) < 128 ∧ gitAt c.toNat (105 : UInt8).toNat = true) && decide ((d.toNat : Int) < 128 ∧ gitAt d.toNat (116 : UInt8).toNat = true)))) = _
    rw [h0, h1, h2, h3, e0]
    simp only [isGit, Bool.and_assoc]
end Cod

/- strings.IndexAny, as names uses it. -/
namespace Cod
open Go
set_option maxRecDepth 100000

/-- One rune, of its bytes. -/
def decF (b0 a1 a2 a3 : Nat) (c1 c2 c3 : Bool) : Nat × Nat :=
  if b0 < 0x80 then (b0, 1)
  else if b0 / 32 == 6 && c1 then (if b0 % 32 * 64 + a1 % 64 ≥ 0x80 then (b0 % 32 * 64 + a1 % 64, 2) else (65533, 1))
  else if b0 / 16 == 14 && c1 && c2 then
    (if b0 % 16 * 4096 + a1 % 64 * 64 + a2 % 64 ≥ 0x800 && Utf8.valid ((b0 % 16 * 4096 + a1 % 64 * 64 + a2 % 64 : Nat) : Int) then (b0 % 16 * 4096 + a1 % 64 * 64 + a2 % 64, 3) else (65533, 1))
  else if b0 / 8 == 30 && c1 && c2 && c3 then
    (if b0 % 8 * 262144 + a1 % 64 * 4096 + a2 % 64 * 64 + a3 % 64 ≥ 0x10000 && Utf8.valid ((b0 % 8 * 262144 + a1 % 64 * 4096 + a2 % 64 * 64 + a3 % 64 : Nat) : Int) then (b0 % 8 * 262144 + a1 % 64 * 4096 + a2 % 64 * 64 + a3 % 64, 4) else (65533, 1))
  else (65533, 1)
theorem decF_low {b0 a1 a2 a3 : Nat} {c1 c2 c3 : Bool} (h : b0 < 128) : decF b0 a1 a2 a3 c1 c2 c3 = (b0, 1) := by unfold decF; rw [if_pos h]
theorem decF_high {b0 a1 a2 a3 : Nat} {c1 c2 c3 : Bool} (h : 128 ≤ b0) (h2 : b0 < 256) : 128 ≤ (decF b0 a1 a2 a3 c1 c2 c3).1 ∧ (decF b0 a1 a2 a3 c1 c2 c3).1 ≤ 1114111 ∧
    ((decF b0 a1 a2 a3 c1 c2 c3).2 = 1 ∨ ((decF b0 a1 a2 a3 c1 c2 c3).2 = 2 ∧ c1 = true) ∨ ((decF b0 a1 a2 a3 c1 c2 c3).2 = 3 ∧ c1 = true ∧ c2 = true) ∨ ((decF b0 a1 a2 a3 c1 c2 c3).2 = 4 ∧ c1 = true ∧ c2 = true ∧ c3 = true)) := by
  unfold decF
  rw [if_neg (by omega)]
  split
  · rename_i h3
    simp only [Bool.and_eq_true] at h3
    split
    · exact ⟨by assumption, by omega, .inr (.inl ⟨rfl, h3.2⟩)⟩
    · exact ⟨by omega, by omega, .inl rfl⟩
  · split
    · rename_i h3
      simp only [Bool.and_eq_true] at h3
      split
      · rename_i h4
        simp only [Bool.and_eq_true, decide_eq_true_eq] at h4
        exact ⟨by omega, by omega, .inr (.inr (.inl ⟨rfl, h3.1.2, h3.2⟩))⟩
      · exact ⟨by omega, by omega, .inl rfl⟩
    · split
      · rename_i h3
        simp only [Bool.and_eq_true] at h3
        split
        · rename_i h4
          simp only [Bool.and_eq_true, decide_eq_true_eq, Utf8.valid, Bool.or_eq_true] at h4
          exact ⟨by omega, by omega, .inr (.inr (.inr ⟨rfl, h3.1.1.2, h3.1.2, h3.2⟩))⟩
        · exact ⟨by omega, by omega, .inl rfl⟩
      · exact ⟨by omega, by omega, .inl rfl⟩
theorem dec_facts {l : List UInt8} {p : Nat} (h : p < l.length) :
    (bat l p < 128 ∧ (((decS l p).1 : Nat) : Int) = bat l p ∧ (decS l p).2 = 1) ∨
    (128 ≤ bat l p ∧ 128 ≤ (decS l p).1 ∧ (decS l p).1 ≤ 1114111 ∧ 1 ≤ (decS l p).2 ∧ ∀ j, p ≤ j → j < p + (decS l p).2 → j < l.length ∧ 128 ≤ bat l j) := by
  have hs : (⟨l.toArray⟩ : ByteArray).size = l.length := by simp [ByteArray.size]
  have h0 : ((⟨l.toArray⟩ : ByteArray).get! (p + 0)).toNat = (l.getD p 0).toNat := ba_get h
  have hc : ∀ k, (decide (p + k < (⟨l.toArray⟩ : ByteArray).size) && ((⟨l.toArray⟩ : ByteArray).get! (p + k)).toNat / 64 == 2) = true → p + k < l.length ∧ 128 ≤ bat l (p + k) := by
    intro k hk
    simp only [Bool.and_eq_true, decide_eq_true_eq, beq_iff_eq, hs] at hk
    refine ⟨hk.1, ?_⟩
    have := ba_get hk.1
    unfold bat
    omega
  have e : decS l p = decF ((⟨l.toArray⟩ : ByteArray).get! (p + 0)).toNat ((⟨l.toArray⟩ : ByteArray).get! (p + 1)).toNat ((⟨l.toArray⟩ : ByteArray).get! (p + 2)).toNat ((⟨l.toArray⟩ : ByteArray).get! (p + 3)).toNat
    (decide (p + 1 < (⟨l.toArray⟩ : ByteArray).size) && ((⟨l.toArray⟩ : ByteArray).get! (p + 1)).toNat / 64 == 2) (decide (p + 2 < (⟨l.toArray⟩ : ByteArray).size) && ((⟨l.toArray⟩ : ByteArray).get! (p + 2)).toNat / 64 == 2)
    (decide (p + 3 < (⟨l.toArray⟩ : ByteArray).size) && ((⟨l.toArray⟩ : ByteArray).get! (p + 3)).toNat / 64 == 2) := rfl
  have k1 := hc 1
  have k2 := hc 2
  have k3 := hc 3
  rw [h0] at e
  generalize (decide (p + 1 < (⟨l.toArray⟩ : ByteArray).size) && ((⟨l.toArray⟩ : ByteArray).get! (p + 1)).toNat / 64 == 2) = c1 at e k1
  generalize (decide (p + 2 < (⟨l.toArray⟩ : ByteArray).size) && ((⟨l.toArray⟩ : ByteArray).get! (p + 2)).toNat / 64 == 2) = c2 at e k2
  generalize (decide (p + 3 < (⟨l.toArray⟩ : ByteArray).size) && ((⟨l.toArray⟩ : ByteArray).get! (p + 3)).toNat / 64 == 2) = c3 at e k3
  generalize ((⟨l.toArray⟩ : ByteArray).get! (p + 1)).toNat = a1 at e
  generalize ((⟨l.toArray⟩ : ByteArray).get! (p + 2)).toNat = a2 at e
  generalize ((⟨l.toArray⟩ : ByteArray).get! (p + 3)).toNat = a3 at e
  have hlt := (l.getD p 0).toNat_lt
  by_cases hb : bat l p < 128
  · refine .inl ⟨hb, ?_⟩
    unfold bat at hb ⊢
    rw [e, decF_low (by omega)]
    exact ⟨rfl, rfl⟩
  · have hb' := hb
    unfold bat at hb
    obtain ⟨h1, h2, h3⟩ := decF_high (a1 := a1) (a2 := a2) (a3 := a3) (c1 := c1) (c2 := c2) (c3 := c3) (b0 := (l.getD p 0).toNat) (by omega) hlt
    rw [← e] at h1 h2 h3
    refine .inr ⟨by omega, h1, h2, by omega, fun j j1 j2 => ?_⟩
    have : j = p ∨ j = p + 1 ∨ j = p + 2 ∨ j = p + 3 := by omega
    rcases this with rfl | rfl | rfl | rfl
    · exact ⟨h, by omega⟩
    · exact k1 (by rcases h3 with h3 | h3 | h3 | h3 <;> first | omega | exact h3.2 | exact h3.2.1)
    · exact k2 (by rcases h3 with h3 | h3 | h3 | h3 <;> first | omega | exact h3.2.2 | exact h3.2.2.1)
    · exact k3 (by rcases h3 with h3 | h3 | h3 | h3 <;> first | omega | exact h3.2.2.2)

/-- The last byte of a rune's text. -/
theorem enc_high {r : Int} (h0 : 128 ≤ r) (h1 : r ≤ 1114111) : 2 ≤ (encS r).length ∧ (encS r).length ≤ 4 ∧ ((encS r).length = 2 → 128 ≤ bat (encS r) 1) := by
  unfold encS Utf8.encode Utf8.runeError
  simp only []
  generalize hc : (if Utf8.valid r = true then r.toNat else 65533) = c
  have hc0 : 128 ≤ c := by
    rw [← hc]; split
    · omega
    · omega
  rw [if_neg (by omega)]
  split
  · refine ⟨by simp, by simp, fun _ => ?_⟩
    simp [bat]
    omega
  · split <;> simp
theorem go_valid {r : Int} (h0 : 128 ≤ r) : S E0 F.utf8_ValidRune [.int .i32 r] [] = some (.bool (decide (r < 55296) || (decide (57343 < r) && decide (r ≤ 1114111))), []) := by
  rw [S_of0 fn_utf8_ValidRune rfl rfl]
  by_cases h1 : r < 55296
  · simp (dsimp := false) (disch := first | omega | (simp only [strs_length, List.length_set, List.length_replicate, words_length, ofBytes_length, List.length_append, List.length_cons, List.length_nil, List.length_take, List.length_drop] <;> omega) | fail) only [L.utf8_ValidRune, go_sem, reduceIte, reduceCtorEq, Nat.reduceEqDiff, Nat.reduceAdd, Nat.reduceSub, Nat.reduceMul, Nat.reduceDiv, Nat.reduceMod, Nat.reduceBEq, Nat.reduceLeDiff, Nat.reduceLT, Int.reduceEq, Int.reduceNe, Int.reduceLT, Int.reduceLE, Int.reduceBEq, Int.reduceBNe, Int.reduceToNat, Int.reduceAdd, Int.reduceSub, Int.reduceMul, Int.reduceNeg, dec_t h1]
  · by_cases h2 : 57343 < r
    · by_cases h3 : r ≤ 1114111
      · simp (dsimp := false) (disch := first | omega | (simp only [strs_length, List.length_set, List.length_replicate, words_length, ofBytes_length, List.length_append, List.length_cons, List.length_nil, List.length_take, List.length_drop] <;> omega) | fail) only [L.utf8_ValidRune, go_sem, reduceIte, reduceCtorEq, Nat.reduceEqDiff, Nat.reduceAdd, Nat.reduceSub, Nat.reduceMul, Nat.reduceDiv, Nat.reduceMod, Nat.reduceBEq, Nat.reduceLeDiff, Nat.reduceLT, Int.reduceEq, Int.reduceNe, Int.reduceLT, Int.reduceLE, Int.reduceBEq, Int.reduceBNe, Int.reduceToNat, Int.reduceAdd, Int.reduceSub, Int.reduceMul, Int.reduceNeg, dec_f h1, dec_t h2, dec_t h3]
      · simp (dsimp := false) (disch := first | omega | (simp only [strs_length, List.length_set, List.length_replicate, words_length, ofBytes_length, List.length_append, List.length_cons, List.length_nil, List.length_take, List.length_drop] <;> omega) | fail) only [L.utf8_ValidRune, go_sem, reduceIte, reduceCtorEq, Nat.reduceEqDiff, Nat.reduceAdd, Nat.reduceSub, Nat.reduceMul, Nat.reduceDiv, Nat.reduceMod, Nat.reduceBEq, Nat.reduceLeDiff, Nat.reduceLT, Int.reduceEq, Int.reduceNe, Int.reduceLT, Int.reduceLE, Int.reduceBEq, Int.reduceBNe, Int.reduceToNat, Int.reduceAdd, Int.reduceSub, Int.reduceMul, Int.reduceNeg, dec_f h1, dec_t h2, dec_f h3]
    · simp (dsimp := false) (disch := first | omega | (simp only [strs_length, List.length_set, List.length_replicate, words_length, ofBytes_length, List.length_append, List.length_cons, List.length_nil, List.length_take, List.length_drop] <;> omega) | fail) only [L.utf8_ValidRune, go_sem, reduceIte, reduceCtorEq, Nat.reduceEqDiff, Nat.reduceAdd, Nat.reduceSub, Nat.reduceMul, Nat.reduceDiv, Nat.reduceMod, Nat.reduceBEq, Nat.reduceLeDiff, Nat.reduceLT, Int.reduceEq, Int.reduceNe, Int.reduceLT, Int.reduceLE, Int.reduceBEq, Int.reduceBNe, Int.reduceToNat, Int.reduceAdd, Int.reduceSub, Int.reduceMul, Int.reduceNeg, dec_f h1, dec_f h2]
theorem go_sindex {l : List UInt8} {c : Int} : S E0 F.strings_IndexByte [.str l, .int .u8 c] [] = some (.int .i64 (indexB l (byt c)), []) := by
  rw [S_of0 fn_strings_IndexByte rfl rfl]
  have h : S E0 F.stringslite_IndexByte [.str l, .int .u8 c] [] = some (.int .i64 (indexB l (byt c)), []) := by
    rw [S_of0 fn_stringslite_IndexByte rfl rfl]
    simp (dsimp := false) (disch := first | omega | (simp only [strs_length, List.length_set, List.length_replicate, words_length, ofBytes_length, List.length_append, List.length_cons, List.length_nil, List.length_take, List.length_drop] <;> omega) | fail) only [L.stringslite_IndexByte, go_sem, reduceIte, reduceCtorEq, Nat.reduceEqDiff, Nat.reduceAdd, Nat.reduceSub, Nat.reduceMul, Nat.reduceDiv, Nat.reduceMod, Nat.reduceBEq, Nat.reduceLeDiff, Nat.reduceLT, Int.reduceEq, Int.reduceNe, Int.reduceLT, Int.reduceLE, Int.reduceBEq, Int.reduceBNe, Int.reduceToNat, Int.reduceAdd, Int.reduceSub, Int.reduceMul, Int.reduceNeg, S_indexS]
  simp (dsimp := false) (disch := first | omega | (simp only [strs_length, List.length_set, List.length_replicate, words_length, ofBytes_length, List.length_append, List.length_cons, List.length_nil, List.length_take, List.length_drop] <;> omega) | fail) only [L.strings_IndexByte, go_sem, reduceIte, reduceCtorEq, Nat.reduceEqDiff, Nat.reduceAdd, Nat.reduceSub, Nat.reduceMul, Nat.reduceDiv, Nat.reduceMod, Nat.reduceBEq, Nat.reduceLeDiff, Nat.reduceLT, Int.reduceEq, Int.reduceNe, Int.reduceLT, Int.reduceLE, Int.reduceBEq, Int.reduceBNe, Int.reduceToNat, Int.reduceAdd, Int.reduceSub, Int.reduceMul, Int.reduceNeg, h]
theorem go_rune_err : S E0 F.strings_IndexRune [.str [47, 0], .int .i32 65533] [] = some (.int .i64 (-1), []) := S_iff.2 ⟨60, by kernel_rfl⟩
theorem go_rune_low {r : Int} (h0 : 0 ≤ r) (h1 : r < 128) : S E0 F.strings_IndexRune [.str [47, 0], .int .i32 r] [] = some (.int .i64 (indexB [47, 0] (byt r)), []) := by
  rw [S_of0 fn_strings_IndexRune rfl rfl]
  have h2 : IntKind.u8.wrap r = r := by rw [wrap_u8]; omega
  simp (dsimp := false) (disch := first | omega | (simp only [strs_length, List.length_set, List.length_replicate, words_length, ofBytes_length, List.length_append, List.length_cons, List.length_nil, List.length_take, List.length_drop] <;> omega) | fail) only [L.strings_IndexRune, go_sem, reduceIte, reduceCtorEq, Nat.reduceEqDiff, Nat.reduceAdd, Nat.reduceSub, Nat.reduceMul, Nat.reduceDiv, Nat.reduceMod, Nat.reduceBEq, Nat.reduceLeDiff, Nat.reduceLT, Int.reduceEq, Int.reduceNe, Int.reduceLT, Int.reduceLE, Int.reduceBEq, Int.reduceBNe, Int.reduceToNat, Int.reduceAdd, Int.reduceSub, Int.reduceMul, Int.reduceNeg, dec_t h0, dec_t h1, h2, go_sindex]
theorem go_rune_high {r : Int} (h0 : 128 ≤ r) (h1 : r ≤ 1114111) : S E0 F.strings_IndexRune [.str [47, 0], .int .i32 r] [] = some (.int .i64 (-1), []) := by
  by_cases he : r = 65533
  · subst he; exact go_rune_err
  · have h2 : ¬ r < 128 := by omega
    have h3 : (0 : Int) ≤ r := by omega
    rw [S_of0 fn_strings_IndexRune rfl rfl]
    have hvv : S E0 F.utf8_ValidRune [.int .i32 r] [] = some (.bool (decide (r < 55296) || decide (57343 < r)), []) := by rw [go_valid h0, dec_t h1, Bool.and_true]
    cases hv : (decide (r < 55296) || decide (57343 < r)) with
    | false => simp (dsimp := false) (disch := first | omega | (simp only [strs_length, List.length_set, List.length_replicate, words_length, ofBytes_length, List.length_append, List.length_cons, List.length_nil, List.length_take, List.length_drop] <;> omega) | fail) only [L.strings_IndexRune, go_sem, reduceIte, reduceCtorEq, Nat.reduceEqDiff, Nat.reduceAdd, Nat.reduceSub, Nat.reduceMul, Nat.reduceDiv, Nat.reduceMod, Nat.reduceBEq, Nat.reduceLeDiff, Nat.reduceLT, Int.reduceEq, Int.reduceNe, Int.reduceLT, Int.reduceLE, Int.reduceBEq, Int.reduceBNe, Int.reduceToNat, Int.reduceAdd, Int.reduceSub, Int.reduceMul, Int.reduceNeg, dec_t h3, dec_f h2, beq_f he, hvv, hv]
    | true =>
      obtain ⟨e1, e2, e3⟩ := enc_high h0 h1
      simp (dsimp := false) (disch := first | omega | (simp only [strs_length, List.length_set, List.length_replicate, words_length, ofBytes_length, List.length_append, List.length_cons, List.length_nil, List.length_take, List.length_drop] <;> omega) | fail) only [L.strings_IndexRune, go_sem, reduceIte, reduceCtorEq, Nat.reduceEqDiff, Nat.reduceAdd, Nat.reduceSub, Nat.reduceMul, Nat.reduceDiv, Nat.reduceMod, Nat.reduceBEq, Nat.reduceLeDiff, Nat.reduceLT, Int.reduceEq, Int.reduceNe, Int.reduceLT, Int.reduceLE, Int.reduceBEq, Int.reduceBNe, Int.reduceToNat, Int.reduceAdd, Int.reduceSub, Int.reduceMul, Int.reduceNeg, dec_t h3, dec_f h2, beq_f he, hvv, hv]
      rw [X_in L.strings_IndexRune.x1.eq_1]
      by_cases e4 : (encS r).length = 2
      · have e5 := e3 e4
        have b1 : bat [47, 0] 1 = 0 := rfl
        have b2 : ((((0 : UInt8).toNat : Nat) : Int) != bat (encS r) 1) = true := bne_t (by show (0 : Int) ≠ _; omega)
        have b3 : (((2 : Nat) : Int) - 1).toNat = 1 := rfl
        have b4 : indexB ([47, 0].drop (((2 : Nat) : Int) - 1 + 1).toNat) (byt (bat (encS r) 1)) = -1 := rfl
        have b5 : indexB [] (byt (bat (encS r) 1)) = -1 := rfl
        simp (dsimp := false) (disch := first | omega | (simp only [strs_length, List.length_set, List.length_replicate, words_length, ofBytes_length, List.length_append, List.length_cons, List.length_nil, List.length_take, List.length_drop] <;> omega) | fail) only [go_sem, reduceIte, reduceCtorEq, Nat.reduceEqDiff, Nat.reduceAdd, Nat.reduceSub, Nat.reduceMul, Nat.reduceDiv, Nat.reduceMod, Nat.reduceBEq, Nat.reduceLeDiff, Nat.reduceLT, Int.reduceEq, Int.reduceNe, Int.reduceLT, Int.reduceLE, Int.reduceBEq, Int.reduceBNe, Int.reduceToNat, Int.reduceAdd, Int.reduceSub, Int.reduceMul, Int.reduceNeg, L.strings_IndexRune.r2, e4, b1, b2, b3, go_sindex, sub_take, take_len, sub_drop, b4, b5, List.drop_nil]
      · simp (dsimp := false) (disch := first | omega | (simp only [strs_length, List.length_set, List.length_replicate, words_length, ofBytes_length, List.length_append, List.length_cons, List.length_nil, List.length_take, List.length_drop] <;> omega) | fail) only [go_sem, reduceIte, reduceCtorEq, Nat.reduceEqDiff, Nat.reduceAdd, Nat.reduceSub, Nat.reduceMul, Nat.reduceDiv, Nat.reduceMod, Nat.reduceBEq, Nat.reduceLeDiff, Nat.reduceLT, Int.reduceEq, Int.reduceNe, Int.reduceLT, Int.reduceLE, Int.reduceBEq, Int.reduceBNe, Int.reduceToNat, Int.reduceAdd, Int.reduceSub, Int.reduceMul, Int.reduceNeg, L.strings_IndexRune.r2]
/-- Is there a '/' or a zero? -/
def bad2 (b : UInt8) : Bool := b == 47 || b == 0
theorem index2 (b : UInt8) : (0 ≤ indexB [47, 0] b) ↔ bad2 b = true := by
  unfold indexB bad2
  by_cases h1 : b = 47
  · subst h1; simp
  · by_cases h2 : b = 0
    · subst h2; simp [List.idxOf_cons]
    · simp [h1, h2]
theorem byt_bat (l : List UInt8) (i : Nat) : byt (bat l i) = l.getD i 0 := by
  unfold byt bat
  rw [Int.toNat_natCast, UInt8.ofNat_toNat]
/-- The walk over runes. -/
theorem any_walk {s : List UInt8} (hs : s.length ≤ 1000000) : ∀ (m p : Nat), p + m ≤ s.length → s.length ≤ p + m → ∃ i : Int, ((0 ≤ i) ↔ (s.drop p).any bad2 = true) ∧
    X E0 [.tmp 4] (.c L.strings_IndexAny.x1 :: .lp [1, 45] L.strings_IndexAny.x1 :: .blk 2 :: .c L.strings_IndexAny.r2 :: []) ⟨[(1, .str [47, 0]), (45, .it (.s 1000000 0) 0)], [(.s 1000000 0, ⟨0, true, true, true, [.itr s p]⟩)]⟩ = some (.int .i64 i, []) := by
  intro m
  induction m using Nat.strongRecOn with
  | _ m ih =>
    intro p h1 h2
    rw [X_in L.strings_IndexAny.x1.eq_1]
    by_cases hp : p < s.length
    · have hd : s.drop p = s.getD p 0 :: s.drop (p + 1) := by
        rw [List.drop_eq_getElem_cons hp]; simp [hp]
      rcases dec_facts hp with ⟨e1, e2, e3⟩ | ⟨e1, e2, e3, e4, e5⟩
      · cases hbad : bad2 (s.getD p 0) with
        | true =>
          have h3 := (index2 (byt (bat s p))).2 (by rw [byt_bat]; exact hbad)
          refine ⟨p, ⟨fun _ => by rw [hd, List.any_cons, hbad]; rfl, fun _ => by omega⟩, ?_⟩
          simp (dsimp := false) (disch := first | omega | (simp only [strs_length, List.length_set, List.length_replicate, words_length, ofBytes_length, List.length_append, List.length_cons, List.length_nil, List.length_take, List.length_drop] <;> omega) | fail) only [go_sem, reduceIte, reduceCtorEq, Nat.reduceEqDiff, Nat.reduceAdd, Nat.reduceSub, Nat.reduceMul, Nat.reduceDiv, Nat.reduceMod, Nat.reduceBEq, Nat.reduceLeDiff, Nat.reduceLT, Int.reduceEq, Int.reduceNe, Int.reduceLT, Int.reduceLE, Int.reduceBEq, Int.reduceBNe, Int.reduceToNat, Int.reduceAdd, Int.reduceSub, Int.reduceMul, Int.reduceNeg, hp, e2, e3, go_rune_low (bat_range s p).1 e1, dec_t h3]
        | false =>
          have h3 : ¬ 0 ≤ indexB [47, 0] (byt (bat s p)) := fun h => by rw [index2, byt_bat, hbad] at h; cases h
          obtain ⟨i, h4, h5⟩ := ih (m - 1) (by omega) (p + 1) (by omega) (by omega)
          refine ⟨i, by rw [h4, hd, List.any_cons, hbad, Bool.false_or], ?_⟩
          rw [← h5]
          simp (dsimp := false) (disch := first | omega | (simp only [strs_length, List.length_set, List.length_replicate, words_length, ofBytes_length, List.length_append, List.length_cons, List.length_nil, List.length_take, List.length_drop] <;> omega) | fail) only [go_sem, reduceIte, reduceCtorEq, Nat.reduceEqDiff, Nat.reduceAdd, Nat.reduceSub, Nat.reduceMul, Nat.reduceDiv, Nat.reduceMod, Nat.reduceBEq, Nat.reduceLeDiff, Nat.reduceLT, Int.reduceEq, Int.reduceNe, Int.reduceLT, Int.reduceLE, Int.reduceBEq, Int.reduceBNe, Int.reduceToNat, Int.reduceAdd, Int.reduceSub, Int.reduceMul, Int.reduceNeg, hp, e2, e3, go_rune_low (bat_range s p).1 e1, dec_f h3]
      · have hw : p + (decS s p).2 ≤ s.length := by
          have := (e5 (p + (decS s p).2 - 1) (by omega) (by omega)).1
          omega
        obtain ⟨i, h4, h5⟩ := ih (m - (decS s p).2) (by omega) (p + (decS s p).2) (by omega) (by omega)
        refine ⟨i, ?_, ?_⟩
        · rw [h4]
          have : ∀ w, p + w ≤ s.length → (∀ j, p ≤ j → j < p + w → j < s.length ∧ 128 ≤ bat s j) → (s.drop p).any bad2 = (s.drop (p + w)).any bad2 := by
            intro w
            induction w with
            | zero => intro _ _; rfl
            | succ w ihw =>
              intro hw1 hw2
              rw [ihw (by omega) (fun j j1 j2 => hw2 j j1 (by omega)), List.drop_eq_getElem_cons (by omega : p + w < s.length), List.any_cons]
              have hh := (hw2 (p + w) (by omega) (by omega)).2
              have : bad2 s[p + w] = false := by
                unfold bat at hh
                rw [List.getD_eq_getElem?_getD, List.getElem?_eq_getElem (by omega), Option.getD_some] at hh
                unfold bad2
                rw [Bool.or_eq_false_iff, beq_eq_false_iff_ne, beq_eq_false_iff_ne]
                constructor <;> (intro hx; rw [hx] at hh; simp at hh)
              rw [this, Bool.false_or]
              rfl
          rw [this _ hw e5]
        · rw [← h5]
          have h6 := go_rune_high (r := ((decS s p).1 : Int)) (by omega) (by omega)
          simp (dsimp := false) (disch := first | omega | (simp only [strs_length, List.length_set, List.length_replicate, words_length, ofBytes_length, List.length_append, List.length_cons, List.length_nil, List.length_take, List.length_drop] <;> omega) | fail) only [go_sem, reduceIte, reduceCtorEq, Nat.reduceEqDiff, Nat.reduceAdd, Nat.reduceSub, Nat.reduceMul, Nat.reduceDiv, Nat.reduceMod, Nat.reduceBEq, Nat.reduceLeDiff, Nat.reduceLT, Int.reduceEq, Int.reduceNe, Int.reduceLT, Int.reduceLE, Int.reduceBEq, Int.reduceBNe, Int.reduceToNat, Int.reduceAdd, Int.reduceSub, Int.reduceMul, Int.reduceNeg, hp, h6]
    · refine ⟨-1, ⟨fun h => by omega, fun h => by rw [List.drop_of_length_le (by omega)] at h; simp at h⟩, ?_⟩
      simp (dsimp := false) (disch := first | omega | (simp only [strs_length, List.length_set, List.length_replicate, words_length, ofBytes_length, List.length_append, List.length_cons, List.length_nil, List.length_take, List.length_drop] <;> omega) | fail) only [go_sem, reduceIte, reduceCtorEq, Nat.reduceEqDiff, Nat.reduceAdd, Nat.reduceSub, Nat.reduceMul, Nat.reduceDiv, Nat.reduceMod, Nat.reduceBEq, Nat.reduceLeDiff, Nat.reduceLT, Int.reduceEq, Int.reduceNe, Int.reduceLT, Int.reduceLE, Int.reduceBEq, Int.reduceBNe, Int.reduceToNat, Int.reduceAdd, Int.reduceSub, Int.reduceMul, Int.reduceNeg, hp, L.strings_IndexAny.r2]
/-- The table of the two. -/
def set2 : List AV := (List.range 256).map fun i => .bool (i == 47 || i == 0)
theorem go_set : S E0 F.strings_makeASCIISet [.str [47, 0]] [] = some (.tup [.agg set2, .bool true], []) := S_iff.2 ⟨60, by kernel_rfl⟩
theorem set2_get : ∀ n : Nat, n < 256 → set2[n]? = some (.bool (bad2 (UInt8.ofNat n))) := by
  intro n hn
  simp only [set2, List.getElem?_map, List.getElem?_range hn, Option.map_some, bad2]
  have : ∀ n : Nat, n < 256 → (n == 47 || n == 0) = (UInt8.ofNat n == 47 || UInt8.ofNat n == 0) := by decide +kernel
  rw [this n hn]
theorem flats_set2 : flats set2 = true := by kernel_rfl
theorem set2_length : set2.length = 256 := by simp [set2]
end Cod

/- strings.IndexAny and names.Name. -/
namespace Cod
open Go
set_option maxRecDepth 100000

theorem set2_at {b : Int} (h0 : 0 ≤ b) (h1 : b < 256) : set2[b.toNat]? = some (.bool (bad2 (byt b))) := set2_get b.toNat (by omega)
theorem flat2 : leadss set2 = false := by kernel_rfl
theorem refs2 : refsOfs set2 = [] := by kernel_rfl
theorem rens2 (f : Site → Nat → Option (Site × Nat)) : rens f set2 = set2 := rens_flats set2 flats_set2
theorem hards2 : hards set2 = true := by kernel_rfl
theorem go_contains {x : Site} {b : Int} (h0 : 0 ≤ b) (h1 : b < 256) : S E0 F.strings_asciiSet_contains [.ref (.up x) 0 0, .int .u8 b] [(.up x, ⟨0, true, true, true, set2⟩)] = some (.bool (bad2 (byt b)), [(.up x, ⟨0, true, true, true, set2⟩)]) := by
  rw [S_of0 fn_strings_asciiSet_contains rfl rfl]
  simp (dsimp := false) (disch := first | omega | (simp only [strs_length, List.length_set, List.length_replicate, words_length, ofBytes_length, List.length_append, List.length_cons, List.length_nil, List.length_take, List.length_drop] <;> omega) | fail) only [L.strings_asciiSet_contains, go_sem, reduceIte, reduceCtorEq, Nat.reduceEqDiff, Nat.reduceAdd, Nat.reduceSub, Nat.reduceMul, Nat.reduceDiv, Nat.reduceMod, Nat.reduceBEq, Nat.reduceLeDiff, Nat.reduceLT, Int.reduceEq, Int.reduceNe, Int.reduceLT, Int.reduceLE, Int.reduceBEq, Int.reduceBNe, Int.reduceToNat, Int.reduceAdd, Int.reduceSub, Int.reduceMul, Int.reduceNeg, set2_length, flats_set2, flat2, refs2, rens2, hards2, set2_at h0 h1]
theorem set_walk {s : List UInt8} (hs : s.length ≤ 1000000) : ∀ (m p : Nat), p + m = s.length → ∃ i : Int, ((0 ≤ i) ↔ (s.drop p).any bad2 = true) ∧
    X E0 [.tmp 4] (.c L.strings_IndexAny.x0 :: .lp [0, 6, 8] L.strings_IndexAny.x0 :: .blk 0 :: .c L.strings_IndexAny.r0 :: .c L.strings_IndexAny.r1 :: []) ⟨[(0, .str s), (6, .ref (.s 1000000 0) 0 0), (8, .int .i64 p)], [(.s 1000000 0, ⟨0, true, true, true, set2⟩)]⟩ = some (.int .i64 i, []) := by
  intro m
  induction m with
  | zero =>
    intro p h
    refine ⟨-1, ⟨fun h => by omega, fun h => by rw [List.drop_of_length_le (by omega)] at h; simp at h⟩, ?_⟩
    rw [X_in L.strings_IndexAny.x0.eq_1]
    simp (dsimp := false) (disch := first | omega | (simp only [strs_length, List.length_set, List.length_replicate, words_length, ofBytes_length, List.length_append, List.length_cons, List.length_nil, List.length_take, List.length_drop] <;> omega) | fail) only [go_sem, reduceIte, reduceCtorEq, Nat.reduceEqDiff, Nat.reduceAdd, Nat.reduceSub, Nat.reduceMul, Nat.reduceDiv, Nat.reduceMod, Nat.reduceBEq, Nat.reduceLeDiff, Nat.reduceLT, Int.reduceEq, Int.reduceNe, Int.reduceLT, Int.reduceLE, Int.reduceBEq, Int.reduceBNe, Int.reduceToNat, Int.reduceAdd, Int.reduceSub, Int.reduceMul, Int.reduceNeg, set2_length, flats_set2, flat2, refs2, rens2, hards2, L.strings_IndexAny.r0]
  | succ m ih =>
    intro p h
    have hp : p < s.length := by omega
    have hd : s.drop p = s.getD p 0 :: s.drop (p + 1) := by
      rw [List.drop_eq_getElem_cons hp]; simp [hp]
    obtain ⟨b0, b1⟩ := bat_range s p
    cases hbad : bad2 (s.getD p 0) with
    | true =>
      have h3 : bad2 (byt (bat s p)) = true := by rw [byt_bat]; exact hbad
      refine ⟨p, ⟨fun _ => by rw [hd, List.any_cons, hbad]; rfl, fun _ => by omega⟩, ?_⟩
      rw [X_in L.strings_IndexAny.x0.eq_1]
      simp (dsimp := false) (disch := first | omega | (simp only [strs_length, List.length_set, List.length_replicate, words_length, ofBytes_length, List.length_append, List.length_cons, List.length_nil, List.length_take, List.length_drop] <;> omega) | fail) only [go_sem, reduceIte, reduceCtorEq, Nat.reduceEqDiff, Nat.reduceAdd, Nat.reduceSub, Nat.reduceMul, Nat.reduceDiv, Nat.reduceMod, Nat.reduceBEq, Nat.reduceLeDiff, Nat.reduceLT, Int.reduceEq, Int.reduceNe, Int.reduceLT, Int.reduceLE, Int.reduceBEq, Int.reduceBNe, Int.reduceToNat, Int.reduceAdd, Int.reduceSub, Int.reduceMul, Int.reduceNeg, set2_length, flats_set2, flat2, refs2, rens2, hards2, go_contains b0 b1, h3]
    | false =>
      have h3 : bad2 (byt (bat s p)) = false := by rw [byt_bat]; exact hbad
      obtain ⟨i, h4, h5⟩ := ih (p + 1) (by omega)
      refine ⟨i, by rw [h4, hd, List.any_cons, hbad, Bool.false_or], ?_⟩
      rw [← h5, X_in L.strings_IndexAny.x0.eq_1]
      simp (dsimp := false) (disch := first | omega | (simp only [strs_length, List.length_set, List.length_replicate, words_length, ofBytes_length, List.length_append, List.length_cons, List.length_nil, List.length_take, List.length_drop] <;> omega) | fail) only [go_sem, reduceIte, reduceCtorEq, Nat.reduceEqDiff, Nat.reduceAdd, Nat.reduceSub, Nat.reduceMul, Nat.reduceDiv, Nat.reduceMod, Nat.reduceBEq, Nat.reduceLeDiff, Nat.reduceLT, Int.reduceEq, Int.reduceNe, Int.reduceLT, Int.reduceLE, Int.reduceBEq, Int.reduceBNe, Int.reduceToNat, Int.reduceAdd, Int.reduceSub, Int.reduceMul, Int.reduceNeg, set2_length, flats_set2, flat2, refs2, rens2, hards2, go_contains b0 b1, h3]
      rfl
theorem go_use {n : Int} : S E0 F.strings_shouldUseASCIISet [.int .i64 n] [] = some (.bool (decide (8 < n)), []) := by
  rw [S_of0 fn_strings_shouldUseASCIISet rfl rfl]
  simp (dsimp := false) (disch := first | omega | (simp only [strs_length, List.length_set, List.length_replicate, words_length, ofBytes_length, List.length_append, List.length_cons, List.length_nil, List.length_take, List.length_drop] <;> omega) | fail) only [L.strings_shouldUseASCIISet, go_sem, reduceIte, reduceCtorEq, Nat.reduceEqDiff, Nat.reduceAdd, Nat.reduceSub, Nat.reduceMul, Nat.reduceDiv, Nat.reduceMod, Nat.reduceBEq, Nat.reduceLeDiff, Nat.reduceLT, Int.reduceEq, Int.reduceNe, Int.reduceLT, Int.reduceLE, Int.reduceBEq, Int.reduceBNe, Int.reduceToNat, Int.reduceAdd, Int.reduceSub, Int.reduceMul, Int.reduceNeg]
theorem go_any {s : List UInt8} (hs : s.length ≤ 1000000) : ∃ i : Int, ((0 ≤ i) ↔ s.any bad2 = true) ∧ S E0 F.strings_IndexAny [.str s, .str [47, 0]] [] = some (.int .i64 i, []) := by
  rw [S_of0 fn_strings_IndexAny rfl rfl]
  have e0 : (([47, 0] : List UInt8) == []) = false := rfl
  by_cases h8 : 8 < s.length
  · obtain ⟨i, h1, h2⟩ := set_walk hs s.length 0 (by omega)
    refine ⟨i, by simpa using h1, ?_⟩
    rw [← h2]
    have h9 : decide (8 < (s.length : Int)) = true := by simp; omega
    simp (dsimp := false) (disch := first | omega | (simp only [strs_length, List.length_set, List.length_replicate, words_length, ofBytes_length, List.length_append, List.length_cons, List.length_nil, List.length_take, List.length_drop] <;> omega) | fail) only [L.strings_IndexAny, go_sem, reduceIte, reduceCtorEq, Nat.reduceEqDiff, Nat.reduceAdd, Nat.reduceSub, Nat.reduceMul, Nat.reduceDiv, Nat.reduceMod, Nat.reduceBEq, Nat.reduceLeDiff, Nat.reduceLT, Int.reduceEq, Int.reduceNe, Int.reduceLT, Int.reduceLE, Int.reduceBEq, Int.reduceBNe, Int.reduceToNat, Int.reduceAdd, Int.reduceSub, Int.reduceMul, Int.reduceNeg, set2_length, flats_set2, flat2, refs2, rens2, hards2, e0, go_use, h9, go_set]
    rfl
  · obtain ⟨i, h1, h2⟩ := any_walk hs s.length 0 (by omega) (by omega)
    refine ⟨i, by simpa using h1, ?_⟩
    rw [← h2]
    have h9 : decide (8 < (s.length : Int)) = false := by simp; omega
    simp (dsimp := false) (disch := first | omega | (simp only [strs_length, List.length_set, List.length_replicate, words_length, ofBytes_length, List.length_append, List.length_cons, List.length_nil, List.length_take, List.length_drop] <;> omega) | fail) only [L.strings_IndexAny, go_sem, reduceIte, reduceCtorEq, Nat.reduceEqDiff, Nat.reduceAdd, Nat.reduceSub, Nat.reduceMul, Nat.reduceDiv, Nat.reduceMod, Nat.reduceBEq, Nat.reduceLeDiff, Nat.reduceLT, Int.reduceEq, Int.reduceNe, Int.reduceLT, Int.reduceLE, Int.reduceBEq, Int.reduceBNe, Int.reduceToNat, Int.reduceAdd, Int.reduceSub, Int.reduceMul, Int.reduceNeg, set2_length, flats_set2, flat2, refs2, rens2, hards2, e0, go_use, h9, L.strings_IndexAny.r1]
theorem go_containsAny {s : List UInt8} (hs : s.length ≤ 1000000) : S E0 F.strings_ContainsAny [.str s, .str [47, 0]] [] = some (.bool (s.any bad2), []) := by
  rw [S_of0 fn_strings_ContainsAny rfl rfl]
  obtain ⟨i, h1, h2⟩ := go_any hs
  have h3 : decide (0 ≤ i) = s.any bad2 := by
    cases h : s.any bad2 with
    | true => simp [h1.2 h]
    | false => rw [decide_eq_false_iff_not, h1, h]; simp
  simp (dsimp := false) (disch := first | omega | (simp only [strs_length, List.length_set, List.length_replicate, words_length, ofBytes_length, List.length_append, List.length_cons, List.length_nil, List.length_take, List.length_drop] <;> omega) | fail) only [L.strings_ContainsAny, go_sem, reduceIte, reduceCtorEq, Nat.reduceEqDiff, Nat.reduceAdd, Nat.reduceSub, Nat.reduceMul, Nat.reduceDiv, Nat.reduceMod, Nat.reduceBEq, Nat.reduceLeDiff, Nat.reduceLT, Int.reduceEq, Int.reduceNe, Int.reduceLT, Int.reduceLE, Int.reduceBEq, Int.reduceBNe, Int.reduceToNat, Int.reduceAdd, Int.reduceSub, Int.reduceMul, Int.reduceNeg, h2, h3]
theorem isGit_ascii {s : List UInt8} (hs : s.length = 4) (h : isGit s = true) : bat s 1 < 128 ∧ bat s 2 < 128 := by
  rw [← git4_eq hs] at h
  simp only [git4, Bool.and_eq_true, decide_eq_true_eq] at h
  exact ⟨h.2.1.1, h.2.2.1.1⟩
theorem any_bad (s : List UInt8) : s.any bad2 = (s.contains 47 || s.contains 0) := by
  induction s with
  | nil => rfl
  | cons b s ih =>
    rw [List.any_cons, ih, List.contains_cons, List.contains_cons]
    unfold bad2
    rw [show (47 == b) = (b == 47) from Bool.beq_comm, show (0 == b) = (b == 0) from Bool.beq_comm]
    cases (b == 47) <;> cases (b == 0) <;> cases s.contains 47 <;> cases s.contains 0 <;> rfl
theorem isGit_len {s : List UInt8} (h : s.length ≠ 4) : isGit s = false := by
  unfold isGit
  split
  · exact absurd rfl h
  · rfl
theorem go_name {s : List UInt8} (hs : s.length ≤ 1000000) : S E0 F.names_Name [.str s] [] = some (.bool (nameOK s), []) := by
  rw [S_of0 fn_names_Name rfl rfl]
  cases c1 : (s == []) with
  | true =>
    have : nameOK s = false := by rw [eq_of_beq c1]; rfl
    rw [this]
    simp (dsimp := false) (disch := first | omega | (simp only [strs_length, List.length_set, List.length_replicate, words_length, ofBytes_length, List.length_append, List.length_cons, List.length_nil, List.length_take, List.length_drop] <;> omega) | fail) only [L.names_Name, go_sem, reduceIte, reduceCtorEq, Nat.reduceEqDiff, Nat.reduceAdd, Nat.reduceSub, Nat.reduceMul, Nat.reduceDiv, Nat.reduceMod, Nat.reduceBEq, Nat.reduceLeDiff, Nat.reduceLT, Int.reduceEq, Int.reduceNe, Int.reduceLT, Int.reduceLE, Int.reduceBEq, Int.reduceBNe, Int.reduceToNat, Int.reduceAdd, Int.reduceSub, Int.reduceMul, Int.reduceNeg, c1]
  | false =>
  cases c2 : (s == [46]) with
  | true =>
    have : nameOK s = false := by rw [eq_of_beq c2]; rfl
    rw [this]
    simp (dsimp := false) (disch := first | omega | (simp only [strs_length, List.length_set, List.length_replicate, words_length, ofBytes_length, List.length_append, List.length_cons, List.length_nil, List.length_take, List.length_drop] <;> omega) | fail) only [L.names_Name, go_sem, reduceIte, reduceCtorEq, Nat.reduceEqDiff, Nat.reduceAdd, Nat.reduceSub, Nat.reduceMul, Nat.reduceDiv, Nat.reduceMod, Nat.reduceBEq, Nat.reduceLeDiff, Nat.reduceLT, Int.reduceEq, Int.reduceNe, Int.reduceLT, Int.reduceLE, Int.reduceBEq, Int.reduceBNe, Int.reduceToNat, Int.reduceAdd, Int.reduceSub, Int.reduceMul, Int.reduceNeg, c1, c2]
  | false =>
  cases c3 : (s == [46, 46]) with
  | true =>
    have : nameOK s = false := by rw [eq_of_beq c3]; rfl
    rw [this]
    simp (dsimp := false) (disch := first | omega | (simp only [strs_length, List.length_set, List.length_replicate, words_length, ofBytes_length, List.length_append, List.length_cons, List.length_nil, List.length_take, List.length_drop] <;> omega) | fail) only [L.names_Name, go_sem, reduceIte, reduceCtorEq, Nat.reduceEqDiff, Nat.reduceAdd, Nat.reduceSub, Nat.reduceMul, Nat.reduceDiv, Nat.reduceMod, Nat.reduceBEq, Nat.reduceLeDiff, Nat.reduceLT, Int.reduceEq, Int.reduceNe, Int.reduceLT, Int.reduceLE, Int.reduceBEq, Int.reduceBNe, Int.reduceToNat, Int.reduceAdd, Int.reduceSub, Int.reduceMul, Int.reduceNeg, c1, c2, c3]
  | false =>
  have hl : 1 ≤ s.length := by
    cases s with
    | nil => simp at c1
    | cons b s => simp
  by_cases c4 : 100 < s.length
  · have : nameOK s = false := by
      unfold nameOK
      rw [show decide (s.length ≤ 100) = false from dec_f (by omega)]
      simp
    have c4' : decide (100 < (s.length : Int)) = true := dec_t (by omega)
    rw [this]
    simp (dsimp := false) (disch := first | omega | (simp only [strs_length, List.length_set, List.length_replicate, words_length, ofBytes_length, List.length_append, List.length_cons, List.length_nil, List.length_take, List.length_drop] <;> omega) | fail) only [L.names_Name, go_sem, reduceIte, reduceCtorEq, Nat.reduceEqDiff, Nat.reduceAdd, Nat.reduceSub, Nat.reduceMul, Nat.reduceDiv, Nat.reduceMod, Nat.reduceBEq, Nat.reduceLeDiff, Nat.reduceLT, Int.reduceEq, Int.reduceNe, Int.reduceLT, Int.reduceLE, Int.reduceBEq, Int.reduceBNe, Int.reduceToNat, Int.reduceAdd, Int.reduceSub, Int.reduceMul, Int.reduceNeg, c1, c2, c3, c4']
  · have c4' : decide (100 < (s.length : Int)) = false := dec_f (by omega)
    have hn : nameOK s = (!(s.any bad2) && !isGit s) := by
      unfold nameOK
      rw [any_bad, show decide (s.length ≤ 100) = true from dec_t (by omega), show decide (1 ≤ s.length) = true from dec_t hl, show (s != [46]) = true by simp [bne, c2], show (s != [46, 46]) = true by simp [bne, c3]]
      cases s.contains 47 <;> cases s.contains 0 <;> cases isGit s <;> rfl
    by_cases c5 : s.length = 4
    · have c5' : ((s.length : Int) == 4) = true := beq_t (by omega)
      have hf := go_fold c5
      rw [git4_eq c5] at hf
      cases hg : isGit s with
      | true =>
        obtain ⟨g1, g2⟩ := isGit_ascii c5 hg
        rw [hg] at hf
        rw [hn, hg]
        simp (dsimp := false) (disch := first | omega | (simp only [strs_length, List.length_set, List.length_replicate, words_length, ofBytes_length, List.length_append, List.length_cons, List.length_nil, List.length_take, List.length_drop] <;> omega) | fail) only [L.names_Name, go_sem, reduceIte, reduceCtorEq, Nat.reduceEqDiff, Nat.reduceAdd, Nat.reduceSub, Nat.reduceMul, Nat.reduceDiv, Nat.reduceMod, Nat.reduceBEq, Nat.reduceLeDiff, Nat.reduceLT, Int.reduceEq, Int.reduceNe, Int.reduceLT, Int.reduceLE, Int.reduceBEq, Int.reduceBNe, Int.reduceToNat, Int.reduceAdd, Int.reduceSub, Int.reduceMul, Int.reduceNeg, c1, c2, c3, c4', c5', hf, dec_t g1, dec_t g2, Bool.not_true, Bool.and_false]
      | false =>
        rw [hg] at hf
        rw [hn, hg]
        simp (dsimp := false) (disch := first | omega | (simp only [strs_length, List.length_set, List.length_replicate, words_length, ofBytes_length, List.length_append, List.length_cons, List.length_nil, List.length_take, List.length_drop] <;> omega) | fail) only [L.names_Name, go_sem, reduceIte, reduceCtorEq, Nat.reduceEqDiff, Nat.reduceAdd, Nat.reduceSub, Nat.reduceMul, Nat.reduceDiv, Nat.reduceMod, Nat.reduceBEq, Nat.reduceLeDiff, Nat.reduceLT, Int.reduceEq, Int.reduceNe, Int.reduceLT, Int.reduceLE, Int.reduceBEq, Int.reduceBNe, Int.reduceToNat, Int.reduceAdd, Int.reduceSub, Int.reduceMul, Int.reduceNeg, c1, c2, c3, c4', c5', hf, go_containsAny hs, Bool.not_false, Bool.and_true]
    · have c5' : ((s.length : Int) == 4) = false := beq_f (by omega)
      rw [hn, isGit_len c5]
      simp (dsimp := false) (disch := first | omega | (simp only [strs_length, List.length_set, List.length_replicate, words_length, ofBytes_length, List.length_append, List.length_cons, List.length_nil, List.length_take, List.length_drop] <;> omega) | fail) only [L.names_Name, go_sem, reduceIte, reduceCtorEq, Nat.reduceEqDiff, Nat.reduceAdd, Nat.reduceSub, Nat.reduceMul, Nat.reduceDiv, Nat.reduceMod, Nat.reduceBEq, Nat.reduceLeDiff, Nat.reduceLT, Int.reduceEq, Int.reduceNe, Int.reduceLT, Int.reduceLE, Int.reduceBEq, Int.reduceBNe, Int.reduceToNat, Int.reduceAdd, Int.reduceSub, Int.reduceMul, Int.reduceNeg, c1, c2, c3, c4', c5', go_containsAny hs, Bool.not_false, Bool.and_true]
end Cod

/- A run that knows less of the library is a run that knows more of it. -/
namespace Cod
open Go
theorem evR_env {E E' : Env} (h : E'.glob = E.glob) (sl loc : List (Nat × AV)) : evR E' sl loc = evR E sl loc := by
  funext x; cases x <;> simp [evR, h]
theorem opR_env {E E' : Env} (h : E'.glob = E.glob) (c : CallF) (sl : List (Nat × AV)) (o : LOper) (r : RS) : opR E' c sl o r = opR E c sl o r := by
  unfold opR; rw [evR_env h]
theorem touchR_env {E E' : Env} (h : E'.glob = E.glob) (c : CallF) (sl : List (Nat × AV)) (o : LOper) (r : RS) : touchR E' c sl o r = touchR E c sl o r := by
  unfold touchR; rw [evR_env h]
theorem opsR_env {E E' : Env} (h : E'.glob = E.glob) (c : CallF) (sl : List (Nat × AV)) : ∀ (os : List LOper) (r : RS), opsR E' c sl os r = opsR E c sl os r := by
  intro os
  induction os with
  | nil => intro r; rfl
  | cons o os ih => intro r; simp only [opsR, opR_env h, ih]
theorem touches_env {E E' : Env} (h : E'.glob = E.glob) (c : CallF) (sl : List (Nat × AV)) : ∀ (os : List LOper) (r : RS), touches E' c sl os r = touches E c sl os r := by
  intro os
  induction os with
  | nil => intro r; rfl
  | cons o os ih => intro r; simp only [touches, opR_env h, touchR_env h, ih]
theorem ev_env {E E' : Env} (h : E'.glob = E.glob) (sl : List (Nat × AV)) (x : LO) : ev E' sl x = ev E sl x := by
  cases x <;> simp [ev, h]
theorem move_env {E E' : Env} (h : E'.glob = E.glob) (c : CallF) (st : St) (k : List It) : move E' c st k = move E c st k := by
  unfold move
  simp only [ev_env h, opsR_env h, touches_env h]
/-- What is known beside leaves the other runs as they are. -/
structure Ext (E E' : Env) : Prop where
  glob : E'.glob = E.glob
  fn : E'.fn = E.fn
  known : ∀ f h, E.known f = some h → E'.known f = some h
  none : ∀ f, E.known f = none → E'.known f = none ∨ E.fn f = none
theorem ext_both {E E' : Env} (h : Ext E E') : ∀ n, (∀ fn k st r, exec E n fn k st = some r → exec E' n fn k st = some r) ∧ LeC (acall E n) (acall E' n) := by
  intro n
  induction n with
  | zero => exact ⟨fun fn k st r h => by simp [exec] at h, fun f a σ r h => by simp [acall] at h⟩
  | succ n ih =>
    obtain ⟨ih1, ih2⟩ := ih
    constructor
    · intro fn k st r hx
      rw [exec] at hx ⊢
      rw [move_env h.glob]
      cases hm : move E (acall E n) st k with
      | go k' st' => rw [hm] at hx; rw [move_mono ih2 (by simp) hm]; exact ih1 _ _ _ _ hx
      | done => rw [hm] at hx; rw [move_mono ih2 (by simp) hm]; exact hx
      | stuck => rw [hm] at hx; cases hx
    · intro f a σ r hx
      rw [acall] at hx ⊢
      cases hk : E.known f with
      | some g => rw [hk] at hx; rw [h.known f g hk]; exact hx
      | none =>
        rw [hk] at hx
        cases hf : E.fn f with
        | none => rw [hf] at hx; cases hx
        | some fn =>
          have hk' : E'.known f = Option.none := (h.none f hk).resolve_right (by rw [hf]; simp)
          rw [hk', h.fn, hf]
          rw [hf] at hx; simp only [] at hx ⊢
          cases hb : (a.length == fn.np) <;> rw [hb] at hx <;> simp only [cond_true, cond_false] at hx ⊢
          · cases hx
          · exact ih1 _ _ _ _ hx
theorem S_ext {E E' : Env} (h : Ext E E') {f : Nat} {a : List AV} {σ : Store} {r : AV × Store} (hx : S E f a σ = some r) : S E' f a σ = some r := by
  obtain ⟨n, hn⟩ := S_iff.1 hx
  exact S_iff.2 ⟨n, (ext_both h n).2 _ _ _ _ hn⟩
end Cod

/- What is known without names.Path is known with it. -/
namespace Cod
open Go
theorem ext0 : Ext E0 E where
  glob := rfl
  fn := rfl
  known f h hk := hk
  none f hk := .inl hk
end Cod


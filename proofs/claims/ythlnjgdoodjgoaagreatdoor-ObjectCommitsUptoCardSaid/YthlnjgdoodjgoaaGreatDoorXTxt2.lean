/- strconv.FormatInt at base 8. -/
import Derived.KernelRfl
import Derived.Test.YthlnjgdoodjgoaaGreatDoorXTxt1
import Derived.Test.YthlnjgdoodjgoaaGreatDoorXCod1
set_option linter.unusedSimpArgs false
set_option linter.unusedVariables false
open Nat renaming reduceEqDiff → qn0, reduceAdd → qn1, reduceSub → qn2, reduceMul → qn3, reduceDiv → qn4, reduceMod → qn5, reduceBEq → qn6, reduceLeDiff → qn7, reduceLT → qn8
open Int renaming reduceEq → qi0, reduceNe → qi1, reduceLT → qi2, reduceLE → qi3, reduceBEq → qi4, reduceBNe → qi5, reduceToNat → qi6, reduceAdd → qi7, reduceSub → qi8, reduceMul → qi9, reduceNeg → qi10
namespace Cod
open Go
set_option maxRecDepth 100000
theorem tz8 : S E F.bits_TrailingZeros [.int .u64 8] [] = some (.int .i64 3, []) := S_iff.2 ⟨60, by kernel_rfl⟩
theorem pow8 : S E F.strconv_isPowerOfTwo [.int .i64 8] [] = some (.bool true, []) := S_iff.2 ⟨60, by kernel_rfl⟩
def dig36 : List UInt8 := [48, 49, 50, 51, 52, 53, 54, 55, 56, 57, 97, 98, 99, 100, 101, 102, 103, 104, 105, 106, 107, 108, 109, 110, 111, 112, 113, 114, 115, 116, 117, 118, 119, 120, 121, 122]
theorem dig36_at : ∀ u : Nat, u < 8 → bat dig36 u = 48 + (u : Int) := by decide
def fbuf (i : Nat) (acc : List UInt8) : List UInt8 := List.replicate i 0 ++ acc
theorem fbuf_len (i : Nat) (acc : List UInt8) : (fbuf i acc).length = i + acc.length := by simp [fbuf]
theorem fbuf_set (i : Nat) (acc : List UInt8) (b : UInt8) : (fbuf (i + 1) acc).set i b = fbuf i (b :: acc) := by
  unfold fbuf
  rw [List.replicate_succ', List.append_assoc, List.set_append_right _ _ (by simp)]
  simp
theorem and7 (u : Nat) (h : u < 18446744073709551616) : iand .u64 (u : Int) 7 = ((u % 8 : Nat) : Int) := by
  unfold iand
  have e : (BitVec.ofInt IntKind.u64.bits (u : Int) &&& BitVec.ofInt IntKind.u64.bits 7).toNat = u % 8 := by
    rw [BitVec.toNat_and, BitVec.toNat_ofInt, BitVec.toNat_ofInt]
    show ((u : Int) % 18446744073709551616).toNat &&& 7 = u % 8
    rw [show ((u : Int) % 18446744073709551616).toNat = u by omega]
    exact Nat.and_two_pow_sub_one_eq_mod u 3
  rw [e, wrap_u64 (by omega) (by omega)]
theorem shr3 (u : Nat) : ishr .u64 (u : Int) 3 = ((u / 8 : Nat) : Int) := by
  have := ishr_any (k := .u64) (a := (u : Int)) (n := 3) (by decide)
  simp only [Int.cast_ofNat_Int] at this
  rw [this]
  omega
theorem fmt_l0 (k : List It) (b : Bool) : ∀ (f u i : Nat) (acc : List UInt8), u < 8 ^ f → u < 18446744073709551616 → f ≤ i → 1 ≤ f → i + acc.length = 65 →
    ∃ (i' u' : Nat) (acc' : List UInt8), u' < 8 ∧ 1 ≤ i' ∧ i' + acc'.length = 65 ∧ byt (48 + (u' : Int)) :: acc' = octL f u acc ∧ i + 1 ≤ f + i' ∧
    X E [.tmp 10, .tmp 11] (.c L.strconv_formatBits.x0 :: .lp [0, 1, 3, 4, 10, 11, 12, 13, 14, 15, 16] L.strconv_formatBits.x0 :: .blk 0 :: k) ⟨[(0, .nils), (1, .int .u64 u), (3, .bool b), (4, .bool false), (10, .buf (.s 1000000 0) 0 0 0 1), (11, .str []), (12, .ref (.s 1000000 1) 0 0), (13, .int .i64 i), (14, .int .u64 3), (15, .int .u64 8), (16, .int .u64 7)], [(.s 1000000 0, ⟨0, true, true, false, []⟩), (.s 1000000 1, ⟨0, true, true, true, ofBytes (fbuf i acc)⟩)]⟩ =
    X E [.tmp 10, .tmp 11] k ⟨[(0, .nils), (1, .int .u64 u'), (3, .bool b), (4, .bool false), (10, .buf (.s 1000000 0) 0 0 0 1), (11, .str []), (12, .ref (.s 1000000 1) 0 0), (13, .int .i64 i'), (14, .int .u64 3), (15, .int .u64 8), (16, .int .u64 7), (46, .bool false)], [(.s 1000000 0, ⟨0, true, true, false, []⟩), (.s 1000000 1, ⟨0, true, true, true, ofBytes (fbuf i' acc')⟩)]⟩ := by
  intro f
  induction f with
  | zero => intro u i acc hu h64 hi h1; omega
  | succ f ih =>
    intro u i acc hu h64 hi _ hl
    rw [X_in L.strconv_formatBits.x0.eq_1]
    by_cases h8 : u < 8
    · refine ⟨i, u, acc, h8, by omega, hl, by rw [octL, if_pos h8], by omega, ?_⟩
      simp (dsimp := false) (disch := first | omega | (simp only [LENs, fbuf_len] <;> omega) | fail) only [go_sem, reduceIte, reduceCtorEq, qn0, qn1, qn2, qn3, qn4, qn5, qn6, qn7, qn8, qi0, qi1, qi2, qi3, qi4, qi5, qi6, qi7, qi8, qi9, qi10, BYs, h8]
    · have hf : 1 ≤ f := by
        rcases Nat.eq_zero_or_pos f with rfl | h
        · simp at hu; omega
        · exact h
      obtain ⟨j, rfl⟩ : ∃ j, i = j + 1 := ⟨i - 1, by omega⟩
      have hmod := dig36_at (u % 8) (by omega)
      obtain ⟨i', u', acc', q1, q2, q3, q4, q5, q6⟩ := ih (u / 8) j (byt (48 + (u % 8 : Nat)) :: acc) (by rw [Nat.pow_succ] at hu; omega) (by omega) (by omega) hf (by rw [List.length_cons]; omega)
      refine ⟨i', u', acc', q1, q2, q3, by rw [octL, if_neg h8]; exact q4, by omega, ?_⟩
      rw [← q6]
      have e1 : ((j + 1 : Nat) : Int) - 1 = j := by omega
      have e2 : iand .u64 (u : Int) 7 = ((u % 8 : Nat) : Int) := and7 u h64
      have e3 : ishr .u64 (u : Int) 3 = ((u / 8 : Nat) : Int) := shr3 u
      unfold dig36 at hmod
      have e4 : UInt8.ofNat (48 + ((u % 8 : Nat) : Int)).toNat = byt (48 + ((u % 8 : Nat) : Int)) := rfl
      simp (dsimp := false) (disch := first | omega | (simp only [LENs, fbuf_len] <;> omega) | fail) only [go_sem, reduceIte, reduceCtorEq, qn0, qn1, qn2, qn3, qn4, qn5, qn6, qn7, qn8, qi0, qi1, qi2, qi3, qi4, qi5, qi6, qi7, qi8, qi9, qi10, BYs, h8, e1, e2, e3, toNat_cast, hmod, e4, fbuf_set]
theorem fbuf_drop (i : Nat) (acc : List UInt8) : sub (fbuf i acc) i acc.length = acc := by
  unfold fbuf sub
  rw [List.drop_left' (by simp), List.take_length]
theorem go_fmtBits {u : Nat} {b : Bool} (h64 : u ≤ 9223372036854775808) : S E F.strconv_formatBits [.nils, .int .u64 (if b then (if u = 0 then 0 else 18446744073709551616 - (u : Int)) else u), .int .i64 8, .bool b, .bool false] [] = some (.tup [.buf (.r 0) 0 0 0 1, .str ((if b then [45] else []) ++ octL 22 u [])], [(.r 0, ⟨0, true, true, false, []⟩)]) := by
  have h22 : (8 : Nat) ^ 22 = 73786976294838206464 := by decide
  obtain ⟨i', u', acc', q1, q2, q3, q4, q5, q6⟩ := fmt_l0 [.c L.strconv_formatBits.r0, .c L.strconv_formatBits.r2] b 22 u 65 [] (by omega) (by omega) (by omega) (by omega) rfl
  obtain ⟨j, rfl⟩ : ∃ j, i' = j + 1 := ⟨i' - 1, by omega⟩
  have hmod := dig36_at u' q1
  unfold dig36 at hmod
  have e1 : ((j + 1 : Nat) : Int) - 1 = j := by omega
  have e4 : UInt8.ofNat (48 + (u' : Int)).toNat = byt (48 + (u' : Int)) := rfl
  have e5 : fbuf 65 [] = List.replicate 65 0 := by simp [fbuf]
  rw [e5] at q6
  simp only [Int.cast_ofNat_Int] at q6
  have hs1 : sub (fbuf j (byt (48 + (u' : Int)) :: acc')) j (65 - j) = octL 22 u [] := by
    rw [← q4, show 65 - j = (byt (48 + (u' : Int)) :: acc').length by rw [List.length_cons]; omega]
    exact fbuf_drop j _
  rw [S_of fn_strconv_formatBits rfl rfl]
  cases b with
  | false =>
    simp (dsimp := false) (disch := first | omega | (simp only [LENs, fbuf_len] <;> omega) | fail) only [L.strconv_formatBits, go_sem, reduceIte, reduceCtorEq, qn0, qn1, qn2, qn3, qn4, qn5, qn6, qn7, qn8, qi0, qi1, qi2, qi3, qi4, qi5, qi6, qi7, qi8, qi9, qi10, BYs, tz8, pow8]
    rw [q6]
    simp (dsimp := false) (disch := first | omega | (simp only [LENs, fbuf_len] <;> omega) | fail) only [L.strconv_formatBits.r0, go_sem, reduceIte, reduceCtorEq, qn0, qn1, qn2, qn3, qn4, qn5, qn6, qn7, qn8, qi0, qi1, qi2, qi3, qi4, qi5, qi6, qi7, qi8, qi9, qi10, BYs, e1, hmod, e4, fbuf_set, toNat_cast]
    simp (dsimp := false) (disch := first | omega | (simp only [LENs, fbuf_len] <;> omega) | fail) only [L.strconv_formatBits.r2, go_sem, reduceIte, reduceCtorEq, qn0, qn1, qn2, qn3, qn4, qn5, qn6, qn7, qn8, qi0, qi1, qi2, qi3, qi4, qi5, qi6, qi7, qi8, qi9, qi10, BYs, e1, hmod, e4, fbuf_set, toNat_cast, hs1]
  | true =>
    have e6 : IntKind.u64.wrap (0 - (if u = 0 then 0 else 18446744073709551616 - (u : Int))) = u := by
      simp only [IntKind.wrap, IntKind.signed, IntKind.bits]
      split <;> simp <;> omega
    simp (dsimp := false) (disch := first | omega | (simp only [LENs, fbuf_len] <;> omega) | fail) only [L.strconv_formatBits, go_sem, reduceIte, reduceCtorEq, qn0, qn1, qn2, qn3, qn4, qn5, qn6, qn7, qn8, qi0, qi1, qi2, qi3, qi4, qi5, qi6, qi7, qi8, qi9, qi10, BYs, tz8, pow8, e6]
    rw [q6]
    obtain ⟨m, rfl⟩ : ∃ m, j = m + 1 := ⟨j - 1, by omega⟩
    have e7 : ((m + 1 : Nat) : Int) - 1 = m := by omega
    have hs2 : sub (fbuf m (45 :: byt (48 + (u' : Int)) :: acc')) m (65 - m) = 45 :: octL 22 u [] := by
      rw [← q4, show 65 - m = (45 :: byt (48 + (u' : Int)) :: acc').length by rw [List.length_cons, List.length_cons]; omega]
      exact fbuf_drop m _
    have e8 : UInt8.ofNat 45 = 45 := rfl
    simp (dsimp := false) (disch := first | omega | (simp only [LENs, fbuf_len] <;> omega) | fail) only [L.strconv_formatBits.r0, go_sem, reduceIte, reduceCtorEq, qn0, qn1, qn2, qn3, qn4, qn5, qn6, qn7, qn8, qi0, qi1, qi2, qi3, qi4, qi5, qi6, qi7, qi8, qi9, qi10, BYs, e1, hmod, e4, fbuf_set, toNat_cast]
    simp (dsimp := false) (disch := first | omega | (simp only [LENs, fbuf_len] <;> omega) | fail) only [L.strconv_formatBits.r2, go_sem, reduceIte, reduceCtorEq, qn0, qn1, qn2, qn3, qn4, qn5, qn6, qn7, qn8, qi0, qi1, qi2, qi3, qi4, qi5, qi6, qi7, qi8, qi9, qi10, BYs, e7, e8, fbuf_set, toNat_cast, hs2]
theorem go_format8 {m : Int} (h0 : -9223372036854775808 ≤ m) (h1 : m ≤ 9223372036854775807) : S E F.strconv_FormatInt [.int .i64 m, .int .i64 8] [] = some (.str (octT m), []) := by
  have hb : S E F.strconv_FormatInt_87 [.int .i64 m, .int .i64 8] [] = some (.str (octT m), []) := by
    rw [S_of fn_strconv_FormatInt_87 rfl rfl]
    unfold octT
    by_cases hn : m < 0
    · have h2 := go_fmtBits (u := m.natAbs) (b := true) (by omega)
      rw [if_pos rfl, if_neg (by omega), if_pos rfl] at h2
      have e : IntKind.u64.wrap m = 18446744073709551616 - ((m.natAbs : Nat) : Int) := by
        simp only [IntKind.wrap, IntKind.signed, IntKind.bits]; simp; omega
      rw [if_pos hn]
      simp (dsimp := false) (disch := first | omega | (simp only [LENs, fbuf_len] <;> omega) | fail) only [L.strconv_FormatInt_87, go_sem, reduceIte, reduceCtorEq, qn0, qn1, qn2, qn3, qn4, qn5, qn6, qn7, qn8, qi0, qi1, qi2, qi3, qi4, qi5, qi6, qi7, qi8, qi9, qi10, BYs, hn, e, h2]
    · have h2 := go_fmtBits (u := m.natAbs) (b := false) (by omega)
      rw [if_neg (by simp), if_neg (by simp)] at h2
      have e : IntKind.u64.wrap m = ((m.natAbs : Nat) : Int) := by
        simp only [IntKind.wrap, IntKind.signed, IntKind.bits]; simp; omega
      rw [if_neg hn]
      simp (dsimp := false) (disch := first | omega | (simp only [LENs, fbuf_len] <;> omega) | fail) only [L.strconv_FormatInt_87, go_sem, reduceIte, reduceCtorEq, qn0, qn1, qn2, qn3, qn4, qn5, qn6, qn7, qn8, qi0, qi1, qi2, qi3, qi4, qi5, qi6, qi7, qi8, qi9, qi10, BYs, hn, e, h2]
  rw [S_of fn_strconv_FormatInt rfl rfl]
  simp (dsimp := false) (disch := first | omega | (simp only [LENs, fbuf_len] <;> omega) | fail) only [L.strconv_FormatInt, go_sem, reduceIte, reduceCtorEq, qn0, qn1, qn2, qn3, qn4, qn5, qn6, qn7, qn8, qi0, qi1, qi2, qi3, qi4, qi5, qi6, qi7, qi8, qi9, qi10, hb]
end Cod
namespace Cod
open Go
set_option maxRecDepth 100000
theorem fold_closed (r v : Int) (h : (r = 46 ∧ v = 46) ∨ (r = 103 ∧ v = 71) ∨ (r = 71 ∧ v = 103) ∨ (r = 105 ∧ v = 73) ∨ (r = 73 ∧ v = 105) ∨ (r = 116 ∧ v = 84) ∨ (r = 84 ∧ v = 116)) : S E0 F.unicode_SimpleFold [.int .i32 r] [] = some (.int .i32 v, []) := by
  rcases h with ⟨rfl, rfl⟩ | ⟨rfl, rfl⟩ | ⟨rfl, rfl⟩ | ⟨rfl, rfl⟩ | ⟨rfl, rfl⟩ | ⟨rfl, rfl⟩ | ⟨rfl, rfl⟩ <;> exact S_iff.2 ⟨60, by kernel_rfl⟩
theorem decode_ascii {b : UInt8} {l : List UInt8} (h : b < 128) : S E0 F.utf8_DecodeRuneInString [.str (b :: l)] [] = some (.tup [.int .i32 b.toNat, .int .i64 1], []) := by
  have hb : b.toNat < 128 := h
  rw [S_of0 fn_utf8_DecodeRuneInString rfl rfl]
  have h1 : ((b :: l : List UInt8) == []) = false := rfl
  have h2 : ((b.toNat : Int) < 128) := by omega
  have h3 : IntKind.i32.wrap (b.toNat : Int) = b.toNat := by
    simp only [IntKind.wrap, IntKind.signed, IntKind.bits]; simp; omega
  simp (dsimp := false) (disch := first | omega | (simp only [LENs] <;> omega) | fail) only [L.utf8_DecodeRuneInString, go_sem, reduceIte, reduceCtorEq, qn0, qn1, qn2, qn3, qn4, qn5, qn6, qn7, qn8, qi0, qi1, qi2, qi3, qi4, qi5, qi6, qi7, qi8, qi9, qi10, h1, h2, h3, bat, List.getD_cons_zero]
def EFrest : LCode := match L.strings_EqualFold.r0 with | .seq _ (.seq _ r) => r | _ => .skip
theorem ba_get {l : List UInt8} {i : Nat} (h : i < l.length) : ((⟨l.toArray⟩ : ByteArray).get! i).toNat = (l.getD i 0).toNat := by
  simp [ByteArray.get!, h, List.getD]
theorem dec_high {l : List UInt8} {i : Nat} (h : i < l.length) (hb : 128 ≤ bat l i) : 128 ≤ (decS l i).1 := by
  have hg : ((⟨l.toArray⟩ : ByteArray).get! (i + 0)).toNat = (l.getD i 0).toNat := ba_get h
  unfold bat at hb
  unfold decS Utf8.decode Utf8.runeError
  simp only [hg]
  repeat' split
  all_goals (try simp only [ge_iff_le, Bool.and_eq_true, decide_eq_true_eq] at *)
  all_goals omega
theorem or_high : ∀ t ∈ [46, 103, 105, 116], ∀ n : Nat, n < 256 → (decide ((128 : Int) ≤ ior .u8 n t)) = decide (128 ≤ n) := by decide +kernel
theorem ef_uni {SC : LCode} {s : List UInt8} (hs : s.length = 4) (i : Nat) (hi : i < 4) (hb : 128 ≤ bat s i) (v6 v21 v7 v8 v33 : AV) :
    X E0 [.tmp 4] [.c EFrest, .scp SC] ⟨[(0, .str s), (1, .str [46, 103, 105, 116]), (5, .int .i64 i), (6, v6), (21, v21), (7, v7), (8, v8), (33, v33)], []⟩ = some (.bool false, []) := by
  have hd : 0 < (s.drop i).length := by rw [List.length_drop]; omega
  have hb' : 128 ≤ bat (s.drop i) 0 := by simpa [bat] using hb
  have hr := dec_high hd hb'
  generalize he : decS (s.drop i) 0 = q at hr
  obtain ⟨r, wd⟩ := q
  have : i = 0 ∨ i = 1 ∨ i = 2 ∨ i = 3 := by omega
  have hrz : (128 : Int) ≤ r := by simp only at hr; omega
  have d46 : S E0 F.utf8_DecodeRuneInString [.str [46, 103, 105, 116]] [] = some (.tup [.int .i32 46, .int .i64 1], []) := decode_ascii (by decide)
  have d103 : S E0 F.utf8_DecodeRuneInString [.str [103, 105, 116]] [] = some (.tup [.int .i32 103, .int .i64 1], []) := decode_ascii (by decide)
  have d105 : S E0 F.utf8_DecodeRuneInString [.str [105, 116]] [] = some (.tup [.int .i32 105, .int .i64 1], []) := decode_ascii (by decide)
  have d116 : S E0 F.utf8_DecodeRuneInString [.str [116]] [] = some (.tup [.int .i32 116, .int .i64 1], []) := decode_ascii (by decide)
  have f46 := fold_closed 46 46 (by simp)
  have f103 := fold_closed 103 71 (by simp)
  have f71 := fold_closed 71 103 (by simp)
  have f105 := fold_closed 105 73 (by simp)
  have f73 := fold_closed 73 105 (by simp)
  have f116 := fold_closed 116 84 (by simp)
  have f84 := fold_closed 84 116 (by simp)
  rcases this with rfl | rfl | rfl | rfl
  · simp (dsimp := false) (disch := first | omega | (simp only [LENs] <;> omega) | fail) only [EFrest, L.strings_EqualFold.r0, go_sem, reduceIte, reduceCtorEq, qn0, qn1, qn2, qn3, qn4, qn5, qn6, qn7, qn8, qi0, qi1, qi2, qi3, qi4, qi5, qi6, qi7, qi8, qi9, qi10, sub_take, take_len, sub_drop]
    simp only [List.drop_zero] at hd he
    rw [X_in L.strings_EqualFold.x1.eq_1]
    simp (dsimp := false) (disch := first | omega | (simp only [LENs] <;> omega) | fail) only [go_sem, reduceIte, reduceCtorEq, qn0, qn1, qn2, qn3, qn4, qn5, qn6, qn7, qn8, qi0, qi1, qi2, qi3, qi4, qi5, qi6, qi7, qi8, qi9, qi10, sub_take, take_len, sub_drop, hd, he, d46, f46]
    rw [X_in L.strings_EqualFold.x2.eq_1]
    simp (dsimp := false) (disch := first | omega | (simp only [LENs] <;> omega) | fail) only [go_sem, reduceIte, reduceCtorEq, qn0, qn1, qn2, qn3, qn4, qn5, qn6, qn7, qn8, qi0, qi1, qi2, qi3, qi4, qi5, qi6, qi7, qi8, qi9, qi10, sub_take, take_len, sub_drop, f46, L.strings_EqualFold.r1]
  · simp (dsimp := false) (disch := first | omega | (simp only [LENs] <;> omega) | fail) only [EFrest, L.strings_EqualFold.r0, go_sem, reduceIte, reduceCtorEq, qn0, qn1, qn2, qn3, qn4, qn5, qn6, qn7, qn8, qi0, qi1, qi2, qi3, qi4, qi5, qi6, qi7, qi8, qi9, qi10, sub_take, take_len, sub_drop]
    rw [X_in L.strings_EqualFold.x1.eq_1]
    simp (dsimp := false) (disch := first | omega | (simp only [LENs] <;> omega) | fail) only [go_sem, reduceIte, reduceCtorEq, qn0, qn1, qn2, qn3, qn4, qn5, qn6, qn7, qn8, qi0, qi1, qi2, qi3, qi4, qi5, qi6, qi7, qi8, qi9, qi10, sub_take, take_len, sub_drop, hd, he, d103, f103]
    rw [X_in L.strings_EqualFold.x2.eq_1]
    simp (dsimp := false) (disch := first | omega | (simp only [LENs] <;> omega) | fail) only [go_sem, reduceIte, reduceCtorEq, qn0, qn1, qn2, qn3, qn4, qn5, qn6, qn7, qn8, qi0, qi1, qi2, qi3, qi4, qi5, qi6, qi7, qi8, qi9, qi10, sub_take, take_len, sub_drop, f71, L.strings_EqualFold.r1]
    rw [X_in L.strings_EqualFold.x2.eq_1]
    simp (dsimp := false) (disch := first | omega | (simp only [LENs] <;> omega) | fail) only [go_sem, reduceIte, reduceCtorEq, qn0, qn1, qn2, qn3, qn4, qn5, qn6, qn7, qn8, qi0, qi1, qi2, qi3, qi4, qi5, qi6, qi7, qi8, qi9, qi10, sub_take, take_len, sub_drop, f71, L.strings_EqualFold.r1]
  · simp (dsimp := false) (disch := first | omega | (simp only [LENs] <;> omega) | fail) only [EFrest, L.strings_EqualFold.r0, go_sem, reduceIte, reduceCtorEq, qn0, qn1, qn2, qn3, qn4, qn5, qn6, qn7, qn8, qi0, qi1, qi2, qi3, qi4, qi5, qi6, qi7, qi8, qi9, qi10, sub_take, take_len, sub_drop]
    rw [X_in L.strings_EqualFold.x1.eq_1]
    simp (dsimp := false) (disch := first | omega | (simp only [LENs] <;> omega) | fail) only [go_sem, reduceIte, reduceCtorEq, qn0, qn1, qn2, qn3, qn4, qn5, qn6, qn7, qn8, qi0, qi1, qi2, qi3, qi4, qi5, qi6, qi7, qi8, qi9, qi10, sub_take, take_len, sub_drop, hd, he, d105, f105]
    rw [X_in L.strings_EqualFold.x2.eq_1]
    simp (dsimp := false) (disch := first | omega | (simp only [LENs] <;> omega) | fail) only [go_sem, reduceIte, reduceCtorEq, qn0, qn1, qn2, qn3, qn4, qn5, qn6, qn7, qn8, qi0, qi1, qi2, qi3, qi4, qi5, qi6, qi7, qi8, qi9, qi10, sub_take, take_len, sub_drop, f73, L.strings_EqualFold.r1]
    rw [X_in L.strings_EqualFold.x2.eq_1]
    simp (dsimp := false) (disch := first | omega | (simp only [LENs] <;> omega) | fail) only [go_sem, reduceIte, reduceCtorEq, qn0, qn1, qn2, qn3, qn4, qn5, qn6, qn7, qn8, qi0, qi1, qi2, qi3, qi4, qi5, qi6, qi7, qi8, qi9, qi10, sub_take, take_len, sub_drop, f73, L.strings_EqualFold.r1]
  · simp (dsimp := false) (disch := first | omega | (simp only [LENs] <;> omega) | fail) only [EFrest, L.strings_EqualFold.r0, go_sem, reduceIte, reduceCtorEq, qn0, qn1, qn2, qn3, qn4, qn5, qn6, qn7, qn8, qi0, qi1, qi2, qi3, qi4, qi5, qi6, qi7, qi8, qi9, qi10, sub_take, take_len, sub_drop]
    rw [X_in L.strings_EqualFold.x1.eq_1]
    simp (dsimp := false) (disch := first | omega | (simp only [LENs] <;> omega) | fail) only [go_sem, reduceIte, reduceCtorEq, qn0, qn1, qn2, qn3, qn4, qn5, qn6, qn7, qn8, qi0, qi1, qi2, qi3, qi4, qi5, qi6, qi7, qi8, qi9, qi10, sub_take, take_len, sub_drop, hd, he, d116, f116]
    rw [X_in L.strings_EqualFold.x2.eq_1]
    simp (dsimp := false) (disch := first | omega | (simp only [LENs] <;> omega) | fail) only [go_sem, reduceIte, reduceCtorEq, qn0, qn1, qn2, qn3, qn4, qn5, qn6, qn7, qn8, qi0, qi1, qi2, qi3, qi4, qi5, qi6, qi7, qi8, qi9, qi10, sub_take, take_len, sub_drop, f84, L.strings_EqualFold.r1]
    rw [X_in L.strings_EqualFold.x2.eq_1]
    simp (dsimp := false) (disch := first | omega | (simp only [LENs] <;> omega) | fail) only [go_sem, reduceIte, reduceCtorEq, qn0, qn1, qn2, qn3, qn4, qn5, qn6, qn7, qn8, qi0, qi1, qi2, qi3, qi4, qi5, qi6, qi7, qi8, qi9, qi10, sub_take, take_len, sub_drop, f84, L.strings_EqualFold.r1]
def gitAt (b t : Int) : Bool := b == t || (decide (b < t) && (decide (65 ≤ b) && (decide (b ≤ 90) && (t == b + 32))))
theorem ef_it {SC : LCode} (hSC : findL SC 0 = some (.seq .skip EFrest)) {s : List UInt8} (hs : s.length = 4) (i : Nat) (t : Int) (hi : (i = 0 ∧ t = 46) ∨ (i = 1 ∧ t = 103) ∨ (i = 2 ∧ t = 105) ∨ (i = 3 ∧ t = 116)) :
    X E0 [.tmp 4] (.c L.strings_EqualFold.x0 :: .lp [0, 1, 5, 6] L.strings_EqualFold.x0 :: .blk 0 :: .c L.strings_EqualFold.r0 :: .scp SC :: []) ⟨[(0, .str s), (1, .str [46, 103, 105, 116]), (5, .int .i64 i), (6, .int .i64 4)], []⟩ =
    if bat s i < 128 ∧ gitAt (bat s i) t = true then X E0 [.tmp 4] (.c L.strings_EqualFold.x0 :: .lp [0, 1, 5, 6] L.strings_EqualFold.x0 :: .blk 0 :: .c L.strings_EqualFold.r0 :: .scp SC :: []) ⟨[(0, .str s), (1, .str [46, 103, 105, 116]), (5, .int .i64 (i + 1 : Int)), (6, .int .i64 4)], []⟩ else some (.bool false, []) := by
  obtain ⟨h0, h1⟩ := bat_range s i
  have hor := or_high t (by rcases hi with ⟨_, rfl⟩ | ⟨_, rfl⟩ | ⟨_, rfl⟩ | ⟨_, rfl⟩ <;> simp) (bat s i).toNat (by omega)
  rw [show (((bat s i).toNat : Nat) : Int) = bat s i by omega] at hor
  have hti : bat [46, 103, 105, 116] i = t := by rcases hi with ⟨rfl, rfl⟩ | ⟨rfl, rfl⟩ | ⟨rfl, rfl⟩ | ⟨rfl, rfl⟩ <;> rfl
  have hi4 : i < 4 := by omega
  have htr : 46 ≤ t ∧ t ≤ 116 := by omega
  have hil : i < [46, 103, 105, (116 : UInt8)].length := by simpa using hi4
  rw [X_in L.strings_EqualFold.x0.eq_1]
  by_cases hb : bat s i < 128
  · have hd : decide (128 ≤ (bat s i).toNat) = false := by simp; omega
    rw [hd] at hor
    generalize hx : bat s i = x at *
    by_cases e1 : x = t
    · rw [if_pos ⟨hb, by simp [gitAt, e1]⟩]
      have e9 : (t == x) = true := beq_t e1.symm
      simp (dsimp := false) (disch := first | omega | (simp only [LENs] <;> omega) | fail) only [go_sem, reduceIte, reduceCtorEq, qn0, qn1, qn2, qn3, qn4, qn5, qn6, qn7, qn8, qi0, qi1, qi2, qi3, qi4, qi5, qi6, qi7, qi8, qi9, qi10, sub_take, take_len, sub_drop, hx, hti, hor, e9]
    · have e2 : (x == t) = false := beq_f e1
      have e2' : (t == x) = false := beq_f (fun h => e1 h.symm)
      by_cases e3 : x < t
      · have e4 : ¬ t < x := by omega
        by_cases e5 : 65 ≤ x
        · by_cases e6 : x ≤ 90
          · have w1 : IntKind.u8.wrap (x + 97) = x + 97 := by rw [wrap_u8]; omega
            have w2 : IntKind.u8.wrap (x + 97 - 65) = x + 32 := by rw [wrap_u8]; omega
            by_cases e7 : t = x + 32
            · rw [if_pos ⟨hb, by simp only [gitAt, e2, dec_t e3, dec_t e5, dec_t e6, beq_t e7, Bool.true_and, Bool.and_true, Bool.false_or]⟩]
              have e8 : (t == x + 32) = true := beq_t e7
              simp (dsimp := false) (disch := first | omega | (simp only [LENs] <;> omega) | fail) only [go_sem, reduceIte, reduceCtorEq, qn0, qn1, qn2, qn3, qn4, qn5, qn6, qn7, qn8, qi0, qi1, qi2, qi3, qi4, qi5, qi6, qi7, qi8, qi9, qi10, sub_take, take_len, sub_drop, hx, hti, hor, e2', e4, e5, e6, w1, w2, e8]
            · rw [if_neg (by simp only [gitAt, e2, dec_t e3, dec_t e5, dec_t e6, beq_f e7, Bool.true_and, Bool.and_true, Bool.false_or]; simp)]
              have e8 : (t == x + 32) = false := beq_f e7
              simp (dsimp := false) (disch := first | omega | (simp only [LENs] <;> omega) | fail) only [go_sem, reduceIte, reduceCtorEq, qn0, qn1, qn2, qn3, qn4, qn5, qn6, qn7, qn8, qi0, qi1, qi2, qi3, qi4, qi5, qi6, qi7, qi8, qi9, qi10, sub_take, take_len, sub_drop, hx, hti, hor, e2', e4, e5, e6, w1, w2, e8]
          · rw [if_neg (by simp only [gitAt, e2, dec_t e3, dec_t e5, dec_f e6, Bool.true_and, Bool.false_and, Bool.false_or]; simp)]
            simp (dsimp := false) (disch := first | omega | (simp only [LENs] <;> omega) | fail) only [go_sem, reduceIte, reduceCtorEq, qn0, qn1, qn2, qn3, qn4, qn5, qn6, qn7, qn8, qi0, qi1, qi2, qi3, qi4, qi5, qi6, qi7, qi8, qi9, qi10, sub_take, take_len, sub_drop, hx, hti, hor, e2', e4, e5, e6]
        · rw [if_neg (by simp only [gitAt, e2, dec_t e3, dec_f e5, Bool.true_and, Bool.false_and, Bool.false_or]; simp)]
          simp (dsimp := false) (disch := first | omega | (simp only [LENs] <;> omega) | fail) only [go_sem, reduceIte, reduceCtorEq, qn0, qn1, qn2, qn3, qn4, qn5, qn6, qn7, qn8, qi0, qi1, qi2, qi3, qi4, qi5, qi6, qi7, qi8, qi9, qi10, sub_take, take_len, sub_drop, hx, hti, hor, e2', e4, e5]
      · have e4 : t < x := by omega
        rw [if_neg (by simp only [gitAt, e2, dec_f e3, Bool.false_and, Bool.false_or]; simp)]
        by_cases e5 : 65 ≤ t
        · have e6 : ¬ t ≤ 90 := by omega
          simp (dsimp := false) (disch := first | omega | (simp only [LENs] <;> omega) | fail) only [go_sem, reduceIte, reduceCtorEq, qn0, qn1, qn2, qn3, qn4, qn5, qn6, qn7, qn8, qi0, qi1, qi2, qi3, qi4, qi5, qi6, qi7, qi8, qi9, qi10, sub_take, take_len, sub_drop, hx, hti, hor, e2', e4, e5, e6]
        · simp (dsimp := false) (disch := first | omega | (simp only [LENs] <;> omega) | fail) only [go_sem, reduceIte, reduceCtorEq, qn0, qn1, qn2, qn3, qn4, qn5, qn6, qn7, qn8, qi0, qi1, qi2, qi3, qi4, qi5, qi6, qi7, qi8, qi9, qi10, sub_take, take_len, sub_drop, hx, hti, hor, e2', e4, e5]
  · have hd : decide (128 ≤ (bat s i).toNat) = true := by simp; omega
    rw [hd] at hor
    rw [if_neg (fun h => hb h.1)]
    simp (dsimp := false) (disch := first | omega | (simp only [LENs] <;> omega) | fail) only [go_sem, reduceIte, reduceCtorEq, qn0, qn1, qn2, qn3, qn4, qn5, qn6, qn7, qn8, qi0, qi1, qi2, qi3, qi4, qi5, qi6, qi7, qi8, qi9, qi10, sub_take, take_len, sub_drop, hti, hor, hSC]
    exact ef_uni hs i hi4 (by omega) _ _ _ _ _
def git4 (s : List UInt8) : Bool := decide (bat s 0 < 128 ∧ gitAt (bat s 0) 46 = true) && (decide (bat s 1 < 128 ∧ gitAt (bat s 1) 103 = true) && (decide (bat s 2 < 128 ∧ gitAt (bat s 2) 105 = true) && decide (bat s 3 < 128 ∧ gitAt (bat s 3) 116 = true)))
theorem go_fold {s : List UInt8} (hs : s.length = 4) : S E0 F.strings_EqualFold [.str s, .str [46, 103, 105, 116]] [] = some (.bool (git4 s), []) := by
  rw [S_of0 fn_strings_EqualFold rfl rfl]
  have l4 : ((s.length : Int)) = 4 := by omega
  simp (dsimp := false) (disch := first | omega | (simp only [LENs] <;> omega) | fail) only [L.strings_EqualFold, go_sem, reduceIte, reduceCtorEq, qn0, qn1, qn2, qn3, qn4, qn5, qn6, qn7, qn8, qi0, qi1, qi2, qi3, qi4, qi5, qi6, qi7, qi8, qi9, qi10, hs]
  generalize hSC : LCode.seq _ _ = SC
  have hf : findL SC 0 = some (.seq .skip EFrest) := by subst hSC; rfl
  have i0 := ef_it hf hs 0 46 (by simp)
  have i1 := ef_it hf hs 1 103 (by simp)
  have i2 := ef_it hf hs 2 105 (by simp)
  have i3 := ef_it hf hs 3 116 (by simp)
  have i4 : X E0 [.tmp 4] (.c L.strings_EqualFold.x0 :: .lp [0, 1, 5, 6] L.strings_EqualFold.x0 :: .blk 0 :: .c L.strings_EqualFold.r0 :: .scp SC :: []) ⟨[(0, .str s), (1, .str [46, 103, 105, 116]), (5, .int .i64 4), (6, .int .i64 4)], []⟩ = some (.bool true, []) := by
    rw [X_in L.strings_EqualFold.x0.eq_1]
    simp (dsimp := false) (disch := first | omega | (simp only [LENs] <;> omega) | fail) only [go_sem, reduceIte, reduceCtorEq, qn0, qn1, qn2, qn3, qn4, qn5, qn6, qn7, qn8, qi0, qi1, qi2, qi3, qi4, qi5, qi6, qi7, qi8, qi9, qi10, L.strings_EqualFold.r0, hs]
  simp only [show ((0 : Nat) : Int) = 0 from rfl, show ((1 : Nat) : Int) = 1 from rfl, show ((2 : Nat) : Int) = 2 from rfl, show ((3 : Nat) : Int) = 3 from rfl, show (0 : Int) + 1 = 1 from rfl, show (1 : Int) + 1 = 2 from rfl, show (2 : Int) + 1 = 3 from rfl, show (3 : Int) + 1 = 4 from rfl] at i0 i1 i2 i3
  rw [show (if ((4 : Nat) : Int) < ((4 : Nat) : Int) then ((4 : Nat) : Int) else ((4 : Nat) : Int)) = 4 from rfl, i0]
  by_cases c0 : bat s 0 < 128 ∧ gitAt (bat s 0) 46 = true
  · rw [if_pos c0, i1]
    by_cases c1 : bat s 1 < 128 ∧ gitAt (bat s 1) 103 = true
    · rw [if_pos c1, i2]
      by_cases c2 : bat s 2 < 128 ∧ gitAt (bat s 2) 105 = true
      · rw [if_pos c2, i3]
        by_cases c3 : bat s 3 < 128 ∧ gitAt (bat s 3) 116 = true
        · rw [if_pos c3, i4]; simp only [git4, dec_t c0, dec_t c1, dec_t c2, dec_t c3]; rfl
        · rw [if_neg c3]; simp only [git4, dec_t c0, dec_t c1, dec_t c2, dec_f c3]; rfl
      · rw [if_neg c2]; simp only [git4, dec_t c0, dec_t c1, dec_f c2]; rfl
    · rw [if_neg c1]; simp only [git4, dec_t c0, dec_f c1]; rfl
  · rw [if_neg c0]; simp only [git4, dec_f c0]; rfl
theorem gitAt_lower : ∀ n : Nat, n < 256 → ∀ t ∈ [(46 : UInt8), 103, 105, 116], decide ((n : Int) < 128 ∧ gitAt n t.toNat = true) = (lower (UInt8.ofNat n) == t) := by decide +kernel
theorem git4_eq {s : List UInt8} (hs : s.length = 4) : git4 s = isGit s := by
  match s, hs with
  | [a, b, c, d], _ =>
    have key : ∀ (x : UInt8) (t : UInt8), t ∈ [(46 : UInt8), 103, 105, 116] → decide ((x.toNat : Int) < 128 ∧ gitAt x.toNat t.toNat = true) = (lower x == t) := fun x t ht => by
      have := gitAt_lower x.toNat x.toNat_lt t ht
      rwa [UInt8.ofNat_toNat] at this
    have h0 := key a 46 (by simp)
    have h1 := key b 103 (by simp)
    have h2 := key c 105 (by simp)
    have h3 := key d 116 (by simp)
    have e0 : (lower a == 46) = (a == 46) := by
      have : ∀ n : Nat, n < 256 → (lower (UInt8.ofNat n) == 46) = (UInt8.ofNat n == 46) := by decide +kernel
      have := this a.toNat a.toNat_lt
      rwa [UInt8.ofNat_toNat] at this
    show (decide ((a.toNat : Int) < 128 ∧ gitAt a.toNat (46 : UInt8).toNat = true) && (decide ((b.toNat : Int) < 128 ∧ gitAt b.toNat (103 : UInt8).toNat = true) && (decide ((c.toNat : Int) < 128 ∧ gitAt c.toNat (105 : UInt8).toNat = true) && decide ((d.toNat : Int) < 128 ∧ gitAt d.toNat (116 : UInt8).toNat = true)))) = _
    rw [h0, h1, h2, h3, e0]
    simp only [isGit, Bool.and_assoc]
end Cod
namespace Cod
open Go
set_option maxRecDepth 100000
def decF (b0 a1 a2 a3 : Nat) (c1 c2 c3 : Bool) : Nat × Nat :=
  if b0 < 0x80 then (b0, 1)
  else if b0 / 32 == 6 && c1 then (if b0 % 32 * 64 + a1 % 64 ≥ 0x80 then (b0 % 32 * 64 + a1 % 64, 2) else (65533, 1))
  else if b0 / 16 == 14 && c1 && c2 then
    (if b0 % 16 * 4096 + a1 % 64 * 64 + a2 % 64 ≥ 0x800 && Utf8.valid ((b0 % 16 * 4096 + a1 % 64 * 64 + a2 % 64 : Nat) : Int) then (b0 % 16 * 4096 + a1 % 64 * 64 + a2 % 64, 3) else (65533, 1))
  else if b0 / 8 == 30 && c1 && c2 && c3 then
    (if b0 % 8 * 262144 + a1 % 64 * 4096 + a2 % 64 * 64 + a3 % 64 ≥ 0x10000 && Utf8.valid ((b0 % 8 * 262144 + a1 % 64 * 4096 + a2 % 64 * 64 + a3 % 64 : Nat) : Int) then (b0 % 8 * 262144 + a1 % 64 * 4096 + a2 % 64 * 64 + a3 % 64, 4) else (65533, 1))
  else (65533, 1)
theorem decF_low {b0 a1 a2 a3 : Nat} {c1 c2 c3 : Bool} (h : b0 < 128) : decF b0 a1 a2 a3 c1 c2 c3 = (b0, 1) := by unfold decF; rw [if_pos h]
theorem decF_high {b0 a1 a2 a3 : Nat} {c1 c2 c3 : Bool} (h : 128 ≤ b0) (h2 : b0 < 256) : 128 ≤ (decF b0 a1 a2 a3 c1 c2 c3).1 ∧ (decF b0 a1 a2 a3 c1 c2 c3).1 ≤ 1114111 ∧
    ((decF b0 a1 a2 a3 c1 c2 c3).2 = 1 ∨ ((decF b0 a1 a2 a3 c1 c2 c3).2 = 2 ∧ c1 = true) ∨ ((decF b0 a1 a2 a3 c1 c2 c3).2 = 3 ∧ c1 = true ∧ c2 = true) ∨ ((decF b0 a1 a2 a3 c1 c2 c3).2 = 4 ∧ c1 = true ∧ c2 = true ∧ c3 = true)) := by
  unfold decF
  rw [if_neg (by omega)]
  split
  · rename_i h3
    simp only [Bool.and_eq_true] at h3
    split
    · exact ⟨by assumption, by omega, .inr (.inl ⟨rfl, h3.2⟩)⟩
    · exact ⟨by omega, by omega, .inl rfl⟩
  · split
    · rename_i h3
      simp only [Bool.and_eq_true] at h3
      split
      · rename_i h4
        simp only [Bool.and_eq_true, decide_eq_true_eq] at h4
        exact ⟨by omega, by omega, .inr (.inr (.inl ⟨rfl, h3.1.2, h3.2⟩))⟩
      · exact ⟨by omega, by omega, .inl rfl⟩
    · split
      · rename_i h3
        simp only [Bool.and_eq_true] at h3
        split
        · rename_i h4
          simp only [Bool.and_eq_true, decide_eq_true_eq, Utf8.valid, Bool.or_eq_true] at h4
          exact ⟨by omega, by omega, .inr (.inr (.inr ⟨rfl, h3.1.1.2, h3.1.2, h3.2⟩))⟩
        · exact ⟨by omega, by omega, .inl rfl⟩
      · exact ⟨by omega, by omega, .inl rfl⟩
theorem dec_facts {l : List UInt8} {p : Nat} (h : p < l.length) :
    (bat l p < 128 ∧ (((decS l p).1 : Nat) : Int) = bat l p ∧ (decS l p).2 = 1) ∨
    (128 ≤ bat l p ∧ 128 ≤ (decS l p).1 ∧ (decS l p).1 ≤ 1114111 ∧ 1 ≤ (decS l p).2 ∧ ∀ j, p ≤ j → j < p + (decS l p).2 → j < l.length ∧ 128 ≤ bat l j) := by
  have hs : (⟨l.toArray⟩ : ByteArray).size = l.length := by simp [ByteArray.size]
  have h0 : ((⟨l.toArray⟩ : ByteArray).get! (p + 0)).toNat = (l.getD p 0).toNat := ba_get h
  have hc : ∀ k, (decide (p + k < (⟨l.toArray⟩ : ByteArray).size) && ((⟨l.toArray⟩ : ByteArray).get! (p + k)).toNat / 64 == 2) = true → p + k < l.length ∧ 128 ≤ bat l (p + k) := by
    intro k hk
    simp only [Bool.and_eq_true, decide_eq_true_eq, beq_iff_eq, hs] at hk
    refine ⟨hk.1, ?_⟩
    have := ba_get hk.1
    unfold bat
    omega
  have e : decS l p = decF ((⟨l.toArray⟩ : ByteArray).get! (p + 0)).toNat ((⟨l.toArray⟩ : ByteArray).get! (p + 1)).toNat ((⟨l.toArray⟩ : ByteArray).get! (p + 2)).toNat ((⟨l.toArray⟩ : ByteArray).get! (p + 3)).toNat
    (decide (p + 1 < (⟨l.toArray⟩ : ByteArray).size) && ((⟨l.toArray⟩ : ByteArray).get! (p + 1)).toNat / 64 == 2) (decide (p + 2 < (⟨l.toArray⟩ : ByteArray).size) && ((⟨l.toArray⟩ : ByteArray).get! (p + 2)).toNat / 64 == 2)
    (decide (p + 3 < (⟨l.toArray⟩ : ByteArray).size) && ((⟨l.toArray⟩ : ByteArray).get! (p + 3)).toNat / 64 == 2) := rfl
  have k1 := hc 1
  have k2 := hc 2
  have k3 := hc 3
  rw [h0] at e
  generalize (decide (p + 1 < (⟨l.toArray⟩ : ByteArray).size) && ((⟨l.toArray⟩ : ByteArray).get! (p + 1)).toNat / 64 == 2) = c1 at e k1
  generalize (decide (p + 2 < (⟨l.toArray⟩ : ByteArray).size) && ((⟨l.toArray⟩ : ByteArray).get! (p + 2)).toNat / 64 == 2) = c2 at e k2
  generalize (decide (p + 3 < (⟨l.toArray⟩ : ByteArray).size) && ((⟨l.toArray⟩ : ByteArray).get! (p + 3)).toNat / 64 == 2) = c3 at e k3
  generalize ((⟨l.toArray⟩ : ByteArray).get! (p + 1)).toNat = a1 at e
  generalize ((⟨l.toArray⟩ : ByteArray).get! (p + 2)).toNat = a2 at e
  generalize ((⟨l.toArray⟩ : ByteArray).get! (p + 3)).toNat = a3 at e
  have hlt := (l.getD p 0).toNat_lt
  by_cases hb : bat l p < 128
  · refine .inl ⟨hb, ?_⟩
    unfold bat at hb ⊢
    rw [e, decF_low (by omega)]
    exact ⟨rfl, rfl⟩
  · have hb' := hb
    unfold bat at hb
    obtain ⟨h1, h2, h3⟩ := decF_high (a1 := a1) (a2 := a2) (a3 := a3) (c1 := c1) (c2 := c2) (c3 := c3) (b0 := (l.getD p 0).toNat) (by omega) hlt
    rw [← e] at h1 h2 h3
    refine .inr ⟨by omega, h1, h2, by omega, fun j j1 j2 => ?_⟩
    have : j = p ∨ j = p + 1 ∨ j = p + 2 ∨ j = p + 3 := by omega
    rcases this with rfl | rfl | rfl | rfl
    · exact ⟨h, by omega⟩
    · exact k1 (by rcases h3 with h3 | h3 | h3 | h3 <;> first | omega | exact h3.2 | exact h3.2.1)
    · exact k2 (by rcases h3 with h3 | h3 | h3 | h3 <;> first | omega | exact h3.2.2 | exact h3.2.2.1)
    · exact k3 (by rcases h3 with h3 | h3 | h3 | h3 <;> first | omega | exact h3.2.2.2)
theorem enc_high {r : Int} (h0 : 128 ≤ r) (h1 : r ≤ 1114111) : 2 ≤ (encS r).length ∧ (encS r).length ≤ 4 ∧ ((encS r).length = 2 → 128 ≤ bat (encS r) 1) := by
  unfold encS Utf8.encode Utf8.runeError
  simp only []
  generalize hc : (if Utf8.valid r = true then r.toNat else 65533) = c
  have hc0 : 128 ≤ c := by
    rw [← hc]; split
    · omega
    · omega
  rw [if_neg (by omega)]
  split
  · refine ⟨by simp, by simp, fun _ => ?_⟩
    simp [bat]
    omega
  · split <;> simp
theorem go_valid {r : Int} (h0 : 128 ≤ r) : S E0 F.utf8_ValidRune [.int .i32 r] [] = some (.bool (decide (r < 55296) || (decide (57343 < r) && decide (r ≤ 1114111))), []) := by
  rw [S_of0 fn_utf8_ValidRune rfl rfl]
  by_cases h1 : r < 55296
  · simp (dsimp := false) (disch := first | omega | (simp only [LENs] <;> omega) | fail) only [L.utf8_ValidRune, go_sem, reduceIte, reduceCtorEq, qn0, qn1, qn2, qn3, qn4, qn5, qn6, qn7, qn8, qi0, qi1, qi2, qi3, qi4, qi5, qi6, qi7, qi8, qi9, qi10, dec_t h1]
  · by_cases h2 : 57343 < r
    · by_cases h3 : r ≤ 1114111
      · simp (dsimp := false) (disch := first | omega | (simp only [LENs] <;> omega) | fail) only [L.utf8_ValidRune, go_sem, reduceIte, reduceCtorEq, qn0, qn1, qn2, qn3, qn4, qn5, qn6, qn7, qn8, qi0, qi1, qi2, qi3, qi4, qi5, qi6, qi7, qi8, qi9, qi10, dec_f h1, dec_t h2, dec_t h3]
      · simp (dsimp := false) (disch := first | omega | (simp only [LENs] <;> omega) | fail) only [L.utf8_ValidRune, go_sem, reduceIte, reduceCtorEq, qn0, qn1, qn2, qn3, qn4, qn5, qn6, qn7, qn8, qi0, qi1, qi2, qi3, qi4, qi5, qi6, qi7, qi8, qi9, qi10, dec_f h1, dec_t h2, dec_f h3]
    · simp (dsimp := false) (disch := first | omega | (simp only [LENs] <;> omega) | fail) only [L.utf8_ValidRune, go_sem, reduceIte, reduceCtorEq, qn0, qn1, qn2, qn3, qn4, qn5, qn6, qn7, qn8, qi0, qi1, qi2, qi3, qi4, qi5, qi6, qi7, qi8, qi9, qi10, dec_f h1, dec_f h2]
theorem go_sindex {l : List UInt8} {c : Int} : S E0 F.strings_IndexByte [.str l, .int .u8 c] [] = some (.int .i64 (indexB l (byt c)), []) := by
  rw [S_of0 fn_strings_IndexByte rfl rfl]
  have h : S E0 F.stringslite_IndexByte [.str l, .int .u8 c] [] = some (.int .i64 (indexB l (byt c)), []) := by
    rw [S_of0 fn_stringslite_IndexByte rfl rfl]
    simp (dsimp := false) (disch := first | omega | (simp only [LENs] <;> omega) | fail) only [L.stringslite_IndexByte, go_sem, reduceIte, reduceCtorEq, qn0, qn1, qn2, qn3, qn4, qn5, qn6, qn7, qn8, qi0, qi1, qi2, qi3, qi4, qi5, qi6, qi7, qi8, qi9, qi10, S_indexS]
  simp (dsimp := false) (disch := first | omega | (simp only [LENs] <;> omega) | fail) only [L.strings_IndexByte, go_sem, reduceIte, reduceCtorEq, qn0, qn1, qn2, qn3, qn4, qn5, qn6, qn7, qn8, qi0, qi1, qi2, qi3, qi4, qi5, qi6, qi7, qi8, qi9, qi10, h]
theorem go_rune_err : S E0 F.strings_IndexRune [.str [47, 0], .int .i32 65533] [] = some (.int .i64 (-1), []) := S_iff.2 ⟨60, by kernel_rfl⟩
theorem go_rune_low {r : Int} (h0 : 0 ≤ r) (h1 : r < 128) : S E0 F.strings_IndexRune [.str [47, 0], .int .i32 r] [] = some (.int .i64 (indexB [47, 0] (byt r)), []) := by
  rw [S_of0 fn_strings_IndexRune rfl rfl]
  have h2 : IntKind.u8.wrap r = r := by rw [wrap_u8]; omega
  simp (dsimp := false) (disch := first | omega | (simp only [LENs] <;> omega) | fail) only [L.strings_IndexRune, go_sem, reduceIte, reduceCtorEq, qn0, qn1, qn2, qn3, qn4, qn5, qn6, qn7, qn8, qi0, qi1, qi2, qi3, qi4, qi5, qi6, qi7, qi8, qi9, qi10, dec_t h0, dec_t h1, h2, go_sindex]
theorem go_rune_high {r : Int} (h0 : 128 ≤ r) (h1 : r ≤ 1114111) : S E0 F.strings_IndexRune [.str [47, 0], .int .i32 r] [] = some (.int .i64 (-1), []) := by
  by_cases he : r = 65533
  · subst he; exact go_rune_err
  · have h2 : ¬ r < 128 := by omega
    have h3 : (0 : Int) ≤ r := by omega
    rw [S_of0 fn_strings_IndexRune rfl rfl]
    have hvv : S E0 F.utf8_ValidRune [.int .i32 r] [] = some (.bool (decide (r < 55296) || decide (57343 < r)), []) := by rw [go_valid h0, dec_t h1, Bool.and_true]
    cases hv : (decide (r < 55296) || decide (57343 < r)) with
    | false => simp (dsimp := false) (disch := first | omega | (simp only [LENs] <;> omega) | fail) only [L.strings_IndexRune, go_sem, reduceIte, reduceCtorEq, qn0, qn1, qn2, qn3, qn4, qn5, qn6, qn7, qn8, qi0, qi1, qi2, qi3, qi4, qi5, qi6, qi7, qi8, qi9, qi10, dec_t h3, dec_f h2, beq_f he, hvv, hv]
    | true =>
      obtain ⟨e1, e2, e3⟩ := enc_high h0 h1
      simp (dsimp := false) (disch := first | omega | (simp only [LENs] <;> omega) | fail) only [L.strings_IndexRune, go_sem, reduceIte, reduceCtorEq, qn0, qn1, qn2, qn3, qn4, qn5, qn6, qn7, qn8, qi0, qi1, qi2, qi3, qi4, qi5, qi6, qi7, qi8, qi9, qi10, dec_t h3, dec_f h2, beq_f he, hvv, hv]
      rw [X_in L.strings_IndexRune.x1.eq_1]
      by_cases e4 : (encS r).length = 2
      · have e5 := e3 e4
        have b1 : bat [47, 0] 1 = 0 := rfl
        have b2 : ((((0 : UInt8).toNat : Nat) : Int) != bat (encS r) 1) = true := bne_t (by show (0 : Int) ≠ _; omega)
        have b3 : (((2 : Nat) : Int) - 1).toNat = 1 := rfl
        have b4 : indexB ([47, 0].drop (((2 : Nat) : Int) - 1 + 1).toNat) (byt (bat (encS r) 1)) = -1 := rfl
        have b5 : indexB [] (byt (bat (encS r) 1)) = -1 := rfl
        simp (dsimp := false) (disch := first | omega | (simp only [LENs] <;> omega) | fail) only [go_sem, reduceIte, reduceCtorEq, qn0, qn1, qn2, qn3, qn4, qn5, qn6, qn7, qn8, qi0, qi1, qi2, qi3, qi4, qi5, qi6, qi7, qi8, qi9, qi10, L.strings_IndexRune.r2, e4, b1, b2, b3, go_sindex, sub_take, take_len, sub_drop, b4, b5, List.drop_nil]
      · simp (dsimp := false) (disch := first | omega | (simp only [LENs] <;> omega) | fail) only [go_sem, reduceIte, reduceCtorEq, qn0, qn1, qn2, qn3, qn4, qn5, qn6, qn7, qn8, qi0, qi1, qi2, qi3, qi4, qi5, qi6, qi7, qi8, qi9, qi10, L.strings_IndexRune.r2]
def bad2 (b : UInt8) : Bool := b == 47 || b == 0
theorem index2 (b : UInt8) : (0 ≤ indexB [47, 0] b) ↔ bad2 b = true := by
  unfold indexB bad2
  by_cases h1 : b = 47
  · subst h1; simp
  · by_cases h2 : b = 0
    · subst h2; simp [List.idxOf_cons]
    · simp [h1, h2]
theorem byt_bat (l : List UInt8) (i : Nat) : byt (bat l i) = l.getD i 0 := by
  unfold byt bat
  rw [Int.toNat_natCast, UInt8.ofNat_toNat]
theorem any_walk {s : List UInt8} (hs : s.length ≤ 1000000) : ∀ (m p : Nat), p + m ≤ s.length → s.length ≤ p + m → ∃ i : Int, ((0 ≤ i) ↔ (s.drop p).any bad2 = true) ∧
    X E0 [.tmp 4] (.c L.strings_IndexAny.x1 :: .lp [1, 45] L.strings_IndexAny.x1 :: .blk 2 :: .c L.strings_IndexAny.r2 :: []) ⟨[(1, .str [47, 0]), (45, .it (.s 1000000 0) 0)], [(.s 1000000 0, ⟨0, true, true, true, [.itr s p]⟩)]⟩ = some (.int .i64 i, []) := by
  intro m
  induction m using Nat.strongRecOn with
  | _ m ih =>
    intro p h1 h2
    rw [X_in L.strings_IndexAny.x1.eq_1]
    by_cases hp : p < s.length
    · have hd : s.drop p = s.getD p 0 :: s.drop (p + 1) := by
        rw [List.drop_eq_getElem_cons hp]; simp [hp]
      rcases dec_facts hp with ⟨e1, e2, e3⟩ | ⟨e1, e2, e3, e4, e5⟩
      · cases hbad : bad2 (s.getD p 0) with
        | true =>
          have h3 := (index2 (byt (bat s p))).2 (by rw [byt_bat]; exact hbad)
          refine ⟨p, ⟨fun _ => by rw [hd, List.any_cons, hbad]; rfl, fun _ => by omega⟩, ?_⟩
          simp (dsimp := false) (disch := first | omega | (simp only [LENs] <;> omega) | fail) only [go_sem, reduceIte, reduceCtorEq, qn0, qn1, qn2, qn3, qn4, qn5, qn6, qn7, qn8, qi0, qi1, qi2, qi3, qi4, qi5, qi6, qi7, qi8, qi9, qi10, hp, e2, e3, go_rune_low (bat_range s p).1 e1, dec_t h3]
        | false =>
          have h3 : ¬ 0 ≤ indexB [47, 0] (byt (bat s p)) := fun h => by rw [index2, byt_bat, hbad] at h; cases h
          obtain ⟨i, h4, h5⟩ := ih (m - 1) (by omega) (p + 1) (by omega) (by omega)
          refine ⟨i, by rw [h4, hd, List.any_cons, hbad, Bool.false_or], ?_⟩
          rw [← h5]
          simp (dsimp := false) (disch := first | omega | (simp only [LENs] <;> omega) | fail) only [go_sem, reduceIte, reduceCtorEq, qn0, qn1, qn2, qn3, qn4, qn5, qn6, qn7, qn8, qi0, qi1, qi2, qi3, qi4, qi5, qi6, qi7, qi8, qi9, qi10, hp, e2, e3, go_rune_low (bat_range s p).1 e1, dec_f h3]
      · have hw : p + (decS s p).2 ≤ s.length := by
          have := (e5 (p + (decS s p).2 - 1) (by omega) (by omega)).1
          omega
        obtain ⟨i, h4, h5⟩ := ih (m - (decS s p).2) (by omega) (p + (decS s p).2) (by omega) (by omega)
        refine ⟨i, ?_, ?_⟩
        · rw [h4]
          have : ∀ w, p + w ≤ s.length → (∀ j, p ≤ j → j < p + w → j < s.length ∧ 128 ≤ bat s j) → (s.drop p).any bad2 = (s.drop (p + w)).any bad2 := by
            intro w
            induction w with
            | zero => intro _ _; rfl
            | succ w ihw =>
              intro hw1 hw2
              rw [ihw (by omega) (fun j j1 j2 => hw2 j j1 (by omega)), List.drop_eq_getElem_cons (by omega : p + w < s.length), List.any_cons]
              have hh := (hw2 (p + w) (by omega) (by omega)).2
              have : bad2 s[p + w] = false := by
                unfold bat at hh
                rw [List.getD_eq_getElem?_getD, List.getElem?_eq_getElem (by omega), Option.getD_some] at hh
                unfold bad2
                rw [Bool.or_eq_false_iff, beq_eq_false_iff_ne, beq_eq_false_iff_ne]
                constructor <;> (intro hx; rw [hx] at hh; simp at hh)
              rw [this, Bool.false_or]
              rfl
          rw [this _ hw e5]
        · rw [← h5]
          have h6 := go_rune_high (r := ((decS s p).1 : Int)) (by omega) (by omega)
          simp (dsimp := false) (disch := first | omega | (simp only [LENs] <;> omega) | fail) only [go_sem, reduceIte, reduceCtorEq, qn0, qn1, qn2, qn3, qn4, qn5, qn6, qn7, qn8, qi0, qi1, qi2, qi3, qi4, qi5, qi6, qi7, qi8, qi9, qi10, hp, h6]
    · refine ⟨-1, ⟨fun h => by omega, fun h => by rw [List.drop_of_length_le (by omega)] at h; simp at h⟩, ?_⟩
      simp (dsimp := false) (disch := first | omega | (simp only [LENs] <;> omega) | fail) only [go_sem, reduceIte, reduceCtorEq, qn0, qn1, qn2, qn3, qn4, qn5, qn6, qn7, qn8, qi0, qi1, qi2, qi3, qi4, qi5, qi6, qi7, qi8, qi9, qi10, hp, L.strings_IndexAny.r2]
def set2 : List AV := (List.range 256).map fun i => .bool (i == 47 || i == 0)
theorem go_set : S E0 F.strings_makeASCIISet [.str [47, 0]] [] = some (.tup [.agg set2, .bool true], []) := S_iff.2 ⟨60, by kernel_rfl⟩
theorem set2_get : ∀ n : Nat, n < 256 → set2[n]? = some (.bool (bad2 (UInt8.ofNat n))) := by
  intro n hn
  simp only [set2, List.getElem?_map, List.getElem?_range hn, Option.map_some, bad2]
  have : ∀ n : Nat, n < 256 → (n == 47 || n == 0) = (UInt8.ofNat n == 47 || UInt8.ofNat n == 0) := by decide +kernel
  rw [this n hn]
theorem flats_set2 : flats set2 = true := by kernel_rfl
theorem set2_length : set2.length = 256 := by simp [set2]
end Cod
namespace Cod
open Go
set_option maxRecDepth 100000
theorem set2_at {b : Int} (h0 : 0 ≤ b) (h1 : b < 256) : set2[b.toNat]? = some (.bool (bad2 (byt b))) := set2_get b.toNat (by omega)
theorem flat2 : leadss set2 = false := by kernel_rfl
theorem refs2 : refsOfs set2 = [] := by kernel_rfl
theorem rens2 (f : Site → Nat → Option (Site × Nat)) : rens f set2 = set2 := rens_flats set2 flats_set2
theorem hards2 : hards set2 = true := by kernel_rfl
theorem go_contains {x : Site} {b : Int} (h0 : 0 ≤ b) (h1 : b < 256) : S E0 F.strings_asciiSet_contains [.ref (.up x) 0 0, .int .u8 b] [(.up x, ⟨0, true, true, true, set2⟩)] = some (.bool (bad2 (byt b)), [(.up x, ⟨0, true, true, true, set2⟩)]) := by
  rw [S_of0 fn_strings_asciiSet_contains rfl rfl]
  simp (dsimp := false) (disch := first | omega | (simp only [LENs] <;> omega) | fail) only [L.strings_asciiSet_contains, go_sem, reduceIte, reduceCtorEq, qn0, qn1, qn2, qn3, qn4, qn5, qn6, qn7, qn8, qi0, qi1, qi2, qi3, qi4, qi5, qi6, qi7, qi8, qi9, qi10, set2_length, flats_set2, flat2, refs2, rens2, hards2, set2_at h0 h1]
theorem set_walk {s : List UInt8} (hs : s.length ≤ 1000000) : ∀ (m p : Nat), p + m = s.length → ∃ i : Int, ((0 ≤ i) ↔ (s.drop p).any bad2 = true) ∧
    X E0 [.tmp 4] (.c L.strings_IndexAny.x0 :: .lp [0, 6, 8] L.strings_IndexAny.x0 :: .blk 0 :: .c L.strings_IndexAny.r0 :: .c L.strings_IndexAny.r1 :: []) ⟨[(0, .str s), (6, .ref (.s 1000000 0) 0 0), (8, .int .i64 p)], [(.s 1000000 0, ⟨0, true, true, true, set2⟩)]⟩ = some (.int .i64 i, []) := by
  intro m
  induction m with
  | zero =>
    intro p h
    refine ⟨-1, ⟨fun h => by omega, fun h => by rw [List.drop_of_length_le (by omega)] at h; simp at h⟩, ?_⟩
    rw [X_in L.strings_IndexAny.x0.eq_1]
    simp (dsimp := false) (disch := first | omega | (simp only [LENs] <;> omega) | fail) only [go_sem, reduceIte, reduceCtorEq, qn0, qn1, qn2, qn3, qn4, qn5, qn6, qn7, qn8, qi0, qi1, qi2, qi3, qi4, qi5, qi6, qi7, qi8, qi9, qi10, set2_length, flats_set2, flat2, refs2, rens2, hards2, L.strings_IndexAny.r0]
  | succ m ih =>
    intro p h
    have hp : p < s.length := by omega
    have hd : s.drop p = s.getD p 0 :: s.drop (p + 1) := by
      rw [List.drop_eq_getElem_cons hp]; simp [hp]
    obtain ⟨b0, b1⟩ := bat_range s p
    cases hbad : bad2 (s.getD p 0) with
    | true =>
      have h3 : bad2 (byt (bat s p)) = true := by rw [byt_bat]; exact hbad
      refine ⟨p, ⟨fun _ => by rw [hd, List.any_cons, hbad]; rfl, fun _ => by omega⟩, ?_⟩
      rw [X_in L.strings_IndexAny.x0.eq_1]
      simp (dsimp := false) (disch := first | omega | (simp only [LENs] <;> omega) | fail) only [go_sem, reduceIte, reduceCtorEq, qn0, qn1, qn2, qn3, qn4, qn5, qn6, qn7, qn8, qi0, qi1, qi2, qi3, qi4, qi5, qi6, qi7, qi8, qi9, qi10, set2_length, flats_set2, flat2, refs2, rens2, hards2, go_contains b0 b1, h3]
    | false =>
      have h3 : bad2 (byt (bat s p)) = false := by rw [byt_bat]; exact hbad
      obtain ⟨i, h4, h5⟩ := ih (p + 1) (by omega)
      refine ⟨i, by rw [h4, hd, List.any_cons, hbad, Bool.false_or], ?_⟩
      rw [← h5, X_in L.strings_IndexAny.x0.eq_1]
      simp (dsimp := false) (disch := first | omega | (simp only [LENs] <;> omega) | fail) only [go_sem, reduceIte, reduceCtorEq, qn0, qn1, qn2, qn3, qn4, qn5, qn6, qn7, qn8, qi0, qi1, qi2, qi3, qi4, qi5, qi6, qi7, qi8, qi9, qi10, set2_length, flats_set2, flat2, refs2, rens2, hards2, go_contains b0 b1, h3]
      rfl
theorem go_use {n : Int} : S E0 F.strings_shouldUseASCIISet [.int .i64 n] [] = some (.bool (decide (8 < n)), []) := by
  rw [S_of0 fn_strings_shouldUseASCIISet rfl rfl]
  simp (dsimp := false) (disch := first | omega | (simp only [LENs] <;> omega) | fail) only [L.strings_shouldUseASCIISet, go_sem, reduceIte, reduceCtorEq, qn0, qn1, qn2, qn3, qn4, qn5, qn6, qn7, qn8, qi0, qi1, qi2, qi3, qi4, qi5, qi6, qi7, qi8, qi9, qi10]
theorem go_any {s : List UInt8} (hs : s.length ≤ 1000000) : ∃ i : Int, ((0 ≤ i) ↔ s.any bad2 = true) ∧ S E0 F.strings_IndexAny [.str s, .str [47, 0]] [] = some (.int .i64 i, []) := by
  rw [S_of0 fn_strings_IndexAny rfl rfl]
  have e0 : (([47, 0] : List UInt8) == []) = false := rfl
  by_cases h8 : 8 < s.length
  · obtain ⟨i, h1, h2⟩ := set_walk hs s.length 0 (by omega)
    refine ⟨i, by simpa using h1, ?_⟩
    rw [← h2]
    have h9 : decide (8 < (s.length : Int)) = true := by simp; omega
    simp (dsimp := false) (disch := first | omega | (simp only [LENs] <;> omega) | fail) only [L.strings_IndexAny, go_sem, reduceIte, reduceCtorEq, qn0, qn1, qn2, qn3, qn4, qn5, qn6, qn7, qn8, qi0, qi1, qi2, qi3, qi4, qi5, qi6, qi7, qi8, qi9, qi10, set2_length, flats_set2, flat2, refs2, rens2, hards2, e0, go_use, h9, go_set]
    rfl
  · obtain ⟨i, h1, h2⟩ := any_walk hs s.length 0 (by omega) (by omega)
    refine ⟨i, by simpa using h1, ?_⟩
    rw [← h2]
    have h9 : decide (8 < (s.length : Int)) = false := by simp; omega
    simp (dsimp := false) (disch := first | omega | (simp only [LENs] <;> omega) | fail) only [L.strings_IndexAny, go_sem, reduceIte, reduceCtorEq, qn0, qn1, qn2, qn3, qn4, qn5, qn6, qn7, qn8, qi0, qi1, qi2, qi3, qi4, qi5, qi6, qi7, qi8, qi9, qi10, set2_length, flats_set2, flat2, refs2, rens2, hards2, e0, go_use, h9, L.strings_IndexAny.r1]
theorem go_containsAny {s : List UInt8} (hs : s.length ≤ 1000000) : S E0 F.strings_ContainsAny [.str s, .str [47, 0]] [] = some (.bool (s.any bad2), []) := by
  rw [S_of0 fn_strings_ContainsAny rfl rfl]
  obtain ⟨i, h1, h2⟩ := go_any hs
  have h3 : decide (0 ≤ i) = s.any bad2 := by
    cases h : s.any bad2 with
    | true => simp [h1.2 h]
    | false => rw [decide_eq_false_iff_not, h1, h]; simp
  simp (dsimp := false) (disch := first | omega | (simp only [LENs] <;> omega) | fail) only [L.strings_ContainsAny, go_sem, reduceIte, reduceCtorEq, qn0, qn1, qn2, qn3, qn4, qn5, qn6, qn7, qn8, qi0, qi1, qi2, qi3, qi4, qi5, qi6, qi7, qi8, qi9, qi10, h2, h3]
theorem isGit_ascii {s : List UInt8} (hs : s.length = 4) (h : isGit s = true) : bat s 1 < 128 ∧ bat s 2 < 128 := by
  rw [← git4_eq hs] at h
  simp only [git4, Bool.and_eq_true, decide_eq_true_eq] at h
  exact ⟨h.2.1.1, h.2.2.1.1⟩
theorem any_bad (s : List UInt8) : s.any bad2 = (s.contains 47 || s.contains 0) := by
  induction s with
  | nil => rfl
  | cons b s ih =>
    rw [List.any_cons, ih, List.contains_cons, List.contains_cons]
    unfold bad2
    rw [show (47 == b) = (b == 47) from Bool.beq_comm, show (0 == b) = (b == 0) from Bool.beq_comm]
    cases (b == 47) <;> cases (b == 0) <;> cases s.contains 47 <;> cases s.contains 0 <;> rfl
theorem isGit_len {s : List UInt8} (h : s.length ≠ 4) : isGit s = false := by
  unfold isGit
  split
  · exact absurd rfl h
  · rfl
theorem go_name {s : List UInt8} (hs : s.length ≤ 1000000) : S E0 F.names_Name [.str s] [] = some (.bool (nameOK s), []) := by
  rw [S_of0 fn_names_Name rfl rfl]
  cases c1 : (s == []) with
  | true =>
    have : nameOK s = false := by rw [eq_of_beq c1]; rfl
    rw [this]
    simp (dsimp := false) (disch := first | omega | (simp only [LENs] <;> omega) | fail) only [L.names_Name, go_sem, reduceIte, reduceCtorEq, qn0, qn1, qn2, qn3, qn4, qn5, qn6, qn7, qn8, qi0, qi1, qi2, qi3, qi4, qi5, qi6, qi7, qi8, qi9, qi10, c1]
  | false =>
  cases c2 : (s == [46]) with
  | true =>
    have : nameOK s = false := by rw [eq_of_beq c2]; rfl
    rw [this]
    simp (dsimp := false) (disch := first | omega | (simp only [LENs] <;> omega) | fail) only [L.names_Name, go_sem, reduceIte, reduceCtorEq, qn0, qn1, qn2, qn3, qn4, qn5, qn6, qn7, qn8, qi0, qi1, qi2, qi3, qi4, qi5, qi6, qi7, qi8, qi9, qi10, c1, c2]
  | false =>
  cases c3 : (s == [46, 46]) with
  | true =>
    have : nameOK s = false := by rw [eq_of_beq c3]; rfl
    rw [this]
    simp (dsimp := false) (disch := first | omega | (simp only [LENs] <;> omega) | fail) only [L.names_Name, go_sem, reduceIte, reduceCtorEq, qn0, qn1, qn2, qn3, qn4, qn5, qn6, qn7, qn8, qi0, qi1, qi2, qi3, qi4, qi5, qi6, qi7, qi8, qi9, qi10, c1, c2, c3]
  | false =>
  have hl : 1 ≤ s.length := by
    cases s with
    | nil => simp at c1
    | cons b s => simp
  by_cases c4 : 100 < s.length
  · have : nameOK s = false := by
      unfold nameOK
      rw [show decide (s.length ≤ 100) = false from dec_f (by omega)]
      simp
    have c4' : decide (100 < (s.length : Int)) = true := dec_t (by omega)
    rw [this]
    simp (dsimp := false) (disch := first | omega | (simp only [LENs] <;> omega) | fail) only [L.names_Name, go_sem, reduceIte, reduceCtorEq, qn0, qn1, qn2, qn3, qn4, qn5, qn6, qn7, qn8, qi0, qi1, qi2, qi3, qi4, qi5, qi6, qi7, qi8, qi9, qi10, c1, c2, c3, c4']
  · have c4' : decide (100 < (s.length : Int)) = false := dec_f (by omega)
    have hn : nameOK s = (!(s.any bad2) && !isGit s) := by
      unfold nameOK
      rw [any_bad, show decide (s.length ≤ 100) = true from dec_t (by omega), show decide (1 ≤ s.length) = true from dec_t hl, show (s != [46]) = true by simp [bne, c2], show (s != [46, 46]) = true by simp [bne, c3]]
      cases s.contains 47 <;> cases s.contains 0 <;> cases isGit s <;> rfl
    by_cases c5 : s.length = 4
    · have c5' : ((s.length : Int) == 4) = true := beq_t (by omega)
      have hf := go_fold c5
      rw [git4_eq c5] at hf
      cases hg : isGit s with
      | true =>
        obtain ⟨g1, g2⟩ := isGit_ascii c5 hg
        rw [hg] at hf
        rw [hn, hg]
        simp (dsimp := false) (disch := first | omega | (simp only [LENs] <;> omega) | fail) only [L.names_Name, go_sem, reduceIte, reduceCtorEq, qn0, qn1, qn2, qn3, qn4, qn5, qn6, qn7, qn8, qi0, qi1, qi2, qi3, qi4, qi5, qi6, qi7, qi8, qi9, qi10, c1, c2, c3, c4', c5', hf, dec_t g1, dec_t g2, Bool.not_true, Bool.and_false]
      | false =>
        rw [hg] at hf
        rw [hn, hg]
        simp (dsimp := false) (disch := first | omega | (simp only [LENs] <;> omega) | fail) only [L.names_Name, go_sem, reduceIte, reduceCtorEq, qn0, qn1, qn2, qn3, qn4, qn5, qn6, qn7, qn8, qi0, qi1, qi2, qi3, qi4, qi5, qi6, qi7, qi8, qi9, qi10, c1, c2, c3, c4', c5', hf, go_containsAny hs, Bool.not_false, Bool.and_true]
    · have c5' : ((s.length : Int) == 4) = false := beq_f (by omega)
      rw [hn, isGit_len c5]
      simp (dsimp := false) (disch := first | omega | (simp only [LENs] <;> omega) | fail) only [L.names_Name, go_sem, reduceIte, reduceCtorEq, qn0, qn1, qn2, qn3, qn4, qn5, qn6, qn7, qn8, qi0, qi1, qi2, qi3, qi4, qi5, qi6, qi7, qi8, qi9, qi10, c1, c2, c3, c4', c5', go_containsAny hs, Bool.not_false, Bool.and_true]
end Cod
namespace Cod
open Go
theorem evR_env {E E' : Env} (h : E'.glob = E.glob) (sl loc : List (Nat × AV)) : evR E' sl loc = evR E sl loc := by
  funext x; cases x <;> simp [evR, h]
theorem opR_env {E E' : Env} (h : E'.glob = E.glob) (c : CallF) (sl : List (Nat × AV)) (o : LOper) (r : RS) : opR E' c sl o r = opR E c sl o r := by
  unfold opR; rw [evR_env h]
theorem touchR_env {E E' : Env} (h : E'.glob = E.glob) (c : CallF) (sl : List (Nat × AV)) (o : LOper) (r : RS) : touchR E' c sl o r = touchR E c sl o r := by
  unfold touchR; rw [evR_env h]
theorem opsR_env {E E' : Env} (h : E'.glob = E.glob) (c : CallF) (sl : List (Nat × AV)) : ∀ (os : List LOper) (r : RS), opsR E' c sl os r = opsR E c sl os r := by
  intro os
  induction os with
  | nil => intro r; rfl
  | cons o os ih => intro r; simp only [opsR, opR_env h, ih]
theorem touches_env {E E' : Env} (h : E'.glob = E.glob) (c : CallF) (sl : List (Nat × AV)) : ∀ (os : List LOper) (r : RS), touches E' c sl os r = touches E c sl os r := by
  intro os
  induction os with
  | nil => intro r; rfl
  | cons o os ih => intro r; simp only [touches, opR_env h, touchR_env h, ih]
theorem ev_env {E E' : Env} (h : E'.glob = E.glob) (sl : List (Nat × AV)) (x : LO) : ev E' sl x = ev E sl x := by
  cases x <;> simp [ev, h]
theorem move_env {E E' : Env} (h : E'.glob = E.glob) (c : CallF) (st : St) (k : List It) : move E' c st k = move E c st k := by
  unfold move
  simp only [ev_env h, opsR_env h, touches_env h]
structure Ext (E E' : Env) : Prop where
  glob : E'.glob = E.glob
  fn : E'.fn = E.fn
  known : ∀ f h, E.known f = some h → E'.known f = some h
  none : ∀ f, E.known f = none → E'.known f = none ∨ E.fn f = none
theorem ext_both {E E' : Env} (h : Ext E E') : ∀ n, (∀ fn k st r, exec E n fn k st = some r → exec E' n fn k st = some r) ∧ LeC (acall E n) (acall E' n) := by
  intro n
  induction n with
  | zero => exact ⟨fun fn k st r h => by simp [exec] at h, fun f a σ r h => by simp [acall] at h⟩
  | succ n ih =>
    obtain ⟨ih1, ih2⟩ := ih
    constructor
    · intro fn k st r hx
      rw [exec] at hx ⊢
      rw [move_env h.glob]
      cases hm : move E (acall E n) st k with
      | go k' st' => rw [hm] at hx; rw [move_mono ih2 (by simp) hm]; exact ih1 _ _ _ _ hx
      | done => rw [hm] at hx; rw [move_mono ih2 (by simp) hm]; exact hx
      | stuck => rw [hm] at hx; cases hx
    · intro f a σ r hx
      rw [acall] at hx ⊢
      cases hk : E.known f with
      | some g => rw [hk] at hx; rw [h.known f g hk]; exact hx
      | none =>
        rw [hk] at hx
        cases hf : E.fn f with
        | none => rw [hf] at hx; cases hx
        | some fn =>
          have hk' : E'.known f = Option.none := (h.none f hk).resolve_right (by rw [hf]; simp)
          rw [hk', h.fn, hf]
          rw [hf] at hx; simp only [] at hx ⊢
          cases hb : (a.length == fn.np) <;> rw [hb] at hx <;> simp only [cond_true, cond_false] at hx ⊢
          · cases hx
          · exact ih1 _ _ _ _ hx
theorem S_ext {E E' : Env} (h : Ext E E') {f : Nat} {a : List AV} {σ : Store} {r : AV × Store} (hx : S E f a σ = some r) : S E' f a σ = some r := by
  obtain ⟨n, hn⟩ := S_iff.1 hx
  exact S_iff.2 ⟨n, (ext_both h n).2 _ _ _ _ hn⟩
end Cod
namespace Cod
open Go
theorem ext0 : Ext E0 E where
  glob := rfl
  fn := rfl
  known f h hk := hk
  none f hk := .inl hk
end Cod
namespace Cod
open Go
def lst2 (w e : Int) : Int := if e ≠ 0 ∧ (w = 0 ∨ e < w) then e else w
def minE (l : List Int) : Int := l.foldl lst2 0
theorem go_when {b : Bool} {e : Int} : S E F.object_when [.bool b, .int .i64 e] [] = some (.int .i64 (if b then e else 0), []) := by
  rw [S_of fn_object_when rfl rfl]
  cases b <;> simp (dsimp := false) (disch := first | omega | (simp only [LENs, etys_length, ints64_length] <;> omega) | fail) only [L.object_when, go_sem, reduceIte, reduceCtorEq, qn0, qn1, qn2, qn3, qn4, qn5, qn6, qn7, qn8, qi0, qi1, qi2, qi3, qi4, qi5, qi6, qi7, qi8, qi9, qi10]
theorem ints_get {l : List Int} {i : Nat} (h : i < l.length) : (ints64 l)[i]? = some (.int .i64 (l.getD i 0)) := by
  unfold ints64
  rw [List.getElem?_map, List.getElem?_eq_getElem h]
  simp [List.getD, h]
theorem flats_i64s : ∀ l : List Int, flats (ints64 l) = true := by
  intro l; induction l with
  | nil => rfl
  | cons a l ih => show flats (.int .i64 a :: ints64 l) = true; simp [flats, flat, ih]
theorem refsOfs_i64s : ∀ l : List Int, refsOfs (ints64 l) = [] := by
  intro l; induction l with
  | nil => rfl
  | cons a l ih => show refsOfs (.int .i64 a :: ints64 l) = []; simp [refsOfs, refsOf, ih]
theorem rens_i64s (f : Site → Nat → Option (Site × Nat)) : ∀ l : List Int, rens f (ints64 l) = ints64 l := fun l => rens_flats _ (flats_i64s l)
theorem least_l0 {l : List Int} (hl : l.length ≤ 1000000) : ∀ (m i : Nat) (w : Int), i + m = l.length →
    X E [.tmp 2] (.c L.object_least.x0 :: .lp [3, 6, 7, 8] L.object_least.x0 :: .blk 0 :: [.c L.object_least.r0]) ⟨[(3, .int .i64 w), (6, .lst (ints64 l) l.length), (7, .int .i64 l.length), (8, .int .i64 i)], []⟩ = some (.int .i64 ((l.drop i).foldl lst2 w), []) := by
  intro m
  induction m with
  | zero =>
    intro i w h
    obtain rfl : i = l.length := by omega
    rw [X_in L.object_least.x0.eq_1, List.drop_length]
    simp (dsimp := false) (disch := first | omega | (simp only [LENs, etys_length, ints64_length] <;> omega) | fail) only [go_sem, reduceIte, reduceCtorEq, qn0, qn1, qn2, qn3, qn4, qn5, qn6, qn7, qn8, qi0, qi1, qi2, qi3, qi4, qi5, qi6, qi7, qi8, qi9, qi10, L.object_least.r0, flats_i64s, refsOfs_i64s, rens_i64s]
    rfl
  | succ m ih =>
    intro i w h
    have hlt : i < l.length := by omega
    have h1 := ih (i + 1) (lst2 w (l.getD i 0)) (by omega)
    simp only [Int.natCast_add, Int.cast_ofNat_Int] at h1
    have hg := ints_get hlt
    rw [X_in L.object_least.x0.eq_1, List.drop_eq_getElem_cons hlt, List.foldl_cons, show l[i] = l.getD i 0 by simp [List.getD, hlt]]
    generalize l.getD i 0 = e at *
    unfold lst2 at h1 ⊢
    by_cases e0 : e = 0
    · subst e0
      rw [if_neg (by simp)] at h1 ⊢
      simp (dsimp := false) (disch := first | omega | (simp only [LENs, etys_length, ints64_length] <;> omega) | fail) only [go_sem, reduceIte, reduceCtorEq, qn0, qn1, qn2, qn3, qn4, qn5, qn6, qn7, qn8, qi0, qi1, qi2, qi3, qi4, qi5, qi6, qi7, qi8, qi9, qi10, flats_i64s, refsOfs_i64s, rens_i64s, hg, h1]
    · by_cases w0 : w = 0
      · subst w0
        rw [if_pos (by simp [e0])] at h1 ⊢
        simp (dsimp := false) (disch := first | omega | (simp only [LENs, etys_length, ints64_length] <;> omega) | fail) only [go_sem, reduceIte, reduceCtorEq, qn0, qn1, qn2, qn3, qn4, qn5, qn6, qn7, qn8, qi0, qi1, qi2, qi3, qi4, qi5, qi6, qi7, qi8, qi9, qi10, flats_i64s, refsOfs_i64s, rens_i64s, hg, h1, e0]
      · by_cases lt : e < w
        · rw [if_pos (by simp [e0, lt])] at h1 ⊢
          simp (dsimp := false) (disch := first | omega | (simp only [LENs, etys_length, ints64_length] <;> omega) | fail) only [go_sem, reduceIte, reduceCtorEq, qn0, qn1, qn2, qn3, qn4, qn5, qn6, qn7, qn8, qi0, qi1, qi2, qi3, qi4, qi5, qi6, qi7, qi8, qi9, qi10, flats_i64s, refsOfs_i64s, rens_i64s, hg, h1, e0, w0, lt]
        · rw [if_neg (by simp [e0, lt, w0])] at h1 ⊢
          simp (dsimp := false) (disch := first | omega | (simp only [LENs, etys_length, ints64_length] <;> omega) | fail) only [go_sem, reduceIte, reduceCtorEq, qn0, qn1, qn2, qn3, qn4, qn5, qn6, qn7, qn8, qi0, qi1, qi2, qi3, qi4, qi5, qi6, qi7, qi8, qi9, qi10, flats_i64s, refsOfs_i64s, rens_i64s, hg, h1, e0, w0, lt]
theorem go_least {l : List Int} (hl : l.length ≤ 1000000) : S E F.object_least [.lst (ints64 l) l.length] [] = some (.int .i64 (minE l), []) := by
  have h := least_l0 hl l.length 0 0 (by omega)
  simp only [Int.cast_ofNat_Int, List.drop_zero] at h
  rw [S_of fn_object_least rfl rfl]
  simp (dsimp := false) (disch := first | omega | (simp only [LENs, etys_length, ints64_length] <;> omega) | fail) only [L.object_least, go_sem, reduceIte, reduceCtorEq, qn0, qn1, qn2, qn3, qn4, qn5, qn6, qn7, qn8, qi0, qi1, qi2, qi3, qi4, qi5, qi6, qi7, qi8, qi9, qi10, flats_i64s, refsOfs_i64s, rens_i64s, h]
  rfl
end Cod
namespace Cod
open Go
theorem wrap32 (x : Int) : IntKind.u32.wrap x = x % 4294967296 := by
  simp only [IntKind.wrap, IntKind.signed, IntKind.bits]
  simp
theorem ofInt32 (a : BitVec 32) : BitVec.ofInt 32 (a.toNat : Int) = a := by
  apply BitVec.eq_of_toNat_eq
  rw [BitVec.toNat_ofInt]
  have := a.isLt
  omega
theorem toNat_lt32 (a : BitVec 32) : (a.toNat : Int) < 4294967296 := by have := a.isLt; omega
theorem w_add (a b : BitVec 32) : binAV .add (W a) (W b) = some (W (a + b)) := by
  simp only [W, bin_add, wrap32, BitVec.toNat_add]
  simp
theorem w_and (a b : BitVec 32) : binAV .and (W a) (W b) = some (W (a &&& b)) := by
  rw [W, W, bin_and, iand]
  show some (AV.int .u32 (IntKind.u32.wrap (((BitVec.ofInt 32 (a.toNat : Int)) &&& (BitVec.ofInt 32 (b.toNat : Int))).toNat : Int))) = some (AV.int .u32 ((a &&& b).toNat : Int))
  rw [ofInt32, ofInt32, wrap32, Int.emod_eq_of_lt (by omega) (toNat_lt32 _)]
theorem w_or (a b : BitVec 32) : binAV .or (W a) (W b) = some (W (a ||| b)) := by
  rw [W, W, bin_or, ior]
  show some (AV.int .u32 (IntKind.u32.wrap (((BitVec.ofInt 32 (a.toNat : Int)) ||| (BitVec.ofInt 32 (b.toNat : Int))).toNat : Int))) = some (AV.int .u32 ((a ||| b).toNat : Int))
  rw [ofInt32, ofInt32, wrap32, Int.emod_eq_of_lt (by omega) (toNat_lt32 _)]
theorem w_xor (a b : BitVec 32) : binAV .xor (W a) (W b) = some (W (a ^^^ b)) := by
  rw [W, W, bin_xor, ixor]
  show some (AV.int .u32 (IntKind.u32.wrap (((BitVec.ofInt 32 (a.toNat : Int)) ^^^ (BitVec.ofInt 32 (b.toNat : Int))).toNat : Int))) = some (AV.int .u32 ((a ^^^ b).toNat : Int))
  rw [ofInt32, ofInt32, wrap32, Int.emod_eq_of_lt (by omega) (toNat_lt32 _)]
theorem w_not (a : BitVec 32) : unAV .xor (W a) = some (W (~~~a)) := by
  rw [W, un_xor, inot]
  show some (AV.int .u32 (IntKind.u32.wrap (((BitVec.allOnes 32) ^^^ (BitVec.ofInt 32 (a.toNat : Int))).toNat : Int))) = some (AV.int .u32 ((~~~a).toNat : Int))
  rw [ofInt32, BitVec.allOnes_xor, wrap32, Int.emod_eq_of_lt (by omega) (toNat_lt32 _)]
theorem w_shl' (a : BitVec 32) (k : IntKind) (n : Nat) : binAV .shl (W a) (.int k (n : Int)) = some (W (a <<< n)) := by
  rw [W, bin_shl (by omega), ishl]
  show some (AV.int .u32 (IntKind.u32.wrap ((a.toNat : Int) * 2 ^ (Nat.min n 32)))) = some (AV.int .u32 ((a <<< n).toNat : Int))
  rw [wrap32, BitVec.toNat_shiftLeft, Nat.shiftLeft_eq]
  by_cases h : n ≤ 32
  · rw [show Nat.min n 32 = n from Nat.min_eq_left h, Int.natCast_emod, Int.natCast_mul, Int.natCast_pow]
    rfl
  · rw [show Nat.min n 32 = 32 from Nat.min_eq_right (by omega)]
    obtain ⟨m, rfl⟩ : ∃ m, n = 32 + m := ⟨n - 32, by omega⟩
    have h1 : a.toNat * 2 ^ (32 + m) % 2 ^ 32 = 0 := by
      rw [Nat.pow_add, ← Nat.mul_assoc, Nat.mul_right_comm]
      exact Nat.mul_mod_left _ _
    rw [h1]
    have h2 : (a.toNat : Int) * 2 ^ 32 % 4294967296 = 0 := by omega
    rw [h2]; rfl
theorem w_shr' (a : BitVec 32) (k : IntKind) (n : Nat) : binAV .shr (W a) (.int k (n : Int)) = some (W (a >>> n)) := by
  rw [W, bin_shr (by omega), ishr]
  show some (AV.int .u32 ((a.toNat : Int).fdiv (2 ^ (Nat.min n 32)))) = some (AV.int .u32 ((a >>> n).toNat : Int))
  rw [BitVec.toNat_ushiftRight, Nat.shiftRight_eq_div_pow]
  have key : ∀ m : Nat, ((a.toNat : Int)).fdiv (2 ^ m) = ((a.toNat / 2 ^ m : Nat) : Int) := by
    intro m
    rw [Int.fdiv_eq_ediv_of_nonneg _ (Int.le_of_lt (Int.pow_pos (by omega))), Int.natCast_ediv, Int.natCast_pow]
    rfl
  rw [key]
  by_cases h : n ≤ 32
  · rw [show Nat.min n 32 = n from Nat.min_eq_left h]
  · rw [show Nat.min n 32 = 32 from Nat.min_eq_right (by omega)]
    have h1 : a.toNat / 2 ^ 32 = 0 := Nat.div_eq_of_lt a.isLt
    have h2 : a.toNat / 2 ^ n = 0 := Nat.div_eq_of_lt (Nat.lt_of_lt_of_le a.isLt (Nat.pow_le_pow_right (by omega) (by omega)))
    rw [h1, h2]
theorem w_shl (a : BitVec 32) (k : IntKind) (n : Int) (h : 0 ≤ n) : binAV .shl (W a) (.int k n) = some (W (a <<< n.toNat)) := by
  obtain ⟨m, rfl⟩ := Int.eq_ofNat_of_zero_le h
  rw [w_shl']; rfl
theorem w_shr (a : BitVec 32) (k : IntKind) (n : Int) (h : 0 ≤ n) : binAV .shr (W a) (.int k n) = some (W (a >>> n.toNat)) := by
  obtain ⟨m, rfl⟩ := Int.eq_ofNat_of_zero_le h
  rw [w_shr']; rfl
theorem zer_words (n : Nat) : zer (.int .u32 0) n = words (List.replicate n 0) := by simp [zer, words, W]
theorem flats_words (l : List (BitVec 32)) : flats (words l) = true := by
  induction l with
  | nil => rfl
  | cons x l ih => simpa [words, flats, flat, W] using ih
theorem hards_words (l : List (BitVec 32)) : hards (words l) = true := by
  induction l with
  | nil => rfl
  | cons x l ih => simpa [words, hards, hard, W] using ih
theorem leadss_words (l : List (BitVec 32)) : leadss (words l) = false := by
  induction l with
  | nil => rfl
  | cons x l ih => simpa [words, leadss, leads, W] using ih
theorem refsOfs_words (l : List (BitVec 32)) : refsOfs (words l) = [] := by
  induction l with
  | nil => rfl
  | cons x l ih => simpa [words, refsOfs, refsOf, W] using ih
theorem rens_words (f : Site → Nat → Option (Site × Nat)) (l : List (BitVec 32)) : rens f (words l) = words l := by
  induction l with
  | nil => rfl
  | cons x l ih => simpa [words, rens, ren, W] using ih
theorem get_words {l : List (BitVec 32)} {i : Nat} (h : i < l.length) : (words l)[i]? = some (W (l.getD i 0)) := by simp [words, h]
theorem over_words {l : List (BitVec 32)} {i : Nat} {x : BitVec 32} (h : i < l.length) : over (words l) i [W x] = words (l.set i x) := by
  unfold over words
  rw [List.length_singleton, List.map_set, List.set_eq_take_append_cons_drop, if_pos (by simpa using h)]
  simp
theorem take_words (l : List (BitVec 32)) (n : Nat) : (words l).take n = words (l.take n) := by simp [words, List.map_take]
theorem drop_words (l : List (BitVec 32)) (n : Nat) : (words l).drop n = words (l.drop n) := by simp [words, List.map_drop]
theorem sub_words (l : List (BitVec 32)) (i n : Nat) : sub (words l) i n = words (sub l i n) := by simp [sub, words, List.map_drop, List.map_take]
theorem over_words_all {l m : List (BitVec 32)} (h : m.length = l.length) : over (words l) 0 (words m) = words m := by
  unfold over; exact overall (by rw [words_length, words_length, h])
theorem hard_W (x : BitVec 32) : hard (W x) = true := rfl
theorem flat_W (x : BitVec 32) : flat (W x) = true := rfl
theorem refsOf_W (x : BitVec 32) : refsOf (W x) = [] := rfl
theorem leads_W (x : BitVec 32) : leads (W x) = false := rfl
theorem ren_W (f : Site → Nat → Option (Site × Nat)) (x : BitVec 32) : ren f (W x) = W x := rfl
theorem view_W (x : BitVec 32) : view (W x) = .ret (W x, []) := rfl
theorem view1_W (x : BitVec 32) : view1 (W x) = .ret (W x, []) := rfl
theorem cellsO_W (x : BitVec 32) : cellsO (W x) = some [W x] := rfl
def bw (l : List UInt8) (i : Nat) : BitVec 32 := BitVec.ofNat 32 (l.getD i 0).toNat
theorem cvi_bw (l : List UInt8) (i : Nat) : cviV .u32 (.int .u8 (bat l i)) = .ret (W (bw l i), []) := by
  have h := (l.getD i 0).toNat_lt
  have : IntKind.u32.wrap (bat l i) = ((bw l i).toNat : Int) := by
    rw [wrap32]; unfold bat bw
    rw [BitVec.toNat_ofNat]
    omega
  rw [cviV_int, this]; rfl
def wb (x : BitVec 32) : UInt8 := UInt8.ofNat x.toNat
theorem cvi_wb (x : BitVec 32) : cviV .u8 (W x) = .ret (.int .u8 ((wb x).toNat : Int), []) := by
  have : IntKind.u8.wrap (x.toNat : Int) = ((wb x).toNat : Int) := by
    rw [wrap_u8]; unfold wb
    simp
  rw [W, cviV_int, this]
theorem WDs : (∀ (l : List (BitVec 32)) (n : Nat), (words l).take n = words (l.take n)) ∧ (∀ (l : List (BitVec 32)) (n : Nat), (words l).drop n = words (l.drop n)) ∧ (∀ (l : List (BitVec 32)) (i n : Nat), sub (words l) i n = words (sub l i n)) ∧ (∀ l m : List (BitVec 32), m.length = l.length → over (words l) 0 (words m) = words m) ∧ (∀ n : Nat, zer (.int .u32 0) n = words (List.replicate n 0)) ∧ (∀ a b : BitVec 32, binAV .add (W a) (W b) = some (W (a + b))) ∧ (∀ a b : BitVec 32, binAV .and (W a) (W b) = some (W (a &&& b))) ∧ (∀ a b : BitVec 32, binAV .or (W a) (W b) = some (W (a ||| b))) ∧ (∀ a b : BitVec 32, binAV .xor (W a) (W b) = some (W (a ^^^ b))) ∧ (∀ a : BitVec 32, unAV .xor (W a) = some (W (~~~a))) ∧ (∀ (a : BitVec 32) (k : IntKind) (n : Int), 0 ≤ n → binAV .shl (W a) (.int k n) = some (W (a <<< n.toNat))) ∧ (∀ (a : BitVec 32) (k : IntKind) (n : Int), 0 ≤ n → binAV .shr (W a) (.int k n) = some (W (a >>> n.toNat))) ∧ (∀ l : List (BitVec 32), flats (words l) = true) ∧ (∀ l : List (BitVec 32), hards (words l) = true) ∧ (∀ l : List (BitVec 32), leadss (words l) = false) ∧ (∀ l : List (BitVec 32), refsOfs (words l) = []) ∧ (∀ (f : Site → Nat → Option (Site × Nat)) (l : List (BitVec 32)), rens f (words l) = words l) ∧ (∀ l : List (BitVec 32), (words l).length = l.length) ∧ (∀ (l : List (BitVec 32)) (i : Nat), i < l.length → (words l)[i]? = some (W (l.getD i 0))) ∧ (∀ (l : List (BitVec 32)) (i : Nat) (x : BitVec 32), i < l.length → over (words l) i [W x] = words (l.set i x)) ∧ (∀ x : BitVec 32, hard (W x) = true) ∧ (∀ x : BitVec 32, flat (W x) = true) ∧ (∀ x : BitVec 32, refsOf (W x) = []) ∧ (∀ x : BitVec 32, leads (W x) = false) ∧ (∀ (f : Site → Nat → Option (Site × Nat)) (x : BitVec 32), ren f (W x) = W x) ∧ (∀ x : BitVec 32, view (W x) = .ret (W x, [])) ∧ (∀ x : BitVec 32, view1 (W x) = .ret (W x, [])) ∧ (∀ x : BitVec 32, cellsO (W x) = some [W x]) ∧ (∀ (l : List UInt8) (i : Nat), cviV .u32 (.int .u8 (bat l i)) = .ret (W (bw l i), [])) ∧ (∀ x : BitVec 32, cviV .u8 (W x) = .ret (.int .u8 ((wb x).toNat : Int), [])) :=
  ⟨take_words, drop_words, sub_words, fun _ _ h => over_words_all h, zer_words, w_add, w_and, w_or, w_xor, w_not, w_shl, w_shr, flats_words, hards_words, leadss_words, refsOfs_words, rens_words, words_length, fun _ _ h => get_words h, fun _ _ _ h => over_words h, hard_W, flat_W, refsOf_W, leads_W, ren_W, view_W, view1_W, cellsO_W, cvi_bw, cvi_wb⟩
end Cod
namespace Cod
open Go
def rotr (x : BitVec 32) (n : Nat) : BitVec 32 := x >>> n ||| x <<< (32 - n)
theorem rot_of {x : BitVec 32} {k : Int} {n : Nat} (hn : n ≤ 32) (hk : iand .u64 (IntKind.u64.wrap k) 31 = ((32 - n : Nat) : Int)) :
    S E F.bits_RotateLeft32 [W x, .int .i64 k] [] = some (W (rotr x n), []) := by
  have h1 : IntKind.u64.wrap (32 - ((32 - n : Nat) : Int)) = (n : Int) := by
    simp only [IntKind.wrap, IntKind.signed, IntKind.bits]
    simp
    omega
  rw [S_of fn_bits_RotateLeft32 rfl rfl]
  simp (disch := omega) only [L.bits_RotateLeft32, go_sem, reduceIte, reduceCtorEq, qn0, qn1, qn2, qn3, qn4, qn5, qn6, qn7, qn8, qi0, qi1, qi2, qi3, qi4, qi5, qi6, qi7, qi8, qi9, qi10, WDs, hk, h1]
  rw [rotr, BitVec.or_comm]
theorem rot_7 {x : BitVec 32} : S E F.bits_RotateLeft32 [W x, .int .i64 (-7)] [] = some (W (rotr x 7), []) := rot_of (by omega) (by decide)
theorem rot_18 {x : BitVec 32} : S E F.bits_RotateLeft32 [W x, .int .i64 (-18)] [] = some (W (rotr x 18), []) := rot_of (by omega) (by decide)
theorem rot_17 {x : BitVec 32} : S E F.bits_RotateLeft32 [W x, .int .i64 (-17)] [] = some (W (rotr x 17), []) := rot_of (by omega) (by decide)
theorem rot_19 {x : BitVec 32} : S E F.bits_RotateLeft32 [W x, .int .i64 (-19)] [] = some (W (rotr x 19), []) := rot_of (by omega) (by decide)
theorem rot_6 {x : BitVec 32} : S E F.bits_RotateLeft32 [W x, .int .i64 (-6)] [] = some (W (rotr x 6), []) := rot_of (by omega) (by decide)
theorem rot_11 {x : BitVec 32} : S E F.bits_RotateLeft32 [W x, .int .i64 (-11)] [] = some (W (rotr x 11), []) := rot_of (by omega) (by decide)
theorem rot_25 {x : BitVec 32} : S E F.bits_RotateLeft32 [W x, .int .i64 (-25)] [] = some (W (rotr x 25), []) := rot_of (by omega) (by decide)
theorem rot_2 {x : BitVec 32} : S E F.bits_RotateLeft32 [W x, .int .i64 (-2)] [] = some (W (rotr x 2), []) := rot_of (by omega) (by decide)
theorem rot_13 {x : BitVec 32} : S E F.bits_RotateLeft32 [W x, .int .i64 (-13)] [] = some (W (rotr x 13), []) := rot_of (by omega) (by decide)
theorem rot_22 {x : BitVec 32} : S E F.bits_RotateLeft32 [W x, .int .i64 (-22)] [] = some (W (rotr x 22), []) := rot_of (by omega) (by decide)
def word4 (b : List UInt8) (i : Nat) : BitVec 32 := bw b (4 * i) <<< 24 ||| bw b (4 * i + 1) <<< 16 ||| bw b (4 * i + 2) <<< 8 ||| bw b (4 * i + 3)
def fill1 (b : List UInt8) : Nat → Nat → List (BitVec 32) → List (BitVec 32)
  | 0, _, ws => ws
  | m + 1, i, ws => fill1 b m (i + 1) (ws.set i (word4 b i))
def sig0 (x : BitVec 32) : BitVec 32 := rotr x 7 ^^^ rotr x 18 ^^^ x >>> 3
def sig1 (y : BitVec 32) : BitVec 32 := rotr y 17 ^^^ rotr y 19 ^^^ y >>> 10
def sched (ws : List (BitVec 32)) (i : Nat) : BitVec 32 := ws.getD (i - 16) 0 + sig0 (ws.getD (i - 15) 0) + ws.getD (i - 7) 0 + sig1 (ws.getD (i - 2) 0)
def fill2 : Nat → Nat → List (BitVec 32) → List (BitVec 32)
  | 0, _, ws => ws
  | m + 1, i, ws => fill2 m (i + 1) (ws.set i (sched ws i))
theorem fill1_length (b : List UInt8) : ∀ m i ws, (fill1 b m i ws).length = ws.length := by
  intro m
  induction m with
  | zero => intro i ws; rfl
  | succ m ih => intro i ws; simp [fill1, ih]
theorem fill2_length : ∀ m i ws, (fill2 m i ws).length = ws.length := by
  intro m
  induction m with
  | zero => intro i ws; rfl
  | succ m ih => intro i ws; simp [fill2, ih]
theorem block_l0 {h : List (BitVec 32)} {b : List UInt8} (hh : h.length = 8) (hb : b.length = 64) (k : List It) : ∀ (m i : Nat) (ws : List (BitVec 32)), i + m = 16 → ws.length = 64 →
    X E [.cell 4 (some 8)] (.c L.sha_Block.x0 :: .lp [2, 3, 4, 5, 23] L.sha_Block.x0 :: .blk 0 :: k) ⟨[(2, .ref (.s 1000000 0) 0 0), (3, .ref (.s 1000000 1) 0 0), (4, .ref (.s 1000000 2) 0 0), (5, .ref (.s 1000000 3) 0 0), (23, .int .i64 i)], [(.s 1000000 0, ⟨0, true, true, true, words h⟩), (.s 1000000 1, ⟨0, true, true, true, ofBytes b⟩), (.s 1000000 2, ⟨0, true, true, true, words (List.replicate 8 0)⟩), (.s 1000000 3, ⟨0, true, true, true, words ws⟩)]⟩ = X E [.cell 4 (some 8)] k ⟨[(2, .ref (.s 1000000 0) 0 0), (3, .ref (.s 1000000 1) 0 0), (4, .ref (.s 1000000 2) 0 0), (5, .ref (.s 1000000 3) 0 0), (23, .int .i64 16), (24, .bool false)], [(.s 1000000 0, ⟨0, true, true, true, words h⟩), (.s 1000000 1, ⟨0, true, true, true, ofBytes b⟩), (.s 1000000 2, ⟨0, true, true, true, words (List.replicate 8 0)⟩), (.s 1000000 3, ⟨0, true, true, true, words (fill1 b m i ws)⟩)]⟩ := by
  intro m
  induction m with
  | zero =>
    intro i ws h1 h2
    obtain rfl : i = 16 := by omega
    rw [X_in L.sha_Block.x0.eq_1]
    simp (disch := omega) only [go_sem, reduceIte, reduceCtorEq, qn0, qn1, qn2, qn3, qn4, qn5, qn6, qn7, qn8, qi0, qi1, qi2, qi3, qi4, qi5, qi6, qi7, qi8, qi9, qi10, sub_take, take_len, sub_drop, WDs, BYs, fill1, Int.cast_ofNat_Int]
  | succ m ih =>
    intro i ws h1 h2
    have e0 : (4 * (i : Int)).toNat = 4 * i := by omega
    have e1 : (4 * (i : Int) + 1).toNat = 4 * i + 1 := by omega
    have e2 : (4 * (i : Int) + 2).toNat = 4 * i + 2 := by omega
    have e3 : (4 * (i : Int) + 3).toNat = 4 * i + 3 := by omega
    rw [X_in L.sha_Block.x0.eq_1]
    simp (disch := omega) only [go_sem, reduceIte, reduceCtorEq, qn0, qn1, qn2, qn3, qn4, qn5, qn6, qn7, qn8, qi0, qi1, qi2, qi3, qi4, qi5, qi6, qi7, qi8, qi9, qi10, sub_take, take_len, sub_drop, WDs, BYs, fill1, e0, e1, e2, e3]
    have := ih (i + 1) (ws.set i (word4 b i)) (by omega) (by simpa using h2)
    simp only [Int.natCast_add, Int.cast_ofNat_Int] at this
    exact this
theorem block_l1 {h : List (BitVec 32)} (hh : h.length = 8) (k : List It) : ∀ (m i : Nat) (ws : List (BitVec 32)), i + m = 64 → 16 ≤ i → ws.length = 64 →
    X E [.cell 4 (some 8)] (.c L.sha_Block.x1 :: .lp [2, 4, 5, 7] L.sha_Block.x1 :: .blk 2 :: k) ⟨[(2, .ref (.s 1000000 0) 0 0), (4, .ref (.s 1000000 1) 0 0), (5, .ref (.s 1000000 2) 0 0), (7, .int .i64 i)], [(.s 1000000 0, ⟨0, true, true, true, words h⟩), (.s 1000000 1, ⟨0, true, true, true, words (List.replicate 8 0)⟩), (.s 1000000 2, ⟨0, true, true, true, words ws⟩)]⟩ = X E [.cell 4 (some 8)] k ⟨[(2, .ref (.s 1000000 0) 0 0), (4, .ref (.s 1000000 1) 0 0), (5, .ref (.s 1000000 2) 0 0), (7, .int .i64 64), (59, .bool false)], [(.s 1000000 0, ⟨0, true, true, true, words h⟩), (.s 1000000 1, ⟨0, true, true, true, words (List.replicate 8 0)⟩), (.s 1000000 2, ⟨0, true, true, true, words (fill2 m i ws)⟩)]⟩ := by
  intro m
  induction m with
  | zero =>
    intro i ws h1 h0 h2
    obtain rfl : i = 64 := by omega
    rw [X_in L.sha_Block.x1.eq_1]
    simp (disch := omega) only [go_sem, reduceIte, reduceCtorEq, qn0, qn1, qn2, qn3, qn4, qn5, qn6, qn7, qn8, qi0, qi1, qi2, qi3, qi4, qi5, qi6, qi7, qi8, qi9, qi10, sub_take, take_len, sub_drop, WDs, BYs, fill2, Int.cast_ofNat_Int]
  | succ m ih =>
    intro i ws h1 h0 h2
    have e0 : ((i : Int) - 16).toNat = i - 16 := by omega
    have e1 : ((i : Int) - 15).toNat = i - 15 := by omega
    have e2 : ((i : Int) - 7).toNat = i - 7 := by omega
    have e3 : ((i : Int) - 2).toNat = i - 2 := by omega
    rw [X_in L.sha_Block.x1.eq_1]
    simp (disch := omega) only [go_sem, reduceIte, reduceCtorEq, qn0, qn1, qn2, qn3, qn4, qn5, qn6, qn7, qn8, qi0, qi1, qi2, qi3, qi4, qi5, qi6, qi7, qi8, qi9, qi10, sub_take, take_len, sub_drop, WDs, BYs, fill2, e0, e1, e2, e3, rot_7, rot_18, rot_17, rot_19]
    have := ih (i + 1) (ws.set i (sched ws i)) (by omega) (by omega) (by simpa using h2)
    simp only [Int.natCast_add, Int.cast_ofNat_Int] at this
    exact this
structure S8 where
  a : BitVec 32
  b : BitVec 32
  c : BitVec 32
  d : BitVec 32
  e : BitVec 32
  f : BitVec 32
  g : BitVec 32
  h : BitVec 32
def su1 (e : BitVec 32) : BitVec 32 := rotr e 6 ^^^ rotr e 11 ^^^ rotr e 25
def su0 (a : BitVec 32) : BitVec 32 := rotr a 2 ^^^ rotr a 13 ^^^ rotr a 22
def rndU (k w : BitVec 32) (s : S8) : BitVec 32 := s.h + su1 s.e + (s.e &&& s.f ||| ~~~s.e &&& s.g) + k + w
def rndV (s : S8) : BitVec 32 := su0 s.a + (s.a &&& s.b ^^^ s.a &&& s.c ^^^ s.b &&& s.c)
def rnd (k w : BitVec 32) (s : S8) : S8 := ⟨rndU k w s + rndV s, s.a, s.b, s.c, s.d + rndU k w s, s.e, s.f, s.g⟩
def rnds (ws : List (BitVec 32)) : Nat → Nat → S8 → S8
  | 0, _, s => s
  | m + 1, i, s => rnds ws m (i + 1) (rnd (kTab.getD i 0) (ws.getD i 0) s)
def S8.of (h : List (BitVec 32)) : S8 := ⟨h.getD 0 0, h.getD 1 0, h.getD 2 0, h.getD 3 0, h.getD 4 0, h.getD 5 0, h.getD 6 0, h.getD 7 0⟩
def S8.plus (h : List (BitVec 32)) (s : S8) : List (BitVec 32) := [h.getD 0 0 + s.a, h.getD 1 0 + s.b, h.getD 2 0 + s.c, h.getD 3 0 + s.d, h.getD 4 0 + s.e, h.getD 5 0 + s.f, h.getD 6 0 + s.g, h.getD 7 0 + s.h]
def msch (b : List UInt8) : List (BitVec 32) := fill2 48 16 (fill1 b 16 0 (List.replicate 64 0))
def blockF (h : List (BitVec 32)) (b : List UInt8) : List (BitVec 32) := S8.plus h (rnds (msch b) 64 0 (S8.of h))
theorem msch_length (b : List UInt8) : (msch b).length = 64 := by rw [msch, fill2_length, fill1_length]; simp
theorem blockF_length (h : List (BitVec 32)) (b : List UInt8) : (blockF h b).length = 8 := rfl
theorem kTab_length : kTab.length = 64 := rfl
theorem block_l2 {h ws : List (BitVec 32)} (hh : h.length = 8) (hw : ws.length = 64) (k : List It) : ∀ (m i : Nat) (s : S8), i + m = 64 →
    X E [.cell 4 (some 8)] (.c L.sha_Block.x2 :: .lp [2, 4, 5, 12, 13, 14, 15, 16, 17, 18, 19, 117] L.sha_Block.x2 :: .blk 4 :: k) ⟨[(2, .ref (.s 1000000 0) 0 0), (4, .ref (.s 1000000 1) 0 0), (5, .ref (.s 1000000 2) 0 0), (12, W s.a), (13, W s.b), (14, W s.c), (15, W s.d), (16, W s.e), (17, W s.f), (18, W s.g), (19, W s.h), (117, .int .i64 i)], [(.s 1000000 0, ⟨0, true, true, true, words h⟩), (.s 1000000 1, ⟨0, true, true, true, words (List.replicate 8 0)⟩), (.s 1000000 2, ⟨0, true, true, true, words ws⟩)]⟩ = X E [.cell 4 (some 8)] k ⟨[(2, .ref (.s 1000000 0) 0 0), (4, .ref (.s 1000000 1) 0 0), (5, .ref (.s 1000000 2) 0 0), (12, W (rnds ws m i s).a), (13, W (rnds ws m i s).b), (14, W (rnds ws m i s).c), (15, W (rnds ws m i s).d), (16, W (rnds ws m i s).e), (17, W (rnds ws m i s).f), (18, W (rnds ws m i s).g), (19, W (rnds ws m i s).h), (117, .int .i64 64), (118, .bool false)], [(.s 1000000 0, ⟨0, true, true, true, words h⟩), (.s 1000000 1, ⟨0, true, true, true, words (List.replicate 8 0)⟩), (.s 1000000 2, ⟨0, true, true, true, words ws⟩)]⟩ := by
  intro m
  have hk := kTab_length
  induction m with
  | zero =>
    intro i s h1
    obtain rfl : i = 64 := by omega
    rw [X_in L.sha_Block.x2.eq_1]
    simp (disch := omega) only [go_sem, reduceIte, reduceCtorEq, qn0, qn1, qn2, qn3, qn4, qn5, qn6, qn7, qn8, qi0, qi1, qi2, qi3, qi4, qi5, qi6, qi7, qi8, qi9, qi10, sub_take, take_len, sub_drop, WDs, BYs, rnds, Int.cast_ofNat_Int]
  | succ m ih =>
    intro i s h1
    rw [X_in L.sha_Block.x2.eq_1]
    simp (disch := omega) only [go_sem, reduceIte, reduceCtorEq, qn0, qn1, qn2, qn3, qn4, qn5, qn6, qn7, qn8, qi0, qi1, qi2, qi3, qi4, qi5, qi6, qi7, qi8, qi9, qi10, sub_take, take_len, sub_drop, WDs, BYs, rnds, glob_k, rot_6, rot_11, rot_25, rot_2, rot_13, rot_22]
    have := ih (i + 1) (rnd (kTab.getD i 0) (ws.getD i 0) s) (by omega)
    simp only [Int.natCast_add, Int.cast_ofNat_Int] at this
    exact this
theorem block_r2 {h ws : List (BitVec 32)} (hh : h.length = 8) (R : S8) : X E [.cell 4 (some 8)] [.c L.sha_Block.r2] ⟨[(2, .ref (.s 1000000 0) 0 0), (4, .ref (.s 1000000 1) 0 0), (5, .ref (.s 1000000 2) 0 0), (12, W R.a), (13, W R.b), (14, W R.c), (15, W R.d), (16, W R.e), (17, W R.f), (18, W R.g), (19, W R.h), (117, .int .i64 64), (118, .bool false)], [(.s 1000000 0, ⟨0, true, true, true, words h⟩), (.s 1000000 1, ⟨0, true, true, true, words (List.replicate 8 0)⟩), (.s 1000000 2, ⟨0, true, true, true, words ws⟩)]⟩ = some (.agg (words (S8.plus h R)), []) := by
  simp (dsimp := false) (disch := first | omega | (simp only [LENs] <;> omega) | fail) only [L.sha_Block.r2, go_sem, reduceIte, reduceCtorEq, qn0, qn1, qn2, qn3, qn4, qn5, qn6, qn7, qn8, qi0, qi1, qi2, qi3, qi4, qi5, qi6, qi7, qi8, qi9, qi10, sub_take, take_len, sub_drop, WDs, BYs, List.length_replicate, List.length_set]
  rfl
theorem block_r1 {h ws : List (BitVec 32)} (hh : h.length = 8) (hw : ws.length = 64) : X E [.cell 4 (some 8)] [.c L.sha_Block.r1] ⟨[(2, .ref (.s 1000000 0) 0 0), (4, .ref (.s 1000000 1) 0 0), (5, .ref (.s 1000000 2) 0 0), (7, .int .i64 64), (59, .bool false)], [(.s 1000000 0, ⟨0, true, true, true, words h⟩), (.s 1000000 1, ⟨0, true, true, true, words (List.replicate 8 0)⟩), (.s 1000000 2, ⟨0, true, true, true, words ws⟩)]⟩ = some (.agg (words (S8.plus h (rnds ws 64 0 (S8.of h)))), []) := by
  rw [← block_r2 (ws := ws) hh]
  have := block_l2 hh hw [.c L.sha_Block.r2] 64 0 (S8.of h) (by omega)
  simp only [Int.cast_ofNat_Int] at this
  rw [← this]
  simp (dsimp := false) (disch := first | omega | (simp only [LENs] <;> omega) | fail) only [L.sha_Block.r1, go_sem, reduceIte, reduceCtorEq, qn0, qn1, qn2, qn3, qn4, qn5, qn6, qn7, qn8, qi0, qi1, qi2, qi3, qi4, qi5, qi6, qi7, qi8, qi9, qi10, sub_take, take_len, sub_drop, WDs, BYs, S8.of]
theorem go_block {h : List (BitVec 32)} {b : List UInt8} (hh : h.length = 8) (hb : b.length = 64) : S E F.sha_Block [.agg (words h), .agg (ofBytes b)] [] = some (.agg (words (blockF h b)), []) := by
  have l1 : (fill1 b 16 0 (List.replicate 64 0)).length = 64 := by rw [fill1_length]; simp
  rw [blockF, ← block_r1 hh (msch_length b), msch]
  have := block_l1 hh [.c L.sha_Block.r1] 48 16 _ (by omega) (by omega) l1
  simp only [Int.cast_ofNat_Int] at this
  rw [← this]
  rw [S_of fn_sha_Block rfl rfl]
  simp (dsimp := false) (disch := first | omega | (simp only [LENs] <;> omega) | fail) only [L.sha_Block, go_sem, reduceIte, reduceCtorEq, qn0, qn1, qn2, qn3, qn4, qn5, qn6, qn7, qn8, qi0, qi1, qi2, qi3, qi4, qi5, qi6, qi7, qi8, qi9, qi10, sub_take, take_len, sub_drop, WDs, BYs]
  have := block_l0 hh hb [.c L.sha_Block.r0] 16 0 (List.replicate 64 0) (by omega) (by simp)
  simp only [Int.cast_ofNat_Int] at this
  rw [this]
  simp (dsimp := false) (disch := first | omega | (simp only [LENs] <;> omega) | fail) only [L.sha_Block.r0, go_sem, reduceIte, reduceCtorEq, qn0, qn1, qn2, qn3, qn4, qn5, qn6, qn7, qn8, qi0, qi1, qi2, qi3, qi4, qi5, qi6, qi7, qi8, qi9, qi10, sub_take, take_len, sub_drop, WDs, BYs]
end Cod
namespace Cod
open Go
def h0w : List (BitVec 32) := [0x6a09e667, 0xbb67ae85, 0x3c6ef372, 0xa54ff53a, 0x510e527f, 0x9b05688c, 0x1f83d9ab, 0x5be0cd19]
def blocksN : Nat → List (BitVec 32) → List UInt8 → List (BitVec 32)
  | 0, h, _ => h
  | m + 1, h, l => blocksN m (blockF h (l.take 64)) (l.drop 64)
def be8 (v : Nat) : List UInt8 := [UInt8.ofNat (v / 2 ^ 56 % 256), UInt8.ofNat (v / 2 ^ 48 % 256), UInt8.ofNat (v / 2 ^ 40 % 256), UInt8.ofNat (v / 2 ^ 32 % 256), UInt8.ofNat (v / 2 ^ 24 % 256), UInt8.ofNat (v / 2 ^ 16 % 256), UInt8.ofNat (v / 2 ^ 8 % 256), UInt8.ofNat (v / 2 ^ 0 % 256)]
def padF (n : Nat) : List UInt8 := 128 :: (List.replicate ((119 - n % 64) % 64) 0 ++ be8 (8 * n))
def idOf (h : List (BitVec 32)) : List UInt8 := (List.range 32).map fun i => wb (h.getD (i / 4) 0 >>> (24 - 8 * (i % 4)))
def shaF (p : List UInt8) : List UInt8 :=
  idOf (blocksN ((p.drop (p.length / 64 * 64) ++ padF p.length).length / 64) (blocksN (p.length / 64) h0w p) (p.drop (p.length / 64 * 64) ++ padF p.length))
theorem blocksN_length : ∀ (m : Nat) (h : List (BitVec 32)) (l : List UInt8), h.length = 8 → (blocksN m h l).length = 8 := by
  intro m
  induction m with
  | zero => intro h l hh; exact hh
  | succ m ih => intro h l _; exact ih _ _ (blockF_length _ _)
def padSet (n : Nat) : Nat → Nat → List UInt8 → List UInt8
  | 0, _, l => l
  | m + 1, i, l => padSet n m (i + 1) (l.set (l.length - 1 - i) (UInt8.ofNat (8 * n / 2 ^ (8 * i) % 256)))
theorem pad_l0 {n : Nat} (hn : n ≤ 1000000000000) (k : List It) : ∀ (m i : Nat) (l : List UInt8), i + m = 8 → 8 ≤ l.length → l.length ≤ 100 →
    X E [.tmp 2] (.c L.sha_Pad.x0 :: .lp [0, 3, 16] L.sha_Pad.x0 :: .blk 0 :: k) ⟨[(0, .int .i64 n), (3, .buf (.s 1000000 0) 0 0 (l).length 1), (16, .int .i64 i)], [(.s 1000000 0, ⟨0, true, true, false, ofBytes l⟩)]⟩ = X E [.tmp 2] k ⟨[(0, .int .i64 n), (3, .buf (.s 1000000 0) 0 0 ((padSet n m i l)).length 1), (16, .int .i64 8), (17, .bool false)], [(.s 1000000 0, ⟨0, true, true, false, ofBytes (padSet n m i l)⟩)]⟩ := by
  intro m
  induction m with
  | zero =>
    intro i l h1 h2 h3
    obtain rfl : i = 8 := by omega
    rw [X_in L.sha_Pad.x0.eq_1]
    simp (dsimp := false) (disch := first | omega | (simp only [LENs] <;> omega) | fail) only [go_sem, reduceIte, reduceCtorEq, qn0, qn1, qn2, qn3, qn4, qn5, qn6, qn7, qn8, qi0, qi1, qi2, qi3, qi4, qi5, qi6, qi7, qi8, qi9, qi10, sub_take, take_len, sub_drop, BYs, padSet, Int.cast_ofNat_Int]
  | succ m ih =>
    intro i l h1 h2 h3
    have e0 : ((l.length : Int) - 1 - i).toNat = l.length - 1 - i := by omega
    have e1 : ishr .u64 (ishl .u64 (n : Int) 3) (8 * (i : Int)) = ((8 * n / 2 ^ (8 * i) : Nat) : Int) := by
      rw [show (8 * (i : Int)) = ((8 * i : Nat) : Int) by omega, ishr_any (by simp [IntKind.bits]; omega), show (3 : Int) = ((3 : Nat) : Int) from rfl, ishl_u64 (by omega), Int.natCast_ediv, Int.natCast_pow]
      congr 1
      omega
    have e2 : ((8 * n / 2 ^ (8 * i) : Nat) : Int) % 256 = ((8 * n / 2 ^ (8 * i) % 256 : Nat) : Int) := by omega
    have e3 : (((8 * n / 2 ^ (8 * i) % 256 : Nat) : Int)).toNat = 8 * n / 2 ^ (8 * i) % 256 := by omega
    rw [X_in L.sha_Pad.x0.eq_1]
    simp (dsimp := false) (disch := first | omega | (simp only [LENs] <;> omega) | fail) only [go_sem, reduceIte, reduceCtorEq, qn0, qn1, qn2, qn3, qn4, qn5, qn6, qn7, qn8, qi0, qi1, qi2, qi3, qi4, qi5, qi6, qi7, qi8, qi9, qi10, sub_take, take_len, sub_drop, BYs, padSet, e0, e1, e2, e3]
    have := ih (i + 1) (l.set (l.length - 1 - i) (UInt8.ofNat (8 * n / 2 ^ (8 * i) % 256))) (by omega) (by simpa using h2) (by simpa using h3)
    simp only [Int.natCast_add, Int.cast_ofNat_Int, List.length_set] at this
    exact this
theorem padSet_pad (n z : Nat) (a : List UInt8) : padSet n 8 0 (a ++ List.replicate 8 0) = a ++ be8 (8 * n) := by
  have key : ∀ (i : Nat) (x : UInt8) (t : List UInt8), t.length = 8 → i < 8 → (a ++ t).set ((a ++ t).length - 1 - i) x = a ++ t.set (7 - i) x := by
    intro i x t ht hi
    rw [List.length_append, ht, List.set_append, if_neg (by omega)]
    congr 2
    omega
  simp only [padSet]
  rw [key 0 _ _ (by simp) (by omega), key 1 _ _ (by simp) (by omega), key 2 _ _ (by simp) (by omega), key 3 _ _ (by simp) (by omega), key 4 _ _ (by simp) (by omega), key 5 _ _ (by simp) (by omega), key 6 _ _ (by simp) (by omega), key 7 _ _ (by simp) (by omega)]
  rfl
theorem rep_zero (m : Nat) : rep [AV.int .u8 0] m = ofBytes (List.replicate m 0) := by
  induction m with
  | zero => rfl
  | succ m ih => rw [rep, ih]; rfl
theorem go_pad {n : Nat} (h1 : n ≤ 1000000000000) : S E F.sha_Pad [.int .i64 n] [] = some (.buf (.r 0) 0 0 (padF n).length 1, [(.r 0, ⟨0, true, true, false, ofBytes (padF n)⟩)]) := by
  have hm3 : (1 + (119 - (n : Int) % 64) % 64 + 8).toNat = (119 - n % 64) % 64 + 9 := by omega
  have hlt : (119 - n % 64) % 64 < 64 := by omega
  have hr : List.replicate ((119 - n % 64) % 64 + 9) (0 : UInt8) = 0 :: (List.replicate ((119 - n % 64) % 64) 0 ++ List.replicate 8 0) := by
    rw [List.replicate_append_replicate]; rfl
  have hn0 : ¬ (n : Int) < 0 := by omega
  generalize hz : (119 - n % 64) % 64 = z at *
  have hl := pad_l0 h1 [.c L.sha_Pad.r0] 8 0 (128 :: (List.replicate z 0 ++ List.replicate 8 0)) (by omega) (by simp) (by simp; omega)
  have hp : padSet n 8 0 (128 :: (List.replicate z 0 ++ List.replicate 8 0)) = padF n := by
    have := padSet_pad n z (128 :: List.replicate z 0)
    rw [List.cons_append] at this
    rw [this, padF, hz]; rfl
  rw [hp] at hl
  have hlen : (padF n).length = z + 9 := by rw [padF, hz]; simp [be8]
  simp only [Int.cast_ofNat_Int] at hl
  rw [S_of fn_sha_Pad rfl rfl]
  simp (dsimp := false) (disch := first | omega | (simp only [LENs] <;> omega) | fail) only [L.sha_Pad, go_sem, reduceIte, reduceCtorEq, qn0, qn1, qn2, qn3, qn4, qn5, qn6, qn7, qn8, qi0, qi1, qi2, qi3, qi4, qi5, qi6, qi7, qi8, qi9, qi10, sub_take, take_len, sub_drop, BYs, hn0, hm3, rep_zero, hr, List.set_cons_zero, Int.toNat_zero, UInt8.reduceOfNat]
  have hb : (128 :: (List.replicate z 0 ++ List.replicate 8 (0 : UInt8))).length = z + 9 := by simp
  rw [hb] at hl
  rw [hl]
  simp (dsimp := false) (disch := first | omega | (simp only [LENs] <;> omega) | fail) only [L.sha_Pad.r0, go_sem, reduceIte, reduceCtorEq, qn0, qn1, qn2, qn3, qn4, qn5, qn6, qn7, qn8, qi0, qi1, qi2, qi3, qi4, qi5, qi6, qi7, qi8, qi9, qi10, sub_take, take_len, sub_drop, BYs, hlen]
theorem sum_l0 {p : List UInt8} (k : List It) : ∀ (m : Nat) (r : List UInt8) (n : Nat) (h : List (BitVec 32)), n = r.length → n / 64 = m → n ≤ 1000000000000 → h.length = 8 →
    X E [.cell 2 (some 32)] (.c L.sha_Sum.x0 :: .lp [0, 2, 3, 4] L.sha_Sum.x0 :: .blk 0 :: k) ⟨[(0, .lst (ofBytes p) p.length), (2, .ref (.s 1000000 0) 0 0), (3, .ref (.s 1000000 1) 0 0), (4, .lst (ofBytes r) n)], [(.s 1000000 0, ⟨0, true, true, true, ofBytes (List.replicate 32 0)⟩), (.s 1000000 1, ⟨0, true, true, true, words h⟩)]⟩ =
    X E [.cell 2 (some 32)] k ⟨[(0, .lst (ofBytes p) p.length), (2, .ref (.s 1000000 0) 0 0), (3, .ref (.s 1000000 1) 0 0), (4, .lst (ofBytes (r.drop (64 * m))) (n - 64 * m)), (13, .bool false)], [(.s 1000000 0, ⟨0, true, true, true, ofBytes (List.replicate 32 0)⟩), (.s 1000000 1, ⟨0, true, true, true, words (blocksN m h r)⟩)]⟩ := by
  intro m
  induction m with
  | zero =>
    intro r n h h1 h2 h3 h4
    rw [X_in L.sha_Sum.x0.eq_1]
    simp (dsimp := false) (disch := first | omega | (simp only [LENs] <;> omega) | fail) only [go_sem, reduceIte, reduceCtorEq, qn0, qn1, qn2, qn3, qn4, qn5, qn6, qn7, qn8, qi0, qi1, qi2, qi3, qi4, qi5, qi6, qi7, qi8, qi9, qi10, sub_take, take_len, sub_drop, BYs, WDs, blocksN, List.drop_zero, Nat.sub_zero, Nat.mul_zero]
  | succ m ih =>
    intro r n h h1 h2 h3 h4
    have hb : (r.take 64).length = 64 := by rw [List.length_take]; omega
    have hbl := blockF_length h (r.take 64)
    rw [X_in L.sha_Sum.x0.eq_1]
    simp (dsimp := false) (disch := first | omega | (simp only [LENs] <;> omega) | fail) only [go_sem, reduceIte, reduceCtorEq, qn0, qn1, qn2, qn3, qn4, qn5, qn6, qn7, qn8, qi0, qi1, qi2, qi3, qi4, qi5, qi6, qi7, qi8, qi9, qi10, sub_take, take_len, sub_drop, BYs, WDs, blocksN, go_block h4 hb]
    have := ih (r.drop 64) (n - 64) (blockF h (r.take 64)) (by simp [h1]) (by omega) (by omega) (blockF_length _ _)
    rw [List.drop_drop, show 64 + 64 * m = 64 * (m + 1) by omega, show n - 64 - 64 * m = n - 64 * (m + 1) by omega] at this
    exact this
theorem sum_l1 {full : List UInt8} (hf : full.length ≤ 1000000000100) (k : List It) : ∀ (m off n : Nat) (h : List (BitVec 32)), off + n = full.length → n / 64 = m → h.length = 8 →
    X E [.cell 2 (some 32)] (.c L.sha_Sum.x1 :: .lp [2, 3, 4] L.sha_Sum.x1 :: .blk 2 :: k) ⟨[(2, .ref (.s 1000000 0) 0 0), (3, .ref (.s 1000000 1) 0 0), (4, .buf (.s 1000000 2) 0 off n 1)], [(.s 1000000 0, ⟨0, true, true, true, ofBytes (List.replicate 32 0)⟩), (.s 1000000 1, ⟨0, true, true, true, words h⟩), (.s 1000000 2, ⟨0, true, true, false, ofBytes full⟩)]⟩ =
    X E [.cell 2 (some 32)] k ⟨[(2, .ref (.s 1000000 0) 0 0), (3, .ref (.s 1000000 1) 0 0), (4, .buf (.s 1000000 2) 0 (off + 64 * m) (n - 64 * m) 1), (29, .bool false)], [(.s 1000000 0, ⟨0, true, true, true, ofBytes (List.replicate 32 0)⟩), (.s 1000000 1, ⟨0, true, true, true, words (blocksN m h (full.drop off))⟩), (.s 1000000 2, ⟨0, true, true, false, ofBytes full⟩)]⟩ := by
  intro m
  induction m with
  | zero =>
    intro off n h h1 h2 h4
    rw [X_in L.sha_Sum.x1.eq_1]
    simp (dsimp := false) (disch := first | omega | (simp only [LENs] <;> omega) | fail) only [go_sem, reduceIte, reduceCtorEq, qn0, qn1, qn2, qn3, qn4, qn5, qn6, qn7, qn8, qi0, qi1, qi2, qi3, qi4, qi5, qi6, qi7, qi8, qi9, qi10, sub_take, take_len, sub_drop, BYs, WDs, blocksN, List.drop_zero, Nat.sub_zero, Nat.mul_zero]
  | succ m ih =>
    intro off n h h1 h2 h4
    have hb : ((full.drop off).take 64).length = 64 := by rw [List.length_take, List.length_drop]; omega
    have hbl := blockF_length h ((full.drop off).take 64)
    have hs : sub full off 64 = (full.drop off).take 64 := rfl
    rw [X_in L.sha_Sum.x1.eq_1]
    simp (dsimp := false) (disch := first | omega | (simp only [LENs] <;> omega) | fail) only [go_sem, reduceIte, reduceCtorEq, qn0, qn1, qn2, qn3, qn4, qn5, qn6, qn7, qn8, qi0, qi1, qi2, qi3, qi4, qi5, qi6, qi7, qi8, qi9, qi10, sub_take, take_len, sub_drop, BYs, WDs, blocksN, hs, go_block h4 hb]
    have := ih (off + 64) (n - 64) (blockF h ((full.drop off).take 64)) (by omega) (by omega) (blockF_length _ _)
    rw [show off + 64 + 64 * m = off + 64 * (m + 1) by omega, show n - 64 - 64 * m = n - 64 * (m + 1) by omega, ← List.drop_drop] at this
    exact this
def idSet1 (x : BitVec 32) (i : Nat) : Nat → Nat → List UInt8 → List UInt8
  | 0, _, l => l
  | m + 1, j, l => idSet1 x i m (j + 1) (l.set (4 * i + j) (wb (x >>> (24 - 8 * j))))
def idSet (h : List (BitVec 32)) : Nat → Nat → List UInt8 → List UInt8
  | 0, _, l => l
  | m + 1, i, l => idSet h m (i + 1) (idSet1 (h.getD i 0) i 4 0 l)
theorem idSet1_length (x : BitVec 32) (i : Nat) : ∀ m j l, (idSet1 x i m j l).length = l.length := by
  intro m
  induction m with
  | zero => intro j l; rfl
  | succ m ih => intro j l; simp [idSet1, ih]
theorem sum_l3 {h : List (BitVec 32)} {x : BitVec 32} {i : Nat} (hi : i < 8) (k : List It) : ∀ (m j : Nat) (l : List UInt8), j + m = 4 → l.length = 32 →
    X E [.cell 2 (some 32)] (.c L.sha_Sum.x3 :: .lp [2, 5, 6, 7, 37, 38, 42] L.sha_Sum.x3 :: .blk 6 :: k) ⟨[(2, .ref (.s 1000000 0) 0 0), (5, .ref (.s 1000000 1) 0 0), (6, .int .i64 i), (7, W x), (37, .agg (words h)), (38, .int .i64 i), (42, .int .i64 j)], [(.s 1000000 0, ⟨0, true, true, true, ofBytes (List.replicate 32 0)⟩), (.s 1000000 1, ⟨0, true, true, true, ofBytes l⟩)]⟩ =
    X E [.cell 2 (some 32)] k ⟨[(2, .ref (.s 1000000 0) 0 0), (5, .ref (.s 1000000 1) 0 0), (6, .int .i64 i), (7, W x), (37, .agg (words h)), (38, .int .i64 i), (42, .int .i64 4), (43, .bool false)], [(.s 1000000 0, ⟨0, true, true, true, ofBytes (List.replicate 32 0)⟩), (.s 1000000 1, ⟨0, true, true, true, ofBytes (idSet1 x i m j l)⟩)]⟩ := by
  intro m
  induction m with
  | zero =>
    intro j l h1 h2
    obtain rfl : j = 4 := by omega
    rw [X_in L.sha_Sum.x3.eq_1]
    simp (dsimp := false) (disch := first | omega | (simp only [LENs] <;> omega) | fail) only [go_sem, reduceIte, reduceCtorEq, qn0, qn1, qn2, qn3, qn4, qn5, qn6, qn7, qn8, qi0, qi1, qi2, qi3, qi4, qi5, qi6, qi7, qi8, qi9, qi10, sub_take, take_len, sub_drop, BYs, WDs, idSet1, Int.cast_ofNat_Int]
  | succ m ih =>
    intro j l h1 h2
    have e0 : (4 * (i : Int) + j).toNat = 4 * i + j := by omega
    have e1 : (24 - 8 * (j : Int)).toNat = 24 - 8 * j := by omega
    have hw := (wb (x >>> (24 - 8 * j))).toNat_lt
    have e2 : UInt8.ofNat (wb (x >>> (24 - 8 * j))).toNat = wb (x >>> (24 - 8 * j)) := UInt8.ofNat_toNat
    rw [X_in L.sha_Sum.x3.eq_1]
    simp (dsimp := false) (disch := first | omega | (simp only [LENs] <;> omega) | fail) only [go_sem, reduceIte, reduceCtorEq, qn0, qn1, qn2, qn3, qn4, qn5, qn6, qn7, qn8, qi0, qi1, qi2, qi3, qi4, qi5, qi6, qi7, qi8, qi9, qi10, sub_take, take_len, sub_drop, BYs, WDs, idSet1, e0, e1, e2]
    have := ih (j + 1) (l.set (4 * i + j) (wb (x >>> (24 - 8 * j)))) (by omega) (by simpa using h2)
    simp only [Int.natCast_add, Int.cast_ofNat_Int] at this
    exact this
theorem sum_l2 {h : List (BitVec 32)} (hh : h.length = 8) (k : List It) : ∀ (m i : Nat) (l : List UInt8), i + m = 8 → l.length = 32 →
    X E [.cell 2 (some 32)] (.c L.sha_Sum.x2 :: .lp [2, 5, 37, 38] L.sha_Sum.x2 :: .blk 4 :: k) ⟨[(2, .ref (.s 1000000 0) 0 0), (5, .ref (.s 1000000 1) 0 0), (37, .agg (words h)), (38, .int .i64 i)], [(.s 1000000 0, ⟨0, true, true, true, ofBytes (List.replicate 32 0)⟩), (.s 1000000 1, ⟨0, true, true, true, ofBytes l⟩)]⟩ =
    X E [.cell 2 (some 32)] k ⟨[(2, .ref (.s 1000000 0) 0 0), (5, .ref (.s 1000000 1) 0 0), (37, .agg (words h)), (38, .int .i64 8), (39, .bool false)], [(.s 1000000 0, ⟨0, true, true, true, ofBytes (List.replicate 32 0)⟩), (.s 1000000 1, ⟨0, true, true, true, ofBytes (idSet h m i l)⟩)]⟩ := by
  intro m
  induction m with
  | zero =>
    intro i l h1 h2
    obtain rfl : i = 8 := by omega
    rw [X_in L.sha_Sum.x2.eq_1]
    simp (dsimp := false) (disch := first | omega | (simp only [LENs] <;> omega) | fail) only [go_sem, reduceIte, reduceCtorEq, qn0, qn1, qn2, qn3, qn4, qn5, qn6, qn7, qn8, qi0, qi1, qi2, qi3, qi4, qi5, qi6, qi7, qi8, qi9, qi10, sub_take, take_len, sub_drop, BYs, WDs, idSet, Int.cast_ofNat_Int]
  | succ m ih =>
    intro i l h1 h2
    rw [X_in L.sha_Sum.x2.eq_1]
    simp (dsimp := false) (disch := first | omega | (simp only [LENs] <;> omega) | fail) only [go_sem, reduceIte, reduceCtorEq, qn0, qn1, qn2, qn3, qn4, qn5, qn6, qn7, qn8, qi0, qi1, qi2, qi3, qi4, qi5, qi6, qi7, qi8, qi9, qi10, sub_take, take_len, sub_drop, BYs, WDs, idSet]
    have h3 := sum_l3 (h := h) (x := h.getD i 0) (i := i) (by omega) (.blk 5 :: .c L.sha_Sum.r2 :: .lp [2, 5, 37, 38] L.sha_Sum.x2 :: .blk 4 :: k) 4 0 l (by omega) h2
    simp only [Int.cast_ofNat_Int] at h3
    rw [h3]
    simp (dsimp := false) (disch := first | omega | (simp only [LENs] <;> omega) | fail) only [L.sha_Sum.r2, go_sem, reduceIte, reduceCtorEq, qn0, qn1, qn2, qn3, qn4, qn5, qn6, qn7, qn8, qi0, qi1, qi2, qi3, qi4, qi5, qi6, qi7, qi8, qi9, qi10, sub_take, take_len, sub_drop, BYs, WDs]
    have := ih (i + 1) (idSet1 (h.getD i 0) i 4 0 l) (by omega) (by rw [idSet1_length]; exact h2)
    simp only [Int.natCast_add, Int.cast_ofNat_Int] at this
    exact this
theorem idSet_id {h : List (BitVec 32)} (hh : h.length = 8) : idSet h 8 0 (List.replicate 32 0) = idOf h := by
  match h, hh with
  | [a, b, c, d, e, f, g, i], _ =>
    show idSet [a, b, c, d, e, f, g, i] 8 0 (List.replicate 32 0) = idOf [a, b, c, d, e, f, g, i]
    kernel_rfl
theorem fill_h0 {sl loc : List (Nat × AV)} : fillO (evR E sl loc) [(0, 1, .k (.int .u32 1779033703)), (1, 1, .k (.int .u32 3144134277)), (2, 1, .k (.int .u32 1013904242)), (3, 1, .k (.int .u32 2773480762)), (4, 1, .k (.int .u32 1359893119)), (5, 1, .k (.int .u32 2600822924)), (6, 1, .k (.int .u32 528734635)), (7, 1, .k (.int .u32 1541459225))] (some (words (List.replicate 8 0))) = some (words h0w) := by kernel_rfl
theorem go_sum {p : List UInt8} (hp : p.length ≤ 1000000000000) : S E F.sha_Sum [.lst (ofBytes p) p.length] [] = some (.agg (ofBytes (shaF p)), []) := by
  have hh0 : h0w.length = 8 := rfl
  have hbl := blocksN_length (p.length / 64) h0w p hh0
  have hpl : (padF p.length).length ≤ 100 := by rw [padF]; simp [be8]; omega
  rw [S_of fn_sha_Sum rfl rfl]
  simp (dsimp := false) (disch := first | omega | (simp only [LENs] <;> omega) | fail) only [↓fill_h0, L.sha_Sum, go_sem, reduceIte, reduceCtorEq, qn0, qn1, qn2, qn3, qn4, qn5, qn6, qn7, qn8, qi0, qi1, qi2, qi3, qi4, qi5, qi6, qi7, qi8, qi9, qi10, sub_take, take_len, sub_drop, WDs, BYs]
  rw [sum_l0 (p := p) [.c L.sha_Sum.r0] (p.length / 64) p p.length h0w rfl rfl hp hh0]
  simp (dsimp := false) (disch := first | omega | (simp only [LENs] <;> omega) | fail) only [L.sha_Sum.r0, go_sem, reduceIte, reduceCtorEq, qn0, qn1, qn2, qn3, qn4, qn5, qn6, qn7, qn8, qi0, qi1, qi2, qi3, qi4, qi5, qi6, qi7, qi8, qi9, qi10, sub_take, take_len, sub_drop, WDs, BYs, S_clone, go_pad hp]
  generalize hfull : p.drop (64 * (p.length / 64)) ++ padF p.length = full
  have hfl : full.length = p.length - 64 * (p.length / 64) + (padF p.length).length := by rw [← hfull]; simp
  have := sum_l1 (full := full) (by omega) [.c L.sha_Sum.r1] (full.length / 64) 0 full.length (blocksN (p.length / 64) h0w p) (by omega) rfl hbl
  simp only [Nat.zero_add, List.drop_zero] at this
  rw [← hfl, this]
  clear this
  have hbl2 := blocksN_length (full.length / 64) (blocksN (p.length / 64) h0w p) full hbl
  simp (dsimp := false) (disch := first | omega | (simp only [LENs] <;> omega) | fail) only [L.sha_Sum.r1, go_sem, reduceIte, reduceCtorEq, qn0, qn1, qn2, qn3, qn4, qn5, qn6, qn7, qn8, qi0, qi1, qi2, qi3, qi4, qi5, qi6, qi7, qi8, qi9, qi10, sub_take, take_len, sub_drop, WDs, BYs]
  have := sum_l2 hbl2 [.c L.sha_Sum.r3] 8 0 (List.replicate 32 0) (by omega) (by simp)
  simp only [Int.cast_ofNat_Int] at this
  rw [this, idSet_id hbl2]
  clear this
  have hid : (idOf (blocksN (full.length / 64) (blocksN (p.length / 64) h0w p) full)).length = 32 := by simp [idOf]
  have hsha : shaF p = idOf (blocksN (full.length / 64) (blocksN (p.length / 64) h0w p) full) := by
    rw [shaF, show p.length / 64 * 64 = 64 * (p.length / 64) by omega, hfull]
  rw [hsha]
  simp (dsimp := false) (disch := first | omega | (simp only [LENs] <;> omega) | fail) only [L.sha_Sum.r3, go_sem, reduceIte, reduceCtorEq, qn0, qn1, qn2, qn3, qn4, qn5, qn6, qn7, qn8, qi0, qi1, qi2, qi3, qi4, qi5, qi6, qi7, qi8, qi9, qi10, sub_take, take_len, sub_drop, WDs, BYs]
end Cod

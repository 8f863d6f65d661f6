/- What the equations of functions share: rules that omega's facts decide, bytes. -/
import Derived.Lib.ItoaNum
import Derived.Lib.AtoiAll
import Derived.Lib.LastIndexLaws
import Derived.Lib.IndexMore
import Derived.KernelRfl
import Derived.Test.YtmijmageicjfnaaDoorXLit3
import Derived.Test.YtmijmageicjfnaaDoorXCod6
set_option linter.unusedSimpArgs false
set_option linter.unusedVariables false
namespace Cod
open Go

theorem X_in {E : Env} {fn : List LRes} {k : List It} {st : St} {x y : LCode} (h : x = y) : X E fn (.c x :: k) st = X E fn (.c y :: k) st := by rw [h]
theorem norm_eq {live : List Nat} {sl : List (Nat × AV)} {σ : Store} : norm live ⟨sl, σ⟩ =
    LetA (collect σ 64 (ups σ ++ live.flatMap fun t => refsOf (getL sl t)) []) (fun acc => ⟨live.map fun t => (t, ren (newName (Site.s 1000000) 0 acc) (getL sl t)), renEnts σ (newName (Site.s 1000000) 0 acc) acc⟩) ⟨⟩ := rfl
def resC (σ : Store) (n : Option Nat) : AV → Option AV
  | .ref s g off => ((look s g).run σ).bind fun e => (match n with | none => e.cells[off]? | some n => if off + n ≤ e.cells.length then some (.agg (sub e.cells off n)) else none)
  | _ => none
theorem resOf_cell {sl : List (Nat × AV)} {σ : Store} {t : Nat} {n : Option Nat} : resOf ⟨sl, σ⟩ (.cell t n) = resC σ n (getL sl t) := by
  cases n <;> (unfold resOf resC; rfl)
theorem resC_0 {σ : Store} {s : Site} {g off : Nat} : resC σ none (.ref s g off) = someL ((look s g).run σ) (fun e => e.cells[off]?) ⟨⟩ := rfl
theorem resC_N {σ : Store} {s : Site} {g off n : Nat} : resC σ (some n) (.ref s g off) = someL ((look s g).run σ) (fun e => if off + n ≤ e.cells.length then some (.agg (sub e.cells off n)) else none) ⟨⟩ := rfl
theorem ifp {α : Type} {c : Prop} [Decidable c] {x y : Acc α} (h : c) : (if c then x else y) = x := if_pos h
theorem ifO {α : Type} {c : Prop} [Decidable c] {x y : Option α} (h : c) : (if c then x else y) = x := if_pos h
theorem ifnO {α : Type} {c : Prop} [Decidable c] {x y : Option α} (h : ¬ c) : (if c then x else y) = y := if_neg h
theorem tmod_pos {a b : Int} (h : 0 ≤ a) : a.tmod b = a % b := Int.tmod_eq_emod_of_nonneg h
theorem tdiv_pos {a b : Int} (h : 0 ≤ a) : a.tdiv b = a / b := Int.tdiv_eq_ediv_of_nonneg h
theorem wrap_i64 {x : Int} (h1 : -9223372036854775808 ≤ x) (h2 : x ≤ 9223372036854775807) : IntKind.i64.wrap x = x := by
  simp only [IntKind.wrap, IntKind.signed, IntKind.bits]
  simp
  omega
theorem wrap_u64 {x : Int} (h1 : 0 ≤ x) (h2 : x ≤ 18446744073709551615) : IntKind.u64.wrap x = x := by
  simp only [IntKind.wrap, IntKind.signed, IntKind.bits]
  simp
  omega
theorem wrap_u32 {x : Int} (h1 : 0 ≤ x) (h2 : x ≤ 4294967295) : IntKind.u32.wrap x = x := by
  simp only [IntKind.wrap, IntKind.signed, IntKind.bits]
  simp
  omega
theorem wrap_u8 {x : Int} : IntKind.u8.wrap x = x % 256 := by
  simp only [IntKind.wrap, IntKind.signed, IntKind.bits]
  simp
theorem toNat_cast {n : Nat} : ((n : Int)).toNat = n := Int.toNat_natCast n

theorem beq_t {a b : Int} (h : a = b) : (a == b) = true := by simp [h]
theorem beq_f {a b : Int} (h : a ≠ b) : (a == b) = false := by simp [h]
theorem bne_t {a b : Int} (h : a ≠ b) : (a != b) = true := by simp [h]
theorem bne_f {a b : Int} (h : a = b) : (a != b) = false := by simp [h]
theorem dec_t {p : Prop} [Decidable p] (h : p) : decide p = true := by simp [h]
theorem dec_f {p : Prop} [Decidable p] (h : ¬ p) : decide p = false := by simp [h]

theorem site_beq (a b : Site) : (a == b) = decide (a = b) := by by_cases h : a = b <;> simp [h]
theorem pair_beq (a c : Site) (b d : Nat) : (((a, b) : Site × Nat) == (c, d)) = (decide (a = c) && (b == d)) := by
  show ((a == c) && (b == d)) = _
  rw [site_beq]
theorem lcat_eq (a b : List AV) : lcat a b = a ++ b := rfl
theorem over_0nil {cs : List AV} : over cs 0 [] = cs := by simp [over]
theorem over_0cons {c x : AV} {cs xs : List AV} : over (c :: cs) 0 (x :: xs) = x :: over cs 0 xs := by simp [over]
theorem over_S {c : AV} {cs xs : List AV} {n : Nat} : over (c :: cs) (n + 1) xs = c :: over cs n xs := by simp [over]; rw [show n + 1 + xs.length = n + xs.length + 1 by omega, List.drop_succ_cons]
/-- Texts. -/
def strs (l : List (List UInt8)) : List AV := l.map .str
theorem strs_length (l : List (List UInt8)) : (strs l).length = l.length := by simp [strs]
/-! ### bytes -/
theorem ofBytes_cons (b : UInt8) (l : List UInt8) : ofBytes (b :: l) = .int .u8 b.toNat :: ofBytes l := rfl
theorem flats_ofBytes (l : List UInt8) : flats (ofBytes l) = true := by
  induction l with
  | nil => rfl
  | cons b l ih => simp [ofBytes_cons, flats, flat, ih]
theorem hards_ofBytes (l : List UInt8) : hards (ofBytes l) = true := by
  induction l with
  | nil => rfl
  | cons b l ih => simp [ofBytes_cons, hards, hard, ih]
theorem leadss_ofBytes (l : List UInt8) : leadss (ofBytes l) = false := by
  induction l with
  | nil => rfl
  | cons b l ih => simp [ofBytes_cons, leadss, leads, ih]
theorem refsOfs_ofBytes (l : List UInt8) : refsOfs (ofBytes l) = [] := by
  induction l with
  | nil => rfl
  | cons b l ih => simp [ofBytes_cons, refsOfs, refsOf, ih]
theorem sub_drop {α : Type} {l : List α} {a n : Nat} (h : l.length ≤ a + n) : sub l a n = l.drop a := by
  unfold sub; exact List.take_of_length_le (by rw [List.length_drop]; omega)
theorem take_len {α : Type} {l : List α} {n : Nat} (h : l.length ≤ n) : l.take n = l := List.take_of_length_le h
theorem sub_full {α : Type} {l : List α} {n : Nat} (h : l.length ≤ n) : sub l 0 n = l := List.take_of_length_le h
theorem sub_take {α : Type} {l : List α} {n : Nat} : sub l 0 n = l.take n := rfl
/-- A byte as a number. -/
def bat (l : List UInt8) (i : Nat) : Int := ((l.getD i 0).toNat : Int)
theorem bat_range (l : List UInt8) (i : Nat) : 0 ≤ bat l i ∧ bat l i < 256 := by
  unfold bat
  have := (l.getD i 0).toNat_lt
  omega
/-- A number as a byte. -/
def byt (n : Int) : UInt8 := UInt8.ofNat n.toNat
theorem byteV_get {t : List UInt8} {i : Nat} (h : i < t.length) : byteV t[i]? = .ret (.int .u8 (bat t i), []) := by
  rw [List.getElem?_eq_getElem h, byteV_some]
  simp [bat, h]
theorem int_byt {n : Int} (h0 : 0 ≤ n) (h1 : n < 256) : AV.int .u8 n = .int .u8 ((byt n).toNat : Int) := by
  unfold byt
  have : (UInt8.ofNat n.toNat).toNat = n.toNat := by simp; omega
  rw [this]; congr 1; omega
attribute [go_sem] X_lp norm_eq resOf_cell resC_0 resC_N Bool.cond_true Bool.cond_false Option.isNone_some Option.isNone_none List.take_succ_cons List.take_zero List.drop_succ_cons over_0nil over_0cons over_S byteV_get maxCells lcat_eq site_beq pair_beq ifp ifO ifnO
  tmod_pos tdiv_pos wrap_i64 wrap_u64 wrap_u32 wrap_u8 toNat_cast Nat.mul_one Nat.one_mul Nat.zero_mul Nat.mul_zero List.drop_zero sub_full beq_t beq_f bne_t bne_f dec_t dec_f
end Cod

/- What the run knows: the program's functions, some of the library's by what they do, the variables. -/
namespace Cod
open Go

/-! ### names -/
def lower (b : UInt8) : UInt8 := if 65 ≤ b ∧ b ≤ 90 then b + 32 else b
def isGit : List UInt8 → Bool
  | [a, b, c, d] => a == 46 && lower b == 103 && lower c == 105 && lower d == 116
  | _ => false
def nameOK (s : List UInt8) : Bool := decide (1 ≤ s.length) && decide (s.length ≤ 100) && !s.contains 47 && !s.contains 0 && s != [46] && s != [46, 46] && !isGit s
/-- A text cut at each '/'. -/
def parts : List UInt8 → List (List UInt8)
  | [] => [[]]
  | c :: t => if c = 47 then [] :: parts t else match parts t with | p :: r => (c :: p) :: r | [] => [[c]]
def pathOK (s : List UInt8) : Bool := decide (s.length ≤ 200) && (parts s).all nameOK

/-! ### of the library -/
def indexB (l : List UInt8) (c : UInt8) : Int := if c ∈ l then (l.idxOf c : Int) else -1
def cmpB (a b : List UInt8) : Int := if a = b then 0 else if Op.bytesLess a b then -1 else 1
def kIndexS : List AV → Option AV
  | [.str l, .int .u8 c] => some (.int .i64 (indexB l (byt c)))
  | _ => none
def kPath : List AV → Option AV
  | [.str s] => some (.bool (pathOK s))
  | _ => none

def kItoa : List AV → Option AV
  | [.int .i64 n] => if -9223372036854775808 ≤ n ∧ n ≤ 9223372036854775807 then some (.str (Lib.itoa n)) else none
  | _ => none
/-- What strconv.Atoi answers: a number, or an error of which nothing more is said. -/
def atoiV (s : List UInt8) : AV := match Lib.atoiAll s with
  | .ok v => .tup [.int .i64 v, .nili]
  | .range => .tup [.int .i64 (Lib.atoiSat s), .ifc 75 .junk]
  | _ => .tup [.int .i64 0, .ifc 75 .junk]
def kAtoi : List AV → Option AV
  | [.str s] => if s.length ≤ 281474976710656 then some (atoiV s) else none
  | _ => none
def kLast : List AV → Option AV
  | [.str s, .str t] => if s.length < 4611686018427387904 then some (.int .i64 (Lib.lastIndex s t)) else none
  | _ => none
/-- What follows a letter when case is folded. -/
def foldTab : List Int := [
  0, 1, 2, 3, 4, 5, 6, 7, 8, 9, 10, 11, 12, 13, 14, 15,
  16, 17, 18, 19, 20, 21, 22, 23, 24, 25, 26, 27, 28, 29, 30, 31,
  32, 33, 34, 35, 36, 37, 38, 39, 40, 41, 42, 43, 44, 45, 46, 47,
  48, 49, 50, 51, 52, 53, 54, 55, 56, 57, 58, 59, 60, 61, 62, 63,
  64, 97, 98, 99, 100, 101, 102, 103, 104, 105, 106, 107, 108, 109, 110, 111,
  112, 113, 114, 115, 116, 117, 118, 119, 120, 121, 122, 91, 92, 93, 94, 95,
  96, 65, 66, 67, 68, 69, 70, 71, 72, 73, 74, 8490, 76, 77, 78, 79,
  80, 81, 82, 383, 84, 85, 86, 87, 88, 89, 90, 123, 124, 125, 126, 127]
/-- A word of 32 bits. -/
def W (x : BitVec 32) : AV := .int .u32 (x.toNat : Int)
def words (l : List (BitVec 32)) : List AV := l.map W

/-- A function that makes no memory. -/
def pureK (g : List AV → Option AV) (args : List AV) (σ : Store) : Option (AV × Store) := if σ.isEmpty then (g args).map fun v => (v, []) else none
/-- A text cut at each '/', in memory of its own. -/
def kSplit (args : List AV) (σ : Store) : Option (AV × Store) := match args, σ with
  | [.str s, .str [47]], [] => if s.length < 4294967281 then some (.buf (.r 0) 0 0 (parts s).length 1, [(.r 0, ⟨0, true, true, false, strs (parts s)⟩)]) else none
  | _, _ => none
def kContains : List AV → Option AV
  | [.str s, .str t] => if s.length < 4294967281 then some (.bool (Lib.contains s t)) else none
  | _ => none
theorem words_length (l : List (BitVec 32)) : (words l).length = l.length := by simp [words]

/-- What is known of functions that others don't lean on. -/
def knownB : List (Nat × (List AV → Store → Option (AV × Store))) := (F.strings_Contains, pureK kContains) :: (F.strings_Split, kSplit) :: (F.strconv_Itoa, pureK kItoa) :: (F.strconv_Atoi, pureK kAtoi) :: (F.strings_LastIndex, pureK kLast) :: (F.bytealg_IndexByteString, pureK kIndexS) :: []
def knownTab0 : List (Nat × (List AV → Store → Option (AV × Store))) := knownB
def knownTab : List (Nat × (List AV → Store → Option (AV × Store))) := (F.names_Path, pureK kPath) :: knownTab0
def knownOf0 (f : Nat) : Option (List AV → Store → Option (AV × Store)) := knownTab0.lookup f
def knownOf (f : Nat) : Option (List AV → Store → Option (AV × Store)) := knownTab.lookup f
def globTab : List (Nat × List AV) := (G.unicode_asciiFold, foldTab.map fun z => .int .u16 z) :: (G.strconv_uint64pow10, Lib.pow10Tab.map fun z => .int .u64 z) :: (G.strconv_ErrSyntax, [.any none]) :: (G.strconv_ErrRange, [.any none]) :: (G.bytealg_MaxLen, [.any (some .i64)]) :: []
def globOf (n : Nat) : List AV := match globTab.lookup n with | some l => l | none => []
def E : Env := ⟨fnOf, knownOf, globOf⟩
/-- The same without names.Path. -/
def E0 : Env := ⟨fnOf, knownOf0, globOf⟩
theorem S_of {f : Nat} {l : LFn} (hf : fnOf f = some l) (hk : knownOf f = none) {args : List AV} {σ : Store} (hn : args.length = l.np) : S E f args σ = X E l.results [.c l.code] ⟨params 0 args, σ⟩ := S_fn hk hf hn
theorem S_known {f : Nat} {h : List AV → Store → Option (AV × Store)} (hk : knownOf f = some h) {args : List AV} {σ : Store} : S E f args σ = h args σ := by
  rw [S_eq, show E.known f = some h from hk]

theorem S_itoa {n : Int} (h : -9223372036854775808 ≤ n ∧ n ≤ 9223372036854775807) : S E F.strconv_Itoa [.int .i64 n] [] = some (.str (Lib.itoa n), []) := by
  rw [S_known (h := pureK kItoa) rfl]; simp only [pureK, kItoa, if_pos h]; rfl
theorem S_atoi {s : List UInt8} (h : s.length ≤ 281474976710656) : S E F.strconv_Atoi [.str s] [] = some (atoiV s, []) := by
  rw [S_known (h := pureK kAtoi) rfl]; simp only [pureK, kAtoi, if_pos h]; rfl
theorem S_last {s t : List UInt8} (h : s.length < 4611686018427387904) : S E F.strings_LastIndex [.str s, .str t] [] = some (.int .i64 (Lib.lastIndex s t), []) := by
  rw [S_known (h := pureK kLast) rfl]; simp only [pureK, kLast, if_pos h]; rfl
theorem S_contains {s t : List UInt8} (h : s.length < 4294967281) : S E F.strings_Contains [.str s, .str t] [] = some (.bool (Lib.contains s t), []) := by
  rw [S_known (h := pureK kContains) rfl]; simp only [pureK, kContains, if_pos h]; rfl
theorem S_split {s : List UInt8} (h : s.length < 4294967281) : S E F.strings_Split [.str s, .str [47]] [] = some (.buf (.r 0) 0 0 (parts s).length 1, [(.r 0, ⟨0, true, true, false, strs (parts s)⟩)]) := by
  rw [S_known (h := kSplit) rfl]; simp only [kSplit, if_pos h]
theorem S_path {s : List UInt8} : S E F.names_Path [.str s] [] = some (.bool (pathOK s), []) := S_known (h := pureK kPath) rfl
theorem S_of0 {f : Nat} {l : LFn} (hf : fnOf f = some l) (hk : knownOf0 f = none) {args : List AV} {σ : Store} (hn : args.length = l.np) : S E0 f args σ = X E0 l.results [.c l.code] ⟨params 0 args, σ⟩ := S_fn hk hf hn
theorem S_indexS {l : List UInt8} {c : Int} : S E0 F.bytealg_IndexByteString [.str l, .int .u8 c] [] = some (.int .i64 (indexB l (byt c)), []) := by
  rw [S_eq, show E0.known F.bytealg_IndexByteString = some (pureK kIndexS) from rfl]; rfl
end Cod

/- Functions of texts out of the library: as they are used by names. -/
namespace Cod
open Go
set_option maxRecDepth 100000

theorem fold_closed (r v : Int) (h : (r = 46 ∧ v = 46) ∨ (r = 103 ∧ v = 71) ∨ (r = 71 ∧ v = 103) ∨ (r = 105 ∧ v = 73) ∨ (r = 73 ∧ v = 105) ∨ (r = 116 ∧ v = 84) ∨ (r = 84 ∧ v = 116)) : S E0 F.unicode_SimpleFold [.int .i32 r] [] = some (.int .i32 v, []) := by
  rcases h with ⟨rfl, rfl⟩ | ⟨rfl, rfl⟩ | ⟨rfl, rfl⟩ | ⟨rfl, rfl⟩ | ⟨rfl, rfl⟩ | ⟨rfl, rfl⟩ | ⟨rfl, rfl⟩ <;> exact S_iff.2 ⟨60, by kernel_rfl⟩
theorem decode_ascii {b : UInt8} {l : List UInt8} (h : b < 128) : S E0 F.utf8_DecodeRuneInString [.str (b :: l)] [] = some (.tup [.int .i32 b.toNat, .int .i64 1], []) := by
  have hb : b.toNat < 128 := h
  rw [S_of0 fn_utf8_DecodeRuneInString rfl rfl]
  have h1 : ((b :: l : List UInt8) == []) = false := rfl
  have h2 : ((b.toNat : Int) < 128) := by omega
  have h3 : IntKind.i32.wrap (b.toNat : Int) = b.toNat := by
    simp only [IntKind.wrap, IntKind.signed, IntKind.bits]; simp; omega
  simp (dsimp := false) (disch := first | omega | (simp only [strs_length, List.length_set, List.length_replicate, words_length, ofBytes_length, List.length_append, List.length_cons, List.length_nil, List.length_take, List.length_drop] <;> omega) | fail) only [L.utf8_DecodeRuneInString, go_sem, reduceIte, reduceCtorEq, Nat.reduceEqDiff, Nat.reduceAdd, Nat.reduceSub, Nat.reduceMul, Nat.reduceDiv, Nat.reduceMod, Nat.reduceBEq, Nat.reduceLeDiff, Nat.reduceLT, Int.reduceEq, Int.reduceNe, Int.reduceLT, Int.reduceLE, Int.reduceBEq, Int.reduceBNe, Int.reduceToNat, Int.reduceAdd, Int.reduceSub, Int.reduceMul, Int.reduceNeg, h1, h2, h3, bat, List.getD_cons_zero]
/-- What stands behind the label. -/
def EFrest : LCode := match L.strings_EqualFold.r0 with | .seq _ (.seq _ r) => r | _ => .skip
theorem ba_get {l : List UInt8} {i : Nat} (h : i < l.length) : ((⟨l.toArray⟩ : ByteArray).get! i).toNat = (l.getD i 0).toNat := by
  simp [ByteArray.get!, h, List.getD]
theorem dec_high {l : List UInt8} {i : Nat} (h : i < l.length) (hb : 128 ≤ bat l i) : 128 ≤ (decS l i).1 := by
  have hg : ((⟨l.toArray⟩ : ByteArray).get! (i + 0)).toNat = (l.getD i 0).toNat := ba_get h
  unfold bat at hb
  unfold decS Utf8.decode Utf8.runeError
  simp only [hg]
  repeat' split
  all_goals (try simp only [ge_iff_le, Bool.and_eq_true, decide_eq_true_eq] at *)
  all_goals omega
theorem or_high : ∀ t ∈ [46, 103, 105, 116], ∀ n : Nat, n < 256 → (decide ((128 : Int) ≤ ior .u8 n t)) = decide (128 ≤ n) := by decide +kernel
theorem ef_uni {SC : LCode} {s : List UInt8} (hs : s.length = 4) (i : Nat) (hi : i < 4) (hb : 128 ≤ bat s i) (v6 v21 v7 v8 v33 : AV) :
    X E0 [.tmp 4] [.c EFrest, .scp SC] ⟨[(0, .str s), (1, .str [46, 103, 105, 116]), (5, .int .i64 i), (6, v6), (21, v21), (7, v7), (8, v8), (33, v33)], []⟩ = some (.bool false, []) := by
  have hd : 0 < (s.drop i).length := by rw [List.length_drop]; omega
  have hb' : 128 ≤ bat (s.drop i) 0 := by simpa [bat] using hb
  have hr := dec_high hd hb'
  generalize he : decS (s.drop i) 0 = q at hr
  obtain ⟨r, wd⟩ := q
  have : i = 0 ∨ i = 1 ∨ i = 2 ∨ i = 3 := by omega
  have hrz : (128 : Int) ≤ r := by simp only at hr; omega
  have d46 : S E0 F.utf8_DecodeRuneInString [.str [46, 103, 105, 116]] [] = some (.tup [.int .i32 46, .int .i64 1], []) := decode_ascii (by decide)
  have d103 : S E0 F.utf8_DecodeRuneInString [.str [103, 105, 116]] [] = some (.tup [.int .i32 103, .int .i64 1], []) := decode_ascii (by decide)
  have d105 : S E0 F.utf8_DecodeRuneInString [.str [105, 116]] [] = some (.tup [.int .i32 105, .int .i64 1], []) := decode_ascii (by decide)
  have d116 : S E0 F.utf8_DecodeRuneInString [.str [116]] [] = some (.tup [.int .i32 116, .int .i64 1], []) := decode_ascii (by decide)
  have f46 := fold_closed 46 46 (by simp)
  have f103 := fold_closed 103 71 (by simp)
  have f71 := fold_closed 71 103 (by simp)
  have f105 := fold_closed 105 73 (by simp)
  have f73 := fold_closed 73 105 (by simp)
  have f116 := fold_closed 116 84 (by simp)
  have f84 := fold_closed 84 116 (by simp)
  rcases this with rfl | rfl | rfl | rfl
  · simp (dsimp := false) (disch := first | omega | (simp only [strs_length, List.length_set, List.length_replicate, words_length, ofBytes_length, List.length_append, List.length_cons, List.length_nil, List.length_take, List.length_drop] <;> omega) | fail) only [EFrest, L.strings_EqualFold.r0, go_sem, reduceIte, reduceCtorEq, Nat.reduceEqDiff, Nat.reduceAdd, Nat.reduceSub, Nat.reduceMul, Nat.reduceDiv, Nat.reduceMod, Nat.reduceBEq, Nat.reduceLeDiff, Nat.reduceLT, Int.reduceEq, Int.reduceNe, Int.reduceLT, Int.reduceLE, Int.reduceBEq, Int.reduceBNe, Int.reduceToNat, Int.reduceAdd, Int.reduceSub, Int.reduceMul, Int.reduceNeg, sub_take, take_len, sub_drop]
    simp only [List.drop_zero] at hd he
    rw [X_in L.strings_EqualFold.x1.eq_1]
    simp (dsimp := false) (disch := first | omega | (simp only [strs_length, List.length_set, List.length_replicate, words_length, ofBytes_length, List.length_append, List.length_cons, List.length_nil, List.length_take, List.length_drop] <;> omega) | fail) only [go_sem, reduceIte, reduceCtorEq, Nat.reduceEqDiff, Nat.reduceAdd, Nat.reduceSub, Nat.reduceMul, Nat.reduceDiv, Nat.reduceMod, Nat.reduceBEq, Nat.reduceLeDiff, Nat.reduceLT, Int.reduceEq, Int.reduceNe, Int.reduceLT, Int.reduceLE, Int.reduceBEq, Int.reduceBNe, Int.reduceToNat, Int.reduceAdd, Int.reduceSub, Int.reduceMul, Int.reduceNeg, sub_take, take_len, sub_drop, hd, he, d46, f46]
    rw [X_in L.strings_EqualFold.x2.eq_1]
    simp (dsimp := false) (disch := first | omega | (simp only [strs_length, List.length_set, List.length_replicate, words_length, ofBytes_length, List.length_append, List.length_cons, List.length_nil, List.length_take, List.length_drop] <;> omega) | fail) only [go_sem, reduceIte, reduceCtorEq, Nat.reduceEqDiff, Nat.reduceAdd, Nat.reduceSub, Nat.reduceMul, Nat.reduceDiv, Nat.reduceMod, Nat.reduceBEq, Nat.reduceLeDiff, Nat.reduceLT, Int.reduceEq, Int.reduceNe, Int.reduceLT, Int.reduceLE, Int.reduceBEq, Int.reduceBNe, Int.reduceToNat, Int.reduceAdd, Int.reduceSub, Int.reduceMul, Int.reduceNeg, sub_take, take_len, sub_drop, f46, L.strings_EqualFold.r1]
  · simp (dsimp := false) (disch := first | omega | (simp only [strs_length, List.length_set, List.length_replicate, words_length, ofBytes_length, List.length_append, List.length_cons, List.length_nil, List.length_take, List.length_drop] <;> omega) | fail) only [EFrest, L.strings_EqualFold.r0, go_sem, reduceIte, reduceCtorEq, Nat.reduceEqDiff, Nat.reduceAdd, Nat.reduceSub, Nat.reduceMul, Nat.reduceDiv, Nat.reduceMod, Nat.reduceBEq, Nat.reduceLeDiff, Nat.reduceLT, Int.reduceEq, Int.reduceNe, Int.reduceLT, Int.reduceLE, Int.reduceBEq, Int.reduceBNe, Int.reduceToNat, Int.reduceAdd, Int.reduceSub, Int.reduceMul, Int.reduceNeg, sub_take, take_len, sub_drop]
    rw [X_in L.strings_EqualFold.x1.eq_1]
    simp (dsimp := false) (disch := first | omega | (simp only [strs_length, List.length_set, List.length_replicate, words_length, ofBytes_length, List.length_append, List.length_cons, List.length_nil, List.length_take, List.length_drop] <;> omega) | fail) only [go_sem, reduceIte, reduceCtorEq, Nat.reduceEqDiff, Nat.reduceAdd, Nat.reduceSub, Nat.reduceMul, Nat.reduceDiv, Nat.reduceMod, Nat.reduceBEq, Nat.reduceLeDiff, Nat.reduceLT, Int.reduceEq, Int.reduceNe, Int.reduceLT, Int.reduceLE, Int.reduceBEq, Int.reduceBNe, Int.reduceToNat, Int.reduceAdd, Int.reduceSub, Int.reduceMul, Int.reduceNeg, sub_take, take_len, sub_drop, hd, he, d103, f103]
    rw [X_in L.strings_EqualFold.x2.eq_1]
    simp (dsimp := false) (disch := first | omega | (simp only [strs_length, List.length_set, List.length_replicate, words_length, ofBytes_length, List.length_append, List.length_cons, List.length_nil, List.length_take, List.length_drop] <;> omega) | fail) only [go_sem, reduceIte, reduceCtorEq, Nat.reduceEqDiff, Nat.reduceAdd, Nat.reduceSub, Nat.reduceMul, Nat.reduceDiv, Nat.reduceMod, Nat.reduceBEq, Nat.reduceLeDiff, Nat.reduceLT, Int.reduceEq, Int.reduceNe, Int.reduceLT, Int.reduceLE, Int.reduceBEq, Int.reduceBNe, Int.reduceToNat, Int.reduceAdd, Int.reduceSub, Int.reduceMul, Int.reduceNeg, sub_take, take_len, sub_drop, f71, L.strings_EqualFold.r1]
    rw [X_in L.strings_EqualFold.x2.eq_1]
    simp (dsimp := false) (disch := first | omega | (simp only [strs_length, List.length_set, List.length_replicate, words_length, ofBytes_length, List.length_append, List.length_cons, List.length_nil, List.length_take, List.length_drop] <;> omega) | fail) only [go_sem, reduceIte, reduceCtorEq, Nat.reduceEqDiff, Nat.reduceAdd, Nat.reduceSub, Nat.reduceMul, Nat.reduceDiv, Nat.reduceMod, Nat.reduceBEq, Nat.reduceLeDiff, Nat.reduceLT, Int.reduceEq, Int.reduceNe, Int.reduceLT, Int.reduceLE, Int.reduceBEq, Int.reduceBNe, Int.reduceToNat, Int.reduceAdd, Int.reduceSub, Int.reduceMul, Int.reduceNeg, sub_take, take_len, sub_drop, f71, L.strings_EqualFold.r1]
  · simp (dsimp := false) (disch := first | omega | (simp only [strs_length, List.length_set, List.length_replicate, words_length, ofBytes_length, List.length_append, List.length_cons, List.length_nil, List.length_take, List.length_drop] <;> omega) | fail) only [EFrest, L.strings_EqualFold.r0, go_sem, reduceIte, reduceCtorEq, Nat.reduceEqDiff, Nat.reduceAdd, Nat.reduceSub, Nat.reduceMul, Nat.reduceDiv, Nat.reduceMod, Nat.reduceBEq, Nat.reduceLeDiff, Nat.reduceLT, Int.reduceEq, Int.reduceNe, Int.reduceLT, Int.reduceLE, Int.reduceBEq, Int.reduceBNe, Int.reduceToNat, Int.reduceAdd, Int.reduceSub, Int.reduceMul, Int.reduceNeg, sub_take, take_len, sub_drop]
    rw [X_in L.strings_EqualFold.x1.eq_1]
    simp (dsimp := false) (disch := first | omega | (simp only [strs_length, List.length_set, List.length_replicate, words_length, ofBytes_length, List.length_append, List.length_cons, List.length_nil, List.length_take, List.length_drop] <;> omega) | fail) only [go_sem, reduceIte, reduceCtorEq, Nat.reduceEqDiff, Nat.reduceAdd, Nat.reduceSub, Nat.reduceMul, Nat.reduceDiv, Nat.reduceMod, Nat.reduceBEq, Nat.reduceLeDiff, Nat.reduceLT, Int.reduceEq, Int.reduceNe, Int.reduceLT, Int.reduceLE, Int.reduceBEq, Int.reduceBNe, Int.reduceToNat, Int.reduceAdd, Int.reduceSub, Int.reduceMul, Int.reduceNeg, sub_take, take_len, sub_drop, hd, he, d105, f105]
    rw [X_in L.strings_EqualFold.x2.eq_1]
    simp (dsimp := false) (disch := first | omega | (simp only [strs_length, List.length_set, List.length_replicate, words_length, ofBytes_length, List.length_append, List.length_cons, List.length_nil, List.length_take, List.length_drop] <;> omega) | fail) only [go_sem, reduceIte, reduceCtorEq, Nat.reduceEqDiff, Nat.reduceAdd, Nat.reduceSub, Nat.reduceMul, Nat.reduceDiv, Nat.reduceMod, Nat.reduceBEq, Nat.reduceLeDiff, Nat.reduceLT, Int.reduceEq, Int.reduceNe, Int.reduceLT, Int.reduceLE, Int.reduceBEq, Int.reduceBNe, Int.reduceToNat, Int.reduceAdd, Int.reduceSub, Int.reduceMul, Int.reduceNeg, sub_take, take_len, sub_drop, f73, L.strings_EqualFold.r1]
    rw [X_in L.strings_EqualFold.x2.eq_1]
    simp (dsimp := false) (disch := first | omega | (simp only [strs_length, List.length_set, List.length_replicate, words_length, ofBytes_length, List.length_append, List.length_cons, List.length_nil, List.length_take, List.length_drop] <;> omega) | fail) only [go_sem, reduceIte, reduceCtorEq, Nat.reduceEqDiff, Nat.reduceAdd, Nat.reduceSub, Nat.reduceMul, Nat.reduceDiv, Nat.reduceMod, Nat.reduceBEq, Nat.reduceLeDiff, Nat.reduceLT, Int.reduceEq, Int.reduceNe, Int.reduceLT, Int.reduceLE, Int.reduceBEq, Int.reduceBNe, Int.reduceToNat, Int.reduceAdd, Int.reduceSub, Int.reduceMul, Int.reduceNeg, sub_take, take_len, sub_drop, f73, L.strings_EqualFold.r1]
  · simp (dsimp := false) (disch := first | omega | (simp only [strs_length, List.length_set, List.length_replicate, words_length, ofBytes_length, List.length_append, List.length_cons, List.length_nil, List.length_take, List.length_drop] <;> omega) | fail) only [EFrest, L.strings_EqualFold.r0, go_sem, reduceIte, reduceCtorEq, Nat.reduceEqDiff, Nat.reduceAdd, Nat.reduceSub, Nat.reduceMul, Nat.reduceDiv, Nat.reduceMod, Nat.reduceBEq, Nat.reduceLeDiff, Nat.reduceLT, Int.reduceEq, Int.reduceNe, Int.reduceLT, Int.reduceLE, Int.reduceBEq, Int.reduceBNe, Int.reduceToNat, Int.reduceAdd, Int.reduceSub, Int.reduceMul, Int.reduceNeg, sub_take, take_len, sub_drop]
    rw [X_in L.strings_EqualFold.x1.eq_1]
    simp (dsimp := false) (disch := first | omega | (simp only [strs_length, List.length_set, List.length_replicate, words_length, ofBytes_length, List.length_append, List.length_cons, List.length_nil, List.length_take, List.length_drop] <;> omega) | fail) only [go_sem, reduceIte, reduceCtorEq, Nat.reduceEqDiff, Nat.reduceAdd, Nat.reduceSub, Nat.reduceMul, Nat.reduceDiv, Nat.reduceMod, Nat.reduceBEq, Nat.reduceLeDiff, Nat.reduceLT, Int.reduceEq, Int.reduceNe, Int.reduceLT, Int.reduceLE, Int.reduceBEq, Int.reduceBNe, Int.reduceToNat, Int.reduceAdd, Int.reduceSub, Int.reduceMul, Int.reduceNeg, sub_take, take_len, sub_drop, hd, he, d116, f116]
    rw [X_in L.strings_EqualFold.x2.eq_1]
    simp (dsimp := false) (disch := first | omega | (simp only [strs_length, List.length_set, List.length_replicate, words_length, ofBytes_length, List.length_append, List.length_cons, List.length_nil, List.length_take, List.length_drop] <;> omega) | fail) only [go_sem, reduceIte, reduceCtorEq, Nat.reduceEqDiff, Nat.reduceAdd, Nat.reduceSub, Nat.reduceMul, Nat.reduceDiv, Nat.reduceMod, Nat.reduceBEq, Nat.reduceLeDiff, Nat.reduceLT, Int.reduceEq, Int.reduceNe, Int.reduceLT, Int.reduceLE, Int.reduceBEq, Int.reduceBNe, Int.reduceToNat, Int.reduceAdd, Int.reduceSub, Int.reduceMul, Int.reduceNeg, sub_take, take_len, sub_drop, f84, L.strings_EqualFold.r1]
    rw [X_in L.strings_EqualFold.x2.eq_1]
    simp (dsimp := false) (disch := first | omega | (simp only [strs_length, List.length_set, List.length_replicate, words_length, ofBytes_length, List.length_append, List.length_cons, List.length_nil, List.length_take, List.length_drop] <;> omega) | fail) only [go_sem, reduceIte, reduceCtorEq, Nat.reduceEqDiff, Nat.reduceAdd, Nat.reduceSub, Nat.reduceMul, Nat.reduceDiv, Nat.reduceMod, Nat.reduceBEq, Nat.reduceLeDiff, Nat.reduceLT, Int.reduceEq, Int.reduceNe, Int.reduceLT, Int.reduceLE, Int.reduceBEq, Int.reduceBNe, Int.reduceToNat, Int.reduceAdd, Int.reduceSub, Int.reduceMul, Int.reduceNeg, sub_take, take_len, sub_drop, f84, L.strings_EqualFold.r1]
/-- Are two letters of an ASCII text alike when case is folded? -/
def gitAt (b t : Int) : Bool := b == t || (decide (b < t) && (decide (65 ≤ b) && (decide (b ≤ 90) && (t == b + 32))))
theorem ef_it {SC : LCode} (hSC : findL SC 0 = some (.seq .skip EFrest)) {s : List UInt8} (hs : s.length = 4) (i : Nat) (t : Int) (hi : (i = 0 ∧ t = 46) ∨ (i = 1 ∧ t = 103) ∨ (i = 2 ∧ t = 105) ∨ (i = 3 ∧ t = 116)) :
    X E0 [.tmp 4] (.c L.strings_EqualFold.x0 :: .lp [0, 1, 5, 6] L.strings_EqualFold.x0 :: .blk 0 :: .c L.strings_EqualFold.r0 :: .scp SC :: []) ⟨[(0, .str s), (1, .str [46, 103, 105, 116]), (5, .int .i64 i), (6, .int .i64 4)], []⟩ =
    if bat s i < 128 ∧ gitAt (bat s i) t = true then X E0 [.tmp 4] (.c L.strings_EqualFold.x0 :: .lp [0, 1, 5, 6] L.strings_EqualFold.x0 :: .blk 0 :: .c L.strings_EqualFold.r0 :: .scp SC :: []) ⟨[(0, .str s), (1, .str [46, 103, 105, 116]), (5, .int .i64 (i + 1 : Int)), (6, .int .i64 4)], []⟩ else some (.bool false, []) := by
  obtain ⟨h0, h1⟩ := bat_range s i
  have hor := or_high t (by rcases hi with ⟨_, rfl⟩ | ⟨_, rfl⟩ | ⟨_, rfl⟩ | ⟨_, rfl⟩ <;> simp) (bat s i).toNat (by omega)
  rw [show (((bat s i).toNat : Nat) : Int) = bat s i by omega] at hor
  have hti : bat [46, 103, 105, 116] i = t := by rcases hi with ⟨rfl, rfl⟩ | ⟨rfl, rfl⟩ | ⟨rfl, rfl⟩ | ⟨rfl, rfl⟩ <;> rfl
  have hi4 : i < 4 := by omega
  have htr : 46 ≤ t ∧ t ≤ 116 := by omega
  have hil : i < [46, 103, 105, (116 : UInt8)].length := by simpa using hi4
  rw [X_in L.strings_EqualFold.x0.eq_1]
  by_cases hb : bat s i < 128
  · have hd : decide (128 ≤ (bat s i).toNat) = false := by simp; omega
    rw [hd] at hor
    generalize hx : bat s i = x at *
    by_cases e1 : x = t
    · rw [if_pos ⟨hb, by simp [gitAt, e1]⟩]
      have e9 : (t == x) = true := beq_t e1.symm
      simp (dsimp := false) (disch := first | omega | (simp only [strs_length, List.length_set, List.length_replicate, words_length, ofBytes_length, List.length_append, List.length_cons, List.length_nil, List.length_take, List.length_drop] <;> omega) | fail) only [go_sem, reduceIte, reduceCtorEq, Nat.reduceEqDiff, Nat.reduceAdd, Nat.reduceSub, Nat.reduceMul, Nat.reduceDiv, Nat.reduceMod, Nat.reduceBEq, Nat.reduceLeDiff, Nat.reduceLT, Int.reduceEq, Int.reduceNe, Int.reduceLT, Int.reduceLE, Int.reduceBEq, Int.reduceBNe, Int.reduceToNat, Int.reduceAdd, Int.reduceSub, Int.reduceMul, Int.reduceNeg, sub_take, take_len, sub_drop, hx, hti, hor, e9]
    · have e2 : (x == t) = false := beq_f e1
      have e2' : (t == x) = false := beq_f (fun h => e1 h.symm)
      by_cases e3 : x < t
      · have e4 : ¬ t < x := by omega
        by_cases e5 : 65 ≤ x
        · by_cases e6 : x ≤ 90
          · have w1 : IntKind.u8.wrap (x + 97) = x + 97 := by rw [wrap_u8]; omega
            have w2 : IntKind.u8.wrap (x + 97 - 65) = x + 32 := by rw [wrap_u8]; omega
            by_cases e7 : t = x + 32
            · rw [if_pos ⟨hb, by simp only [gitAt, e2, dec_t e3, dec_t e5, dec_t e6, beq_t e7, Bool.true_and, Bool.and_true, Bool.false_or]⟩]
              have e8 : (t == x + 32) = true := beq_t e7
              simp (dsimp := false) (disch := first | omega | (simp only [strs_length, List.length_set, List.length_replicate, words_length, ofBytes_length, List.length_append, List.length_cons, List.length_nil, List.length_take, List.length_drop] <;> omega) | fail) only [go_sem, reduceIte, reduceCtorEq, Nat.reduceEqDiff, Nat.reduceAdd, Nat.reduceSub, Nat.reduceMul, Nat.reduceDiv, Nat.reduceMod, Nat.reduceBEq, Nat.reduceLeDiff, Nat.reduceLT, Int.reduceEq, Int.reduceNe, Int.reduceLT, Int.reduceLE, Int.reduceBEq, Int.reduceBNe, Int.reduceToNat, Int.reduceAdd, Int.reduceSub, Int.reduceMul, Int.reduceNeg, sub_take, take_len, sub_drop, hx, hti, hor, e2', e4, e5, e6, w1, w2, e8]
            · rw [if_neg (by simp only [gitAt, e2, dec_t e3, dec_t e5, dec_t e6, beq_f e7, Bool.true_and, Bool.and_true, Bool.false_or]; simp)]
              have e8 : (t == x + 32) = false := beq_f e7
              simp (dsimp := false) (disch := first | omega | (simp only [strs_length, List.length_set, List.length_replicate, words_length, ofBytes_length, List.length_append, List.length_cons, List.length_nil, List.length_take, List.length_drop] <;> omega) | fail) only [go_sem, reduceIte, reduceCtorEq, Nat.reduceEqDiff, Nat.reduceAdd, Nat.reduceSub, Nat.reduceMul, Nat.reduceDiv, Nat.reduceMod, Nat.reduceBEq, Nat.reduceLeDiff, Nat.reduceLT, Int.reduceEq, Int.reduceNe, Int.reduceLT, Int.reduceLE, Int.reduceBEq, Int.reduceBNe, Int.reduceToNat, Int.reduceAdd, Int.reduceSub, Int.reduceMul, Int.reduceNeg, sub_take, take_len, sub_drop, hx, hti, hor, e2', e4, e5, e6, w1, w2, e8]
          · rw [if_neg (by simp only [gitAt, e2, dec_t e3, dec_t e5, dec_f e6, Bool.true_and, Bool.false_and, Bool.false_or]; simp)]
            simp (dsimp := false) (disch := first | omega | (simp only [strs_length, List.length_set, List.length_replicate, words_length, ofBytes_length, List.length_append, List.length_cons, List.length_nil, List.length_take, List.length_drop] <;> omega) | fail) only [go_sem, reduceIte, reduceCtorEq, Nat.reduceEqDiff, Nat.reduceAdd, Nat.reduceSub, Nat.reduceMul, Nat.reduceDiv, Nat.reduceMod, Nat.reduceBEq, Nat.reduceLeDiff, Nat.reduceLT, Int.reduceEq, Int.reduceNe, Int.reduceLT, Int.reduceLE, Int.reduceBEq, Int.reduceBNe, Int.reduceToNat, Int.reduceAdd, Int.reduceSub, Int.reduceMul, Int.reduceNeg, sub_take, take_len, sub_drop, hx, hti, hor, e2', e4, e5, e6]
        · rw [if_neg (by simp only [gitAt, e2, dec_t e3, dec_f e5, Bool.true_and, Bool.false_and, Bool.false_or]; simp)]
          simp (dsimp := false) (disch := first | omega | (simp only [strs_length, List.length_set, List.length_replicate, words_length, ofBytes_length, List.length_append, List.length_cons, List.length_nil, List.length_take, List.length_drop] <;> omega) | fail) only [go_sem, reduceIte, reduceCtorEq, Nat.reduceEqDiff, Nat.reduceAdd, Nat.reduceSub, Nat.reduceMul, Nat.reduceDiv, Nat.reduceMod, Nat.reduceBEq, Nat.reduceLeDiff, Nat.reduceLT, Int.reduceEq, Int.reduceNe, Int.reduceLT, Int.reduceLE, Int.reduceBEq, Int.reduceBNe, Int.reduceToNat, Int.reduceAdd, Int.reduceSub, Int.reduceMul, Int.reduceNeg, sub_take, take_len, sub_drop, hx, hti, hor, e2', e4, e5]
      · have e4 : t < x := by omega
        rw [if_neg (by simp only [gitAt, e2, dec_f e3, Bool.false_and, Bool.false_or]; simp)]
        by_cases e5 : 65 ≤ t
        · have e6 : ¬ t ≤ 90 := by omega
          simp (dsimp := false) (disch := first | omega | (simp only [strs_length, List.length_set, List.length_replicate, words_length, ofBytes_length, List.length_append, List.length_cons, List.length_nil, List.length_take, List.length_drop] <;> omega) | fail) only [go_sem, reduceIte, reduceCtorEq, Nat.reduceEqDiff, Nat.reduceAdd, Nat.reduceSub, Nat.reduceMul, Nat.reduceDiv, Nat.reduceMod, Nat.reduceBEq, Nat.reduceLeDiff, Nat.reduceLT, Int.reduceEq, Int.reduceNe, Int.reduceLT, Int.reduceLE, Int.reduceBEq, Int.reduceBNe, Int.reduceToNat, Int.reduceAdd, Int.reduceSub, Int.reduceMul, Int.reduceNeg, sub_take, take_len, sub_drop, hx, hti, hor, e2', e4, e5, e6]
        · simp (dsimp := false) (disch := first | omega | (simp only [strs_length, List.length_set, List.length_replicate, words_length, ofBytes_length, List.length_append, List.length_cons, List.length_nil, List.length_take, List.length_drop] <;> omega) | fail) only [go_sem, reduceIte, reduceCtorEq, Nat.reduceEqDiff, Nat.reduceAdd, Nat.reduceSub, Nat.reduceMul, Nat.reduceDiv, Nat.reduceMod, Nat.reduceBEq, Nat.reduceLeDiff, Nat.reduceLT, Int.reduceEq, Int.reduceNe, Int.reduceLT, Int.reduceLE, Int.reduceBEq, Int.reduceBNe, Int.reduceToNat, Int.reduceAdd, Int.reduceSub, Int.reduceMul, Int.reduceNeg, sub_take, take_len, sub_drop, hx, hti, hor, e2', e4, e5]
  · have hd : decide (128 ≤ (bat s i).toNat) = true := by simp; omega
    rw [hd] at hor
    rw [if_neg (fun h => hb h.1)]
    simp (dsimp := false) (disch := first | omega | (simp only [strs_length, List.length_set, List.length_replicate, words_length, ofBytes_length, List.length_append, List.length_cons, List.length_nil, List.length_take, List.length_drop] <;> omega) | fail) only [go_sem, reduceIte, reduceCtorEq, Nat.reduceEqDiff, Nat.reduceAdd, Nat.reduceSub, Nat.reduceMul, Nat.reduceDiv, Nat.reduceMod, Nat.reduceBEq, Nat.reduceLeDiff, Nat.reduceLT, Int.reduceEq, Int.reduceNe, Int.reduceLT, Int.reduceLE, Int.reduceBEq, Int.reduceBNe, Int.reduceToNat, Int.reduceAdd, Int.reduceSub, Int.reduceMul, Int.reduceNeg, sub_take, take_len, sub_drop, hti, hor, hSC]
    exact ef_uni hs i hi4 (by omega) _ _ _ _ _
/-- Is a text of four bytes '.git' in ASCII letters, large or small? -/
def git4 (s : List UInt8) : Bool := decide (bat s 0 < 128 ∧ gitAt (bat s 0) 46 = true) && (decide (bat s 1 < 128 ∧ gitAt (bat s 1) 103 = true) && (decide (bat s 2 < 128 ∧ gitAt (bat s 2) 105 = true) && decide (bat s 3 < 128 ∧ gitAt (bat s 3) 116 = true)))
theorem go_fold {s : List UInt8} (hs : s.length = 4) : S E0 F.strings_EqualFold [.str s, .str [46, 103, 105, 116]] [] = some (.bool (git4 s), []) := by
  rw [S_of0 fn_strings_EqualFold rfl rfl]
  have l4 : ((s.length : Int)) = 4 := by omega
  simp (dsimp := false) (disch := first | omega | (simp only [strs_length, List.length_set, List.length_replicate, words_length, ofBytes_length, List.length_append, List.length_cons, List.length_nil, List.length_take, List.length_drop] <;> omega) | fail) only [L.strings_EqualFold, go_sem, reduceIte, reduceCtorEq, Nat.reduceEqDiff, Nat.reduceAdd, Nat.reduceSub, Nat.reduceMul, Nat.reduceDiv, Nat.reduceMod, Nat.reduceBEq, Nat.reduceLeDiff, Nat.reduceLT, Int.reduceEq, Int.reduceNe, Int.reduceLT, Int.reduceLE, Int.reduceBEq, Int.reduceBNe, Int.reduceToNat, Int.reduceAdd, Int.reduceSub, Int.reduceMul, Int.reduceNeg, hs]
  generalize hSC : LCode.seq _ _ = SC
  have hf : findL SC 0 = some (.seq .skip EFrest) := by subst hSC; rfl
  have i0 := ef_it hf hs 0 46 (by simp)
  have i1 := ef_it hf hs 1 103 (by simp)
  have i2 := ef_it hf hs 2 105 (by simp)
  have i3 := ef_it hf hs 3 116 (by simp)
  have i4 : X E0 [.tmp 4] (.c L.strings_EqualFold.x0 :: .lp [0, 1, 5, 6] L.strings_EqualFold.x0 :: .blk 0 :: .c L.strings_EqualFold.r0 :: .scp SC :: []) ⟨[(0, .str s), (1, .str [46, 103, 105, 116]), (5, .int .i64 4), (6, .int .i64 4)], []⟩ = some (.bool true, []) := by
    rw [X_in L.strings_EqualFold.x0.eq_1]
    simp (dsimp := false) (disch := first | omega | (simp only [strs_length, List.length_set, List.length_replicate, words_length, ofBytes_length, List.length_append, List.length_cons, List.length_nil, List.length_take, List.length_drop] <;> omega) | fail) only [go_sem, reduceIte, reduceCtorEq, Nat.reduceEqDiff, Nat.reduceAdd, Nat.reduceSub, Nat.reduceMul, Nat.reduceDiv, Nat.reduceMod, Nat.reduceBEq, Nat.reduceLeDiff, Nat.reduceLT, Int.reduceEq, Int.reduceNe, Int.reduceLT, Int.reduceLE, Int.reduceBEq, Int.reduceBNe, Int.reduceToNat, Int.reduceAdd, Int.reduceSub, Int.reduceMul, Int.reduceNeg, L.strings_EqualFold.r0, hs]
  simp only [show ((0 : Nat) : Int) = 0 from rfl, show ((1 : Nat) : Int) = 1 from rfl, show ((2 : Nat) : Int) = 2 from rfl, show ((3 : Nat) : Int) = 3 from rfl, show (0 : Int) + 1 = 1 from rfl, show (1 : Int) + 1 = 2 from rfl, show (2 : Int) + 1 = 3 from rfl, show (3 : Int) + 1 = 4 from rfl] at i0 i1 i2 i3
  rw [show (if ((4 : Nat) : Int) < ((4 : Nat) : Int) then ((4 : Nat) : Int) else ((4 : Nat) : Int)) = 4 from rfl, i0]
  by_cases c0 : bat s 0 < 128 ∧ gitAt (bat s 0) 46 = true
  · rw [if_pos c0, i1]
    by_cases c1 : bat s 1 < 128 ∧ gitAt (bat s 1) 103 = true
    · rw [if_pos c1, i2]
      by_cases c2 : bat s 2 < 128 ∧ gitAt (bat s 2) 105 = true
      · rw [if_pos c2, i3]
        by_cases c3 : bat s 3 < 128 ∧ gitAt (bat s 3) 116 = true
        · rw [if_pos c3, i4]; simp only [git4, dec_t c0, dec_t c1, dec_t c2, dec_t c3]; rfl
        · rw [if_neg c3]; simp only [git4, dec_t c0, dec_t c1, dec_t c2, dec_f c3]; rfl
      · rw [if_neg c2]; simp only [git4, dec_t c0, dec_t c1, dec_f c2]; rfl
    · rw [if_neg c1]; simp only [git4, dec_t c0, dec_f c1]; rfl
  · rw [if_neg c0]; simp only [git4, dec_f c0]; rfl
theorem gitAt_lower : ∀ n : Nat, n < 256 → ∀ t ∈ [(46 : UInt8), 103, 105, 116], decide ((n : Int) < 128 ∧ gitAt n t.toNat = true) = (lower (UInt8.ofNat n) == t) := by decide +kernel
theorem git4_eq {s : List UInt8} (hs : s.length = 4) : git4 s = isGit s := by
  match s, hs with
  | [a, b, c, d], _ =>
    have key : ∀ (x : UInt8) (t : UInt8), t ∈ [(46 : UInt8), 103, 105, 116] → decide ((x.toNat : Int) < 128 ∧ gitAt x.toNat t.toNat = true) = (lower x == t) := fun x t ht => by
      have := gitAt_lower x.toNat x.toNat_lt t ht
      rwa [UInt8.ofNat_toNat] at this
    have h0 := key a 46 (by simp)
    have h1 := key b 103 (by simp)
    have h2 := key c 105 (by simp)
    have h3 := key d 116 (by simp)
    have e0 : (lower a == 46) = (a == 46) := by
      have : ∀ n : Nat, n < 256 → (lower (UInt8.ofNat n) == 46) = (UInt8.ofNat n == 46) := by decide +kernel
      have := this a.toNat a.toNat_lt
      rwa [UInt8.ofNat_toNat] at this
    show (decide ((a.toNat : Int) < 128 ∧ gitAt a.toNat (46 : UInt8).toNat = true) && (decide ((b.toNat : Int) < 128 ∧ gitAt b.toNat (103 : UInt8).toNat = true) && (decide ((c.toNat : Int) < 128 ∧ gitAt c.toNat (105 : UInt8).toNat = true) && decide ((d.toNat : Int) < 128 ∧ gitAt d.toNat (116 : UInt8).toNat = true)))) = _
    rw [h0, h1, h2, h3, e0]
    simp only [isGit, Bool.and_assoc]
end Cod

/- strings.IndexAny, as names uses it. -/
namespace Cod
open Go
set_option maxRecDepth 100000

/-- One rune, of its bytes. -/
def decF (b0 a1 a2 a3 : Nat) (c1 c2 c3 : Bool) : Nat × Nat :=
  if b0 < 0x80 then (b0, 1)
  else if b0 / 32 == 6 && c1 then (if b0 % 32 * 64 + a1 % 64 ≥ 0x80 then (b0 % 32 * 64 + a1 % 64, 2) else (65533, 1))
  else if b0 / 16 == 14 && c1 && c2 then
    (if b0 % 16 * 4096 + a1 % 64 * 64 + a2 % 64 ≥ 0x800 && Utf8.valid ((b0 % 16 * 4096 + a1 % 64 * 64 + a2 % 64 : Nat) : Int) then (b0 % 16 * 4096 + a1 % 64 * 64 + a2 % 64, 3) else (65533, 1))
  else if b0 / 8 == 30 && c1 && c2 && c3 then
    (if b0 % 8 * 262144 + a1 % 64 * 4096 + a2 % 64 * 64 + a3 % 64 ≥ 0x10000 && Utf8.valid ((b0 % 8 * 262144 + a1 % 64 * 4096 + a2 % 64 * 64 + a3 % 64 : Nat) : Int) then (b0 % 8 * 262144 + a1 % 64 * 4096 + a2 % 64 * 64 + a3 % 64, 4) else (65533, 1))
  else (65533, 1)
theorem decF_low {b0 a1 a2 a3 : Nat} {c1 c2 c3 : Bool} (h : b0 < 128) : decF b0 a1 a2 a3 c1 c2 c3 = (b0, 1) := by unfold decF; rw [if_pos h]
theorem decF_high {b0 a1 a2 a3 : Nat} {c1 c2 c3 : Bool} (h : 128 ≤ b0) (h2 : b0 < 256) : 128 ≤ (decF b0 a1 a2 a3 c1 c2 c3).1 ∧ (decF b0 a1 a2 a3 c1 c2 c3).1 ≤ 1114111 ∧
    ((decF b0 a1 a2 a3 c1 c2 c3).2 = 1 ∨ ((decF b0 a1 a2 a3 c1 c2 c3).2 = 2 ∧ c1 = true) ∨ ((decF b0 a1 a2 a3 c1 c2 c3).2 = 3 ∧ c1 = true ∧ c2 = true) ∨ ((decF b0 a1 a2 a3 c1 c2 c3).2 = 4 ∧ c1 = true ∧ c2 = true ∧ c3 = true)) := by
  unfold decF
  rw [if_neg (by omega)]
  split
  · rename_i h3
    simp only [Bool.and_eq_true] at h3
    split
    · exact ⟨by assumption, by omega, .inr (.inl ⟨rfl, h3.2⟩)⟩
    · exact ⟨by omega, by omega, .inl rfl⟩
  · split
    · rename_i h3
      simp only [Bool.and_eq_true] at h3
      split
      · rename_i h4
        simp only [Bool.and_eq_true, decide_eq_true_eq] at h4
        exact ⟨by omega, by omega, .inr (.inr (.inl ⟨rfl, h3.1.2, h3.2⟩))⟩
      · exact ⟨by omega, by omega, .inl rfl⟩
    · split
      · rename_i h3
        simp only [Bool.and_eq_true] at h3
        split
        · rename_i h4
          simp only [Bool.and_eq_true, decide_eq_true_eq, Utf8.valid, Bool.or_eq_true] at h4
          exact ⟨by omega, by omega, .inr (.inr (.inr ⟨rfl, h3.1.1.2, h3.1.2, h3.2⟩))⟩
        · exact ⟨by omega, by omega, .inl rfl⟩
      · exact ⟨by omega, by omega, .inl rfl⟩
theorem dec_facts {l : List UInt8} {p : Nat} (h : p < l.length) :
    (bat l p < 128 ∧ (((decS l p).1 : Nat) : Int) = bat l p ∧ (decS l p).2 = 1) ∨
    (128 ≤ bat l p ∧ 128 ≤ (decS l p).1 ∧ (decS l p).1 ≤ 1114111 ∧ 1 ≤ (decS l p).2 ∧ ∀ j, p ≤ j → j < p + (decS l p).2 → j < l.length ∧ 128 ≤ bat l j) := by
  have hs : (⟨l.toArray⟩ : ByteArray).size = l.length := by simp [ByteArray.size]
  have h0 : ((⟨l.toArray⟩ : ByteArray).get! (p + 0)).toNat = (l.getD p 0).toNat := ba_get h
  have hc : ∀ k, (decide (p + k < (⟨l.toArray⟩ : ByteArray).size) && ((⟨l.toArray⟩ : ByteArray).get! (p + k)).toNat / 64 == 2) = true → p + k < l.length ∧ 128 ≤ bat l (p + k) := by
    intro k hk
    simp only [Bool.and_eq_true, decide_eq_true_eq, beq_iff_eq, hs] at hk
    refine ⟨hk.1, ?_⟩
    have := ba_get hk.1
    unfold bat
    omega
  have e : decS l p = decF ((⟨l.toArray⟩ : ByteArray).get! (p + 0)).toNat ((⟨l.toArray⟩ : ByteArray).get! (p + 1)).toNat ((⟨l.toArray⟩ : ByteArray).get! (p + 2)).toNat ((⟨l.toArray⟩ : ByteArray).get! (p + 3)).toNat
    (decide (p + 1 < (⟨l.toArray⟩ : ByteArray).size) && ((⟨l.toArray⟩ : ByteArray).get! (p + 1)).toNat / 64 == 2) (decide (p + 2 < (⟨l.toArray⟩ : ByteArray).size) && ((⟨l.toArray⟩ : ByteArray).get! (p + 2)).toNat / 64 == 2)
    (decide (p + 3 < (⟨l.toArray⟩ : ByteArray).size) && ((⟨l.toArray⟩ : ByteArray).get! (p + 3)).toNat / 64 == 2) := rfl
  have k1 := hc 1
  have k2 := hc 2
  have k3 := hc 3
  rw [h0] at e
  generalize (decide (p + 1 < (⟨l.toArray⟩ : ByteArray).size) && ((⟨l.toArray⟩ : ByteArray).get! (p + 1)).toNat / 64 == 2) = c1 at e k1
  generalize (decide (p + 2 < (⟨l.toArray⟩ : ByteArray).size) && ((⟨l.toArray⟩ : ByteArray).get! (p + 2)).toNat / 64 == 2) = c2 at e k2
  generalize (decide (p + 3 < (⟨l.toArray⟩ : ByteArray).size) && ((⟨l.toArray⟩ : ByteArray).get! (p + 3)).toNat / 64 == 2) = c3 at e k3
  generalize ((⟨l.toArray⟩ : ByteArray).get! (p + 1)).toNat = a1 at e
  generalize ((⟨l.toArray⟩ : ByteArray).get! (p + 2)).toNat = a2 at e
  generalize ((⟨l.toArray⟩ : ByteArray).get! (p + 3)).toNat = a3 at e
  have hlt := (l.getD p 0).toNat_lt
  by_cases hb : bat l p < 128
  · refine .inl ⟨hb, ?_⟩
    unfold bat at hb ⊢
    rw [e, decF_low (by omega)]
    exact ⟨rfl, rfl⟩
  · have hb' := hb
    unfold bat at hb
    obtain ⟨h1, h2, h3⟩ := decF_high (a1 := a1) (a2 := a2) (a3 := a3) (c1 := c1) (c2 := c2) (c3 := c3) (b0 := (l.getD p 0).toNat) (by omega) hlt
    rw [← e] at h1 h2 h3
    refine .inr ⟨by omega, h1, h2, by omega, fun j j1 j2 => ?_⟩
    have : j = p ∨ j = p + 1 ∨ j = p + 2 ∨ j = p + 3 := by omega
    rcases this with rfl | rfl | rfl | rfl
    · exact ⟨h, by omega⟩
    · exact k1 (by rcases h3 with h3 | h3 | h3 | h3 <;> first | omega | exact h3.2 | exact h3.2.1)
    · exact k2 (by rcases h3 with h3 | h3 | h3 | h3 <;> first | omega | exact h3.2.2 | exact h3.2.2.1)
    · exact k3 (by rcases h3 with h3 | h3 | h3 | h3 <;> first | omega | exact h3.2.2.2)

/-- The last byte of a rune's text. -/
theorem enc_high {r : Int} (h0 : 128 ≤ r) (h1 : r ≤ 1114111) : 2 ≤ (encS r).length ∧ (encS r).length ≤ 4 ∧ ((encS r).length = 2 → 128 ≤ bat (encS r) 1) := by
  unfold encS Utf8.encode Utf8.runeError
  simp only []
  generalize hc : (if Utf8.valid r = true then r.toNat else 65533) = c
  have hc0 : 128 ≤ c := by
    rw [← hc]; split
    · omega
    · omega
  rw [if_neg (by omega)]
  split
  · refine ⟨by simp, by simp, fun _ => ?_⟩
    simp [bat]
    omega
  · split <;> simp
theorem go_valid {r : Int} (h0 : 128 ≤ r) : S E0 F.utf8_ValidRune [.int .i32 r] [] = some (.bool (decide (r < 55296) || (decide (57343 < r) && decide (r ≤ 1114111))), []) := by
  rw [S_of0 fn_utf8_ValidRune rfl rfl]
  by_cases h1 : r < 55296
  · simp (dsimp := false) (disch := first | omega | (simp only [strs_length, List.length_set, List.length_replicate, words_length, ofBytes_length, List.length_append, List.length_cons, List.length_nil, List.length_take, List.length_drop] <;> omega) | fail) only [L.utf8_ValidRune, go_sem, reduceIte, reduceCtorEq, Nat.reduceEqDiff, Nat.reduceAdd, Nat.reduceSub, Nat.reduceMul, Nat.reduceDiv, Nat.reduceMod, Nat.reduceBEq, Nat.reduceLeDiff, Nat.reduceLT, Int.reduceEq, Int.reduceNe, Int.reduceLT, Int.reduceLE, Int.reduceBEq, Int.reduceBNe, Int.reduceToNat, Int.reduceAdd, Int.reduceSub, Int.reduceMul, Int.reduceNeg, dec_t h1]
  · by_cases h2 : 57343 < r
    · by_cases h3 : r ≤ 1114111
      · simp (dsimp := false) (disch := first | omega | (simp only [strs_length, List.length_set, List.length_replicate, words_length, ofBytes_length, List.length_append, List.length_cons, List.length_nil, List.length_take, List.length_drop] <;> omega) | fail) only [L.utf8_ValidRune, go_sem, reduceIte, reduceCtorEq, Nat.reduceEqDiff, Nat.reduceAdd, Nat.reduceSub, Nat.reduceMul, Nat.reduceDiv, Nat.reduceMod, Nat.reduceBEq, Nat.reduceLeDiff, Nat.reduceLT, Int.reduceEq, Int.reduceNe, Int.reduceLT, Int.reduceLE, Int.reduceBEq, Int.reduceBNe, Int.reduceToNat, Int.reduceAdd, Int.reduceSub, Int.reduceMul, Int.reduceNeg, dec_f h1, dec_t h2, dec_t h3]
      · simp (dsimp := false) (disch := first | omega | (simp only [strs_length, List.length_set, List.length_replicate, words_length, ofBytes_length, List.length_append, List.length_cons, List.length_nil, List.length_take, List.length_drop] <;> omega) | fail) only [L.utf8_ValidRune, go_sem, reduceIte, reduceCtorEq, Nat.reduceEqDiff, Nat.reduceAdd, Nat.reduceSub, Nat.reduceMul, Nat.reduceDiv, Nat.reduceMod, Nat.reduceBEq, Nat.reduceLeDiff, Nat.reduceLT, Int.reduceEq, Int.reduceNe, Int.reduceLT, Int.reduceLE, Int.reduceBEq, Int.reduceBNe, Int.reduceToNat, Int.reduceAdd, Int.reduceSub, Int.reduceMul, Int.reduceNeg, dec_f h1, dec_t h2, dec_f h3]
    · simp (dsimp := false) (disch := first | omega | (simp only [strs_length, List.length_set, List.length_replicate, words_length, ofBytes_length, List.length_append, List.length_cons, List.length_nil, List.length_take, List.length_drop] <;> omega) | fail) only [L.utf8_ValidRune, go_sem, reduceIte, reduceCtorEq, Nat.reduceEqDiff, Nat.reduceAdd, Nat.reduceSub, Nat.reduceMul, Nat.reduceDiv, Nat.reduceMod, Nat.reduceBEq, Nat.reduceLeDiff, Nat.reduceLT, Int.reduceEq, Int.reduceNe, Int.reduceLT, Int.reduceLE, Int.reduceBEq, Int.reduceBNe, Int.reduceToNat, Int.reduceAdd, Int.reduceSub, Int.reduceMul, Int.reduceNeg, dec_f h1, dec_f h2]
theorem go_sindex {l : List UInt8} {c : Int} : S E0 F.strings_IndexByte [.str l, .int .u8 c] [] = some (.int .i64 (indexB l (byt c)), []) := by
  rw [S_of0 fn_strings_IndexByte rfl rfl]
  have h : S E0 F.stringslite_IndexByte [.str l, .int .u8 c] [] = some (.int .i64 (indexB l (byt c)), []) := by
    rw [S_of0 fn_stringslite_IndexByte rfl rfl]
    simp (dsimp := false) (disch := first | omega | (simp only [strs_length, List.length_set, List.length_replicate, words_length, ofBytes_length, List.length_append, List.length_cons, List.length_nil, List.length_take, List.length_drop] <;> omega) | fail) only [L.stringslite_IndexByte, go_sem, reduceIte, reduceCtorEq, Nat.reduceEqDiff, Nat.reduceAdd, Nat.reduceSub, Nat.reduceMul, Nat.reduceDiv, Nat.reduceMod, Nat.reduceBEq, Nat.reduceLeDiff, Nat.reduceLT, Int.reduceEq, Int.reduceNe, Int.reduceLT, Int.reduceLE, Int.reduceBEq, Int.reduceBNe, Int.reduceToNat, Int.reduceAdd, Int.reduceSub, Int.reduceMul, Int.reduceNeg, S_indexS]
  simp (dsimp := false) (disch := first | omega | (simp only [strs_length, List.length_set, List.length_replicate, words_length, ofBytes_length, List.length_append, List.length_cons, List.length_nil, List.length_take, List.length_drop] <;> omega) | fail) only [L.strings_IndexByte, go_sem, reduceIte, reduceCtorEq, Nat.reduceEqDiff, Nat.reduceAdd, Nat.reduceSub, Nat.reduceMul, Nat.reduceDiv, Nat.reduceMod, Nat.reduceBEq, Nat.reduceLeDiff, Nat.reduceLT, Int.reduceEq, Int.reduceNe, Int.reduceLT, Int.reduceLE, Int.reduceBEq, Int.reduceBNe, Int.reduceToNat, Int.reduceAdd, Int.reduceSub, Int.reduceMul, Int.reduceNeg, h]
theorem go_rune_err : S E0 F.strings_IndexRune [.str [47, 0], .int .i32 65533] [] = some (.int .i64 (-1), []) := S_iff.2 ⟨60, by kernel_rfl⟩
theorem go_rune_low {r : Int} (h0 : 0 ≤ r) (h1 : r < 128) : S E0 F.strings_IndexRune [.str [47, 0], .int .i32 r] [] = some (.int .i64 (indexB [47, 0] (byt r)), []) := by
  rw [S_of0 fn_strings_IndexRune rfl rfl]
  have h2 : IntKind.u8.wrap r = r := by rw [wrap_u8]; omega
  simp (dsimp := false) (disch := first | omega | (simp only [strs_length, List.length_set, List.length_replicate, words_length, ofBytes_length, List.length_append, List.length_cons, List.length_nil, List.length_take, List.length_drop] <;> omega) | fail) only [L.strings_IndexRune, go_sem, reduceIte, reduceCtorEq, Nat.reduceEqDiff, Nat.reduceAdd, Nat.reduceSub, Nat.reduceMul, Nat.reduceDiv, Nat.reduceMod, Nat.reduceBEq, Nat.reduceLeDiff, Nat.reduceLT, Int.reduceEq, Int.reduceNe, Int.reduceLT, Int.reduceLE, Int.reduceBEq, Int.reduceBNe, Int.reduceToNat, Int.reduceAdd, Int.reduceSub, Int.reduceMul, Int.reduceNeg, dec_t h0, dec_t h1, h2, go_sindex]
theorem go_rune_high {r : Int} (h0 : 128 ≤ r) (h1 : r ≤ 1114111) : S E0 F.strings_IndexRune [.str [47, 0], .int .i32 r] [] = some (.int .i64 (-1), []) := by
  by_cases he : r = 65533
  · subst he; exact go_rune_err
  · have h2 : ¬ r < 128 := by omega
    have h3 : (0 : Int) ≤ r := by omega
    rw [S_of0 fn_strings_IndexRune rfl rfl]
    have hvv : S E0 F.utf8_ValidRune [.int .i32 r] [] = some (.bool (decide (r < 55296) || decide (57343 < r)), []) := by rw [go_valid h0, dec_t h1, Bool.and_true]
    cases hv : (decide (r < 55296) || decide (57343 < r)) with
    | false => simp (dsimp := false) (disch := first | omega | (simp only [strs_length, List.length_set, List.length_replicate, words_length, ofBytes_length, List.length_append, List.length_cons, List.length_nil, List.length_take, List.length_drop] <;> omega) | fail) only [L.strings_IndexRune, go_sem, reduceIte, reduceCtorEq, Nat.reduceEqDiff, Nat.reduceAdd, Nat.reduceSub, Nat.reduceMul, Nat.reduceDiv, Nat.reduceMod, Nat.reduceBEq, Nat.reduceLeDiff, Nat.reduceLT, Int.reduceEq, Int.reduceNe, Int.reduceLT, Int.reduceLE, Int.reduceBEq, Int.reduceBNe, Int.reduceToNat, Int.reduceAdd, Int.reduceSub, Int.reduceMul, Int.reduceNeg, dec_t h3, dec_f h2, beq_f he, hvv, hv]
    | true =>
      obtain ⟨e1, e2, e3⟩ := enc_high h0 h1
      simp (dsimp := false) (disch := first | omega | (simp only [strs_length, List.length_set, List.length_replicate, words_length, ofBytes_length, List.length_append, List.length_cons, List.length_nil, List.length_take, List.length_drop] <;> omega) | fail) only [L.strings_IndexRune, go_sem, reduceIte, reduceCtorEq, Nat.reduceEqDiff, Nat.reduceAdd, Nat.reduceSub, Nat.reduceMul, Nat.reduceDiv, Nat.reduceMod, Nat.reduceBEq, Nat.reduceLeDiff, Nat.reduceLT, Int.reduceEq, Int.reduceNe, Int.reduceLT, Int.reduceLE, Int.reduceBEq, Int.reduceBNe, Int.reduceToNat, Int.reduceAdd, Int.reduceSub, Int.reduceMul, Int.reduceNeg, dec_t h3, dec_f h2, beq_f he, hvv, hv]
      rw [X_in L.strings_IndexRune.x1.eq_1]
      by_cases e4 : (encS r).length = 2
      · have e5 := e3 e4
        have b1 : bat [47, 0] 1 = 0 := rfl
        have b2 : ((((0 : UInt8).toNat : Nat) : Int) != bat (encS r) 1) = true := bne_t (by show (0 : Int) ≠ _; omega)
        have b3 : (((2 : Nat) : Int) - 1).toNat = 1 := rfl
        have b4 : indexB ([47, 0].drop (((2 : Nat) : Int) - 1 + 1).toNat) (byt (bat (encS r) 1)) = -1 := rfl
        have b5 : indexB [] (byt (bat (encS r) 1)) = -1 := rfl
        simp (dsimp := false) (disch := first | omega | (simp only [strs_length, List.length_set, List.length_replicate, words_length, ofBytes_length, List.length_append, List.length_cons, List.length_nil, List.length_take, List.length_drop] <;> omega) | fail) only [go_sem, reduceIte, reduceCtorEq, Nat.reduceEqDiff, Nat.reduceAdd, Nat.reduceSub, Nat.reduceMul, Nat.reduceDiv, Nat.reduceMod, Nat.reduceBEq, Nat.reduceLeDiff, Nat.reduceLT, Int.reduceEq, Int.reduceNe, Int.reduceLT, Int.reduceLE, Int.reduceBEq, Int.reduceBNe, Int.reduceToNat, Int.reduceAdd, Int.reduceSub, Int.reduceMul, Int.reduceNeg, L.strings_IndexRune.r2, e4, b1, b2, b3, go_sindex, sub_take, take_len, sub_drop, b4, b5, List.drop_nil]
      · simp (dsimp := false) (disch := first | omega | (simp only [strs_length, List.length_set, List.length_replicate, words_length, ofBytes_length, List.length_append, List.length_cons, List.length_nil, List.length_take, List.length_drop] <;> omega) | fail) only [go_sem, reduceIte, reduceCtorEq, Nat.reduceEqDiff, Nat.reduceAdd, Nat.reduceSub, Nat.reduceMul, Nat.reduceDiv, Nat.reduceMod, Nat.reduceBEq, Nat.reduceLeDiff, Nat.reduceLT, Int.reduceEq, Int.reduceNe, Int.reduceLT, Int.reduceLE, Int.reduceBEq, Int.reduceBNe, Int.reduceToNat, Int.reduceAdd, Int.reduceSub, Int.reduceMul, Int.reduceNeg, L.strings_IndexRune.r2]
/-- Is there a '/' or a zero? -/
def bad2 (b : UInt8) : Bool := b == 47 || b == 0
theorem index2 (b : UInt8) : (0 ≤ indexB [47, 0] b) ↔ bad2 b = true := by
  unfold indexB bad2
  by_cases h1 : b = 47
  · subst h1; simp
  · by_cases h2 : b = 0
    · subst h2; simp [List.idxOf_cons]
    · simp [h1, h2]
theorem byt_bat (l : List UInt8) (i : Nat) : byt (bat l i) = l.getD i 0 := by
  unfold byt bat
  rw [Int.toNat_natCast, UInt8.ofNat_toNat]
/-- The walk over runes. -/
theorem any_walk {s : List UInt8} (hs : s.length ≤ 1000000) : ∀ (m p : Nat), p + m ≤ s.length → s.length ≤ p + m → ∃ i : Int, ((0 ≤ i) ↔ (s.drop p).any bad2 = true) ∧
    X E0 [.tmp 4] (.c L.strings_IndexAny.x1 :: .lp [1, 45] L.strings_IndexAny.x1 :: .blk 2 :: .c L.strings_IndexAny.r2 :: []) ⟨[(1, .str [47, 0]), (45, .it (.s 1000000 0) 0)], [(.s 1000000 0, ⟨0, true, true, true, [.itr s p]⟩)]⟩ = some (.int .i64 i, []) := by
  intro m
  induction m using Nat.strongRecOn with
  | _ m ih =>
    intro p h1 h2
    rw [X_in L.strings_IndexAny.x1.eq_1]
    by_cases hp : p < s.length
    · have hd : s.drop p = s.getD p 0 :: s.drop (p + 1) := by
        rw [List.drop_eq_getElem_cons hp]; simp [hp]
      rcases dec_facts hp with ⟨e1, e2, e3⟩ | ⟨e1, e2, e3, e4, e5⟩
      · cases hbad : bad2 (s.getD p 0) with
        | true =>
          have h3 := (index2 (byt (bat s p))).2 (by rw [byt_bat]; exact hbad)
          refine ⟨p, ⟨fun _ => by rw [hd, List.any_cons, hbad]; rfl, fun _ => by omega⟩, ?_⟩
          simp (dsimp := false) (disch := first | omega | (simp only [strs_length, List.length_set, List.length_replicate, words_length, ofBytes_length, List.length_append, List.length_cons, List.length_nil, List.length_take, List.length_drop] <;> omega) | fail) only [go_sem, reduceIte, reduceCtorEq, Nat.reduceEqDiff, Nat.reduceAdd, Nat.reduceSub, Nat.reduceMul, Nat.reduceDiv, Nat.reduceMod, Nat.reduceBEq, Nat.reduceLeDiff, Nat.reduceLT, Int.reduceEq, Int.reduceNe, Int.reduceLT, Int.reduceLE, Int.reduceBEq, Int.reduceBNe, Int.reduceToNat, Int.reduceAdd, Int.reduceSub, Int.reduceMul, Int.reduceNeg, hp, e2, e3, go_rune_low (bat_range s p).1 e1, dec_t h3]
        | false =>
          have h3 : ¬ 0 ≤ indexB [47, 0] (byt (bat s p)) := fun h => by rw [index2, byt_bat, hbad] at h; cases h
          obtain ⟨i, h4, h5⟩ := ih (m - 1) (by omega) (p + 1) (by omega) (by omega)
          refine ⟨i, by rw [h4, hd, List.any_cons, hbad, Bool.false_or], ?_⟩
          rw [← h5]
          simp (dsimp := false) (disch := first | omega | (simp only [strs_length, List.length_set, List.length_replicate, words_length, ofBytes_length, List.length_append, List.length_cons, List.length_nil, List.length_take, List.length_drop] <;> omega) | fail) only [go_sem, reduceIte, reduceCtorEq, Nat.reduceEqDiff, Nat.reduceAdd, Nat.reduceSub, Nat.reduceMul, Nat.reduceDiv, Nat.reduceMod, Nat.reduceBEq, Nat.reduceLeDiff, Nat.reduceLT, Int.reduceEq, Int.reduceNe, Int.reduceLT, Int.reduceLE, Int.reduceBEq, Int.reduceBNe, Int.reduceToNat, Int.reduceAdd, Int.reduceSub, Int.reduceMul, Int.reduceNeg, hp, e2, e3, go_rune_low (bat_range s p).1 e1, dec_f h3]
      · have hw : p + (decS s p).2 ≤ s.length := by
          have := (e5 (p + (decS s p).2 - 1) (by omega) (by omega)).1
          omega
        obtain ⟨i, h4, h5⟩ := ih (m - (decS s p).2) (by omega) (p + (decS s p).2) (by omega) (by omega)
        refine ⟨i, ?_, ?_⟩
        · rw [h4]
          have : ∀ w, p + w ≤ s.length → (∀ j, p ≤ j → j < p + w → j < s.length ∧ 128 ≤ bat s j) → (s.drop p).any bad2 = (s.drop (p + w)).any bad2 := by
            intro w
            induction w with
            | zero => intro _ _; rfl
            | succ w ihw =>
              intro hw1 hw2
              rw [ihw (by omega) (fun j j1 j2 => hw2 j j1 (by omega)), List.drop_eq_getElem_cons (by omega : p + w < s.length), List.any_cons]
              have hh := (hw2 (p + w) (by omega) (by omega)).2
              have : bad2 s[p + w] = false := by
                unfold bat at hh
                rw [List.getD_eq_getElem?_getD, List.getElem?_eq_getElem (by omega), Option.getD_some] at hh
                unfold bad2
                rw [Bool.or_eq_false_iff, beq_eq_false_iff_ne, beq_eq_false_iff_ne]
                constructor <;> (intro hx; rw [hx] at hh; simp at hh)
              rw [this, Bool.false_or]
              rfl
          rw [this _ hw e5]
        · rw [← h5]
          have h6 := go_rune_high (r := ((decS s p).1 : Int)) (by omega) (by omega)
          simp (dsimp := false) (disch := first | omega | (simp only [strs_length, List.length_set, List.length_replicate, words_length, ofBytes_length, List.length_append, List.length_cons, List.length_nil, List.length_take, List.length_drop] <;> omega) | fail) only [go_sem, reduceIte, reduceCtorEq, Nat.reduceEqDiff, Nat.reduceAdd, Nat.reduceSub, Nat.reduceMul, Nat.reduceDiv, Nat.reduceMod, Nat.reduceBEq, Nat.reduceLeDiff, Nat.reduceLT, Int.reduceEq, Int.reduceNe, Int.reduceLT, Int.reduceLE, Int.reduceBEq, Int.reduceBNe, Int.reduceToNat, Int.reduceAdd, Int.reduceSub, Int.reduceMul, Int.reduceNeg, hp, h6]
    · refine ⟨-1, ⟨fun h => by omega, fun h => by rw [List.drop_of_length_le (by omega)] at h; simp at h⟩, ?_⟩
      simp (dsimp := false) (disch := first | omega | (simp only [strs_length, List.length_set, List.length_replicate, words_length, ofBytes_length, List.length_append, List.length_cons, List.length_nil, List.length_take, List.length_drop] <;> omega) | fail) only [go_sem, reduceIte, reduceCtorEq, Nat.reduceEqDiff, Nat.reduceAdd, Nat.reduceSub, Nat.reduceMul, Nat.reduceDiv, Nat.reduceMod, Nat.reduceBEq, Nat.reduceLeDiff, Nat.reduceLT, Int.reduceEq, Int.reduceNe, Int.reduceLT, Int.reduceLE, Int.reduceBEq, Int.reduceBNe, Int.reduceToNat, Int.reduceAdd, Int.reduceSub, Int.reduceMul, Int.reduceNeg, hp, L.strings_IndexAny.r2]
/-- The table of the two. -/
def set2 : List AV := (List.range 256).map fun i => .bool (i == 47 || i == 0)
theorem go_set : S E0 F.strings_makeASCIISet [.str [47, 0]] [] = some (.tup [.agg set2, .bool true], []) := S_iff.2 ⟨60, by kernel_rfl⟩
theorem set2_get : ∀ n : Nat, n < 256 → set2[n]? = some (.bool (bad2 (UInt8.ofNat n))) := by
  intro n hn
  simp only [set2, List.getElem?_map, List.getElem?_range hn, Option.map_some, bad2]
  have : ∀ n : Nat, n < 256 → (n == 47 || n == 0) = (UInt8.ofNat n == 47 || UInt8.ofNat n == 0) := by decide +kernel
  rw [this n hn]
theorem flats_set2 : flats set2 = true := by kernel_rfl
theorem set2_length : set2.length = 256 := by simp [set2]
end Cod

/- strings.IndexAny and names.Name. -/
namespace Cod
open Go
set_option maxRecDepth 100000

theorem set2_at {b : Int} (h0 : 0 ≤ b) (h1 : b < 256) : set2[b.toNat]? = some (.bool (bad2 (byt b))) := set2_get b.toNat (by omega)
theorem flat2 : leadss set2 = false := by kernel_rfl
theorem refs2 : refsOfs set2 = [] := by kernel_rfl
theorem rens2 (f : Site → Nat → Option (Site × Nat)) : rens f set2 = set2 := rens_flats set2 flats_set2
theorem hards2 : hards set2 = true := by kernel_rfl
theorem go_contains {x : Site} {b : Int} (h0 : 0 ≤ b) (h1 : b < 256) : S E0 F.strings_asciiSet_contains [.ref (.up x) 0 0, .int .u8 b] [(.up x, ⟨0, true, true, true, set2⟩)] = some (.bool (bad2 (byt b)), [(.up x, ⟨0, true, true, true, set2⟩)]) := by
  rw [S_of0 fn_strings_asciiSet_contains rfl rfl]
  simp (dsimp := false) (disch := first | omega | (simp only [strs_length, List.length_set, List.length_replicate, words_length, ofBytes_length, List.length_append, List.length_cons, List.length_nil, List.length_take, List.length_drop] <;> omega) | fail) only [L.strings_asciiSet_contains, go_sem, reduceIte, reduceCtorEq, Nat.reduceEqDiff, Nat.reduceAdd, Nat.reduceSub, Nat.reduceMul, Nat.reduceDiv, Nat.reduceMod, Nat.reduceBEq, Nat.reduceLeDiff, Nat.reduceLT, Int.reduceEq, Int.reduceNe, Int.reduceLT, Int.reduceLE, Int.reduceBEq, Int.reduceBNe, Int.reduceToNat, Int.reduceAdd, Int.reduceSub, Int.reduceMul, Int.reduceNeg, set2_length, flats_set2, flat2, refs2, rens2, hards2, set2_at h0 h1]
theorem set_walk {s : List UInt8} (hs : s.length ≤ 1000000) : ∀ (m p : Nat), p + m = s.length → ∃ i : Int, ((0 ≤ i) ↔ (s.drop p).any bad2 = true) ∧
    X E0 [.tmp 4] (.c L.strings_IndexAny.x0 :: .lp [0, 6, 8] L.strings_IndexAny.x0 :: .blk 0 :: .c L.strings_IndexAny.r0 :: .c L.strings_IndexAny.r1 :: []) ⟨[(0, .str s), (6, .ref (.s 1000000 0) 0 0), (8, .int .i64 p)], [(.s 1000000 0, ⟨0, true, true, true, set2⟩)]⟩ = some (.int .i64 i, []) := by
  intro m
  induction m with
  | zero =>
    intro p h
    refine ⟨-1, ⟨fun h => by omega, fun h => by rw [List.drop_of_length_le (by omega)] at h; simp at h⟩, ?_⟩
    rw [X_in L.strings_IndexAny.x0.eq_1]
    simp (dsimp := false) (disch := first | omega | (simp only [strs_length, List.length_set, List.length_replicate, words_length, ofBytes_length, List.length_append, List.length_cons, List.length_nil, List.length_take, List.length_drop] <;> omega) | fail) only [go_sem, reduceIte, reduceCtorEq, Nat.reduceEqDiff, Nat.reduceAdd, Nat.reduceSub, Nat.reduceMul, Nat.reduceDiv, Nat.reduceMod, Nat.reduceBEq, Nat.reduceLeDiff, Nat.reduceLT, Int.reduceEq, Int.reduceNe, Int.reduceLT, Int.reduceLE, Int.reduceBEq, Int.reduceBNe, Int.reduceToNat, Int.reduceAdd, Int.reduceSub, Int.reduceMul, Int.reduceNeg, set2_length, flats_set2, flat2, refs2, rens2, hards2, L.strings_IndexAny.r0]
  | succ m ih =>
    intro p h
    have hp : p < s.length := by omega
    have hd : s.drop p = s.getD p 0 :: s.drop (p + 1) := by
      rw [List.drop_eq_getElem_cons hp]; simp [hp]
    obtain ⟨b0, b1⟩ := bat_range s p
    cases hbad : bad2 (s.getD p 0) with
    | true =>
      have h3 : bad2 (byt (bat s p)) = true := by rw [byt_bat]; exact hbad
      refine ⟨p, ⟨fun _ => by rw [hd, List.any_cons, hbad]; rfl, fun _ => by omega⟩, ?_⟩
      rw [X_in L.strings_IndexAny.x0.eq_1]
      simp (dsimp := false) (disch := first | omega | (simp only [strs_length, List.length_set, List.length_replicate, words_length, ofBytes_length, List.length_append, List.length_cons, List.length_nil, List.length_take, List.length_drop] <;> omega) | fail) only [go_sem, reduceIte, reduceCtorEq, Nat.reduceEqDiff, Nat.reduceAdd, Nat.reduceSub, Nat.reduceMul, Nat.reduceDiv, Nat.reduceMod, Nat.reduceBEq, Nat.reduceLeDiff, Nat.reduceLT, Int.reduceEq, Int.reduceNe, Int.reduceLT, Int.reduceLE, Int.reduceBEq, Int.reduceBNe, Int.reduceToNat, Int.reduceAdd, Int.reduceSub, Int.reduceMul, Int.reduceNeg, set2_length, flats_set2, flat2, refs2, rens2, hards2, go_contains b0 b1, h3]
    | false =>
      have h3 : bad2 (byt (bat s p)) = false := by rw [byt_bat]; exact hbad
      obtain ⟨i, h4, h5⟩ := ih (p + 1) (by omega)
      refine ⟨i, by rw [h4, hd, List.any_cons, hbad, Bool.false_or], ?_⟩
      rw [← h5, X_in L.strings_IndexAny.x0.eq_1]
      simp (dsimp := false) (disch := first | omega | (simp only [strs_length, List.length_set, List.length_replicate, words_length, ofBytes_length, List.length_append, List.length_cons, List.length_nil, List.length_take, List.length_drop] <;> omega) | fail) only [go_sem, reduceIte, reduceCtorEq, Nat.reduceEqDiff, Nat.reduceAdd, Nat.reduceSub, Nat.reduceMul, Nat.reduceDiv, Nat.reduceMod, Nat.reduceBEq, Nat.reduceLeDiff, Nat.reduceLT, Int.reduceEq, Int.reduceNe, Int.reduceLT, Int.reduceLE, Int.reduceBEq, Int.reduceBNe, Int.reduceToNat, Int.reduceAdd, Int.reduceSub, Int.reduceMul, Int.reduceNeg, set2_length, flats_set2, flat2, refs2, rens2, hards2, go_contains b0 b1, h3]
      rfl
theorem go_use {n : Int} : S E0 F.strings_shouldUseASCIISet [.int .i64 n] [] = some (.bool (decide (8 < n)), []) := by
  rw [S_of0 fn_strings_shouldUseASCIISet rfl rfl]
  simp (dsimp := false) (disch := first | omega | (simp only [strs_length, List.length_set, List.length_replicate, words_length, ofBytes_length, List.length_append, List.length_cons, List.length_nil, List.length_take, List.length_drop] <;> omega) | fail) only [L.strings_shouldUseASCIISet, go_sem, reduceIte, reduceCtorEq, Nat.reduceEqDiff, Nat.reduceAdd, Nat.reduceSub, Nat.reduceMul, Nat.reduceDiv, Nat.reduceMod, Nat.reduceBEq, Nat.reduceLeDiff, Nat.reduceLT, Int.reduceEq, Int.reduceNe, Int.reduceLT, Int.reduceLE, Int.reduceBEq, Int.reduceBNe, Int.reduceToNat, Int.reduceAdd, Int.reduceSub, Int.reduceMul, Int.reduceNeg]
theorem go_any {s : List UInt8} (hs : s.length ≤ 1000000) : ∃ i : Int, ((0 ≤ i) ↔ s.any bad2 = true) ∧ S E0 F.strings_IndexAny [.str s, .str [47, 0]] [] = some (.int .i64 i, []) := by
  rw [S_of0 fn_strings_IndexAny rfl rfl]
  have e0 : (([47, 0] : List UInt8) == []) = false := rfl
  by_cases h8 : 8 < s.length
  · obtain ⟨i, h1, h2⟩ := set_walk hs s.length 0 (by omega)
    refine ⟨i, by simpa using h1, ?_⟩
    rw [← h2]
    have h9 : decide (8 < (s.length : Int)) = true := by simp; omega
    simp (dsimp := false) (disch := first | omega | (simp only [strs_length, List.length_set, List.length_replicate, words_length, ofBytes_length, List.length_append, List.length_cons, List.length_nil, List.length_take, List.length_drop] <;> omega) | fail) only [L.strings_IndexAny, go_sem, reduceIte, reduceCtorEq, Nat.reduceEqDiff, Nat.reduceAdd, Nat.reduceSub, Nat.reduceMul, Nat.reduceDiv, Nat.reduceMod, Nat.reduceBEq, Nat.reduceLeDiff, Nat.reduceLT, Int.reduceEq, Int.reduceNe, Int.reduceLT, Int.reduceLE, Int.reduceBEq, Int.reduceBNe, Int.reduceToNat, Int.reduceAdd, Int.reduceSub, Int.reduceMul, Int.reduceNeg, set2_length, flats_set2, flat2, refs2, rens2, hards2, e0, go_use, h9, go_set]
    rfl
  · obtain ⟨i, h1, h2⟩ := any_walk hs s.length 0 (by omega) (by omega)
    refine ⟨i, by simpa using h1, ?_⟩
    rw [← h2]
    have h9 : decide (8 < (s.length : Int)) = false := by simp; omega
    simp (dsimp := false) (disch := first | omega | (simp only [strs_length, List.length_set, List.length_replicate, words_length, ofBytes_length, List.length_append, List.length_cons, List.length_nil, List.length_take, List.length_drop] <;> omega) | fail) only [L.strings_IndexAny, go_sem, reduceIte, reduceCtorEq, Nat.reduceEqDiff, Nat.reduceAdd, Nat.reduceSub, Nat.reduceMul, Nat.reduceDiv, Nat.reduceMod, Nat.reduceBEq, Nat.reduceLeDiff, Nat.reduceLT, Int.reduceEq, Int.reduceNe, Int.reduceLT, Int.reduceLE, Int.reduceBEq, Int.reduceBNe, Int.reduceToNat, Int.reduceAdd, Int.reduceSub, Int.reduceMul, Int.reduceNeg, set2_length, flats_set2, flat2, refs2, rens2, hards2, e0, go_use, h9, L.strings_IndexAny.r1]
theorem go_containsAny {s : List UInt8} (hs : s.length ≤ 1000000) : S E0 F.strings_ContainsAny [.str s, .str [47, 0]] [] = some (.bool (s.any bad2), []) := by
  rw [S_of0 fn_strings_ContainsAny rfl rfl]
  obtain ⟨i, h1, h2⟩ := go_any hs
  have h3 : decide (0 ≤ i) = s.any bad2 := by
    cases h : s.any bad2 with
    | true => simp [h1.2 h]
    | false => rw [decide_eq_false_iff_not, h1, h]; simp
  simp (dsimp := false) (disch := first | omega | (simp only [strs_length, List.length_set, List.length_replicate, words_length, ofBytes_length, List.length_append, List.length_cons, List.length_nil, List.length_take, List.length_drop] <;> omega) | fail) only [L.strings_ContainsAny, go_sem, reduceIte, reduceCtorEq, Nat.reduceEqDiff, Nat.reduceAdd, Nat.reduceSub, Nat.reduceMul, Nat.reduceDiv, Nat.reduceMod, Nat.reduceBEq, Nat.reduceLeDiff, Nat.reduceLT, Int.reduceEq, Int.reduceNe, Int.reduceLT, Int.reduceLE, Int.reduceBEq, Int.reduceBNe, Int.reduceToNat, Int.reduceAdd, Int.reduceSub, Int.reduceMul, Int.reduceNeg, h2, h3]
theorem isGit_ascii {s : List UInt8} (hs : s.length = 4) (h : isGit s = true) : bat s 1 < 128 ∧ bat s 2 < 128 := by
  rw [← git4_eq hs] at h
  simp only [git4, Bool.and_eq_true, decide_eq_true_eq] at h
  exact ⟨h.2.1.1, h.2.2.1.1⟩
theorem any_bad (s : List UInt8) : s.any bad2 = (s.contains 47 || s.contains 0) := by
  induction s with
  | nil => rfl
  | cons b s ih =>
    rw [List.any_cons, ih, List.contains_cons, List.contains_cons]
    unfold bad2
    rw [show (47 == b) = (b == 47) from Bool.beq_comm, show (0 == b) = (b == 0) from Bool.beq_comm]
    cases (b == 47) <;> cases (b == 0) <;> cases s.contains 47 <;> cases s.contains 0 <;> rfl
theorem isGit_len {s : List UInt8} (h : s.length ≠ 4) : isGit s = false := by
  unfold isGit
  split
  · exact absurd rfl h
  · rfl
theorem go_name {s : List UInt8} (hs : s.length ≤ 1000000) : S E0 F.names_Name [.str s] [] = some (.bool (nameOK s), []) := by
  rw [S_of0 fn_names_Name rfl rfl]
  cases c1 : (s == []) with
  | true =>
    have : nameOK s = false := by rw [eq_of_beq c1]; rfl
    rw [this]
    simp (dsimp := false) (disch := first | omega | (simp only [strs_length, List.length_set, List.length_replicate, words_length, ofBytes_length, List.length_append, List.length_cons, List.length_nil, List.length_take, List.length_drop] <;> omega) | fail) only [L.names_Name, go_sem, reduceIte, reduceCtorEq, Nat.reduceEqDiff, Nat.reduceAdd, Nat.reduceSub, Nat.reduceMul, Nat.reduceDiv, Nat.reduceMod, Nat.reduceBEq, Nat.reduceLeDiff, Nat.reduceLT, Int.reduceEq, Int.reduceNe, Int.reduceLT, Int.reduceLE, Int.reduceBEq, Int.reduceBNe, Int.reduceToNat, Int.reduceAdd, Int.reduceSub, Int.reduceMul, Int.reduceNeg, c1]
  | false =>
  cases c2 : (s == [46]) with
  | true =>
    have : nameOK s = false := by rw [eq_of_beq c2]; rfl
    rw [this]
    simp (dsimp := false) (disch := first | omega | (simp only [strs_length, List.length_set, List.length_replicate, words_length, ofBytes_length, List.length_append, List.length_cons, List.length_nil, List.length_take, List.length_drop] <;> omega) | fail) only [L.names_Name, go_sem, reduceIte, reduceCtorEq, Nat.reduceEqDiff, Nat.reduceAdd, Nat.reduceSub, Nat.reduceMul, Nat.reduceDiv, Nat.reduceMod, Nat.reduceBEq, Nat.reduceLeDiff, Nat.reduceLT, Int.reduceEq, Int.reduceNe, Int.reduceLT, Int.reduceLE, Int.reduceBEq, Int.reduceBNe, Int.reduceToNat, Int.reduceAdd, Int.reduceSub, Int.reduceMul, Int.reduceNeg, c1, c2]
  | false =>
  cases c3 : (s == [46, 46]) with
  | true =>
    have : nameOK s = false := by rw [eq_of_beq c3]; rfl
    rw [this]
    simp (dsimp := false) (disch := first | omega | (simp only [strs_length, List.length_set, List.length_replicate, words_length, ofBytes_length, List.length_append, List.length_cons, List.length_nil, List.length_take, List.length_drop] <;> omega) | fail) only [L.names_Name, go_sem, reduceIte, reduceCtorEq, Nat.reduceEqDiff, Nat.reduceAdd, Nat.reduceSub, Nat.reduceMul, Nat.reduceDiv, Nat.reduceMod, Nat.reduceBEq, Nat.reduceLeDiff, Nat.reduceLT, Int.reduceEq, Int.reduceNe, Int.reduceLT, Int.reduceLE, Int.reduceBEq, Int.reduceBNe, Int.reduceToNat, Int.reduceAdd, Int.reduceSub, Int.reduceMul, Int.reduceNeg, c1, c2, c3]
  | false =>
  have hl : 1 ≤ s.length := by
    cases s with
    | nil => simp at c1
    | cons b s => simp
  by_cases c4 : 100 < s.length
  · have : nameOK s = false := by
      unfold nameOK
      rw [show decide (s.length ≤ 100) = false from dec_f (by omega)]
      simp
    have c4' : decide (100 < (s.length : Int)) = true := dec_t (by omega)
    rw [this]
    simp (dsimp := false) (disch := first | omega | (simp only [strs_length, List.length_set, List.length_replicate, words_length, ofBytes_length, List.length_append, List.length_cons, List.length_nil, List.length_take, List.length_drop] <;> omega) | fail) only [L.names_Name, go_sem, reduceIte, reduceCtorEq, Nat.reduceEqDiff, Nat.reduceAdd, Nat.reduceSub, Nat.reduceMul, Nat.reduceDiv, Nat.reduceMod, Nat.reduceBEq, Nat.reduceLeDiff, Nat.reduceLT, Int.reduceEq, Int.reduceNe, Int.reduceLT, Int.reduceLE, Int.reduceBEq, Int.reduceBNe, Int.reduceToNat, Int.reduceAdd, Int.reduceSub, Int.reduceMul, Int.reduceNeg, c1, c2, c3, c4']
  · have c4' : decide (100 < (s.length : Int)) = false := dec_f (by omega)
    have hn : nameOK s = (!(s.any bad2) && !isGit s) := by
      unfold nameOK
      rw [any_bad, show decide (s.length ≤ 100) = true from dec_t (by omega), show decide (1 ≤ s.length) = true from dec_t hl, show (s != [46]) = true by simp [bne, c2], show (s != [46, 46]) = true by simp [bne, c3]]
      cases s.contains 47 <;> cases s.contains 0 <;> cases isGit s <;> rfl
    by_cases c5 : s.length = 4
    · have c5' : ((s.length : Int) == 4) = true := beq_t (by omega)
      have hf := go_fold c5
      rw [git4_eq c5] at hf
      cases hg : isGit s with
      | true =>
        obtain ⟨g1, g2⟩ := isGit_ascii c5 hg
        rw [hg] at hf
        rw [hn, hg]
        simp (dsimp := false) (disch := first | omega | (simp only [strs_length, List.length_set, List.length_replicate, words_length, ofBytes_length, List.length_append, List.length_cons, List.length_nil, List.length_take, List.length_drop] <;> omega) | fail) only [L.names_Name, go_sem, reduceIte, reduceCtorEq, Nat.reduceEqDiff, Nat.reduceAdd, Nat.reduceSub, Nat.reduceMul, Nat.reduceDiv, Nat.reduceMod, Nat.reduceBEq, Nat.reduceLeDiff, Nat.reduceLT, Int.reduceEq, Int.reduceNe, Int.reduceLT, Int.reduceLE, Int.reduceBEq, Int.reduceBNe, Int.reduceToNat, Int.reduceAdd, Int.reduceSub, Int.reduceMul, Int.reduceNeg, c1, c2, c3, c4', c5', hf, dec_t g1, dec_t g2, Bool.not_true, Bool.and_false]
      | false =>
        rw [hg] at hf
        rw [hn, hg]
        simp (dsimp := false) (disch := first | omega | (simp only [strs_length, List.length_set, List.length_replicate, words_length, ofBytes_length, List.length_append, List.length_cons, List.length_nil, List.length_take, List.length_drop] <;> omega) | fail) only [L.names_Name, go_sem, reduceIte, reduceCtorEq, Nat.reduceEqDiff, Nat.reduceAdd, Nat.reduceSub, Nat.reduceMul, Nat.reduceDiv, Nat.reduceMod, Nat.reduceBEq, Nat.reduceLeDiff, Nat.reduceLT, Int.reduceEq, Int.reduceNe, Int.reduceLT, Int.reduceLE, Int.reduceBEq, Int.reduceBNe, Int.reduceToNat, Int.reduceAdd, Int.reduceSub, Int.reduceMul, Int.reduceNeg, c1, c2, c3, c4', c5', hf, go_containsAny hs, Bool.not_false, Bool.and_true]
    · have c5' : ((s.length : Int) == 4) = false := beq_f (by omega)
      rw [hn, isGit_len c5]
      simp (dsimp := false) (disch := first | omega | (simp only [strs_length, List.length_set, List.length_replicate, words_length, ofBytes_length, List.length_append, List.length_cons, List.length_nil, List.length_take, List.length_drop] <;> omega) | fail) only [L.names_Name, go_sem, reduceIte, reduceCtorEq, Nat.reduceEqDiff, Nat.reduceAdd, Nat.reduceSub, Nat.reduceMul, Nat.reduceDiv, Nat.reduceMod, Nat.reduceBEq, Nat.reduceLeDiff, Nat.reduceLT, Int.reduceEq, Int.reduceNe, Int.reduceLT, Int.reduceLE, Int.reduceBEq, Int.reduceBNe, Int.reduceToNat, Int.reduceAdd, Int.reduceSub, Int.reduceMul, Int.reduceNeg, c1, c2, c3, c4', c5', go_containsAny hs, Bool.not_false, Bool.and_true]
end Cod

/- strings.Index of one byte; strings.SplitSeq. -/
namespace Cod
open Go
set_option maxRecDepth 100000

theorem go_index {s : List UInt8} : S E0 F.strings_Index [.str s, .str [47]] [] = some (.int .i64 (indexB s 47), []) := by
  have h : S E0 F.stringslite_Index [.str s, .str [47]] [] = some (.int .i64 (indexB s 47), []) := by
    have h1 : S E0 F.stringslite_IndexByte [.str s, .int .u8 47] [] = some (.int .i64 (indexB s 47), []) := by
      rw [S_of0 fn_stringslite_IndexByte rfl rfl]
      simp (dsimp := false) (disch := first | omega | (simp only [strs_length, List.length_set, List.length_replicate, words_length, ofBytes_length, List.length_append, List.length_cons, List.length_nil, List.length_take, List.length_drop] <;> omega) | fail) only [L.stringslite_IndexByte, go_sem, reduceIte, reduceCtorEq, Nat.reduceEqDiff, Nat.reduceAdd, Nat.reduceSub, Nat.reduceMul, Nat.reduceDiv, Nat.reduceMod, Nat.reduceBEq, Nat.reduceLeDiff, Nat.reduceLT, Int.reduceEq, Int.reduceNe, Int.reduceLT, Int.reduceLE, Int.reduceBEq, Int.reduceBNe, Int.reduceToNat, Int.reduceAdd, Int.reduceSub, Int.reduceMul, Int.reduceNeg, S_indexS]
      rfl
    rw [S_of0 fn_stringslite_Index rfl rfl]
    have b0 : bat [47] 0 = 47 := rfl
    cases hs : (([47] : List UInt8) == s) with
    | true =>
      have := eq_of_beq hs
      subst this
      simp (dsimp := false) (disch := first | omega | (simp only [strs_length, List.length_set, List.length_replicate, words_length, ofBytes_length, List.length_append, List.length_cons, List.length_nil, List.length_take, List.length_drop] <;> omega) | fail) only [L.stringslite_Index, go_sem, reduceIte, reduceCtorEq, Nat.reduceEqDiff, Nat.reduceAdd, Nat.reduceSub, Nat.reduceMul, Nat.reduceDiv, Nat.reduceMod, Nat.reduceBEq, Nat.reduceLeDiff, Nat.reduceLT, Int.reduceEq, Int.reduceNe, Int.reduceLT, Int.reduceLE, Int.reduceBEq, Int.reduceBNe, Int.reduceToNat, Int.reduceAdd, Int.reduceSub, Int.reduceMul, Int.reduceNeg, hs]
      rfl
    | false =>
      have h1' : S E0 F.stringslite_IndexByte [.str s, .int .u8 (((47 : UInt8).toNat : Nat) : Int)] [] = some (.int .i64 (indexB s 47), []) := h1
      simp (dsimp := false) (disch := first | omega | (simp only [strs_length, List.length_set, List.length_replicate, words_length, ofBytes_length, List.length_append, List.length_cons, List.length_nil, List.length_take, List.length_drop] <;> omega) | fail) only [L.stringslite_Index, go_sem, reduceIte, reduceCtorEq, Nat.reduceEqDiff, Nat.reduceAdd, Nat.reduceSub, Nat.reduceMul, Nat.reduceDiv, Nat.reduceMod, Nat.reduceBEq, Nat.reduceLeDiff, Nat.reduceLT, Int.reduceEq, Int.reduceNe, Int.reduceLT, Int.reduceLE, Int.reduceBEq, Int.reduceBNe, Int.reduceToNat, Int.reduceAdd, Int.reduceSub, Int.reduceMul, Int.reduceNeg, hs, h1', b0]
  rw [S_of0 fn_strings_Index rfl rfl]
  simp (dsimp := false) (disch := first | omega | (simp only [strs_length, List.length_set, List.length_replicate, words_length, ofBytes_length, List.length_append, List.length_cons, List.length_nil, List.length_take, List.length_drop] <;> omega) | fail) only [L.strings_Index, go_sem, reduceIte, reduceCtorEq, Nat.reduceEqDiff, Nat.reduceAdd, Nat.reduceSub, Nat.reduceMul, Nat.reduceDiv, Nat.reduceMod, Nat.reduceBEq, Nat.reduceLeDiff, Nat.reduceLT, Int.reduceEq, Int.reduceNe, Int.reduceLT, Int.reduceLE, Int.reduceBEq, Int.reduceBNe, Int.reduceToNat, Int.reduceAdd, Int.reduceSub, Int.reduceMul, Int.reduceNeg, h]
theorem go_split {s : List UInt8} : S E0 F.strings_SplitSeq [.str s, .str [47]] [] = some (.clo F.strings_splitSeq_fn1 [.ref (.r 0) 0 0, .ref (.r 1) 0 0, .ref (.r 2) 0 0],
    [(.r 0, ⟨0, true, true, true, [.str [47]]⟩), (.r 1, ⟨0, true, true, true, [.str s]⟩), (.r 2, ⟨0, true, true, true, [.int .i64 0]⟩)]) := by
  have h : S E0 F.strings_splitSeq [.str s, .str [47], .int .i64 0] [] = some (.clo F.strings_splitSeq_fn1 [.ref (.r 0) 0 0, .ref (.r 1) 0 0, .ref (.r 2) 0 0],
    [(.r 0, ⟨0, true, true, true, [.str [47]]⟩), (.r 1, ⟨0, true, true, true, [.str s]⟩), (.r 2, ⟨0, true, true, true, [.int .i64 0]⟩)]) := by
    rw [S_of0 fn_strings_splitSeq rfl rfl]
    simp (dsimp := false) (disch := first | omega | (simp only [strs_length, List.length_set, List.length_replicate, words_length, ofBytes_length, List.length_append, List.length_cons, List.length_nil, List.length_take, List.length_drop] <;> omega) | fail) only [L.strings_splitSeq, go_sem, reduceIte, reduceCtorEq, Nat.reduceEqDiff, Nat.reduceAdd, Nat.reduceSub, Nat.reduceMul, Nat.reduceDiv, Nat.reduceMod, Nat.reduceBEq, Nat.reduceLeDiff, Nat.reduceLT, Int.reduceEq, Int.reduceNe, Int.reduceLT, Int.reduceLE, Int.reduceBEq, Int.reduceBNe, Int.reduceToNat, Int.reduceAdd, Int.reduceSub, Int.reduceMul, Int.reduceNeg]
  rw [S_of0 fn_strings_SplitSeq rfl rfl]
  simp (dsimp := false) (disch := first | omega | (simp only [strs_length, List.length_set, List.length_replicate, words_length, ofBytes_length, List.length_append, List.length_cons, List.length_nil, List.length_take, List.length_drop] <;> omega) | fail) only [L.strings_SplitSeq, go_sem, reduceIte, reduceCtorEq, Nat.reduceEqDiff, Nat.reduceAdd, Nat.reduceSub, Nat.reduceMul, Nat.reduceDiv, Nat.reduceMod, Nat.reduceBEq, Nat.reduceLeDiff, Nat.reduceLT, Int.reduceEq, Int.reduceNe, Int.reduceLT, Int.reduceLE, Int.reduceBEq, Int.reduceBNe, Int.reduceToNat, Int.reduceAdd, Int.reduceSub, Int.reduceMul, Int.reduceNeg, h]
end Cod

/- Lists of records, as cells. -/
namespace Cod
open Go

theorem flatsA (a b : List AV) : flats (a ++ b) = (flats a && flats b) := by
  induction a with
  | nil => simp [flats]
  | cons x a ih => simp [flats, ih, Bool.and_assoc]
theorem hardsA (a b : List AV) : hards (a ++ b) = (hards a && hards b) := by
  induction a with
  | nil => simp [hards]
  | cons x a ih => simp [hards, ih, Bool.and_assoc]
theorem leadssA (a b : List AV) : leadss (a ++ b) = (leadss a || leadss b) := by
  induction a with
  | nil => simp [leadss]
  | cons x a ih => simp [leadss, ih, Bool.or_assoc]
theorem refsOfsA (a b : List AV) : refsOfs (a ++ b) = refsOfs a ++ refsOfs b := by
  induction a with
  | nil => simp [refsOfs]
  | cons x a ih => simp [refsOfs, ih]
theorem rensA (f : Site → Nat → Option (Site × Nat)) (a b : List AV) : rens f (a ++ b) = rens f a ++ rens f b := by
  induction a with
  | nil => simp [rens]
  | cons x a ih => simp [rens, ih]

section
variable {α : Type} {f : α → List AV} {n : Nat}
theorem recs_flats (h : ∀ a, flats (f a) = true) (l : List α) : flats (l.flatMap f) = true := by
  induction l with
  | nil => rfl
  | cons s l ih => rw [List.flatMap_cons, flatsA, ih, h]; rfl
theorem recs_hards (h : ∀ a, hards (f a) = true) (l : List α) : hards (l.flatMap f) = true := by
  induction l with
  | nil => rfl
  | cons s l ih => rw [List.flatMap_cons, hardsA, ih, h]; rfl
theorem recs_leadss (h : ∀ a, leadss (f a) = false) (l : List α) : leadss (l.flatMap f) = false := by
  induction l with
  | nil => rfl
  | cons s l ih => rw [List.flatMap_cons, leadssA, ih, h]; rfl
theorem recs_refs (h : ∀ a, refsOfs (f a) = []) (l : List α) : refsOfs (l.flatMap f) = [] := by
  induction l with
  | nil => rfl
  | cons s l ih => rw [List.flatMap_cons, refsOfsA, ih, h]; rfl
theorem recs_rens (g : Site → Nat → Option (Site × Nat)) (h : ∀ a, rens g (f a) = f a) (l : List α) : rens g (l.flatMap f) = l.flatMap f := by
  induction l with
  | nil => rfl
  | cons s l ih => rw [List.flatMap_cons, rensA, ih, h]
variable [Inhabited α]
end

/-! ### texts -/
theorem strs_flatMap (l : List (List UInt8)) : strs l = l.flatMap fun s => [.str s] := by
  induction l with
  | nil => rfl
  | cons s l ih => rw [List.flatMap_cons, ← ih]; rfl
theorem flats_strs (l : List (List UInt8)) : flats (strs l) = true := by rw [strs_flatMap]; exact recs_flats (fun _ => rfl) l
theorem hards_strs (l : List (List UInt8)) : hards (strs l) = true := by rw [strs_flatMap]; exact recs_hards (fun _ => rfl) l
theorem leadss_strs (l : List (List UInt8)) : leadss (strs l) = false := by rw [strs_flatMap]; exact recs_leadss (fun _ => rfl) l
theorem refsOfs_strs (l : List (List UInt8)) : refsOfs (strs l) = [] := by rw [strs_flatMap]; exact recs_refs (fun _ => rfl) l
theorem rens_strs (f : Site → Nat → Option (Site × Nat)) (l : List (List UInt8)) : rens f (strs l) = strs l := by rw [strs_flatMap]; exact recs_rens f (fun _ => rfl) l
theorem strs_snoc (l : List (List UInt8)) (s : List UInt8) : strs l ++ [.str s] = strs (l ++ [s]) := by simp [strs]
theorem get_strs {l : List (List UInt8)} {i : Nat} (h : i < l.length) : (strs l)[i]? = some (.str (l.getD i [])) := by simp [strs, h]

end Cod

/- Names, the reference's. -/
namespace Cod
open Go

/-! ### parts -/
end Cod


/- The lean forms of the functions that are used: printed by lit.py (mine) out of the translation. -/
import Derived.Test.YtaahcmnekjlacaaDoorChecked
import Derived.Test.YtaahcmnekjlacaaDoorXLit2
set_option linter.unusedSimpArgs false
set_option linter.unusedVariables false
namespace Cod
open Go
/-- internal/bytealg.IndexRabinKarp[string] -/
def A.bytealg_IndexRabinKarp_string : Ann := ⟨[0, 1, 4, 5, 6, 7, 8, 9, 10, 20, 39, 44, 77], [(0, [4]), (1, [5, 6]), (2, [7]), (3, [8]), (4, [9]), (5, [20]), (7, [8]), (6, [9]), (8, [39]), (9, [4]), (10, [10]), (11, [44]), (12, [8]), (13, [8]), (14, [8]), (15, [10]), (16, [77]), (17, [4]), (18, [4])], [(5, [0, 1, 5, 6, 7, 8, 9]), (11, [0, 1, 5, 6, 7, 8, 10])], [], []⟩
def L.bytealg_IndexRabinKarp_string.x0 : LCode := .seq (.seq (.reg [⟨some 18, .mv (.t 9), none⟩, ⟨some 19, .mv (.t 7), none⟩, ⟨some 20, .bin .lss (.t 18) (.t 19), none⟩] [20]) (.cond (.t 20) (.skip) (.exit 0))) (.seq (.block 1 (.reg [⟨some 23, .mv (.t 8), none⟩, ⟨some 24, .bin .mul (.t 23) (.k (.int .u32 16777619)), none⟩, ⟨some 25, .mv (.t 0), none⟩, ⟨some 26, .mv (.t 9), none⟩, ⟨some 27, .ix 1 none false (.t 25) (.t 26), none⟩, ⟨some 28, .cvi .u32 (.t 27), none⟩, ⟨some 29, .bin .add (.t 24) (.t 28), none⟩, ⟨some 8, .mv (.t 29), none⟩] [8])) (.reg [⟨some 21, .mv (.t 9), none⟩, ⟨some 22, .bin .add (.t 21) (.k (.int .i64 1)), none⟩, ⟨some 9, .mv (.t 22), none⟩] [9]))
def L.bytealg_IndexRabinKarp_string.x1 : LCode := .seq (.seq (.reg [⟨some 41, .mv (.t 10), none⟩, ⟨some 42, .mv (.t 0), none⟩, ⟨some 43, .lens (.t 42), none⟩, ⟨some 44, .bin .lss (.t 41) (.t 43), none⟩] [44]) (.cond (.t 44) (.skip) (.exit 2))) (.block 3 (.seq (.reg [⟨some 45, .mv (.t 8), none⟩, ⟨some 46, .bin .mul (.t 45) (.k (.int .u32 16777619)), none⟩, ⟨some 8, .mv (.t 46), none⟩] [8]) (.seq (.reg [⟨some 47, .mv (.t 8), none⟩, ⟨some 48, .mv (.t 0), none⟩, ⟨some 49, .mv (.t 10), none⟩, ⟨some 50, .ix 1 none false (.t 48) (.t 49), none⟩, ⟨some 51, .cvi .u32 (.t 50), none⟩, ⟨some 52, .bin .add (.t 47) (.t 51), none⟩, ⟨some 8, .mv (.t 52), none⟩] [8]) (.seq (.reg [⟨some 53, .mv (.t 8), none⟩, ⟨some 54, .mv (.t 6), none⟩, ⟨some 55, .mv (.t 0), none⟩, ⟨some 56, .mv (.t 10), none⟩, ⟨some 57, .mv (.t 7), none⟩, ⟨some 58, .bin .sub (.t 56) (.t 57), none⟩, ⟨some 59, .ix 1 none false (.t 55) (.t 58), none⟩, ⟨some 60, .cvi .u32 (.t 59), none⟩, ⟨some 61, .bin .mul (.t 54) (.t 60), none⟩, ⟨some 62, .bin .sub (.t 53) (.t 61), none⟩, ⟨some 8, .mv (.t 62), none⟩] [8]) (.seq (.reg [⟨some 63, .mv (.t 10), none⟩, ⟨some 64, .bin .add (.t 63) (.k (.int .i64 1)), none⟩, ⟨some 10, .mv (.t 64), none⟩] [10]) (.seq (.reg [⟨some 65, .mv (.t 8), none⟩, ⟨some 66, .mv (.t 5), none⟩, ⟨some 67, .bin .eql (.t 65) (.t 66), none⟩, ⟨some 68, .mv (.t 67), none⟩, ⟨some 69, .mv (.t 0), some (68, true)⟩, ⟨some 70, .mv (.t 10), some (68, true)⟩, ⟨some 71, .mv (.t 7), some (68, true)⟩, ⟨some 72, .bin .sub (.t 70) (.t 71), some (68, true)⟩, ⟨some 73, .mv (.t 10), some (68, true)⟩, ⟨some 74, .sls (.t 69) (some (.t 72)) (some (.t 73)), some (68, true)⟩, ⟨some 75, .mv (.t 1), some (68, true)⟩, ⟨some 76, .bin .eql (.t 74) (.t 75), some (68, true)⟩, ⟨some 77, .pick (.t 68) (.t 76) (.k (.bool false)), none⟩] [77]) (.cond (.t 77) (.seq (.reg [⟨some 78, .mv (.t 10), none⟩, ⟨some 79, .mv (.t 7), none⟩, ⟨some 80, .bin .sub (.t 78) (.t 79), none⟩, ⟨some 4, .mv (.t 80), none⟩] [4]) (.ret)) (.skip))))))))
def L.bytealg_IndexRabinKarp_string.r1 : LCode := .seq (.reg [⟨some 4, .mv (.k (.int .i64 (-1))), none⟩] [4]) (.ret)
def L.bytealg_IndexRabinKarp_string.r0 : LCode := .seq (.seq (.reg [⟨some 30, .mv (.t 8), none⟩, ⟨some 31, .mv (.t 5), none⟩, ⟨some 32, .bin .eql (.t 30) (.t 31), none⟩, ⟨some 33, .mv (.t 32), none⟩, ⟨some 34, .mv (.t 0), some (33, true)⟩, ⟨some 35, .mv (.t 7), some (33, true)⟩, ⟨some 36, .sls (.t 34) none (some (.t 35)), some (33, true)⟩, ⟨some 37, .mv (.t 1), some (33, true)⟩, ⟨some 38, .bin .eql (.t 36) (.t 37), some (33, true)⟩, ⟨some 39, .pick (.t 33) (.t 38) (.k (.bool false)), none⟩] [39]) (.cond (.t 39) (.seq (.reg [⟨some 4, .mv (.k (.int .i64 0)), none⟩] [4]) (.ret)) (.skip))) (.seq (.seq (.reg [⟨some 40, .mv (.t 7), none⟩, ⟨some 10, .mv (.t 40), none⟩] [10]) (.block 2 (.loop [0, 1, 5, 6, 7, 8, 10] L.bytealg_IndexRabinKarp_string.x1))) L.bytealg_IndexRabinKarp_string.r1)
def L.bytealg_IndexRabinKarp_string : LFn := ⟨2, [.tmp 4], .seq (.reg [⟨some 4, .mv (.k (.int .i64 0)), none⟩] [4]) (.seq (.reg [⟨some 12, .mv (.t 1), none⟩, ⟨some 13, .call (.f F.bytealg_hashStr_string) [.t 12] [], none⟩, ⟨some 11, .mv (.t 13), none⟩, ⟨some 14, .ext (.t 11) 0, none⟩, ⟨some 15, .ext (.t 11) 1, none⟩, ⟨some 5, .mv (.t 14), none⟩, ⟨some 6, .mv (.t 15), none⟩] [5, 6]) (.seq (.reg [⟨some 16, .mv (.t 1), none⟩, ⟨some 17, .lens (.t 16), none⟩, ⟨some 7, .mv (.t 17), none⟩] [7]) (.seq (.reg [⟨some 8, .mv (.k (.int .u32 0)), none⟩] [8]) (.seq (.seq (.reg [⟨some 9, .mv (.k (.int .i64 0)), none⟩] [9]) (.block 0 (.loop [0, 1, 5, 6, 7, 8, 9] L.bytealg_IndexRabinKarp_string.x0))) L.bytealg_IndexRabinKarp_string.r0))))⟩
/-- strings.IndexByte -/
def A.strings_IndexByte : Ann := ⟨[0, 1, 4], [(0, [4]), (1, [4])], [], [], []⟩
def L.strings_IndexByte : LFn := ⟨2, [.tmp 4], .seq (.reg [⟨some 4, .mv (.k (.int .i64 0)), none⟩] [4]) (.seq (.reg [⟨some 5, .mv (.t 0), none⟩, ⟨some 6, .mv (.t 1), none⟩, ⟨some 7, .call (.f F.stringslite_IndexByte) [.t 5, .t 6] [], none⟩, ⟨some 4, .mv (.t 7), none⟩] [4]) (.ret))⟩
/-- unicode/utf8.ValidRune -/
def A.utf8_ValidRune : Ann := ⟨[0, 2, 3, 10], [(0, [2]), (1, [3]), (2, [2]), (3, [10]), (4, [2]), (5, [2])], [], [], []⟩
def L.utf8_ValidRune : LFn := ⟨1, [.tmp 2], .seq (.reg [⟨some 2, .mv (.k (.bool false)), none⟩] [2]) (.seq (.block 0 (.seq (.reg [⟨some 4, .mv (.t 0), none⟩, ⟨some 5, .bin .leq (.k (.int .i32 0)) (.t 4), none⟩, ⟨some 6, .mv (.t 5), none⟩, ⟨some 7, .mv (.t 0), some (6, true)⟩, ⟨some 8, .bin .lss (.t 7) (.k (.int .i32 55296)), some (6, true)⟩, ⟨some 9, .pick (.t 6) (.t 8) (.k (.bool false)), none⟩, ⟨some 3, .mv (.t 9), none⟩] [3]) (.cond (.t 3) (.seq (.reg [⟨some 2, .mv (.k (.bool true)), none⟩] [2]) (.ret)) (.seq (.reg [⟨some 11, .mv (.t 0), none⟩, ⟨some 12, .bin .lss (.k (.int .i32 57343)) (.t 11), none⟩, ⟨some 13, .mv (.t 12), none⟩, ⟨some 14, .mv (.t 0), some (13, true)⟩, ⟨some 15, .bin .leq (.t 14) (.k (.int .i32 1114111)), some (13, true)⟩, ⟨some 16, .pick (.t 13) (.t 15) (.k (.bool false)), none⟩, ⟨some 10, .mv (.t 16), none⟩] [10]) (.cond (.t 10) (.seq (.reg [⟨some 2, .mv (.k (.bool true)), none⟩] [2]) (.ret)) (.skip)))))) (.seq (.reg [⟨some 2, .mv (.k (.bool false)), none⟩] [2]) (.ret)))⟩
/-- internal/bytealg.hashStr[string] -/
def A.bytealg_hashStr_string : Ann := ⟨[0, 2, 3, 4, 5, 6, 7, 8, 12, 25, 30], [(0, [2, 3]), (1, [4]), (2, [5]), (3, [12]), (5, [4]), (4, [5]), (6, [6, 7]), (7, [8]), (8, [25]), (10, [30]), (11, [6]), (12, [7]), (9, [8]), (13, [2, 3])], [(3, [0, 4, 5]), (8, [4, 6, 7, 8])], [], []⟩
def L.bytealg_hashStr_string.x0 : LCode := .seq (.seq (.reg [⟨some 9, .mv (.t 5), none⟩, ⟨some 10, .mv (.t 0), none⟩, ⟨some 11, .lens (.t 10), none⟩, ⟨some 12, .bin .lss (.t 9) (.t 11), none⟩] [12]) (.cond (.t 12) (.skip) (.exit 0))) (.seq (.block 1 (.reg [⟨some 15, .mv (.t 4), none⟩, ⟨some 16, .bin .mul (.t 15) (.k (.int .u32 16777619)), none⟩, ⟨some 17, .mv (.t 0), none⟩, ⟨some 18, .mv (.t 5), none⟩, ⟨some 19, .ix 1 none false (.t 17) (.t 18), none⟩, ⟨some 20, .cvi .u32 (.t 19), none⟩, ⟨some 21, .bin .add (.t 16) (.t 20), none⟩, ⟨some 4, .mv (.t 21), none⟩] [4])) (.reg [⟨some 13, .mv (.t 5), none⟩, ⟨some 14, .bin .add (.t 13) (.k (.int .i64 1)), none⟩, ⟨some 5, .mv (.t 14), none⟩] [5]))
def L.bytealg_hashStr_string.x1 : LCode := .seq (.seq (.reg [⟨some 24, .mv (.t 8), none⟩, ⟨some 25, .bin .gtr (.t 24) (.k (.int .i64 0)), none⟩] [25]) (.cond (.t 25) (.skip) (.exit 2))) (.seq (.block 3 (.seq (.seq (.reg [⟨some 28, .mv (.t 8), none⟩, ⟨some 29, .bin .and (.t 28) (.k (.int .i64 1)), none⟩, ⟨some 30, .bin .neq (.t 29) (.k (.int .i64 0)), none⟩] [30]) (.cond (.t 30) (.reg [⟨some 31, .mv (.t 6), none⟩, ⟨some 32, .mv (.t 7), none⟩, ⟨some 33, .bin .mul (.t 31) (.t 32), none⟩, ⟨some 6, .mv (.t 33), none⟩] [6]) (.skip))) (.reg [⟨some 34, .mv (.t 7), none⟩, ⟨some 35, .mv (.t 7), none⟩, ⟨some 36, .bin .mul (.t 34) (.t 35), none⟩, ⟨some 7, .mv (.t 36), none⟩] [7]))) (.reg [⟨some 26, .mv (.t 8), none⟩, ⟨some 27, .bin .shr (.t 26) (.k (.int .u64 1)), none⟩, ⟨some 8, .mv (.t 27), none⟩] [8]))
def L.bytealg_hashStr_string.r1 : LCode := .seq (.reg [⟨some 37, .mv (.t 4), none⟩, ⟨some 38, .mv (.t 6), none⟩, ⟨some 2, .mv (.t 37), none⟩, ⟨some 3, .mv (.t 38), none⟩] [2, 3]) (.ret)
def L.bytealg_hashStr_string.r0 : LCode := .seq (.reg [⟨some 6, .mv (.k (.int .u32 1)), none⟩, ⟨some 7, .mv (.k (.int .u32 16777619)), none⟩] [6, 7]) (.seq (.seq (.reg [⟨some 22, .mv (.t 0), none⟩, ⟨some 23, .lens (.t 22), none⟩, ⟨some 8, .mv (.t 23), none⟩] [8]) (.block 2 (.loop [4, 6, 7, 8] L.bytealg_hashStr_string.x1))) L.bytealg_hashStr_string.r1)
def L.bytealg_hashStr_string : LFn := ⟨1, [.tmp 2, .tmp 3], .seq (.reg [⟨some 2, .mv (.k (.int .u32 0)), none⟩, ⟨some 3, .mv (.k (.int .u32 0)), none⟩] [2, 3]) (.seq (.reg [⟨some 4, .mv (.k (.int .u32 0)), none⟩] [4]) (.seq (.seq (.reg [⟨some 5, .mv (.k (.int .i64 0)), none⟩] [5]) (.block 0 (.loop [0, 4, 5] L.bytealg_hashStr_string.x0))) L.bytealg_hashStr_string.r0))⟩
end Cod

/- The lean forms as a table. -/
namespace Cod
open Go
def fnTab : List (Nat × LFn) := [(F.law17_IndexWrites, L.law17_IndexWrites), (F.law17_IndexReads, L.law17_IndexReads), (F.law17_IndexBack, L.law17_IndexBack), (F.law17_awake, L.law17_awake), (F.law17_small, L.law17_small), (F.index_Put, L.index_Put), (F.ref17_DocPut, L.ref17_DocPut), (F.ref01_Same, L.ref01_Same), (F.index_Check, L.index_Check), (F.index_Parse, L.index_Parse), (F.ref01_Twin, L.ref01_Twin), (F.ref17_DocParse, L.ref17_DocParse), (F.ref17_Same, L.ref17_Same), (F.index_big, L.index_big), (F.index_zeros, L.index_zeros), (F.sha_Sum, L.sha_Sum), (F.ref17_DocCheck, L.ref17_DocCheck), (F.ref17_Put, L.ref17_Put), (F.index_worse, L.index_worse), (F.index_one, L.index_one), (F.index_order, L.index_order), (F.index_slot, L.index_slot), (F.bytes_Equal, L.bytes_Equal), (F.ref17_slot, L.ref17_slot), (F.ref17_body, L.ref17_body), (F.ref06_Path, L.ref06_Path), (F.ref07_Least, L.ref07_Least), (F.ref07_If, L.ref07_If), (F.sha_Block, L.sha_Block), (F.bytes_Clone, L.bytes_Clone), (F.sha_Pad, L.sha_Pad), (F.ref06_Mode, L.ref06_Mode), (F.ref01_Sum, L.ref01_Sum), (F.names_Mode, L.names_Mode), (F.strings_Compare, L.strings_Compare), (F.index_slot_fn1, L.index_slot_fn1), (F.num_Big, L.num_Big), (F.bytes_IndexByte, L.bytes_IndexByte), (F.ref02_Big, L.ref02_Big), (F.ref02_PutBig, L.ref02_PutBig), (F.strings_SplitSeq, L.strings_SplitSeq), (F.names_Name, L.names_Name), (F.ref06_Parts, L.ref06_Parts), (F.ref06_Name, L.ref06_Name), (F.bits_RotateLeft32, L.bits_RotateLeft32), (F.ref01_First, L.ref01_First), (F.ref01_compress, L.ref01_compress), (F.ref01_DocPad, L.ref01_DocPad), (F.bytealg_CompareString, L.bytealg_CompareString), (F.strings_splitSeq, L.strings_splitSeq), (F.strings_EqualFold, L.strings_EqualFold), (F.strings_ContainsAny, L.strings_ContainsAny), (F.ref06_Has, L.ref06_Has), (F.ref06_git, L.ref06_git), (F.ref01_big, L.ref01_big), (F.ref01_right, L.ref01_right), (F.ref01_constants, L.ref01_constants), (F.strings_splitSeq_fn1, L.strings_splitSeq_fn1), (F.utf8_DecodeRuneInString, L.utf8_DecodeRuneInString), (F.strings_Index, L.strings_Index), (F.unicode_SimpleFold, L.unicode_SimpleFold), (F.strings_IndexAny, L.strings_IndexAny), (F.ref06_lower, L.ref06_lower), (F.utf8_decodeRuneInStringSlow, L.utf8_decodeRuneInStringSlow), (F.stringslite_Index, L.stringslite_Index), (F.unicode_lookupCaseRange, L.unicode_lookupCaseRange), (F.unicode_convertCase, L.unicode_convertCase), (F.strings_IndexRune, L.strings_IndexRune), (F.strings_shouldUseASCIISet, L.strings_shouldUseASCIISet), (F.strings_makeASCIISet, L.strings_makeASCIISet), (F.strings_asciiSet_contains, L.strings_asciiSet_contains), (F.stringslite_IndexByte, L.stringslite_IndexByte), (F.bytealg_Cutover, L.bytealg_Cutover), (F.bytealg_IndexRabinKarp_string, L.bytealg_IndexRabinKarp_string), (F.strings_IndexByte, L.strings_IndexByte), (F.utf8_ValidRune, L.utf8_ValidRune), (F.bytealg_hashStr_string, L.bytealg_hashStr_string)]
def fnOf (f : Nat) : Option LFn := fnTab.lookup f
theorem fn_law17_IndexBack : fnOf F.law17_IndexBack = some L.law17_IndexBack := rfl
theorem fn_law17_awake : fnOf F.law17_awake = some L.law17_awake := rfl
theorem fn_index_Put : fnOf F.index_Put = some L.index_Put := rfl
theorem fn_ref01_Same : fnOf F.ref01_Same = some L.ref01_Same := rfl
theorem fn_index_Check : fnOf F.index_Check = some L.index_Check := rfl
theorem fn_index_Parse : fnOf F.index_Parse = some L.index_Parse := rfl
theorem fn_ref01_Twin : fnOf F.ref01_Twin = some L.ref01_Twin := rfl
theorem fn_ref17_Same : fnOf F.ref17_Same = some L.ref17_Same := rfl
theorem fn_index_big : fnOf F.index_big = some L.index_big := rfl
theorem fn_index_zeros : fnOf F.index_zeros = some L.index_zeros := rfl
theorem fn_sha_Sum : fnOf F.sha_Sum = some L.sha_Sum := rfl
theorem fn_index_worse : fnOf F.index_worse = some L.index_worse := rfl
theorem fn_index_one : fnOf F.index_one = some L.index_one := rfl
theorem fn_index_order : fnOf F.index_order = some L.index_order := rfl
theorem fn_index_slot : fnOf F.index_slot = some L.index_slot := rfl
theorem fn_bytes_Equal : fnOf F.bytes_Equal = some L.bytes_Equal := rfl
theorem fn_sha_Block : fnOf F.sha_Block = some L.sha_Block := rfl
theorem fn_bytes_Clone : fnOf F.bytes_Clone = some L.bytes_Clone := rfl
theorem fn_sha_Pad : fnOf F.sha_Pad = some L.sha_Pad := rfl
theorem fn_names_Mode : fnOf F.names_Mode = some L.names_Mode := rfl
theorem fn_strings_Compare : fnOf F.strings_Compare = some L.strings_Compare := rfl
theorem fn_index_slot_fn1 : fnOf F.index_slot_fn1 = some L.index_slot_fn1 := rfl
theorem fn_num_Big : fnOf F.num_Big = some L.num_Big := rfl
theorem fn_bytes_IndexByte : fnOf F.bytes_IndexByte = some L.bytes_IndexByte := rfl
theorem fn_strings_SplitSeq : fnOf F.strings_SplitSeq = some L.strings_SplitSeq := rfl
theorem fn_names_Name : fnOf F.names_Name = some L.names_Name := rfl
theorem fn_bits_RotateLeft32 : fnOf F.bits_RotateLeft32 = some L.bits_RotateLeft32 := rfl
theorem fn_bytealg_CompareString : fnOf F.bytealg_CompareString = some L.bytealg_CompareString := rfl
theorem fn_strings_splitSeq : fnOf F.strings_splitSeq = some L.strings_splitSeq := rfl
theorem fn_strings_EqualFold : fnOf F.strings_EqualFold = some L.strings_EqualFold := rfl
theorem fn_strings_ContainsAny : fnOf F.strings_ContainsAny = some L.strings_ContainsAny := rfl
theorem fn_utf8_DecodeRuneInString : fnOf F.utf8_DecodeRuneInString = some L.utf8_DecodeRuneInString := rfl
theorem fn_strings_Index : fnOf F.strings_Index = some L.strings_Index := rfl
theorem fn_strings_IndexAny : fnOf F.strings_IndexAny = some L.strings_IndexAny := rfl
theorem fn_stringslite_Index : fnOf F.stringslite_Index = some L.stringslite_Index := rfl
theorem fn_strings_IndexRune : fnOf F.strings_IndexRune = some L.strings_IndexRune := rfl
theorem fn_strings_shouldUseASCIISet : fnOf F.strings_shouldUseASCIISet = some L.strings_shouldUseASCIISet := rfl
theorem fn_strings_asciiSet_contains : fnOf F.strings_asciiSet_contains = some L.strings_asciiSet_contains := rfl
theorem fn_stringslite_IndexByte : fnOf F.stringslite_IndexByte = some L.stringslite_IndexByte := rfl
theorem fn_strings_IndexByte : fnOf F.strings_IndexByte = some L.strings_IndexByte := rfl
theorem fn_utf8_ValidRune : fnOf F.utf8_ValidRune = some L.utf8_ValidRune := rfl
end Cod

/- The lean forms are those of the program. -/
namespace Cod
open Go Go.Proofs
set_option maxRecDepth 100000
theorem ok_law17_IndexWrites : LowOK Tryd.prog F.law17_IndexWrites L.law17_IndexWrites := ⟨A.law17_IndexWrites, Tryd.f3, Tryd.func3, by kernel_rfl, by kernel_rfl⟩
theorem ok_law17_IndexReads : LowOK Tryd.prog F.law17_IndexReads L.law17_IndexReads := ⟨A.law17_IndexReads, Tryd.f4, Tryd.func4, by kernel_rfl, by kernel_rfl⟩
theorem ok_law17_IndexBack : LowOK Tryd.prog F.law17_IndexBack L.law17_IndexBack := ⟨A.law17_IndexBack, Tryd.f5, Tryd.func5, by kernel_rfl, by kernel_rfl⟩
theorem ok_law17_awake : LowOK Tryd.prog F.law17_awake L.law17_awake := ⟨A.law17_awake, Tryd.f10, Tryd.func10, by kernel_rfl, by kernel_rfl⟩
theorem ok_law17_small : LowOK Tryd.prog F.law17_small L.law17_small := ⟨A.law17_small, Tryd.f11, Tryd.func11, by kernel_rfl, by kernel_rfl⟩
theorem ok_index_Put : LowOK Tryd.prog F.index_Put L.index_Put := ⟨A.index_Put, Tryd.f12, Tryd.func12, by kernel_rfl, by kernel_rfl⟩
theorem ok_ref17_DocPut : LowOK Tryd.prog F.ref17_DocPut L.ref17_DocPut := ⟨A.ref17_DocPut, Tryd.f13, Tryd.func13, by kernel_rfl, by kernel_rfl⟩
theorem ok_ref01_Same : LowOK Tryd.prog F.ref01_Same L.ref01_Same := ⟨A.ref01_Same, Tryd.f14, Tryd.func14, by kernel_rfl, by kernel_rfl⟩
theorem ok_index_Check : LowOK Tryd.prog F.index_Check L.index_Check := ⟨A.index_Check, Tryd.f15, Tryd.func15, by kernel_rfl, by kernel_rfl⟩
theorem ok_index_Parse : LowOK Tryd.prog F.index_Parse L.index_Parse := ⟨A.index_Parse, Tryd.f16, Tryd.func16, by kernel_rfl, by kernel_rfl⟩
theorem ok_ref01_Twin : LowOK Tryd.prog F.ref01_Twin L.ref01_Twin := ⟨A.ref01_Twin, Tryd.f17, Tryd.func17, by kernel_rfl, by kernel_rfl⟩
theorem ok_ref17_DocParse : LowOK Tryd.prog F.ref17_DocParse L.ref17_DocParse := ⟨A.ref17_DocParse, Tryd.f18, Tryd.func18, by kernel_rfl, by kernel_rfl⟩
theorem ok_ref17_Same : LowOK Tryd.prog F.ref17_Same L.ref17_Same := ⟨A.ref17_Same, Tryd.f19, Tryd.func19, by kernel_rfl, by kernel_rfl⟩
theorem ok_index_big : LowOK Tryd.prog F.index_big L.index_big := ⟨A.index_big, Tryd.f28, Tryd.func28, by kernel_rfl, by kernel_rfl⟩
theorem ok_index_zeros : LowOK Tryd.prog F.index_zeros L.index_zeros := ⟨A.index_zeros, Tryd.f29, Tryd.func29, by kernel_rfl, by kernel_rfl⟩
theorem ok_sha_Sum : LowOK Tryd.prog F.sha_Sum L.sha_Sum := ⟨A.sha_Sum, Tryd.f30, Tryd.func30, by kernel_rfl, by kernel_rfl⟩
theorem ok_ref17_DocCheck : LowOK Tryd.prog F.ref17_DocCheck L.ref17_DocCheck := ⟨A.ref17_DocCheck, Tryd.f31, Tryd.func31, by kernel_rfl, by kernel_rfl⟩
theorem ok_ref17_Put : LowOK Tryd.prog F.ref17_Put L.ref17_Put := ⟨A.ref17_Put, Tryd.f32, Tryd.func32, by kernel_rfl, by kernel_rfl⟩
theorem ok_index_worse : LowOK Tryd.prog F.index_worse L.index_worse := ⟨A.index_worse, Tryd.f33, Tryd.func33, by kernel_rfl, by kernel_rfl⟩
theorem ok_index_one : LowOK Tryd.prog F.index_one L.index_one := ⟨A.index_one, Tryd.f34, Tryd.func34, by kernel_rfl, by kernel_rfl⟩
theorem ok_index_order : LowOK Tryd.prog F.index_order L.index_order := ⟨A.index_order, Tryd.f35, Tryd.func35, by kernel_rfl, by kernel_rfl⟩
theorem ok_index_slot : LowOK Tryd.prog F.index_slot L.index_slot := ⟨A.index_slot, Tryd.f36, Tryd.func36, by kernel_rfl, by kernel_rfl⟩
theorem ok_bytes_Equal : LowOK Tryd.prog F.bytes_Equal L.bytes_Equal := ⟨A.bytes_Equal, Tryd.f37, Tryd.func37, by kernel_rfl, by kernel_rfl⟩
theorem ok_ref17_slot : LowOK Tryd.prog F.ref17_slot L.ref17_slot := ⟨A.ref17_slot, Tryd.f38, Tryd.func38, by kernel_rfl, by kernel_rfl⟩
theorem ok_ref17_body : LowOK Tryd.prog F.ref17_body L.ref17_body := ⟨A.ref17_body, Tryd.f39, Tryd.func39, by kernel_rfl, by kernel_rfl⟩
theorem ok_ref06_Path : LowOK Tryd.prog F.ref06_Path L.ref06_Path := ⟨A.ref06_Path, Tryd.f45, Tryd.func45, by kernel_rfl, by kernel_rfl⟩
theorem ok_ref07_Least : LowOK Tryd.prog F.ref07_Least L.ref07_Least := ⟨A.ref07_Least, Tryd.f46, Tryd.func46, by kernel_rfl, by kernel_rfl⟩
theorem ok_ref07_If : LowOK Tryd.prog F.ref07_If L.ref07_If := ⟨A.ref07_If, Tryd.f47, Tryd.func47, by kernel_rfl, by kernel_rfl⟩
theorem ok_sha_Block : LowOK Tryd.prog F.sha_Block L.sha_Block := ⟨A.sha_Block, Tryd.f60, Tryd.func60, by kernel_rfl, by kernel_rfl⟩
theorem ok_bytes_Clone : LowOK Tryd.prog F.bytes_Clone L.bytes_Clone := ⟨A.bytes_Clone, Tryd.f61, Tryd.func61, by kernel_rfl, by kernel_rfl⟩
theorem ok_sha_Pad : LowOK Tryd.prog F.sha_Pad L.sha_Pad := ⟨A.sha_Pad, Tryd.f62, Tryd.func62, by kernel_rfl, by kernel_rfl⟩
theorem ok_ref06_Mode : LowOK Tryd.prog F.ref06_Mode L.ref06_Mode := ⟨A.ref06_Mode, Tryd.f63, Tryd.func63, by kernel_rfl, by kernel_rfl⟩
theorem ok_ref01_Sum : LowOK Tryd.prog F.ref01_Sum L.ref01_Sum := ⟨A.ref01_Sum, Tryd.f64, Tryd.func64, by kernel_rfl, by kernel_rfl⟩
theorem ok_names_Mode : LowOK Tryd.prog F.names_Mode L.names_Mode := ⟨A.names_Mode, Tryd.f65, Tryd.func65, by kernel_rfl, by kernel_rfl⟩
theorem ok_strings_Compare : LowOK Tryd.prog F.strings_Compare L.strings_Compare := ⟨A.strings_Compare, Tryd.f66, Tryd.func66, by kernel_rfl, by kernel_rfl⟩
theorem ok_index_slot_fn1 : LowOK Tryd.prog F.index_slot_fn1 L.index_slot_fn1 := ⟨A.index_slot_fn1, Tryd.f67, Tryd.func67, by kernel_rfl, by kernel_rfl⟩
theorem ok_num_Big : LowOK Tryd.prog F.num_Big L.num_Big := ⟨A.num_Big, Tryd.f68, Tryd.func68, by kernel_rfl, by kernel_rfl⟩
theorem ok_bytes_IndexByte : LowOK Tryd.prog F.bytes_IndexByte L.bytes_IndexByte := ⟨A.bytes_IndexByte, Tryd.f69, Tryd.func69, by kernel_rfl, by kernel_rfl⟩
theorem ok_ref02_Big : LowOK Tryd.prog F.ref02_Big L.ref02_Big := ⟨A.ref02_Big, Tryd.f70, Tryd.func70, by kernel_rfl, by kernel_rfl⟩
theorem ok_ref02_PutBig : LowOK Tryd.prog F.ref02_PutBig L.ref02_PutBig := ⟨A.ref02_PutBig, Tryd.f71, Tryd.func71, by kernel_rfl, by kernel_rfl⟩
theorem ok_strings_SplitSeq : LowOK Tryd.prog F.strings_SplitSeq L.strings_SplitSeq := ⟨A.strings_SplitSeq, Tryd.f72, Tryd.func72, by kernel_rfl, by kernel_rfl⟩
theorem ok_names_Name : LowOK Tryd.prog F.names_Name L.names_Name := ⟨A.names_Name, Tryd.f73, Tryd.func73, by kernel_rfl, by kernel_rfl⟩
theorem ok_ref06_Parts : LowOK Tryd.prog F.ref06_Parts L.ref06_Parts := ⟨A.ref06_Parts, Tryd.f76, Tryd.func76, by kernel_rfl, by kernel_rfl⟩
theorem ok_ref06_Name : LowOK Tryd.prog F.ref06_Name L.ref06_Name := ⟨A.ref06_Name, Tryd.f77, Tryd.func77, by kernel_rfl, by kernel_rfl⟩
theorem ok_bits_RotateLeft32 : LowOK Tryd.prog F.bits_RotateLeft32 L.bits_RotateLeft32 := ⟨A.bits_RotateLeft32, Tryd.f85, Tryd.func85, by kernel_rfl, by kernel_rfl⟩
theorem ok_ref01_First : LowOK Tryd.prog F.ref01_First L.ref01_First := ⟨A.ref01_First, Tryd.f86, Tryd.func86, by kernel_rfl, by kernel_rfl⟩
theorem ok_ref01_compress : LowOK Tryd.prog F.ref01_compress L.ref01_compress := ⟨A.ref01_compress, Tryd.f87, Tryd.func87, by kernel_rfl, by kernel_rfl⟩
theorem ok_ref01_DocPad : LowOK Tryd.prog F.ref01_DocPad L.ref01_DocPad := ⟨A.ref01_DocPad, Tryd.f88, Tryd.func88, by kernel_rfl, by kernel_rfl⟩
theorem ok_bytealg_CompareString : LowOK Tryd.prog F.bytealg_CompareString L.bytealg_CompareString := ⟨A.bytealg_CompareString, Tryd.f89, Tryd.func89, by kernel_rfl, by kernel_rfl⟩
theorem ok_strings_splitSeq : LowOK Tryd.prog F.strings_splitSeq L.strings_splitSeq := ⟨A.strings_splitSeq, Tryd.f91, Tryd.func91, by kernel_rfl, by kernel_rfl⟩
theorem ok_strings_EqualFold : LowOK Tryd.prog F.strings_EqualFold L.strings_EqualFold := ⟨A.strings_EqualFold, Tryd.f92, Tryd.func92, by kernel_rfl, by kernel_rfl⟩
theorem ok_strings_ContainsAny : LowOK Tryd.prog F.strings_ContainsAny L.strings_ContainsAny := ⟨A.strings_ContainsAny, Tryd.f93, Tryd.func93, by kernel_rfl, by kernel_rfl⟩
theorem ok_ref06_Has : LowOK Tryd.prog F.ref06_Has L.ref06_Has := ⟨A.ref06_Has, Tryd.f94, Tryd.func94, by kernel_rfl, by kernel_rfl⟩
theorem ok_ref06_git : LowOK Tryd.prog F.ref06_git L.ref06_git := ⟨A.ref06_git, Tryd.f95, Tryd.func95, by kernel_rfl, by kernel_rfl⟩
theorem ok_ref01_big : LowOK Tryd.prog F.ref01_big L.ref01_big := ⟨A.ref01_big, Tryd.f100, Tryd.func100, by kernel_rfl, by kernel_rfl⟩
theorem ok_ref01_right : LowOK Tryd.prog F.ref01_right L.ref01_right := ⟨A.ref01_right, Tryd.f101, Tryd.func101, by kernel_rfl, by kernel_rfl⟩
theorem ok_ref01_constants : LowOK Tryd.prog F.ref01_constants L.ref01_constants := ⟨A.ref01_constants, Tryd.f102, Tryd.func102, by kernel_rfl, by kernel_rfl⟩
theorem ok_strings_splitSeq_fn1 : LowOK Tryd.prog F.strings_splitSeq_fn1 L.strings_splitSeq_fn1 := ⟨A.strings_splitSeq_fn1, Tryd.f104, Tryd.func104, by kernel_rfl, by kernel_rfl⟩
theorem ok_utf8_DecodeRuneInString : LowOK Tryd.prog F.utf8_DecodeRuneInString L.utf8_DecodeRuneInString := ⟨A.utf8_DecodeRuneInString, Tryd.f105, Tryd.func105, by kernel_rfl, by kernel_rfl⟩
theorem ok_strings_Index : LowOK Tryd.prog F.strings_Index L.strings_Index := ⟨A.strings_Index, Tryd.f106, Tryd.func106, by kernel_rfl, by kernel_rfl⟩
theorem ok_unicode_SimpleFold : LowOK Tryd.prog F.unicode_SimpleFold L.unicode_SimpleFold := ⟨A.unicode_SimpleFold, Tryd.f107, Tryd.func107, by kernel_rfl, by kernel_rfl⟩
theorem ok_strings_IndexAny : LowOK Tryd.prog F.strings_IndexAny L.strings_IndexAny := ⟨A.strings_IndexAny, Tryd.f108, Tryd.func108, by kernel_rfl, by kernel_rfl⟩
theorem ok_ref06_lower : LowOK Tryd.prog F.ref06_lower L.ref06_lower := ⟨A.ref06_lower, Tryd.f109, Tryd.func109, by kernel_rfl, by kernel_rfl⟩
theorem ok_utf8_decodeRuneInStringSlow : LowOK Tryd.prog F.utf8_decodeRuneInStringSlow L.utf8_decodeRuneInStringSlow := ⟨A.utf8_decodeRuneInStringSlow, Tryd.f118, Tryd.func118, by kernel_rfl, by kernel_rfl⟩
theorem ok_stringslite_Index : LowOK Tryd.prog F.stringslite_Index L.stringslite_Index := ⟨A.stringslite_Index, Tryd.f119, Tryd.func119, by kernel_rfl, by kernel_rfl⟩
theorem ok_unicode_lookupCaseRange : LowOK Tryd.prog F.unicode_lookupCaseRange L.unicode_lookupCaseRange := ⟨A.unicode_lookupCaseRange, Tryd.f120, Tryd.func120, by kernel_rfl, by kernel_rfl⟩
theorem ok_unicode_convertCase : LowOK Tryd.prog F.unicode_convertCase L.unicode_convertCase := ⟨A.unicode_convertCase, Tryd.f121, Tryd.func121, by kernel_rfl, by kernel_rfl⟩
theorem ok_strings_IndexRune : LowOK Tryd.prog F.strings_IndexRune L.strings_IndexRune := ⟨A.strings_IndexRune, Tryd.f122, Tryd.func122, by kernel_rfl, by kernel_rfl⟩
theorem ok_strings_shouldUseASCIISet : LowOK Tryd.prog F.strings_shouldUseASCIISet L.strings_shouldUseASCIISet := ⟨A.strings_shouldUseASCIISet, Tryd.f123, Tryd.func123, by kernel_rfl, by kernel_rfl⟩
theorem ok_strings_makeASCIISet : LowOK Tryd.prog F.strings_makeASCIISet L.strings_makeASCIISet := ⟨A.strings_makeASCIISet, Tryd.f124, Tryd.func124, by kernel_rfl, by kernel_rfl⟩
theorem ok_strings_asciiSet_contains : LowOK Tryd.prog F.strings_asciiSet_contains L.strings_asciiSet_contains := ⟨A.strings_asciiSet_contains, Tryd.f125, Tryd.func125, by kernel_rfl, by kernel_rfl⟩
theorem ok_stringslite_IndexByte : LowOK Tryd.prog F.stringslite_IndexByte L.stringslite_IndexByte := ⟨A.stringslite_IndexByte, Tryd.f133, Tryd.func133, by kernel_rfl, by kernel_rfl⟩
theorem ok_bytealg_Cutover : LowOK Tryd.prog F.bytealg_Cutover L.bytealg_Cutover := ⟨A.bytealg_Cutover, Tryd.f135, Tryd.func135, by kernel_rfl, by kernel_rfl⟩
theorem ok_bytealg_IndexRabinKarp_string : LowOK Tryd.prog F.bytealg_IndexRabinKarp_string L.bytealg_IndexRabinKarp_string := ⟨A.bytealg_IndexRabinKarp_string, Tryd.f136, Tryd.func136, by kernel_rfl, by kernel_rfl⟩
theorem ok_strings_IndexByte : LowOK Tryd.prog F.strings_IndexByte L.strings_IndexByte := ⟨A.strings_IndexByte, Tryd.f137, Tryd.func137, by kernel_rfl, by kernel_rfl⟩
theorem ok_utf8_ValidRune : LowOK Tryd.prog F.utf8_ValidRune L.utf8_ValidRune := ⟨A.utf8_ValidRune, Tryd.f138, Tryd.func138, by kernel_rfl, by kernel_rfl⟩
theorem ok_bytealg_hashStr_string : LowOK Tryd.prog F.bytealg_hashStr_string L.bytealg_hashStr_string := ⟨A.bytealg_hashStr_string, Tryd.f142, Tryd.func142, by kernel_rfl, by kernel_rfl⟩
theorem all_ok : AllOK Tryd.prog fnTab := ⟨ok_law17_IndexWrites, ok_law17_IndexReads, ok_law17_IndexBack, ok_law17_awake, ok_law17_small, ok_index_Put, ok_ref17_DocPut, ok_ref01_Same, ok_index_Check, ok_index_Parse, ok_ref01_Twin, ok_ref17_DocParse, ok_ref17_Same, ok_index_big, ok_index_zeros, ok_sha_Sum, ok_ref17_DocCheck, ok_ref17_Put, ok_index_worse, ok_index_one, ok_index_order, ok_index_slot, ok_bytes_Equal, ok_ref17_slot, ok_ref17_body, ok_ref06_Path, ok_ref07_Least, ok_ref07_If, ok_sha_Block, ok_bytes_Clone, ok_sha_Pad, ok_ref06_Mode, ok_ref01_Sum, ok_names_Mode, ok_strings_Compare, ok_index_slot_fn1, ok_num_Big, ok_bytes_IndexByte, ok_ref02_Big, ok_ref02_PutBig, ok_strings_SplitSeq, ok_names_Name, ok_ref06_Parts, ok_ref06_Name, ok_bits_RotateLeft32, ok_ref01_First, ok_ref01_compress, ok_ref01_DocPad, ok_bytealg_CompareString, ok_strings_splitSeq, ok_strings_EqualFold, ok_strings_ContainsAny, ok_ref06_Has, ok_ref06_git, ok_ref01_big, ok_ref01_right, ok_ref01_constants, ok_strings_splitSeq_fn1, ok_utf8_DecodeRuneInString, ok_strings_Index, ok_unicode_SimpleFold, ok_strings_IndexAny, ok_ref06_lower, ok_utf8_decodeRuneInStringSlow, ok_stringslite_Index, ok_unicode_lookupCaseRange, ok_unicode_convertCase, ok_strings_IndexRune, ok_strings_shouldUseASCIISet, ok_strings_makeASCIISet, ok_strings_asciiSet_contains, ok_stringslite_IndexByte, ok_bytealg_Cutover, ok_bytealg_IndexRabinKarp_string, ok_strings_IndexByte, ok_utf8_ValidRune, ok_bytealg_hashStr_string, trivial⟩
end Cod


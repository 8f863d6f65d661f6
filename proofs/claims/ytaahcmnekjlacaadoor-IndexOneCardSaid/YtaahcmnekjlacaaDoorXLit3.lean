/- The lean forms as a table. -/
import Derived.Test.YtaahcmnekjlacaaDoorChecked
import Derived.Test.YtaahcmnekjlacaaDoorXLit2
set_option linter.unusedSimpArgs false
set_option linter.unusedVariables false
namespace Cod
open Go
def fnTab : List (Nat × LFn) := [(F.law17_IndexOne, L.law17_IndexOne), (F.law17_awake, L.law17_awake), (F.index_Put, L.index_Put), (F.index_Check, L.index_Check), (F.index_Parse, L.index_Parse), (F.ref01_Twin, L.ref01_Twin), (F.ref17_Same, L.ref17_Same), (F.index_Set, L.index_Set), (F.index_Find, L.index_Find), (F.index_big, L.index_big), (F.index_zeros, L.index_zeros), (F.sha_Sum, L.sha_Sum), (F.index_worse, L.index_worse), (F.index_one, L.index_one), (F.index_order, L.index_order), (F.index_slot, L.index_slot), (F.bytes_Equal, L.bytes_Equal), (F.slices_ContainsFunc_Sapi_Slot_api_Slot, L.slices_ContainsFunc_Sapi_Slot_api_Slot), (F.index_Set_fn1, L.index_Set_fn1), (F.slices_Concat_Sapi_Slot_api_Slot, L.slices_Concat_Sapi_Slot_api_Slot), (F.slices_BinarySearchFunc_Sapi_Slot_api_Slot_api_Slot, L.slices_BinarySearchFunc_Sapi_Slot_api_Slot_api_Slot), (F.sha_Block, L.sha_Block), (F.bytes_Clone, L.bytes_Clone), (F.sha_Pad, L.sha_Pad), (F.names_Mode, L.names_Mode), (F.strings_Compare, L.strings_Compare), (F.index_slot_fn1, L.index_slot_fn1), (F.num_Big, L.num_Big), (F.bytes_IndexByte, L.bytes_IndexByte), (F.strings_SplitSeq, L.strings_SplitSeq), (F.names_Name, L.names_Name), (F.slices_IndexFunc_Sapi_Slot_api_Slot, L.slices_IndexFunc_Sapi_Slot_api_Slot), (F.slices_Grow_Sapi_Slot_api_Slot, L.slices_Grow_Sapi_Slot_api_Slot), (F.bits_RotateLeft32, L.bits_RotateLeft32), (F.bytealg_CompareString, L.bytealg_CompareString), (F.strings_splitSeq, L.strings_splitSeq), (F.strings_EqualFold, L.strings_EqualFold), (F.strings_ContainsAny, L.strings_ContainsAny), (F.strings_splitSeq_fn1, L.strings_splitSeq_fn1), (F.utf8_DecodeRuneInString, L.utf8_DecodeRuneInString), (F.strings_Index, L.strings_Index), (F.unicode_SimpleFold, L.unicode_SimpleFold), (F.strings_IndexAny, L.strings_IndexAny), (F.utf8_decodeRuneInStringSlow, L.utf8_decodeRuneInStringSlow), (F.stringslite_Index, L.stringslite_Index), (F.unicode_lookupCaseRange, L.unicode_lookupCaseRange), (F.unicode_convertCase, L.unicode_convertCase), (F.strings_IndexRune, L.strings_IndexRune), (F.strings_shouldUseASCIISet, L.strings_shouldUseASCIISet), (F.strings_makeASCIISet, L.strings_makeASCIISet), (F.strings_asciiSet_contains, L.strings_asciiSet_contains), (F.stringslite_IndexByte, L.stringslite_IndexByte), (F.bytealg_Cutover, L.bytealg_Cutover), (F.bytealg_IndexRabinKarp_string, L.bytealg_IndexRabinKarp_string), (F.strings_IndexByte, L.strings_IndexByte), (F.utf8_ValidRune, L.utf8_ValidRune), (F.bytealg_hashStr_string, L.bytealg_hashStr_string)]
def fnOf (f : Nat) : Option LFn := fnTab.lookup f
theorem fn_law17_IndexOne : fnOf F.law17_IndexOne = some L.law17_IndexOne := rfl
theorem fn_law17_awake : fnOf F.law17_awake = some L.law17_awake := rfl
theorem fn_index_Put : fnOf F.index_Put = some L.index_Put := rfl
theorem fn_index_Check : fnOf F.index_Check = some L.index_Check := rfl
theorem fn_index_Parse : fnOf F.index_Parse = some L.index_Parse := rfl
theorem fn_ref17_Same : fnOf F.ref17_Same = some L.ref17_Same := rfl
theorem fn_index_Set : fnOf F.index_Set = some L.index_Set := rfl
theorem fn_index_Find : fnOf F.index_Find = some L.index_Find := rfl
theorem fn_index_big : fnOf F.index_big = some L.index_big := rfl
theorem fn_index_zeros : fnOf F.index_zeros = some L.index_zeros := rfl
theorem fn_sha_Sum : fnOf F.sha_Sum = some L.sha_Sum := rfl
theorem fn_index_worse : fnOf F.index_worse = some L.index_worse := rfl
theorem fn_index_one : fnOf F.index_one = some L.index_one := rfl
theorem fn_index_order : fnOf F.index_order = some L.index_order := rfl
theorem fn_index_slot : fnOf F.index_slot = some L.index_slot := rfl
theorem fn_bytes_Equal : fnOf F.bytes_Equal = some L.bytes_Equal := rfl
theorem fn_slices_ContainsFunc_Sapi_Slot_api_Slot : fnOf F.slices_ContainsFunc_Sapi_Slot_api_Slot = some L.slices_ContainsFunc_Sapi_Slot_api_Slot := rfl
theorem fn_index_Set_fn1 : fnOf F.index_Set_fn1 = some L.index_Set_fn1 := rfl
theorem fn_slices_Concat_Sapi_Slot_api_Slot : fnOf F.slices_Concat_Sapi_Slot_api_Slot = some L.slices_Concat_Sapi_Slot_api_Slot := rfl
theorem fn_slices_BinarySearchFunc_Sapi_Slot_api_Slot_api_Slot : fnOf F.slices_BinarySearchFunc_Sapi_Slot_api_Slot_api_Slot = some L.slices_BinarySearchFunc_Sapi_Slot_api_Slot_api_Slot := rfl
theorem fn_sha_Block : fnOf F.sha_Block = some L.sha_Block := rfl
theorem fn_bytes_Clone : fnOf F.bytes_Clone = some L.bytes_Clone := rfl
theorem fn_sha_Pad : fnOf F.sha_Pad = some L.sha_Pad := rfl
theorem fn_names_Mode : fnOf F.names_Mode = some L.names_Mode := rfl
theorem fn_strings_Compare : fnOf F.strings_Compare = some L.strings_Compare := rfl
theorem fn_index_slot_fn1 : fnOf F.index_slot_fn1 = some L.index_slot_fn1 := rfl
theorem fn_num_Big : fnOf F.num_Big = some L.num_Big := rfl
theorem fn_bytes_IndexByte : fnOf F.bytes_IndexByte = some L.bytes_IndexByte := rfl
theorem fn_strings_SplitSeq : fnOf F.strings_SplitSeq = some L.strings_SplitSeq := rfl
theorem fn_names_Name : fnOf F.names_Name = some L.names_Name := rfl
theorem fn_slices_IndexFunc_Sapi_Slot_api_Slot : fnOf F.slices_IndexFunc_Sapi_Slot_api_Slot = some L.slices_IndexFunc_Sapi_Slot_api_Slot := rfl
theorem fn_slices_Grow_Sapi_Slot_api_Slot : fnOf F.slices_Grow_Sapi_Slot_api_Slot = some L.slices_Grow_Sapi_Slot_api_Slot := rfl
theorem fn_bits_RotateLeft32 : fnOf F.bits_RotateLeft32 = some L.bits_RotateLeft32 := rfl
theorem fn_bytealg_CompareString : fnOf F.bytealg_CompareString = some L.bytealg_CompareString := rfl
theorem fn_strings_splitSeq : fnOf F.strings_splitSeq = some L.strings_splitSeq := rfl
theorem fn_strings_EqualFold : fnOf F.strings_EqualFold = some L.strings_EqualFold := rfl
theorem fn_strings_ContainsAny : fnOf F.strings_ContainsAny = some L.strings_ContainsAny := rfl
theorem fn_utf8_DecodeRuneInString : fnOf F.utf8_DecodeRuneInString = some L.utf8_DecodeRuneInString := rfl
theorem fn_strings_Index : fnOf F.strings_Index = some L.strings_Index := rfl
theorem fn_strings_IndexAny : fnOf F.strings_IndexAny = some L.strings_IndexAny := rfl
theorem fn_stringslite_Index : fnOf F.stringslite_Index = some L.stringslite_Index := rfl
theorem fn_strings_IndexRune : fnOf F.strings_IndexRune = some L.strings_IndexRune := rfl
theorem fn_strings_shouldUseASCIISet : fnOf F.strings_shouldUseASCIISet = some L.strings_shouldUseASCIISet := rfl
theorem fn_strings_asciiSet_contains : fnOf F.strings_asciiSet_contains = some L.strings_asciiSet_contains := rfl
theorem fn_stringslite_IndexByte : fnOf F.stringslite_IndexByte = some L.stringslite_IndexByte := rfl
theorem fn_strings_IndexByte : fnOf F.strings_IndexByte = some L.strings_IndexByte := rfl
theorem fn_utf8_ValidRune : fnOf F.utf8_ValidRune = some L.utf8_ValidRune := rfl
end Cod

/- The lean forms are those of the program. -/
namespace Cod
open Go Go.Proofs
set_option maxRecDepth 100000
theorem ok_law17_IndexOne : LowOK Tryd.prog F.law17_IndexOne L.law17_IndexOne := ⟨A.law17_IndexOne, Tryd.f8, Tryd.func8, by kernel_rfl, by kernel_rfl⟩
theorem ok_law17_awake : LowOK Tryd.prog F.law17_awake L.law17_awake := ⟨A.law17_awake, Tryd.f10, Tryd.func10, by kernel_rfl, by kernel_rfl⟩
theorem ok_index_Put : LowOK Tryd.prog F.index_Put L.index_Put := ⟨A.index_Put, Tryd.f12, Tryd.func12, by kernel_rfl, by kernel_rfl⟩
theorem ok_index_Check : LowOK Tryd.prog F.index_Check L.index_Check := ⟨A.index_Check, Tryd.f15, Tryd.func15, by kernel_rfl, by kernel_rfl⟩
theorem ok_index_Parse : LowOK Tryd.prog F.index_Parse L.index_Parse := ⟨A.index_Parse, Tryd.f16, Tryd.func16, by kernel_rfl, by kernel_rfl⟩
theorem ok_ref01_Twin : LowOK Tryd.prog F.ref01_Twin L.ref01_Twin := ⟨A.ref01_Twin, Tryd.f17, Tryd.func17, by kernel_rfl, by kernel_rfl⟩
theorem ok_ref17_Same : LowOK Tryd.prog F.ref17_Same L.ref17_Same := ⟨A.ref17_Same, Tryd.f19, Tryd.func19, by kernel_rfl, by kernel_rfl⟩
theorem ok_index_Set : LowOK Tryd.prog F.index_Set L.index_Set := ⟨A.index_Set, Tryd.f20, Tryd.func20, by kernel_rfl, by kernel_rfl⟩
theorem ok_index_Find : LowOK Tryd.prog F.index_Find L.index_Find := ⟨A.index_Find, Tryd.f22, Tryd.func22, by kernel_rfl, by kernel_rfl⟩
theorem ok_index_big : LowOK Tryd.prog F.index_big L.index_big := ⟨A.index_big, Tryd.f28, Tryd.func28, by kernel_rfl, by kernel_rfl⟩
theorem ok_index_zeros : LowOK Tryd.prog F.index_zeros L.index_zeros := ⟨A.index_zeros, Tryd.f29, Tryd.func29, by kernel_rfl, by kernel_rfl⟩
theorem ok_sha_Sum : LowOK Tryd.prog F.sha_Sum L.sha_Sum := ⟨A.sha_Sum, Tryd.f30, Tryd.func30, by kernel_rfl, by kernel_rfl⟩
theorem ok_index_worse : LowOK Tryd.prog F.index_worse L.index_worse := ⟨A.index_worse, Tryd.f33, Tryd.func33, by kernel_rfl, by kernel_rfl⟩
theorem ok_index_one : LowOK Tryd.prog F.index_one L.index_one := ⟨A.index_one, Tryd.f34, Tryd.func34, by kernel_rfl, by kernel_rfl⟩
theorem ok_index_order : LowOK Tryd.prog F.index_order L.index_order := ⟨A.index_order, Tryd.f35, Tryd.func35, by kernel_rfl, by kernel_rfl⟩
theorem ok_index_slot : LowOK Tryd.prog F.index_slot L.index_slot := ⟨A.index_slot, Tryd.f36, Tryd.func36, by kernel_rfl, by kernel_rfl⟩
theorem ok_bytes_Equal : LowOK Tryd.prog F.bytes_Equal L.bytes_Equal := ⟨A.bytes_Equal, Tryd.f37, Tryd.func37, by kernel_rfl, by kernel_rfl⟩
theorem ok_slices_ContainsFunc_Sapi_Slot_api_Slot : LowOK Tryd.prog F.slices_ContainsFunc_Sapi_Slot_api_Slot L.slices_ContainsFunc_Sapi_Slot_api_Slot := ⟨A.slices_ContainsFunc_Sapi_Slot_api_Slot, Tryd.f41, Tryd.func41, by kernel_rfl, by kernel_rfl⟩
theorem ok_index_Set_fn1 : LowOK Tryd.prog F.index_Set_fn1 L.index_Set_fn1 := ⟨A.index_Set_fn1, Tryd.f42, Tryd.func42, by kernel_rfl, by kernel_rfl⟩
theorem ok_slices_Concat_Sapi_Slot_api_Slot : LowOK Tryd.prog F.slices_Concat_Sapi_Slot_api_Slot L.slices_Concat_Sapi_Slot_api_Slot := ⟨A.slices_Concat_Sapi_Slot_api_Slot, Tryd.f43, Tryd.func43, by kernel_rfl, by kernel_rfl⟩
theorem ok_slices_BinarySearchFunc_Sapi_Slot_api_Slot_api_Slot : LowOK Tryd.prog F.slices_BinarySearchFunc_Sapi_Slot_api_Slot_api_Slot L.slices_BinarySearchFunc_Sapi_Slot_api_Slot_api_Slot := ⟨A.slices_BinarySearchFunc_Sapi_Slot_api_Slot_api_Slot, Tryd.f48, Tryd.func48, by kernel_rfl, by kernel_rfl⟩
theorem ok_sha_Block : LowOK Tryd.prog F.sha_Block L.sha_Block := ⟨A.sha_Block, Tryd.f60, Tryd.func60, by kernel_rfl, by kernel_rfl⟩
theorem ok_bytes_Clone : LowOK Tryd.prog F.bytes_Clone L.bytes_Clone := ⟨A.bytes_Clone, Tryd.f61, Tryd.func61, by kernel_rfl, by kernel_rfl⟩
theorem ok_sha_Pad : LowOK Tryd.prog F.sha_Pad L.sha_Pad := ⟨A.sha_Pad, Tryd.f62, Tryd.func62, by kernel_rfl, by kernel_rfl⟩
theorem ok_names_Mode : LowOK Tryd.prog F.names_Mode L.names_Mode := ⟨A.names_Mode, Tryd.f65, Tryd.func65, by kernel_rfl, by kernel_rfl⟩
theorem ok_strings_Compare : LowOK Tryd.prog F.strings_Compare L.strings_Compare := ⟨A.strings_Compare, Tryd.f66, Tryd.func66, by kernel_rfl, by kernel_rfl⟩
theorem ok_index_slot_fn1 : LowOK Tryd.prog F.index_slot_fn1 L.index_slot_fn1 := ⟨A.index_slot_fn1, Tryd.f67, Tryd.func67, by kernel_rfl, by kernel_rfl⟩
theorem ok_num_Big : LowOK Tryd.prog F.num_Big L.num_Big := ⟨A.num_Big, Tryd.f68, Tryd.func68, by kernel_rfl, by kernel_rfl⟩
theorem ok_bytes_IndexByte : LowOK Tryd.prog F.bytes_IndexByte L.bytes_IndexByte := ⟨A.bytes_IndexByte, Tryd.f69, Tryd.func69, by kernel_rfl, by kernel_rfl⟩
theorem ok_strings_SplitSeq : LowOK Tryd.prog F.strings_SplitSeq L.strings_SplitSeq := ⟨A.strings_SplitSeq, Tryd.f72, Tryd.func72, by kernel_rfl, by kernel_rfl⟩
theorem ok_names_Name : LowOK Tryd.prog F.names_Name L.names_Name := ⟨A.names_Name, Tryd.f73, Tryd.func73, by kernel_rfl, by kernel_rfl⟩
theorem ok_slices_IndexFunc_Sapi_Slot_api_Slot : LowOK Tryd.prog F.slices_IndexFunc_Sapi_Slot_api_Slot L.slices_IndexFunc_Sapi_Slot_api_Slot := ⟨A.slices_IndexFunc_Sapi_Slot_api_Slot, Tryd.f74, Tryd.func74, by kernel_rfl, by kernel_rfl⟩
theorem ok_slices_Grow_Sapi_Slot_api_Slot : LowOK Tryd.prog F.slices_Grow_Sapi_Slot_api_Slot L.slices_Grow_Sapi_Slot_api_Slot := ⟨A.slices_Grow_Sapi_Slot_api_Slot, Tryd.f75, Tryd.func75, by kernel_rfl, by kernel_rfl⟩
theorem ok_bits_RotateLeft32 : LowOK Tryd.prog F.bits_RotateLeft32 L.bits_RotateLeft32 := ⟨A.bits_RotateLeft32, Tryd.f85, Tryd.func85, by kernel_rfl, by kernel_rfl⟩
theorem ok_bytealg_CompareString : LowOK Tryd.prog F.bytealg_CompareString L.bytealg_CompareString := ⟨A.bytealg_CompareString, Tryd.f89, Tryd.func89, by kernel_rfl, by kernel_rfl⟩
theorem ok_strings_splitSeq : LowOK Tryd.prog F.strings_splitSeq L.strings_splitSeq := ⟨A.strings_splitSeq, Tryd.f91, Tryd.func91, by kernel_rfl, by kernel_rfl⟩
theorem ok_strings_EqualFold : LowOK Tryd.prog F.strings_EqualFold L.strings_EqualFold := ⟨A.strings_EqualFold, Tryd.f92, Tryd.func92, by kernel_rfl, by kernel_rfl⟩
theorem ok_strings_ContainsAny : LowOK Tryd.prog F.strings_ContainsAny L.strings_ContainsAny := ⟨A.strings_ContainsAny, Tryd.f93, Tryd.func93, by kernel_rfl, by kernel_rfl⟩
theorem ok_strings_splitSeq_fn1 : LowOK Tryd.prog F.strings_splitSeq_fn1 L.strings_splitSeq_fn1 := ⟨A.strings_splitSeq_fn1, Tryd.f104, Tryd.func104, by kernel_rfl, by kernel_rfl⟩
theorem ok_utf8_DecodeRuneInString : LowOK Tryd.prog F.utf8_DecodeRuneInString L.utf8_DecodeRuneInString := ⟨A.utf8_DecodeRuneInString, Tryd.f105, Tryd.func105, by kernel_rfl, by kernel_rfl⟩
theorem ok_strings_Index : LowOK Tryd.prog F.strings_Index L.strings_Index := ⟨A.strings_Index, Tryd.f106, Tryd.func106, by kernel_rfl, by kernel_rfl⟩
theorem ok_unicode_SimpleFold : LowOK Tryd.prog F.unicode_SimpleFold L.unicode_SimpleFold := ⟨A.unicode_SimpleFold, Tryd.f107, Tryd.func107, by kernel_rfl, by kernel_rfl⟩
theorem ok_strings_IndexAny : LowOK Tryd.prog F.strings_IndexAny L.strings_IndexAny := ⟨A.strings_IndexAny, Tryd.f108, Tryd.func108, by kernel_rfl, by kernel_rfl⟩
theorem ok_utf8_decodeRuneInStringSlow : LowOK Tryd.prog F.utf8_decodeRuneInStringSlow L.utf8_decodeRuneInStringSlow := ⟨A.utf8_decodeRuneInStringSlow, Tryd.f118, Tryd.func118, by kernel_rfl, by kernel_rfl⟩
theorem ok_stringslite_Index : LowOK Tryd.prog F.stringslite_Index L.stringslite_Index := ⟨A.stringslite_Index, Tryd.f119, Tryd.func119, by kernel_rfl, by kernel_rfl⟩
theorem ok_unicode_lookupCaseRange : LowOK Tryd.prog F.unicode_lookupCaseRange L.unicode_lookupCaseRange := ⟨A.unicode_lookupCaseRange, Tryd.f120, Tryd.func120, by kernel_rfl, by kernel_rfl⟩
theorem ok_unicode_convertCase : LowOK Tryd.prog F.unicode_convertCase L.unicode_convertCase := ⟨A.unicode_convertCase, Tryd.f121, Tryd.func121, by kernel_rfl, by kernel_rfl⟩
theorem ok_strings_IndexRune : LowOK Tryd.prog F.strings_IndexRune L.strings_IndexRune := ⟨A.strings_IndexRune, Tryd.f122, Tryd.func122, by kernel_rfl, by kernel_rfl⟩
theorem ok_strings_shouldUseASCIISet : LowOK Tryd.prog F.strings_shouldUseASCIISet L.strings_shouldUseASCIISet := ⟨A.strings_shouldUseASCIISet, Tryd.f123, Tryd.func123, by kernel_rfl, by kernel_rfl⟩
theorem ok_strings_makeASCIISet : LowOK Tryd.prog F.strings_makeASCIISet L.strings_makeASCIISet := ⟨A.strings_makeASCIISet, Tryd.f124, Tryd.func124, by kernel_rfl, by kernel_rfl⟩
theorem ok_strings_asciiSet_contains : LowOK Tryd.prog F.strings_asciiSet_contains L.strings_asciiSet_contains := ⟨A.strings_asciiSet_contains, Tryd.f125, Tryd.func125, by kernel_rfl, by kernel_rfl⟩
theorem ok_stringslite_IndexByte : LowOK Tryd.prog F.stringslite_IndexByte L.stringslite_IndexByte := ⟨A.stringslite_IndexByte, Tryd.f133, Tryd.func133, by kernel_rfl, by kernel_rfl⟩
theorem ok_bytealg_Cutover : LowOK Tryd.prog F.bytealg_Cutover L.bytealg_Cutover := ⟨A.bytealg_Cutover, Tryd.f135, Tryd.func135, by kernel_rfl, by kernel_rfl⟩
theorem ok_bytealg_IndexRabinKarp_string : LowOK Tryd.prog F.bytealg_IndexRabinKarp_string L.bytealg_IndexRabinKarp_string := ⟨A.bytealg_IndexRabinKarp_string, Tryd.f136, Tryd.func136, by kernel_rfl, by kernel_rfl⟩
theorem ok_strings_IndexByte : LowOK Tryd.prog F.strings_IndexByte L.strings_IndexByte := ⟨A.strings_IndexByte, Tryd.f137, Tryd.func137, by kernel_rfl, by kernel_rfl⟩
theorem ok_utf8_ValidRune : LowOK Tryd.prog F.utf8_ValidRune L.utf8_ValidRune := ⟨A.utf8_ValidRune, Tryd.f138, Tryd.func138, by kernel_rfl, by kernel_rfl⟩
theorem ok_bytealg_hashStr_string : LowOK Tryd.prog F.bytealg_hashStr_string L.bytealg_hashStr_string := ⟨A.bytealg_hashStr_string, Tryd.f142, Tryd.func142, by kernel_rfl, by kernel_rfl⟩
theorem all_ok : AllOK Tryd.prog fnTab := ⟨ok_law17_IndexOne, ok_law17_awake, ok_index_Put, ok_index_Check, ok_index_Parse, ok_ref01_Twin, ok_ref17_Same, ok_index_Set, ok_index_Find, ok_index_big, ok_index_zeros, ok_sha_Sum, ok_index_worse, ok_index_one, ok_index_order, ok_index_slot, ok_bytes_Equal, ok_slices_ContainsFunc_Sapi_Slot_api_Slot, ok_index_Set_fn1, ok_slices_Concat_Sapi_Slot_api_Slot, ok_slices_BinarySearchFunc_Sapi_Slot_api_Slot_api_Slot, ok_sha_Block, ok_bytes_Clone, ok_sha_Pad, ok_names_Mode, ok_strings_Compare, ok_index_slot_fn1, ok_num_Big, ok_bytes_IndexByte, ok_strings_SplitSeq, ok_names_Name, ok_slices_IndexFunc_Sapi_Slot_api_Slot, ok_slices_Grow_Sapi_Slot_api_Slot, ok_bits_RotateLeft32, ok_bytealg_CompareString, ok_strings_splitSeq, ok_strings_EqualFold, ok_strings_ContainsAny, ok_strings_splitSeq_fn1, ok_utf8_DecodeRuneInString, ok_strings_Index, ok_unicode_SimpleFold, ok_strings_IndexAny, ok_utf8_decodeRuneInStringSlow, ok_stringslite_Index, ok_unicode_lookupCaseRange, ok_unicode_convertCase, ok_strings_IndexRune, ok_strings_shouldUseASCIISet, ok_strings_makeASCIISet, ok_strings_asciiSet_contains, ok_stringslite_IndexByte, ok_bytealg_Cutover, ok_bytealg_IndexRabinKarp_string, ok_strings_IndexByte, ok_utf8_ValidRune, ok_bytealg_hashStr_string, trivial⟩
end Cod


/- The lean forms as a table. -/
import Derived.Test.YthlnjgdoodjgoaaDoorChecked
import Derived.Test.YthlnjgdoodjgoaaDoorXLit2
set_option linter.unusedSimpArgs false
set_option linter.unusedVariables false
namespace Cod
open Go
def fnTab : List (Nat × LFn) := [(F.law07_ObjectIds, L.law07_ObjectIds), (F.law07_awake, L.law07_awake), (F.object_Header, L.object_Header), (F.ref07_DocHeader, L.ref07_DocHeader), (F.object_Id, L.object_Id), (F.ref01_Twin, L.ref01_Twin), (F.ref07_DocId, L.ref07_DocId), (F.sha_Sum, L.sha_Sum), (F.object_least, L.object_least), (F.object_when, L.object_when), (F.object_word, L.object_word), (F.ref07_Least, L.ref07_Least), (F.ref07_If, L.ref07_If), (F.ref07_Word, L.ref07_Word), (F.ref07_Header, L.ref07_Header), (F.object_plain, L.object_plain), (F.slices_Concat_Sbyte_byte, L.slices_Concat_Sbyte_byte), (F.ref07_basic, L.ref07_basic), (F.ref07_Id, L.ref07_Id), (F.object_entries, L.object_entries), (F.strconv_FormatInt, L.strconv_FormatInt), (F.sha_Block, L.sha_Block), (F.bytes_Clone, L.bytes_Clone), (F.sha_Pad, L.sha_Pad), (F.slices_Grow_Sbyte_byte, L.slices_Grow_Sbyte_byte), (F.ref01_Sum, L.ref01_Sum), (F.names_Name, L.names_Name), (F.names_Mode, L.names_Mode), (F.names_Order, L.names_Order), (F.strconv_FormatInt_40, L.strconv_FormatInt_40), (F.bits_RotateLeft32, L.bits_RotateLeft32), (F.ref01_First, L.ref01_First), (F.ref01_compress, L.ref01_compress), (F.ref01_DocPad, L.ref01_DocPad), (F.strings_EqualFold, L.strings_EqualFold), (F.strings_ContainsAny, L.strings_ContainsAny), (F.cmp_Compare_string, L.cmp_Compare_string), (F.strconv_small, L.strconv_small), (F.strconv_numDigits, L.strconv_numDigits), (F.strconv_formatBase10, L.strconv_formatBase10), (F.strconv_formatBits, L.strconv_formatBits), (F.ref01_big, L.ref01_big), (F.ref01_right, L.ref01_right), (F.ref01_constants, L.ref01_constants), (F.utf8_DecodeRuneInString, L.utf8_DecodeRuneInString), (F.unicode_SimpleFold, L.unicode_SimpleFold), (F.strings_IndexAny, L.strings_IndexAny), (F.cmp_isNaN_string, L.cmp_isNaN_string), (F.strconv_log10Pow2, L.strconv_log10Pow2), (F.bits_Len64, L.bits_Len64), (F.strconv_bool2_int, L.strconv_bool2_int), (F.strconv_isPowerOfTwo, L.strconv_isPowerOfTwo), (F.bits_TrailingZeros, L.bits_TrailingZeros), (F.utf8_decodeRuneInStringSlow, L.utf8_decodeRuneInStringSlow), (F.unicode_lookupCaseRange, L.unicode_lookupCaseRange), (F.unicode_convertCase, L.unicode_convertCase), (F.strings_IndexRune, L.strings_IndexRune), (F.strings_shouldUseASCIISet, L.strings_shouldUseASCIISet), (F.strings_makeASCIISet, L.strings_makeASCIISet), (F.strings_asciiSet_contains, L.strings_asciiSet_contains), (F.bits_TrailingZeros32, L.bits_TrailingZeros32), (F.bits_TrailingZeros64, L.bits_TrailingZeros64), (F.strings_IndexByte, L.strings_IndexByte), (F.utf8_ValidRune, L.utf8_ValidRune), (F.bytealg_Cutover, L.bytealg_Cutover), (F.stringslite_IndexByte, L.stringslite_IndexByte)]
def fnOf (f : Nat) : Option LFn := fnTab.lookup f
theorem fn_law07_ObjectIds : fnOf F.law07_ObjectIds = some L.law07_ObjectIds := rfl
theorem fn_law07_awake : fnOf F.law07_awake = some L.law07_awake := rfl
theorem fn_object_Header : fnOf F.object_Header = some L.object_Header := rfl
theorem fn_ref07_DocHeader : fnOf F.ref07_DocHeader = some L.ref07_DocHeader := rfl
theorem fn_object_Id : fnOf F.object_Id = some L.object_Id := rfl
theorem fn_ref01_Twin : fnOf F.ref01_Twin = some L.ref01_Twin := rfl
theorem fn_ref07_DocId : fnOf F.ref07_DocId = some L.ref07_DocId := rfl
theorem fn_sha_Sum : fnOf F.sha_Sum = some L.sha_Sum := rfl
theorem fn_object_least : fnOf F.object_least = some L.object_least := rfl
theorem fn_object_when : fnOf F.object_when = some L.object_when := rfl
theorem fn_object_word : fnOf F.object_word = some L.object_word := rfl
theorem fn_ref07_Least : fnOf F.ref07_Least = some L.ref07_Least := rfl
theorem fn_ref07_If : fnOf F.ref07_If = some L.ref07_If := rfl
theorem fn_ref07_Word : fnOf F.ref07_Word = some L.ref07_Word := rfl
theorem fn_ref07_Header : fnOf F.ref07_Header = some L.ref07_Header := rfl
theorem fn_object_plain : fnOf F.object_plain = some L.object_plain := rfl
theorem fn_slices_Concat_Sbyte_byte : fnOf F.slices_Concat_Sbyte_byte = some L.slices_Concat_Sbyte_byte := rfl
theorem fn_ref07_basic : fnOf F.ref07_basic = some L.ref07_basic := rfl
theorem fn_ref07_Id : fnOf F.ref07_Id = some L.ref07_Id := rfl
theorem fn_object_entries : fnOf F.object_entries = some L.object_entries := rfl
theorem fn_strconv_FormatInt : fnOf F.strconv_FormatInt = some L.strconv_FormatInt := rfl
theorem fn_sha_Block : fnOf F.sha_Block = some L.sha_Block := rfl
theorem fn_bytes_Clone : fnOf F.bytes_Clone = some L.bytes_Clone := rfl
theorem fn_sha_Pad : fnOf F.sha_Pad = some L.sha_Pad := rfl
theorem fn_slices_Grow_Sbyte_byte : fnOf F.slices_Grow_Sbyte_byte = some L.slices_Grow_Sbyte_byte := rfl
theorem fn_ref01_Sum : fnOf F.ref01_Sum = some L.ref01_Sum := rfl
theorem fn_names_Name : fnOf F.names_Name = some L.names_Name := rfl
theorem fn_names_Mode : fnOf F.names_Mode = some L.names_Mode := rfl
theorem fn_names_Order : fnOf F.names_Order = some L.names_Order := rfl
theorem fn_strconv_FormatInt_40 : fnOf F.strconv_FormatInt_40 = some L.strconv_FormatInt_40 := rfl
theorem fn_bits_RotateLeft32 : fnOf F.bits_RotateLeft32 = some L.bits_RotateLeft32 := rfl
theorem fn_ref01_compress : fnOf F.ref01_compress = some L.ref01_compress := rfl
theorem fn_ref01_DocPad : fnOf F.ref01_DocPad = some L.ref01_DocPad := rfl
theorem fn_strings_EqualFold : fnOf F.strings_EqualFold = some L.strings_EqualFold := rfl
theorem fn_strings_ContainsAny : fnOf F.strings_ContainsAny = some L.strings_ContainsAny := rfl
theorem fn_cmp_Compare_string : fnOf F.cmp_Compare_string = some L.cmp_Compare_string := rfl
theorem fn_strconv_formatBits : fnOf F.strconv_formatBits = some L.strconv_formatBits := rfl
theorem fn_ref01_big : fnOf F.ref01_big = some L.ref01_big := rfl
theorem fn_ref01_right : fnOf F.ref01_right = some L.ref01_right := rfl
theorem fn_utf8_DecodeRuneInString : fnOf F.utf8_DecodeRuneInString = some L.utf8_DecodeRuneInString := rfl
theorem fn_strings_IndexAny : fnOf F.strings_IndexAny = some L.strings_IndexAny := rfl
theorem fn_cmp_isNaN_string : fnOf F.cmp_isNaN_string = some L.cmp_isNaN_string := rfl
theorem fn_strings_IndexRune : fnOf F.strings_IndexRune = some L.strings_IndexRune := rfl
theorem fn_strings_shouldUseASCIISet : fnOf F.strings_shouldUseASCIISet = some L.strings_shouldUseASCIISet := rfl
theorem fn_strings_asciiSet_contains : fnOf F.strings_asciiSet_contains = some L.strings_asciiSet_contains := rfl
theorem fn_strings_IndexByte : fnOf F.strings_IndexByte = some L.strings_IndexByte := rfl
theorem fn_utf8_ValidRune : fnOf F.utf8_ValidRune = some L.utf8_ValidRune := rfl
theorem fn_stringslite_IndexByte : fnOf F.stringslite_IndexByte = some L.stringslite_IndexByte := rfl
end Cod

/- The lean forms are those of the program. -/
namespace Cod
open Go Go.Proofs
set_option maxRecDepth 100000
theorem ok_law07_ObjectIds : LowOK Tryd.prog F.law07_ObjectIds L.law07_ObjectIds := ⟨A.law07_ObjectIds, Tryd.f3, Tryd.func3, by kernel_rfl, by kernel_rfl⟩
theorem ok_law07_awake : LowOK Tryd.prog F.law07_awake L.law07_awake := ⟨A.law07_awake, Tryd.f4, Tryd.func4, by kernel_rfl, by kernel_rfl⟩
theorem ok_object_Header : LowOK Tryd.prog F.object_Header L.object_Header := ⟨A.object_Header, Tryd.f5, Tryd.func5, by kernel_rfl, by kernel_rfl⟩
theorem ok_ref07_DocHeader : LowOK Tryd.prog F.ref07_DocHeader L.ref07_DocHeader := ⟨A.ref07_DocHeader, Tryd.f6, Tryd.func6, by kernel_rfl, by kernel_rfl⟩
theorem ok_object_Id : LowOK Tryd.prog F.object_Id L.object_Id := ⟨A.object_Id, Tryd.f7, Tryd.func7, by kernel_rfl, by kernel_rfl⟩
theorem ok_ref01_Twin : LowOK Tryd.prog F.ref01_Twin L.ref01_Twin := ⟨A.ref01_Twin, Tryd.f8, Tryd.func8, by kernel_rfl, by kernel_rfl⟩
theorem ok_ref07_DocId : LowOK Tryd.prog F.ref07_DocId L.ref07_DocId := ⟨A.ref07_DocId, Tryd.f9, Tryd.func9, by kernel_rfl, by kernel_rfl⟩
theorem ok_sha_Sum : LowOK Tryd.prog F.sha_Sum L.sha_Sum := ⟨A.sha_Sum, Tryd.f11, Tryd.func11, by kernel_rfl, by kernel_rfl⟩
theorem ok_object_least : LowOK Tryd.prog F.object_least L.object_least := ⟨A.object_least, Tryd.f12, Tryd.func12, by kernel_rfl, by kernel_rfl⟩
theorem ok_object_when : LowOK Tryd.prog F.object_when L.object_when := ⟨A.object_when, Tryd.f13, Tryd.func13, by kernel_rfl, by kernel_rfl⟩
theorem ok_object_word : LowOK Tryd.prog F.object_word L.object_word := ⟨A.object_word, Tryd.f14, Tryd.func14, by kernel_rfl, by kernel_rfl⟩
theorem ok_ref07_Least : LowOK Tryd.prog F.ref07_Least L.ref07_Least := ⟨A.ref07_Least, Tryd.f16, Tryd.func16, by kernel_rfl, by kernel_rfl⟩
theorem ok_ref07_If : LowOK Tryd.prog F.ref07_If L.ref07_If := ⟨A.ref07_If, Tryd.f17, Tryd.func17, by kernel_rfl, by kernel_rfl⟩
theorem ok_ref07_Word : LowOK Tryd.prog F.ref07_Word L.ref07_Word := ⟨A.ref07_Word, Tryd.f18, Tryd.func18, by kernel_rfl, by kernel_rfl⟩
theorem ok_ref07_Header : LowOK Tryd.prog F.ref07_Header L.ref07_Header := ⟨A.ref07_Header, Tryd.f19, Tryd.func19, by kernel_rfl, by kernel_rfl⟩
theorem ok_object_plain : LowOK Tryd.prog F.object_plain L.object_plain := ⟨A.object_plain, Tryd.f20, Tryd.func20, by kernel_rfl, by kernel_rfl⟩
theorem ok_slices_Concat_Sbyte_byte : LowOK Tryd.prog F.slices_Concat_Sbyte_byte L.slices_Concat_Sbyte_byte := ⟨A.slices_Concat_Sbyte_byte, Tryd.f21, Tryd.func21, by kernel_rfl, by kernel_rfl⟩
theorem ok_ref07_basic : LowOK Tryd.prog F.ref07_basic L.ref07_basic := ⟨A.ref07_basic, Tryd.f22, Tryd.func22, by kernel_rfl, by kernel_rfl⟩
theorem ok_ref07_Id : LowOK Tryd.prog F.ref07_Id L.ref07_Id := ⟨A.ref07_Id, Tryd.f23, Tryd.func23, by kernel_rfl, by kernel_rfl⟩
theorem ok_object_entries : LowOK Tryd.prog F.object_entries L.object_entries := ⟨A.object_entries, Tryd.f24, Tryd.func24, by kernel_rfl, by kernel_rfl⟩
theorem ok_strconv_FormatInt : LowOK Tryd.prog F.strconv_FormatInt L.strconv_FormatInt := ⟨A.strconv_FormatInt, Tryd.f26, Tryd.func26, by kernel_rfl, by kernel_rfl⟩
theorem ok_sha_Block : LowOK Tryd.prog F.sha_Block L.sha_Block := ⟨A.sha_Block, Tryd.f29, Tryd.func29, by kernel_rfl, by kernel_rfl⟩
theorem ok_bytes_Clone : LowOK Tryd.prog F.bytes_Clone L.bytes_Clone := ⟨A.bytes_Clone, Tryd.f30, Tryd.func30, by kernel_rfl, by kernel_rfl⟩
theorem ok_sha_Pad : LowOK Tryd.prog F.sha_Pad L.sha_Pad := ⟨A.sha_Pad, Tryd.f31, Tryd.func31, by kernel_rfl, by kernel_rfl⟩
theorem ok_slices_Grow_Sbyte_byte : LowOK Tryd.prog F.slices_Grow_Sbyte_byte L.slices_Grow_Sbyte_byte := ⟨A.slices_Grow_Sbyte_byte, Tryd.f33, Tryd.func33, by kernel_rfl, by kernel_rfl⟩
theorem ok_ref01_Sum : LowOK Tryd.prog F.ref01_Sum L.ref01_Sum := ⟨A.ref01_Sum, Tryd.f34, Tryd.func34, by kernel_rfl, by kernel_rfl⟩
theorem ok_names_Name : LowOK Tryd.prog F.names_Name L.names_Name := ⟨A.names_Name, Tryd.f35, Tryd.func35, by kernel_rfl, by kernel_rfl⟩
theorem ok_names_Mode : LowOK Tryd.prog F.names_Mode L.names_Mode := ⟨A.names_Mode, Tryd.f36, Tryd.func36, by kernel_rfl, by kernel_rfl⟩
theorem ok_names_Order : LowOK Tryd.prog F.names_Order L.names_Order := ⟨A.names_Order, Tryd.f37, Tryd.func37, by kernel_rfl, by kernel_rfl⟩
theorem ok_strconv_FormatInt_40 : LowOK Tryd.prog F.strconv_FormatInt_40 L.strconv_FormatInt_40 := ⟨A.strconv_FormatInt_40, Tryd.f40, Tryd.func40, by kernel_rfl, by kernel_rfl⟩
theorem ok_bits_RotateLeft32 : LowOK Tryd.prog F.bits_RotateLeft32 L.bits_RotateLeft32 := ⟨A.bits_RotateLeft32, Tryd.f41, Tryd.func41, by kernel_rfl, by kernel_rfl⟩
theorem ok_ref01_First : LowOK Tryd.prog F.ref01_First L.ref01_First := ⟨A.ref01_First, Tryd.f42, Tryd.func42, by kernel_rfl, by kernel_rfl⟩
theorem ok_ref01_compress : LowOK Tryd.prog F.ref01_compress L.ref01_compress := ⟨A.ref01_compress, Tryd.f43, Tryd.func43, by kernel_rfl, by kernel_rfl⟩
theorem ok_ref01_DocPad : LowOK Tryd.prog F.ref01_DocPad L.ref01_DocPad := ⟨A.ref01_DocPad, Tryd.f44, Tryd.func44, by kernel_rfl, by kernel_rfl⟩
theorem ok_strings_EqualFold : LowOK Tryd.prog F.strings_EqualFold L.strings_EqualFold := ⟨A.strings_EqualFold, Tryd.f45, Tryd.func45, by kernel_rfl, by kernel_rfl⟩
theorem ok_strings_ContainsAny : LowOK Tryd.prog F.strings_ContainsAny L.strings_ContainsAny := ⟨A.strings_ContainsAny, Tryd.f46, Tryd.func46, by kernel_rfl, by kernel_rfl⟩
theorem ok_cmp_Compare_string : LowOK Tryd.prog F.cmp_Compare_string L.cmp_Compare_string := ⟨A.cmp_Compare_string, Tryd.f47, Tryd.func47, by kernel_rfl, by kernel_rfl⟩
theorem ok_strconv_small : LowOK Tryd.prog F.strconv_small L.strconv_small := ⟨A.strconv_small, Tryd.f51, Tryd.func51, by kernel_rfl, by kernel_rfl⟩
theorem ok_strconv_numDigits : LowOK Tryd.prog F.strconv_numDigits L.strconv_numDigits := ⟨A.strconv_numDigits, Tryd.f52, Tryd.func52, by kernel_rfl, by kernel_rfl⟩
theorem ok_strconv_formatBase10 : LowOK Tryd.prog F.strconv_formatBase10 L.strconv_formatBase10 := ⟨A.strconv_formatBase10, Tryd.f53, Tryd.func53, by kernel_rfl, by kernel_rfl⟩
theorem ok_strconv_formatBits : LowOK Tryd.prog F.strconv_formatBits L.strconv_formatBits := ⟨A.strconv_formatBits, Tryd.f54, Tryd.func54, by kernel_rfl, by kernel_rfl⟩
theorem ok_ref01_big : LowOK Tryd.prog F.ref01_big L.ref01_big := ⟨A.ref01_big, Tryd.f55, Tryd.func55, by kernel_rfl, by kernel_rfl⟩
theorem ok_ref01_right : LowOK Tryd.prog F.ref01_right L.ref01_right := ⟨A.ref01_right, Tryd.f56, Tryd.func56, by kernel_rfl, by kernel_rfl⟩
theorem ok_ref01_constants : LowOK Tryd.prog F.ref01_constants L.ref01_constants := ⟨A.ref01_constants, Tryd.f57, Tryd.func57, by kernel_rfl, by kernel_rfl⟩
theorem ok_utf8_DecodeRuneInString : LowOK Tryd.prog F.utf8_DecodeRuneInString L.utf8_DecodeRuneInString := ⟨A.utf8_DecodeRuneInString, Tryd.f58, Tryd.func58, by kernel_rfl, by kernel_rfl⟩
theorem ok_unicode_SimpleFold : LowOK Tryd.prog F.unicode_SimpleFold L.unicode_SimpleFold := ⟨A.unicode_SimpleFold, Tryd.f59, Tryd.func59, by kernel_rfl, by kernel_rfl⟩
theorem ok_strings_IndexAny : LowOK Tryd.prog F.strings_IndexAny L.strings_IndexAny := ⟨A.strings_IndexAny, Tryd.f60, Tryd.func60, by kernel_rfl, by kernel_rfl⟩
theorem ok_cmp_isNaN_string : LowOK Tryd.prog F.cmp_isNaN_string L.cmp_isNaN_string := ⟨A.cmp_isNaN_string, Tryd.f61, Tryd.func61, by kernel_rfl, by kernel_rfl⟩
theorem ok_strconv_log10Pow2 : LowOK Tryd.prog F.strconv_log10Pow2 L.strconv_log10Pow2 := ⟨A.strconv_log10Pow2, Tryd.f63, Tryd.func63, by kernel_rfl, by kernel_rfl⟩
theorem ok_bits_Len64 : LowOK Tryd.prog F.bits_Len64 L.bits_Len64 := ⟨A.bits_Len64, Tryd.f64, Tryd.func64, by kernel_rfl, by kernel_rfl⟩
theorem ok_strconv_bool2_int : LowOK Tryd.prog F.strconv_bool2_int L.strconv_bool2_int := ⟨A.strconv_bool2_int, Tryd.f65, Tryd.func65, by kernel_rfl, by kernel_rfl⟩
theorem ok_strconv_isPowerOfTwo : LowOK Tryd.prog F.strconv_isPowerOfTwo L.strconv_isPowerOfTwo := ⟨A.strconv_isPowerOfTwo, Tryd.f66, Tryd.func66, by kernel_rfl, by kernel_rfl⟩
theorem ok_bits_TrailingZeros : LowOK Tryd.prog F.bits_TrailingZeros L.bits_TrailingZeros := ⟨A.bits_TrailingZeros, Tryd.f67, Tryd.func67, by kernel_rfl, by kernel_rfl⟩
theorem ok_utf8_decodeRuneInStringSlow : LowOK Tryd.prog F.utf8_decodeRuneInStringSlow L.utf8_decodeRuneInStringSlow := ⟨A.utf8_decodeRuneInStringSlow, Tryd.f68, Tryd.func68, by kernel_rfl, by kernel_rfl⟩
theorem ok_unicode_lookupCaseRange : LowOK Tryd.prog F.unicode_lookupCaseRange L.unicode_lookupCaseRange := ⟨A.unicode_lookupCaseRange, Tryd.f69, Tryd.func69, by kernel_rfl, by kernel_rfl⟩
theorem ok_unicode_convertCase : LowOK Tryd.prog F.unicode_convertCase L.unicode_convertCase := ⟨A.unicode_convertCase, Tryd.f70, Tryd.func70, by kernel_rfl, by kernel_rfl⟩
theorem ok_strings_IndexRune : LowOK Tryd.prog F.strings_IndexRune L.strings_IndexRune := ⟨A.strings_IndexRune, Tryd.f71, Tryd.func71, by kernel_rfl, by kernel_rfl⟩
theorem ok_strings_shouldUseASCIISet : LowOK Tryd.prog F.strings_shouldUseASCIISet L.strings_shouldUseASCIISet := ⟨A.strings_shouldUseASCIISet, Tryd.f72, Tryd.func72, by kernel_rfl, by kernel_rfl⟩
theorem ok_strings_makeASCIISet : LowOK Tryd.prog F.strings_makeASCIISet L.strings_makeASCIISet := ⟨A.strings_makeASCIISet, Tryd.f73, Tryd.func73, by kernel_rfl, by kernel_rfl⟩
theorem ok_strings_asciiSet_contains : LowOK Tryd.prog F.strings_asciiSet_contains L.strings_asciiSet_contains := ⟨A.strings_asciiSet_contains, Tryd.f74, Tryd.func74, by kernel_rfl, by kernel_rfl⟩
theorem ok_bits_TrailingZeros32 : LowOK Tryd.prog F.bits_TrailingZeros32 L.bits_TrailingZeros32 := ⟨A.bits_TrailingZeros32, Tryd.f75, Tryd.func75, by kernel_rfl, by kernel_rfl⟩
theorem ok_bits_TrailingZeros64 : LowOK Tryd.prog F.bits_TrailingZeros64 L.bits_TrailingZeros64 := ⟨A.bits_TrailingZeros64, Tryd.f76, Tryd.func76, by kernel_rfl, by kernel_rfl⟩
theorem ok_strings_IndexByte : LowOK Tryd.prog F.strings_IndexByte L.strings_IndexByte := ⟨A.strings_IndexByte, Tryd.f77, Tryd.func77, by kernel_rfl, by kernel_rfl⟩
theorem ok_utf8_ValidRune : LowOK Tryd.prog F.utf8_ValidRune L.utf8_ValidRune := ⟨A.utf8_ValidRune, Tryd.f78, Tryd.func78, by kernel_rfl, by kernel_rfl⟩
theorem ok_bytealg_Cutover : LowOK Tryd.prog F.bytealg_Cutover L.bytealg_Cutover := ⟨A.bytealg_Cutover, Tryd.f79, Tryd.func79, by kernel_rfl, by kernel_rfl⟩
theorem ok_stringslite_IndexByte : LowOK Tryd.prog F.stringslite_IndexByte L.stringslite_IndexByte := ⟨A.stringslite_IndexByte, Tryd.f81, Tryd.func81, by kernel_rfl, by kernel_rfl⟩
theorem all_ok : AllOK Tryd.prog fnTab := ⟨ok_law07_ObjectIds, ok_law07_awake, ok_object_Header, ok_ref07_DocHeader, ok_object_Id, ok_ref01_Twin, ok_ref07_DocId, ok_sha_Sum, ok_object_least, ok_object_when, ok_object_word, ok_ref07_Least, ok_ref07_If, ok_ref07_Word, ok_ref07_Header, ok_object_plain, ok_slices_Concat_Sbyte_byte, ok_ref07_basic, ok_ref07_Id, ok_object_entries, ok_strconv_FormatInt, ok_sha_Block, ok_bytes_Clone, ok_sha_Pad, ok_slices_Grow_Sbyte_byte, ok_ref01_Sum, ok_names_Name, ok_names_Mode, ok_names_Order, ok_strconv_FormatInt_40, ok_bits_RotateLeft32, ok_ref01_First, ok_ref01_compress, ok_ref01_DocPad, ok_strings_EqualFold, ok_strings_ContainsAny, ok_cmp_Compare_string, ok_strconv_small, ok_strconv_numDigits, ok_strconv_formatBase10, ok_strconv_formatBits, ok_ref01_big, ok_ref01_right, ok_ref01_constants, ok_utf8_DecodeRuneInString, ok_unicode_SimpleFold, ok_strings_IndexAny, ok_cmp_isNaN_string, ok_strconv_log10Pow2, ok_bits_Len64, ok_strconv_bool2_int, ok_strconv_isPowerOfTwo, ok_bits_TrailingZeros, ok_utf8_decodeRuneInStringSlow, ok_unicode_lookupCaseRange, ok_unicode_convertCase, ok_strings_IndexRune, ok_strings_shouldUseASCIISet, ok_strings_makeASCIISet, ok_strings_asciiSet_contains, ok_bits_TrailingZeros32, ok_bits_TrailingZeros64, ok_strings_IndexByte, ok_utf8_ValidRune, ok_bytealg_Cutover, ok_stringslite_IndexByte, trivial⟩
end Cod


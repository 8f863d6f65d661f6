/- The lean forms as a table. -/
import Derived.Test.YtmijmageicjfnaaDoorChecked
import Derived.Test.YtmijmageicjfnaaDoorXLit2
set_option linter.unusedSimpArgs false
set_option linter.unusedVariables false
namespace Cod
open Go
def fnTab : List (Nat × LFn) := [(F.law06_NamesIdents, L.law06_NamesIdents), (F.law06_NamesBack, L.law06_NamesBack), (F.law06_NamesOrder, L.law06_NamesOrder), (F.law06_NamesParts, L.law06_NamesParts), (F.law06_NamesMay, L.law06_NamesMay), (F.law06_NamesFixed, L.law06_NamesFixed), (F.law06_awake, L.law06_awake), (F.names_PutIdent, L.names_PutIdent), (F.ref06_DocPutIdent, L.ref06_DocPutIdent), (F.names_ParseIdent, L.names_ParseIdent), (F.ref06_DocParseIdent, L.ref06_DocParseIdent), (F.names_Ident, L.names_Ident), (F.ref06_Ident, L.ref06_Ident), (F.names_Order, L.names_Order), (F.ref06_Order, L.ref06_Order), (F.ref06_Has, L.ref06_Has), (F.names_Name, L.names_Name), (F.names_Ref, L.names_Ref), (F.ref06_Parts, L.ref06_Parts), (F.ref06_Name, L.ref06_Name), (F.ref06_Path, L.ref06_Path), (F.ref06_Ref, L.ref06_Ref), (F.names_Mode, L.names_Mode), (F.ref06_Mode, L.ref06_Mode), (F.ref06_Put, L.ref06_Put), (F.names_cut, L.names_cut), (F.ref06_number, L.ref06_number), (F.strings_ContainsAny, L.strings_ContainsAny), (F.ref06_plain, L.ref06_plain), (F.cmp_Compare_string, L.cmp_Compare_string), (F.ref06_key, L.ref06_key), (F.strings_SplitSeq, L.strings_SplitSeq), (F.strings_EqualFold, L.strings_EqualFold), (F.strings_IndexByte, L.strings_IndexByte), (F.strings_HasSuffix, L.strings_HasSuffix), (F.ref06_git, L.ref06_git), (F.ref06_part, L.ref06_part), (F.ref06_two, L.ref06_two), (F.strings_LastIndexByte, L.strings_LastIndexByte), (F.strings_IndexAny, L.strings_IndexAny), (F.cmp_isNaN_string, L.cmp_isNaN_string), (F.strings_splitSeq, L.strings_splitSeq), (F.utf8_DecodeRuneInString, L.utf8_DecodeRuneInString), (F.unicode_SimpleFold, L.unicode_SimpleFold), (F.strings_Index, L.strings_Index), (F.stringslite_IndexByte, L.stringslite_IndexByte), (F.stringslite_HasSuffix, L.stringslite_HasSuffix), (F.ref06_lower, L.ref06_lower), (F.ref06_Ends, L.ref06_Ends), (F.bytealg_LastIndexByteString, L.bytealg_LastIndexByteString), (F.strings_IndexRune, L.strings_IndexRune), (F.strings_shouldUseASCIISet, L.strings_shouldUseASCIISet), (F.strings_makeASCIISet, L.strings_makeASCIISet), (F.strings_asciiSet_contains, L.strings_asciiSet_contains), (F.strings_splitSeq_fn1, L.strings_splitSeq_fn1), (F.utf8_decodeRuneInStringSlow, L.utf8_decodeRuneInStringSlow), (F.unicode_lookupCaseRange, L.unicode_lookupCaseRange), (F.unicode_convertCase, L.unicode_convertCase), (F.stringslite_Index, L.stringslite_Index), (F.utf8_ValidRune, L.utf8_ValidRune), (F.bytealg_Cutover, L.bytealg_Cutover), (F.bytealg_IndexRabinKarp_string, L.bytealg_IndexRabinKarp_string), (F.bytealg_hashStr_string, L.bytealg_hashStr_string)]
def fnOf (f : Nat) : Option LFn := fnTab.lookup f
theorem fn_law06_NamesFixed : fnOf F.law06_NamesFixed = some L.law06_NamesFixed := rfl
theorem fn_law06_awake : fnOf F.law06_awake = some L.law06_awake := rfl
theorem fn_names_PutIdent : fnOf F.names_PutIdent = some L.names_PutIdent := rfl
theorem fn_names_ParseIdent : fnOf F.names_ParseIdent = some L.names_ParseIdent := rfl
theorem fn_names_Ident : fnOf F.names_Ident = some L.names_Ident := rfl
theorem fn_names_Order : fnOf F.names_Order = some L.names_Order := rfl
theorem fn_names_Name : fnOf F.names_Name = some L.names_Name := rfl
theorem fn_names_Ref : fnOf F.names_Ref = some L.names_Ref := rfl
theorem fn_names_cut : fnOf F.names_cut = some L.names_cut := rfl
theorem fn_strings_ContainsAny : fnOf F.strings_ContainsAny = some L.strings_ContainsAny := rfl
theorem fn_cmp_Compare_string : fnOf F.cmp_Compare_string = some L.cmp_Compare_string := rfl
theorem fn_strings_SplitSeq : fnOf F.strings_SplitSeq = some L.strings_SplitSeq := rfl
theorem fn_strings_EqualFold : fnOf F.strings_EqualFold = some L.strings_EqualFold := rfl
theorem fn_strings_IndexByte : fnOf F.strings_IndexByte = some L.strings_IndexByte := rfl
theorem fn_strings_HasSuffix : fnOf F.strings_HasSuffix = some L.strings_HasSuffix := rfl
theorem fn_strings_LastIndexByte : fnOf F.strings_LastIndexByte = some L.strings_LastIndexByte := rfl
theorem fn_strings_IndexAny : fnOf F.strings_IndexAny = some L.strings_IndexAny := rfl
theorem fn_cmp_isNaN_string : fnOf F.cmp_isNaN_string = some L.cmp_isNaN_string := rfl
theorem fn_strings_splitSeq : fnOf F.strings_splitSeq = some L.strings_splitSeq := rfl
theorem fn_utf8_DecodeRuneInString : fnOf F.utf8_DecodeRuneInString = some L.utf8_DecodeRuneInString := rfl
theorem fn_strings_Index : fnOf F.strings_Index = some L.strings_Index := rfl
theorem fn_stringslite_IndexByte : fnOf F.stringslite_IndexByte = some L.stringslite_IndexByte := rfl
theorem fn_stringslite_HasSuffix : fnOf F.stringslite_HasSuffix = some L.stringslite_HasSuffix := rfl
theorem fn_bytealg_LastIndexByteString : fnOf F.bytealg_LastIndexByteString = some L.bytealg_LastIndexByteString := rfl
theorem fn_strings_IndexRune : fnOf F.strings_IndexRune = some L.strings_IndexRune := rfl
theorem fn_strings_shouldUseASCIISet : fnOf F.strings_shouldUseASCIISet = some L.strings_shouldUseASCIISet := rfl
theorem fn_strings_asciiSet_contains : fnOf F.strings_asciiSet_contains = some L.strings_asciiSet_contains := rfl
theorem fn_stringslite_Index : fnOf F.stringslite_Index = some L.stringslite_Index := rfl
theorem fn_utf8_ValidRune : fnOf F.utf8_ValidRune = some L.utf8_ValidRune := rfl
end Cod

/- The lean forms are those of the program. -/
namespace Cod
open Go Go.Proofs
set_option maxRecDepth 100000
theorem ok_law06_NamesIdents : LowOK Tryd.prog F.law06_NamesIdents L.law06_NamesIdents := ⟨A.law06_NamesIdents, Tryd.f3, Tryd.func3, by kernel_rfl, by kernel_rfl⟩
theorem ok_law06_NamesBack : LowOK Tryd.prog F.law06_NamesBack L.law06_NamesBack := ⟨A.law06_NamesBack, Tryd.f4, Tryd.func4, by kernel_rfl, by kernel_rfl⟩
theorem ok_law06_NamesOrder : LowOK Tryd.prog F.law06_NamesOrder L.law06_NamesOrder := ⟨A.law06_NamesOrder, Tryd.f5, Tryd.func5, by kernel_rfl, by kernel_rfl⟩
theorem ok_law06_NamesParts : LowOK Tryd.prog F.law06_NamesParts L.law06_NamesParts := ⟨A.law06_NamesParts, Tryd.f6, Tryd.func6, by kernel_rfl, by kernel_rfl⟩
theorem ok_law06_NamesMay : LowOK Tryd.prog F.law06_NamesMay L.law06_NamesMay := ⟨A.law06_NamesMay, Tryd.f7, Tryd.func7, by kernel_rfl, by kernel_rfl⟩
theorem ok_law06_NamesFixed : LowOK Tryd.prog F.law06_NamesFixed L.law06_NamesFixed := ⟨A.law06_NamesFixed, Tryd.f8, Tryd.func8, by kernel_rfl, by kernel_rfl⟩
theorem ok_law06_awake : LowOK Tryd.prog F.law06_awake L.law06_awake := ⟨A.law06_awake, Tryd.f9, Tryd.func9, by kernel_rfl, by kernel_rfl⟩
theorem ok_names_PutIdent : LowOK Tryd.prog F.names_PutIdent L.names_PutIdent := ⟨A.names_PutIdent, Tryd.f10, Tryd.func10, by kernel_rfl, by kernel_rfl⟩
theorem ok_ref06_DocPutIdent : LowOK Tryd.prog F.ref06_DocPutIdent L.ref06_DocPutIdent := ⟨A.ref06_DocPutIdent, Tryd.f11, Tryd.func11, by kernel_rfl, by kernel_rfl⟩
theorem ok_names_ParseIdent : LowOK Tryd.prog F.names_ParseIdent L.names_ParseIdent := ⟨A.names_ParseIdent, Tryd.f12, Tryd.func12, by kernel_rfl, by kernel_rfl⟩
theorem ok_ref06_DocParseIdent : LowOK Tryd.prog F.ref06_DocParseIdent L.ref06_DocParseIdent := ⟨A.ref06_DocParseIdent, Tryd.f13, Tryd.func13, by kernel_rfl, by kernel_rfl⟩
theorem ok_names_Ident : LowOK Tryd.prog F.names_Ident L.names_Ident := ⟨A.names_Ident, Tryd.f14, Tryd.func14, by kernel_rfl, by kernel_rfl⟩
theorem ok_ref06_Ident : LowOK Tryd.prog F.ref06_Ident L.ref06_Ident := ⟨A.ref06_Ident, Tryd.f15, Tryd.func15, by kernel_rfl, by kernel_rfl⟩
theorem ok_names_Order : LowOK Tryd.prog F.names_Order L.names_Order := ⟨A.names_Order, Tryd.f16, Tryd.func16, by kernel_rfl, by kernel_rfl⟩
theorem ok_ref06_Order : LowOK Tryd.prog F.ref06_Order L.ref06_Order := ⟨A.ref06_Order, Tryd.f17, Tryd.func17, by kernel_rfl, by kernel_rfl⟩
theorem ok_ref06_Has : LowOK Tryd.prog F.ref06_Has L.ref06_Has := ⟨A.ref06_Has, Tryd.f19, Tryd.func19, by kernel_rfl, by kernel_rfl⟩
theorem ok_names_Name : LowOK Tryd.prog F.names_Name L.names_Name := ⟨A.names_Name, Tryd.f20, Tryd.func20, by kernel_rfl, by kernel_rfl⟩
theorem ok_names_Ref : LowOK Tryd.prog F.names_Ref L.names_Ref := ⟨A.names_Ref, Tryd.f21, Tryd.func21, by kernel_rfl, by kernel_rfl⟩
theorem ok_ref06_Parts : LowOK Tryd.prog F.ref06_Parts L.ref06_Parts := ⟨A.ref06_Parts, Tryd.f22, Tryd.func22, by kernel_rfl, by kernel_rfl⟩
theorem ok_ref06_Name : LowOK Tryd.prog F.ref06_Name L.ref06_Name := ⟨A.ref06_Name, Tryd.f23, Tryd.func23, by kernel_rfl, by kernel_rfl⟩
theorem ok_ref06_Path : LowOK Tryd.prog F.ref06_Path L.ref06_Path := ⟨A.ref06_Path, Tryd.f24, Tryd.func24, by kernel_rfl, by kernel_rfl⟩
theorem ok_ref06_Ref : LowOK Tryd.prog F.ref06_Ref L.ref06_Ref := ⟨A.ref06_Ref, Tryd.f25, Tryd.func25, by kernel_rfl, by kernel_rfl⟩
theorem ok_names_Mode : LowOK Tryd.prog F.names_Mode L.names_Mode := ⟨A.names_Mode, Tryd.f26, Tryd.func26, by kernel_rfl, by kernel_rfl⟩
theorem ok_ref06_Mode : LowOK Tryd.prog F.ref06_Mode L.ref06_Mode := ⟨A.ref06_Mode, Tryd.f27, Tryd.func27, by kernel_rfl, by kernel_rfl⟩
theorem ok_ref06_Put : LowOK Tryd.prog F.ref06_Put L.ref06_Put := ⟨A.ref06_Put, Tryd.f29, Tryd.func29, by kernel_rfl, by kernel_rfl⟩
theorem ok_names_cut : LowOK Tryd.prog F.names_cut L.names_cut := ⟨A.names_cut, Tryd.f30, Tryd.func30, by kernel_rfl, by kernel_rfl⟩
theorem ok_ref06_number : LowOK Tryd.prog F.ref06_number L.ref06_number := ⟨A.ref06_number, Tryd.f32, Tryd.func32, by kernel_rfl, by kernel_rfl⟩
theorem ok_strings_ContainsAny : LowOK Tryd.prog F.strings_ContainsAny L.strings_ContainsAny := ⟨A.strings_ContainsAny, Tryd.f33, Tryd.func33, by kernel_rfl, by kernel_rfl⟩
theorem ok_ref06_plain : LowOK Tryd.prog F.ref06_plain L.ref06_plain := ⟨A.ref06_plain, Tryd.f34, Tryd.func34, by kernel_rfl, by kernel_rfl⟩
theorem ok_cmp_Compare_string : LowOK Tryd.prog F.cmp_Compare_string L.cmp_Compare_string := ⟨A.cmp_Compare_string, Tryd.f35, Tryd.func35, by kernel_rfl, by kernel_rfl⟩
theorem ok_ref06_key : LowOK Tryd.prog F.ref06_key L.ref06_key := ⟨A.ref06_key, Tryd.f36, Tryd.func36, by kernel_rfl, by kernel_rfl⟩
theorem ok_strings_SplitSeq : LowOK Tryd.prog F.strings_SplitSeq L.strings_SplitSeq := ⟨A.strings_SplitSeq, Tryd.f37, Tryd.func37, by kernel_rfl, by kernel_rfl⟩
theorem ok_strings_EqualFold : LowOK Tryd.prog F.strings_EqualFold L.strings_EqualFold := ⟨A.strings_EqualFold, Tryd.f38, Tryd.func38, by kernel_rfl, by kernel_rfl⟩
theorem ok_strings_IndexByte : LowOK Tryd.prog F.strings_IndexByte L.strings_IndexByte := ⟨A.strings_IndexByte, Tryd.f40, Tryd.func40, by kernel_rfl, by kernel_rfl⟩
theorem ok_strings_HasSuffix : LowOK Tryd.prog F.strings_HasSuffix L.strings_HasSuffix := ⟨A.strings_HasSuffix, Tryd.f42, Tryd.func42, by kernel_rfl, by kernel_rfl⟩
theorem ok_ref06_git : LowOK Tryd.prog F.ref06_git L.ref06_git := ⟨A.ref06_git, Tryd.f43, Tryd.func43, by kernel_rfl, by kernel_rfl⟩
theorem ok_ref06_part : LowOK Tryd.prog F.ref06_part L.ref06_part := ⟨A.ref06_part, Tryd.f44, Tryd.func44, by kernel_rfl, by kernel_rfl⟩
theorem ok_ref06_two : LowOK Tryd.prog F.ref06_two L.ref06_two := ⟨A.ref06_two, Tryd.f46, Tryd.func46, by kernel_rfl, by kernel_rfl⟩
theorem ok_strings_LastIndexByte : LowOK Tryd.prog F.strings_LastIndexByte L.strings_LastIndexByte := ⟨A.strings_LastIndexByte, Tryd.f47, Tryd.func47, by kernel_rfl, by kernel_rfl⟩
theorem ok_strings_IndexAny : LowOK Tryd.prog F.strings_IndexAny L.strings_IndexAny := ⟨A.strings_IndexAny, Tryd.f51, Tryd.func51, by kernel_rfl, by kernel_rfl⟩
theorem ok_cmp_isNaN_string : LowOK Tryd.prog F.cmp_isNaN_string L.cmp_isNaN_string := ⟨A.cmp_isNaN_string, Tryd.f52, Tryd.func52, by kernel_rfl, by kernel_rfl⟩
theorem ok_strings_splitSeq : LowOK Tryd.prog F.strings_splitSeq L.strings_splitSeq := ⟨A.strings_splitSeq, Tryd.f53, Tryd.func53, by kernel_rfl, by kernel_rfl⟩
theorem ok_utf8_DecodeRuneInString : LowOK Tryd.prog F.utf8_DecodeRuneInString L.utf8_DecodeRuneInString := ⟨A.utf8_DecodeRuneInString, Tryd.f54, Tryd.func54, by kernel_rfl, by kernel_rfl⟩
theorem ok_unicode_SimpleFold : LowOK Tryd.prog F.unicode_SimpleFold L.unicode_SimpleFold := ⟨A.unicode_SimpleFold, Tryd.f55, Tryd.func55, by kernel_rfl, by kernel_rfl⟩
theorem ok_strings_Index : LowOK Tryd.prog F.strings_Index L.strings_Index := ⟨A.strings_Index, Tryd.f56, Tryd.func56, by kernel_rfl, by kernel_rfl⟩
theorem ok_stringslite_IndexByte : LowOK Tryd.prog F.stringslite_IndexByte L.stringslite_IndexByte := ⟨A.stringslite_IndexByte, Tryd.f57, Tryd.func57, by kernel_rfl, by kernel_rfl⟩
theorem ok_stringslite_HasSuffix : LowOK Tryd.prog F.stringslite_HasSuffix L.stringslite_HasSuffix := ⟨A.stringslite_HasSuffix, Tryd.f59, Tryd.func59, by kernel_rfl, by kernel_rfl⟩
theorem ok_ref06_lower : LowOK Tryd.prog F.ref06_lower L.ref06_lower := ⟨A.ref06_lower, Tryd.f60, Tryd.func60, by kernel_rfl, by kernel_rfl⟩
theorem ok_ref06_Ends : LowOK Tryd.prog F.ref06_Ends L.ref06_Ends := ⟨A.ref06_Ends, Tryd.f61, Tryd.func61, by kernel_rfl, by kernel_rfl⟩
theorem ok_bytealg_LastIndexByteString : LowOK Tryd.prog F.bytealg_LastIndexByteString L.bytealg_LastIndexByteString := ⟨A.bytealg_LastIndexByteString, Tryd.f63, Tryd.func63, by kernel_rfl, by kernel_rfl⟩
theorem ok_strings_IndexRune : LowOK Tryd.prog F.strings_IndexRune L.strings_IndexRune := ⟨A.strings_IndexRune, Tryd.f70, Tryd.func70, by kernel_rfl, by kernel_rfl⟩
theorem ok_strings_shouldUseASCIISet : LowOK Tryd.prog F.strings_shouldUseASCIISet L.strings_shouldUseASCIISet := ⟨A.strings_shouldUseASCIISet, Tryd.f71, Tryd.func71, by kernel_rfl, by kernel_rfl⟩
theorem ok_strings_makeASCIISet : LowOK Tryd.prog F.strings_makeASCIISet L.strings_makeASCIISet := ⟨A.strings_makeASCIISet, Tryd.f72, Tryd.func72, by kernel_rfl, by kernel_rfl⟩
theorem ok_strings_asciiSet_contains : LowOK Tryd.prog F.strings_asciiSet_contains L.strings_asciiSet_contains := ⟨A.strings_asciiSet_contains, Tryd.f73, Tryd.func73, by kernel_rfl, by kernel_rfl⟩
theorem ok_strings_splitSeq_fn1 : LowOK Tryd.prog F.strings_splitSeq_fn1 L.strings_splitSeq_fn1 := ⟨A.strings_splitSeq_fn1, Tryd.f74, Tryd.func74, by kernel_rfl, by kernel_rfl⟩
theorem ok_utf8_decodeRuneInStringSlow : LowOK Tryd.prog F.utf8_decodeRuneInStringSlow L.utf8_decodeRuneInStringSlow := ⟨A.utf8_decodeRuneInStringSlow, Tryd.f75, Tryd.func75, by kernel_rfl, by kernel_rfl⟩
theorem ok_unicode_lookupCaseRange : LowOK Tryd.prog F.unicode_lookupCaseRange L.unicode_lookupCaseRange := ⟨A.unicode_lookupCaseRange, Tryd.f76, Tryd.func76, by kernel_rfl, by kernel_rfl⟩
theorem ok_unicode_convertCase : LowOK Tryd.prog F.unicode_convertCase L.unicode_convertCase := ⟨A.unicode_convertCase, Tryd.f77, Tryd.func77, by kernel_rfl, by kernel_rfl⟩
theorem ok_stringslite_Index : LowOK Tryd.prog F.stringslite_Index L.stringslite_Index := ⟨A.stringslite_Index, Tryd.f78, Tryd.func78, by kernel_rfl, by kernel_rfl⟩
theorem ok_utf8_ValidRune : LowOK Tryd.prog F.utf8_ValidRune L.utf8_ValidRune := ⟨A.utf8_ValidRune, Tryd.f90, Tryd.func90, by kernel_rfl, by kernel_rfl⟩
theorem ok_bytealg_Cutover : LowOK Tryd.prog F.bytealg_Cutover L.bytealg_Cutover := ⟨A.bytealg_Cutover, Tryd.f91, Tryd.func91, by kernel_rfl, by kernel_rfl⟩
theorem ok_bytealg_IndexRabinKarp_string : LowOK Tryd.prog F.bytealg_IndexRabinKarp_string L.bytealg_IndexRabinKarp_string := ⟨A.bytealg_IndexRabinKarp_string, Tryd.f93, Tryd.func93, by kernel_rfl, by kernel_rfl⟩
theorem ok_bytealg_hashStr_string : LowOK Tryd.prog F.bytealg_hashStr_string L.bytealg_hashStr_string := ⟨A.bytealg_hashStr_string, Tryd.f103, Tryd.func103, by kernel_rfl, by kernel_rfl⟩
theorem all_ok : AllOK Tryd.prog fnTab := ⟨ok_law06_NamesIdents, ok_law06_NamesBack, ok_law06_NamesOrder, ok_law06_NamesParts, ok_law06_NamesMay, ok_law06_NamesFixed, ok_law06_awake, ok_names_PutIdent, ok_ref06_DocPutIdent, ok_names_ParseIdent, ok_ref06_DocParseIdent, ok_names_Ident, ok_ref06_Ident, ok_names_Order, ok_ref06_Order, ok_ref06_Has, ok_names_Name, ok_names_Ref, ok_ref06_Parts, ok_ref06_Name, ok_ref06_Path, ok_ref06_Ref, ok_names_Mode, ok_ref06_Mode, ok_ref06_Put, ok_names_cut, ok_ref06_number, ok_strings_ContainsAny, ok_ref06_plain, ok_cmp_Compare_string, ok_ref06_key, ok_strings_SplitSeq, ok_strings_EqualFold, ok_strings_IndexByte, ok_strings_HasSuffix, ok_ref06_git, ok_ref06_part, ok_ref06_two, ok_strings_LastIndexByte, ok_strings_IndexAny, ok_cmp_isNaN_string, ok_strings_splitSeq, ok_utf8_DecodeRuneInString, ok_unicode_SimpleFold, ok_strings_Index, ok_stringslite_IndexByte, ok_stringslite_HasSuffix, ok_ref06_lower, ok_ref06_Ends, ok_bytealg_LastIndexByteString, ok_strings_IndexRune, ok_strings_shouldUseASCIISet, ok_strings_makeASCIISet, ok_strings_asciiSet_contains, ok_strings_splitSeq_fn1, ok_utf8_decodeRuneInStringSlow, ok_unicode_lookupCaseRange, ok_unicode_convertCase, ok_stringslite_Index, ok_utf8_ValidRune, ok_bytealg_Cutover, ok_bytealg_IndexRabinKarp_string, ok_bytealg_hashStr_string, trivial⟩
end Cod


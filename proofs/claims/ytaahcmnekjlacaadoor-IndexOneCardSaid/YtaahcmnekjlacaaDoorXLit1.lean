/- The numbers of functions, by name: printed by lit.py (mine). -/
import Derived.Test.YtaahcmnekjlacaaDoorXCod5
set_option linter.unusedSimpArgs false
set_option linter.unusedVariables false
namespace Cod
def F.law17_IndexOne : Nat := 8
def F.law17_awake : Nat := 10
def F.index_Put : Nat := 12
def F.index_Check : Nat := 15
def F.index_Parse : Nat := 16
def F.ref01_Twin : Nat := 17
def F.ref17_Same : Nat := 19
def F.index_Set : Nat := 20
def F.index_Find : Nat := 22
def F.index_big : Nat := 28
def F.index_zeros : Nat := 29
def F.sha_Sum : Nat := 30
def F.index_worse : Nat := 33
def F.index_one : Nat := 34
def F.index_order : Nat := 35
def F.index_slot : Nat := 36
def F.bytes_Equal : Nat := 37
def F.names_Path : Nat := 40
def F.slices_ContainsFunc_Sapi_Slot_api_Slot : Nat := 41
def F.index_Set_fn1 : Nat := 42
def F.slices_Concat_Sapi_Slot_api_Slot : Nat := 43
def F.slices_BinarySearchFunc_Sapi_Slot_api_Slot_api_Slot : Nat := 48
def F.sha_Block : Nat := 60
def F.bytes_Clone : Nat := 61
def F.sha_Pad : Nat := 62
def F.names_Mode : Nat := 65
def F.strings_Compare : Nat := 66
def F.index_slot_fn1 : Nat := 67
def F.num_Big : Nat := 68
def F.bytes_IndexByte : Nat := 69
def F.strings_SplitSeq : Nat := 72
def F.names_Name : Nat := 73
def F.slices_IndexFunc_Sapi_Slot_api_Slot : Nat := 74
def F.slices_Grow_Sapi_Slot_api_Slot : Nat := 75
def F.bits_RotateLeft32 : Nat := 85
def F.bytealg_CompareString : Nat := 89
def F.bytealg_IndexByte : Nat := 90
def F.strings_splitSeq : Nat := 91
def F.strings_EqualFold : Nat := 92
def F.strings_ContainsAny : Nat := 93
def F.bytealg_abigen_runtime_cmpstring : Nat := 103
def F.strings_splitSeq_fn1 : Nat := 104
def F.utf8_DecodeRuneInString : Nat := 105
def F.strings_Index : Nat := 106
def F.unicode_SimpleFold : Nat := 107
def F.strings_IndexAny : Nat := 108
def F.utf8_decodeRuneInStringSlow : Nat := 118
def F.stringslite_Index : Nat := 119
def F.unicode_lookupCaseRange : Nat := 120
def F.unicode_convertCase : Nat := 121
def F.strings_IndexRune : Nat := 122
def F.strings_shouldUseASCIISet : Nat := 123
def F.strings_makeASCIISet : Nat := 124
def F.strings_asciiSet_contains : Nat := 125
def F.stringslite_IndexByte : Nat := 133
def F.bytealg_IndexString : Nat := 134
def F.bytealg_Cutover : Nat := 135
def F.bytealg_IndexRabinKarp_string : Nat := 136
def F.strings_IndexByte : Nat := 137
def F.utf8_ValidRune : Nat := 138
def F.bytealg_IndexByteString : Nat := 141
def F.bytealg_hashStr_string : Nat := 142
def G.sha_k : Nat := 0
def G.bytealg_MaxLen : Nat := 1
def G.unicode_asciiFold : Nat := 3
def G.unicode_caseOrbit : Nat := 4
def G.unicode_CaseRanges : Nat := 5
def G.utf8_first : Nat := 7
def G.utf8_acceptRanges : Nat := 8
end Cod


/-
  NARROWER THAN 'FOR EVERY INPUT', by the rows' own cells (each row's printed sentence says how): PackWrites: laid · PackThere: laid · PackMemory: laid · ReftableWrites: laid · ReftableReads: laid · ReftableBack: laid · ReftableFixed: laid · ReftableMemory: laid · PackChains: laid · LoosePacks: laid · LooseFixed: laid.
  DERIVED. THE GIVEN ROWS OF THIS SEAT. 11 by the template 'for every input the law returns true; each argument reads behind the call as it read before'; 0 by the template 'total and deterministic' (their statements: YtabccggcfcppgaaGreatDoorTotals.lean).
  GIVEN WITH THE SEED: the statements are not yours to turn. If you find one false, say at which input.
  Laid BY PROGRAM, IN A SANDBOX (cutbox-rows.mjs): the forced cells as the released guide's own fill.sh prints them over the translation 8ba34315d5739fe9… (all of the seat's roots in one cut). By AI agents, Wed Nov 11 2026. No macro, syntax, notation, axiom, sorry.
-/
import Derived.Test.YtabccggcfcppgaaGreatDoorChecked
import GoSem.PinnedTables
import GoSem.Claim
import GoSem.ClaimJoined
import GoSem.ClaimMapViews
import Derived.JoinedTies
import Derived.KernelRfl
namespace Go.Proofs.YtabccggcfcppgaaGreatDoor
/- THE CELL 'sum', in the pinned program and in every row, IS THE sha256 OF THE DUMP (.gsa) THAT YtabccggcfcppgaaGreatDoorProg.lean LOADS. Nothing in Lean hashes anything: it is a label: what it is worth is what the hold of that sum in a sandbox is worth. -/
noncomputable def Tryz.pinned : Pinned := { name := "ytabccggcfcppgaagreatdoor", sum := "8ba34315d5739fe97f7bcb93ba631baa548b67c78d2dab5dad4af22df24a53a4", checked := Tryz.checked }
namespace Rows
def none {H : Type} : Left H := { results := [], args := [] }

/- WHAT THE LISTED PACKAGE-LEVEL VARIABLES READ AS WHEN THE CALL BEGINS. Each datum BY PROGRAM (the guide's laid-datum.mjs) off the statement by which the dump's own 'gosem.cut.vars' lays the variable. In a bare row this is a premise. The card (YtabccggcfcppgaaGreatDoorCards.lean) ties it to the program's text. -/
def laid_math_bits_deBruijn32tab {H : Type} : DataW H := .agg [.lit (.int .u8 0), .lit (.int .u8 1), .lit (.int .u8 28), .lit (.int .u8 2), .lit (.int .u8 29), .lit (.int .u8 14), .lit (.int .u8 24), .lit (.int .u8 3), .lit (.int .u8 30), .lit (.int .u8 22), .lit (.int .u8 20), .lit (.int .u8 15), .lit (.int .u8 25), .lit (.int .u8 17), .lit (.int .u8 4), .lit (.int .u8 8), .lit (.int .u8 31), .lit (.int .u8 27), .lit (.int .u8 13), .lit (.int .u8 23), .lit (.int .u8 21), .lit (.int .u8 19), .lit (.int .u8 16), .lit (.int .u8 7), .lit (.int .u8 26), .lit (.int .u8 12), .lit (.int .u8 18), .lit (.int .u8 6), .lit (.int .u8 11), .lit (.int .u8 5), .lit (.int .u8 10), .lit (.int .u8 9)]
def laid_math_bits_deBruijn64tab {H : Type} : DataW H := .agg [.lit (.int .u8 0), .lit (.int .u8 1), .lit (.int .u8 56), .lit (.int .u8 2), .lit (.int .u8 57), .lit (.int .u8 49), .lit (.int .u8 28), .lit (.int .u8 3), .lit (.int .u8 61), .lit (.int .u8 58), .lit (.int .u8 42), .lit (.int .u8 50), .lit (.int .u8 38), .lit (.int .u8 29), .lit (.int .u8 17), .lit (.int .u8 4), .lit (.int .u8 62), .lit (.int .u8 47), .lit (.int .u8 59), .lit (.int .u8 36), .lit (.int .u8 45), .lit (.int .u8 43), .lit (.int .u8 51), .lit (.int .u8 22), .lit (.int .u8 53), .lit (.int .u8 39), .lit (.int .u8 33), .lit (.int .u8 30), .lit (.int .u8 24), .lit (.int .u8 18), .lit (.int .u8 12), .lit (.int .u8 5), .lit (.int .u8 63), .lit (.int .u8 55), .lit (.int .u8 48), .lit (.int .u8 27), .lit (.int .u8 60), .lit (.int .u8 41), .lit (.int .u8 37), .lit (.int .u8 16), .lit (.int .u8 46), .lit (.int .u8 35), .lit (.int .u8 44), .lit (.int .u8 21), .lit (.int .u8 52), .lit (.int .u8 32), .lit (.int .u8 23), .lit (.int .u8 11), .lit (.int .u8 54), .lit (.int .u8 26), .lit (.int .u8 40), .lit (.int .u8 15), .lit (.int .u8 34), .lit (.int .u8 20), .lit (.int .u8 31), .lit (.int .u8 10), .lit (.int .u8 25), .lit (.int .u8 14), .lit (.int .u8 19), .lit (.int .u8 9), .lit (.int .u8 13), .lit (.int .u8 8), .lit (.int .u8 7), .lit (.int .u8 6)]
def laid_internal_strconv_uint64pow10 {H : Type} : DataW H := .agg [.lit (.int .u64 1), .lit (.int .u64 10), .lit (.int .u64 100), .lit (.int .u64 1000), .lit (.int .u64 10000), .lit (.int .u64 100000), .lit (.int .u64 1000000), .lit (.int .u64 10000000), .lit (.int .u64 100000000), .lit (.int .u64 1000000000), .lit (.int .u64 10000000000), .lit (.int .u64 100000000000), .lit (.int .u64 1000000000000), .lit (.int .u64 10000000000000), .lit (.int .u64 100000000000000), .lit (.int .u64 1000000000000000), .lit (.int .u64 10000000000000000), .lit (.int .u64 100000000000000000), .lit (.int .u64 1000000000000000000), .lit (.int .u64 10000000000000000000)]
def laid_codicil_inflate_order {H : Type} : DataW H := .agg [.lit (.int .i64 16), .lit (.int .i64 17), .lit (.int .i64 18), .lit (.int .i64 0), .lit (.int .i64 8), .lit (.int .i64 7), .lit (.int .i64 9), .lit (.int .i64 6), .lit (.int .i64 10), .lit (.int .i64 5), .lit (.int .i64 11), .lit (.int .i64 4), .lit (.int .i64 12), .lit (.int .i64 3), .lit (.int .i64 13), .lit (.int .i64 2), .lit (.int .i64 14), .lit (.int .i64 1), .lit (.int .i64 15)]
def laid_codicil_sha_k {H : Type} : DataW H := .agg [.lit (.int .u32 1116352408), .lit (.int .u32 1899447441), .lit (.int .u32 3049323471), .lit (.int .u32 3921009573), .lit (.int .u32 961987163), .lit (.int .u32 1508970993), .lit (.int .u32 2453635748), .lit (.int .u32 2870763221), .lit (.int .u32 3624381080), .lit (.int .u32 310598401), .lit (.int .u32 607225278), .lit (.int .u32 1426881987), .lit (.int .u32 1925078388), .lit (.int .u32 2162078206), .lit (.int .u32 2614888103), .lit (.int .u32 3248222580), .lit (.int .u32 3835390401), .lit (.int .u32 4022224774), .lit (.int .u32 264347078), .lit (.int .u32 604807628), .lit (.int .u32 770255983), .lit (.int .u32 1249150122), .lit (.int .u32 1555081692), .lit (.int .u32 1996064986), .lit (.int .u32 2554220882), .lit (.int .u32 2821834349), .lit (.int .u32 2952996808), .lit (.int .u32 3210313671), .lit (.int .u32 3336571891), .lit (.int .u32 3584528711), .lit (.int .u32 113926993), .lit (.int .u32 338241895), .lit (.int .u32 666307205), .lit (.int .u32 773529912), .lit (.int .u32 1294757372), .lit (.int .u32 1396182291), .lit (.int .u32 1695183700), .lit (.int .u32 1986661051), .lit (.int .u32 2177026350), .lit (.int .u32 2456956037), .lit (.int .u32 2730485921), .lit (.int .u32 2820302411), .lit (.int .u32 3259730800), .lit (.int .u32 3345764771), .lit (.int .u32 3516065817), .lit (.int .u32 3600352804), .lit (.int .u32 4094571909), .lit (.int .u32 275423344), .lit (.int .u32 430227734), .lit (.int .u32 506948616), .lit (.int .u32 659060556), .lit (.int .u32 883997877), .lit (.int .u32 958139571), .lit (.int .u32 1322822218), .lit (.int .u32 1537002063), .lit (.int .u32 1747873779), .lit (.int .u32 1955562222), .lit (.int .u32 2024104815), .lit (.int .u32 2227730452), .lit (.int .u32 2361852424), .lit (.int .u32 2428436474), .lit (.int .u32 2756734187), .lit (.int .u32 3204031479), .lit (.int .u32 3329325298)]
def laid_unicode_utf8_acceptRanges {H : Type} : DataW H := .agg [.agg [.lit (.int .u8 128), .lit (.int .u8 191)], .agg [.lit (.int .u8 160), .lit (.int .u8 191)], .agg [.lit (.int .u8 128), .lit (.int .u8 159)], .agg [.lit (.int .u8 144), .lit (.int .u8 191)], .agg [.lit (.int .u8 128), .lit (.int .u8 143)], .agg [.lit (.int .u8 0), .lit (.int .u8 0)], .agg [.lit (.int .u8 0), .lit (.int .u8 0)], .agg [.lit (.int .u8 0), .lit (.int .u8 0)], .agg [.lit (.int .u8 0), .lit (.int .u8 0)], .agg [.lit (.int .u8 0), .lit (.int .u8 0)], .agg [.lit (.int .u8 0), .lit (.int .u8 0)], .agg [.lit (.int .u8 0), .lit (.int .u8 0)], .agg [.lit (.int .u8 0), .lit (.int .u8 0)], .agg [.lit (.int .u8 0), .lit (.int .u8 0)], .agg [.lit (.int .u8 0), .lit (.int .u8 0)], .agg [.lit (.int .u8 0), .lit (.int .u8 0)]]
/-- One of Go's own tables, pinned by name: the form's constant. -/
def laid_unicode_utf8_first : DataW Unit := Go.Pinned.utf8First
def laid_unicode_asciiFold {H : Type} : DataW H := .agg [.lit (.int .u16 0), .lit (.int .u16 1), .lit (.int .u16 2), .lit (.int .u16 3), .lit (.int .u16 4), .lit (.int .u16 5), .lit (.int .u16 6), .lit (.int .u16 7), .lit (.int .u16 8), .lit (.int .u16 9), .lit (.int .u16 10), .lit (.int .u16 11), .lit (.int .u16 12), .lit (.int .u16 13), .lit (.int .u16 14), .lit (.int .u16 15), .lit (.int .u16 16), .lit (.int .u16 17), .lit (.int .u16 18), .lit (.int .u16 19), .lit (.int .u16 20), .lit (.int .u16 21), .lit (.int .u16 22), .lit (.int .u16 23), .lit (.int .u16 24), .lit (.int .u16 25), .lit (.int .u16 26), .lit (.int .u16 27), .lit (.int .u16 28), .lit (.int .u16 29), .lit (.int .u16 30), .lit (.int .u16 31), .lit (.int .u16 32), .lit (.int .u16 33), .lit (.int .u16 34), .lit (.int .u16 35), .lit (.int .u16 36), .lit (.int .u16 37), .lit (.int .u16 38), .lit (.int .u16 39), .lit (.int .u16 40), .lit (.int .u16 41), .lit (.int .u16 42), .lit (.int .u16 43), .lit (.int .u16 44), .lit (.int .u16 45), .lit (.int .u16 46), .lit (.int .u16 47), .lit (.int .u16 48), .lit (.int .u16 49), .lit (.int .u16 50), .lit (.int .u16 51), .lit (.int .u16 52), .lit (.int .u16 53), .lit (.int .u16 54), .lit (.int .u16 55), .lit (.int .u16 56), .lit (.int .u16 57), .lit (.int .u16 58), .lit (.int .u16 59), .lit (.int .u16 60), .lit (.int .u16 61), .lit (.int .u16 62), .lit (.int .u16 63), .lit (.int .u16 64), .lit (.int .u16 97), .lit (.int .u16 98), .lit (.int .u16 99), .lit (.int .u16 100), .lit (.int .u16 101), .lit (.int .u16 102), .lit (.int .u16 103), .lit (.int .u16 104), .lit (.int .u16 105), .lit (.int .u16 106), .lit (.int .u16 107), .lit (.int .u16 108), .lit (.int .u16 109), .lit (.int .u16 110), .lit (.int .u16 111), .lit (.int .u16 112), .lit (.int .u16 113), .lit (.int .u16 114), .lit (.int .u16 115), .lit (.int .u16 116), .lit (.int .u16 117), .lit (.int .u16 118), .lit (.int .u16 119), .lit (.int .u16 120), .lit (.int .u16 121), .lit (.int .u16 122), .lit (.int .u16 91), .lit (.int .u16 92), .lit (.int .u16 93), .lit (.int .u16 94), .lit (.int .u16 95), .lit (.int .u16 96), .lit (.int .u16 65), .lit (.int .u16 66), .lit (.int .u16 67), .lit (.int .u16 68), .lit (.int .u16 69), .lit (.int .u16 70), .lit (.int .u16 71), .lit (.int .u16 72), .lit (.int .u16 73), .lit (.int .u16 74), .lit (.int .u16 8490), .lit (.int .u16 76), .lit (.int .u16 77), .lit (.int .u16 78), .lit (.int .u16 79), .lit (.int .u16 80), .lit (.int .u16 81), .lit (.int .u16 82), .lit (.int .u16 383), .lit (.int .u16 84), .lit (.int .u16 85), .lit (.int .u16 86), .lit (.int .u16 87), .lit (.int .u16 88), .lit (.int .u16 89), .lit (.int .u16 90), .lit (.int .u16 123), .lit (.int .u16 124), .lit (.int .u16 125), .lit (.int .u16 126), .lit (.int .u16 127)]
def laid_unicode_caseOrbit {H : Type} : DataW H := .slice [.agg [.lit (.int .u16 75), .lit (.int .u16 107)], .agg [.lit (.int .u16 83), .lit (.int .u16 115)], .agg [.lit (.int .u16 107), .lit (.int .u16 8490)], .agg [.lit (.int .u16 115), .lit (.int .u16 383)], .agg [.lit (.int .u16 181), .lit (.int .u16 924)], .agg [.lit (.int .u16 197), .lit (.int .u16 229)], .agg [.lit (.int .u16 223), .lit (.int .u16 7838)], .agg [.lit (.int .u16 229), .lit (.int .u16 8491)], .agg [.lit (.int .u16 304), .lit (.int .u16 304)], .agg [.lit (.int .u16 305), .lit (.int .u16 305)], .agg [.lit (.int .u16 383), .lit (.int .u16 83)], .agg [.lit (.int .u16 452), .lit (.int .u16 453)], .agg [.lit (.int .u16 453), .lit (.int .u16 454)], .agg [.lit (.int .u16 454), .lit (.int .u16 452)], .agg [.lit (.int .u16 455), .lit (.int .u16 456)], .agg [.lit (.int .u16 456), .lit (.int .u16 457)], .agg [.lit (.int .u16 457), .lit (.int .u16 455)], .agg [.lit (.int .u16 458), .lit (.int .u16 459)], .agg [.lit (.int .u16 459), .lit (.int .u16 460)], .agg [.lit (.int .u16 460), .lit (.int .u16 458)], .agg [.lit (.int .u16 497), .lit (.int .u16 498)], .agg [.lit (.int .u16 498), .lit (.int .u16 499)], .agg [.lit (.int .u16 499), .lit (.int .u16 497)], .agg [.lit (.int .u16 837), .lit (.int .u16 921)], .agg [.lit (.int .u16 912), .lit (.int .u16 8147)], .agg [.lit (.int .u16 914), .lit (.int .u16 946)], .agg [.lit (.int .u16 917), .lit (.int .u16 949)], .agg [.lit (.int .u16 920), .lit (.int .u16 952)], .agg [.lit (.int .u16 921), .lit (.int .u16 953)], .agg [.lit (.int .u16 922), .lit (.int .u16 954)], .agg [.lit (.int .u16 924), .lit (.int .u16 956)], .agg [.lit (.int .u16 928), .lit (.int .u16 960)], .agg [.lit (.int .u16 929), .lit (.int .u16 961)], .agg [.lit (.int .u16 931), .lit (.int .u16 962)], .agg [.lit (.int .u16 934), .lit (.int .u16 966)], .agg [.lit (.int .u16 937), .lit (.int .u16 969)], .agg [.lit (.int .u16 944), .lit (.int .u16 8163)], .agg [.lit (.int .u16 946), .lit (.int .u16 976)], .agg [.lit (.int .u16 949), .lit (.int .u16 1013)], .agg [.lit (.int .u16 952), .lit (.int .u16 977)], .agg [.lit (.int .u16 953), .lit (.int .u16 8126)], .agg [.lit (.int .u16 954), .lit (.int .u16 1008)], .agg [.lit (.int .u16 956), .lit (.int .u16 181)], .agg [.lit (.int .u16 960), .lit (.int .u16 982)], .agg [.lit (.int .u16 961), .lit (.int .u16 1009)], .agg [.lit (.int .u16 962), .lit (.int .u16 963)], .agg [.lit (.int .u16 963), .lit (.int .u16 931)], .agg [.lit (.int .u16 966), .lit (.int .u16 981)], .agg [.lit (.int .u16 969), .lit (.int .u16 8486)], .agg [.lit (.int .u16 976), .lit (.int .u16 914)], .agg [.lit (.int .u16 977), .lit (.int .u16 1012)], .agg [.lit (.int .u16 981), .lit (.int .u16 934)], .agg [.lit (.int .u16 982), .lit (.int .u16 928)], .agg [.lit (.int .u16 1008), .lit (.int .u16 922)], .agg [.lit (.int .u16 1009), .lit (.int .u16 929)], .agg [.lit (.int .u16 1012), .lit (.int .u16 920)], .agg [.lit (.int .u16 1013), .lit (.int .u16 917)], .agg [.lit (.int .u16 1042), .lit (.int .u16 1074)], .agg [.lit (.int .u16 1044), .lit (.int .u16 1076)], .agg [.lit (.int .u16 1054), .lit (.int .u16 1086)], .agg [.lit (.int .u16 1057), .lit (.int .u16 1089)], .agg [.lit (.int .u16 1058), .lit (.int .u16 1090)], .agg [.lit (.int .u16 1066), .lit (.int .u16 1098)], .agg [.lit (.int .u16 1074), .lit (.int .u16 7296)], .agg [.lit (.int .u16 1076), .lit (.int .u16 7297)], .agg [.lit (.int .u16 1086), .lit (.int .u16 7298)], .agg [.lit (.int .u16 1089), .lit (.int .u16 7299)], .agg [.lit (.int .u16 1090), .lit (.int .u16 7300)], .agg [.lit (.int .u16 1098), .lit (.int .u16 7302)], .agg [.lit (.int .u16 1122), .lit (.int .u16 1123)], .agg [.lit (.int .u16 1123), .lit (.int .u16 7303)], .agg [.lit (.int .u16 7296), .lit (.int .u16 1042)], .agg [.lit (.int .u16 7297), .lit (.int .u16 1044)], .agg [.lit (.int .u16 7298), .lit (.int .u16 1054)], .agg [.lit (.int .u16 7299), .lit (.int .u16 1057)], .agg [.lit (.int .u16 7300), .lit (.int .u16 7301)], .agg [.lit (.int .u16 7301), .lit (.int .u16 1058)], .agg [.lit (.int .u16 7302), .lit (.int .u16 1066)], .agg [.lit (.int .u16 7303), .lit (.int .u16 1122)], .agg [.lit (.int .u16 7304), .lit (.int .u16 42570)], .agg [.lit (.int .u16 7776), .lit (.int .u16 7777)], .agg [.lit (.int .u16 7777), .lit (.int .u16 7835)], .agg [.lit (.int .u16 7835), .lit (.int .u16 7776)], .agg [.lit (.int .u16 7838), .lit (.int .u16 223)], .agg [.lit (.int .u16 8126), .lit (.int .u16 837)], .agg [.lit (.int .u16 8147), .lit (.int .u16 912)], .agg [.lit (.int .u16 8163), .lit (.int .u16 944)], .agg [.lit (.int .u16 8486), .lit (.int .u16 937)], .agg [.lit (.int .u16 8490), .lit (.int .u16 75)], .agg [.lit (.int .u16 8491), .lit (.int .u16 197)], .agg [.lit (.int .u16 42570), .lit (.int .u16 42571)], .agg [.lit (.int .u16 42571), .lit (.int .u16 7304)], .agg [.lit (.int .u16 64261), .lit (.int .u16 64262)], .agg [.lit (.int .u16 64262), .lit (.int .u16 64261)]] []
/-- One of Go's own tables, pinned by name: the form's constant. -/
def laid_unicode_CaseRanges : DataW Unit := Go.Pinned.caseRanges

/-- 'codicillaw09.PackWrites': WHATEVER THE INPUT: true; the input reads as it did. -/
def packWritesSpec : ChangeSpec := { name := "packWrites", fn := fun _ => fun
  | [d1, d2] => { results := [.lit (.bool true)], args := [d1, d2] }
  | _ => none }
def packWritesRow : OpenClaim := { program := "ytabccggcfcppgaagreatdoor", sum := "8ba34315d5739fe97f7bcb93ba631baa548b67c78d2dab5dad4af22df24a53a4", func := "codicil/codicillaw09.PackWrites", spec := "packWrites", unfollowed := true, recurses := true, named := ["codicil/sha.k", "codicil/inflate.order", "internal/strconv.uint64pow10", "math/bits.deBruijn32tab", "math/bits.deBruijn64tab"], plainKeys := false, apart := false, laid := [("math/bits.deBruijn32tab", laid_math_bits_deBruijn32tab), ("math/bits.deBruijn64tab", laid_math_bits_deBruijn64tab), ("internal/strconv.uint64pow10", laid_internal_strconv_uint64pow10), ("codicil/inflate.order", laid_codicil_inflate_order), ("codicil/sha.k", laid_codicil_sha_k)] }
def PackWritesSaid : Prop := packWritesRow.holds Tryz.pinned (OpenSpec.ofChange packWritesSpec)

/-- ITS FALSE NEIGHBOUR: 'it returns false'. Refute it at one input. -/
def packWritesWrong : ChangeSpec := { name := "packWrites", fn := fun _ => fun
  | [d1, d2] => { results := [.lit (.bool false)], args := [d1, d2] }
  | _ => none }
def PackWritesWrongFalsely : Prop := packWritesRow.holds Tryz.pinned (OpenSpec.ofChange packWritesWrong)

/-- 'codicillaw09.PackThere': WHATEVER THE INPUT: true; the input reads as it did. -/
def packThereSpec : ChangeSpec := { name := "packThere", fn := fun _ => fun
  | [d1, d2] => { results := [.lit (.bool true)], args := [d1, d2] }
  | _ => none }
def packThereRow : OpenClaim := { program := "ytabccggcfcppgaagreatdoor", sum := "8ba34315d5739fe97f7bcb93ba631baa548b67c78d2dab5dad4af22df24a53a4", func := "codicil/codicillaw09.PackThere", spec := "packThere", unfollowed := true, recurses := true, named := ["codicil/sha.k", "codicil/inflate.order", "internal/strconv.uint64pow10", "math/bits.deBruijn32tab", "math/bits.deBruijn64tab"], plainKeys := false, apart := false, laid := [("math/bits.deBruijn32tab", laid_math_bits_deBruijn32tab), ("math/bits.deBruijn64tab", laid_math_bits_deBruijn64tab), ("internal/strconv.uint64pow10", laid_internal_strconv_uint64pow10), ("codicil/inflate.order", laid_codicil_inflate_order), ("codicil/sha.k", laid_codicil_sha_k)] }
def PackThereSaid : Prop := packThereRow.holds Tryz.pinned (OpenSpec.ofChange packThereSpec)

/-- ITS FALSE NEIGHBOUR: 'it returns false'. Refute it at one input. -/
def packThereWrong : ChangeSpec := { name := "packThere", fn := fun _ => fun
  | [d1, d2] => { results := [.lit (.bool false)], args := [d1, d2] }
  | _ => none }
def PackThereWrongFalsely : Prop := packThereRow.holds Tryz.pinned (OpenSpec.ofChange packThereWrong)

/-- 'codicillaw09.PackMemory': WHATEVER THE INPUT: true; the input reads as it did. -/
def packMemorySpec : ChangeSpec := { name := "packMemory", fn := fun _ => fun
  | [d] => { results := [.lit (.bool true)], args := [d] }
  | _ => none }
def packMemoryRow : OpenClaim := { program := "ytabccggcfcppgaagreatdoor", sum := "8ba34315d5739fe97f7bcb93ba631baa548b67c78d2dab5dad4af22df24a53a4", func := "codicil/codicillaw09.PackMemory", spec := "packMemory", unfollowed := true, recurses := true, named := ["codicil/sha.k", "codicil/inflate.order", "internal/strconv.uint64pow10", "math/bits.deBruijn32tab", "math/bits.deBruijn64tab"], plainKeys := false, apart := false, laid := [("math/bits.deBruijn32tab", laid_math_bits_deBruijn32tab), ("math/bits.deBruijn64tab", laid_math_bits_deBruijn64tab), ("internal/strconv.uint64pow10", laid_internal_strconv_uint64pow10), ("codicil/inflate.order", laid_codicil_inflate_order), ("codicil/sha.k", laid_codicil_sha_k)] }
def PackMemorySaid : Prop := packMemoryRow.holds Tryz.pinned (OpenSpec.ofChange packMemorySpec)

/-- ITS FALSE NEIGHBOUR: 'it returns false'. Refute it at one input. -/
def packMemoryWrong : ChangeSpec := { name := "packMemory", fn := fun _ => fun
  | [d] => { results := [.lit (.bool false)], args := [d] }
  | _ => none }
def PackMemoryWrongFalsely : Prop := packMemoryRow.holds Tryz.pinned (OpenSpec.ofChange packMemoryWrong)

/-- 'codicillaw15.ReftableWrites': WHATEVER THE INPUT: true; the input reads as it did. -/
def reftableWritesSpec : ChangeSpec := { name := "reftableWrites", fn := fun _ => fun
  | [d1, d2, d3, d4] => { results := [.lit (.bool true)], args := [d1, d2, d3, d4] }
  | _ => none }
def reftableWritesRow : OpenClaim := { program := "ytabccggcfcppgaagreatdoor", sum := "8ba34315d5739fe97f7bcb93ba631baa548b67c78d2dab5dad4af22df24a53a4", func := "codicil/codicillaw15.ReftableWrites", spec := "reftableWrites", inPlace := ["internal/bytealg.IndexByteString", "internal/bytealg.IndexString", "internal/bytealg.CountString"], unfollowed := true, recurses := true, named := ["internal/bytealg.MaxLen", "unicode/utf8.first", "unicode/utf8.acceptRanges", "codicil/inflate.order"], plainKeys := false, apart := false, laid := [("unicode/utf8.acceptRanges", laid_unicode_utf8_acceptRanges), ("codicil/inflate.order", laid_codicil_inflate_order), ("unicode/utf8.first", laid_unicode_utf8_first)] }
def ReftableWritesSaid : Prop := reftableWritesRow.holds Tryz.pinned (OpenSpec.ofChange reftableWritesSpec)

/-- ITS FALSE NEIGHBOUR: 'it returns false'. Refute it at one input. -/
def reftableWritesWrong : ChangeSpec := { name := "reftableWrites", fn := fun _ => fun
  | [d1, d2, d3, d4] => { results := [.lit (.bool false)], args := [d1, d2, d3, d4] }
  | _ => none }
def ReftableWritesWrongFalsely : Prop := reftableWritesRow.holds Tryz.pinned (OpenSpec.ofChange reftableWritesWrong)

/-- 'codicillaw15.ReftableReads': WHATEVER THE INPUT: true; the input reads as it did. -/
def reftableReadsSpec : ChangeSpec := { name := "reftableReads", fn := fun _ => fun
  | [d] => { results := [.lit (.bool true)], args := [d] }
  | _ => none }
def reftableReadsRow : OpenClaim := { program := "ytabccggcfcppgaagreatdoor", sum := "8ba34315d5739fe97f7bcb93ba631baa548b67c78d2dab5dad4af22df24a53a4", func := "codicil/codicillaw15.ReftableReads", spec := "reftableReads", inPlace := ["internal/bytealg.IndexByteString", "internal/bytealg.IndexString", "internal/bytealg.CountString"], unfollowed := true, recurses := true, named := ["internal/bytealg.MaxLen", "unicode/utf8.first", "unicode/utf8.acceptRanges", "codicil/inflate.order"], plainKeys := false, apart := false, laid := [("unicode/utf8.acceptRanges", laid_unicode_utf8_acceptRanges), ("codicil/inflate.order", laid_codicil_inflate_order), ("unicode/utf8.first", laid_unicode_utf8_first)] }
def ReftableReadsSaid : Prop := reftableReadsRow.holds Tryz.pinned (OpenSpec.ofChange reftableReadsSpec)

/-- ITS FALSE NEIGHBOUR: 'it returns false'. Refute it at one input. -/
def reftableReadsWrong : ChangeSpec := { name := "reftableReads", fn := fun _ => fun
  | [d] => { results := [.lit (.bool false)], args := [d] }
  | _ => none }
def ReftableReadsWrongFalsely : Prop := reftableReadsRow.holds Tryz.pinned (OpenSpec.ofChange reftableReadsWrong)

/-- 'codicillaw15.ReftableBack': WHATEVER THE INPUT: true; the input reads as it did. -/
def reftableBackSpec : ChangeSpec := { name := "reftableBack", fn := fun _ => fun
  | [d1, d2, d3, d4, d5] => { results := [.lit (.bool true)], args := [d1, d2, d3, d4, d5] }
  | _ => none }
def reftableBackRow : OpenClaim := { program := "ytabccggcfcppgaagreatdoor", sum := "8ba34315d5739fe97f7bcb93ba631baa548b67c78d2dab5dad4af22df24a53a4", func := "codicil/codicillaw15.ReftableBack", spec := "reftableBack", inPlace := ["internal/bytealg.IndexByteString", "internal/bytealg.IndexString", "internal/bytealg.CountString"], unfollowed := true, recurses := true, named := ["internal/bytealg.MaxLen", "unicode/utf8.first", "unicode/utf8.acceptRanges", "codicil/inflate.order"], plainKeys := false, apart := false, laid := [("unicode/utf8.acceptRanges", laid_unicode_utf8_acceptRanges), ("codicil/inflate.order", laid_codicil_inflate_order), ("unicode/utf8.first", laid_unicode_utf8_first)] }
def ReftableBackSaid : Prop := reftableBackRow.holds Tryz.pinned (OpenSpec.ofChange reftableBackSpec)

/-- ITS FALSE NEIGHBOUR: 'it returns false'. Refute it at one input. -/
def reftableBackWrong : ChangeSpec := { name := "reftableBack", fn := fun _ => fun
  | [d1, d2, d3, d4, d5] => { results := [.lit (.bool false)], args := [d1, d2, d3, d4, d5] }
  | _ => none }
def ReftableBackWrongFalsely : Prop := reftableBackRow.holds Tryz.pinned (OpenSpec.ofChange reftableBackWrong)

/-- 'codicillaw15.ReftableFixed': WHATEVER THE INPUT: true; the input reads as it did. -/
def reftableFixedSpec : ChangeSpec := { name := "reftableFixed", fn := fun _ => fun
  | [] => { results := [.lit (.bool true)], args := [] }
  | _ => none }
def reftableFixedRow : OpenClaim := { program := "ytabccggcfcppgaagreatdoor", sum := "8ba34315d5739fe97f7bcb93ba631baa548b67c78d2dab5dad4af22df24a53a4", func := "codicil/codicillaw15.ReftableFixed", spec := "reftableFixed", inPlace := ["internal/bytealg.IndexByteString", "internal/bytealg.IndexString", "internal/bytealg.CountString"], unfollowed := true, recurses := true, named := ["internal/bytealg.MaxLen", "unicode/utf8.first", "unicode/utf8.acceptRanges", "codicil/inflate.order"], plainKeys := false, apart := false, laid := [("unicode/utf8.acceptRanges", laid_unicode_utf8_acceptRanges), ("codicil/inflate.order", laid_codicil_inflate_order), ("unicode/utf8.first", laid_unicode_utf8_first)] }
def ReftableFixedSaid : Prop := reftableFixedRow.holds Tryz.pinned (OpenSpec.ofChange reftableFixedSpec)

/-- ITS FALSE NEIGHBOUR: 'it returns false'. Refute it at one input. -/
def reftableFixedWrong : ChangeSpec := { name := "reftableFixed", fn := fun _ => fun
  | [] => { results := [.lit (.bool false)], args := [] }
  | _ => none }
def ReftableFixedWrongFalsely : Prop := reftableFixedRow.holds Tryz.pinned (OpenSpec.ofChange reftableFixedWrong)

/-- 'codicillaw15.ReftableMemory': WHATEVER THE INPUT: true; the input reads as it did. -/
def reftableMemorySpec : ChangeSpec := { name := "reftableMemory", fn := fun _ => fun
  | [d1, d2, d3] => { results := [.lit (.bool true)], args := [d1, d2, d3] }
  | _ => none }
def reftableMemoryRow : OpenClaim := { program := "ytabccggcfcppgaagreatdoor", sum := "8ba34315d5739fe97f7bcb93ba631baa548b67c78d2dab5dad4af22df24a53a4", func := "codicil/codicillaw15.ReftableMemory", spec := "reftableMemory", inPlace := ["internal/bytealg.IndexByteString", "internal/bytealg.IndexString", "internal/bytealg.CountString"], unfollowed := true, recurses := true, named := ["internal/bytealg.MaxLen", "unicode/utf8.first", "unicode/utf8.acceptRanges", "codicil/inflate.order"], plainKeys := false, apart := false, laid := [("unicode/utf8.acceptRanges", laid_unicode_utf8_acceptRanges), ("codicil/inflate.order", laid_codicil_inflate_order), ("unicode/utf8.first", laid_unicode_utf8_first)] }
def ReftableMemorySaid : Prop := reftableMemoryRow.holds Tryz.pinned (OpenSpec.ofChange reftableMemorySpec)

/-- ITS FALSE NEIGHBOUR: 'it returns false'. Refute it at one input. -/
def reftableMemoryWrong : ChangeSpec := { name := "reftableMemory", fn := fun _ => fun
  | [d1, d2, d3] => { results := [.lit (.bool false)], args := [d1, d2, d3] }
  | _ => none }
def ReftableMemoryWrongFalsely : Prop := reftableMemoryRow.holds Tryz.pinned (OpenSpec.ofChange reftableMemoryWrong)

/-- 'codicillaw09.PackChains': WHATEVER THE INPUT: true; the input reads as it did. -/
def packChainsSpec : ChangeSpec := { name := "packChains", fn := fun _ => fun
  | [d1, d2, d3] => { results := [.lit (.bool true)], args := [d1, d2, d3] }
  | _ => none }
def packChainsRow : OpenClaim := { program := "ytabccggcfcppgaagreatdoor", sum := "8ba34315d5739fe97f7bcb93ba631baa548b67c78d2dab5dad4af22df24a53a4", func := "codicil/codicillaw09.PackChains", spec := "packChains", unfollowed := true, recurses := true, named := ["codicil/sha.k", "codicil/inflate.order", "internal/strconv.uint64pow10", "math/bits.deBruijn32tab", "math/bits.deBruijn64tab"], plainKeys := false, apart := false, laid := [("math/bits.deBruijn32tab", laid_math_bits_deBruijn32tab), ("math/bits.deBruijn64tab", laid_math_bits_deBruijn64tab), ("internal/strconv.uint64pow10", laid_internal_strconv_uint64pow10), ("codicil/inflate.order", laid_codicil_inflate_order), ("codicil/sha.k", laid_codicil_sha_k)] }
def PackChainsSaid : Prop := packChainsRow.holds Tryz.pinned (OpenSpec.ofChange packChainsSpec)

/-- ITS FALSE NEIGHBOUR: 'it returns false'. Refute it at one input. -/
def packChainsWrong : ChangeSpec := { name := "packChains", fn := fun _ => fun
  | [d1, d2, d3] => { results := [.lit (.bool false)], args := [d1, d2, d3] }
  | _ => none }
def PackChainsWrongFalsely : Prop := packChainsRow.holds Tryz.pinned (OpenSpec.ofChange packChainsWrong)

/-- 'codicillaw13.LoosePacks': WHATEVER THE INPUT: true; the input reads as it did. -/
def loosePacksSpec : ChangeSpec := { name := "loosePacks", fn := fun _ => fun
  | [d1, d2, d3] => { results := [.lit (.bool true)], args := [d1, d2, d3] }
  | _ => none }
def loosePacksRow : OpenClaim := { program := "ytabccggcfcppgaagreatdoor", sum := "8ba34315d5739fe97f7bcb93ba631baa548b67c78d2dab5dad4af22df24a53a4", func := "codicil/codicillaw13.LoosePacks", spec := "loosePacks", inPlace := ["internal/abi.NoEscape", "internal/bytealg.IndexByteString", "internal/bytealg.IndexString", "internal/bytealg.abigen_runtime_cmpstring", "internal/bytealg.IndexByte", "internal/bytealg.Index"], unfollowed := true, recurses := true, named := ["internal/strconv.uint64pow10", "math/bits.deBruijn32tab", "math/bits.deBruijn64tab", "codicil/sha.k", "unicode/utf8.first", "unicode/utf8.acceptRanges", "internal/bytealg.MaxLen", "unicode.asciiFold", "unicode.caseOrbit", "unicode.CaseRanges", "codicil/inflate.order"], plainKeys := false, apart := false, laid := [("math/bits.deBruijn32tab", laid_math_bits_deBruijn32tab), ("math/bits.deBruijn64tab", laid_math_bits_deBruijn64tab), ("internal/strconv.uint64pow10", laid_internal_strconv_uint64pow10), ("unicode/utf8.acceptRanges", laid_unicode_utf8_acceptRanges), ("codicil/inflate.order", laid_codicil_inflate_order), ("unicode.asciiFold", laid_unicode_asciiFold), ("unicode.caseOrbit", laid_unicode_caseOrbit), ("codicil/sha.k", laid_codicil_sha_k), ("unicode.CaseRanges", laid_unicode_CaseRanges), ("unicode/utf8.first", laid_unicode_utf8_first)] }
def LoosePacksSaid : Prop := loosePacksRow.holds Tryz.pinned (OpenSpec.ofChange loosePacksSpec)

/-- ITS FALSE NEIGHBOUR: 'it returns false'. Refute it at one input. -/
def loosePacksWrong : ChangeSpec := { name := "loosePacks", fn := fun _ => fun
  | [d1, d2, d3] => { results := [.lit (.bool false)], args := [d1, d2, d3] }
  | _ => none }
def LoosePacksWrongFalsely : Prop := loosePacksRow.holds Tryz.pinned (OpenSpec.ofChange loosePacksWrong)

/-- 'codicillaw13.LooseFixed': WHATEVER THE INPUT: true; the input reads as it did. -/
def looseFixedSpec : ChangeSpec := { name := "looseFixed", fn := fun _ => fun
  | [] => { results := [.lit (.bool true)], args := [] }
  | _ => none }
def looseFixedRow : OpenClaim := { program := "ytabccggcfcppgaagreatdoor", sum := "8ba34315d5739fe97f7bcb93ba631baa548b67c78d2dab5dad4af22df24a53a4", func := "codicil/codicillaw13.LooseFixed", spec := "looseFixed", inPlace := ["internal/abi.NoEscape", "internal/bytealg.IndexByteString", "internal/bytealg.IndexString", "internal/bytealg.abigen_runtime_cmpstring", "internal/bytealg.IndexByte", "internal/bytealg.Index"], unfollowed := true, recurses := true, named := ["internal/strconv.uint64pow10", "math/bits.deBruijn32tab", "math/bits.deBruijn64tab", "codicil/sha.k", "unicode/utf8.first", "unicode/utf8.acceptRanges", "internal/bytealg.MaxLen", "unicode.asciiFold", "unicode.caseOrbit", "unicode.CaseRanges", "codicil/inflate.order"], plainKeys := false, apart := false, laid := [("math/bits.deBruijn32tab", laid_math_bits_deBruijn32tab), ("math/bits.deBruijn64tab", laid_math_bits_deBruijn64tab), ("internal/strconv.uint64pow10", laid_internal_strconv_uint64pow10), ("unicode/utf8.acceptRanges", laid_unicode_utf8_acceptRanges), ("codicil/inflate.order", laid_codicil_inflate_order), ("unicode.asciiFold", laid_unicode_asciiFold), ("unicode.caseOrbit", laid_unicode_caseOrbit), ("codicil/sha.k", laid_codicil_sha_k), ("unicode.CaseRanges", laid_unicode_CaseRanges), ("unicode/utf8.first", laid_unicode_utf8_first)] }
def LooseFixedSaid : Prop := looseFixedRow.holds Tryz.pinned (OpenSpec.ofChange looseFixedSpec)

/-- ITS FALSE NEIGHBOUR: 'it returns false'. Refute it at one input. -/
def looseFixedWrong : ChangeSpec := { name := "looseFixed", fn := fun _ => fun
  | [] => { results := [.lit (.bool false)], args := [] }
  | _ => none }
def LooseFixedWrongFalsely : Prop := looseFixedRow.holds Tryz.pinned (OpenSpec.ofChange looseFixedWrong)

/- THE SECOND FORM. 'bulk': how many values and letters a reading holds, each counted each time it is reached (what is shared counts as often as it is met; a slice's spare places count too). A statement '..UptoSaid' is the law's where the arguments, and the package variables that the reading takes, are together of bulk at most 1048576: NARROWER than '..Said'. Prove '..Said' where nothing that the law and all that it calls make is longer than what came in: it says more and counts as full. Else prove '..UptoSaid'. A law counts once. -/
mutual
def uptoBulk {H : Type} : DataW H → Nat
  | .lit (.string bytes) => bytes.length + 1
  | .lit _ => 1
  | .nil => 1
  | .ptr d => uptoBulk d + 1
  | .slice elems spare => uptoBulkAll elems + uptoBulkAll spare + 1
  | .agg parts => uptoBulkAll parts + 1
  | .iface _ d => uptoBulk d + 1
  | .map entries => uptoBulkEntries entries + 1
  | .held _ => 1
def uptoBulkAll {H : Type} : List (DataW H) → Nat
  | [] => 0
  | d :: r => uptoBulk d + uptoBulkAll r
def uptoBulkEntries {H : Type} : List (Lit × DataW H) → Nat
  | [] => 0
  | x :: r => uptoBulkEntry x + uptoBulkEntries r
def uptoBulkEntry {H : Type} : Lit × DataW H → Nat
  | (.string bytes, d) => bytes.length + uptoBulk d + 1
  | (_, d) => uptoBulk d + 1
 end
def uptoSmall : (H : Type) → List (DataW H) → Bool := fun _ ds => decide (uptoBulkAll ds ≤ 1048576)
def OpenSpec.upto (s : _root_.Go.ChangeSpec) : _root_.Go.OpenSpec := { _root_.Go.OpenSpec.ofChange s with cond := some uptoSmall }

/-- 'codicillaw09.PackWrites', WHERE WHAT IT READS IS OF BULK AT MOST 1048576: true; the input reads as it did. -/
def packWritesUptoRow : OpenClaim := { program := "ytabccggcfcppgaagreatdoor", sum := "8ba34315d5739fe97f7bcb93ba631baa548b67c78d2dab5dad4af22df24a53a4", func := "codicil/codicillaw09.PackWrites", spec := "packWrites", unfollowed := true, recurses := true, named := ["codicil/sha.k", "codicil/inflate.order", "internal/strconv.uint64pow10", "math/bits.deBruijn32tab", "math/bits.deBruijn64tab"], plainKeys := false, apart := false, laid := [("math/bits.deBruijn32tab", laid_math_bits_deBruijn32tab), ("math/bits.deBruijn64tab", laid_math_bits_deBruijn64tab), ("internal/strconv.uint64pow10", laid_internal_strconv_uint64pow10), ("codicil/inflate.order", laid_codicil_inflate_order), ("codicil/sha.k", laid_codicil_sha_k)], narrowed := true }
def PackWritesUptoSaid : Prop := packWritesUptoRow.holds Tryz.pinned (OpenSpec.upto packWritesSpec)

/-- 'codicillaw09.PackThere', WHERE WHAT IT READS IS OF BULK AT MOST 1048576: true; the input reads as it did. -/
def packThereUptoRow : OpenClaim := { program := "ytabccggcfcppgaagreatdoor", sum := "8ba34315d5739fe97f7bcb93ba631baa548b67c78d2dab5dad4af22df24a53a4", func := "codicil/codicillaw09.PackThere", spec := "packThere", unfollowed := true, recurses := true, named := ["codicil/sha.k", "codicil/inflate.order", "internal/strconv.uint64pow10", "math/bits.deBruijn32tab", "math/bits.deBruijn64tab"], plainKeys := false, apart := false, laid := [("math/bits.deBruijn32tab", laid_math_bits_deBruijn32tab), ("math/bits.deBruijn64tab", laid_math_bits_deBruijn64tab), ("internal/strconv.uint64pow10", laid_internal_strconv_uint64pow10), ("codicil/inflate.order", laid_codicil_inflate_order), ("codicil/sha.k", laid_codicil_sha_k)], narrowed := true }
def PackThereUptoSaid : Prop := packThereUptoRow.holds Tryz.pinned (OpenSpec.upto packThereSpec)

/-- 'codicillaw09.PackMemory', WHERE WHAT IT READS IS OF BULK AT MOST 1048576: true; the input reads as it did. -/
def packMemoryUptoRow : OpenClaim := { program := "ytabccggcfcppgaagreatdoor", sum := "8ba34315d5739fe97f7bcb93ba631baa548b67c78d2dab5dad4af22df24a53a4", func := "codicil/codicillaw09.PackMemory", spec := "packMemory", unfollowed := true, recurses := true, named := ["codicil/sha.k", "codicil/inflate.order", "internal/strconv.uint64pow10", "math/bits.deBruijn32tab", "math/bits.deBruijn64tab"], plainKeys := false, apart := false, laid := [("math/bits.deBruijn32tab", laid_math_bits_deBruijn32tab), ("math/bits.deBruijn64tab", laid_math_bits_deBruijn64tab), ("internal/strconv.uint64pow10", laid_internal_strconv_uint64pow10), ("codicil/inflate.order", laid_codicil_inflate_order), ("codicil/sha.k", laid_codicil_sha_k)], narrowed := true }
def PackMemoryUptoSaid : Prop := packMemoryUptoRow.holds Tryz.pinned (OpenSpec.upto packMemorySpec)

/-- 'codicillaw15.ReftableWrites', WHERE WHAT IT READS IS OF BULK AT MOST 1048576: true; the input reads as it did. -/
def reftableWritesUptoRow : OpenClaim := { program := "ytabccggcfcppgaagreatdoor", sum := "8ba34315d5739fe97f7bcb93ba631baa548b67c78d2dab5dad4af22df24a53a4", func := "codicil/codicillaw15.ReftableWrites", spec := "reftableWrites", inPlace := ["internal/bytealg.IndexByteString", "internal/bytealg.IndexString", "internal/bytealg.CountString"], unfollowed := true, recurses := true, named := ["internal/bytealg.MaxLen", "unicode/utf8.first", "unicode/utf8.acceptRanges", "codicil/inflate.order"], plainKeys := false, apart := false, laid := [("unicode/utf8.acceptRanges", laid_unicode_utf8_acceptRanges), ("codicil/inflate.order", laid_codicil_inflate_order), ("unicode/utf8.first", laid_unicode_utf8_first)], narrowed := true }
def ReftableWritesUptoSaid : Prop := reftableWritesUptoRow.holds Tryz.pinned (OpenSpec.upto reftableWritesSpec)

/-- 'codicillaw15.ReftableReads', WHERE WHAT IT READS IS OF BULK AT MOST 1048576: true; the input reads as it did. -/
def reftableReadsUptoRow : OpenClaim := { program := "ytabccggcfcppgaagreatdoor", sum := "8ba34315d5739fe97f7bcb93ba631baa548b67c78d2dab5dad4af22df24a53a4", func := "codicil/codicillaw15.ReftableReads", spec := "reftableReads", inPlace := ["internal/bytealg.IndexByteString", "internal/bytealg.IndexString", "internal/bytealg.CountString"], unfollowed := true, recurses := true, named := ["internal/bytealg.MaxLen", "unicode/utf8.first", "unicode/utf8.acceptRanges", "codicil/inflate.order"], plainKeys := false, apart := false, laid := [("unicode/utf8.acceptRanges", laid_unicode_utf8_acceptRanges), ("codicil/inflate.order", laid_codicil_inflate_order), ("unicode/utf8.first", laid_unicode_utf8_first)], narrowed := true }
def ReftableReadsUptoSaid : Prop := reftableReadsUptoRow.holds Tryz.pinned (OpenSpec.upto reftableReadsSpec)

/-- 'codicillaw15.ReftableBack', WHERE WHAT IT READS IS OF BULK AT MOST 1048576: true; the input reads as it did. -/
def reftableBackUptoRow : OpenClaim := { program := "ytabccggcfcppgaagreatdoor", sum := "8ba34315d5739fe97f7bcb93ba631baa548b67c78d2dab5dad4af22df24a53a4", func := "codicil/codicillaw15.ReftableBack", spec := "reftableBack", inPlace := ["internal/bytealg.IndexByteString", "internal/bytealg.IndexString", "internal/bytealg.CountString"], unfollowed := true, recurses := true, named := ["internal/bytealg.MaxLen", "unicode/utf8.first", "unicode/utf8.acceptRanges", "codicil/inflate.order"], plainKeys := false, apart := false, laid := [("unicode/utf8.acceptRanges", laid_unicode_utf8_acceptRanges), ("codicil/inflate.order", laid_codicil_inflate_order), ("unicode/utf8.first", laid_unicode_utf8_first)], narrowed := true }
def ReftableBackUptoSaid : Prop := reftableBackUptoRow.holds Tryz.pinned (OpenSpec.upto reftableBackSpec)

/-- 'codicillaw15.ReftableFixed', WHERE WHAT IT READS IS OF BULK AT MOST 1048576: true; the input reads as it did. -/
def reftableFixedUptoRow : OpenClaim := { program := "ytabccggcfcppgaagreatdoor", sum := "8ba34315d5739fe97f7bcb93ba631baa548b67c78d2dab5dad4af22df24a53a4", func := "codicil/codicillaw15.ReftableFixed", spec := "reftableFixed", inPlace := ["internal/bytealg.IndexByteString", "internal/bytealg.IndexString", "internal/bytealg.CountString"], unfollowed := true, recurses := true, named := ["internal/bytealg.MaxLen", "unicode/utf8.first", "unicode/utf8.acceptRanges", "codicil/inflate.order"], plainKeys := false, apart := false, laid := [("unicode/utf8.acceptRanges", laid_unicode_utf8_acceptRanges), ("codicil/inflate.order", laid_codicil_inflate_order), ("unicode/utf8.first", laid_unicode_utf8_first)], narrowed := true }
def ReftableFixedUptoSaid : Prop := reftableFixedUptoRow.holds Tryz.pinned (OpenSpec.upto reftableFixedSpec)

/-- 'codicillaw15.ReftableMemory', WHERE WHAT IT READS IS OF BULK AT MOST 1048576: true; the input reads as it did. -/
def reftableMemoryUptoRow : OpenClaim := { program := "ytabccggcfcppgaagreatdoor", sum := "8ba34315d5739fe97f7bcb93ba631baa548b67c78d2dab5dad4af22df24a53a4", func := "codicil/codicillaw15.ReftableMemory", spec := "reftableMemory", inPlace := ["internal/bytealg.IndexByteString", "internal/bytealg.IndexString", "internal/bytealg.CountString"], unfollowed := true, recurses := true, named := ["internal/bytealg.MaxLen", "unicode/utf8.first", "unicode/utf8.acceptRanges", "codicil/inflate.order"], plainKeys := false, apart := false, laid := [("unicode/utf8.acceptRanges", laid_unicode_utf8_acceptRanges), ("codicil/inflate.order", laid_codicil_inflate_order), ("unicode/utf8.first", laid_unicode_utf8_first)], narrowed := true }
def ReftableMemoryUptoSaid : Prop := reftableMemoryUptoRow.holds Tryz.pinned (OpenSpec.upto reftableMemorySpec)

/-- 'codicillaw09.PackChains', WHERE WHAT IT READS IS OF BULK AT MOST 1048576: true; the input reads as it did. -/
def packChainsUptoRow : OpenClaim := { program := "ytabccggcfcppgaagreatdoor", sum := "8ba34315d5739fe97f7bcb93ba631baa548b67c78d2dab5dad4af22df24a53a4", func := "codicil/codicillaw09.PackChains", spec := "packChains", unfollowed := true, recurses := true, named := ["codicil/sha.k", "codicil/inflate.order", "internal/strconv.uint64pow10", "math/bits.deBruijn32tab", "math/bits.deBruijn64tab"], plainKeys := false, apart := false, laid := [("math/bits.deBruijn32tab", laid_math_bits_deBruijn32tab), ("math/bits.deBruijn64tab", laid_math_bits_deBruijn64tab), ("internal/strconv.uint64pow10", laid_internal_strconv_uint64pow10), ("codicil/inflate.order", laid_codicil_inflate_order), ("codicil/sha.k", laid_codicil_sha_k)], narrowed := true }
def PackChainsUptoSaid : Prop := packChainsUptoRow.holds Tryz.pinned (OpenSpec.upto packChainsSpec)

/-- 'codicillaw13.LoosePacks', WHERE WHAT IT READS IS OF BULK AT MOST 1048576: true; the input reads as it did. -/
def loosePacksUptoRow : OpenClaim := { program := "ytabccggcfcppgaagreatdoor", sum := "8ba34315d5739fe97f7bcb93ba631baa548b67c78d2dab5dad4af22df24a53a4", func := "codicil/codicillaw13.LoosePacks", spec := "loosePacks", inPlace := ["internal/abi.NoEscape", "internal/bytealg.IndexByteString", "internal/bytealg.IndexString", "internal/bytealg.abigen_runtime_cmpstring", "internal/bytealg.IndexByte", "internal/bytealg.Index"], unfollowed := true, recurses := true, named := ["internal/strconv.uint64pow10", "math/bits.deBruijn32tab", "math/bits.deBruijn64tab", "codicil/sha.k", "unicode/utf8.first", "unicode/utf8.acceptRanges", "internal/bytealg.MaxLen", "unicode.asciiFold", "unicode.caseOrbit", "unicode.CaseRanges", "codicil/inflate.order"], plainKeys := false, apart := false, laid := [("math/bits.deBruijn32tab", laid_math_bits_deBruijn32tab), ("math/bits.deBruijn64tab", laid_math_bits_deBruijn64tab), ("internal/strconv.uint64pow10", laid_internal_strconv_uint64pow10), ("unicode/utf8.acceptRanges", laid_unicode_utf8_acceptRanges), ("codicil/inflate.order", laid_codicil_inflate_order), ("unicode.asciiFold", laid_unicode_asciiFold), ("unicode.caseOrbit", laid_unicode_caseOrbit), ("codicil/sha.k", laid_codicil_sha_k), ("unicode.CaseRanges", laid_unicode_CaseRanges), ("unicode/utf8.first", laid_unicode_utf8_first)], narrowed := true }
def LoosePacksUptoSaid : Prop := loosePacksUptoRow.holds Tryz.pinned (OpenSpec.upto loosePacksSpec)

/-- 'codicillaw13.LooseFixed', WHERE WHAT IT READS IS OF BULK AT MOST 1048576: true; the input reads as it did. -/
def looseFixedUptoRow : OpenClaim := { program := "ytabccggcfcppgaagreatdoor", sum := "8ba34315d5739fe97f7bcb93ba631baa548b67c78d2dab5dad4af22df24a53a4", func := "codicil/codicillaw13.LooseFixed", spec := "looseFixed", inPlace := ["internal/abi.NoEscape", "internal/bytealg.IndexByteString", "internal/bytealg.IndexString", "internal/bytealg.abigen_runtime_cmpstring", "internal/bytealg.IndexByte", "internal/bytealg.Index"], unfollowed := true, recurses := true, named := ["internal/strconv.uint64pow10", "math/bits.deBruijn32tab", "math/bits.deBruijn64tab", "codicil/sha.k", "unicode/utf8.first", "unicode/utf8.acceptRanges", "internal/bytealg.MaxLen", "unicode.asciiFold", "unicode.caseOrbit", "unicode.CaseRanges", "codicil/inflate.order"], plainKeys := false, apart := false, laid := [("math/bits.deBruijn32tab", laid_math_bits_deBruijn32tab), ("math/bits.deBruijn64tab", laid_math_bits_deBruijn64tab), ("internal/strconv.uint64pow10", laid_internal_strconv_uint64pow10), ("unicode/utf8.acceptRanges", laid_unicode_utf8_acceptRanges), ("codicil/inflate.order", laid_codicil_inflate_order), ("unicode.asciiFold", laid_unicode_asciiFold), ("unicode.caseOrbit", laid_unicode_caseOrbit), ("codicil/sha.k", laid_codicil_sha_k), ("unicode.CaseRanges", laid_unicode_CaseRanges), ("unicode/utf8.first", laid_unicode_utf8_first)], narrowed := true }
def LooseFixedUptoSaid : Prop := looseFixedUptoRow.holds Tryz.pinned (OpenSpec.upto looseFixedSpec)

end Rows
end Go.Proofs.YtabccggcfcppgaaGreatDoor

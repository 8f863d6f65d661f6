/- What the rows of this seat share. -/
import Derived.Test.YthlnjgdoodjgoaaGreatDoorRows
import Derived.KernelRfl
import Derived.Lib.BufferKept
import Derived.Lib.BufferWrite
import Derived.Lib.VarintMem
import Derived.Laws.BitsLemmas
import Derived.Laws.RangeAny
import Derived.Deep.MidRow
import Derived.Laws.IdiomCopy
import Derived.Test.YthlnjgdoodjgoaaGreatDoorXTxt1
import Derived.Test.YthlnjgdoodjgoaaGreatDoorXShelf1
import Derived.Test.YthlnjgdoodjgoaaGreatDoorXLit3
import Derived.Test.YthlnjgdoodjgoaaGreatDoorXCod1
set_option linter.unusedSimpArgs false
set_option linter.unusedVariables false
open List renaming any_cons → Yf8, contains_cons → Yf9, drop_eq_getElem_cons → Yfw, drop_of_length_le → Yfv, drop_zero → Yfc, flatMap_append → Yge, flatMap_cons → Yfu, idxOf_cons → Yfz, idxOf_lt_length_of_mem → Yf0, length_append → Yek, length_cons → Yd9, length_nil → Ye6, length_singleton → Yf2, map_cons → Yed, map_nil → Ygc, mem_append → Yf1, mem_cons_of_mem → Yex, mem_singleton → Yeb, take_of_length_le → Yej, take_succ_eq_append_getElem → Ygd
open Nat renaming le_refl → Ydt, zero_add → Yen
open Int renaming cast_ofNat_Int → Yf4, natCast_add → Yga
open Bool renaming and_assoc → Yep, and_eq_true → Yd8, and_true → Yes, false_and → Yf7, false_or → Yf6, not_eq_true → Ygb, not_false → Yfy, not_true → Yfx, true_and → Yf5
open Option renaming getD_some → Ye1
open BitVec renaming toNat_ofInt → Yf3
open Nat renaming reduceEqDiff → D1, reduceAdd → D2, reduceSub → D3, reduceMul → D4, reduceDiv → D5, reduceMod → D6, reduceBEq → D7, reduceLeDiff → D8, reduceLT → D9
open Int renaming reduceEq → E2, reduceNe → E3, reduceLT → E4, reduceLE → E5, reduceBEq → E6, reduceBNe → E7, reduceToNat → E8, reduceAdd → E9, reduceSub → F0, reduceMul → F1, reduceNeg → A5
namespace Cod
open Go Go.Proofs Go.Proofs.YthlnjgdoodjgoaaGreatDoor
set_option maxRecDepth 100000
theorem Zq3 {α β:Type} [BEq α] [LawfulBEq α] {a : α} {b : β}:∀ {l:List (α × β)},l.lookup a=some b→(a,b)∈l:=by
  intro l
  induction l with
  | nil=>intro h;simp at h
  | cons x l ih =>
    intro h
    rw [List.lookup_cons] at h
    split at h
    · rename_i he
      rw [beq_iff_eq] at he
      cases h
      rw [he];exact List.mem_cons_self
    · exact Yex _ (ih h)
theorem own:ownKnob Tryz.prog.godebug=none:=by kernel_rfl
theorem Yci:laidOutB Tryz.prog=true:=by kernel_rfl
theorem Z1i:Tryz.prog.underlying 4=some .bool:=Tryz.underlying4
mutual
theorem Zbs {H:Type}:∀ d:DataW H,Rows.uptoBulk d=M1 d
  | .lit (.string _)=>by simp [Rows.uptoBulk,M1]
  | .lit (.bool _)=>by simp [Rows.uptoBulk,M1]
  | .lit (.int _ _)=>by simp [Rows.uptoBulk,M1]
  | .lit (.float _ _)=>by simp [Rows.uptoBulk,M1]
  | .lit .nil=>by simp [Rows.uptoBulk,M1]
  | .nil=>by simp [Rows.uptoBulk,M1]
  | .ptr d=>by simp [Rows.uptoBulk,M1,Zbs d]
  | .slice a b=>by simp [Rows.uptoBulk,M1,bulkAll_eq a,bulkAll_eq b]
  | .agg a=>by simp [Rows.uptoBulk,M1,bulkAll_eq a]
  | .iface _ d=>by simp [Rows.uptoBulk,M1,Zbs d]
  | .map l=>by simp [Rows.uptoBulk,M1,bulkEntries_eq l]
  | .held _=>by simp [Rows.uptoBulk,M1]
theorem bulkAll_eq {H:Type}:∀ l:List (DataW H),Rows.uptoBulkAll l=dbulkAll l
  | []=>by simp [Rows.uptoBulkAll,dbulkAll]
  | d::r=>by simp [Rows.uptoBulkAll,dbulkAll,Zbs d,bulkAll_eq r]
theorem bulkEntries_eq {H:Type}:∀ l:List (Lit × DataW H),Rows.uptoBulkEntries l=dbulkEntries l
  | []=>by simp [Rows.uptoBulkEntries,dbulkEntries]
  | d::r=>by simp [Rows.uptoBulkEntries,dbulkEntries,bulkEntry_eq d,bulkEntries_eq r]
theorem bulkEntry_eq {H:Type}:∀ x:Lit × DataW H,Rows.uptoBulkEntry x=dbulkEntry x
  | (.string _,d)=>by simp [Rows.uptoBulkEntry,dbulkEntry,Zbs d]
  | (.bool _,d)=>by simp [Rows.uptoBulkEntry,dbulkEntry,Zbs d]
  | (.int _ _,d)=>by simp [Rows.uptoBulkEntry,dbulkEntry,Zbs d]
  | (.float _ _,d)=>by simp [Rows.uptoBulkEntry,dbulkEntry,Zbs d]
  | (.nil,d)=>by simp [Rows.uptoBulkEntry,dbulkEntry,Zbs d]
end
theorem Znv {H:Type} (a b:List (DataW H)):dbulkAll (a++b)=dbulkAll a+dbulkAll b:=by
  induction a with
  | nil=>simp [dbulkAll]
  | cons x a ih=>simp only [List.cons_append,dbulkAll,ih];omega
theorem Z7j {H:Type} {ds gs:List (DataW H)} (h:Rows.uptoSmall H (ds++gs)=true):dbulkAll ds≤1048576:=by
  simp only [Rows.uptoSmall,decide_eq_true_eq,bulkAll_eq,Znv] at h
  omega
def Z7k:List Int:=Znm.map fun x=>(x.toNat:Int)
theorem kWords:C3 Znm=Z7k.map fun z=>AV.int .u32 z:=by kernel_rfl
theorem kLaid:(Rows.laid_codicil_sha_k:DataW Unit)=Lib.tabData .u32 Z7k:=by kernel_rfl
theorem gK:Tryz.prog.globalNamed "codicil/sha.k" = some G.Zqg:=by kernel_rfl
theorem Ycj {W:World} {l:List (String × DataW Unit)} (h:laidMetH Tryz.prog l W) (hm:("codicil/sha.k",Rows.laid_codicil_sha_k)∈l):GV (ctx [] La0 W) G.Zqg (C3 Znm):=by
  rw [kWords]
  exact Zfi (Zbr (n:=64) h (kLaid▸hm) gK (by kernel_rfl) (t:=162) (e:=131) (by kernel_rfl) (by kernel_rfl) (by kernel_rfl) (by kernel_rfl)) gK (by simp [Z7k,Znm])
theorem Z7l:(Rows.laid_unicode_asciiFold:DataW Unit)=Lib.tabData .u16 Zhl:=by kernel_rfl
theorem gF:Tryz.prog.globalNamed "unicode.asciiFold" = some G.Za4:=by kernel_rfl
theorem Z7m {W:World} {l:List (String × DataW Unit)} (h:laidMetH Tryz.prog l W) (hm:("unicode.asciiFold",Rows.laid_unicode_asciiFold)∈l):GV (ctx [] La0 W) G.Za4 (Zhl.map fun z=>.int .u16 z) :=
  Zfi (Zbr (n:=128) h (Z7l▸hm) gF (by kernel_rfl) (t:=209) (e:=208) (by kernel_rfl) (by kernel_rfl) (by kernel_rfl) (by kernel_rfl)) gF (by simp [Zhl])
theorem Yck:(Rows.laid_internal_strconv_uint64pow10:DataW Unit)=Lib.tabData .u64 Lib.pow10Tab:=by kernel_rfl
theorem gP:Tryz.prog.globalNamed "internal/strconv.uint64pow10" = some G.Y2:=by kernel_rfl
theorem Ycl {W:World} {l:List (String × DataW Unit)} (h:laidMetH Tryz.prog l W) (hm:("internal/strconv.uint64pow10",Rows.laid_internal_strconv_uint64pow10)∈l):GV (ctx [] La0 W) G.Y2 (Lib.pow10Tab.map fun z=>.int .u64 z) :=
  Zfi (Zbr (n:=20) h (Yck▸hm) gP (by kernel_rfl) (t:=196) (e:=164) (by kernel_rfl) (by kernel_rfl) (by kernel_rfl) (by kernel_rfl)) gP (by simp [Lib.pow10Tab])
theorem Z7n {W:World} {l:List (String × DataW Unit)} (h:laidMetH Tryz.prog l W) (hm:("strconv.ErrSyntax",Rows.laid_strconv_ErrSyntax)∈l):GV (ctx [] La0 W) G.Zch [.any none] :=
  Zqn h hm (by rfl) (by kernel_rfl) (t:=85) (by kernel_rfl) (by kernel_rfl)
theorem Z1j {W:World} {l:List (String × DataW Unit)} (h:laidMetH Tryz.prog l W) (hm:("strconv.ErrRange",Rows.laid_strconv_ErrRange)∈l):GV (ctx [] La0 W) G.Zci [.any none] :=
  Zqn h hm (by rfl) (by kernel_rfl) (t:=85) (by kernel_rfl) (by kernel_rfl)
theorem Ycm {W:World} (h:W.ShapedOpen Tryz.prog):GV (ctx [] La0 W) G.U4 [.any (some .i64)] :=
  Zu4 h (of_decide_eq_true (by kernel_rfl)) (by kernel_rfl) (Go.Proofs.cell_of_shapedOpen_int (zero := #[.int .i64 0]) (t:=3) h (of_decide_eq_true (by kernel_rfl)) (by kernel_rfl) rfl (by kernel_rfl) (by kernel_rfl) Tryz.underlying3)
theorem Ycn:(Rows.laid_math_bits_deBruijn64tab:DataW Unit)=Lib.tabData .u8 Znq:=by kernel_rfl
theorem gB:Tryz.prog.globalNamed "math/bits.deBruijn64tab" = some G.Za5:=by kernel_rfl
theorem Yco {W:World} {l:List (String × DataW Unit)} (h:laidMetH Tryz.prog l W) (hm:("math/bits.deBruijn64tab",Rows.laid_math_bits_deBruijn64tab)∈l):GV (ctx [] La0 W) G.Za5 (Znq.map fun z=>.int .u8 z) :=
  Zfi (Zbr (n:=64) h (Ycn▸hm) gB (by kernel_rfl) (t:=134) (e:=5) (by kernel_rfl) (by kernel_rfl) (by kernel_rfl) (by kernel_rfl)) gB (by simp [Znq])
theorem Ycp {W:World} (h:∀ p∈Zhm,GV (ctx [] La0 W) p.1 p.2):Zij E W:=by
  intro n
  show GV _ n (R9 n)
  unfold R9
  cases hl:Zhm.lookup n with
  | none=>exact Z09
  | some l=>exact h _ (Zq3 hl)
theorem Ycq {W:World} {l:List (String × DataW Unit)} (h:laidMetH Tryz.prog l W) (hs:W.ShapedOpen Tryz.prog) (hk:("codicil/sha.k",Rows.laid_codicil_sha_k)∈l) (hf:("unicode.asciiFold",Rows.laid_unicode_asciiFold)∈l) (hp:("internal/strconv.uint64pow10",Rows.laid_internal_strconv_uint64pow10)∈l) (h1:("strconv.ErrSyntax",Rows.laid_strconv_ErrSyntax)∈l) (h2:("strconv.ErrRange",Rows.laid_strconv_ErrRange)∈l) (hb:("math/bits.deBruijn64tab",Rows.laid_math_bits_deBruijn64tab)∈l):Zij E W:=by
  refine Ycp ?_
  unfold Zhm
  refine List.forall_mem_cons.2 ⟨Ycj h hk,?_⟩
  refine List.forall_mem_cons.2 ⟨Z7m h hf,?_⟩
  refine List.forall_mem_cons.2 ⟨Ycl h hp,?_⟩
  refine List.forall_mem_cons.2 ⟨Z7n h h1,?_⟩
  refine List.forall_mem_cons.2 ⟨Z1j h h2,?_⟩
  refine List.forall_mem_cons.2 ⟨Ycm hs,?_⟩
  refine List.forall_mem_cons.2 ⟨Yco h hb,?_⟩
  exact fun p h=>nomatch h
end Cod
namespace Cod
open Go
theorem Zq4:∀ {r:List (List AV)},(∀ x∈r,Wf (.int .u8) x)→∃ l:List UInt8,r.flatten=A1 l∧l.length=r.length:=by
  intro r
  induction r with
  | nil=>intro _;exact ⟨[],rfl,rfl⟩
  | cons x r ih =>
    intro h
    obtain ⟨l,h1,h2⟩:=ih fun y hy=>h y (Yex _ hy)
    obtain ⟨n,rfl,hn⟩:=h x (by simp)
    simp [Lit.wf,IntKind.min,IntKind.max,IntKind.signed,IntKind.bits] at hn
    refine ⟨byt n::l,?_,by simp [h2]⟩
    rw [List.flatten_cons,h1,Zw6 (by omega) (by omega)]
    rfl
end Cod
namespace Cod
open Go
theorem flatsA (a b:List AV):flats (a++b)=(flats a&&flats b):=by
  induction a with
  | nil=>simp [flats]
  | cons x a ih=>simp [flats,ih,Yep]
theorem hardsA (a b:List AV):N3 (a++b)=(N3 a&&N3 b):=by
  induction a with
  | nil=>simp [N3]
  | cons x a ih=>simp [N3,ih,Yep]
theorem Ycr (a b:List AV):leadss (a++b)=(leadss a||leadss b):=by
  induction a with
  | nil=>simp [leadss]
  | cons x a ih=>simp [leadss,ih,Bool.or_assoc]
theorem Z7o (a b:List AV):refsOfs (a++b)=refsOfs a++refsOfs b:=by
  induction a with
  | nil=>simp [refsOfs]
  | cons x a ih=>simp [refsOfs,ih]
theorem rensA (f:Site→Nat→Option (Site × Nat)) (a b:List AV):rens f (a++b)=rens f a++rens f b:=by
  induction a with
  | nil=>simp [rens]
  | cons x a ih=>simp [rens,ih]
section
variable {α:Type} {f : α→List AV} {n:Nat}
theorem Zq5 (hn:∀ a,(f a).length=n) (l:List α):(l.flatMap f).length=n*l.length:=by
  induction l with
  | nil=>simp
  | cons s l ih=>rw [Yfu,Yek,ih,hn,Yd9,Nat.mul_add];omega
theorem Zip (h:∀ a,flats (f a)=true) (l:List α):flats (l.flatMap f)=true:=by
  induction l with
  | nil=>rfl
  | cons s l ih=>rw [Yfu,flatsA,ih,h];rfl
theorem Ziq (h:∀ a,N3 (f a)=true) (l:List α):N3 (l.flatMap f)=true:=by
  induction l with
  | nil=>rfl
  | cons s l ih=>rw [Yfu,hardsA,ih,h];rfl
theorem Zg0 (h:∀ a,leadss (f a)=false) (l:List α):leadss (l.flatMap f)=false:=by
  induction l with
  | nil=>rfl
  | cons s l ih=>rw [Yfu,Ycr,ih,h];rfl
theorem Zj4 (h:∀ a,refsOfs (f a)=[]) (l:List α):refsOfs (l.flatMap f)=[]:=by
  induction l with
  | nil=>rfl
  | cons s l ih=>rw [Yfu,Z7o,ih,h];rfl
theorem Zj5 (g:Site→Nat→Option (Site × Nat)) (h:∀ a,rens g (f a)=f a) (l:List α):rens g (l.flatMap f)=l.flatMap f:=by
  induction l with
  | nil=>rfl
  | cons s l ih=>rw [Yfu,rensA,ih,h]
theorem Zj6 (hn:∀ a,(f a).length=n) (l:List α) (i:Nat):(l.flatMap f).drop (i*n)=(l.drop i).flatMap f:=by
  induction i generalizing l with
  | zero=>simp
  | succ i ih =>
    cases l with
    | nil=>simp
    | cons s l =>
      have h1:(i+1)*n=(f s).length+i*n:=by rw [hn,Nat.add_mul];omega
      rw [Yfu,h1,List.drop_append,Yfv (by omega),List.nil_append,show (f s).length+i*n-(f s).length=i*n by omega,ih]
      rfl
variable [Inhabited α]
theorem Zj7 {l:List α} {i:Nat} (h:i<l.length):l.drop i=l.getD i default::l.drop (i+1):=by
  rw [List.getD_eq_getElem?_getD,List.getElem?_eq_getElem h,Ye1]
  exact Yfw h
theorem Z7p (hn:∀ a,(f a).length=n) {l:List α} {i:Nat} (h:i<l.length):sub (l.flatMap f) (i*n) n=f (l.getD i default):=by
  rw [sub,Zj6 hn,Zj7 h,Yfu,List.take_append_of_le_length (by rw [hn];exact Ydt _),Yej (by rw [hn];exact Ydt _)]
theorem Ycs (hn:∀ a,(f a).length=n) {l:List α} {i j:Nat} (h:i<l.length) (hj:j<n):(l.flatMap f)[i*n+j]? = (f (l.getD i default))[j]? := by
  have h1:(l.flatMap f)[i*n+j]? = ((l.flatMap f).drop (i*n))[j]? := by rw [List.getElem?_drop]
  rw [h1,Zj6 hn,Zj7 h,Yfu,List.getElem?_append_left (by rw [hn];exact hj)]
end
theorem Y4 (l:List (List UInt8)):Z8 l=l.flatMap fun s=>[.str s]:=by
  induction l with
  | nil=>rfl
  | cons s l ih=>rw [Yfu,←ih];rfl
theorem Zbg (l:List (List UInt8)):flats (Z8 l)=true:=by rw [Y4];exact Zip (fun _=>rfl) l
theorem Zbh (l:List (List UInt8)):N3 (Z8 l)=true:=by rw [Y4];exact Ziq (fun _=>rfl) l
theorem Zao (l:List (List UInt8)):leadss (Z8 l)=false:=by rw [Y4];exact Zg0 (fun _=>rfl) l
theorem Y5 (l:List (List UInt8)):refsOfs (Z8 l)=[]:=by rw [Y4];exact Zj4 (fun _=>rfl) l
theorem Zb5 (f:Site→Nat→Option (Site × Nat)) (l:List (List UInt8)):rens f (Z8 l)=Z8 l:=by rw [Y4];exact Zj5 f (fun _=>rfl) l
theorem Zb6 (l:List (List UInt8)) (s:List UInt8):Z8 l++[.str s]=Z8 (l++[s]):=by simp [Z8]
theorem Zdj {l:List (List UInt8)} {i:Nat} (h:i<l.length):(Z8 l)[i]? = some (.str (l.getD i [])):=by simp [Z8,h]
end Cod
namespace Cod
open Go
structure Ety where
  mode:Int
  name:List UInt8
  id:List UInt8
  hid:id.length=32
def Ety.cells (e:Ety):List AV:=.int .i64 e.mode::.str e.name::A1 e.id
theorem Zae (e:Ety):e.cells.length=34:=by simp [Ety.cells,L4,e.hid]
theorem Zge (e:Ety):flats e.cells=true:=by simp [Ety.cells,flats,J6,Zck]
theorem Zq6 (f:Site→Nat→Option (Site × Nat)) (e:Ety):rens f e.cells=e.cells:=rens_flats _ (Zge e)
theorem Zq7 (e:Ety):refsOfs e.cells=[]:=by simp [Ety.cells,refsOfs,U7,Zcn]
theorem Zj8 (e:Ety):N3 e.cells=true:=by simp [Ety.cells,N3,P9,Zcl]
theorem Zj9 (e:Ety):leadss e.cells=false:=by simp [Ety.cells,leadss,O1,Zcm]
theorem Yct (e:Ety):sub e.cells 0 34=e.cells:=Zqr (by rw [Zae];exact Ydt _)
theorem ety_0 (e:Ety):e.cells[0]? = some (.int .i64 e.mode):=rfl
theorem Z7q (e:Ety):e.cells[1]? = some (.str e.name):=rfl
attribute [go_sem] Zae Zge Zq6 Zq7 Zj8 Zj9 Yct ety_0 Z7q
def Zbu (e:Ety):List UInt8:=if e.mode=16384 then e.name++[47] else e.name
theorem Zka:∀ a:List UInt8,Op.bytesLess a a=false:=by
  intro a
  induction a with
  | nil=>rfl
  | cons x a ih=>rw [Op.bytesLess,ih];simp
theorem Zxb {a b:List UInt8}:S E F.M9 [.str a,.str b] []=some (.int .i64 (Zin a b),[]):=by
  have hn (x:List UInt8):S E F.N2 [.str x] []=some (.bool false,[]):=by
    have hb:(x==x)=true:=by simp
    rw [N6 Zm9 rfl rfl]
    simp -dsimp (disch:=first|omega|(simp only [A8]<;>omega)|fail) only [L.N2,go_sem,reduceIte,reduceCtorEq,D1,D2,D3,D4,D5,D6,D7,D8,D9,E2,E3,E4,E5,E6,E7,E8,E9,F0,F1,A5,hb,Yfx]
  rw [N6 Zmz rfl rfl]
  unfold Zin
  by_cases he:a=b
  · subst he
    have hs:(a==a)=true:=by simp
    simp -dsimp (disch:=first|omega|(simp only [A8]<;>omega)|fail) only [L.M9,go_sem,reduceIte,reduceCtorEq,D1,D2,D3,D4,D5,D6,D7,D8,D9,E2,E3,E4,E5,E6,E7,E8,E9,F0,F1,A5,hn,Zka,hs,Yfx]
  · have hs:(a==b)=false:=by simp [he]
    rw [if_neg he]
    cases c1:Op.bytesLess a b<;>simp -dsimp (disch:=first|omega|(simp only [A8]<;>omega)|fail) only [L.M9,go_sem,reduceIte,reduceCtorEq,D1,D2,D3,D4,D5,D6,D7,D8,D9,E2,E3,E4,E5,E6,E7,E8,E9,F0,F1,A5,hn,c1,hs,Yfy]
theorem Zkb {a b:Ety} (ha:a.name.length≤1000000000000) (hb:b.name.length≤1000000000000):S E F.P2 [.agg a.cells,.agg b.cells] []=some (.int .i64 (Zin (Zbu a) (Zbu b)),[]):=by
  rw [N6 Zmk rfl rfl]
  unfold Zbu
  by_cases h1:a.mode=16384
  · by_cases h2:b.mode=16384<;>simp -dsimp (disch:=first|omega|(simp only [A8]<;>omega)|fail) only [L.P2,go_sem,reduceIte,reduceCtorEq,D1,D2,D3,D4,D5,D6,D7,D8,D9,E2,E3,E4,E5,E6,E7,E8,E9,F0,F1,A5,h1,h2,Zxb]
  · by_cases h2:b.mode=16384<;>simp -dsimp (disch:=first|omega|(simp only [A8]<;>omega)|fail) only [L.P2,go_sem,reduceIte,reduceCtorEq,D1,D2,D3,D4,D5,D6,D7,D8,D9,E2,E3,E4,E5,E6,E7,E8,E9,F0,F1,A5,h1,h2,Zxb]
end Cod
namespace Cod
open Go
instance:Inhabited Ety:=⟨0,[],List.replicate 32 0,by simp⟩
def J3 (l:List Ety):List AV:=l.flatMap Ety.cells
def eat (l:List Ety) (i:Nat):Ety:=l.getD i default
theorem A2 (l:List Ety):(J3 l).length=34*l.length:=Zq5 Zae l
theorem Zq8:J3 []=[]:=rfl
theorem Zkc (a:List Ety) (s:Ety):J3 a++s.cells=J3 (a++[s]):=by simp [J3]
theorem Zvh (l:List Ety):flats (J3 l)=true:=Zip Zge l
theorem Zvi (l:List Ety):N3 (J3 l)=true:=Ziq Zj8 l
theorem Zq9 (l:List Ety):leadss (J3 l)=false:=Zg0 Zj9 l
theorem Znw (l:List Ety):refsOfs (J3 l)=[]:=Zj4 Zq7 l
theorem Z1k (f:Site→Nat→Option (Site × Nat)) (l:List Ety):rens f (J3 l)=J3 l:=Zj5 f (Zq6 f) l
theorem Zra {l:List Ety} {i:Nat} (h:i<l.length):sub (J3 l) (i*34) 34=(eat l i).cells:=Z7p Zae h
theorem Zxc {l:List Ety} {i j:Nat} (h:i<l.length) (hj:j<34):(J3 l)[i*34+j]? = (eat l i).cells[j]? := Ycs Zae h hj
theorem ety0z:(AV.int .i64 0::.str []::zer (.int .u8 0) 32)=(default:Ety).cells:=rfl
theorem ety0b:(AV.int .i64 0::.str []::A1 (List.replicate 32 0))=(default:Ety).cells:=rfl
theorem Z7r (a b:Ety):over a.cells 0 b.cells=b.cells:=by
  unfold over;exact Znk (by rw [Zae,Zae])
theorem Z7s (e:Ety):sub e.cells 2 32=A1 e.id:=by
  simp only [sub,Ety.cells,List.drop_succ_cons,Yfc]
  exact Yej (by rw [L4,e.hid];exact Ydt _)
theorem Z7t (e:Ety):e.cells.take 34=e.cells:=Yej (by rw [Zae];exact Ydt _)
attribute [go_sem] A2 Zvh Zvi Zq9 Znw Z1k Zra ety0z ety0b Z7r Z7s Z7t
end Cod
namespace Cod
open Go
def J8 (l:List Int):List AV:=l.map (.int .i64)
theorem A0 (l:List Int):(J8 l).length=l.length:=by simp [J8]
theorem Zeh (n:List UInt8):∀ (ks:List (List UInt8)) (j:Nat),U5 true (.str n) (Z8 ks) j=some (if n∈ks then some (j+ks.idxOf n) else none):=by
  intro ks
  induction ks with
  | nil=>intro j;rfl
  | cons k ks ih =>
    intro j
    show U5 true (.str n) (.str k::Z8 ks) j=_
    unfold U5
    by_cases h:n=k
    · subst h
      simp [Zen]
    · have e:Zen true (.str n) (.str k)=some false:=by simp [Zen,h]
      rw [e]
      simp only
      rw [ih (j+1)]
      by_cases hm:n∈ks
      · have e2:(k::ks).idxOf n=ks.idxOf n+1:=by
          rw [Yfz]
          have:(k==n)=false:=by simp [Ne.symm h]
          rw [this];rfl
        rw [if_pos hm,if_pos (Yex _ hm),e2]
        congr 2;omega
      · rw [if_neg hm,if_neg (by simp [h,hm])]
structure MapOK (seen:List (List UInt8)) (ks:List (List UInt8)) (vs:List Int):Prop where
  len:vs.length=ks.length
  mem:∀ n,n∈ks↔n∈seen
  pos:∀ v∈vs,1≤v∧v≤seen.length
theorem MapOK.nil:MapOK [] [] []:=⟨rfl,fun _=>Iff.rfl,fun v h=>by simp at h⟩
theorem MapOK.old {seen ks:List (List UInt8)} {vs:List Int} (h:MapOK seen ks vs) {n:List UInt8} (hn:n∈ks):∃ v,vs[ks.idxOf n]? = some v∧1≤v∧v≤seen.length∧MapOK (seen++[n]) ks (vs.set (ks.idxOf n) (v+1)):=by
  have hi:ks.idxOf n<vs.length:=by rw [h.len];exact Yf0 hn
  obtain ⟨v,hv⟩:∃ v,vs[ks.idxOf n]? = some v:=⟨_,List.getElem?_eq_getElem hi⟩
  obtain ⟨p1,p2⟩:=h.pos v (List.mem_of_getElem? hv)
  refine ⟨v,hv,p1,p2,⟨by rw [List.length_set];exact h.len,?_,?_⟩⟩
  · intro m
    rw [h.mem,Yf1,Yeb]
    constructor
    · exact .inl
    · rintro (h1|h1)
      · exact h1
      · rw [h1];exact (h.mem n).1 hn
  · intro x hx
    rw [Yek,Yf2]
    rcases List.mem_or_eq_of_mem_set hx with h1|h1
    · have:=h.pos x h1;omega
    · omega
theorem MapOK.new {seen ks:List (List UInt8)} {vs:List Int} (h:MapOK seen ks vs) {n:List UInt8} (hn:n∉ks):MapOK (seen++[n]) (ks++[n]) (vs++[1]):=by
  refine ⟨by simp [h.len],?_,?_⟩
  · intro m
    simp only [Yf1,Yeb,h.mem]
  · intro x hx
    rw [Yek,Yf2]
    rcases List.mem_append.1 hx with h1|h1
    · have:=h.pos x h1;omega
    · rw [List.mem_singleton.1 h1];omega
end Cod
namespace Cod
open Go
def Zir:Nat→Nat→List UInt8→List UInt8
  | 0,_,acc=>acc
  | f+1,u,acc=>if u<8 then byt (48+(u:Int))::acc else Zir f (u/8) (byt (48+(u%8:Nat))::acc)
def K7 (m:Int):List UInt8:=(if m<0 then [45] else [])++Zir 22 m.natAbs []
theorem Z7u:∀ (f u:Nat) (acc:List UInt8),(Zir f u acc).length≤f+acc.length:=by
  intro f
  induction f with
  | zero=>intro u acc;simp [Zir]
  | succ f ih =>
    intro u acc
    unfold Zir
    split
    · simp;omega
    · have:=ih (u/8) (byt (48+(u%8:Nat))::acc)
      simp only [Yd9] at this
      omega
theorem Zdk (m:Int):(K7 m).length≤23:=by
  unfold K7
  have:=Z7u 22 m.natAbs []
  rw [Yek]
  simp only [Ye6] at this
  split<;>simp<;>omega
end Cod
namespace Cod
open Go
set_option maxRecDepth 100000
theorem tz8:S E F.X9 [.int .u64 8] []=some (.int .i64 3,[]):=Zbw.2 ⟨60,by kernel_rfl⟩
theorem pow8:S E F.X8 [.int .i64 8] []=some (.bool true,[]):=Zbw.2 ⟨60,by kernel_rfl⟩
def Z7v:List UInt8:=[48,49,50,51,52,53,54,55,56,57,97,98,99,100,101,102,103,104,105,106,107,108,109,110,111,112,113,114,115,116,117,118,119,120,121,122]
theorem Zrb:∀ u:Nat,u<8→bat Z7v u=48+(u:Int):=by decide
def Zgf (i:Nat) (acc:List UInt8):List UInt8:=List.replicate i 0++acc
theorem T6 (i:Nat) (acc:List UInt8):(Zgf i acc).length=i+acc.length:=by simp [Zgf]
theorem Zdl (i:Nat) (acc:List UInt8) (b:UInt8):(Zgf (i+1) acc).set i b=Zgf i (b::acc):=by
  unfold Zgf
  rw [List.replicate_succ',List.append_assoc,List.set_append_right _ _ (by simp)]
  simp
theorem and7 (u:Nat) (h:u<18446744073709551616):Ztw .u64 (u:Int) 7=((u%8:Nat):Int):=by
  unfold Ztw
  have e:(BitVec.ofInt IntKind.u64.bits (u:Int) &&& BitVec.ofInt IntKind.u64.bits 7).toNat=u%8:=by
    rw [BitVec.toNat_and,Yf3,Yf3]
    show ((u:Int)%18446744073709551616).toNat &&& 7=u%8
    rw [show ((u:Int)%18446744073709551616).toNat=u by omega]
    exact Nat.and_two_pow_sub_one_eq_mod u 3
  rw [e,wrap_u64 (by omega) (by omega)]
theorem shr3 (u:Nat):Zpz .u64 (u:Int) 3=((u/8:Nat):Int):=by
  have:=Zqt (k:=.u64) (a:=(u:Int)) (n:=3) (by decide)
  simp only [Yf4] at this
  rw [this]
  omega
theorem fmt_l0 (k:List It) (b:Bool):∀ (f u i:Nat) (acc:List UInt8),u<8^f→u<18446744073709551616→f≤i→1≤f→i+acc.length=65 →
    ∃ (i' u':Nat) (acc':List UInt8),u' < 8∧1≤i'∧i'+acc'.length=65∧byt (48+(u':Int))::acc'=Zir f u acc∧i+1≤f+i' ∧
    X E [.tmp 10,.tmp 11] (.c L.C2.x0::.lp [0,1,3,4,10,11,12,13,14,15,16] L.C2.x0::.blk 0::k) ⟨[(0,.nils),(1,.int .u64 u),(3,.bool b),(4,.bool false),(10,.buf (.s 1000000 0) 0 0 0 1),(11,.str []),(12,.ref (.s 1000000 1) 0 0),(13,.int .i64 i),(14,.int .u64 3),(15,.int .u64 8),(16,.int .u64 7)],[(.s 1000000 0,⟨0,true,true,false,[]⟩),(.s 1000000 1,⟨0,true,true,true,A1 (Zgf i acc)⟩)]⟩ =
    X E [.tmp 10,.tmp 11] k ⟨[(0,.nils),(1,.int .u64 u'),(3,.bool b),(4,.bool false),(10,.buf (.s 1000000 0) 0 0 0 1),(11,.str []),(12,.ref (.s 1000000 1) 0 0),(13,.int .i64 i'),(14,.int .u64 3),(15,.int .u64 8),(16,.int .u64 7),(46,.bool false)],[(.s 1000000 0,⟨0,true,true,false,[]⟩),(.s 1000000 1,⟨0,true,true,true,A1 (Zgf i' acc')⟩)]⟩:=by
  intro f
  induction f with
  | zero=>intro u i acc hu h64 hi h1;omega
  | succ f ih =>
    intro u i acc hu h64 hi _ hl
    rw [H7 L.C2.x0.eq_1]
    by_cases h8:u<8
    · refine ⟨i,u,acc,h8,by omega,hl,by rw [Zir,if_pos h8],by omega,?_⟩
      simp -dsimp (disch:=first|omega|(simp only [A8,T6]<;>omega)|fail) only [go_sem,reduceIte,reduceCtorEq,D1,D2,D3,D4,D5,D6,D7,D8,D9,E2,E3,E4,E5,E6,E7,E8,E9,F0,F1,A5,BYs,h8]
    · have hf:1≤f:=by
        rcases Nat.eq_zero_or_pos f with rfl|h
        · simp at hu;omega
        · exact h
      obtain ⟨j,rfl⟩:∃ j,i=j+1:=⟨i-1,by omega⟩
      have hmod:=Zrb (u%8) (by omega)
      obtain ⟨i',u',acc',q1,q2,q3,q4,q5,q6⟩:=ih (u/8) j (byt (48+(u%8:Nat))::acc) (by rw [Nat.pow_succ] at hu;omega) (by omega) (by omega) hf (by rw [Yd9];omega)
      refine ⟨i',u',acc',q1,q2,q3,by rw [Zir,if_neg h8];exact q4,by omega,?_⟩
      rw [←q6]
      have e1:((j+1:Nat):Int)-1=j:=by omega
      have e2:Ztw .u64 (u:Int) 7=((u%8:Nat):Int):=and7 u h64
      have e3:Zpz .u64 (u:Int) 3=((u/8:Nat):Int):=shr3 u
      unfold Z7v at hmod
      have e4:UInt8.ofNat (48+((u%8:Nat):Int)).toNat=byt (48+((u%8:Nat):Int)):=rfl
      simp -dsimp (disch:=first|omega|(simp only [A8,T6]<;>omega)|fail) only [go_sem,reduceIte,reduceCtorEq,D1,D2,D3,D4,D5,D6,D7,D8,D9,E2,E3,E4,E5,E6,E7,E8,E9,F0,F1,A5,BYs,h8,e1,e2,e3,T5,hmod,e4,Zdl]
theorem Zkd (i:Nat) (acc:List UInt8):sub (Zgf i acc) i acc.length=acc:=by
  unfold Zgf sub
  rw [List.drop_left' (by simp),List.take_length]
theorem Zis {u:Nat} {b:Bool} (h64:u≤9223372036854775808):S E F.C2 [.nils,.int .u64 (if b then (if u=0 then 0 else 18446744073709551616-(u:Int)) else u),.int .i64 8,.bool b,.bool false] []=some (.tup [.buf (.r 0) 0 0 0 1,.str ((if b then [45] else [])++Zir 22 u [])],[(.r 0,⟨0,true,true,false,[]⟩)]):=by
  have h22:(8:Nat)^22=73786976294838206464:=by decide
  obtain ⟨i',u',acc',q1,q2,q3,q4,q5,q6⟩:=fmt_l0 [.c L.C2.r0,.c L.C2.r2] b 22 u 65 [] (by omega) (by omega) (by omega) (by omega) rfl
  obtain ⟨j,rfl⟩:∃ j,i'=j+1:=⟨i' - 1,by omega⟩
  have hmod:=Zrb u' q1
  unfold Z7v at hmod
  have e1:((j+1:Nat):Int)-1=j:=by omega
  have e4:UInt8.ofNat (48+(u':Int)).toNat=byt (48+(u':Int)):=rfl
  have e5:Zgf 65 []=List.replicate 65 0:=by simp [Zgf]
  rw [e5] at q6
  simp only [Yf4] at q6
  have hs1:sub (Zgf j (byt (48+(u':Int))::acc')) j (65-j)=Zir 22 u []:=by
    rw [←q4,show 65-j=(byt (48+(u':Int))::acc').length by rw [Yd9];omega]
    exact Zkd j _
  rw [N6 Zm0 rfl rfl]
  cases b with
  | false =>
    simp -dsimp (disch:=first|omega|(simp only [A8,T6]<;>omega)|fail) only [L.C2,go_sem,reduceIte,reduceCtorEq,D1,D2,D3,D4,D5,D6,D7,D8,D9,E2,E3,E4,E5,E6,E7,E8,E9,F0,F1,A5,BYs,tz8,pow8]
    rw [q6]
    simp -dsimp (disch:=first|omega|(simp only [A8,T6]<;>omega)|fail) only [L.C2.r0,go_sem,reduceIte,reduceCtorEq,D1,D2,D3,D4,D5,D6,D7,D8,D9,E2,E3,E4,E5,E6,E7,E8,E9,F0,F1,A5,BYs,e1,hmod,e4,Zdl,T5]
    simp -dsimp (disch:=first|omega|(simp only [A8,T6]<;>omega)|fail) only [L.C2.r2,go_sem,reduceIte,reduceCtorEq,D1,D2,D3,D4,D5,D6,D7,D8,D9,E2,E3,E4,E5,E6,E7,E8,E9,F0,F1,A5,BYs,e1,hmod,e4,Zdl,T5,hs1]
  | true =>
    have e6:IntKind.u64.wrap (0-(if u=0 then 0 else 18446744073709551616-(u:Int)))=u:=by
      simp only [IntKind.wrap,IntKind.signed,IntKind.bits]
      split<;>simp<;>omega
    simp -dsimp (disch:=first|omega|(simp only [A8,T6]<;>omega)|fail) only [L.C2,go_sem,reduceIte,reduceCtorEq,D1,D2,D3,D4,D5,D6,D7,D8,D9,E2,E3,E4,E5,E6,E7,E8,E9,F0,F1,A5,BYs,tz8,pow8,e6]
    rw [q6]
    obtain ⟨m,rfl⟩:∃ m,j=m+1:=⟨j-1,by omega⟩
    have e7:((m+1:Nat):Int)-1=m:=by omega
    have hs2:sub (Zgf m (45::byt (48+(u':Int))::acc')) m (65-m)=45::Zir 22 u []:=by
      rw [←q4,show 65-m=(45::byt (48+(u':Int))::acc').length by rw [Yd9,Yd9];omega]
      exact Zkd m _
    have e8:UInt8.ofNat 45=45:=rfl
    simp -dsimp (disch:=first|omega|(simp only [A8,T6]<;>omega)|fail) only [L.C2.r0,go_sem,reduceIte,reduceCtorEq,D1,D2,D3,D4,D5,D6,D7,D8,D9,E2,E3,E4,E5,E6,E7,E8,E9,F0,F1,A5,BYs,e1,hmod,e4,Zdl,T5]
    simp -dsimp (disch:=first|omega|(simp only [A8,T6]<;>omega)|fail) only [L.C2.r2,go_sem,reduceIte,reduceCtorEq,D1,D2,D3,D4,D5,D6,D7,D8,D9,E2,E3,E4,E5,E6,E7,E8,E9,F0,F1,A5,BYs,e7,e8,Zdl,T5,hs2]
theorem Zei {m:Int} (h0 : -9223372036854775808≤m) (h1:m≤9223372036854775807):S E F.M6 [.int .i64 m,.int .i64 8] []=some (.str (K7 m),[]):=by
  have hb:S E F.M7 [.int .i64 m,.int .i64 8] []=some (.str (K7 m),[]):=by
    rw [N6 Zml rfl rfl]
    unfold K7
    by_cases hn:m<0
    · have h2:=Zis (u:=m.natAbs) (b:=true) (by omega)
      rw [if_pos rfl,if_neg (by omega),if_pos rfl] at h2
      have e:IntKind.u64.wrap m=18446744073709551616-((m.natAbs:Nat):Int):=by
        simp only [IntKind.wrap,IntKind.signed,IntKind.bits];simp;omega
      rw [if_pos hn]
      simp -dsimp (disch:=first|omega|(simp only [A8,T6]<;>omega)|fail) only [L.M7,go_sem,reduceIte,reduceCtorEq,D1,D2,D3,D4,D5,D6,D7,D8,D9,E2,E3,E4,E5,E6,E7,E8,E9,F0,F1,A5,BYs,hn,e,h2]
    · have h2:=Zis (u:=m.natAbs) (b:=false) (by omega)
      rw [if_neg (by simp),if_neg (by simp)] at h2
      have e:IntKind.u64.wrap m=((m.natAbs:Nat):Int):=by
        simp only [IntKind.wrap,IntKind.signed,IntKind.bits];simp;omega
      rw [if_neg hn]
      simp -dsimp (disch:=first|omega|(simp only [A8,T6]<;>omega)|fail) only [L.M7,go_sem,reduceIte,reduceCtorEq,D1,D2,D3,D4,D5,D6,D7,D8,D9,E2,E3,E4,E5,E6,E7,E8,E9,F0,F1,A5,BYs,hn,e,h2]
  rw [N6 Zl4 rfl rfl]
  simp -dsimp (disch:=first|omega|(simp only [A8,T6]<;>omega)|fail) only [L.M6,go_sem,reduceIte,reduceCtorEq,D1,D2,D3,D4,D5,D6,D7,D8,D9,E2,E3,E4,E5,E6,E7,E8,E9,F0,F1,A5,hb]
end Cod
namespace Cod
open Go
set_option maxRecDepth 100000
theorem T7 (r v:Int) (h:(r=46∧v=46)∨(r=103∧v=71)∨(r=71∧v=103)∨(r=105∧v=73)∨(r=73∧v=105)∨(r=116∧v=84)∨(r=84∧v=116)):S E0 F.L6 [.int .i32 r] []=some (.int .i32 v,[]):=by
  rcases h with ⟨rfl,rfl⟩|⟨rfl,rfl⟩|⟨rfl,rfl⟩|⟨rfl,rfl⟩|⟨rfl,rfl⟩|⟨rfl,rfl⟩|⟨rfl,rfl⟩<;>exact Zbw.2 ⟨60,by kernel_rfl⟩
theorem Za7 {b:UInt8} {l:List UInt8} (h:b<128):S E0 F.I5 [.str (b::l)] []=some (.tup [.int .i32 b.toNat,.int .i64 1],[]):=by
  have hb:b.toNat<128:=h
  rw [Zcu Zm8 rfl rfl]
  have h1:((b::l:List UInt8) == [])=false:=rfl
  have h2:((b.toNat:Int)<128):=by omega
  have h3:IntKind.i32.wrap (b.toNat:Int)=b.toNat:=by
    simp only [IntKind.wrap,IntKind.signed,IntKind.bits];simp;omega
  simp -dsimp (disch:=first|omega|(simp only [A8]<;>omega)|fail) only [L.I5,go_sem,reduceIte,reduceCtorEq,D1,D2,D3,D4,D5,D6,D7,D8,D9,E2,E3,E4,E5,E6,E7,E8,E9,F0,F1,A5,h1,h2,h3,bat,List.getD_cons_zero]
def Zej:LCode:=match L.A4.r0 with|.seq _ (.seq _ r)=>r|_=>.skip
theorem Zvj {l:List UInt8} {i:Nat} (h:i<l.length):((⟨l.toArray⟩:ByteArray).get! i).toNat=(l.getD i 0).toNat:=by
  simp [ByteArray.get!,h,List.getD]
theorem Z7w {l:List UInt8} {i:Nat} (h:i<l.length) (hb:128≤bat l i):128≤(Zaf l i).1:=by
  have hg:((⟨l.toArray⟩:ByteArray).get! (i+0)).toNat=(l.getD i 0).toNat:=Zvj h
  unfold bat at hb
  unfold Zaf Utf8.decode Utf8.runeError
  simp only [hg]
  repeat' split
  all_goals (try simp only [ge_iff_le,Yd8,decide_eq_true_eq] at *)
  all_goals omega
theorem Ycu:∀ t ∈ [46,103,105,116],∀ n:Nat,n<256→(decide ((128:Int)≤ior .u8 n t))=decide (128≤n):=by decide +kernel
theorem ef_uni {SC:LCode} {s:List UInt8} (hs:s.length=4) (i:Nat) (hi:i<4) (hb:128≤bat s i) (v6 v21 v7 v8 v33:AV) :
    X E0 [.tmp 4] [.c Zej,.scp SC] ⟨[(0,.str s),(1,.str [46,103,105,116]),(5,.int .i64 i),(6,v6),(21,v21),(7,v7),(8,v8),(33,v33)],[]⟩=some (.bool false,[]):=by
  have hd:0<(s.drop i).length:=by rw [List.length_drop];omega
  have hb':128≤bat (s.drop i) 0:=by simpa [bat] using hb
  have hr:=Z7w hd hb'
  generalize he:Zaf (s.drop i) 0=q at hr
  obtain ⟨r,wd⟩:=q
  have:i=0∨i=1∨i=2∨i=3:=by omega
  have hrz:(128:Int)≤r:=by simp only at hr;omega
  have d46:S E0 F.I5 [.str [46,103,105,116]] []=some (.tup [.int .i32 46,.int .i64 1],[]):=Za7 (by decide)
  have d103:S E0 F.I5 [.str [103,105,116]] []=some (.tup [.int .i32 103,.int .i64 1],[]):=Za7 (by decide)
  have d105:S E0 F.I5 [.str [105,116]] []=some (.tup [.int .i32 105,.int .i64 1],[]):=Za7 (by decide)
  have d116:S E0 F.I5 [.str [116]] []=some (.tup [.int .i32 116,.int .i64 1],[]):=Za7 (by decide)
  have f46:=T7 46 46 (by simp)
  have f103:=T7 103 71 (by simp)
  have f71:=T7 71 103 (by simp)
  have f105:=T7 105 73 (by simp)
  have f73:=T7 73 105 (by simp)
  have f116:=T7 116 84 (by simp)
  have f84:=T7 84 116 (by simp)
  rcases this with rfl|rfl|rfl|rfl
  · simp -dsimp (disch:=first|omega|(simp only [A8]<;>omega)|fail) only [Zej,L.A4.r0,go_sem,reduceIte,reduceCtorEq,D1,D2,D3,D4,D5,D6,D7,D8,D9,E2,E3,E4,E5,E6,E7,E8,E9,F0,F1,A5,B8,B7,B5]
    simp only [Yfc] at hd he
    rw [H7 L.A4.x1.eq_1]
    simp -dsimp (disch:=first|omega|(simp only [A8]<;>omega)|fail) only [go_sem,reduceIte,reduceCtorEq,D1,D2,D3,D4,D5,D6,D7,D8,D9,E2,E3,E4,E5,E6,E7,E8,E9,F0,F1,A5,B8,B7,B5,hd,he,d46,f46]
    rw [H7 L.A4.x2.eq_1]
    simp -dsimp (disch:=first|omega|(simp only [A8]<;>omega)|fail) only [go_sem,reduceIte,reduceCtorEq,D1,D2,D3,D4,D5,D6,D7,D8,D9,E2,E3,E4,E5,E6,E7,E8,E9,F0,F1,A5,B8,B7,B5,f46,L.A4.r1]
  · simp -dsimp (disch:=first|omega|(simp only [A8]<;>omega)|fail) only [Zej,L.A4.r0,go_sem,reduceIte,reduceCtorEq,D1,D2,D3,D4,D5,D6,D7,D8,D9,E2,E3,E4,E5,E6,E7,E8,E9,F0,F1,A5,B8,B7,B5]
    rw [H7 L.A4.x1.eq_1]
    simp -dsimp (disch:=first|omega|(simp only [A8]<;>omega)|fail) only [go_sem,reduceIte,reduceCtorEq,D1,D2,D3,D4,D5,D6,D7,D8,D9,E2,E3,E4,E5,E6,E7,E8,E9,F0,F1,A5,B8,B7,B5,hd,he,d103,f103]
    rw [H7 L.A4.x2.eq_1]
    simp -dsimp (disch:=first|omega|(simp only [A8]<;>omega)|fail) only [go_sem,reduceIte,reduceCtorEq,D1,D2,D3,D4,D5,D6,D7,D8,D9,E2,E3,E4,E5,E6,E7,E8,E9,F0,F1,A5,B8,B7,B5,f71,L.A4.r1]
    rw [H7 L.A4.x2.eq_1]
    simp -dsimp (disch:=first|omega|(simp only [A8]<;>omega)|fail) only [go_sem,reduceIte,reduceCtorEq,D1,D2,D3,D4,D5,D6,D7,D8,D9,E2,E3,E4,E5,E6,E7,E8,E9,F0,F1,A5,B8,B7,B5,f71,L.A4.r1]
  · simp -dsimp (disch:=first|omega|(simp only [A8]<;>omega)|fail) only [Zej,L.A4.r0,go_sem,reduceIte,reduceCtorEq,D1,D2,D3,D4,D5,D6,D7,D8,D9,E2,E3,E4,E5,E6,E7,E8,E9,F0,F1,A5,B8,B7,B5]
    rw [H7 L.A4.x1.eq_1]
    simp -dsimp (disch:=first|omega|(simp only [A8]<;>omega)|fail) only [go_sem,reduceIte,reduceCtorEq,D1,D2,D3,D4,D5,D6,D7,D8,D9,E2,E3,E4,E5,E6,E7,E8,E9,F0,F1,A5,B8,B7,B5,hd,he,d105,f105]
    rw [H7 L.A4.x2.eq_1]
    simp -dsimp (disch:=first|omega|(simp only [A8]<;>omega)|fail) only [go_sem,reduceIte,reduceCtorEq,D1,D2,D3,D4,D5,D6,D7,D8,D9,E2,E3,E4,E5,E6,E7,E8,E9,F0,F1,A5,B8,B7,B5,f73,L.A4.r1]
    rw [H7 L.A4.x2.eq_1]
    simp -dsimp (disch:=first|omega|(simp only [A8]<;>omega)|fail) only [go_sem,reduceIte,reduceCtorEq,D1,D2,D3,D4,D5,D6,D7,D8,D9,E2,E3,E4,E5,E6,E7,E8,E9,F0,F1,A5,B8,B7,B5,f73,L.A4.r1]
  · simp -dsimp (disch:=first|omega|(simp only [A8]<;>omega)|fail) only [Zej,L.A4.r0,go_sem,reduceIte,reduceCtorEq,D1,D2,D3,D4,D5,D6,D7,D8,D9,E2,E3,E4,E5,E6,E7,E8,E9,F0,F1,A5,B8,B7,B5]
    rw [H7 L.A4.x1.eq_1]
    simp -dsimp (disch:=first|omega|(simp only [A8]<;>omega)|fail) only [go_sem,reduceIte,reduceCtorEq,D1,D2,D3,D4,D5,D6,D7,D8,D9,E2,E3,E4,E5,E6,E7,E8,E9,F0,F1,A5,B8,B7,B5,hd,he,d116,f116]
    rw [H7 L.A4.x2.eq_1]
    simp -dsimp (disch:=first|omega|(simp only [A8]<;>omega)|fail) only [go_sem,reduceIte,reduceCtorEq,D1,D2,D3,D4,D5,D6,D7,D8,D9,E2,E3,E4,E5,E6,E7,E8,E9,F0,F1,A5,B8,B7,B5,f84,L.A4.r1]
    rw [H7 L.A4.x2.eq_1]
    simp -dsimp (disch:=first|omega|(simp only [A8]<;>omega)|fail) only [go_sem,reduceIte,reduceCtorEq,D1,D2,D3,D4,D5,D6,D7,D8,D9,E2,E3,E4,E5,E6,E7,E8,E9,F0,F1,A5,B8,B7,B5,f84,L.A4.r1]
def V0 (b t:Int):Bool:=b==t||(decide (b<t)&&(decide (65≤b)&&(decide (b≤90)&&(t==b+32))))
theorem Zxd {SC:LCode} (hSC:N4 SC 0=some (.seq .skip Zej)) {s:List UInt8} (hs:s.length=4) (i:Nat) (t:Int) (hi:(i=0∧t=46)∨(i=1∧t=103)∨(i=2∧t=105)∨(i=3∧t=116)) :
    X E0 [.tmp 4] (.c L.A4.x0::.lp [0,1,5,6] L.A4.x0::.blk 0::.c L.A4.r0::.scp SC::[]) ⟨[(0,.str s),(1,.str [46,103,105,116]),(5,.int .i64 i),(6,.int .i64 4)],[]⟩ =
    if bat s i<128∧V0 (bat s i) t=true then X E0 [.tmp 4] (.c L.A4.x0::.lp [0,1,5,6] L.A4.x0::.blk 0::.c L.A4.r0::.scp SC::[]) ⟨[(0,.str s),(1,.str [46,103,105,116]),(5,.int .i64 (i+1:Int)),(6,.int .i64 4)],[]⟩ else some (.bool false,[]):=by
  obtain ⟨h0,h1⟩:=Z9 s i
  have hor:=Ycu t (by rcases hi with ⟨_,rfl⟩|⟨_,rfl⟩|⟨_,rfl⟩|⟨_,rfl⟩<;>simp) (bat s i).toNat (by omega)
  rw [show (((bat s i).toNat:Nat):Int)=bat s i by omega] at hor
  have hti:bat [46,103,105,116] i=t:=by rcases hi with ⟨rfl,rfl⟩|⟨rfl,rfl⟩|⟨rfl,rfl⟩|⟨rfl,rfl⟩<;>rfl
  have hi4:i<4:=by omega
  have htr:46≤t∧t≤116:=by omega
  have hil:i < [46,103,105,(116:UInt8)].length:=by simpa using hi4
  rw [H7 L.A4.x0.eq_1]
  by_cases hb:bat s i<128
  · have hd:decide (128≤(bat s i).toNat)=false:=by simp;omega
    rw [hd] at hor
    generalize hx:bat s i=x at *
    by_cases e1:x=t
    · rw [if_pos ⟨hb,by simp [V0,e1]⟩]
      have e9:(t==x)=true:=Zj0 e1.symm
      simp -dsimp (disch:=first|omega|(simp only [A8]<;>omega)|fail) only [go_sem,reduceIte,reduceCtorEq,D1,D2,D3,D4,D5,D6,D7,D8,D9,E2,E3,E4,E5,E6,E7,E8,E9,F0,F1,A5,B8,B7,B5,hx,hti,hor,e9]
    · have e2:(x==t)=false:=Zfk e1
      have e2':(t==x)=false:=Zfk (fun h=>e1 h.symm)
      by_cases e3:x<t
      · have e4:¬ t<x:=by omega
        by_cases e5:65≤x
        · by_cases e6:x≤90
          · have w1:IntKind.u8.wrap (x+97)=x+97:=by rw [Zd1];omega
            have w2:IntKind.u8.wrap (x+97-65)=x+32:=by rw [Zd1];omega
            by_cases e7:t=x+32
            · rw [if_pos ⟨hb,by simp only [V0,e2,K9 e3,K9 e5,K9 e6,Zj0 e7,Yf5,Yes,Yf6]⟩]
              have e8:(t==x+32)=true:=Zj0 e7
              simp -dsimp (disch:=first|omega|(simp only [A8]<;>omega)|fail) only [go_sem,reduceIte,reduceCtorEq,D1,D2,D3,D4,D5,D6,D7,D8,D9,E2,E3,E4,E5,E6,E7,E8,E9,F0,F1,A5,B8,B7,B5,hx,hti,hor,e2',e4,e5,e6,w1,w2,e8]
            · rw [if_neg (by simp only [V0,e2,K9 e3,K9 e5,K9 e6,Zfk e7,Yf5,Yes,Yf6];simp)]
              have e8:(t==x+32)=false:=Zfk e7
              simp -dsimp (disch:=first|omega|(simp only [A8]<;>omega)|fail) only [go_sem,reduceIte,reduceCtorEq,D1,D2,D3,D4,D5,D6,D7,D8,D9,E2,E3,E4,E5,E6,E7,E8,E9,F0,F1,A5,B8,B7,B5,hx,hti,hor,e2',e4,e5,e6,w1,w2,e8]
          · rw [if_neg (by simp only [V0,e2,K9 e3,K9 e5,Z0 e6,Yf5,Yf7,Yf6];simp)]
            simp -dsimp (disch:=first|omega|(simp only [A8]<;>omega)|fail) only [go_sem,reduceIte,reduceCtorEq,D1,D2,D3,D4,D5,D6,D7,D8,D9,E2,E3,E4,E5,E6,E7,E8,E9,F0,F1,A5,B8,B7,B5,hx,hti,hor,e2',e4,e5,e6]
        · rw [if_neg (by simp only [V0,e2,K9 e3,Z0 e5,Yf5,Yf7,Yf6];simp)]
          simp -dsimp (disch:=first|omega|(simp only [A8]<;>omega)|fail) only [go_sem,reduceIte,reduceCtorEq,D1,D2,D3,D4,D5,D6,D7,D8,D9,E2,E3,E4,E5,E6,E7,E8,E9,F0,F1,A5,B8,B7,B5,hx,hti,hor,e2',e4,e5]
      · have e4:t<x:=by omega
        rw [if_neg (by simp only [V0,e2,Z0 e3,Yf7,Yf6];simp)]
        by_cases e5:65≤t
        · have e6:¬ t≤90:=by omega
          simp -dsimp (disch:=first|omega|(simp only [A8]<;>omega)|fail) only [go_sem,reduceIte,reduceCtorEq,D1,D2,D3,D4,D5,D6,D7,D8,D9,E2,E3,E4,E5,E6,E7,E8,E9,F0,F1,A5,B8,B7,B5,hx,hti,hor,e2',e4,e5,e6]
        · simp -dsimp (disch:=first|omega|(simp only [A8]<;>omega)|fail) only [go_sem,reduceIte,reduceCtorEq,D1,D2,D3,D4,D5,D6,D7,D8,D9,E2,E3,E4,E5,E6,E7,E8,E9,F0,F1,A5,B8,B7,B5,hx,hti,hor,e2',e4,e5]
  · have hd:decide (128≤(bat s i).toNat)=true:=by simp;omega
    rw [hd] at hor
    rw [if_neg (fun h=>hb h.1)]
    simp -dsimp (disch:=first|omega|(simp only [A8]<;>omega)|fail) only [go_sem,reduceIte,reduceCtorEq,D1,D2,D3,D4,D5,D6,D7,D8,D9,E2,E3,E4,E5,E6,E7,E8,E9,F0,F1,A5,B8,B7,B5,hti,hor,hSC]
    exact ef_uni hs i hi4 (by omega) _ _ _ _ _
def Zrc (s:List UInt8):Bool:=decide (bat s 0<128∧V0 (bat s 0) 46=true)&&(decide (bat s 1<128∧V0 (bat s 1) 103=true)&&(decide (bat s 2<128∧V0 (bat s 2) 105=true)&&decide (bat s 3<128∧V0 (bat s 3) 116=true)))
theorem Ycv {s:List UInt8} (hs:s.length=4):S E0 F.A4 [.str s,.str [46,103,105,116]] []=some (.bool (Zrc s),[]):=by
  rw [Zcu Zmy rfl rfl]
  have l4:((s.length:Int))=4:=by omega
  simp -dsimp (disch:=first|omega|(simp only [A8]<;>omega)|fail) only [L.A4,go_sem,reduceIte,reduceCtorEq,D1,D2,D3,D4,D5,D6,D7,D8,D9,E2,E3,E4,E5,E6,E7,E8,E9,F0,F1,A5,hs]
  generalize hSC:LCode.seq _ _=SC
  have hf:N4 SC 0=some (.seq .skip Zej):=by subst hSC;rfl
  have i0:=Zxd hf hs 0 46 (by simp)
  have i1:=Zxd hf hs 1 103 (by simp)
  have i2:=Zxd hf hs 2 105 (by simp)
  have i3:=Zxd hf hs 3 116 (by simp)
  have i4:X E0 [.tmp 4] (.c L.A4.x0::.lp [0,1,5,6] L.A4.x0::.blk 0::.c L.A4.r0::.scp SC::[]) ⟨[(0,.str s),(1,.str [46,103,105,116]),(5,.int .i64 4),(6,.int .i64 4)],[]⟩=some (.bool true,[]):=by
    rw [H7 L.A4.x0.eq_1]
    simp -dsimp (disch:=first|omega|(simp only [A8]<;>omega)|fail) only [go_sem,reduceIte,reduceCtorEq,D1,D2,D3,D4,D5,D6,D7,D8,D9,E2,E3,E4,E5,E6,E7,E8,E9,F0,F1,A5,L.A4.r0,hs]
  simp only [show ((0:Nat):Int)=0 from rfl,show ((1:Nat):Int)=1 from rfl,show ((2:Nat):Int)=2 from rfl,show ((3:Nat):Int)=3 from rfl,show (0:Int)+1=1 from rfl,show (1:Int)+1=2 from rfl,show (2:Int)+1=3 from rfl,show (3:Int)+1=4 from rfl] at i0 i1 i2 i3
  rw [show (if ((4:Nat):Int)<((4:Nat):Int) then ((4:Nat):Int) else ((4:Nat):Int))=4 from rfl,i0]
  by_cases c0:bat s 0<128∧V0 (bat s 0) 46=true
  · rw [if_pos c0,i1]
    by_cases c1:bat s 1<128∧V0 (bat s 1) 103=true
    · rw [if_pos c1,i2]
      by_cases c2:bat s 2<128∧V0 (bat s 2) 105=true
      · rw [if_pos c2,i3]
        by_cases c3:bat s 3<128∧V0 (bat s 3) 116=true
        · rw [if_pos c3,i4];simp only [Zrc,K9 c0,K9 c1,K9 c2,K9 c3];rfl
        · rw [if_neg c3];simp only [Zrc,K9 c0,K9 c1,K9 c2,Z0 c3];rfl
      · rw [if_neg c2];simp only [Zrc,K9 c0,K9 c1,Z0 c2];rfl
    · rw [if_neg c1];simp only [Zrc,K9 c0,Z0 c1];rfl
  · rw [if_neg c0];simp only [Zrc,Z0 c0];rfl
theorem Zrd:∀ n:Nat,n<256→∀ t ∈ [(46:UInt8),103,105,116],decide ((n:Int)<128∧V0 n t.toNat=true)=(Zcs (UInt8.ofNat n)==t):=by decide +kernel
theorem Zxe {s:List UInt8} (hs:s.length=4):Zrc s=Zct s:=by
  match s,hs with
  | [a,b,c,d],_ =>
    have key:∀ (x:UInt8) (t:UInt8),t ∈ [(46:UInt8),103,105,116]→decide ((x.toNat:Int)<128∧V0 x.toNat t.toNat=true)=(Zcs x==t):=fun x t ht=>by
      have:=Zrd x.toNat x.toNat_lt t ht
      rwa [UInt8.ofNat_toNat] at this
    have h0:=key a 46 (by simp)
    have h1:=key b 103 (by simp)
    have h2:=key c 105 (by simp)
    have h3:=key d 116 (by simp)
    have e0:(Zcs a==46)=(a==46):=by
      have:∀ n:Nat,n<256→(Zcs (UInt8.ofNat n)==46)=(UInt8.ofNat n==46):=by decide +kernel
      have:=this a.toNat a.toNat_lt
      rwa [UInt8.ofNat_toNat] at this
    show (decide ((a.toNat:Int)<128∧V0 a.toNat (46:UInt8).toNat=true)&&(decide ((b.toNat:Int)<128∧V0 b.toNat (103:UInt8).toNat=true)&&(decide ((c.toNat:Int)<128∧V0 c.toNat (105:UInt8).toNat=true)&&decide ((d.toNat:Int)<128∧V0 d.toNat (116:UInt8).toNat=true))))=_
    rw [h0,h1,h2,h3,e0]
    simp only [Zct,Yep]
end Cod
namespace Cod
open Go
set_option maxRecDepth 100000
def Zi6 (b0 a1 a2 a3:Nat) (c1 c2 c3:Bool):Nat × Nat :=
  if b0<0x80 then (b0,1)
  else if b0/32==6&&c1 then (if b0%32*64+a1%64 ≥ 0x80 then (b0%32*64+a1%64,2) else (65533,1))
  else if b0/16==14&&c1&&c2 then
    (if b0%16*4096+a1%64*64+a2%64 ≥ 0x800&&Utf8.valid ((b0%16*4096+a1%64*64+a2%64:Nat):Int) then (b0%16*4096+a1%64*64+a2%64,3) else (65533,1))
  else if b0/8==30&&c1&&c2&&c3 then
    (if b0%8*262144+a1%64*4096+a2%64*64+a3%64 ≥ 0x10000&&Utf8.valid ((b0%8*262144+a1%64*4096+a2%64*64+a3%64:Nat):Int) then (b0%8*262144+a1%64*4096+a2%64*64+a3%64,4) else (65533,1))
  else (65533,1)
theorem Z7x {b0 a1 a2 a3:Nat} {c1 c2 c3:Bool} (h:b0<128):Zi6 b0 a1 a2 a3 c1 c2 c3=(b0,1):=by unfold Zi6;rw [if_pos h]
theorem Z1l {b0 a1 a2 a3:Nat} {c1 c2 c3:Bool} (h:128≤b0) (h2:b0<256):128≤(Zi6 b0 a1 a2 a3 c1 c2 c3).1∧(Zi6 b0 a1 a2 a3 c1 c2 c3).1≤1114111 ∧
    ((Zi6 b0 a1 a2 a3 c1 c2 c3).2=1∨((Zi6 b0 a1 a2 a3 c1 c2 c3).2=2∧c1=true)∨((Zi6 b0 a1 a2 a3 c1 c2 c3).2=3∧c1=true∧c2=true)∨((Zi6 b0 a1 a2 a3 c1 c2 c3).2=4∧c1=true∧c2=true∧c3=true)):=by
  unfold Zi6
  rw [if_neg (by omega)]
  split
  · rename_i h3
    simp only [Yd8] at h3
    split
    · exact ⟨by assumption,by omega,.inr (.inl ⟨rfl,h3.2⟩)⟩
    · exact ⟨by omega,by omega,.inl rfl⟩
  · split
    · rename_i h3
      simp only [Yd8] at h3
      split
      · rename_i h4
        simp only [Yd8,decide_eq_true_eq] at h4
        exact ⟨by omega,by omega,.inr (.inr (.inl ⟨rfl,h3.1.2,h3.2⟩))⟩
      · exact ⟨by omega,by omega,.inl rfl⟩
    · split
      · rename_i h3
        simp only [Yd8] at h3
        split
        · rename_i h4
          simp only [Yd8,decide_eq_true_eq,Utf8.valid,Bool.or_eq_true] at h4
          exact ⟨by omega,by omega,.inr (.inr (.inr ⟨rfl,h3.1.1.2,h3.1.2,h3.2⟩))⟩
        · exact ⟨by omega,by omega,.inl rfl⟩
      · exact ⟨by omega,by omega,.inl rfl⟩
theorem Z1m {l:List UInt8} {p:Nat} (h:p<l.length) :
    (bat l p<128∧(((Zaf l p).1:Nat):Int)=bat l p∧(Zaf l p).2=1) ∨
    (128≤bat l p∧128≤(Zaf l p).1∧(Zaf l p).1≤1114111∧1≤(Zaf l p).2∧∀ j,p≤j→j<p+(Zaf l p).2→j<l.length∧128≤bat l j):=by
  have hs:(⟨l.toArray⟩:ByteArray).size=l.length:=by simp [ByteArray.size]
  have h0:((⟨l.toArray⟩:ByteArray).get! (p+0)).toNat=(l.getD p 0).toNat:=Zvj h
  have hc:∀ k,(decide (p+k<(⟨l.toArray⟩:ByteArray).size)&&((⟨l.toArray⟩:ByteArray).get! (p+k)).toNat/64==2)=true→p+k<l.length∧128≤bat l (p+k):=by
    intro k hk
    simp only [Yd8,decide_eq_true_eq,beq_iff_eq,hs] at hk
    refine ⟨hk.1,?_⟩
    have:=Zvj hk.1
    unfold bat
    omega
  have e:Zaf l p=Zi6 ((⟨l.toArray⟩:ByteArray).get! (p+0)).toNat ((⟨l.toArray⟩:ByteArray).get! (p+1)).toNat ((⟨l.toArray⟩:ByteArray).get! (p+2)).toNat ((⟨l.toArray⟩:ByteArray).get! (p+3)).toNat
    (decide (p+1<(⟨l.toArray⟩:ByteArray).size)&&((⟨l.toArray⟩:ByteArray).get! (p+1)).toNat/64==2) (decide (p+2<(⟨l.toArray⟩:ByteArray).size)&&((⟨l.toArray⟩:ByteArray).get! (p+2)).toNat/64==2)
    (decide (p+3<(⟨l.toArray⟩:ByteArray).size)&&((⟨l.toArray⟩:ByteArray).get! (p+3)).toNat/64==2):=rfl
  have k1:=hc 1
  have k2:=hc 2
  have k3:=hc 3
  rw [h0] at e
  generalize (decide (p+1<(⟨l.toArray⟩:ByteArray).size)&&((⟨l.toArray⟩:ByteArray).get! (p+1)).toNat/64==2)=c1 at e k1
  generalize (decide (p+2<(⟨l.toArray⟩:ByteArray).size)&&((⟨l.toArray⟩:ByteArray).get! (p+2)).toNat/64==2)=c2 at e k2
  generalize (decide (p+3<(⟨l.toArray⟩:ByteArray).size)&&((⟨l.toArray⟩:ByteArray).get! (p+3)).toNat/64==2)=c3 at e k3
  generalize ((⟨l.toArray⟩:ByteArray).get! (p+1)).toNat=a1 at e
  generalize ((⟨l.toArray⟩:ByteArray).get! (p+2)).toNat=a2 at e
  generalize ((⟨l.toArray⟩:ByteArray).get! (p+3)).toNat=a3 at e
  have hlt:=(l.getD p 0).toNat_lt
  by_cases hb:bat l p<128
  · refine .inl ⟨hb,?_⟩
    unfold bat at hb ⊢
    rw [e,Z7x (by omega)]
    exact ⟨rfl,rfl⟩
  · have hb':=hb
    unfold bat at hb
    obtain ⟨h1,h2,h3⟩:=Z1l (a1:=a1) (a2:=a2) (a3:=a3) (c1:=c1) (c2:=c2) (c3:=c3) (b0:=(l.getD p 0).toNat) (by omega) hlt
    rw [←e] at h1 h2 h3
    refine .inr ⟨by omega,h1,h2,by omega,fun j j1 j2=>?_⟩
    have:j=p∨j=p+1∨j=p+2∨j=p+3:=by omega
    rcases this with rfl|rfl|rfl|rfl
    · exact ⟨h,by omega⟩
    · exact k1 (by rcases h3 with h3|h3|h3|h3<;>first|omega|exact h3.2|exact h3.2.1)
    · exact k2 (by rcases h3 with h3|h3|h3|h3<;>first|omega|exact h3.2.2|exact h3.2.2.1)
    · exact k3 (by rcases h3 with h3|h3|h3|h3<;>first|omega|exact h3.2.2.2)
theorem Z7y {r:Int} (h0:128≤r) (h1:r≤1114111):2≤(Zg8 r).length∧(Zg8 r).length≤4∧((Zg8 r).length=2→128≤bat (Zg8 r) 1):=by
  unfold Zg8 Utf8.encode Utf8.runeError
  simp only []
  generalize hc:(if Utf8.valid r=true then r.toNat else 65533)=c
  have hc0:128≤c:=by
    rw [←hc];split
    · omega
    · omega
  rw [if_neg (by omega)]
  split
  · refine ⟨by simp,by simp,fun _=>?_⟩
    simp [bat]
    omega
  · split<;>simp
theorem Z7z {r:Int} (h0:128≤r):S E0 F.I9 [.int .i32 r] []=some (.bool (decide (r<55296)||(decide (57343<r)&&decide (r≤1114111))),[]):=by
  rw [Zcu Znb rfl rfl]
  by_cases h1:r<55296
  · simp -dsimp (disch:=first|omega|(simp only [A8]<;>omega)|fail) only [L.I9,go_sem,reduceIte,reduceCtorEq,D1,D2,D3,D4,D5,D6,D7,D8,D9,E2,E3,E4,E5,E6,E7,E8,E9,F0,F1,A5,K9 h1]
  · by_cases h2:57343<r
    · by_cases h3:r≤1114111
      · simp -dsimp (disch:=first|omega|(simp only [A8]<;>omega)|fail) only [L.I9,go_sem,reduceIte,reduceCtorEq,D1,D2,D3,D4,D5,D6,D7,D8,D9,E2,E3,E4,E5,E6,E7,E8,E9,F0,F1,A5,Z0 h1,K9 h2,K9 h3]
      · simp -dsimp (disch:=first|omega|(simp only [A8]<;>omega)|fail) only [L.I9,go_sem,reduceIte,reduceCtorEq,D1,D2,D3,D4,D5,D6,D7,D8,D9,E2,E3,E4,E5,E6,E7,E8,E9,F0,F1,A5,Z0 h1,K9 h2,Z0 h3]
    · simp -dsimp (disch:=first|omega|(simp only [A8]<;>omega)|fail) only [L.I9,go_sem,reduceIte,reduceCtorEq,D1,D2,D3,D4,D5,D6,D7,D8,D9,E2,E3,E4,E5,E6,E7,E8,E9,F0,F1,A5,Z0 h1,Z0 h2]
theorem Zke {l:List UInt8} {c:Int}:S E0 F.N1 [.str l,.int .u8 c] []=some (.int .i64 (K4 l (byt c)),[]):=by
  rw [Zcu Zm7 rfl rfl]
  have h:S E0 F.I7 [.str l,.int .u8 c] []=some (.int .i64 (K4 l (byt c)),[]):=by
    rw [Zcu Zfe rfl rfl]
    simp -dsimp (disch:=first|omega|(simp only [A8]<;>omega)|fail) only [L.I7,go_sem,reduceIte,reduceCtorEq,D1,D2,D3,D4,D5,D6,D7,D8,D9,E2,E3,E4,E5,E6,E7,E8,E9,F0,F1,A5,Zqy]
  simp -dsimp (disch:=first|omega|(simp only [A8]<;>omega)|fail) only [L.N1,go_sem,reduceIte,reduceCtorEq,D1,D2,D3,D4,D5,D6,D7,D8,D9,E2,E3,E4,E5,E6,E7,E8,E9,F0,F1,A5,h]
theorem Zre:S E0 F.B1 [.str [47,0],.int .i32 65533] []=some (.int .i64 (-1),[]):=Zbw.2 ⟨60,by kernel_rfl⟩
theorem Zg1 {r:Int} (h0:0≤r) (h1:r<128):S E0 F.B1 [.str [47,0],.int .i32 r] []=some (.int .i64 (K4 [47,0] (byt r)),[]):=by
  rw [Zcu Zfd rfl rfl]
  have h2:IntKind.u8.wrap r=r:=by rw [Zd1];omega
  simp -dsimp (disch:=first|omega|(simp only [A8]<;>omega)|fail) only [L.B1,go_sem,reduceIte,reduceCtorEq,D1,D2,D3,D4,D5,D6,D7,D8,D9,E2,E3,E4,E5,E6,E7,E8,E9,F0,F1,A5,K9 h0,K9 h1,h2,Zke]
theorem Znx {r:Int} (h0:128≤r) (h1:r≤1114111):S E0 F.B1 [.str [47,0],.int .i32 r] []=some (.int .i64 (-1),[]):=by
  by_cases he:r=65533
  · subst he;exact Zre
  · have h2:¬ r<128:=by omega
    have h3:(0:Int)≤r:=by omega
    rw [Zcu Zfd rfl rfl]
    have hvv:S E0 F.I9 [.int .i32 r] []=some (.bool (decide (r<55296)||decide (57343<r)),[]):=by rw [Z7z h0,K9 h1,Yes]
    cases hv:(decide (r<55296)||decide (57343<r)) with
    | false=>simp -dsimp (disch:=first|omega|(simp only [A8]<;>omega)|fail) only [L.B1,go_sem,reduceIte,reduceCtorEq,D1,D2,D3,D4,D5,D6,D7,D8,D9,E2,E3,E4,E5,E6,E7,E8,E9,F0,F1,A5,K9 h3,Z0 h2,Zfk he,hvv,hv]
    | true =>
      obtain ⟨e1,e2,e3⟩:=Z7y h0 h1
      simp -dsimp (disch:=first|omega|(simp only [A8]<;>omega)|fail) only [L.B1,go_sem,reduceIte,reduceCtorEq,D1,D2,D3,D4,D5,D6,D7,D8,D9,E2,E3,E4,E5,E6,E7,E8,E9,F0,F1,A5,K9 h3,Z0 h2,Zfk he,hvv,hv]
      rw [H7 L.B1.x1.eq_1]
      by_cases e4:(Zg8 r).length=2
      · have e5:=e3 e4
        have b1:bat [47,0] 1=0:=rfl
        have b2:((((0:UInt8).toNat:Nat):Int) != bat (Zg8 r) 1)=true:=bne_t (by show (0:Int)≠_;omega)
        have b3:(((2:Nat):Int)-1).toNat=1:=rfl
        have b4:K4 ([47,0].drop (((2:Nat):Int)-1+1).toNat) (byt (bat (Zg8 r) 1)) = -1:=rfl
        have b5:K4 [] (byt (bat (Zg8 r) 1)) = -1:=rfl
        simp -dsimp (disch:=first|omega|(simp only [A8]<;>omega)|fail) only [go_sem,reduceIte,reduceCtorEq,D1,D2,D3,D4,D5,D6,D7,D8,D9,E2,E3,E4,E5,E6,E7,E8,E9,F0,F1,A5,L.B1.r2,e4,b1,b2,b3,Zke,B8,B7,B5,b4,b5,List.drop_nil]
      · simp -dsimp (disch:=first|omega|(simp only [A8]<;>omega)|fail) only [go_sem,reduceIte,reduceCtorEq,D1,D2,D3,D4,D5,D6,D7,D8,D9,E2,E3,E4,E5,E6,E7,E8,E9,F0,F1,A5,L.B1.r2]
def Zbi (b:UInt8):Bool:=b==47||b==0
theorem Z70 (b:UInt8):(0≤K4 [47,0] b)↔Zbi b=true:=by
  unfold K4 Zbi
  by_cases h1:b=47
  · subst h1;simp
  · by_cases h2:b=0
    · subst h2;simp [Yfz]
    · simp [h1,h2]
theorem Zho (l:List UInt8) (i:Nat):byt (bat l i)=l.getD i 0:=by
  unfold byt bat
  rw [Int.toNat_natCast,UInt8.ofNat_toNat]
theorem Z71 {s:List UInt8} (hs:s.length≤1000000):∀ (m p:Nat),p+m≤s.length→s.length≤p+m→∃ i:Int,((0≤i)↔(s.drop p).any Zbi=true) ∧
    X E0 [.tmp 4] (.c L.B6.x1::.lp [1,45] L.B6.x1::.blk 2::.c L.B6.r2::[]) ⟨[(1,.str [47,0]),(45,.it (.s 1000000 0) 0)],[(.s 1000000 0,⟨0,true,true,true,[.itr s p]⟩)]⟩=some (.int .i64 i,[]):=by
  intro m
  induction m using Nat.strongRecOn with
  | _ m ih =>
    intro p h1 h2
    rw [H7 L.B6.x1.eq_1]
    by_cases hp:p<s.length
    · have hd:s.drop p=s.getD p 0::s.drop (p+1):=by
        rw [Yfw hp];simp [hp]
      rcases Z1m hp with ⟨e1,e2,e3⟩|⟨e1,e2,e3,e4,e5⟩
      · cases hbad:Zbi (s.getD p 0) with
        | true =>
          have h3:=(Z70 (byt (bat s p))).2 (by rw [Zho];exact hbad)
          refine ⟨p,⟨fun _=>by rw [hd,Yf8,hbad];rfl,fun _=>by omega⟩,?_⟩
          simp -dsimp (disch:=first|omega|(simp only [A8]<;>omega)|fail) only [go_sem,reduceIte,reduceCtorEq,D1,D2,D3,D4,D5,D6,D7,D8,D9,E2,E3,E4,E5,E6,E7,E8,E9,F0,F1,A5,hp,e2,e3,Zg1 (Z9 s p).1 e1,K9 h3]
        | false =>
          have h3:¬ 0≤K4 [47,0] (byt (bat s p)):=fun h=>by rw [Z70,Zho,hbad] at h;cases h
          obtain ⟨i,h4,h5⟩:=ih (m-1) (by omega) (p+1) (by omega) (by omega)
          refine ⟨i,by rw [h4,hd,Yf8,hbad,Yf6],?_⟩
          rw [←h5]
          simp -dsimp (disch:=first|omega|(simp only [A8]<;>omega)|fail) only [go_sem,reduceIte,reduceCtorEq,D1,D2,D3,D4,D5,D6,D7,D8,D9,E2,E3,E4,E5,E6,E7,E8,E9,F0,F1,A5,hp,e2,e3,Zg1 (Z9 s p).1 e1,Z0 h3]
      · have hw:p+(Zaf s p).2≤s.length:=by
          have:=(e5 (p+(Zaf s p).2-1) (by omega) (by omega)).1
          omega
        obtain ⟨i,h4,h5⟩:=ih (m-(Zaf s p).2) (by omega) (p+(Zaf s p).2) (by omega) (by omega)
        refine ⟨i,?_,?_⟩
        · rw [h4]
          have:∀ w,p+w≤s.length→(∀ j,p≤j→j<p+w→j<s.length∧128≤bat s j)→(s.drop p).any Zbi=(s.drop (p+w)).any Zbi:=by
            intro w
            induction w with
            | zero=>intro _ _;rfl
            | succ w ihw =>
              intro hw1 hw2
              rw [ihw (by omega) (fun j j1 j2=>hw2 j j1 (by omega)),Yfw (by omega:p+w<s.length),Yf8]
              have hh:=(hw2 (p+w) (by omega) (by omega)).2
              have:Zbi s[p+w]=false:=by
                unfold bat at hh
                rw [List.getD_eq_getElem?_getD,List.getElem?_eq_getElem (by omega),Ye1] at hh
                unfold Zbi
                rw [Bool.or_eq_false_iff,beq_eq_false_iff_ne,beq_eq_false_iff_ne]
                constructor<;>(intro hx;rw [hx] at hh;simp at hh)
              rw [this,Yf6]
              rfl
          rw [this _ hw e5]
        · rw [←h5]
          have h6:=Znx (r:=((Zaf s p).1:Int)) (by omega) (by omega)
          simp -dsimp (disch:=first|omega|(simp only [A8]<;>omega)|fail) only [go_sem,reduceIte,reduceCtorEq,D1,D2,D3,D4,D5,D6,D7,D8,D9,E2,E3,E4,E5,E6,E7,E8,E9,F0,F1,A5,hp,h6]
    · refine ⟨-1,⟨fun h=>by omega,fun h=>by rw [Yfv (by omega)] at h;simp at h⟩,?_⟩
      simp -dsimp (disch:=first|omega|(simp only [A8]<;>omega)|fail) only [go_sem,reduceIte,reduceCtorEq,D1,D2,D3,D4,D5,D6,D7,D8,D9,E2,E3,E4,E5,E6,E7,E8,E9,F0,F1,A5,hp,L.B6.r2]
def Zd5:List AV:=(List.range 256).map fun i=>.bool (i==47||i==0)
theorem go_set:S E0 F.N0 [.str [47,0]] []=some (.tup [.agg Zd5,.bool true],[]):=Zbw.2 ⟨60,by kernel_rfl⟩
theorem Z72:∀ n:Nat,n<256→Zd5[n]? = some (.bool (Zbi (UInt8.ofNat n))):=by
  intro n hn
  simp only [Zd5,List.getElem?_map,List.getElem?_range hn,Option.map_some,Zbi]
  have:∀ n:Nat,n<256→(n==47||n==0)=(UInt8.ofNat n==47||UInt8.ofNat n==0):=by decide +kernel
  rw [this n hn]
theorem V5:flats Zd5=true:=by kernel_rfl
theorem W9:Zd5.length=256:=by simp [Zd5]
end Cod
namespace Cod
open Go
set_option maxRecDepth 100000
theorem Ycw {b:Int} (h0:0≤b) (h1:b<256):Zd5[b.toNat]? = some (.bool (Zbi (byt b))):=Z72 b.toNat (by omega)
theorem Zkf:leadss Zd5=false:=by kernel_rfl
theorem Zkg:refsOfs Zd5=[]:=by kernel_rfl
theorem Zkh (f:Site→Nat→Option (Site × Nat)):rens f Zd5=Zd5:=rens_flats Zd5 V5
theorem Zgg:N3 Zd5=true:=by kernel_rfl
theorem Zg2 {x:Site} {b:Int} (h0:0≤b) (h1:b<256):S E0 F.P7 [.ref (.up x) 0 0,.int .u8 b] [(.up x,⟨0,true,true,true,Zd5⟩)]=some (.bool (Zbi (byt b)),[(.up x,⟨0,true,true,true,Zd5⟩)]):=by
  rw [Zcu Zm6 rfl rfl]
  simp -dsimp (disch:=first|omega|(simp only [A8]<;>omega)|fail) only [L.P7,go_sem,reduceIte,reduceCtorEq,D1,D2,D3,D4,D5,D6,D7,D8,D9,E2,E3,E4,E5,E6,E7,E8,E9,F0,F1,A5,W9,V5,Zkf,Zkg,Zkh,Zgg,Ycw h0 h1]
theorem Z73 {s:List UInt8} (hs:s.length≤1000000):∀ (m p:Nat),p+m=s.length→∃ i:Int,((0≤i)↔(s.drop p).any Zbi=true) ∧
    X E0 [.tmp 4] (.c L.B6.x0::.lp [0,6,8] L.B6.x0::.blk 0::.c L.B6.r0::.c L.B6.r1::[]) ⟨[(0,.str s),(6,.ref (.s 1000000 0) 0 0),(8,.int .i64 p)],[(.s 1000000 0,⟨0,true,true,true,Zd5⟩)]⟩=some (.int .i64 i,[]):=by
  intro m
  induction m with
  | zero =>
    intro p h
    refine ⟨-1,⟨fun h=>by omega,fun h=>by rw [Yfv (by omega)] at h;simp at h⟩,?_⟩
    rw [H7 L.B6.x0.eq_1]
    simp -dsimp (disch:=first|omega|(simp only [A8]<;>omega)|fail) only [go_sem,reduceIte,reduceCtorEq,D1,D2,D3,D4,D5,D6,D7,D8,D9,E2,E3,E4,E5,E6,E7,E8,E9,F0,F1,A5,W9,V5,Zkf,Zkg,Zkh,Zgg,L.B6.r0]
  | succ m ih =>
    intro p h
    have hp:p<s.length:=by omega
    have hd:s.drop p=s.getD p 0::s.drop (p+1):=by
      rw [Yfw hp];simp [hp]
    obtain ⟨b0,b1⟩:=Z9 s p
    cases hbad:Zbi (s.getD p 0) with
    | true =>
      have h3:Zbi (byt (bat s p))=true:=by rw [Zho];exact hbad
      refine ⟨p,⟨fun _=>by rw [hd,Yf8,hbad];rfl,fun _=>by omega⟩,?_⟩
      rw [H7 L.B6.x0.eq_1]
      simp -dsimp (disch:=first|omega|(simp only [A8]<;>omega)|fail) only [go_sem,reduceIte,reduceCtorEq,D1,D2,D3,D4,D5,D6,D7,D8,D9,E2,E3,E4,E5,E6,E7,E8,E9,F0,F1,A5,W9,V5,Zkf,Zkg,Zkh,Zgg,Zg2 b0 b1,h3]
    | false =>
      have h3:Zbi (byt (bat s p))=false:=by rw [Zho];exact hbad
      obtain ⟨i,h4,h5⟩:=ih (p+1) (by omega)
      refine ⟨i,by rw [h4,hd,Yf8,hbad,Yf6],?_⟩
      rw [←h5,H7 L.B6.x0.eq_1]
      simp -dsimp (disch:=first|omega|(simp only [A8]<;>omega)|fail) only [go_sem,reduceIte,reduceCtorEq,D1,D2,D3,D4,D5,D6,D7,D8,D9,E2,E3,E4,E5,E6,E7,E8,E9,F0,F1,A5,W9,V5,Zkf,Zkg,Zkh,Zgg,Zg2 b0 b1,h3]
      rfl
theorem Z74 {n:Int}:S E0 F.P6 [.int .i64 n] []=some (.bool (decide (8<n)),[]):=by
  rw [Zcu Zm5 rfl rfl]
  simp -dsimp (disch:=first|omega|(simp only [A8]<;>omega)|fail) only [L.P6,go_sem,reduceIte,reduceCtorEq,D1,D2,D3,D4,D5,D6,D7,D8,D9,E2,E3,E4,E5,E6,E7,E8,E9,F0,F1,A5]
theorem go_any {s:List UInt8} (hs:s.length≤1000000):∃ i:Int,((0≤i)↔s.any Zbi=true)∧S E0 F.B6 [.str s,.str [47,0]] []=some (.int .i64 i,[]):=by
  rw [Zcu Zmu rfl rfl]
  have e0:(([47,0]:List UInt8) == [])=false:=rfl
  by_cases h8:8<s.length
  · obtain ⟨i,h1,h2⟩:=Z73 hs s.length 0 (by omega)
    refine ⟨i,by simpa using h1,?_⟩
    rw [←h2]
    have h9:decide (8<(s.length:Int))=true:=by simp;omega
    simp -dsimp (disch:=first|omega|(simp only [A8]<;>omega)|fail) only [L.B6,go_sem,reduceIte,reduceCtorEq,D1,D2,D3,D4,D5,D6,D7,D8,D9,E2,E3,E4,E5,E6,E7,E8,E9,F0,F1,A5,W9,V5,Zkf,Zkg,Zkh,Zgg,e0,Z74,h9,go_set]
    rfl
  · obtain ⟨i,h1,h2⟩:=Z71 hs s.length 0 (by omega) (by omega)
    refine ⟨i,by simpa using h1,?_⟩
    rw [←h2]
    have h9:decide (8<(s.length:Int))=false:=by simp;omega
    simp -dsimp (disch:=first|omega|(simp only [A8]<;>omega)|fail) only [L.B6,go_sem,reduceIte,reduceCtorEq,D1,D2,D3,D4,D5,D6,D7,D8,D9,E2,E3,E4,E5,E6,E7,E8,E9,F0,F1,A5,W9,V5,Zkf,Zkg,Zkh,Zgg,e0,Z74,h9,L.B6.r1]
theorem Zfp {s:List UInt8} (hs:s.length≤1000000):S E0 F.P0 [.str s,.str [47,0]] []=some (.bool (s.any Zbi),[]):=by
  rw [Zcu Zmb rfl rfl]
  obtain ⟨i,h1,h2⟩:=go_any hs
  have h3:decide (0≤i)=s.any Zbi:=by
    cases h:s.any Zbi with
    | true=>simp [h1.2 h]
    | false=>rw [decide_eq_false_iff_not,h1,h];simp
  simp -dsimp (disch:=first|omega|(simp only [A8]<;>omega)|fail) only [L.P0,go_sem,reduceIte,reduceCtorEq,D1,D2,D3,D4,D5,D6,D7,D8,D9,E2,E3,E4,E5,E6,E7,E8,E9,F0,F1,A5,h2,h3]
theorem Zrf {s:List UInt8} (hs:s.length=4) (h:Zct s=true):bat s 1<128∧bat s 2<128:=by
  rw [←Zxe hs] at h
  simp only [Zrc,Yd8,decide_eq_true_eq] at h
  exact ⟨h.2.1.1,h.2.2.1.1⟩
theorem Ycx (s:List UInt8):s.any Zbi=(s.contains 47||s.contains 0):=by
  induction s with
  | nil=>rfl
  | cons b s ih =>
    rw [Yf8,ih,Yf9,Yf9]
    unfold Zbi
    rw [show (47==b)=(b==47) from Bool.beq_comm,show (0==b)=(b==0) from Bool.beq_comm]
    cases (b==47)<;>cases (b==0)<;>cases s.contains 47<;>cases s.contains 0<;>rfl
theorem Z1n {s:List UInt8} (h:s.length≠4):Zct s=false:=by
  unfold Zct
  split
  · exact absurd rfl h
  · rfl
theorem Ycy {s:List UInt8} (hs:s.length≤1000000):S E0 F.I0 [.str s] []=some (.bool (K6 s),[]):=by
  rw [Zcu Zfc rfl rfl]
  cases c1:(s == []) with
  | true =>
    have:K6 s=false:=by rw [eq_of_beq c1];rfl
    rw [this]
    simp -dsimp (disch:=first|omega|(simp only [A8]<;>omega)|fail) only [L.I0,go_sem,reduceIte,reduceCtorEq,D1,D2,D3,D4,D5,D6,D7,D8,D9,E2,E3,E4,E5,E6,E7,E8,E9,F0,F1,A5,c1]
  | false =>
  cases c2:(s == [46]) with
  | true =>
    have:K6 s=false:=by rw [eq_of_beq c2];rfl
    rw [this]
    simp -dsimp (disch:=first|omega|(simp only [A8]<;>omega)|fail) only [L.I0,go_sem,reduceIte,reduceCtorEq,D1,D2,D3,D4,D5,D6,D7,D8,D9,E2,E3,E4,E5,E6,E7,E8,E9,F0,F1,A5,c1,c2]
  | false =>
  cases c3:(s == [46,46]) with
  | true =>
    have:K6 s=false:=by rw [eq_of_beq c3];rfl
    rw [this]
    simp -dsimp (disch:=first|omega|(simp only [A8]<;>omega)|fail) only [L.I0,go_sem,reduceIte,reduceCtorEq,D1,D2,D3,D4,D5,D6,D7,D8,D9,E2,E3,E4,E5,E6,E7,E8,E9,F0,F1,A5,c1,c2,c3]
  | false =>
  have hl:1≤s.length:=by
    cases s with
    | nil=>simp at c1
    | cons b s=>simp
  by_cases c4:100<s.length
  · have:K6 s=false:=by
      unfold K6
      rw [show decide (s.length≤100)=false from Z0 (by omega)]
      simp
    have c4':decide (100<(s.length:Int))=true:=K9 (by omega)
    rw [this]
    simp -dsimp (disch:=first|omega|(simp only [A8]<;>omega)|fail) only [L.I0,go_sem,reduceIte,reduceCtorEq,D1,D2,D3,D4,D5,D6,D7,D8,D9,E2,E3,E4,E5,E6,E7,E8,E9,F0,F1,A5,c1,c2,c3,c4']
  · have c4':decide (100<(s.length:Int))=false:=Z0 (by omega)
    have hn:K6 s=(!(s.any Zbi) && !Zct s):=by
      unfold K6
      rw [Ycx,show decide (s.length≤100)=true from K9 (by omega),show decide (1≤s.length)=true from K9 hl,show (s != [46])=true by simp [bne,c2],show (s != [46,46])=true by simp [bne,c3]]
      cases s.contains 47<;>cases s.contains 0<;>cases Zct s<;>rfl
    by_cases c5:s.length=4
    · have c5':((s.length:Int)==4)=true:=Zj0 (by omega)
      have hf:=Ycv c5
      rw [Zxe c5] at hf
      cases hg:Zct s with
      | true =>
        obtain ⟨g1,g2⟩:=Zrf c5 hg
        rw [hg] at hf
        rw [hn,hg]
        simp -dsimp (disch:=first|omega|(simp only [A8]<;>omega)|fail) only [L.I0,go_sem,reduceIte,reduceCtorEq,D1,D2,D3,D4,D5,D6,D7,D8,D9,E2,E3,E4,E5,E6,E7,E8,E9,F0,F1,A5,c1,c2,c3,c4',c5',hf,K9 g1,K9 g2,Yfx,Bool.and_false]
      | false =>
        rw [hg] at hf
        rw [hn,hg]
        simp -dsimp (disch:=first|omega|(simp only [A8]<;>omega)|fail) only [L.I0,go_sem,reduceIte,reduceCtorEq,D1,D2,D3,D4,D5,D6,D7,D8,D9,E2,E3,E4,E5,E6,E7,E8,E9,F0,F1,A5,c1,c2,c3,c4',c5',hf,Zfp hs,Yfy,Yes]
    · have c5':((s.length:Int)==4)=false:=Zfk (by omega)
      rw [hn,Z1n c5]
      simp -dsimp (disch:=first|omega|(simp only [A8]<;>omega)|fail) only [L.I0,go_sem,reduceIte,reduceCtorEq,D1,D2,D3,D4,D5,D6,D7,D8,D9,E2,E3,E4,E5,E6,E7,E8,E9,F0,F1,A5,c1,c2,c3,c4',c5',Zfp hs,Yfy,Yes]
end Cod
namespace Cod
open Go
theorem Zxf {E E':Env} (h:E'.glob=E.glob) (sl loc:List (Nat × AV)):evR E' sl loc=evR E sl loc:=by
  funext x;cases x<;>simp [evR,h]
theorem Zxg {E E':Env} (h:E'.glob=E.glob) (c:J2) (sl:List (Nat × AV)) (o:LOper) (r:RS):opR E' c sl o r=opR E c sl o r:=by
  unfold opR;rw [Zxf h]
theorem Zvk {E E':Env} (h:E'.glob=E.glob) (c:J2) (sl:List (Nat × AV)) (o:LOper) (r:RS):O2 E' c sl o r=O2 E c sl o r:=by
  unfold O2;rw [Zxf h]
theorem Z75 {E E':Env} (h:E'.glob=E.glob) (c:J2) (sl:List (Nat × AV)):∀ (os:List LOper) (r:RS),L9 E' c sl os r=L9 E c sl os r:=by
  intro os
  induction os with
  | nil=>intro r;rfl
  | cons o os ih=>intro r;simp only [L9,Zxg h,ih]
theorem Zrg {E E':Env} (h:E'.glob=E.glob) (c:J2) (sl:List (Nat × AV)):∀ (os:List LOper) (r:RS),J4 E' c sl os r=J4 E c sl os r:=by
  intro os
  induction os with
  | nil=>intro r;rfl
  | cons o os ih=>intro r;simp only [J4,Zxg h,Zvk h,ih]
theorem ev_env {E E':Env} (h:E'.glob=E.glob) (sl:List (Nat × AV)) (x:LO):ev E' sl x=ev E sl x:=by
  cases x<;>simp [ev,h]
theorem Z76 {E E':Env} (h:E'.glob=E.glob) (c:J2) (st:St) (k:List It):move E' c st k=move E c st k:=by
  unfold move
  simp only [ev_env h,Z75 h,Zrg h]
structure Ext (E E':Env):Prop where
  glob:E'.glob=E.glob
  fn:E'.fn=E.fn
  known:∀ f h,E.known f=some h→E'.known f=some h
  none:∀ f,E.known f=none→E'.known f=none∨E.fn f=none
theorem Z77 {E E':Env} (h:Ext E E'):∀ n,(∀ fn k st r,X4 E n fn k st=some r→X4 E' n fn k st=some r)∧LeC (acall E n) (acall E' n):=by
  intro n
  induction n with
  | zero=>exact ⟨fun fn k st r h=>by simp [X4] at h,fun f a σ r h=>by simp [acall] at h⟩
  | succ n ih =>
    obtain ⟨ih1,ih2⟩:=ih
    constructor
    · intro fn k st r hx
      rw [X4] at hx ⊢
      rw [Z76 h.glob]
      cases hm:move E (acall E n) st k with
      | go k' st'=>rw [hm] at hx;rw [Z5 ih2 (by simp) hm];exact ih1 _ _ _ _ hx
      | done=>rw [hm] at hx;rw [Z5 ih2 (by simp) hm];exact hx
      | stuck=>rw [hm] at hx;cases hx
    · intro f a σ r hx
      rw [acall] at hx ⊢
      cases hk:E.known f with
      | some g=>rw [hk] at hx;rw [h.known f g hk];exact hx
      | none =>
        rw [hk] at hx
        cases hf:E.fn f with
        | none=>rw [hf] at hx;cases hx
        | some fn =>
          have hk':E'.known f=Option.none:=(h.none f hk).resolve_right (by rw [hf];simp)
          rw [hk',h.fn,hf]
          rw [hf] at hx;simp only [] at hx ⊢
          cases hb:(a.length==fn.np)<;>rw [hb] at hx<;>simp only [cond_true,cond_false] at hx ⊢
          · cases hx
          · exact ih1 _ _ _ _ hx
theorem Zau {E E':Env} (h:Ext E E') {f:Nat} {a:List AV} {σ:A3} {r:AV × A3} (hx:S E f a σ=some r):S E' f a σ=some r:=by
  obtain ⟨n,hn⟩:=Zbw.1 hx
  exact Zbw.2 ⟨n,(Z77 h n).2 _ _ _ _ hn⟩
end Cod
namespace Cod
open Go
theorem ext0:Ext E0 E where
  glob:=rfl
  fn:=rfl
  known f h hk:=hk
  none f hk:=.inl hk
end Cod
namespace Cod
open Go
def Zgh (w e:Int):Int:=if e≠0∧(w=0∨e<w) then e else w
def Zdm (l:List Int):Int:=l.foldl Zgh 0
theorem S2 {b:Bool} {e:Int}:S E F.C6 [.bool b,.int .i64 e] []=some (.int .i64 (if b then e else 0),[]):=by
  rw [N6 Zmd rfl rfl]
  cases b<;>simp -dsimp (disch:=first|omega|(simp only [A8,A2,A0]<;>omega)|fail) only [L.C6,go_sem,reduceIte,reduceCtorEq,D1,D2,D3,D4,D5,D6,D7,D8,D9,E2,E3,E4,E5,E6,E7,E8,E9,F0,F1,A5]
theorem Zrh {l:List Int} {i:Nat} (h:i<l.length):(J8 l)[i]? = some (.int .i64 (l.getD i 0)):=by
  unfold J8
  rw [List.getElem?_map,List.getElem?_eq_getElem h]
  simp [List.getD,h]
theorem L3:∀ l:List Int,flats (J8 l)=true:=by
  intro l;induction l with
  | nil=>rfl
  | cons a l ih=>show flats (.int .i64 a::J8 l)=true;simp [flats,J6,ih]
theorem J1:∀ l:List Int,refsOfs (J8 l)=[]:=by
  intro l;induction l with
  | nil=>rfl
  | cons a l ih=>show refsOfs (.int .i64 a::J8 l)=[];simp [refsOfs,U7,ih]
theorem O3 (f:Site→Nat→Option (Site × Nat)):∀ l:List Int,rens f (J8 l)=J8 l:=fun l=>rens_flats _ (L3 l)
theorem Z78 {l:List Int} (hl:l.length≤1000000):∀ (m i:Nat) (w:Int),i+m=l.length →
    X E [.tmp 2] (.c L.F4.x0::.lp [3,6,7,8] L.F4.x0::.blk 0::[.c L.F4.r0]) ⟨[(3,.int .i64 w),(6,.lst (J8 l) l.length),(7,.int .i64 l.length),(8,.int .i64 i)],[]⟩=some (.int .i64 ((l.drop i).foldl Zgh w),[]):=by
  intro m
  induction m with
  | zero =>
    intro i w h
    obtain rfl:i=l.length:=by omega
    rw [H7 L.F4.x0.eq_1,List.drop_length]
    simp -dsimp (disch:=first|omega|(simp only [A8,A2,A0]<;>omega)|fail) only [go_sem,reduceIte,reduceCtorEq,D1,D2,D3,D4,D5,D6,D7,D8,D9,E2,E3,E4,E5,E6,E7,E8,E9,F0,F1,A5,L.F4.r0,L3,J1,O3]
    rfl
  | succ m ih =>
    intro i w h
    have hlt:i<l.length:=by omega
    have h1:=ih (i+1) (Zgh w (l.getD i 0)) (by omega)
    simp only [Yga,Yf4] at h1
    have hg:=Zrh hlt
    rw [H7 L.F4.x0.eq_1,Yfw hlt,List.foldl_cons,show l[i]=l.getD i 0 by simp [List.getD,hlt]]
    generalize l.getD i 0=e at *
    unfold Zgh at h1 ⊢
    by_cases e0:e=0
    · subst e0
      rw [if_neg (by simp)] at h1 ⊢
      simp -dsimp (disch:=first|omega|(simp only [A8,A2,A0]<;>omega)|fail) only [go_sem,reduceIte,reduceCtorEq,D1,D2,D3,D4,D5,D6,D7,D8,D9,E2,E3,E4,E5,E6,E7,E8,E9,F0,F1,A5,L3,J1,O3,hg,h1]
    · by_cases w0:w=0
      · subst w0
        rw [if_pos (by simp [e0])] at h1 ⊢
        simp -dsimp (disch:=first|omega|(simp only [A8,A2,A0]<;>omega)|fail) only [go_sem,reduceIte,reduceCtorEq,D1,D2,D3,D4,D5,D6,D7,D8,D9,E2,E3,E4,E5,E6,E7,E8,E9,F0,F1,A5,L3,J1,O3,hg,h1,e0]
      · by_cases lt:e<w
        · rw [if_pos (by simp [e0,lt])] at h1 ⊢
          simp -dsimp (disch:=first|omega|(simp only [A8,A2,A0]<;>omega)|fail) only [go_sem,reduceIte,reduceCtorEq,D1,D2,D3,D4,D5,D6,D7,D8,D9,E2,E3,E4,E5,E6,E7,E8,E9,F0,F1,A5,L3,J1,O3,hg,h1,e0,w0,lt]
        · rw [if_neg (by simp [e0,lt,w0])] at h1 ⊢
          simp -dsimp (disch:=first|omega|(simp only [A8,A2,A0]<;>omega)|fail) only [go_sem,reduceIte,reduceCtorEq,D1,D2,D3,D4,D5,D6,D7,D8,D9,E2,E3,E4,E5,E6,E7,E8,E9,F0,F1,A5,L3,J1,O3,hg,h1,e0,w0,lt]
theorem Zit {l:List Int} (hl:l.length≤1000000):S E F.F4 [.lst (J8 l) l.length] []=some (.int .i64 (Zdm l),[]):=by
  have h:=Z78 hl l.length 0 0 (by omega)
  simp only [Yf4,Yfc] at h
  rw [N6 Zmc rfl rfl]
  simp -dsimp (disch:=first|omega|(simp only [A8,A2,A0]<;>omega)|fail) only [L.F4,go_sem,reduceIte,reduceCtorEq,D1,D2,D3,D4,D5,D6,D7,D8,D9,E2,E3,E4,E5,E6,E7,E8,E9,F0,F1,A5,L3,J1,O3,h]
  rfl
end Cod
namespace Cod
open Go
def V6 (m:Int):Bool:=decide (m=16384)||(decide (m=33188)||(decide (m=33261)||decide (m=40960)))
theorem Ycz {m:Int}:S E F.M3 [.int .i64 m] []=some (.bool (V6 m),[]):=by
  rw [N6 Zmj rfl rfl]
  unfold V6
  by_cases a:m=16384
  · simp -dsimp (disch:=first|omega|(simp only [A8,A2,A0]<;>omega)|fail) only [L.M3,go_sem,reduceIte,reduceCtorEq,D1,D2,D3,D4,D5,D6,D7,D8,D9,E2,E3,E4,E5,E6,E7,E8,E9,F0,F1,A5,a]
  · by_cases b:m=33188
    · simp -dsimp (disch:=first|omega|(simp only [A8,A2,A0]<;>omega)|fail) only [L.M3,go_sem,reduceIte,reduceCtorEq,D1,D2,D3,D4,D5,D6,D7,D8,D9,E2,E3,E4,E5,E6,E7,E8,E9,F0,F1,A5,a,b]
    · by_cases c:m=33261
      · simp -dsimp (disch:=first|omega|(simp only [A8,A2,A0]<;>omega)|fail) only [L.M3,go_sem,reduceIte,reduceCtorEq,D1,D2,D3,D4,D5,D6,D7,D8,D9,E2,E3,E4,E5,E6,E7,E8,E9,F0,F1,A5,a,b,c]
      · by_cases d:m=40960
        · simp -dsimp (disch:=first|omega|(simp only [A8,A2,A0]<;>omega)|fail) only [L.M3,go_sem,reduceIte,reduceCtorEq,D1,D2,D3,D4,D5,D6,D7,D8,D9,E2,E3,E4,E5,E6,E7,E8,E9,F0,F1,A5,a,b,c,d]
        · simp -dsimp (disch:=first|omega|(simp only [A8,A2,A0]<;>omega)|fail) only [L.M3,go_sem,reduceIte,reduceCtorEq,D1,D2,D3,D4,D5,D6,D7,D8,D9,E2,E3,E4,E5,E6,E7,E8,E9,F0,F1,A5,a,b,c,d]
theorem Zvl {s:List UInt8} (h:K6 s=true):s.length≤100:=by
  unfold K6 at h
  simp only [Yd8,decide_eq_true_eq] at h
  exact h.1.1.1.1.1.2
theorem Yc0 {s:List UInt8}:S E F.I0 [.str s] []=some (.bool (K6 s),[]):=by
  by_cases h:s.length≤1000000
  · exact Zau ext0 (Ycy h)
  · have e:K6 s=false:=by
      cases hn:K6 s with
      | false=>rfl
      | true=>have:=Zvl hn;omega
    rw [e,N6 Zfc rfl rfl]
    have e1:(s == [])=false:=by
      cases s with
      | nil=>simp at h
      | cons a t=>rfl
    have e2:(s == [46])=false:=by
      rw [←Ygb,beq_iff_eq];intro he;rw [he] at h;simp at h
    have e3:(s == [46,46])=false:=by
      rw [←Ygb,beq_iff_eq];intro he;rw [he] at h;simp at h
    simp -dsimp (disch:=first|omega|(simp only [A8,A2,A0]<;>omega)|fail) only [L.I0,go_sem,reduceIte,reduceCtorEq,D1,D2,D3,D4,D5,D6,D7,D8,D9,E2,E3,E4,E5,E6,E7,E8,E9,F0,F1,A5,e1,e2,e3]
theorem Zri {ks:List (List UInt8)} {n:List UInt8} (h:n∈ks):(Z8 ks).set (ks.idxOf n) (.str n)=Z8 ks:=by
  apply List.ext_getElem?
  intro j
  rw [List.getElem?_set]
  split
  · rename_i hj
    subst hj
    have hi:=Yf0 h
    rw [if_pos (by simpa [Z8] using hi)]
    unfold Z8
    rw [List.getElem?_map,List.getElem?_eq_getElem hi]
    simp [List.getElem_idxOf]
  · rfl
theorem Zrj (vs:List Int) (j:Nat) (v:Int):(J8 vs).set j (.int .i64 v)=J8 (vs.set j v):=by simp [J8,List.map_set]
theorem Zki (vs:List Int) (v:Int):J8 vs++[.int .i64 v]=J8 (vs++[v]):=by simp [J8]
theorem Zny {vs:List Int} {j:Nat} {v:Int} (h:vs[j]? = some v):(J8 vs)[j]? = some (.int .i64 v):=by simp [J8,h]
def Ziu (e:Ety):Int:=if !K6 e.name then 3 else 0
def Ziv (e:Ety):Int:=if !V6 e.mode then 4 else 0
def Zcz (l:List Ety) (i:Nat):Int:=if decide (0<i)&&decide (0≤Zin (Zbu (eat l (i-1))) (Zbu (eat l i))) then 4 else 0
def Zhd (l:List Ety) (i:Nat):Int:=if decide ((eat l i).name∈(l.take i).map (·.name)) then 8 else 0
def Zdn (l:List Ety):Nat→Nat→Int→Nat→Int × Nat
  | 0,_,w,z=>(w,z)
  | m+1,i,w,z=>Zdn l m (i+1) (Zdm [w,Ziu (eat l i),Ziv (eat l i),Zcz l i,Zhd l i]) (z+((K7 (eat l i).mode).length+(eat l i).name.length+34))
theorem ent_l0 {l:List Ety} (hl:l.length≤4096) (hn:∀ i,(eat l i).name.length≤1000000000) (hm:∀ i,-9223372036854775808≤(eat l i).mode∧(eat l i).mode≤9223372036854775807):∀ (m i z:Nat) (w:Int) (ks:List (List UInt8)) (vs:List Int),i+m=l.length→z≤i*2000000000→MapOK ((l.take i).map (·.name)) ks vs →
    ∃ ks' vs',X E [.tmp 2] (.c L.G1.x0::.lp [0,3,4,5,12,13,14] L.G1.x0::.blk 0::[.c L.G1.r0]) ⟨[(0,.lst (J3 l) l.length),(3,.int .i64 w),(4,.int .i64 z),(5,.mpr (.s 1000000 0) 0),(12,.lst (J3 l) l.length),(13,.int .i64 l.length),(14,.int .i64 i)],[(.s 1000000 0,⟨0,true,true,true,[.mp (Z8 ks) (J8 vs)]⟩)]⟩ =
    X E [.tmp 2] [.c L.G1.r0] ⟨[(0,.lst (J3 l) l.length),(3,.int .i64 (Zdn l m i w z).1),(4,.int .i64 (Zdn l m i w z).2),(5,.mpr (.s 1000000 0) 0),(12,.lst (J3 l) l.length),(13,.int .i64 l.length),(14,.int .i64 l.length),(15,.bool false)],[(.s 1000000 0,⟨0,true,true,true,[.mp (Z8 ks') (J8 vs')]⟩)]⟩:=by
  intro m
  induction m with
  | zero =>
    intro i z w ks vs h hz hM
    obtain rfl:i=l.length:=by omega
    refine ⟨ks,vs,?_⟩
    rw [H7 L.G1.x0.eq_1,Zdn]
    simp -dsimp (disch:=first|omega|(simp only [A8,A2,A0]<;>omega)|fail) only [go_sem,reduceIte,reduceCtorEq,D1,D2,D3,D4,D5,D6,D7,D8,D9,E2,E3,E4,E5,E6,E7,E8,E9,F0,F1,A5,W8,Zbg,Zbh,Zao,Y5,Zb5,Zb6,Zdj]
  | succ m ih =>
    intro i z w ks vs h hz hM
    have hlt:i<l.length:=by omega
    have hf:=Zei (hm i).1 (hm i).2
    have hol:=Zdk (eat l i).mode
    have hnl:=hn i
    have hnm:=Yc0 (s:=(eat l i).name)
    have hmd:=Ycz (m:=(eat l i).mode)
    have w1:S E F.C6 [.bool (!K6 (eat l i).name),.int .i64 3] []=some (.int .i64 (Ziu (eat l i)),[]):=S2
    have w2:S E F.C6 [.bool (!V6 (eat l i).mode),.int .i64 4] []=some (.int .i64 (Ziv (eat l i)),[]):=S2
    have wl:=Zit (l:=[w,Ziu (eat l i),Ziv (eat l i),Zcz l i,Zhd l i]) (by simp)
    simp only [J8,Yed,Ygc,Yd9,Ye6] at wl
    have htake:(l.take (i+1)).map (·.name)=(l.take i).map (·.name)++[(eat l i).name]:=by
      rw [Ygd hlt,List.map_append]
      simp [eat,List.getD,hlt]
    have hseen:((l.take i).map (·.name)).length≤4096:=by rw [List.length_map,List.length_take];omega
    rw [H7 L.G1.x0.eq_1,Zdn]
    by_cases hin:(eat l i).name∈ks
    · obtain ⟨v,hv,v1,v2,hM2⟩:=hM.old hin
      rw [←htake] at hM2
      have hv2:=Zny hv
      have hw:IntKind.i64.wrap (v+1)=v+1:=wrap_i64 (by omega) (by omega)
      have hv3:(J8 (vs.set (ks.idxOf (eat l i).name) (v+1)))[ks.idxOf (eat l i).name]? = some (.int .i64 (v+1)):=Zny (by
        rw [List.getElem?_set,if_pos rfl,if_pos (List.getElem?_eq_some_iff.1 hv).1])
      have hfk:U5 true (.str (eat l i).name) (Z8 ks) 0=some (some (ks.idxOf (eat l i).name)):=by rw [Zeh,if_pos hin,Yen]
      have w4:S E F.C6 [.bool true,.int .i64 8] []=some (.int .i64 (Zhd l i),[]):=by
        have e:Zhd l i=8:=by unfold Zhd;rw [decide_eq_true ((hM.mem _).1 hin)];rfl
        rw [e];exact S2 (b:=true)
      obtain ⟨ks',vs',ih2⟩:=ih (i+1) (z+((K7 (eat l i).mode).length+(eat l i).name.length+34)) (Zdm [w,Ziu (eat l i),Ziv (eat l i),Zcz l i,Zhd l i]) ks _ (by omega) (by omega) hM2
      simp only [Yga,Yf4] at ih2
      refine ⟨ks',vs',?_⟩
      by_cases hi0:0<i
      · have o1:=Zkb (a:=eat l (i-1)) (b:=eat l i) (by have:=hn (i-1);omega) (by omega)
        have w3:S E F.C6 [.bool (decide (0≤Zin (Zbu (eat l (i-1))) (Zbu (eat l i)))),.int .i64 4] []=some (.int .i64 (Zcz l i),[]):=by
          have e:Zcz l i=if decide (0≤Zin (Zbu (eat l (i-1))) (Zbu (eat l i)))=true then 4 else 0:=by unfold Zcz;rw [decide_eq_true hi0,Yf5]
          rw [e];exact S2
        have e1:(if (i:Int)-1<0 then (0:Int) else (i:Int)-1)=((i-1:Nat):Int):=by rw [if_neg (by omega)];omega
        simp -dsimp (disch:=first|omega|(simp only [A8,A2,A0]<;>omega)|fail) only [go_sem,reduceIte,reduceCtorEq,D1,D2,D3,D4,D5,D6,D7,D8,D9,E2,E3,E4,E5,E6,E7,E8,E9,F0,F1,A5,W8,Zbg,Zbh,Zao,Y5,Zb5,Zb6,Zdj,hf,hnm,hmd,hv2,hv3,hw,hfk,Zri hin,Zrj,w1,w2,w3,w4,hi0,o1,wl,e1,T5,ih2]
      · have w3:S E F.C6 [.bool false,.int .i64 4] []=some (.int .i64 (Zcz l i),[]):=by
          have e:Zcz l i=0:=by unfold Zcz;rw [decide_eq_false hi0];rfl
          rw [e];exact S2 (b:=false)
        simp -dsimp (disch:=first|omega|(simp only [A8,A2,A0]<;>omega)|fail) only [go_sem,reduceIte,reduceCtorEq,D1,D2,D3,D4,D5,D6,D7,D8,D9,E2,E3,E4,E5,E6,E7,E8,E9,F0,F1,A5,W8,Zbg,Zbh,Zao,Y5,Zb5,Zb6,Zdj,hf,hnm,hmd,hv2,hv3,hw,hfk,Zri hin,Zrj,w1,w2,w3,w4,hi0,wl,ih2]
    · have hM2:=hM.new hin
      rw [←htake] at hM2
      have hfk:U5 true (.str (eat l i).name) (Z8 ks) 0=some none:=by rw [Zeh,if_neg hin]
      have hfk2:U5 true (.str (eat l i).name) (Z8 (ks++[(eat l i).name])) 0=some (some ks.length):=by
        rw [Zeh,if_pos (by simp),List.idxOf_append,if_neg hin]
        simp
      have hv3:(J8 (vs++[1]))[ks.length]? = some (.int .i64 1):=Zny (by rw [←hM.len,List.getElem?_append_right (Ydt _),Nat.sub_self];rfl)
      have w4:S E F.C6 [.bool false,.int .i64 8] []=some (.int .i64 (Zhd l i),[]):=by
        have e:Zhd l i=0:=by unfold Zhd;rw [decide_eq_false (fun x=>hin ((hM.mem _).2 x))];rfl
        rw [e];exact S2 (b:=false)
      obtain ⟨ks',vs',ih2⟩:=ih (i+1) (z+((K7 (eat l i).mode).length+(eat l i).name.length+34)) (Zdm [w,Ziu (eat l i),Ziv (eat l i),Zcz l i,Zhd l i]) _ _ (by omega) (by omega) hM2
      simp only [Yga,Yf4] at ih2
      refine ⟨ks',vs',?_⟩
      by_cases hi0:0<i
      · have o1:=Zkb (a:=eat l (i-1)) (b:=eat l i) (by have:=hn (i-1);omega) (by omega)
        have w3:S E F.C6 [.bool (decide (0≤Zin (Zbu (eat l (i-1))) (Zbu (eat l i)))),.int .i64 4] []=some (.int .i64 (Zcz l i),[]):=by
          have e:Zcz l i=if decide (0≤Zin (Zbu (eat l (i-1))) (Zbu (eat l i)))=true then 4 else 0:=by unfold Zcz;rw [decide_eq_true hi0,Yf5]
          rw [e];exact S2
        have e1:(if (i:Int)-1<0 then (0:Int) else (i:Int)-1)=((i-1:Nat):Int):=by rw [if_neg (by omega)];omega
        simp -dsimp (disch:=first|omega|(simp only [A8,A2,A0]<;>omega)|fail) only [go_sem,reduceIte,reduceCtorEq,D1,D2,D3,D4,D5,D6,D7,D8,D9,E2,E3,E4,E5,E6,E7,E8,E9,F0,F1,A5,W8,Zbg,Zbh,Zao,Y5,Zb5,Zb6,Zdj,hf,hnm,hmd,hv3,hfk,hfk2,Zki,w1,w2,w3,w4,hi0,o1,wl,e1,T5,ih2]
      · have w3:S E F.C6 [.bool false,.int .i64 4] []=some (.int .i64 (Zcz l i),[]):=by
          have e:Zcz l i=0:=by unfold Zcz;rw [decide_eq_false hi0];rfl
          rw [e];exact S2 (b:=false)
        simp -dsimp (disch:=first|omega|(simp only [A8,A2,A0]<;>omega)|fail) only [go_sem,reduceIte,reduceCtorEq,D1,D2,D3,D4,D5,D6,D7,D8,D9,E2,E3,E4,E5,E6,E7,E8,E9,F0,F1,A5,W8,Zbg,Zbh,Zao,Y5,Zb5,Zb6,Zdj,hf,hnm,hmd,hv3,hfk,hfk2,Zki,w1,w2,w3,w4,hi0,wl,ih2]
def V7 (l:List Ety):Int:=if 4096<l.length then 2 else Zdm [(Zdn l l.length 0 0 0).1,if decide (1048576<(Zdn l l.length 0 0 0).2) then 2 else 0]
theorem entI_z (l:List Ety) (hn:∀ i,(eat l i).name.length≤1000000000):∀ (m i z:Nat) (w:Int),z≤i*2000000000→(Zdn l m i w z).2≤(i+m)*2000000000:=by
  intro m
  induction m with
  | zero=>intro i z w h;exact h
  | succ m ih =>
    intro i z w h
    rw [Zdn]
    have:=ih (i+1) (z+((K7 (eat l i).mode).length+(eat l i).name.length+34)) (Zdm [w,Ziu (eat l i),Ziv (eat l i),Zcz l i,Zhd l i]) (by have:=hn i;have:=Zdk (eat l i).mode;omega)
    rw [show i+(m+1)=i+1+m by omega]
    exact this
theorem Zvm {l:List Ety} (hn:∀ i,(eat l i).name.length≤1000000000) (hm:∀ i,-9223372036854775808≤(eat l i).mode∧(eat l i).mode≤9223372036854775807) (hl:l.length≤1000000000):S E F.G1 [.lst (J3 l) l.length] []=some (.int .i64 (V7 l),[]):=by
  rw [N6 Zl3 rfl rfl]
  unfold V7
  by_cases hlen:4096<l.length
  · rw [if_pos hlen]
    simp -dsimp (disch:=first|omega|(simp only [A8,A2,A0]<;>omega)|fail) only [L.G1,go_sem,reduceIte,reduceCtorEq,D1,D2,D3,D4,D5,D6,D7,D8,D9,E2,E3,E4,E5,E6,E7,E8,E9,F0,F1,A5,hlen]
  · rw [if_neg hlen]
    obtain ⟨ks,vs,h⟩:=ent_l0 (l:=l) (by omega) hn hm l.length 0 0 0 [] [] (by omega) (by omega) (by simpa using MapOK.nil)
    have hz:=entI_z l hn l.length 0 0 0 (by omega)
    simp only [Yf4,show Z8 []=[] from rfl,show J8 []=[] from rfl] at h
    simp -dsimp (disch:=first|omega|(simp only [A8,A2,A0]<;>omega)|fail) only [L.G1,go_sem,reduceIte,reduceCtorEq,D1,D2,D3,D4,D5,D6,D7,D8,D9,E2,E3,E4,E5,E6,E7,E8,E9,F0,F1,A5,hlen]
    rw [h]
    generalize (Zdn l l.length 0 0 0).1=w at *
    generalize (Zdn l l.length 0 0 0).2=z at *
    have w1:S E F.C6 [.bool (decide (1048576<(z:Int))),.int .i64 2] []=some (.int .i64 (if decide (1048576<z) then 2 else 0),[]):=by
      rw [show decide (1048576<(z:Int))=decide (1048576<z) from decide_eq_decide.2 (by omega)];exact S2
    have wl:=Zit (l:=[w,if decide (1048576<z) then 2 else 0]) (by simp)
    simp only [J8,Yed,Ygc,Yd9,Ye6] at wl
    simp -dsimp (disch:=first|omega|(simp only [A8,A2,A0]<;>omega)|fail) only [L.G1.r0,go_sem,reduceIte,reduceCtorEq,D1,D2,D3,D4,D5,D6,D7,D8,D9,E2,E3,E4,E5,E6,E7,E8,E9,F0,F1,A5,w1,wl]
end Cod
namespace Cod
open Go Go.RowKit Go.Proofs Go.Shelf
set_option maxRecDepth 1000000
def Zek (e:Ety):List UInt8:=K7 e.mode++[32]++e.name++[0]++e.id
def D0 (l:List Ety):List UInt8:=l.flatMap Zek
def Zdo (l:List Ety):Prop:=(∀ i,(eat l i).name.length≤1000000000)∧(∀ i,-9223372036854775808≤(eat l i).mode∧(eat l i).mode≤9223372036854775807)∧l.length≤1000000000
theorem Zkj {l:List Ety} (hl:Zdo l) {a:Option Addr} {cap:Nat} {w:World} (hW:Zcv w) (hv:VR (ctx [] LaE w) (.lst (J3 l) l.length) (.slice a l.length cap)) :
    Calls Tryz.prog 41 #[.slice a l.length cap] w fun e w'=>e=.returned (.int .i64 (V7 l))∧Below w.heap.size w w' :=
  Zxa Tryz.func41 (by rfl) (by kernel_rfl) (Zvm hl.1 hl.2.1 hl.2.2) hW (vs:=[.slice a l.length cap]) (by simp only [VRL];exact ⟨_,_,rfl,hv,rfl⟩) (fun c z hz=>by simpa [VR] using hz)
theorem Z1o {m:Int} (h0 : -9223372036854775808≤m) (h1:m≤9223372036854775807) {w:World} (hW:Zcv w) :
    Calls Tryz.prog 43 #[.int .i64 m,.int .i64 8] w fun e w'=>e=.returned (.string ⟨(K7 m).toArray⟩)∧Below w.heap.size w w' :=
  Zxa Tryz.func43 (by rfl) (by kernel_rfl) (Zei h0 h1) hW (vs:=[.int .i64 m,.int .i64 8]) (by simp [VRL,VR]) (fun c z hz=>by simpa [VR] using hz)
def Zb7 (e:Ety):List Value:=.int .i64 e.mode::.string ⟨e.name.toArray⟩::Lib.byteCells e.id
theorem Za9 (e:Ety):(Zb7 e).length=34:=by simp [Zb7,Lib.byteCells_length,e.hid]
theorem Z79 (e:Ety):(Zb7 e).toArray.all (·.oneCell')=true:=by
  rw [Array.all_eq_true_iff_forall_mem]
  intro v hv
  simp only [List.mem_toArray,Zb7,List.mem_cons] at hv
  rcases hv with rfl|rfl|hv
  · rfl
  · rfl
  · unfold Lib.byteCells at hv
    obtain ⟨b,_,rfl⟩:=List.mem_map.1 hv
    rfl
theorem Z1p {c:Ctx}:∀ {l:List UInt8} {vs:List Value},VRL c (A1 l) vs→vs=Lib.byteCells l:=by
  intro l
  induction l with
  | nil=>intro vs h;simp only [A1,Ygc,VRL] at h;rw [h];rfl
  | cons a l ih =>
    intro vs h
    simp only [A1,Yed,VRL] at h
    obtain ⟨v,r,rfl,h1,h2⟩:=h
    rw [ih h2]
    simp only [VR] at h1
    rw [h1];rfl
theorem Z1q {c:Ctx} {b o:Nat} {e:Ety} (h:VRC c b o e.cells):c.w.rangeAt b o (Zb7 e):=by
  obtain ⟨vs,h1,h2⟩:=Zc3 h
  unfold Ety.cells at h1
  simp only [VRL,VR] at h1
  obtain ⟨v0,r0,rfl,rfl,v1,r1,rfl,rfl,h3⟩:=h1
  rw [Z1p h3] at h2
  exact h2
theorem Zvn {B b:Nat} (hb:B≤b):∀ (vs:List Value) (o:Nat) {W w:World},Below B W w→Below B W (w.setCells b o vs):=by
  intro vs
  induction vs with
  | nil=>intro o W w h;exact h
  | cons v r ih=>intro o W w h;exact ih (o+1) (h.setCell (p:=⟨b,o,none⟩) hb v)
theorem Z1r (b:Nat):∀ (vs:List Value) (o:Nat) (w:World),(w.setCells b o vs).heap.size=w.heap.size:=by
  intro vs
  induction vs with
  | nil=>intro o w;rfl
  | cons v r ih=>intro o w;show ((w.setCell _ v).setCells b (o+1) r).heap.size=_;rw [ih];simp [World.setCell]
theorem Z8a {b:Nat} {T:TypeId}:∀ (vs:List Value) (o:Nat) (w:World),(∃ cs fr,w.heap[b]? = some (.cells cs T fr))→∃ cs fr,(w.setCells b o vs).heap[b]? = some (.cells cs T fr):=by
  intro vs
  induction vs with
  | nil=>intro o w h;exact h
  | cons v r ih =>
    intro o w h
    refine ih (o+1) _ ?_
    obtain ⟨cs,fr,h⟩:=h
    refine ⟨cs.setIfInBounds o v,fr,?_⟩
    simp only [World.setCell,Array.getElem?_modify,if_true,h]
    rfl
theorem Z1s {w:World} {B B':Nat} {e sz n:Nat} {v:Value} {xs:List Value} (h:w.ownsRow B e sz v n xs) (hB:B'≤B):w.ownsRow B' e sz v n xs:=by
  obtain ⟨h1,h2⟩:=h
  refine ⟨h1,?_⟩
  rcases h2 with h2|⟨g,cap,cur,q1,q2,q3⟩
  · exact .inl h2
  · exact .inr ⟨g,cap,cur,q1,Nat.le_trans hB q2,q3⟩
structure VarAt (wr W3:World) (T:TypeId) (vals:List Value):Prop where
  below:Below wr.heap.size wr W3
  size:W3.heap.size=wr.heap.size+1
  cell:∀ j v,vals[j]? = some v→W3.cell? ⟨wr.heap.size,j,none⟩=some v
  row:∃ cs fr,W3.heap[wr.heap.size]? = some (.cells cs T fr)
theorem Z1t (wr:World) (z:Array Value) (T:TypeId) (vals:List Value) (hz:z.size=vals.length):VarAt wr ((wr.alloc (.cells z T)).setCells wr.heap.size 0 vals) T vals:=by
  have hc:∀ j,j<vals.length→((wr.alloc (.cells z T)).cell? ⟨wr.heap.size,0+j,none⟩).isSome=true:=by
    intro j hj
    simp only [World.cell?,heap_alloc_new]
    rw [if_neg (by simp),Yen,Array.getElem?_eq_getElem (by omega)]
    rfl
  refine ⟨Zvn (Ydt _) _ _ ((Below.refl _ wr).alloc (Ydt _) _),?_,?_,Z8a _ _ _ ⟨_,_,heap_alloc_new wr _⟩⟩
  · rw [Z1r];exact Array.size_push _
  · intro j v hv
    have hj:=(List.getElem?_eq_some_iff.1 hv).1
    have:=World.cell?_setCells_in wr.heap.size vals 0 _ hc j hj
    rw [Yen] at this
    rw [this]
    rw [List.getElem?_eq_getElem hj] at hv
    exact hv
theorem Z8b {wr:World} {z:Array Value} {T:TypeId} {vals:List Value} (hz:z.size=vals.length) {p:World→Prop} (h:∀ W3,VarAt wr W3 T vals→p W3):p ((wr.alloc (.cells z T)).setCells wr.heap.size 0 vals):=h _ (Z1t wr z T vals hz)
theorem Zfq (e:Ety):(Zek e).length=(K7 e.mode).length+e.name.length+34:=by
  unfold Zek;simp [e.hid];omega
theorem Zvo (l:List Ety) (k:Nat):(D0 (l.take k)).length≤(D0 l).length:=by
  have h:D0 l=D0 (l.take k)++D0 (l.drop k):=by unfold D0;rw [←Yge,List.take_append_drop]
  rw [h,Yek];omega
theorem Zvp {l:List Ety} {k:Nat} (h:k<l.length):D0 (l.take (k+1))=D0 (l.take k)++Zek (eat l k):=by
  rw [Ygd h]
  unfold D0
  rw [Yge]
  simp [eat,List.getD,h]
theorem Zrk (l:List Ety):∀ (m i z:Nat) (w:Int),i+m=l.length→(Zdn l m i w z).2=z+(D0 (l.drop i)).length:=by
  intro m
  induction m with
  | zero =>
    intro i z w h
    rw [List.drop_eq_nil_of_le (by omega)]
    simp [Zdn,D0]
  | succ m ih =>
    intro i z w h
    have hlt:i<l.length:=by omega
    rw [Zdn,ih (i+1) _ _ (by omega),Yfw hlt]
    have he:eat l i=l[i]:=by simp [eat,List.getD,hlt]
    have e2:D0 (l[i]::l.drop (i+1))=Zek l[i]++D0 (l.drop (i+1)):=by unfold D0;rw [Yfu]
    rw [e2,Yek,Zfq,he]
    omega
theorem lst2_0 (w:Int):Zgh 0 w=w:=by
  unfold Zgh
  by_cases h:w=0
  · rw [h];simp
  · rw [if_pos ⟨h,.inl rfl⟩]
theorem minE2 {w e:Int} (h:Zdm [w,e]=0):e=0:=by
  have h1:Zgh (Zgh 0 w) e=0:=h
  rw [lst2_0] at h1
  unfold Zgh at h1
  by_cases he:e=0
  · exact he
  · split at h1
    · exact h1
    · rename_i h2
      exact absurd ⟨he,.inl h1⟩ h2
theorem Zap {l:List Ety} (h:V7 l=0):(D0 l).length≤1048576:=by
  unfold V7 at h
  split at h
  · omega
  · have h2:=minE2 h
    rw [Zrk l l.length 0 0 0 (by omega),Yfc] at h2
    split at h2
    · omega
    · rename_i h3
      simp at h3
      omega
theorem Zgi:∀ (l:List UInt8),∀ v∈Lib.byteCells l,v.oneCell'=true:=by
  intro l v hv
  unfold Lib.byteCells at hv
  obtain ⟨b,_,rfl⟩:=List.mem_map.1 hv
  rfl
theorem src_id {wr W3 W4 W5:World} {e:Ety} {T:TypeId} {b:Nat} (hva:VarAt wr W3 T (Zb7 e)) (hT:T≠5) (hb:b<wr.heap.size) (hk4:∀ j,j<W3.heap.size→W4.heap[j]? = W3.heap[j]?) (hk5:Lib.OthersKept 5 (some b) W4 W5) :
    ∀ j v,(Lib.byteCells e.id)[j]? = some v→W5.cell? ((⟨wr.heap.size,2,none⟩:Addr).add j)=some v:=by
  intro j v hj
  obtain ⟨cs,fr,hr⟩:=hva.row
  have hn1:wr.heap.size<W3.heap.size:=by rw [hva.size];omega
  have h4:W4.heap[wr.heap.size]? = some (.cells cs T fr):=(hk4 _ hn1).trans hr
  have h5:=hk5 _ _ h4 (by simp;omega) (fun c fz h=>by cases h;exact hT rfl)
  have hc:=hva.cell (j+2) v (by simpa [Zb7] using hj)
  rw [Addr.add_mid]
  simp only [World.cell?,hr,h5] at hc ⊢
  rw [Nat.add_comm];exact hc
theorem Zrl {T1 T2:ByteArray} {m:Int} {n:List UInt8} (d1:T1.data.toList=K7 m) (d2:T2.data.toList=n):(T1++⟨#[32]⟩++T2++⟨#[0]⟩).data.toList=K7 m++[32]++n++[0]:=by
  simp only [ByteArray.data_append,Array.toList_append,d1,d2]
theorem Zgj (a b:List UInt8):Lib.byteCells a++Lib.byteCells b=Lib.byteCells (a++b):=by simp [Lib.byteCells]
theorem Z8c {T1 T2:ByteArray} {l:List Ety} {k:Nat} (hk:k<l.length) (d1:T1.data.toList=K7 (eat l k).mode) (d2:T2.data.toList=(eat l k).name) :
    Lib.byteCells (D0 (l.take k))++Lib.byteCells (T1++⟨#[32]⟩++T2++⟨#[0]⟩).data.toList++Lib.byteCells (eat l k).id=Lib.byteCells (D0 (l.take (k+1))):=by
  rw [Zrl d1 d2,Zgj,Zgj,Zvp hk]
  congr 1
  simp [Zek]
theorem Zvq {B B':Nat} {a w:World} (h:Below B a w) (hB:B'≤B):Below B' a w:=⟨h.os,h.tape,h.output,h.size,fun k hk=>h.block k (Nat.lt_of_lt_of_le hk hB)⟩
theorem Zg3 {k:Nat} (h:k≤1000000000):wrap64 ((k:Int)+1)=((k+1:Nat):Int):=by
  unfold wrap64;omega
end Cod

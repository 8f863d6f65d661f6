/- What the run knows is so. -/
import Derived.Test.YthlnjgdoodjgoaaGreatDoorRows
import Derived.KernelRfl
import Derived.Test.YthlnjgdoodjgoaaGreatDoorXTxt1
import Derived.Test.YthlnjgdoodjgoaaGreatDoorXShelf1
import Derived.Test.YthlnjgdoodjgoaaGreatDoorXLit3
import Derived.Test.YthlnjgdoodjgoaaGreatDoorXCod1
set_option linter.unusedSimpArgs false
set_option linter.unusedVariables false
open List renaming any_cons → Yon, contains_cons → Yoo, drop_eq_getElem_cons → Yob, drop_of_length_le → Yoa, drop_zero → Ynr, flatMap_cons → Yn9, idxOf_cons → Yoe, length_append → Ymz, length_cons → Ymo, length_set → Yof, length_singleton → Yoh, mem_append → Yog, mem_cons_of_mem → Ync, mem_singleton → Ymq, take_of_length_le → Ymy
open Nat renaming div_eq_of_lt → Yot, le_refl → Yl8, min_eq_left → Yn1, min_eq_right → Yos
open Int renaming cast_ofNat_Int → Yoj, emod_eq_of_lt → Yoq, eq_ofNat_of_zero_le → You, natCast_add → Yop, natCast_pow → Yor
open Bool renaming and_assoc → Ym4, and_eq_true → Ymn, and_true → Ym7, false_and → Yom, false_or → Yol, not_false → Yod, not_true → Yoc, true_and → Yok
open Option renaming getD_some → Yng
open BitVec renaming toNat_ofInt → Yoi
open Nat renaming reduceEqDiff → C9, reduceAdd → D0, reduceSub → D1, reduceMul → D2, reduceDiv → D3, reduceMod → D4, reduceBEq → D5, reduceLeDiff → D6, reduceLT → D7
open Int renaming reduceEq → D8, reduceNe → D9, reduceLT → E2, reduceLE → E3, reduceBEq → E4, reduceBNe → E5, reduceToNat → E6, reduceAdd → E7, reduceSub → E8, reduceMul → E9, reduceNeg → A2
namespace Cod
open Go Go.RowKit Go.Proofs Go.Shelf
set_option maxRecDepth 100000
theorem fns_ok:Zk0 Tryz.prog E:=Zmm (by kernel_rfl) Z0e (fun _=>rfl)
theorem Z25 {E:Env} (hE:E.glob=U0):∀ p∈Zen,Zf8 Tryz.prog E p.1 p.2:=by
  unfold Zen
  exact Yj9 hE
theorem Yd5:Ze2 Tryz.prog E:=fun f h hf=>Z25 (E:=E) rfl (f,h) (Zf9 (show Zen.lookup f=some h from hf))
theorem Zg5 {f:Nat} {fn:Func} {c:Code} (hf:Tryz.prog.funcs[f]? = some fn) (hb:fn.body=some c) (hn:(fn.name == "runtime.NumGoroutine")=false) {args:List AV} {v:AV} (h:S E f args []=some (v,[]))
    {W:World} (hW:Z2 W) {vs:List Value} (hv:VRL (ctx [] LaE W) args vs) {y:Value} (hy:∀ c z,VR c v z→z=y):Calls Tryz.prog f vs.toArray W (fun e W'=>e=.returned y∧Below W.heap.size W W'):=by
  have hrel:Rel E W (H1 [] LaE) [] LaE [] LaE W:=⟨⟨fun s e he=>by simp [A6] at he,fun s s' e e' b o o' he=>by simp [A6] at he⟩,Keep.refl _ _,fun b hb=>.inl hb,hW,fun x e he=>by simp [A6] at he,fun b hb=>.inl hb,rfl,fun b hb=>hb.elim⟩
  refine (Zi9 hf hb hn (Zhr Yd5 fns_ok h LaE hrel hv)).mono ?_
  rintro e W' ⟨z,rfl,La',h1,h2⟩
  rw [hy _ _ h2]
  exact ⟨rfl,Z0u h1.keep⟩
end Cod
namespace Cod
open Go Go.Proofs Go.Proofs.YthlnjgdoodjgoaaGreatDoor
set_option maxRecDepth 100000
theorem Zv4 {α β:Type} [BEq α] [LawfulBEq α] {a : α} {b : β}:∀ {l:List (α × β)},l.lookup a=some b→(a,b)∈l:=by
  intro l
  induction l with
  | nil=>intro h;simp at h
  | cons x l ih =>
    intro h
    rw [List.lookup_cons] at h
    split at h
    · rename_i he
      rw [beq_iff_eq] at he
      cases h
      rw [he];exact List.mem_cons_self
    · exact Ync _ (ih h)
theorem own:ownKnob Tryz.prog.godebug=none:=by kernel_rfl
theorem Yka:laidOutB Tryz.prog=true:=by kernel_rfl
theorem Z7c:Tryz.prog.underlying 4=some .bool:=Tryz.underlying4
mutual
theorem Zd6 {H:Type}:∀ d:DataW H,Rows.uptoBulk d=P1 d
  | .lit (.string _)=>by simp [Rows.uptoBulk,P1]
  | .lit (.bool _)=>by simp [Rows.uptoBulk,P1]
  | .lit (.int _ _)=>by simp [Rows.uptoBulk,P1]
  | .lit (.float _ _)=>by simp [Rows.uptoBulk,P1]
  | .lit .nil=>by simp [Rows.uptoBulk,P1]
  | .nil=>by simp [Rows.uptoBulk,P1]
  | .ptr d=>by simp [Rows.uptoBulk,P1,Zd6 d]
  | .slice a b=>by simp [Rows.uptoBulk,P1,bulkAll_eq a,bulkAll_eq b]
  | .agg a=>by simp [Rows.uptoBulk,P1,bulkAll_eq a]
  | .iface _ d=>by simp [Rows.uptoBulk,P1,Zd6 d]
  | .map l=>by simp [Rows.uptoBulk,P1,bulkEntries_eq l]
  | .held _=>by simp [Rows.uptoBulk,P1]
theorem bulkAll_eq {H:Type}:∀ l:List (DataW H),Rows.uptoBulkAll l=dbulkAll l
  | []=>by simp [Rows.uptoBulkAll,dbulkAll]
  | d::r=>by simp [Rows.uptoBulkAll,dbulkAll,Zd6 d,bulkAll_eq r]
theorem bulkEntries_eq {H:Type}:∀ l:List (Lit × DataW H),Rows.uptoBulkEntries l=dbulkEntries l
  | []=>by simp [Rows.uptoBulkEntries,dbulkEntries]
  | d::r=>by simp [Rows.uptoBulkEntries,dbulkEntries,bulkEntry_eq d,bulkEntries_eq r]
theorem bulkEntry_eq {H:Type}:∀ x:Lit × DataW H,Rows.uptoBulkEntry x=dbulkEntry x
  | (.string _,d)=>by simp [Rows.uptoBulkEntry,dbulkEntry,Zd6 d]
  | (.bool _,d)=>by simp [Rows.uptoBulkEntry,dbulkEntry,Zd6 d]
  | (.int _ _,d)=>by simp [Rows.uptoBulkEntry,dbulkEntry,Zd6 d]
  | (.float _ _,d)=>by simp [Rows.uptoBulkEntry,dbulkEntry,Zd6 d]
  | (.nil,d)=>by simp [Rows.uptoBulkEntry,dbulkEntry,Zd6 d]
end
def Yd6:List Int:=Zr9.map fun x=>(x.toNat:Int)
theorem kWords:C8 Zr9=Yd6.map fun z=>AV.int .u32 z:=by kernel_rfl
theorem kLaid:(Rows.laid_codicil_sha_k:DataW Unit)=Lib.tabData .u32 Yd6:=by kernel_rfl
theorem gK:Tryz.prog.globalNamed "codicil/sha.k" = some G.Zve:=by kernel_rfl
theorem Ykb {W:World} {l:List (String × DataW Unit)} (h:laidMetH Tryz.prog l W) (hm:("codicil/sha.k",Rows.laid_codicil_sha_k)∈l):GV (ctx [] La0 W) G.Zve (C8 Zr9):=by
  rw [kWords]
  exact Zja (Zd5 (n:=64) h (kLaid▸hm) gK (by kernel_rfl) (t:=162) (e:=131) (by kernel_rfl) (by kernel_rfl) (by kernel_rfl) (by kernel_rfl)) gK (by simp [Yd6,Zr9])
theorem Yd7:(Rows.laid_unicode_asciiFold:DataW Unit)=Lib.tabData .u16 Zlq:=by kernel_rfl
theorem gF:Tryz.prog.globalNamed "unicode.asciiFold" = some G.Zc3:=by kernel_rfl
theorem Yd8 {W:World} {l:List (String × DataW Unit)} (h:laidMetH Tryz.prog l W) (hm:("unicode.asciiFold",Rows.laid_unicode_asciiFold)∈l):GV (ctx [] La0 W) G.Zc3 (Zlq.map fun z=>.int .u16 z) :=
  Zja (Zd5 (n:=128) h (Yd7▸hm) gF (by kernel_rfl) (t:=209) (e:=208) (by kernel_rfl) (by kernel_rfl) (by kernel_rfl) (by kernel_rfl)) gF (by simp [Zlq])
theorem Ykc:(Rows.laid_internal_strconv_uint64pow10:DataW Unit)=Lib.tabData .u64 Lib.pow10Tab:=by kernel_rfl
theorem gP:Tryz.prog.globalNamed "internal/strconv.uint64pow10" = some G.Zbg:=by kernel_rfl
theorem Ykd {W:World} {l:List (String × DataW Unit)} (h:laidMetH Tryz.prog l W) (hm:("internal/strconv.uint64pow10",Rows.laid_internal_strconv_uint64pow10)∈l):GV (ctx [] La0 W) G.Zbg (Lib.pow10Tab.map fun z=>.int .u64 z) :=
  Zja (Zd5 (n:=20) h (Ykc▸hm) gP (by kernel_rfl) (t:=196) (e:=164) (by kernel_rfl) (by kernel_rfl) (by kernel_rfl) (by kernel_rfl)) gP (by simp [Lib.pow10Tab])
theorem Yd9 {W:World} {l:List (String × DataW Unit)} (h:laidMetH Tryz.prog l W) (hm:("strconv.ErrSyntax",Rows.laid_strconv_ErrSyntax)∈l):GV (ctx [] La0 W) G.Zc1 [.any none] :=
  Zvk h hm (by rfl) (by kernel_rfl) (t:=85) (by kernel_rfl) (by kernel_rfl)
theorem Z7d {W:World} {l:List (String × DataW Unit)} (h:laidMetH Tryz.prog l W) (hm:("strconv.ErrRange",Rows.laid_strconv_ErrRange)∈l):GV (ctx [] La0 W) G.Zc2 [.any none] :=
  Zvk h hm (by rfl) (by kernel_rfl) (t:=85) (by kernel_rfl) (by kernel_rfl)
theorem Yke {W:World} (h:W.ShapedOpen Tryz.prog):GV (ctx [] La0 W) G.V7 [.any (some .i64)] :=
  Z0j h (of_decide_eq_true (by kernel_rfl)) (by kernel_rfl) (Go.Proofs.cell_of_shapedOpen_int (zero := #[.int .i64 0]) (t:=3) h (of_decide_eq_true (by kernel_rfl)) (by kernel_rfl) rfl (by kernel_rfl) (by kernel_rfl) Tryz.underlying3)
theorem Ykf:(Rows.laid_math_bits_deBruijn64tab:DataW Unit)=Lib.tabData .u8 Zsb:=by kernel_rfl
theorem gB:Tryz.prog.globalNamed "math/bits.deBruijn64tab" = some G.Zc4:=by kernel_rfl
theorem Ykg {W:World} {l:List (String × DataW Unit)} (h:laidMetH Tryz.prog l W) (hm:("math/bits.deBruijn64tab",Rows.laid_math_bits_deBruijn64tab)∈l):GV (ctx [] La0 W) G.Zc4 (Zsb.map fun z=>.int .u8 z) :=
  Zja (Zd5 (n:=64) h (Ykf▸hm) gB (by kernel_rfl) (t:=134) (e:=5) (by kernel_rfl) (by kernel_rfl) (by kernel_rfl) (by kernel_rfl)) gB (by simp [Zsb])
theorem Ykh {W:World} (h:∀ p∈Zls,GV (ctx [] La0 W) p.1 p.2):Zms E W:=by
  intro n
  show GV _ n (U0 n)
  unfold U0
  cases hl:Zls.lookup n with
  | none=>exact Z63
  | some l=>exact h _ (Zv4 hl)
theorem Yki {W:World} {l:List (String × DataW Unit)} (h:laidMetH Tryz.prog l W) (hs:W.ShapedOpen Tryz.prog) (hk:("codicil/sha.k",Rows.laid_codicil_sha_k)∈l) (hf:("unicode.asciiFold",Rows.laid_unicode_asciiFold)∈l) (hp:("internal/strconv.uint64pow10",Rows.laid_internal_strconv_uint64pow10)∈l) (h1:("strconv.ErrSyntax",Rows.laid_strconv_ErrSyntax)∈l) (h2:("strconv.ErrRange",Rows.laid_strconv_ErrRange)∈l) (hb:("math/bits.deBruijn64tab",Rows.laid_math_bits_deBruijn64tab)∈l):Zms E W:=by
  refine Ykh ?_
  unfold Zls
  refine List.forall_mem_cons.2 ⟨Ykb h hk,?_⟩
  refine List.forall_mem_cons.2 ⟨Yd8 h hf,?_⟩
  refine List.forall_mem_cons.2 ⟨Ykd h hp,?_⟩
  refine List.forall_mem_cons.2 ⟨Yd9 h h1,?_⟩
  refine List.forall_mem_cons.2 ⟨Z7d h h2,?_⟩
  refine List.forall_mem_cons.2 ⟨Yke hs,?_⟩
  refine List.forall_mem_cons.2 ⟨Ykg h hb,?_⟩
  exact fun p h=>nomatch h
end Cod
namespace Cod
open Go
end Cod
namespace Cod
open Go
theorem flatsA (a b:List AV):flats (a++b)=(flats a&&flats b):=by
  induction a with
  | nil=>simp [flats]
  | cons x a ih=>simp [flats,ih,Ym4]
theorem hardsA (a b:List AV):H8 (a++b)=(H8 a&&H8 b):=by
  induction a with
  | nil=>simp [H8]
  | cons x a ih=>simp [H8,ih,Ym4]
theorem Ykj (a b:List AV):leadss (a++b)=(leadss a||leadss b):=by
  induction a with
  | nil=>simp [leadss]
  | cons x a ih=>simp [leadss,ih,Bool.or_assoc]
theorem Yea (a b:List AV):refsOfs (a++b)=refsOfs a++refsOfs b:=by
  induction a with
  | nil=>simp [refsOfs]
  | cons x a ih=>simp [refsOfs,ih]
theorem rensA (f:Site→Nat→Option (Site × Nat)) (a b:List AV):rens f (a++b)=rens f a++rens f b:=by
  induction a with
  | nil=>simp [rens]
  | cons x a ih=>simp [rens,ih]
section
variable {α:Type} {f : α→List AV} {n:Nat}
theorem Zgc (hn:∀ a,(f a).length=n) (l:List α):(l.flatMap f).length=n*l.length:=by
  induction l with
  | nil=>simp
  | cons s l ih=>rw [Yn9,Ymz,ih,hn,Ymo,Nat.mul_add];omega
theorem Zfd (h:∀ a,flats (f a)=true) (l:List α):flats (l.flatMap f)=true:=by
  induction l with
  | nil=>rfl
  | cons s l ih=>rw [Yn9,flatsA,ih,h];rfl
theorem Zfe (h:∀ a,H8 (f a)=true) (l:List α):H8 (l.flatMap f)=true:=by
  induction l with
  | nil=>rfl
  | cons s l ih=>rw [Yn9,hardsA,ih,h];rfl
theorem Zd7 (h:∀ a,leadss (f a)=false) (l:List α):leadss (l.flatMap f)=false:=by
  induction l with
  | nil=>rfl
  | cons s l ih=>rw [Yn9,Ykj,ih,h];rfl
theorem Zg6 (h:∀ a,refsOfs (f a)=[]) (l:List α):refsOfs (l.flatMap f)=[]:=by
  induction l with
  | nil=>rfl
  | cons s l ih=>rw [Yn9,Yea,ih,h];rfl
theorem Zg7 (g:Site→Nat→Option (Site × Nat)) (h:∀ a,rens g (f a)=f a) (l:List α):rens g (l.flatMap f)=l.flatMap f:=by
  induction l with
  | nil=>rfl
  | cons s l ih=>rw [Yn9,rensA,ih,h]
theorem Z7e (hn:∀ a,(f a).length=n) (l:List α) (i:Nat):(l.flatMap f).drop (i*n)=(l.drop i).flatMap f:=by
  induction i generalizing l with
  | zero=>simp
  | succ i ih =>
    cases l with
    | nil=>simp
    | cons s l =>
      have h1:(i+1)*n=(f s).length+i*n:=by rw [hn,Nat.add_mul];omega
      rw [Yn9,h1,List.drop_append,Yoa (by omega),List.nil_append,show (f s).length+i*n-(f s).length=i*n by omega,ih]
      rfl
variable [Inhabited α]
theorem Z7f {l:List α} {i:Nat} (h:i<l.length):l.drop i=l.getD i default::l.drop (i+1):=by
  rw [List.getD_eq_getElem?_getD,List.getElem?_eq_getElem h,Yng]
  exact Yob h
theorem Zmz (hn:∀ a,(f a).length=n) {l:List α} {i:Nat} (h:i<l.length):sub (l.flatMap f) (i*n) n=f (l.getD i default):=by
  rw [sub,Z7e hn,Z7f h,Yn9,List.take_append_of_le_length (by rw [hn];exact Yl8 _),Ymy (by rw [hn];exact Yl8 _)]
end
theorem Zbi (l:List (List UInt8)):Zbw l=l.flatMap fun s=>[.str s]:=by
  induction l with
  | nil=>rfl
  | cons s l ih=>rw [Yn9,←ih];rfl
theorem Zdp (l:List (List UInt8)):flats (Zbw l)=true:=by rw [Zbi];exact Zfd (fun _=>rfl) l
theorem Zdq (l:List (List UInt8)):H8 (Zbw l)=true:=by rw [Zbi];exact Zfe (fun _=>rfl) l
theorem Zce (l:List (List UInt8)):leadss (Zbw l)=false:=by rw [Zbi];exact Zd7 (fun _=>rfl) l
theorem Zbj (l:List (List UInt8)):refsOfs (Zbw l)=[]:=by rw [Zbi];exact Zg6 (fun _=>rfl) l
theorem Zep (f:Site→Nat→Option (Site × Nat)) (l:List (List UInt8)):rens f (Zbw l)=Zbw l:=by rw [Zbi];exact Zg7 f (fun _=>rfl) l
theorem Zeq (l:List (List UInt8)) (s:List UInt8):Zbw l++[.str s]=Zbw (l++[s]):=by simp [Zbw]
theorem Zgd {l:List (List UInt8)} {i:Nat} (h:i<l.length):(Zbw l)[i]? = some (.str (l.getD i [])):=by simp [Zbw,h]
end Cod
namespace Cod
open Go
structure Ety where
  mode:Int
  name:List UInt8
  id:List UInt8
  hid:id.length=32
def Ety.cells (e:Ety):List AV:=.int .i64 e.mode::.str e.name::A0 e.id
theorem R6 (e:Ety):e.cells.length=34:=by simp [Ety.cells,C2,e.hid]
theorem Zkc (e:Ety):flats e.cells=true:=by simp [Ety.cells,flats,L4,V8]
theorem Zv5 (f:Site→Nat→Option (Site × Nat)) (e:Ety):rens f e.cells=e.cells:=rens_flats _ (Zkc e)
theorem Zv6 (e:Ety):refsOfs e.cells=[]:=by simp [Ety.cells,refsOfs,Y0,X1]
theorem Zor (e:Ety):H8 e.cells=true:=by simp [Ety.cells,H8,R7,V9]
theorem Zos (e:Ety):leadss e.cells=false:=by simp [Ety.cells,leadss,Q9,X0]
theorem Ykk (e:Ety):sub e.cells 0 34=e.cells:=X8 (by rw [R6];exact Yl8 _)
theorem ety_0 (e:Ety):e.cells[0]? = some (.int .i64 e.mode):=rfl
theorem ety_1 (e:Ety):e.cells[1]? = some (.str e.name):=rfl
attribute [go_sem] R6 Zkc Zv5 Zv6 Zor Zos Ykk ety_0 ety_1
def Zht (e:Ety):List UInt8:=if e.mode=16384 then e.name++[47] else e.name
theorem Z7g:∀ a:List UInt8,Op.bytesLess a a=false:=by
  intro a
  induction a with
  | nil=>rfl
  | cons x a ih=>rw [Op.bytesLess,ih];simp
theorem Z26 {a b:List UInt8}:S E F.Q2 [.str a,.str b] []=some (.int .i64 (Zr8 a b),[]):=by
  have hn (x:List UInt8):S E F.Q4 [.str x] []=some (.bool false,[]):=by
    have hb:(x==x)=true:=by simp
    rw [S_of Zrs rfl rfl]
    simp -dsimp (disch:=first|omega|(simp only [A4]<;>omega)|fail) only [L.Q4,go_sem,reduceIte,reduceCtorEq,C9,D0,D1,D2,D3,D4,D5,D6,D7,D8,D9,E2,E3,E4,E5,E6,E7,E8,E9,A2,hb,Yoc]
  rw [S_of Zrj rfl rfl]
  unfold Zr8
  by_cases he:a=b
  · subst he
    have hs:(a==a)=true:=by simp
    simp -dsimp (disch:=first|omega|(simp only [A4]<;>omega)|fail) only [L.Q2,go_sem,reduceIte,reduceCtorEq,C9,D0,D1,D2,D3,D4,D5,D6,D7,D8,D9,E2,E3,E4,E5,E6,E7,E8,E9,A2,hn,Z7g,hs,Yoc]
  · have hs:(a==b)=false:=by simp [he]
    rw [if_neg he]
    cases c1:Op.bytesLess a b<;>simp -dsimp (disch:=first|omega|(simp only [A4]<;>omega)|fail) only [L.Q2,go_sem,reduceIte,reduceCtorEq,C9,D0,D1,D2,D3,D4,D5,D6,D7,D8,D9,E2,E3,E4,E5,E6,E7,E8,E9,A2,hn,c1,hs,Yod]
theorem Zot {a b:Ety} (ha:a.name.length≤1000000000000) (hb:b.name.length≤1000000000000):S E F.S9 [.agg a.cells,.agg b.cells] []=some (.int .i64 (Zr8 (Zht a) (Zht b)),[]):=by
  rw [S_of Zra rfl rfl]
  unfold Zht
  by_cases h1:a.mode=16384
  · by_cases h2:b.mode=16384<;>simp -dsimp (disch:=first|omega|(simp only [A4]<;>omega)|fail) only [L.S9,go_sem,reduceIte,reduceCtorEq,C9,D0,D1,D2,D3,D4,D5,D6,D7,D8,D9,E2,E3,E4,E5,E6,E7,E8,E9,A2,h1,h2,Z26]
  · by_cases h2:b.mode=16384<;>simp -dsimp (disch:=first|omega|(simp only [A4]<;>omega)|fail) only [L.S9,go_sem,reduceIte,reduceCtorEq,C9,D0,D1,D2,D3,D4,D5,D6,D7,D8,D9,E2,E3,E4,E5,E6,E7,E8,E9,A2,h1,h2,Z26]
end Cod
namespace Cod
open Go
instance:Inhabited Ety:=⟨0,[],List.replicate 32 0,by simp⟩
def O8 (l:List Ety):List AV:=l.flatMap Ety.cells
def eat (l:List Ety) (i:Nat):Ety:=l.getD i default
theorem A9 (l:List Ety):(O8 l).length=34*l.length:=Zgc R6 l
theorem Zm0:O8 []=[]:=rfl
theorem Z7h (a:List Ety) (s:Ety):O8 a++s.cells=O8 (a++[s]):=by simp [O8]
theorem Z0v (l:List Ety):flats (O8 l)=true:=Zfd Zkc l
theorem Z0w (l:List Ety):H8 (O8 l)=true:=Zfe Zor l
theorem Zv7 (l:List Ety):leadss (O8 l)=false:=Zd7 Zos l
theorem Zsi (l:List Ety):refsOfs (O8 l)=[]:=Zg6 Zv6 l
theorem Z7i (f:Site→Nat→Option (Site × Nat)) (l:List Ety):rens f (O8 l)=O8 l:=Zg7 f (Zv5 f) l
theorem Zv8 {l:List Ety} {i:Nat} (h:i<l.length):sub (O8 l) (i*34) 34=(eat l i).cells:=Zmz R6 h
theorem ety0z:(AV.int .i64 0::.str []::zer (.int .u8 0) 32)=(default:Ety).cells:=rfl
theorem ety0b:(AV.int .i64 0::.str []::A0 (List.replicate 32 0))=(default:Ety).cells:=rfl
theorem Zm1 (a b:Ety):over a.cells 0 b.cells=b.cells:=by
  unfold over;exact Zg1 (by rw [R6,R6])
theorem ety_id (e:Ety):sub e.cells 2 32=A0 e.id:=by
  simp only [sub,Ety.cells,List.drop_succ_cons,Ynr]
  exact Ymy (by rw [C2,e.hid];exact Yl8 _)
theorem Yeb (e:Ety):e.cells.take 34=e.cells:=Ymy (by rw [R6];exact Yl8 _)
attribute [go_sem] A9 Z0v Z0w Zv7 Zsi Z7i Zv8 ety0z ety0b Zm1 ety_id Yeb
end Cod
namespace Cod
open Go
def N5 (l:List Int):List AV:=l.map (.int .i64)
theorem A5 (l:List Int):(N5 l).length=l.length:=by simp [N5]
theorem Zhu (n:List UInt8):∀ (ks:List (List UInt8)) (j:Nat),Zae true (.str n) (Zbw ks) j=some (if n∈ks then some (j+ks.idxOf n) else none):=by
  intro ks
  induction ks with
  | nil=>intro j;rfl
  | cons k ks ih =>
    intro j
    show Zae true (.str n) (.str k::Zbw ks) j=_
    unfold Zae
    by_cases h:n=k
    · subst h
      simp [Zh1]
    · have e:Zh1 true (.str n) (.str k)=some false:=by simp [Zh1,h]
      rw [e]
      simp only
      rw [ih (j+1)]
      by_cases hm:n∈ks
      · have e2:(k::ks).idxOf n=ks.idxOf n+1:=by
          rw [Yoe]
          have:(k==n)=false:=by simp [Ne.symm h]
          rw [this];rfl
        rw [if_pos hm,if_pos (Ync _ hm),e2]
        congr 2;omega
      · rw [if_neg hm,if_neg (by simp [h,hm])]
structure MapOK (seen:List (List UInt8)) (ks:List (List UInt8)) (vs:List Int):Prop where
  len:vs.length=ks.length
  mem:∀ n,n∈ks↔n∈seen
  pos:∀ v∈vs,1≤v∧v≤seen.length
theorem MapOK.nil:MapOK [] [] []:=⟨rfl,fun _=>Iff.rfl,fun v h=>by simp at h⟩
theorem MapOK.old {seen ks:List (List UInt8)} {vs:List Int} (h:MapOK seen ks vs) {n:List UInt8} (hn:n∈ks):∃ v,vs[ks.idxOf n]? = some v∧1≤v∧v≤seen.length∧MapOK (seen++[n]) ks (vs.set (ks.idxOf n) (v+1)):=by
  have hi:ks.idxOf n<vs.length:=by rw [h.len];exact List.idxOf_lt_length_of_mem hn
  obtain ⟨v,hv⟩:∃ v,vs[ks.idxOf n]? = some v:=⟨_,List.getElem?_eq_getElem hi⟩
  obtain ⟨p1,p2⟩:=h.pos v (List.mem_of_getElem? hv)
  refine ⟨v,hv,p1,p2,⟨by rw [Yof];exact h.len,?_,?_⟩⟩
  · intro m
    rw [h.mem,Yog,Ymq]
    constructor
    · exact .inl
    · rintro (h1|h1)
      · exact h1
      · rw [h1];exact (h.mem n).1 hn
  · intro x hx
    rw [Ymz,Yoh]
    rcases List.mem_or_eq_of_mem_set hx with h1|h1
    · have:=h.pos x h1;omega
    · omega
theorem MapOK.new {seen ks:List (List UInt8)} {vs:List Int} (h:MapOK seen ks vs) {n:List UInt8} (hn:n∉ks):MapOK (seen++[n]) (ks++[n]) (vs++[1]):=by
  refine ⟨by simp [h.len],?_,?_⟩
  · intro m
    simp only [Yog,Ymq,h.mem]
  · intro x hx
    rw [Ymz,Yoh]
    rcases List.mem_append.1 hx with h1|h1
    · have:=h.pos x h1;omega
    · rw [List.mem_singleton.1 h1];omega
end Cod
namespace Cod
open Go
def Zm2:Nat→Nat→List UInt8→List UInt8
  | 0,_,acc=>acc
  | f+1,u,acc=>if u<8 then byt (48+(u:Int))::acc else Zm2 f (u/8) (byt (48+(u%8:Nat))::acc)
def Zac (m:Int):List UInt8:=(if m<0 then [45] else [])++Zm2 22 m.natAbs []
theorem Yec:∀ (f u:Nat) (acc:List UInt8),(Zm2 f u acc).length≤f+acc.length:=by
  intro f
  induction f with
  | zero=>intro u acc;simp [Zm2]
  | succ f ih =>
    intro u acc
    unfold Zm2
    split
    · simp;omega
    · have:=ih (u/8) (byt (48+(u%8:Nat))::acc)
      simp only [Ymo] at this
      omega
theorem Zm3 (m:Int):(Zac m).length≤23:=by
  unfold Zac
  have:=Yec 22 m.natAbs []
  rw [Ymz]
  simp only [List.length_nil] at this
  split<;>simp<;>omega
end Cod
namespace Cod
open Go
set_option maxRecDepth 100000
theorem tz8:S E F.Zbd [.int .u64 8] []=some (.int .i64 3,[]):=Zdl.2 ⟨60,by kernel_rfl⟩
theorem pow8:S E F.Zbc [.int .i64 8] []=some (.bool true,[]):=Zdl.2 ⟨60,by kernel_rfl⟩
def Yed:List UInt8:=[48,49,50,51,52,53,54,55,56,57,97,98,99,100,101,102,103,104,105,106,107,108,109,110,111,112,113,114,115,116,117,118,119,120,121,122]
theorem Zv9:∀ u:Nat,u<8→bat Yed u=48+(u:Int):=by decide
def Zkd (i:Nat) (acc:List UInt8):List UInt8:=List.replicate i 0++acc
theorem Z3 (i:Nat) (acc:List UInt8):(Zkd i acc).length=i+acc.length:=by simp [Zkd]
theorem Zge (i:Nat) (acc:List UInt8) (b:UInt8):(Zkd (i+1) acc).set i b=Zkd i (b::acc):=by
  unfold Zkd
  rw [List.replicate_succ',List.append_assoc,List.set_append_right _ _ (by simp)]
  simp
theorem and7 (u:Nat) (h:u<18446744073709551616):Zza .u64 (u:Int) 7=((u%8:Nat):Int):=by
  unfold Zza
  have e:(BitVec.ofInt IntKind.u64.bits (u:Int) &&& BitVec.ofInt IntKind.u64.bits 7).toNat=u%8:=by
    rw [BitVec.toNat_and,Yoi,Yoi]
    show ((u:Int)%18446744073709551616).toNat &&& 7=u%8
    rw [show ((u:Int)%18446744073709551616).toNat=u by omega]
    exact Nat.and_two_pow_sub_one_eq_mod u 3
  rw [e,wrap_u64 (by omega) (by omega)]
theorem shr3 (u:Nat):Zuw .u64 (u:Int) 3=((u/8:Nat):Int):=by
  have:=Zvq (k:=.u64) (a:=(u:Int)) (n:=3) (by decide)
  simp only [Yoj] at this
  rw [this]
  omega
theorem fmt_l0 (k:List It) (b:Bool):∀ (f u i:Nat) (acc:List UInt8),u<8^f→u<18446744073709551616→f≤i→1≤f→i+acc.length=65 →
    ∃ (i' u':Nat) (acc':List UInt8),u' < 8∧1≤i'∧i'+acc'.length=65∧byt (48+(u':Int))::acc'=Zm2 f u acc∧i+1≤f+i' ∧
    X E [.tmp 10,.tmp 11] (.c L.C6.x0::.lp [0,1,3,4,10,11,12,13,14,15,16] L.C6.x0::.blk 0::k) ⟨[(0,.nils),(1,.int .u64 u),(3,.bool b),(4,.bool false),(10,.buf (.s 1000000 0) 0 0 0 1),(11,.str []),(12,.ref (.s 1000000 1) 0 0),(13,.int .i64 i),(14,.int .u64 3),(15,.int .u64 8),(16,.int .u64 7)],[(.s 1000000 0,⟨0,true,true,false,[]⟩),(.s 1000000 1,⟨0,true,true,true,A0 (Zkd i acc)⟩)]⟩ =
    X E [.tmp 10,.tmp 11] k ⟨[(0,.nils),(1,.int .u64 u'),(3,.bool b),(4,.bool false),(10,.buf (.s 1000000 0) 0 0 0 1),(11,.str []),(12,.ref (.s 1000000 1) 0 0),(13,.int .i64 i'),(14,.int .u64 3),(15,.int .u64 8),(16,.int .u64 7),(46,.bool false)],[(.s 1000000 0,⟨0,true,true,false,[]⟩),(.s 1000000 1,⟨0,true,true,true,A0 (Zkd i' acc')⟩)]⟩:=by
  intro f
  induction f with
  | zero=>intro u i acc hu h64 hi h1;omega
  | succ f ih =>
    intro u i acc hu h64 hi _ hl
    rw [N4 L.C6.x0.eq_1]
    by_cases h8:u<8
    · refine ⟨i,u,acc,h8,by omega,hl,by rw [Zm2,if_pos h8],by omega,?_⟩
      simp -dsimp (disch:=first|omega|(simp only [A4,Z3]<;>omega)|fail) only [go_sem,reduceIte,reduceCtorEq,C9,D0,D1,D2,D3,D4,D5,D6,D7,D8,D9,E2,E3,E4,E5,E6,E7,E8,E9,A2,BYs,h8]
    · have hf:1≤f:=by
        rcases Nat.eq_zero_or_pos f with rfl|h
        · simp at hu;omega
        · exact h
      obtain ⟨j,rfl⟩:∃ j,i=j+1:=⟨i-1,by omega⟩
      have hmod:=Zv9 (u%8) (by omega)
      obtain ⟨i',u',acc',q1,q2,q3,q4,q5,q6⟩:=ih (u/8) j (byt (48+(u%8:Nat))::acc) (by rw [Nat.pow_succ] at hu;omega) (by omega) (by omega) hf (by rw [Ymo];omega)
      refine ⟨i',u',acc',q1,q2,q3,by rw [Zm2,if_neg h8];exact q4,by omega,?_⟩
      rw [←q6]
      have e1:((j+1:Nat):Int)-1=j:=by omega
      have e2:Zza .u64 (u:Int) 7=((u%8:Nat):Int):=and7 u h64
      have e3:Zuw .u64 (u:Int) 3=((u/8:Nat):Int):=shr3 u
      unfold Yed at hmod
      have e4:UInt8.ofNat (48+((u%8:Nat):Int)).toNat=byt (48+((u%8:Nat):Int)):=rfl
      simp -dsimp (disch:=first|omega|(simp only [A4,Z3]<;>omega)|fail) only [go_sem,reduceIte,reduceCtorEq,C9,D0,D1,D2,D3,D4,D5,D6,D7,D8,D9,E2,E3,E4,E5,E6,E7,E8,E9,A2,BYs,h8,e1,e2,e3,Z1,hmod,e4,Zge]
theorem Zou (i:Nat) (acc:List UInt8):sub (Zkd i acc) i acc.length=acc:=by
  unfold Zkd sub
  rw [List.drop_left' (by simp),List.take_length]
theorem Zm4 {u:Nat} {b:Bool} (h64:u≤9223372036854775808):S E F.C6 [.nils,.int .u64 (if b then (if u=0 then 0 else 18446744073709551616-(u:Int)) else u),.int .i64 8,.bool b,.bool false] []=some (.tup [.buf (.r 0) 0 0 0 1,.str ((if b then [45] else [])++Zm2 22 u [])],[(.r 0,⟨0,true,true,false,[]⟩)]):=by
  have h22:(8:Nat)^22=73786976294838206464:=by decide
  obtain ⟨i',u',acc',q1,q2,q3,q4,q5,q6⟩:=fmt_l0 [.c L.C6.r0,.c L.C6.r2] b 22 u 65 [] (by omega) (by omega) (by omega) (by omega) rfl
  obtain ⟨j,rfl⟩:∃ j,i'=j+1:=⟨i' - 1,by omega⟩
  have hmod:=Zv9 u' q1
  unfold Yed at hmod
  have e1:((j+1:Nat):Int)-1=j:=by omega
  have e4:UInt8.ofNat (48+(u':Int)).toNat=byt (48+(u':Int)):=rfl
  have e5:Zkd 65 []=List.replicate 65 0:=by simp [Zkd]
  rw [e5] at q6
  simp only [Yoj] at q6
  have hs1:sub (Zkd j (byt (48+(u':Int))::acc')) j (65-j)=Zm2 22 u []:=by
    rw [←q4,show 65-j=(byt (48+(u':Int))::acc').length by rw [Ymo];omega]
    exact Zou j _
  rw [S_of Zrk rfl rfl]
  cases b with
  | false =>
    simp -dsimp (disch:=first|omega|(simp only [A4,Z3]<;>omega)|fail) only [L.C6,go_sem,reduceIte,reduceCtorEq,C9,D0,D1,D2,D3,D4,D5,D6,D7,D8,D9,E2,E3,E4,E5,E6,E7,E8,E9,A2,BYs,tz8,pow8]
    rw [q6]
    simp -dsimp (disch:=first|omega|(simp only [A4,Z3]<;>omega)|fail) only [L.C6.r0,go_sem,reduceIte,reduceCtorEq,C9,D0,D1,D2,D3,D4,D5,D6,D7,D8,D9,E2,E3,E4,E5,E6,E7,E8,E9,A2,BYs,e1,hmod,e4,Zge,Z1]
    simp -dsimp (disch:=first|omega|(simp only [A4,Z3]<;>omega)|fail) only [L.C6.r2,go_sem,reduceIte,reduceCtorEq,C9,D0,D1,D2,D3,D4,D5,D6,D7,D8,D9,E2,E3,E4,E5,E6,E7,E8,E9,A2,BYs,e1,hmod,e4,Zge,Z1,hs1]
  | true =>
    have e6:IntKind.u64.wrap (0-(if u=0 then 0 else 18446744073709551616-(u:Int)))=u:=by
      simp only [IntKind.wrap,IntKind.signed,IntKind.bits]
      split<;>simp<;>omega
    simp -dsimp (disch:=first|omega|(simp only [A4,Z3]<;>omega)|fail) only [L.C6,go_sem,reduceIte,reduceCtorEq,C9,D0,D1,D2,D3,D4,D5,D6,D7,D8,D9,E2,E3,E4,E5,E6,E7,E8,E9,A2,BYs,tz8,pow8,e6]
    rw [q6]
    obtain ⟨m,rfl⟩:∃ m,j=m+1:=⟨j-1,by omega⟩
    have e7:((m+1:Nat):Int)-1=m:=by omega
    have hs2:sub (Zkd m (45::byt (48+(u':Int))::acc')) m (65-m)=45::Zm2 22 u []:=by
      rw [←q4,show 65-m=(45::byt (48+(u':Int))::acc').length by rw [Ymo,Ymo];omega]
      exact Zou m _
    have e8:UInt8.ofNat 45=45:=rfl
    simp -dsimp (disch:=first|omega|(simp only [A4,Z3]<;>omega)|fail) only [L.C6.r0,go_sem,reduceIte,reduceCtorEq,C9,D0,D1,D2,D3,D4,D5,D6,D7,D8,D9,E2,E3,E4,E5,E6,E7,E8,E9,A2,BYs,e1,hmod,e4,Zge,Z1]
    simp -dsimp (disch:=first|omega|(simp only [A4,Z3]<;>omega)|fail) only [L.C6.r2,go_sem,reduceIte,reduceCtorEq,C9,D0,D1,D2,D3,D4,D5,D6,D7,D8,D9,E2,E3,E4,E5,E6,E7,E8,E9,A2,BYs,e7,e8,Zge,Z1,hs2]
theorem Zm5 {m:Int} (h0 : -9223372036854775808≤m) (h1:m≤9223372036854775807):S E F.P8 [.int .i64 m,.int .i64 8] []=some (.str (Zac m),[]):=by
  have hb:S E F.P9 [.int .i64 m,.int .i64 8] []=some (.str (Zac m),[]):=by
    rw [S_of Zrb rfl rfl]
    unfold Zac
    by_cases hn:m<0
    · have h2:=Zm4 (u:=m.natAbs) (b:=true) (by omega)
      rw [if_pos rfl,if_neg (by omega),if_pos rfl] at h2
      have e:IntKind.u64.wrap m=18446744073709551616-((m.natAbs:Nat):Int):=by
        simp only [IntKind.wrap,IntKind.signed,IntKind.bits];simp;omega
      rw [if_pos hn]
      simp -dsimp (disch:=first|omega|(simp only [A4,Z3]<;>omega)|fail) only [L.P9,go_sem,reduceIte,reduceCtorEq,C9,D0,D1,D2,D3,D4,D5,D6,D7,D8,D9,E2,E3,E4,E5,E6,E7,E8,E9,A2,BYs,hn,e,h2]
    · have h2:=Zm4 (u:=m.natAbs) (b:=false) (by omega)
      rw [if_neg (by simp),if_neg (by simp)] at h2
      have e:IntKind.u64.wrap m=((m.natAbs:Nat):Int):=by
        simp only [IntKind.wrap,IntKind.signed,IntKind.bits];simp;omega
      rw [if_neg hn]
      simp -dsimp (disch:=first|omega|(simp only [A4,Z3]<;>omega)|fail) only [L.P9,go_sem,reduceIte,reduceCtorEq,C9,D0,D1,D2,D3,D4,D5,D6,D7,D8,D9,E2,E3,E4,E5,E6,E7,E8,E9,A2,BYs,hn,e,h2]
  rw [S_of Zqx rfl rfl]
  simp -dsimp (disch:=first|omega|(simp only [A4,Z3]<;>omega)|fail) only [L.P8,go_sem,reduceIte,reduceCtorEq,C9,D0,D1,D2,D3,D4,D5,D6,D7,D8,D9,E2,E3,E4,E5,E6,E7,E8,E9,A2,hb]
end Cod
namespace Cod
open Go
set_option maxRecDepth 100000
theorem Z4 (r v:Int) (h:(r=46∧v=46)∨(r=103∧v=71)∨(r=71∧v=103)∨(r=105∧v=73)∨(r=73∧v=105)∨(r=116∧v=84)∨(r=84∧v=116)):S E0 F.O4 [.int .i32 r] []=some (.int .i32 v,[]):=by
  rcases h with ⟨rfl,rfl⟩|⟨rfl,rfl⟩|⟨rfl,rfl⟩|⟨rfl,rfl⟩|⟨rfl,rfl⟩|⟨rfl,rfl⟩|⟨rfl,rfl⟩<;>exact Zdl.2 ⟨60,by kernel_rfl⟩
theorem Zc9 {b:UInt8} {l:List UInt8} (h:b<128):S E0 F.K5 [.str (b::l)] []=some (.tup [.int .i32 b.toNat,.int .i64 1],[]):=by
  have hb:b.toNat<128:=h
  rw [Zcd Zrr rfl rfl]
  have h1:((b::l:List UInt8) == [])=false:=rfl
  have h2:((b.toNat:Int)<128):=by omega
  have h3:IntKind.i32.wrap (b.toNat:Int)=b.toNat:=by
    simp only [IntKind.wrap,IntKind.signed,IntKind.bits];simp;omega
  simp -dsimp (disch:=first|omega|(simp only [A4]<;>omega)|fail) only [L.K5,go_sem,reduceIte,reduceCtorEq,C9,D0,D1,D2,D3,D4,D5,D6,D7,D8,D9,E2,E3,E4,E5,E6,E7,E8,E9,A2,h1,h2,h3,bat,List.getD_cons_zero]
def Zhv:LCode:=match L.A3.r0 with|.seq _ (.seq _ r)=>r|_=>.skip
theorem Z0x {l:List UInt8} {i:Nat} (h:i<l.length):((⟨l.toArray⟩:ByteArray).get! i).toNat=(l.getD i 0).toNat:=by
  simp [ByteArray.get!,h,List.getD]
theorem Yee {l:List UInt8} {i:Nat} (h:i<l.length) (hb:128≤bat l i):128≤(Zak l i).1:=by
  have hg:((⟨l.toArray⟩:ByteArray).get! (i+0)).toNat=(l.getD i 0).toNat:=Z0x h
  unfold bat at hb
  unfold Zak Utf8.decode Utf8.runeError
  simp only [hg]
  repeat' split
  all_goals (try simp only [ge_iff_le,Ymn,decide_eq_true_eq] at *)
  all_goals omega
theorem Ykl:∀ t ∈ [46,103,105,116],∀ n:Nat,n<256→(decide ((128:Int)≤ior .u8 n t))=decide (128≤n):=by decide +kernel
theorem ef_uni {SC:LCode} {s:List UInt8} (hs:s.length=4) (i:Nat) (hi:i<4) (hb:128≤bat s i) (v6 v21 v7 v8 v33:AV) :
    X E0 [.tmp 4] [.c Zhv,.scp SC] ⟨[(0,.str s),(1,.str [46,103,105,116]),(5,.int .i64 i),(6,v6),(21,v21),(7,v7),(8,v8),(33,v33)],[]⟩=some (.bool false,[]):=by
  have hd:0<(s.drop i).length:=by rw [List.length_drop];omega
  have hb':128≤bat (s.drop i) 0:=by simpa [bat] using hb
  have hr:=Yee hd hb'
  generalize he:Zak (s.drop i) 0=q at hr
  obtain ⟨r,wd⟩:=q
  have:i=0∨i=1∨i=2∨i=3:=by omega
  have hrz:(128:Int)≤r:=by simp only at hr;omega
  have d46:S E0 F.K5 [.str [46,103,105,116]] []=some (.tup [.int .i32 46,.int .i64 1],[]):=Zc9 (by decide)
  have d103:S E0 F.K5 [.str [103,105,116]] []=some (.tup [.int .i32 103,.int .i64 1],[]):=Zc9 (by decide)
  have d105:S E0 F.K5 [.str [105,116]] []=some (.tup [.int .i32 105,.int .i64 1],[]):=Zc9 (by decide)
  have d116:S E0 F.K5 [.str [116]] []=some (.tup [.int .i32 116,.int .i64 1],[]):=Zc9 (by decide)
  have f46:=Z4 46 46 (by simp)
  have f103:=Z4 103 71 (by simp)
  have f71:=Z4 71 103 (by simp)
  have f105:=Z4 105 73 (by simp)
  have f73:=Z4 73 105 (by simp)
  have f116:=Z4 116 84 (by simp)
  have f84:=Z4 84 116 (by simp)
  rcases this with rfl|rfl|rfl|rfl
  · simp -dsimp (disch:=first|omega|(simp only [A4]<;>omega)|fail) only [Zhv,L.A3.r0,go_sem,reduceIte,reduceCtorEq,C9,D0,D1,D2,D3,D4,D5,D6,D7,D8,D9,E2,E3,E4,E5,E6,E7,E8,E9,A2,B9,B8,B6]
    simp only [Ynr] at hd he
    rw [N4 L.A3.x1.eq_1]
    simp -dsimp (disch:=first|omega|(simp only [A4]<;>omega)|fail) only [go_sem,reduceIte,reduceCtorEq,C9,D0,D1,D2,D3,D4,D5,D6,D7,D8,D9,E2,E3,E4,E5,E6,E7,E8,E9,A2,B9,B8,B6,hd,he,d46,f46]
    rw [N4 L.A3.x2.eq_1]
    simp -dsimp (disch:=first|omega|(simp only [A4]<;>omega)|fail) only [go_sem,reduceIte,reduceCtorEq,C9,D0,D1,D2,D3,D4,D5,D6,D7,D8,D9,E2,E3,E4,E5,E6,E7,E8,E9,A2,B9,B8,B6,f46,L.A3.r1]
  · simp -dsimp (disch:=first|omega|(simp only [A4]<;>omega)|fail) only [Zhv,L.A3.r0,go_sem,reduceIte,reduceCtorEq,C9,D0,D1,D2,D3,D4,D5,D6,D7,D8,D9,E2,E3,E4,E5,E6,E7,E8,E9,A2,B9,B8,B6]
    rw [N4 L.A3.x1.eq_1]
    simp -dsimp (disch:=first|omega|(simp only [A4]<;>omega)|fail) only [go_sem,reduceIte,reduceCtorEq,C9,D0,D1,D2,D3,D4,D5,D6,D7,D8,D9,E2,E3,E4,E5,E6,E7,E8,E9,A2,B9,B8,B6,hd,he,d103,f103]
    rw [N4 L.A3.x2.eq_1]
    simp -dsimp (disch:=first|omega|(simp only [A4]<;>omega)|fail) only [go_sem,reduceIte,reduceCtorEq,C9,D0,D1,D2,D3,D4,D5,D6,D7,D8,D9,E2,E3,E4,E5,E6,E7,E8,E9,A2,B9,B8,B6,f71,L.A3.r1]
    rw [N4 L.A3.x2.eq_1]
    simp -dsimp (disch:=first|omega|(simp only [A4]<;>omega)|fail) only [go_sem,reduceIte,reduceCtorEq,C9,D0,D1,D2,D3,D4,D5,D6,D7,D8,D9,E2,E3,E4,E5,E6,E7,E8,E9,A2,B9,B8,B6,f71,L.A3.r1]
  · simp -dsimp (disch:=first|omega|(simp only [A4]<;>omega)|fail) only [Zhv,L.A3.r0,go_sem,reduceIte,reduceCtorEq,C9,D0,D1,D2,D3,D4,D5,D6,D7,D8,D9,E2,E3,E4,E5,E6,E7,E8,E9,A2,B9,B8,B6]
    rw [N4 L.A3.x1.eq_1]
    simp -dsimp (disch:=first|omega|(simp only [A4]<;>omega)|fail) only [go_sem,reduceIte,reduceCtorEq,C9,D0,D1,D2,D3,D4,D5,D6,D7,D8,D9,E2,E3,E4,E5,E6,E7,E8,E9,A2,B9,B8,B6,hd,he,d105,f105]
    rw [N4 L.A3.x2.eq_1]
    simp -dsimp (disch:=first|omega|(simp only [A4]<;>omega)|fail) only [go_sem,reduceIte,reduceCtorEq,C9,D0,D1,D2,D3,D4,D5,D6,D7,D8,D9,E2,E3,E4,E5,E6,E7,E8,E9,A2,B9,B8,B6,f73,L.A3.r1]
    rw [N4 L.A3.x2.eq_1]
    simp -dsimp (disch:=first|omega|(simp only [A4]<;>omega)|fail) only [go_sem,reduceIte,reduceCtorEq,C9,D0,D1,D2,D3,D4,D5,D6,D7,D8,D9,E2,E3,E4,E5,E6,E7,E8,E9,A2,B9,B8,B6,f73,L.A3.r1]
  · simp -dsimp (disch:=first|omega|(simp only [A4]<;>omega)|fail) only [Zhv,L.A3.r0,go_sem,reduceIte,reduceCtorEq,C9,D0,D1,D2,D3,D4,D5,D6,D7,D8,D9,E2,E3,E4,E5,E6,E7,E8,E9,A2,B9,B8,B6]
    rw [N4 L.A3.x1.eq_1]
    simp -dsimp (disch:=first|omega|(simp only [A4]<;>omega)|fail) only [go_sem,reduceIte,reduceCtorEq,C9,D0,D1,D2,D3,D4,D5,D6,D7,D8,D9,E2,E3,E4,E5,E6,E7,E8,E9,A2,B9,B8,B6,hd,he,d116,f116]
    rw [N4 L.A3.x2.eq_1]
    simp -dsimp (disch:=first|omega|(simp only [A4]<;>omega)|fail) only [go_sem,reduceIte,reduceCtorEq,C9,D0,D1,D2,D3,D4,D5,D6,D7,D8,D9,E2,E3,E4,E5,E6,E7,E8,E9,A2,B9,B8,B6,f84,L.A3.r1]
    rw [N4 L.A3.x2.eq_1]
    simp -dsimp (disch:=first|omega|(simp only [A4]<;>omega)|fail) only [go_sem,reduceIte,reduceCtorEq,C9,D0,D1,D2,D3,D4,D5,D6,D7,D8,D9,E2,E3,E4,E5,E6,E7,E8,E9,A2,B9,B8,B6,f84,L.A3.r1]
def Zaj (b t:Int):Bool:=b==t||(decide (b<t)&&(decide (65≤b)&&(decide (b≤90)&&(t==b+32))))
theorem Z27 {SC:LCode} (hSC:R0 SC 0=some (.seq .skip Zhv)) {s:List UInt8} (hs:s.length=4) (i:Nat) (t:Int) (hi:(i=0∧t=46)∨(i=1∧t=103)∨(i=2∧t=105)∨(i=3∧t=116)) :
    X E0 [.tmp 4] (.c L.A3.x0::.lp [0,1,5,6] L.A3.x0::.blk 0::.c L.A3.r0::.scp SC::[]) ⟨[(0,.str s),(1,.str [46,103,105,116]),(5,.int .i64 i),(6,.int .i64 4)],[]⟩ =
    if bat s i<128∧Zaj (bat s i) t=true then X E0 [.tmp 4] (.c L.A3.x0::.lp [0,1,5,6] L.A3.x0::.blk 0::.c L.A3.r0::.scp SC::[]) ⟨[(0,.str s),(1,.str [46,103,105,116]),(5,.int .i64 (i+1:Int)),(6,.int .i64 4)],[]⟩ else some (.bool false,[]):=by
  obtain ⟨h0,h1⟩:=Zay s i
  have hor:=Ykl t (by rcases hi with ⟨_,rfl⟩|⟨_,rfl⟩|⟨_,rfl⟩|⟨_,rfl⟩<;>simp) (bat s i).toNat (by omega)
  rw [show (((bat s i).toNat:Nat):Int)=bat s i by omega] at hor
  have hti:bat [46,103,105,116] i=t:=by rcases hi with ⟨rfl,rfl⟩|⟨rfl,rfl⟩|⟨rfl,rfl⟩|⟨rfl,rfl⟩<;>rfl
  have hi4:i<4:=by omega
  have htr:46≤t∧t≤116:=by omega
  have hil:i < [46,103,105,(116:UInt8)].length:=by simpa using hi4
  rw [N4 L.A3.x0.eq_1]
  by_cases hb:bat s i<128
  · have hd:decide (128≤(bat s i).toNat)=false:=by simp;omega
    rw [hd] at hor
    generalize hx:bat s i=x at *
    by_cases e1:x=t
    · rw [if_pos ⟨hb,by simp [Zaj,e1]⟩]
      have e9:(t==x)=true:=Zoo e1.symm
      simp -dsimp (disch:=first|omega|(simp only [A4]<;>omega)|fail) only [go_sem,reduceIte,reduceCtorEq,C9,D0,D1,D2,D3,D4,D5,D6,D7,D8,D9,E2,E3,E4,E5,E6,E7,E8,E9,A2,B9,B8,B6,hx,hti,hor,e9]
    · have e2:(x==t)=false:=Zf7 e1
      have e2':(t==x)=false:=Zf7 (fun h=>e1 h.symm)
      by_cases e3:x<t
      · have e4:¬ t<x:=by omega
        by_cases e5:65≤x
        · by_cases e6:x≤90
          · have w1:IntKind.u8.wrap (x+97)=x+97:=by rw [Zg0];omega
            have w2:IntKind.u8.wrap (x+97-65)=x+32:=by rw [Zg0];omega
            by_cases e7:t=x+32
            · rw [if_pos ⟨hb,by simp only [Zaj,e2,K1 e3,K1 e5,K1 e6,Zoo e7,Yok,Ym7,Yol]⟩]
              have e8:(t==x+32)=true:=Zoo e7
              simp -dsimp (disch:=first|omega|(simp only [A4]<;>omega)|fail) only [go_sem,reduceIte,reduceCtorEq,C9,D0,D1,D2,D3,D4,D5,D6,D7,D8,D9,E2,E3,E4,E5,E6,E7,E8,E9,A2,B9,B8,B6,hx,hti,hor,e2',e4,e5,e6,w1,w2,e8]
            · rw [if_neg (by simp only [Zaj,e2,K1 e3,K1 e5,K1 e6,Zf7 e7,Yok,Ym7,Yol];simp)]
              have e8:(t==x+32)=false:=Zf7 e7
              simp -dsimp (disch:=first|omega|(simp only [A4]<;>omega)|fail) only [go_sem,reduceIte,reduceCtorEq,C9,D0,D1,D2,D3,D4,D5,D6,D7,D8,D9,E2,E3,E4,E5,E6,E7,E8,E9,A2,B9,B8,B6,hx,hti,hor,e2',e4,e5,e6,w1,w2,e8]
          · rw [if_neg (by simp only [Zaj,e2,K1 e3,K1 e5,Zai e6,Yok,Yom,Yol];simp)]
            simp -dsimp (disch:=first|omega|(simp only [A4]<;>omega)|fail) only [go_sem,reduceIte,reduceCtorEq,C9,D0,D1,D2,D3,D4,D5,D6,D7,D8,D9,E2,E3,E4,E5,E6,E7,E8,E9,A2,B9,B8,B6,hx,hti,hor,e2',e4,e5,e6]
        · rw [if_neg (by simp only [Zaj,e2,K1 e3,Zai e5,Yok,Yom,Yol];simp)]
          simp -dsimp (disch:=first|omega|(simp only [A4]<;>omega)|fail) only [go_sem,reduceIte,reduceCtorEq,C9,D0,D1,D2,D3,D4,D5,D6,D7,D8,D9,E2,E3,E4,E5,E6,E7,E8,E9,A2,B9,B8,B6,hx,hti,hor,e2',e4,e5]
      · have e4:t<x:=by omega
        rw [if_neg (by simp only [Zaj,e2,Zai e3,Yom,Yol];simp)]
        by_cases e5:65≤t
        · have e6:¬ t≤90:=by omega
          simp -dsimp (disch:=first|omega|(simp only [A4]<;>omega)|fail) only [go_sem,reduceIte,reduceCtorEq,C9,D0,D1,D2,D3,D4,D5,D6,D7,D8,D9,E2,E3,E4,E5,E6,E7,E8,E9,A2,B9,B8,B6,hx,hti,hor,e2',e4,e5,e6]
        · simp -dsimp (disch:=first|omega|(simp only [A4]<;>omega)|fail) only [go_sem,reduceIte,reduceCtorEq,C9,D0,D1,D2,D3,D4,D5,D6,D7,D8,D9,E2,E3,E4,E5,E6,E7,E8,E9,A2,B9,B8,B6,hx,hti,hor,e2',e4,e5]
  · have hd:decide (128≤(bat s i).toNat)=true:=by simp;omega
    rw [hd] at hor
    rw [if_neg (fun h=>hb h.1)]
    simp -dsimp (disch:=first|omega|(simp only [A4]<;>omega)|fail) only [go_sem,reduceIte,reduceCtorEq,C9,D0,D1,D2,D3,D4,D5,D6,D7,D8,D9,E2,E3,E4,E5,E6,E7,E8,E9,A2,B9,B8,B6,hti,hor,hSC]
    exact ef_uni hs i hi4 (by omega) _ _ _ _ _
def Zwa (s:List UInt8):Bool:=decide (bat s 0<128∧Zaj (bat s 0) 46=true)&&(decide (bat s 1<128∧Zaj (bat s 1) 103=true)&&(decide (bat s 2<128∧Zaj (bat s 2) 105=true)&&decide (bat s 3<128∧Zaj (bat s 3) 116=true)))
theorem Ykm {s:List UInt8} (hs:s.length=4):S E0 F.A3 [.str s,.str [46,103,105,116]] []=some (.bool (Zwa s),[]):=by
  rw [Zcd Zri rfl rfl]
  have l4:((s.length:Int))=4:=by omega
  simp -dsimp (disch:=first|omega|(simp only [A4]<;>omega)|fail) only [L.A3,go_sem,reduceIte,reduceCtorEq,C9,D0,D1,D2,D3,D4,D5,D6,D7,D8,D9,E2,E3,E4,E5,E6,E7,E8,E9,A2,hs]
  generalize hSC:LCode.seq _ _=SC
  have hf:R0 SC 0=some (.seq .skip Zhv):=by subst hSC;rfl
  have i0:=Z27 hf hs 0 46 (by simp)
  have i1:=Z27 hf hs 1 103 (by simp)
  have i2:=Z27 hf hs 2 105 (by simp)
  have i3:=Z27 hf hs 3 116 (by simp)
  have i4:X E0 [.tmp 4] (.c L.A3.x0::.lp [0,1,5,6] L.A3.x0::.blk 0::.c L.A3.r0::.scp SC::[]) ⟨[(0,.str s),(1,.str [46,103,105,116]),(5,.int .i64 4),(6,.int .i64 4)],[]⟩=some (.bool true,[]):=by
    rw [N4 L.A3.x0.eq_1]
    simp -dsimp (disch:=first|omega|(simp only [A4]<;>omega)|fail) only [go_sem,reduceIte,reduceCtorEq,C9,D0,D1,D2,D3,D4,D5,D6,D7,D8,D9,E2,E3,E4,E5,E6,E7,E8,E9,A2,L.A3.r0,hs]
  simp only [show ((0:Nat):Int)=0 from rfl,show ((1:Nat):Int)=1 from rfl,show ((2:Nat):Int)=2 from rfl,show ((3:Nat):Int)=3 from rfl,show (0:Int)+1=1 from rfl,show (1:Int)+1=2 from rfl,show (2:Int)+1=3 from rfl,show (3:Int)+1=4 from rfl] at i0 i1 i2 i3
  rw [show (if ((4:Nat):Int)<((4:Nat):Int) then ((4:Nat):Int) else ((4:Nat):Int))=4 from rfl,i0]
  by_cases c0:bat s 0<128∧Zaj (bat s 0) 46=true
  · rw [if_pos c0,i1]
    by_cases c1:bat s 1<128∧Zaj (bat s 1) 103=true
    · rw [if_pos c1,i2]
      by_cases c2:bat s 2<128∧Zaj (bat s 2) 105=true
      · rw [if_pos c2,i3]
        by_cases c3:bat s 3<128∧Zaj (bat s 3) 116=true
        · rw [if_pos c3,i4];simp only [Zwa,K1 c0,K1 c1,K1 c2,K1 c3];rfl
        · rw [if_neg c3];simp only [Zwa,K1 c0,K1 c1,K1 c2,Zai c3];rfl
      · rw [if_neg c2];simp only [Zwa,K1 c0,K1 c1,Zai c2];rfl
    · rw [if_neg c1];simp only [Zwa,K1 c0,Zai c1];rfl
  · rw [if_neg c0];simp only [Zwa,Zai c0];rfl
theorem Zwb:∀ n:Nat,n<256→∀ t ∈ [(46:UInt8),103,105,116],decide ((n:Int)<128∧Zaj n t.toNat=true)=(Zmw (UInt8.ofNat n)==t):=by decide +kernel
theorem Z28 {s:List UInt8} (hs:s.length=4):Zwa s=Zjc s:=by
  match s,hs with
  | [a,b,c,d],_ =>
    have key:∀ (x:UInt8) (t:UInt8),t ∈ [(46:UInt8),103,105,116]→decide ((x.toNat:Int)<128∧Zaj x.toNat t.toNat=true)=(Zmw x==t):=fun x t ht=>by
      have:=Zwb x.toNat x.toNat_lt t ht
      rwa [UInt8.ofNat_toNat] at this
    have h0:=key a 46 (by simp)
    have h1:=key b 103 (by simp)
    have h2:=key c 105 (by simp)
    have h3:=key d 116 (by simp)
    have e0:(Zmw a==46)=(a==46):=by
      have:∀ n:Nat,n<256→(Zmw (UInt8.ofNat n)==46)=(UInt8.ofNat n==46):=by decide +kernel
      have:=this a.toNat a.toNat_lt
      rwa [UInt8.ofNat_toNat] at this
    show (decide ((a.toNat:Int)<128∧Zaj a.toNat (46:UInt8).toNat=true)&&(decide ((b.toNat:Int)<128∧Zaj b.toNat (103:UInt8).toNat=true)&&(decide ((c.toNat:Int)<128∧Zaj c.toNat (105:UInt8).toNat=true)&&decide ((d.toNat:Int)<128∧Zaj d.toNat (116:UInt8).toNat=true))))=_
    rw [h0,h1,h2,h3,e0]
    simp only [Zjc,Ym4]
end Cod
namespace Cod
open Go
set_option maxRecDepth 100000
def Znt (b0 a1 a2 a3:Nat) (c1 c2 c3:Bool):Nat × Nat :=
  if b0<0x80 then (b0,1)
  else if b0/32==6&&c1 then (if b0%32*64+a1%64 ≥ 0x80 then (b0%32*64+a1%64,2) else (65533,1))
  else if b0/16==14&&c1&&c2 then
    (if b0%16*4096+a1%64*64+a2%64 ≥ 0x800&&Utf8.valid ((b0%16*4096+a1%64*64+a2%64:Nat):Int) then (b0%16*4096+a1%64*64+a2%64,3) else (65533,1))
  else if b0/8==30&&c1&&c2&&c3 then
    (if b0%8*262144+a1%64*4096+a2%64*64+a3%64 ≥ 0x10000&&Utf8.valid ((b0%8*262144+a1%64*4096+a2%64*64+a3%64:Nat):Int) then (b0%8*262144+a1%64*4096+a2%64*64+a3%64,4) else (65533,1))
  else (65533,1)
theorem Yef {b0 a1 a2 a3:Nat} {c1 c2 c3:Bool} (h:b0<128):Znt b0 a1 a2 a3 c1 c2 c3=(b0,1):=by unfold Znt;rw [if_pos h]
theorem Z7j {b0 a1 a2 a3:Nat} {c1 c2 c3:Bool} (h:128≤b0) (h2:b0<256):128≤(Znt b0 a1 a2 a3 c1 c2 c3).1∧(Znt b0 a1 a2 a3 c1 c2 c3).1≤1114111 ∧
    ((Znt b0 a1 a2 a3 c1 c2 c3).2=1∨((Znt b0 a1 a2 a3 c1 c2 c3).2=2∧c1=true)∨((Znt b0 a1 a2 a3 c1 c2 c3).2=3∧c1=true∧c2=true)∨((Znt b0 a1 a2 a3 c1 c2 c3).2=4∧c1=true∧c2=true∧c3=true)):=by
  unfold Znt
  rw [if_neg (by omega)]
  split
  · rename_i h3
    simp only [Ymn] at h3
    split
    · exact ⟨by assumption,by omega,.inr (.inl ⟨rfl,h3.2⟩)⟩
    · exact ⟨by omega,by omega,.inl rfl⟩
  · split
    · rename_i h3
      simp only [Ymn] at h3
      split
      · rename_i h4
        simp only [Ymn,decide_eq_true_eq] at h4
        exact ⟨by omega,by omega,.inr (.inr (.inl ⟨rfl,h3.1.2,h3.2⟩))⟩
      · exact ⟨by omega,by omega,.inl rfl⟩
    · split
      · rename_i h3
        simp only [Ymn] at h3
        split
        · rename_i h4
          simp only [Ymn,decide_eq_true_eq,Utf8.valid,Bool.or_eq_true] at h4
          exact ⟨by omega,by omega,.inr (.inr (.inr ⟨rfl,h3.1.1.2,h3.1.2,h3.2⟩))⟩
        · exact ⟨by omega,by omega,.inl rfl⟩
      · exact ⟨by omega,by omega,.inl rfl⟩
theorem Zov {l:List UInt8} {p:Nat} (h:p<l.length) :
    (bat l p<128∧(((Zak l p).1:Nat):Int)=bat l p∧(Zak l p).2=1) ∨
    (128≤bat l p∧128≤(Zak l p).1∧(Zak l p).1≤1114111∧1≤(Zak l p).2∧∀ j,p≤j→j<p+(Zak l p).2→j<l.length∧128≤bat l j):=by
  have hs:(⟨l.toArray⟩:ByteArray).size=l.length:=by simp [ByteArray.size]
  have h0:((⟨l.toArray⟩:ByteArray).get! (p+0)).toNat=(l.getD p 0).toNat:=Z0x h
  have hc:∀ k,(decide (p+k<(⟨l.toArray⟩:ByteArray).size)&&((⟨l.toArray⟩:ByteArray).get! (p+k)).toNat/64==2)=true→p+k<l.length∧128≤bat l (p+k):=by
    intro k hk
    simp only [Ymn,decide_eq_true_eq,beq_iff_eq,hs] at hk
    refine ⟨hk.1,?_⟩
    have:=Z0x hk.1
    unfold bat
    omega
  have e:Zak l p=Znt ((⟨l.toArray⟩:ByteArray).get! (p+0)).toNat ((⟨l.toArray⟩:ByteArray).get! (p+1)).toNat ((⟨l.toArray⟩:ByteArray).get! (p+2)).toNat ((⟨l.toArray⟩:ByteArray).get! (p+3)).toNat
    (decide (p+1<(⟨l.toArray⟩:ByteArray).size)&&((⟨l.toArray⟩:ByteArray).get! (p+1)).toNat/64==2) (decide (p+2<(⟨l.toArray⟩:ByteArray).size)&&((⟨l.toArray⟩:ByteArray).get! (p+2)).toNat/64==2)
    (decide (p+3<(⟨l.toArray⟩:ByteArray).size)&&((⟨l.toArray⟩:ByteArray).get! (p+3)).toNat/64==2):=rfl
  have k1:=hc 1
  have k2:=hc 2
  have k3:=hc 3
  rw [h0] at e
  generalize (decide (p+1<(⟨l.toArray⟩:ByteArray).size)&&((⟨l.toArray⟩:ByteArray).get! (p+1)).toNat/64==2)=c1 at e k1
  generalize (decide (p+2<(⟨l.toArray⟩:ByteArray).size)&&((⟨l.toArray⟩:ByteArray).get! (p+2)).toNat/64==2)=c2 at e k2
  generalize (decide (p+3<(⟨l.toArray⟩:ByteArray).size)&&((⟨l.toArray⟩:ByteArray).get! (p+3)).toNat/64==2)=c3 at e k3
  generalize ((⟨l.toArray⟩:ByteArray).get! (p+1)).toNat=a1 at e
  generalize ((⟨l.toArray⟩:ByteArray).get! (p+2)).toNat=a2 at e
  generalize ((⟨l.toArray⟩:ByteArray).get! (p+3)).toNat=a3 at e
  have hlt:=(l.getD p 0).toNat_lt
  by_cases hb:bat l p<128
  · refine .inl ⟨hb,?_⟩
    unfold bat at hb ⊢
    rw [e,Yef (by omega)]
    exact ⟨rfl,rfl⟩
  · have hb':=hb
    unfold bat at hb
    obtain ⟨h1,h2,h3⟩:=Z7j (a1:=a1) (a2:=a2) (a3:=a3) (c1:=c1) (c2:=c2) (c3:=c3) (b0:=(l.getD p 0).toNat) (by omega) hlt
    rw [←e] at h1 h2 h3
    refine .inr ⟨by omega,h1,h2,by omega,fun j j1 j2=>?_⟩
    have:j=p∨j=p+1∨j=p+2∨j=p+3:=by omega
    rcases this with rfl|rfl|rfl|rfl
    · exact ⟨h,by omega⟩
    · exact k1 (by rcases h3 with h3|h3|h3|h3<;>first|omega|exact h3.2|exact h3.2.1)
    · exact k2 (by rcases h3 with h3|h3|h3|h3<;>first|omega|exact h3.2.2|exact h3.2.2.1)
    · exact k3 (by rcases h3 with h3|h3|h3|h3<;>first|omega|exact h3.2.2.2)
theorem Yeg {r:Int} (h0:128≤r) (h1:r≤1114111):2≤(Zal r).length∧(Zal r).length≤4∧((Zal r).length=2→128≤bat (Zal r) 1):=by
  unfold Zal Utf8.encode Utf8.runeError
  simp only []
  generalize hc:(if Utf8.valid r=true then r.toNat else 65533)=c
  have hc0:128≤c:=by
    rw [←hc];split
    · omega
    · omega
  rw [if_neg (by omega)]
  split
  · refine ⟨by simp,by simp,fun _=>?_⟩
    simp [bat]
    omega
  · split<;>simp
theorem Zwc {r:Int} (h0:128≤r):S E0 F.J3 [.int .i32 r] []=some (.bool (decide (r<55296)||(decide (57343<r)&&decide (r≤1114111))),[]):=by
  rw [Zcd Zrt rfl rfl]
  by_cases h1:r<55296
  · simp -dsimp (disch:=first|omega|(simp only [A4]<;>omega)|fail) only [L.J3,go_sem,reduceIte,reduceCtorEq,C9,D0,D1,D2,D3,D4,D5,D6,D7,D8,D9,E2,E3,E4,E5,E6,E7,E8,E9,A2,K1 h1]
  · by_cases h2:57343<r
    · by_cases h3:r≤1114111
      · simp -dsimp (disch:=first|omega|(simp only [A4]<;>omega)|fail) only [L.J3,go_sem,reduceIte,reduceCtorEq,C9,D0,D1,D2,D3,D4,D5,D6,D7,D8,D9,E2,E3,E4,E5,E6,E7,E8,E9,A2,Zai h1,K1 h2,K1 h3]
      · simp -dsimp (disch:=first|omega|(simp only [A4]<;>omega)|fail) only [L.J3,go_sem,reduceIte,reduceCtorEq,C9,D0,D1,D2,D3,D4,D5,D6,D7,D8,D9,E2,E3,E4,E5,E6,E7,E8,E9,A2,Zai h1,K1 h2,Zai h3]
    · simp -dsimp (disch:=first|omega|(simp only [A4]<;>omega)|fail) only [L.J3,go_sem,reduceIte,reduceCtorEq,C9,D0,D1,D2,D3,D4,D5,D6,D7,D8,D9,E2,E3,E4,E5,E6,E7,E8,E9,A2,Zai h1,Zai h2]
theorem Zby {l:List UInt8} {c:Int}:S E0 F.K4 [.str l,.int .u8 c] []=some (.int .i64 (G9 l (byt c)),[]):=by
  rw [Zcd Zrp rfl rfl]
  have h:S E0 F.K7 [.str l,.int .u8 c] []=some (.int .i64 (G9 l (byt c)),[]):=by
    rw [Zcd Zi5 rfl rfl]
    simp -dsimp (disch:=first|omega|(simp only [A4]<;>omega)|fail) only [L.K7,go_sem,reduceIte,reduceCtorEq,C9,D0,D1,D2,D3,D4,D5,D6,D7,D8,D9,E2,E3,E4,E5,E6,E7,E8,E9,A2,Zvx]
  simp -dsimp (disch:=first|omega|(simp only [A4]<;>omega)|fail) only [L.K4,go_sem,reduceIte,reduceCtorEq,C9,D0,D1,D2,D3,D4,D5,D6,D7,D8,D9,E2,E3,E4,E5,E6,E7,E8,E9,A2,h]
theorem Zwd:S E0 F.B1 [.str [47,0],.int .i32 65533] []=some (.int .i64 (-1),[]):=Zdl.2 ⟨60,by kernel_rfl⟩
theorem Zk4 {r:Int} (h0:0≤r) (h1:r<128):S E0 F.B1 [.str [47,0],.int .i32 r] []=some (.int .i64 (G9 [47,0] (byt r)),[]):=by
  rw [Zcd Zc5 rfl rfl]
  have h2:IntKind.u8.wrap r=r:=by rw [Zg0];omega
  simp -dsimp (disch:=first|omega|(simp only [A4]<;>omega)|fail) only [L.B1,go_sem,reduceIte,reduceCtorEq,C9,D0,D1,D2,D3,D4,D5,D6,D7,D8,D9,E2,E3,E4,E5,E6,E7,E8,E9,A2,K1 h0,K1 h1,h2,Zby]
theorem Zsj {r:Int} (h0:128≤r) (h1:r≤1114111):S E0 F.B1 [.str [47,0],.int .i32 r] []=some (.int .i64 (-1),[]):=by
  by_cases he:r=65533
  · subst he;exact Zwd
  · have h2:¬ r<128:=by omega
    have h3:(0:Int)≤r:=by omega
    rw [Zcd Zc5 rfl rfl]
    have hvv:S E0 F.J3 [.int .i32 r] []=some (.bool (decide (r<55296)||decide (57343<r)),[]):=by rw [Zwc h0,K1 h1,Ym7]
    cases hv:(decide (r<55296)||decide (57343<r)) with
    | false=>simp -dsimp (disch:=first|omega|(simp only [A4]<;>omega)|fail) only [L.B1,go_sem,reduceIte,reduceCtorEq,C9,D0,D1,D2,D3,D4,D5,D6,D7,D8,D9,E2,E3,E4,E5,E6,E7,E8,E9,A2,K1 h3,Zai h2,Zf7 he,hvv,hv]
    | true =>
      obtain ⟨e1,e2,e3⟩:=Yeg h0 h1
      simp -dsimp (disch:=first|omega|(simp only [A4]<;>omega)|fail) only [L.B1,go_sem,reduceIte,reduceCtorEq,C9,D0,D1,D2,D3,D4,D5,D6,D7,D8,D9,E2,E3,E4,E5,E6,E7,E8,E9,A2,K1 h3,Zai h2,Zf7 he,hvv,hv]
      rw [N4 L.B1.x1.eq_1]
      by_cases e4:(Zal r).length=2
      · have e5:=e3 e4
        have b1:bat [47,0] 1=0:=rfl
        have b2:((((0:UInt8).toNat:Nat):Int) != bat (Zal r) 1)=true:=Zvl (by show (0:Int)≠_;omega)
        have b3:(((2:Nat):Int)-1).toNat=1:=rfl
        have b4:G9 ([47,0].drop (((2:Nat):Int)-1+1).toNat) (byt (bat (Zal r) 1)) = -1:=rfl
        have b5:G9 [] (byt (bat (Zal r) 1)) = -1:=rfl
        simp -dsimp (disch:=first|omega|(simp only [A4]<;>omega)|fail) only [go_sem,reduceIte,reduceCtorEq,C9,D0,D1,D2,D3,D4,D5,D6,D7,D8,D9,E2,E3,E4,E5,E6,E7,E8,E9,A2,L.B1.r2,e4,b1,b2,b3,Zby,B9,B8,B6,b4,b5,List.drop_nil]
      · simp -dsimp (disch:=first|omega|(simp only [A4]<;>omega)|fail) only [go_sem,reduceIte,reduceCtorEq,C9,D0,D1,D2,D3,D4,D5,D6,D7,D8,D9,E2,E3,E4,E5,E6,E7,E8,E9,A2,L.B1.r2]
def Zdr (b:UInt8):Bool:=b==47||b==0
theorem Yeh (b:UInt8):(0≤G9 [47,0] b)↔Zdr b=true:=by
  unfold G9 Zdr
  by_cases h1:b=47
  · subst h1;simp
  · by_cases h2:b=0
    · subst h2;simp [Yoe]
    · simp [h1,h2]
theorem Zda (l:List UInt8) (i:Nat):byt (bat l i)=l.getD i 0:=by
  unfold byt bat
  rw [Int.toNat_natCast,UInt8.ofNat_toNat]
theorem Yei {s:List UInt8} (hs:s.length≤1000000):∀ (m p:Nat),p+m≤s.length→s.length≤p+m→∃ i:Int,((0≤i)↔(s.drop p).any Zdr=true) ∧
    X E0 [.tmp 4] (.c L.A8.x1::.lp [1,45] L.A8.x1::.blk 2::.c L.A8.r2::[]) ⟨[(1,.str [47,0]),(45,.it (.s 1000000 0) 0)],[(.s 1000000 0,⟨0,true,true,true,[.itr s p]⟩)]⟩=some (.int .i64 i,[]):=by
  intro m
  induction m using Nat.strongRecOn with
  | _ m ih =>
    intro p h1 h2
    rw [N4 L.A8.x1.eq_1]
    by_cases hp:p<s.length
    · have hd:s.drop p=s.getD p 0::s.drop (p+1):=by
        rw [Yob hp];simp [hp]
      rcases Zov hp with ⟨e1,e2,e3⟩|⟨e1,e2,e3,e4,e5⟩
      · cases hbad:Zdr (s.getD p 0) with
        | true =>
          have h3:=(Yeh (byt (bat s p))).2 (by rw [Zda];exact hbad)
          refine ⟨p,⟨fun _=>by rw [hd,Yon,hbad];rfl,fun _=>by omega⟩,?_⟩
          simp -dsimp (disch:=first|omega|(simp only [A4]<;>omega)|fail) only [go_sem,reduceIte,reduceCtorEq,C9,D0,D1,D2,D3,D4,D5,D6,D7,D8,D9,E2,E3,E4,E5,E6,E7,E8,E9,A2,hp,e2,e3,Zk4 (Zay s p).1 e1,K1 h3]
        | false =>
          have h3:¬ 0≤G9 [47,0] (byt (bat s p)):=fun h=>by rw [Yeh,Zda,hbad] at h;cases h
          obtain ⟨i,h4,h5⟩:=ih (m-1) (by omega) (p+1) (by omega) (by omega)
          refine ⟨i,by rw [h4,hd,Yon,hbad,Yol],?_⟩
          rw [←h5]
          simp -dsimp (disch:=first|omega|(simp only [A4]<;>omega)|fail) only [go_sem,reduceIte,reduceCtorEq,C9,D0,D1,D2,D3,D4,D5,D6,D7,D8,D9,E2,E3,E4,E5,E6,E7,E8,E9,A2,hp,e2,e3,Zk4 (Zay s p).1 e1,Zai h3]
      · have hw:p+(Zak s p).2≤s.length:=by
          have:=(e5 (p+(Zak s p).2-1) (by omega) (by omega)).1
          omega
        obtain ⟨i,h4,h5⟩:=ih (m-(Zak s p).2) (by omega) (p+(Zak s p).2) (by omega) (by omega)
        refine ⟨i,?_,?_⟩
        · rw [h4]
          have:∀ w,p+w≤s.length→(∀ j,p≤j→j<p+w→j<s.length∧128≤bat s j)→(s.drop p).any Zdr=(s.drop (p+w)).any Zdr:=by
            intro w
            induction w with
            | zero=>intro _ _;rfl
            | succ w ihw =>
              intro hw1 hw2
              rw [ihw (by omega) (fun j j1 j2=>hw2 j j1 (by omega)),Yob (by omega:p+w<s.length),Yon]
              have hh:=(hw2 (p+w) (by omega) (by omega)).2
              have:Zdr s[p+w]=false:=by
                unfold bat at hh
                rw [List.getD_eq_getElem?_getD,List.getElem?_eq_getElem (by omega),Yng] at hh
                unfold Zdr
                rw [Bool.or_eq_false_iff,beq_eq_false_iff_ne,beq_eq_false_iff_ne]
                constructor<;>(intro hx;rw [hx] at hh;simp at hh)
              rw [this,Yol]
              rfl
          rw [this _ hw e5]
        · rw [←h5]
          have h6:=Zsj (r:=((Zak s p).1:Int)) (by omega) (by omega)
          simp -dsimp (disch:=first|omega|(simp only [A4]<;>omega)|fail) only [go_sem,reduceIte,reduceCtorEq,C9,D0,D1,D2,D3,D4,D5,D6,D7,D8,D9,E2,E3,E4,E5,E6,E7,E8,E9,A2,hp,h6]
    · refine ⟨-1,⟨fun h=>by omega,fun h=>by rw [Yoa (by omega)] at h;simp at h⟩,?_⟩
      simp -dsimp (disch:=first|omega|(simp only [A4]<;>omega)|fail) only [go_sem,reduceIte,reduceCtorEq,C9,D0,D1,D2,D3,D4,D5,D6,D7,D8,D9,E2,E3,E4,E5,E6,E7,E8,E9,A2,hp,L.A8.r2]
def Zhf:List AV:=(List.range 256).map fun i=>.bool (i==47||i==0)
theorem go_set:S E0 F.O2 [.str [47,0]] []=some (.tup [.agg Zhf,.bool true],[]):=Zdl.2 ⟨60,by kernel_rfl⟩
theorem Yej:∀ n:Nat,n<256→Zhf[n]? = some (.bool (Zdr (UInt8.ofNat n))):=by
  intro n hn
  simp only [Zhf,List.getElem?_map,List.getElem?_range hn,Option.map_some,Zdr]
  have:∀ n:Nat,n<256→(n==47||n==0)=(UInt8.ofNat n==47||UInt8.ofNat n==0):=by decide +kernel
  rw [this n hn]
theorem Zaq:flats Zhf=true:=by kernel_rfl
theorem Zaz:Zhf.length=256:=by simp [Zhf]
end Cod
namespace Cod
open Go
set_option maxRecDepth 100000
theorem Ykn {b:Int} (h0:0≤b) (h1:b<256):Zhf[b.toNat]? = some (.bool (Zdr (byt b))):=Yej b.toNat (by omega)
theorem Zow:leadss Zhf=false:=by kernel_rfl
theorem Zox:refsOfs Zhf=[]:=by kernel_rfl
theorem Zoy (f:Site→Nat→Option (Site × Nat)):rens f Zhf=Zhf:=rens_flats Zhf Zaq
theorem Zke:H8 Zhf=true:=by kernel_rfl
theorem Zk5 {x:Site} {b:Int} (h0:0≤b) (h1:b<256):S E0 F.O3 [.ref (.up x) 0 0,.int .u8 b] [(.up x,⟨0,true,true,true,Zhf⟩)]=some (.bool (Zdr (byt b)),[(.up x,⟨0,true,true,true,Zhf⟩)]):=by
  rw [Zcd Zi4 rfl rfl]
  simp -dsimp (disch:=first|omega|(simp only [A4]<;>omega)|fail) only [L.O3,go_sem,reduceIte,reduceCtorEq,C9,D0,D1,D2,D3,D4,D5,D6,D7,D8,D9,E2,E3,E4,E5,E6,E7,E8,E9,A2,Zaz,Zaq,Zow,Zox,Zoy,Zke,Ykn h0 h1]
theorem Yek {s:List UInt8} (hs:s.length≤1000000):∀ (m p:Nat),p+m=s.length→∃ i:Int,((0≤i)↔(s.drop p).any Zdr=true) ∧
    X E0 [.tmp 4] (.c L.A8.x0::.lp [0,6,8] L.A8.x0::.blk 0::.c L.A8.r0::.c L.A8.r1::[]) ⟨[(0,.str s),(6,.ref (.s 1000000 0) 0 0),(8,.int .i64 p)],[(.s 1000000 0,⟨0,true,true,true,Zhf⟩)]⟩=some (.int .i64 i,[]):=by
  intro m
  induction m with
  | zero =>
    intro p h
    refine ⟨-1,⟨fun h=>by omega,fun h=>by rw [Yoa (by omega)] at h;simp at h⟩,?_⟩
    rw [N4 L.A8.x0.eq_1]
    simp -dsimp (disch:=first|omega|(simp only [A4]<;>omega)|fail) only [go_sem,reduceIte,reduceCtorEq,C9,D0,D1,D2,D3,D4,D5,D6,D7,D8,D9,E2,E3,E4,E5,E6,E7,E8,E9,A2,Zaz,Zaq,Zow,Zox,Zoy,Zke,L.A8.r0]
  | succ m ih =>
    intro p h
    have hp:p<s.length:=by omega
    have hd:s.drop p=s.getD p 0::s.drop (p+1):=by
      rw [Yob hp];simp [hp]
    obtain ⟨b0,b1⟩:=Zay s p
    cases hbad:Zdr (s.getD p 0) with
    | true =>
      have h3:Zdr (byt (bat s p))=true:=by rw [Zda];exact hbad
      refine ⟨p,⟨fun _=>by rw [hd,Yon,hbad];rfl,fun _=>by omega⟩,?_⟩
      rw [N4 L.A8.x0.eq_1]
      simp -dsimp (disch:=first|omega|(simp only [A4]<;>omega)|fail) only [go_sem,reduceIte,reduceCtorEq,C9,D0,D1,D2,D3,D4,D5,D6,D7,D8,D9,E2,E3,E4,E5,E6,E7,E8,E9,A2,Zaz,Zaq,Zow,Zox,Zoy,Zke,Zk5 b0 b1,h3]
    | false =>
      have h3:Zdr (byt (bat s p))=false:=by rw [Zda];exact hbad
      obtain ⟨i,h4,h5⟩:=ih (p+1) (by omega)
      refine ⟨i,by rw [h4,hd,Yon,hbad,Yol],?_⟩
      rw [←h5,N4 L.A8.x0.eq_1]
      simp -dsimp (disch:=first|omega|(simp only [A4]<;>omega)|fail) only [go_sem,reduceIte,reduceCtorEq,C9,D0,D1,D2,D3,D4,D5,D6,D7,D8,D9,E2,E3,E4,E5,E6,E7,E8,E9,A2,Zaz,Zaq,Zow,Zox,Zoy,Zke,Zk5 b0 b1,h3]
      rfl
theorem Zsk {n:Int}:S E0 F.T4 [.int .i64 n] []=some (.bool (decide (8<n)),[]):=by
  rw [Zcd Zro rfl rfl]
  simp -dsimp (disch:=first|omega|(simp only [A4]<;>omega)|fail) only [L.T4,go_sem,reduceIte,reduceCtorEq,C9,D0,D1,D2,D3,D4,D5,D6,D7,D8,D9,E2,E3,E4,E5,E6,E7,E8,E9,A2]
theorem go_any {s:List UInt8} (hs:s.length≤1000000):∃ i:Int,((0≤i)↔s.any Zdr=true)∧S E0 F.A8 [.str s,.str [47,0]] []=some (.int .i64 i,[]):=by
  rw [Zcd Zi0 rfl rfl]
  have e0:(([47,0]:List UInt8) == [])=false:=rfl
  by_cases h8:8<s.length
  · obtain ⟨i,h1,h2⟩:=Yek hs s.length 0 (by omega)
    refine ⟨i,by simpa using h1,?_⟩
    rw [←h2]
    have h9:decide (8<(s.length:Int))=true:=by simp;omega
    simp -dsimp (disch:=first|omega|(simp only [A4]<;>omega)|fail) only [L.A8,go_sem,reduceIte,reduceCtorEq,C9,D0,D1,D2,D3,D4,D5,D6,D7,D8,D9,E2,E3,E4,E5,E6,E7,E8,E9,A2,Zaz,Zaq,Zow,Zox,Zoy,Zke,e0,Zsk,h9,go_set]
    rfl
  · obtain ⟨i,h1,h2⟩:=Yei hs s.length 0 (by omega) (by omega)
    refine ⟨i,by simpa using h1,?_⟩
    rw [←h2]
    have h9:decide (8<(s.length:Int))=false:=by simp;omega
    simp -dsimp (disch:=first|omega|(simp only [A4]<;>omega)|fail) only [L.A8,go_sem,reduceIte,reduceCtorEq,C9,D0,D1,D2,D3,D4,D5,D6,D7,D8,D9,E2,E3,E4,E5,E6,E7,E8,E9,A2,Zaz,Zaq,Zow,Zox,Zoy,Zke,e0,Zsk,h9,L.A8.r1]
theorem Zjg {s:List UInt8} (hs:s.length≤1000000):S E0 F.I9 [.str s,.str [47,0]] []=some (.bool (s.any Zdr),[]):=by
  rw [Zcd Ziu rfl rfl]
  obtain ⟨i,h1,h2⟩:=go_any hs
  have h3:decide (0≤i)=s.any Zdr:=by
    cases h:s.any Zdr with
    | true=>simp [h1.2 h]
    | false=>rw [decide_eq_false_iff_not,h1,h];simp
  simp -dsimp (disch:=first|omega|(simp only [A4]<;>omega)|fail) only [L.I9,go_sem,reduceIte,reduceCtorEq,C9,D0,D1,D2,D3,D4,D5,D6,D7,D8,D9,E2,E3,E4,E5,E6,E7,E8,E9,A2,h2,h3]
theorem Zwe {s:List UInt8} (hs:s.length=4) (h:Zjc s=true):bat s 1<128∧bat s 2<128:=by
  rw [←Z28 hs] at h
  simp only [Zwa,Ymn,decide_eq_true_eq] at h
  exact ⟨h.2.1.1,h.2.2.1.1⟩
theorem Yko (s:List UInt8):s.any Zdr=(s.contains 47||s.contains 0):=by
  induction s with
  | nil=>rfl
  | cons b s ih =>
    rw [Yon,ih,Yoo,Yoo]
    unfold Zdr
    rw [show (47==b)=(b==47) from Bool.beq_comm,show (0==b)=(b==0) from Bool.beq_comm]
    cases (b==47)<;>cases (b==0)<;>cases s.contains 47<;>cases s.contains 0<;>rfl
theorem Z7k {s:List UInt8} (h:s.length≠4):Zjc s=false:=by
  unfold Zjc
  split
  · exact absurd rfl h
  · rfl
theorem Ykp {s:List UInt8} (hs:s.length≤1000000):S E0 F.J7 [.str s] []=some (.bool (T9 s),[]):=by
  rw [Zcd Ziz rfl rfl]
  cases c1:(s == []) with
  | true =>
    have:T9 s=false:=by rw [eq_of_beq c1];rfl
    rw [this]
    simp -dsimp (disch:=first|omega|(simp only [A4]<;>omega)|fail) only [L.J7,go_sem,reduceIte,reduceCtorEq,C9,D0,D1,D2,D3,D4,D5,D6,D7,D8,D9,E2,E3,E4,E5,E6,E7,E8,E9,A2,c1]
  | false =>
  cases c2:(s == [46]) with
  | true =>
    have:T9 s=false:=by rw [eq_of_beq c2];rfl
    rw [this]
    simp -dsimp (disch:=first|omega|(simp only [A4]<;>omega)|fail) only [L.J7,go_sem,reduceIte,reduceCtorEq,C9,D0,D1,D2,D3,D4,D5,D6,D7,D8,D9,E2,E3,E4,E5,E6,E7,E8,E9,A2,c1,c2]
  | false =>
  cases c3:(s == [46,46]) with
  | true =>
    have:T9 s=false:=by rw [eq_of_beq c3];rfl
    rw [this]
    simp -dsimp (disch:=first|omega|(simp only [A4]<;>omega)|fail) only [L.J7,go_sem,reduceIte,reduceCtorEq,C9,D0,D1,D2,D3,D4,D5,D6,D7,D8,D9,E2,E3,E4,E5,E6,E7,E8,E9,A2,c1,c2,c3]
  | false =>
  have hl:1≤s.length:=by
    cases s with
    | nil=>simp at c1
    | cons b s=>simp
  by_cases c4:100<s.length
  · have:T9 s=false:=by
      unfold T9
      rw [show decide (s.length≤100)=false from Zai (by omega)]
      simp
    have c4':decide (100<(s.length:Int))=true:=K1 (by omega)
    rw [this]
    simp -dsimp (disch:=first|omega|(simp only [A4]<;>omega)|fail) only [L.J7,go_sem,reduceIte,reduceCtorEq,C9,D0,D1,D2,D3,D4,D5,D6,D7,D8,D9,E2,E3,E4,E5,E6,E7,E8,E9,A2,c1,c2,c3,c4']
  · have c4':decide (100<(s.length:Int))=false:=Zai (by omega)
    have hn:T9 s=(!(s.any Zdr) && !Zjc s):=by
      unfold T9
      rw [Yko,show decide (s.length≤100)=true from K1 (by omega),show decide (1≤s.length)=true from K1 hl,show (s != [46])=true by simp [bne,c2],show (s != [46,46])=true by simp [bne,c3]]
      cases s.contains 47<;>cases s.contains 0<;>cases Zjc s<;>rfl
    by_cases c5:s.length=4
    · have c5':((s.length:Int)==4)=true:=Zoo (by omega)
      have hf:=Ykm c5
      rw [Z28 c5] at hf
      cases hg:Zjc s with
      | true =>
        obtain ⟨g1,g2⟩:=Zwe c5 hg
        rw [hg] at hf
        rw [hn,hg]
        simp -dsimp (disch:=first|omega|(simp only [A4]<;>omega)|fail) only [L.J7,go_sem,reduceIte,reduceCtorEq,C9,D0,D1,D2,D3,D4,D5,D6,D7,D8,D9,E2,E3,E4,E5,E6,E7,E8,E9,A2,c1,c2,c3,c4',c5',hf,K1 g1,K1 g2,Yoc,Bool.and_false]
      | false =>
        rw [hg] at hf
        rw [hn,hg]
        simp -dsimp (disch:=first|omega|(simp only [A4]<;>omega)|fail) only [L.J7,go_sem,reduceIte,reduceCtorEq,C9,D0,D1,D2,D3,D4,D5,D6,D7,D8,D9,E2,E3,E4,E5,E6,E7,E8,E9,A2,c1,c2,c3,c4',c5',hf,Zjg hs,Yod,Ym7]
    · have c5':((s.length:Int)==4)=false:=Zf7 (by omega)
      rw [hn,Z7k c5]
      simp -dsimp (disch:=first|omega|(simp only [A4]<;>omega)|fail) only [L.J7,go_sem,reduceIte,reduceCtorEq,C9,D0,D1,D2,D3,D4,D5,D6,D7,D8,D9,E2,E3,E4,E5,E6,E7,E8,E9,A2,c1,c2,c3,c4',c5',Zjg hs,Yod,Ym7]
end Cod
namespace Cod
open Go
theorem Z29 {E E':Env} (h:E'.glob=E.glob) (sl loc:List (Nat × AV)):evR E' sl loc=evR E sl loc:=by
  funext x;cases x<;>simp [evR,h]
theorem Z3a {E E':Env} (h:E'.glob=E.glob) (c:L6) (sl:List (Nat × AV)) (o:LOper) (r:RS):opR E' c sl o r=opR E c sl o r:=by
  unfold opR;rw [Z29 h]
theorem Z0y {E E':Env} (h:E'.glob=E.glob) (c:L6) (sl:List (Nat × AV)) (o:LOper) (r:RS):R8 E' c sl o r=R8 E c sl o r:=by
  unfold R8;rw [Z29 h]
theorem Yel {E E':Env} (h:E'.glob=E.glob) (c:L6) (sl:List (Nat × AV)):∀ (os:List LOper) (r:RS),O9 E' c sl os r=O9 E c sl os r:=by
  intro os
  induction os with
  | nil=>intro r;rfl
  | cons o os ih=>intro r;simp only [O9,Z3a h,ih]
theorem Zwf {E E':Env} (h:E'.glob=E.glob) (c:L6) (sl:List (Nat × AV)):∀ (os:List LOper) (r:RS),L8 E' c sl os r=L8 E c sl os r:=by
  intro os
  induction os with
  | nil=>intro r;rfl
  | cons o os ih=>intro r;simp only [L8,Z3a h,Z0y h,ih]
theorem ev_env {E E':Env} (h:E'.glob=E.glob) (sl:List (Nat × AV)) (x:LO):ev E' sl x=ev E sl x:=by
  cases x<;>simp [ev,h]
theorem Yem {E E':Env} (h:E'.glob=E.glob) (c:L6) (st:St) (k:List It):move E' c st k=move E c st k:=by
  unfold move
  simp only [ev_env h,Yel h,Zwf h]
structure Ext (E E':Env):Prop where
  glob:E'.glob=E.glob
  fn:E'.fn=E.fn
  known:∀ f h,E.known f=some h→E'.known f=some h
  none:∀ f,E.known f=none→E'.known f=none∨E.fn f=none
theorem Yen {E E':Env} (h:Ext E E'):∀ n,(∀ fn k st r,Za6 E n fn k st=some r→Za6 E' n fn k st=some r)∧LeC (acall E n) (acall E' n):=by
  intro n
  induction n with
  | zero=>exact ⟨fun fn k st r h=>by simp [Za6] at h,fun f a σ r h=>by simp [acall] at h⟩
  | succ n ih =>
    obtain ⟨ih1,ih2⟩:=ih
    constructor
    · intro fn k st r hx
      rw [Za6] at hx ⊢
      rw [Yem h.glob]
      cases hm:move E (acall E n) st k with
      | go k' st'=>rw [hm] at hx;rw [Zbr ih2 (by simp) hm];exact ih1 _ _ _ _ hx
      | done=>rw [hm] at hx;rw [Zbr ih2 (by simp) hm];exact hx
      | stuck=>rw [hm] at hx;cases hx
    · intro f a σ r hx
      rw [acall] at hx ⊢
      cases hk:E.known f with
      | some g=>rw [hk] at hx;rw [h.known f g hk];exact hx
      | none =>
        rw [hk] at hx
        cases hf:E.fn f with
        | none=>rw [hf] at hx;cases hx
        | some fn =>
          have hk':E'.known f=Option.none:=(h.none f hk).resolve_right (by rw [hf];simp)
          rw [hk',h.fn,hf]
          rw [hf] at hx;simp only [] at hx ⊢
          cases hb:(a.length==fn.np)<;>rw [hb] at hx<;>simp only [cond_true,cond_false] at hx ⊢
          · cases hx
          · exact ih1 _ _ _ _ hx
theorem U5 {E E':Env} (h:Ext E E') {f:Nat} {a:List AV} {σ:A1} {r:AV × A1} (hx:S E f a σ=some r):S E' f a σ=some r:=by
  obtain ⟨n,hn⟩:=Zdl.1 hx
  exact Zdl.2 ⟨n,(Yen h n).2 _ _ _ _ hn⟩
end Cod
namespace Cod
open Go
theorem ext0:Ext E0 E where
  glob:=rfl
  fn:=rfl
  known f h hk:=hk
  none f hk:=.inl hk
end Cod
namespace Cod
open Go
def Zli (w e:Int):Int:=if e≠0∧(w=0∨e<w) then e else w
def Zdu (l:List Int):Int:=l.foldl Zli 0
theorem Q8 {b:Bool} {e:Int}:S E F.C0 [.bool b,.int .i64 e] []=some (.int .i64 (if b then e else 0),[]):=by
  rw [S_of Zq2 rfl rfl]
  cases b<;>simp -dsimp (disch:=first|omega|(simp only [A4,A9,A5]<;>omega)|fail) only [L.C0,go_sem,reduceIte,reduceCtorEq,C9,D0,D1,D2,D3,D4,D5,D6,D7,D8,D9,E2,E3,E4,E5,E6,E7,E8,E9,A2]
theorem Yeo {l:List Int} {i:Nat} (h:i<l.length):(N5 l)[i]? = some (.int .i64 (l.getD i 0)):=by
  unfold N5
  rw [List.getElem?_map,List.getElem?_eq_getElem h]
  simp [List.getD,h]
theorem Zar:∀ l:List Int,flats (N5 l)=true:=by
  intro l;induction l with
  | nil=>rfl
  | cons a l ih=>show flats (.int .i64 a::N5 l)=true;simp [flats,L4,ih]
theorem Zad:∀ l:List Int,refsOfs (N5 l)=[]:=by
  intro l;induction l with
  | nil=>rfl
  | cons a l ih=>show refsOfs (.int .i64 a::N5 l)=[];simp [refsOfs,Y0,ih]
theorem Zdf (f:Site→Nat→Option (Site × Nat)):∀ l:List Int,rens f (N5 l)=N5 l:=fun l=>rens_flats _ (Zar l)
theorem Yep {l:List Int} (hl:l.length≤1000000):∀ (m i:Nat) (w:Int),i+m=l.length →
    X E [.tmp 2] (.c L.C4.x0::.lp [3,6,7,8] L.C4.x0::.blk 0::[.c L.C4.r0]) ⟨[(3,.int .i64 w),(6,.lst (N5 l) l.length),(7,.int .i64 l.length),(8,.int .i64 i)],[]⟩=some (.int .i64 ((l.drop i).foldl Zli w),[]):=by
  intro m
  induction m with
  | zero =>
    intro i w h
    obtain rfl:i=l.length:=by omega
    rw [N4 L.C4.x0.eq_1,List.drop_length]
    simp -dsimp (disch:=first|omega|(simp only [A4,A9,A5]<;>omega)|fail) only [go_sem,reduceIte,reduceCtorEq,C9,D0,D1,D2,D3,D4,D5,D6,D7,D8,D9,E2,E3,E4,E5,E6,E7,E8,E9,A2,L.C4.r0,Zar,Zad,Zdf]
    rfl
  | succ m ih =>
    intro i w h
    have hlt:i<l.length:=by omega
    have h1:=ih (i+1) (Zli w (l.getD i 0)) (by omega)
    simp only [Yop,Yoj] at h1
    have hg:=Yeo hlt
    rw [N4 L.C4.x0.eq_1,Yob hlt,List.foldl_cons,show l[i]=l.getD i 0 by simp [List.getD,hlt]]
    generalize l.getD i 0=e at *
    unfold Zli at h1 ⊢
    by_cases e0:e=0
    · subst e0
      rw [if_neg (by simp)] at h1 ⊢
      simp -dsimp (disch:=first|omega|(simp only [A4,A9,A5]<;>omega)|fail) only [go_sem,reduceIte,reduceCtorEq,C9,D0,D1,D2,D3,D4,D5,D6,D7,D8,D9,E2,E3,E4,E5,E6,E7,E8,E9,A2,Zar,Zad,Zdf,hg,h1]
    · by_cases w0:w=0
      · subst w0
        rw [if_pos (by simp [e0])] at h1 ⊢
        simp -dsimp (disch:=first|omega|(simp only [A4,A9,A5]<;>omega)|fail) only [go_sem,reduceIte,reduceCtorEq,C9,D0,D1,D2,D3,D4,D5,D6,D7,D8,D9,E2,E3,E4,E5,E6,E7,E8,E9,A2,Zar,Zad,Zdf,hg,h1,e0]
      · by_cases lt:e<w
        · rw [if_pos (by simp [e0,lt])] at h1 ⊢
          simp -dsimp (disch:=first|omega|(simp only [A4,A9,A5]<;>omega)|fail) only [go_sem,reduceIte,reduceCtorEq,C9,D0,D1,D2,D3,D4,D5,D6,D7,D8,D9,E2,E3,E4,E5,E6,E7,E8,E9,A2,Zar,Zad,Zdf,hg,h1,e0,w0,lt]
        · rw [if_neg (by simp [e0,lt,w0])] at h1 ⊢
          simp -dsimp (disch:=first|omega|(simp only [A4,A9,A5]<;>omega)|fail) only [go_sem,reduceIte,reduceCtorEq,C9,D0,D1,D2,D3,D4,D5,D6,D7,D8,D9,E2,E3,E4,E5,E6,E7,E8,E9,A2,Zar,Zad,Zdf,hg,h1,e0,w0,lt]
theorem Zjh {l:List Int} (hl:l.length≤1000000):S E F.C4 [.lst (N5 l) l.length] []=some (.int .i64 (Zdu l),[]):=by
  have h:=Yep hl l.length 0 0 (by omega)
  simp only [Yoj,Ynr] at h
  rw [S_of Zq1 rfl rfl]
  simp -dsimp (disch:=first|omega|(simp only [A4,A9,A5]<;>omega)|fail) only [L.C4,go_sem,reduceIte,reduceCtorEq,C9,D0,D1,D2,D3,D4,D5,D6,D7,D8,D9,E2,E3,E4,E5,E6,E7,E8,E9,A2,Zar,Zad,Zdf,h]
  rfl
end Cod
namespace Cod
open Go
theorem Zhw (x:Int):IntKind.u32.wrap x=x%4294967296:=by
  simp only [IntKind.wrap,IntKind.signed,IntKind.bits]
  simp
theorem Zff (a:BitVec 32):BitVec.ofInt 32 (a.toNat:Int)=a:=by
  apply BitVec.eq_of_toNat_eq
  rw [Yoi]
  have:=a.isLt
  omega
theorem Zfg (a:BitVec 32):(a.toNat:Int)<4294967296:=by have:=a.isLt;omega
theorem w_add (a b:BitVec 32):H0 .add (W a) (W b)=some (W (a+b)):=by
  simp only [W,Z2u,Zhw,BitVec.toNat_add]
  simp
theorem w_and (a b:BitVec 32):H0 .and (W a) (W b)=some (W (a &&& b)):=by
  rw [W,W,Z2v,Zza]
  show some (AV.int .u32 (IntKind.u32.wrap (((BitVec.ofInt 32 (a.toNat:Int)) &&& (BitVec.ofInt 32 (b.toNat:Int))).toNat:Int)))=some (AV.int .u32 ((a &&& b).toNat:Int))
  rw [Zff,Zff,Zhw,Yoq (by omega) (Zfg _)]
theorem w_or (a b:BitVec 32):H0 .or (W a) (W b)=some (W (a ||| b)):=by
  rw [W,W,Yco,ior]
  show some (AV.int .u32 (IntKind.u32.wrap (((BitVec.ofInt 32 (a.toNat:Int)) ||| (BitVec.ofInt 32 (b.toNat:Int))).toNat:Int)))=some (AV.int .u32 ((a ||| b).toNat:Int))
  rw [Zff,Zff,Zhw,Yoq (by omega) (Zfg _)]
theorem w_xor (a b:BitVec 32):H0 .xor (W a) (W b)=some (W (a ^^^ b)):=by
  rw [W,W,Z2w,ixor]
  show some (AV.int .u32 (IntKind.u32.wrap (((BitVec.ofInt 32 (a.toNat:Int)) ^^^ (BitVec.ofInt 32 (b.toNat:Int))).toNat:Int)))=some (AV.int .u32 ((a ^^^ b).toNat:Int))
  rw [Zff,Zff,Zhw,Yoq (by omega) (Zfg _)]
theorem w_not (a:BitVec 32):Zpr .xor (W a)=some (W (~~~a)):=by
  rw [W,Yc0,inot]
  show some (AV.int .u32 (IntKind.u32.wrap (((BitVec.allOnes 32) ^^^ (BitVec.ofInt 32 (a.toNat:Int))).toNat:Int)))=some (AV.int .u32 ((~~~a).toNat:Int))
  rw [Zff,BitVec.allOnes_xor,Zhw,Yoq (by omega) (Zfg _)]
theorem w_shl' (a:BitVec 32) (k:IntKind) (n:Nat):H0 .shl (W a) (.int k (n:Int))=some (W (a <<< n)):=by
  rw [W,Z2x (by omega),Zzb]
  show some (AV.int .u32 (IntKind.u32.wrap ((a.toNat:Int)*2^(Nat.min n 32))))=some (AV.int .u32 ((a <<< n).toNat:Int))
  rw [Zhw,BitVec.toNat_shiftLeft,Nat.shiftLeft_eq]
  by_cases h:n≤32
  · rw [show Nat.min n 32=n from Yn1 h,Int.natCast_emod,Int.natCast_mul,Yor]
    rfl
  · rw [show Nat.min n 32=32 from Yos (by omega)]
    obtain ⟨m,rfl⟩:∃ m,n=32+m:=⟨n-32,by omega⟩
    have h1:a.toNat*2^(32+m)%2^32=0:=by
      rw [Nat.pow_add,←Nat.mul_assoc,Nat.mul_right_comm]
      exact Nat.mul_mod_left _ _
    rw [h1]
    have h2:(a.toNat:Int)*2^32%4294967296=0:=by omega
    rw [h2];rfl
theorem w_shr' (a:BitVec 32) (k:IntKind) (n:Nat):H0 .shr (W a) (.int k (n:Int))=some (W (a >>> n)):=by
  rw [W,Z2y (by omega),Zuw]
  show some (AV.int .u32 ((a.toNat:Int).fdiv (2^(Nat.min n 32))))=some (AV.int .u32 ((a >>> n).toNat:Int))
  rw [BitVec.toNat_ushiftRight,Nat.shiftRight_eq_div_pow]
  have key:∀ m:Nat,((a.toNat:Int)).fdiv (2^m)=((a.toNat/2^m:Nat):Int):=by
    intro m
    rw [Int.fdiv_eq_ediv_of_nonneg _ (Int.le_of_lt (Int.pow_pos (by omega))),Int.natCast_ediv,Yor]
    rfl
  rw [key]
  by_cases h:n≤32
  · rw [show Nat.min n 32=n from Yn1 h]
  · rw [show Nat.min n 32=32 from Yos (by omega)]
    have h1:a.toNat/2^32=0:=Yot a.isLt
    have h2:a.toNat/2^n=0:=Yot (Nat.lt_of_lt_of_le a.isLt (Nat.pow_le_pow_right (by omega) (by omega)))
    rw [h1,h2]
theorem w_shl (a:BitVec 32) (k:IntKind) (n:Int) (h:0≤n):H0 .shl (W a) (.int k n)=some (W (a <<< n.toNat)):=by
  obtain ⟨m,rfl⟩:=You h
  rw [w_shl'];rfl
theorem w_shr (a:BitVec 32) (k:IntKind) (n:Int) (h:0≤n):H0 .shr (W a) (.int k n)=some (W (a >>> n.toNat)):=by
  obtain ⟨m,rfl⟩:=You h
  rw [w_shr'];rfl
theorem Z7l (n:Nat):zer (.int .u32 0) n=C8 (List.replicate n 0):=by simp [zer,C8,W]
theorem Zwg (l:List (BitVec 32)):flats (C8 l)=true:=by
  induction l with
  | nil=>rfl
  | cons x l ih=>simpa [C8,flats,L4,W] using ih
theorem Zwh (l:List (BitVec 32)):H8 (C8 l)=true:=by
  induction l with
  | nil=>rfl
  | cons x l ih=>simpa [C8,H8,R7,W] using ih
theorem Zsl (l:List (BitVec 32)):leadss (C8 l)=false:=by
  induction l with
  | nil=>rfl
  | cons x l ih=>simpa [C8,leadss,Q9,W] using ih
theorem Zsm (l:List (BitVec 32)):refsOfs (C8 l)=[]:=by
  induction l with
  | nil=>rfl
  | cons x l ih=>simpa [C8,refsOfs,Y0,W] using ih
theorem Z0z (f:Site→Nat→Option (Site × Nat)) (l:List (BitVec 32)):rens f (C8 l)=C8 l:=by
  induction l with
  | nil=>rfl
  | cons x l ih=>simpa [C8,rens,ren,W] using ih
theorem Z7m {l:List (BitVec 32)} {i:Nat} (h:i<l.length):(C8 l)[i]? = some (W (l.getD i 0)):=by simp [C8,h]
theorem Z00 {l:List (BitVec 32)} {i:Nat} {x:BitVec 32} (h:i<l.length):over (C8 l) i [W x]=C8 (l.set i x):=by
  unfold over C8
  rw [Yoh,List.map_set,List.set_eq_take_append_cons_drop,if_pos (by simpa using h)]
  simp
theorem Z01 (l:List (BitVec 32)) (n:Nat):(C8 l).take n=C8 (l.take n):=by simp [C8,List.map_take]
theorem Z02 (l:List (BitVec 32)) (n:Nat):(C8 l).drop n=C8 (l.drop n):=by simp [C8,List.map_drop]
theorem Z7n (l:List (BitVec 32)) (i n:Nat):sub (C8 l) i n=C8 (sub l i n):=by simp [sub,C8,List.map_drop,List.map_take]
theorem Zsn {l m:List (BitVec 32)} (h:m.length=l.length):over (C8 l) 0 (C8 m)=C8 m:=by
  unfold over;exact Zg1 (by rw [Zc8,Zc8,h])
theorem hard_W (x:BitVec 32):R7 (W x)=true:=rfl
theorem flat_W (x:BitVec 32):L4 (W x)=true:=rfl
theorem Yeq (x:BitVec 32):Y0 (W x)=[]:=rfl
theorem Ykq (x:BitVec 32):Q9 (W x)=false:=rfl
theorem ren_W (f:Site→Nat→Option (Site × Nat)) (x:BitVec 32):ren f (W x)=W x:=rfl
theorem view_W (x:BitVec 32):Zb5 (W x)=.ret (W x,[]):=rfl
theorem Ykr (x:BitVec 32):X2 (W x)=.ret (W x,[]):=rfl
theorem Yer (x:BitVec 32):H5 (W x)=some [W x]:=rfl
def bw (l:List UInt8) (i:Nat):BitVec 32:=BitVec.ofNat 32 (l.getD i 0).toNat
theorem cvi_bw (l:List UInt8) (i:Nat):Zpt .u32 (.int .u8 (bat l i))=.ret (W (bw l i),[]):=by
  have h:=(l.getD i 0).toNat_lt
  have:IntKind.u32.wrap (bat l i)=((bw l i).toNat:Int):=by
    rw [Zhw];unfold bat bw
    rw [BitVec.toNat_ofNat]
    omega
  rw [Zmp,this];rfl
def wb (x:BitVec 32):UInt8:=UInt8.ofNat x.toNat
theorem cvi_wb (x:BitVec 32):Zpt .u8 (W x)=.ret (.int .u8 ((wb x).toNat:Int),[]):=by
  have:IntKind.u8.wrap (x.toNat:Int)=((wb x).toNat:Int):=by
    rw [Zg0];unfold wb
    simp
  rw [W,Zmp,this]
theorem WDs:(∀ (l:List (BitVec 32)) (n:Nat),(C8 l).take n=C8 (l.take n))∧(∀ (l:List (BitVec 32)) (n:Nat),(C8 l).drop n=C8 (l.drop n))∧(∀ (l:List (BitVec 32)) (i n:Nat),sub (C8 l) i n=C8 (sub l i n))∧(∀ l m:List (BitVec 32),m.length=l.length→over (C8 l) 0 (C8 m)=C8 m)∧(∀ n:Nat,zer (.int .u32 0) n=C8 (List.replicate n 0))∧(∀ a b:BitVec 32,H0 .add (W a) (W b)=some (W (a+b)))∧(∀ a b:BitVec 32,H0 .and (W a) (W b)=some (W (a &&& b)))∧(∀ a b:BitVec 32,H0 .or (W a) (W b)=some (W (a ||| b)))∧(∀ a b:BitVec 32,H0 .xor (W a) (W b)=some (W (a ^^^ b)))∧(∀ a:BitVec 32,Zpr .xor (W a)=some (W (~~~a)))∧(∀ (a:BitVec 32) (k:IntKind) (n:Int),0≤n→H0 .shl (W a) (.int k n)=some (W (a <<< n.toNat)))∧(∀ (a:BitVec 32) (k:IntKind) (n:Int),0≤n→H0 .shr (W a) (.int k n)=some (W (a >>> n.toNat)))∧(∀ l:List (BitVec 32),flats (C8 l)=true)∧(∀ l:List (BitVec 32),H8 (C8 l)=true)∧(∀ l:List (BitVec 32),leadss (C8 l)=false)∧(∀ l:List (BitVec 32),refsOfs (C8 l)=[])∧(∀ (f:Site→Nat→Option (Site × Nat)) (l:List (BitVec 32)),rens f (C8 l)=C8 l)∧(∀ l:List (BitVec 32),(C8 l).length=l.length)∧(∀ (l:List (BitVec 32)) (i:Nat),i<l.length→(C8 l)[i]? = some (W (l.getD i 0)))∧(∀ (l:List (BitVec 32)) (i:Nat) (x:BitVec 32),i<l.length→over (C8 l) i [W x]=C8 (l.set i x))∧(∀ x:BitVec 32,R7 (W x)=true)∧(∀ x:BitVec 32,L4 (W x)=true)∧(∀ x:BitVec 32,Y0 (W x)=[])∧(∀ x:BitVec 32,Q9 (W x)=false)∧(∀ (f:Site→Nat→Option (Site × Nat)) (x:BitVec 32),ren f (W x)=W x)∧(∀ x:BitVec 32,Zb5 (W x)=.ret (W x,[]))∧(∀ x:BitVec 32,X2 (W x)=.ret (W x,[]))∧(∀ x:BitVec 32,H5 (W x)=some [W x])∧(∀ (l:List UInt8) (i:Nat),Zpt .u32 (.int .u8 (bat l i))=.ret (W (bw l i),[]))∧(∀ x:BitVec 32,Zpt .u8 (W x)=.ret (.int .u8 ((wb x).toNat:Int),[])) :=
  ⟨Z01,Z02,Z7n,fun _ _ h=>Zsn h,Z7l,w_add,w_and,w_or,w_xor,w_not,w_shl,w_shr,Zwg,Zwh,Zsl,Zsm,Z0z,Zc8,fun _ _ h=>Z7m h,fun _ _ _ h=>Z00 h,hard_W,flat_W,Yeq,Ykq,ren_W,view_W,Ykr,Yer,cvi_bw,cvi_wb⟩
end Cod
namespace Cod
open Go
def Zdv (x:BitVec 32) (n:Nat):BitVec 32:=x >>> n ||| x <<< (32-n)
theorem Zeb {x:BitVec 32} {k:Int} {n:Nat} (hn:n≤32) (hk:Zza .u64 (IntKind.u64.wrap k) 31=((32-n:Nat):Int)) :
    S E F.F1 [W x,.int .i64 k] []=some (W (Zdv x n),[]):=by
  have h1:IntKind.u64.wrap (32-((32-n:Nat):Int))=(n:Int):=by
    simp only [IntKind.wrap,IntKind.signed,IntKind.bits]
    simp
    omega
  rw [S_of Zrh rfl rfl]
  simp (disch:=omega) only [L.F1,go_sem,reduceIte,reduceCtorEq,C9,D0,D1,D2,D3,D4,D5,D6,D7,D8,D9,E2,E3,E4,E5,E6,E7,E8,E9,A2,WDs,hk,h1]
  rw [Zdv,BitVec.or_comm]
theorem rot_7 {x:BitVec 32}:S E F.F1 [W x,.int .i64 (-7)] []=some (W (Zdv x 7),[]):=Zeb (by omega) (by decide)
theorem rot_18 {x:BitVec 32}:S E F.F1 [W x,.int .i64 (-18)] []=some (W (Zdv x 18),[]):=Zeb (by omega) (by decide)
theorem rot_17 {x:BitVec 32}:S E F.F1 [W x,.int .i64 (-17)] []=some (W (Zdv x 17),[]):=Zeb (by omega) (by decide)
theorem rot_19 {x:BitVec 32}:S E F.F1 [W x,.int .i64 (-19)] []=some (W (Zdv x 19),[]):=Zeb (by omega) (by decide)
theorem rot_6 {x:BitVec 32}:S E F.F1 [W x,.int .i64 (-6)] []=some (W (Zdv x 6),[]):=Zeb (by omega) (by decide)
theorem rot_11 {x:BitVec 32}:S E F.F1 [W x,.int .i64 (-11)] []=some (W (Zdv x 11),[]):=Zeb (by omega) (by decide)
theorem rot_25 {x:BitVec 32}:S E F.F1 [W x,.int .i64 (-25)] []=some (W (Zdv x 25),[]):=Zeb (by omega) (by decide)
theorem rot_2 {x:BitVec 32}:S E F.F1 [W x,.int .i64 (-2)] []=some (W (Zdv x 2),[]):=Zeb (by omega) (by decide)
theorem rot_13 {x:BitVec 32}:S E F.F1 [W x,.int .i64 (-13)] []=some (W (Zdv x 13),[]):=Zeb (by omega) (by decide)
theorem rot_22 {x:BitVec 32}:S E F.F1 [W x,.int .i64 (-22)] []=some (W (Zdv x 22),[]):=Zeb (by omega) (by decide)
def word4 (b:List UInt8) (i:Nat):BitVec 32:=bw b (4*i) <<< 24 ||| bw b (4*i+1) <<< 16 ||| bw b (4*i+2) <<< 8 ||| bw b (4*i+3)
def Zk6 (b:List UInt8):Nat→Nat→List (BitVec 32)→List (BitVec 32)
  | 0,_,ws=>ws
  | m+1,i,ws=>Zk6 b m (i+1) (ws.set i (word4 b i))
def sig0 (x:BitVec 32):BitVec 32:=Zdv x 7 ^^^ Zdv x 18 ^^^ x >>> 3
def sig1 (y:BitVec 32):BitVec 32:=Zdv y 17 ^^^ Zdv y 19 ^^^ y >>> 10
def sched (ws:List (BitVec 32)) (i:Nat):BitVec 32:=ws.getD (i-16) 0+sig0 (ws.getD (i-15) 0)+ws.getD (i-7) 0+sig1 (ws.getD (i-2) 0)
def Zm6:Nat→Nat→List (BitVec 32)→List (BitVec 32)
  | 0,_,ws=>ws
  | m+1,i,ws=>Zm6 m (i+1) (ws.set i (sched ws i))
theorem Zji (b:List UInt8):∀ m i ws,(Zk6 b m i ws).length=ws.length:=by
  intro m
  induction m with
  | zero=>intro i ws;rfl
  | succ m ih=>intro i ws;simp [Zk6,ih]
theorem Zso:∀ m i ws,(Zm6 m i ws).length=ws.length:=by
  intro m
  induction m with
  | zero=>intro i ws;rfl
  | succ m ih=>intro i ws;simp [Zm6,ih]
theorem Yes {h:List (BitVec 32)} {b:List UInt8} (hh:h.length=8) (hb:b.length=64) (k:List It):∀ (m i:Nat) (ws:List (BitVec 32)),i+m=16→ws.length=64 →
    X E [.cell 4 (some 8)] (.c L.C5.x0::.lp [2,3,4,5,23] L.C5.x0::.blk 0::k) ⟨[(2,.ref (.s 1000000 0) 0 0),(3,.ref (.s 1000000 1) 0 0),(4,.ref (.s 1000000 2) 0 0),(5,.ref (.s 1000000 3) 0 0),(23,.int .i64 i)],[(.s 1000000 0,⟨0,true,true,true,C8 h⟩),(.s 1000000 1,⟨0,true,true,true,A0 b⟩),(.s 1000000 2,⟨0,true,true,true,C8 (List.replicate 8 0)⟩),(.s 1000000 3,⟨0,true,true,true,C8 ws⟩)]⟩=X E [.cell 4 (some 8)] k ⟨[(2,.ref (.s 1000000 0) 0 0),(3,.ref (.s 1000000 1) 0 0),(4,.ref (.s 1000000 2) 0 0),(5,.ref (.s 1000000 3) 0 0),(23,.int .i64 16),(24,.bool false)],[(.s 1000000 0,⟨0,true,true,true,C8 h⟩),(.s 1000000 1,⟨0,true,true,true,A0 b⟩),(.s 1000000 2,⟨0,true,true,true,C8 (List.replicate 8 0)⟩),(.s 1000000 3,⟨0,true,true,true,C8 (Zk6 b m i ws)⟩)]⟩:=by
  intro m
  induction m with
  | zero =>
    intro i ws h1 h2
    obtain rfl:i=16:=by omega
    rw [N4 L.C5.x0.eq_1]
    simp (disch:=omega) only [go_sem,reduceIte,reduceCtorEq,C9,D0,D1,D2,D3,D4,D5,D6,D7,D8,D9,E2,E3,E4,E5,E6,E7,E8,E9,A2,B9,B8,B6,WDs,BYs,Zk6,Yoj]
  | succ m ih =>
    intro i ws h1 h2
    have e0:(4*(i:Int)).toNat=4*i:=by omega
    have e1:(4*(i:Int)+1).toNat=4*i+1:=by omega
    have e2:(4*(i:Int)+2).toNat=4*i+2:=by omega
    have e3:(4*(i:Int)+3).toNat=4*i+3:=by omega
    rw [N4 L.C5.x0.eq_1]
    simp (disch:=omega) only [go_sem,reduceIte,reduceCtorEq,C9,D0,D1,D2,D3,D4,D5,D6,D7,D8,D9,E2,E3,E4,E5,E6,E7,E8,E9,A2,B9,B8,B6,WDs,BYs,Zk6,e0,e1,e2,e3]
    have:=ih (i+1) (ws.set i (word4 b i)) (by omega) (by simpa using h2)
    simp only [Yop,Yoj] at this
    exact this
theorem Yet {h:List (BitVec 32)} (hh:h.length=8) (k:List It):∀ (m i:Nat) (ws:List (BitVec 32)),i+m=64→16≤i→ws.length=64 →
    X E [.cell 4 (some 8)] (.c L.C5.x1::.lp [2,4,5,7] L.C5.x1::.blk 2::k) ⟨[(2,.ref (.s 1000000 0) 0 0),(4,.ref (.s 1000000 1) 0 0),(5,.ref (.s 1000000 2) 0 0),(7,.int .i64 i)],[(.s 1000000 0,⟨0,true,true,true,C8 h⟩),(.s 1000000 1,⟨0,true,true,true,C8 (List.replicate 8 0)⟩),(.s 1000000 2,⟨0,true,true,true,C8 ws⟩)]⟩=X E [.cell 4 (some 8)] k ⟨[(2,.ref (.s 1000000 0) 0 0),(4,.ref (.s 1000000 1) 0 0),(5,.ref (.s 1000000 2) 0 0),(7,.int .i64 64),(59,.bool false)],[(.s 1000000 0,⟨0,true,true,true,C8 h⟩),(.s 1000000 1,⟨0,true,true,true,C8 (List.replicate 8 0)⟩),(.s 1000000 2,⟨0,true,true,true,C8 (Zm6 m i ws)⟩)]⟩:=by
  intro m
  induction m with
  | zero =>
    intro i ws h1 h0 h2
    obtain rfl:i=64:=by omega
    rw [N4 L.C5.x1.eq_1]
    simp (disch:=omega) only [go_sem,reduceIte,reduceCtorEq,C9,D0,D1,D2,D3,D4,D5,D6,D7,D8,D9,E2,E3,E4,E5,E6,E7,E8,E9,A2,B9,B8,B6,WDs,BYs,Zm6,Yoj]
  | succ m ih =>
    intro i ws h1 h0 h2
    have e0:((i:Int)-16).toNat=i-16:=by omega
    have e1:((i:Int)-15).toNat=i-15:=by omega
    have e2:((i:Int)-7).toNat=i-7:=by omega
    have e3:((i:Int)-2).toNat=i-2:=by omega
    rw [N4 L.C5.x1.eq_1]
    simp (disch:=omega) only [go_sem,reduceIte,reduceCtorEq,C9,D0,D1,D2,D3,D4,D5,D6,D7,D8,D9,E2,E3,E4,E5,E6,E7,E8,E9,A2,B9,B8,B6,WDs,BYs,Zm6,e0,e1,e2,e3,rot_7,rot_18,rot_17,rot_19]
    have:=ih (i+1) (ws.set i (sched ws i)) (by omega) (by omega) (by simpa using h2)
    simp only [Yop,Yoj] at this
    exact this
structure S8 where
  a:BitVec 32
  b:BitVec 32
  c:BitVec 32
  d:BitVec 32
  e:BitVec 32
  f:BitVec 32
  g:BitVec 32
  h:BitVec 32
def su1 (e:BitVec 32):BitVec 32:=Zdv e 6 ^^^ Zdv e 11 ^^^ Zdv e 25
def su0 (a:BitVec 32):BitVec 32:=Zdv a 2 ^^^ Zdv a 13 ^^^ Zdv a 22
def rndU (k w:BitVec 32) (s:S8):BitVec 32:=s.h+su1 s.e+(s.e &&& s.f ||| ~~~s.e &&& s.g)+k+w
def rndV (s:S8):BitVec 32:=su0 s.a+(s.a &&& s.b ^^^ s.a &&& s.c ^^^ s.b &&& s.c)
def rnd (k w:BitVec 32) (s:S8):S8:=⟨rndU k w s+rndV s,s.a,s.b,s.c,s.d+rndU k w s,s.e,s.f,s.g⟩
def Zkf (ws:List (BitVec 32)):Nat→Nat→S8→S8
  | 0,_,s=>s
  | m+1,i,s=>Zkf ws m (i+1) (rnd (Zr9.getD i 0) (ws.getD i 0) s)
def S8.of (h:List (BitVec 32)):S8:=⟨h.getD 0 0,h.getD 1 0,h.getD 2 0,h.getD 3 0,h.getD 4 0,h.getD 5 0,h.getD 6 0,h.getD 7 0⟩
def S8.plus (h:List (BitVec 32)) (s:S8):List (BitVec 32):=[h.getD 0 0+s.a,h.getD 1 0+s.b,h.getD 2 0+s.c,h.getD 3 0+s.d,h.getD 4 0+s.e,h.getD 5 0+s.f,h.getD 6 0+s.g,h.getD 7 0+s.h]
def msch (b:List UInt8):List (BitVec 32):=Zm6 48 16 (Zk6 b 16 0 (List.replicate 64 0))
def Zkg (h:List (BitVec 32)) (b:List UInt8):List (BitVec 32):=S8.plus h (Zkf (msch b) 64 0 (S8.of h))
theorem Zwi (b:List UInt8):(msch b).length=64:=by rw [msch,Zso,Zji];simp
theorem Zbk (h:List (BitVec 32)) (b:List UInt8):(Zkg h b).length=8:=rfl
theorem Zwj:Zr9.length=64:=rfl
theorem Yeu {h ws:List (BitVec 32)} (hh:h.length=8) (hw:ws.length=64) (k:List It):∀ (m i:Nat) (s:S8),i+m=64 →
    X E [.cell 4 (some 8)] (.c L.C5.x2::.lp [2,4,5,12,13,14,15,16,17,18,19,117] L.C5.x2::.blk 4::k) ⟨[(2,.ref (.s 1000000 0) 0 0),(4,.ref (.s 1000000 1) 0 0),(5,.ref (.s 1000000 2) 0 0),(12,W s.a),(13,W s.b),(14,W s.c),(15,W s.d),(16,W s.e),(17,W s.f),(18,W s.g),(19,W s.h),(117,.int .i64 i)],[(.s 1000000 0,⟨0,true,true,true,C8 h⟩),(.s 1000000 1,⟨0,true,true,true,C8 (List.replicate 8 0)⟩),(.s 1000000 2,⟨0,true,true,true,C8 ws⟩)]⟩=X E [.cell 4 (some 8)] k ⟨[(2,.ref (.s 1000000 0) 0 0),(4,.ref (.s 1000000 1) 0 0),(5,.ref (.s 1000000 2) 0 0),(12,W (Zkf ws m i s).a),(13,W (Zkf ws m i s).b),(14,W (Zkf ws m i s).c),(15,W (Zkf ws m i s).d),(16,W (Zkf ws m i s).e),(17,W (Zkf ws m i s).f),(18,W (Zkf ws m i s).g),(19,W (Zkf ws m i s).h),(117,.int .i64 64),(118,.bool false)],[(.s 1000000 0,⟨0,true,true,true,C8 h⟩),(.s 1000000 1,⟨0,true,true,true,C8 (List.replicate 8 0)⟩),(.s 1000000 2,⟨0,true,true,true,C8 ws⟩)]⟩:=by
  intro m
  have hk:=Zwj
  induction m with
  | zero =>
    intro i s h1
    obtain rfl:i=64:=by omega
    rw [N4 L.C5.x2.eq_1]
    simp (disch:=omega) only [go_sem,reduceIte,reduceCtorEq,C9,D0,D1,D2,D3,D4,D5,D6,D7,D8,D9,E2,E3,E4,E5,E6,E7,E8,E9,A2,B9,B8,B6,WDs,BYs,Zkf,Yoj]
  | succ m ih =>
    intro i s h1
    rw [N4 L.C5.x2.eq_1]
    simp (disch:=omega) only [go_sem,reduceIte,reduceCtorEq,C9,D0,D1,D2,D3,D4,D5,D6,D7,D8,D9,E2,E3,E4,E5,E6,E7,E8,E9,A2,B9,B8,B6,WDs,BYs,Zkf,glob_k,rot_6,rot_11,rot_25,rot_2,rot_13,rot_22]
    have:=ih (i+1) (rnd (Zr9.getD i 0) (ws.getD i 0) s) (by omega)
    simp only [Yop,Yoj] at this
    exact this
theorem Yev {h ws:List (BitVec 32)} (hh:h.length=8) (R:S8):X E [.cell 4 (some 8)] [.c L.C5.r2] ⟨[(2,.ref (.s 1000000 0) 0 0),(4,.ref (.s 1000000 1) 0 0),(5,.ref (.s 1000000 2) 0 0),(12,W R.a),(13,W R.b),(14,W R.c),(15,W R.d),(16,W R.e),(17,W R.f),(18,W R.g),(19,W R.h),(117,.int .i64 64),(118,.bool false)],[(.s 1000000 0,⟨0,true,true,true,C8 h⟩),(.s 1000000 1,⟨0,true,true,true,C8 (List.replicate 8 0)⟩),(.s 1000000 2,⟨0,true,true,true,C8 ws⟩)]⟩=some (.agg (C8 (S8.plus h R)),[]):=by
  simp -dsimp (disch:=first|omega|(simp only [A4]<;>omega)|fail) only [L.C5.r2,go_sem,reduceIte,reduceCtorEq,C9,D0,D1,D2,D3,D4,D5,D6,D7,D8,D9,E2,E3,E4,E5,E6,E7,E8,E9,A2,B9,B8,B6,WDs,BYs,List.length_replicate,Yof]
  rfl
theorem Yew {h ws:List (BitVec 32)} (hh:h.length=8) (hw:ws.length=64):X E [.cell 4 (some 8)] [.c L.C5.r1] ⟨[(2,.ref (.s 1000000 0) 0 0),(4,.ref (.s 1000000 1) 0 0),(5,.ref (.s 1000000 2) 0 0),(7,.int .i64 64),(59,.bool false)],[(.s 1000000 0,⟨0,true,true,true,C8 h⟩),(.s 1000000 1,⟨0,true,true,true,C8 (List.replicate 8 0)⟩),(.s 1000000 2,⟨0,true,true,true,C8 ws⟩)]⟩=some (.agg (C8 (S8.plus h (Zkf ws 64 0 (S8.of h)))),[]):=by
  rw [←Yev (ws:=ws) hh]
  have:=Yeu hh hw [.c L.C5.r2] 64 0 (S8.of h) (by omega)
  simp only [Yoj] at this
  rw [←this]
  simp -dsimp (disch:=first|omega|(simp only [A4]<;>omega)|fail) only [L.C5.r1,go_sem,reduceIte,reduceCtorEq,C9,D0,D1,D2,D3,D4,D5,D6,D7,D8,D9,E2,E3,E4,E5,E6,E7,E8,E9,A2,B9,B8,B6,WDs,BYs,S8.of]
theorem Zwk {h:List (BitVec 32)} {b:List UInt8} (hh:h.length=8) (hb:b.length=64):S E F.C5 [.agg (C8 h),.agg (A0 b)] []=some (.agg (C8 (Zkg h b)),[]):=by
  have l1:(Zk6 b 16 0 (List.replicate 64 0)).length=64:=by rw [Zji];simp
  rw [Zkg,←Yew hh (Zwi b),msch]
  have:=Yet hh [.c L.C5.r1] 48 16 _ (by omega) (by omega) l1
  simp only [Yoj] at this
  rw [←this]
  rw [S_of Zq7 rfl rfl]
  simp -dsimp (disch:=first|omega|(simp only [A4]<;>omega)|fail) only [L.C5,go_sem,reduceIte,reduceCtorEq,C9,D0,D1,D2,D3,D4,D5,D6,D7,D8,D9,E2,E3,E4,E5,E6,E7,E8,E9,A2,B9,B8,B6,WDs,BYs]
  have:=Yes hh hb [.c L.C5.r0] 16 0 (List.replicate 64 0) (by omega) (by simp)
  simp only [Yoj] at this
  rw [this]
  simp -dsimp (disch:=first|omega|(simp only [A4]<;>omega)|fail) only [L.C5.r0,go_sem,reduceIte,reduceCtorEq,C9,D0,D1,D2,D3,D4,D5,D6,D7,D8,D9,E2,E3,E4,E5,E6,E7,E8,E9,A2,B9,B8,B6,WDs,BYs]
end Cod

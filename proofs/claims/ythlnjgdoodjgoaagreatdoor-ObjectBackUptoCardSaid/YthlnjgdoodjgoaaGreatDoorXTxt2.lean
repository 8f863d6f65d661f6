/- What the run knows is so. -/
import Derived.Test.YthlnjgdoodjgoaaGreatDoorRows
import Derived.KernelRfl
import Derived.Test.YthlnjgdoodjgoaaGreatDoorXTxt1
import Derived.Test.YthlnjgdoodjgoaaGreatDoorXShelf1
import Derived.Test.YthlnjgdoodjgoaaGreatDoorXLit3
import Derived.Test.YthlnjgdoodjgoaaGreatDoorXCod1
set_option linter.unusedSimpArgs false
set_option linter.unusedVariables false
open List renaming any_cons → Ypm, contains_cons → Ypn, drop_eq_getElem_cons → Ypa, drop_of_length_le → Yo9, drop_zero → Yoq, flatMap_cons → Yo8, idxOf_cons → Ypd, length_append → Yny, length_cons → Ynn, length_set → Ype, length_singleton → Ypg, mem_append → Ypf, mem_cons_of_mem → Yob, mem_singleton → Ynp, take_of_length_le → Ynx
open Nat renaming div_eq_of_lt → Yps, le_refl → Ym7, min_eq_left → Yo0, min_eq_right → Ypr
open Int renaming cast_ofNat_Int → Ypi, emod_eq_of_lt → Ypp, eq_ofNat_of_zero_le → Ypt, natCast_add → Ypo, natCast_pow → Ypq
open Bool renaming and_assoc → Yn3, and_eq_true → Ynm, and_true → Yn6, false_and → Ypl, false_or → Ypk, not_false → Ypc, not_true → Ypb, true_and → Ypj
open Option renaming getD_some → Yof
open BitVec renaming toNat_ofInt → Yph
open Nat renaming reduceEqDiff → B9, reduceAdd → C0, reduceSub → C1, reduceMul → C2, reduceDiv → C3, reduceMod → C4, reduceBEq → C5, reduceLeDiff → C6, reduceLT → C7
open Int renaming reduceEq → C8, reduceNe → C9, reduceLT → D0, reduceLE → D1, reduceBEq → D2, reduceBNe → D3, reduceToNat → D4, reduceAdd → D5, reduceSub → D6, reduceMul → D7, reduceNeg → A3
namespace Cod
open Go Go.RowKit Go.Proofs Go.Shelf
set_option maxRecDepth 100000
theorem fns_ok:Zky Tryz.prog E:=Zml (by kernel_rfl) Z00 (fun _=>rfl)
theorem Z3u {E:Env} (hE:E.glob=T3):∀ p∈Zeb,Zfy Tryz.prog E p.1 p.2:=by
  unfold Zeb
  exact Yk2 hE
theorem Yew:Zep Tryz.prog E:=fun f h hf=>Z3u (E:=E) rfl (f,h) (Zfz (show Zeb.lookup f=some h from hf))
theorem Zgt {f:Nat} {fn:Func} {c:Code} (hf:Tryz.prog.funcs[f]? = some fn) (hb:fn.body=some c) (hn:(fn.name == "runtime.NumGoroutine")=false) {args:List AV} {v:AV} (h:S E f args []=some (v,[]))
    {W:World} (hW:Y5 W) {vs:List Value} (hv:VRL (ctx [] LaE W) args vs) {y:Value} (hy:∀ c z,VR c v z→z=y):Calls Tryz.prog f vs.toArray W (fun e W'=>e=.returned y∧Below W.heap.size W W'):=by
  have hrel:Rel E W (I0 [] LaE) [] LaE [] LaE W:=⟨⟨fun s e he=>by simp [B0] at he,fun s s' e e' b o o' he=>by simp [B0] at he⟩,Keep.refl _ _,fun b hb=>.inl hb,hW,fun x e he=>by simp [B0] at he,fun b hb=>.inl hb,rfl,fun b hb=>hb.elim⟩
  refine (Zix hf hb hn (Zhi Yew fns_ok h LaE hrel hv)).mono ?_
  rintro e W' ⟨z,rfl,La',h1,h2⟩
  rw [hy _ _ h2]
  exact ⟨rfl,Z1g h1.keep⟩
end Cod
namespace Cod
open Go Go.Proofs Go.Proofs.YthlnjgdoodjgoaaGreatDoor
set_option maxRecDepth 100000
theorem Zwl {α β:Type} [BEq α] [LawfulBEq α] {a : α} {b : β}:∀ {l:List (α × β)},l.lookup a=some b→(a,b)∈l:=by
  intro l
  induction l with
  | nil=>intro h;simp at h
  | cons x l ih =>
    intro h
    rw [List.lookup_cons] at h
    split at h
    · rename_i he
      rw [beq_iff_eq] at he
      cases h
      rw [he];exact List.mem_cons_self
    · exact Yob _ (ih h)
theorem own:ownKnob Tryz.prog.godebug=none:=by kernel_rfl
theorem Yk3:laidOutB Tryz.prog=true:=by kernel_rfl
theorem Z73:Tryz.prog.underlying 4=some .bool:=Tryz.underlying4
mutual
theorem Zds {H:Type}:∀ d:DataW H,Rows.uptoBulk d=O9 d
  | .lit (.string _)=>by simp [Rows.uptoBulk,O9]
  | .lit (.bool _)=>by simp [Rows.uptoBulk,O9]
  | .lit (.int _ _)=>by simp [Rows.uptoBulk,O9]
  | .lit (.float _ _)=>by simp [Rows.uptoBulk,O9]
  | .lit .nil=>by simp [Rows.uptoBulk,O9]
  | .nil=>by simp [Rows.uptoBulk,O9]
  | .ptr d=>by simp [Rows.uptoBulk,O9,Zds d]
  | .slice a b=>by simp [Rows.uptoBulk,O9,bulkAll_eq a,bulkAll_eq b]
  | .agg a=>by simp [Rows.uptoBulk,O9,bulkAll_eq a]
  | .iface _ d=>by simp [Rows.uptoBulk,O9,Zds d]
  | .map l=>by simp [Rows.uptoBulk,O9,bulkEntries_eq l]
  | .held _=>by simp [Rows.uptoBulk,O9]
theorem bulkAll_eq {H:Type}:∀ l:List (DataW H),Rows.uptoBulkAll l=dbulkAll l
  | []=>by simp [Rows.uptoBulkAll,dbulkAll]
  | d::r=>by simp [Rows.uptoBulkAll,dbulkAll,Zds d,bulkAll_eq r]
theorem bulkEntries_eq {H:Type}:∀ l:List (Lit × DataW H),Rows.uptoBulkEntries l=dbulkEntries l
  | []=>by simp [Rows.uptoBulkEntries,dbulkEntries]
  | d::r=>by simp [Rows.uptoBulkEntries,dbulkEntries,bulkEntry_eq d,bulkEntries_eq r]
theorem bulkEntry_eq {H:Type}:∀ x:Lit × DataW H,Rows.uptoBulkEntry x=dbulkEntry x
  | (.string _,d)=>by simp [Rows.uptoBulkEntry,dbulkEntry,Zds d]
  | (.bool _,d)=>by simp [Rows.uptoBulkEntry,dbulkEntry,Zds d]
  | (.int _ _,d)=>by simp [Rows.uptoBulkEntry,dbulkEntry,Zds d]
  | (.float _ _,d)=>by simp [Rows.uptoBulkEntry,dbulkEntry,Zds d]
  | (.nil,d)=>by simp [Rows.uptoBulkEntry,dbulkEntry,Zds d]
end
theorem Zsv {H:Type} (a b:List (DataW H)):dbulkAll (a++b)=dbulkAll a+dbulkAll b:=by
  induction a with
  | nil=>simp [dbulkAll]
  | cons x a ih=>simp only [List.cons_append,dbulkAll,ih];omega
theorem Yex {H:Type} {ds gs:List (DataW H)} (h:Rows.uptoSmall H (ds++gs)=true):dbulkAll ds≤1048576:=by
  simp only [Rows.uptoSmall,decide_eq_true_eq,bulkAll_eq,Zsv] at h
  omega
def Yey:List Int:=Zsm.map fun x=>(x.toNat:Int)
theorem kWords:F1 Zsm=Yey.map fun z=>AV.int .u32 z:=by kernel_rfl
theorem kLaid:(Rows.laid_codicil_sha_k:DataW Unit)=Lib.tabData .u32 Yey:=by kernel_rfl
theorem gK:Tryz.prog.globalNamed "codicil/sha.k" = some G.Zvw:=by kernel_rfl
theorem Yk4 {W:World} {l:List (String × DataW Unit)} (h:laidMetH Tryz.prog l W) (hm:("codicil/sha.k",Rows.laid_codicil_sha_k)∈l):GV (ctx [] La0 W) G.Zvw (F1 Zsm):=by
  rw [kWords]
  exact Ziy (Zdr (n:=64) h (kLaid▸hm) gK (by kernel_rfl) (t:=162) (e:=131) (by kernel_rfl) (by kernel_rfl) (by kernel_rfl) (by kernel_rfl)) gK (by simp [Yey,Zsm])
theorem Yez:(Rows.laid_unicode_asciiFold:DataW Unit)=Lib.tabData .u16 Zlm:=by kernel_rfl
theorem gF:Tryz.prog.globalNamed "unicode.asciiFold" = some G.Zcs:=by kernel_rfl
theorem Ye0 {W:World} {l:List (String × DataW Unit)} (h:laidMetH Tryz.prog l W) (hm:("unicode.asciiFold",Rows.laid_unicode_asciiFold)∈l):GV (ctx [] La0 W) G.Zcs (Zlm.map fun z=>.int .u16 z) :=
  Ziy (Zdr (n:=128) h (Yez▸hm) gF (by kernel_rfl) (t:=209) (e:=208) (by kernel_rfl) (by kernel_rfl) (by kernel_rfl) (by kernel_rfl)) gF (by simp [Zlm])
theorem Yk5:(Rows.laid_internal_strconv_uint64pow10:DataW Unit)=Lib.tabData .u64 Lib.pow10Tab:=by kernel_rfl
theorem gP:Tryz.prog.globalNamed "internal/strconv.uint64pow10" = some G.Za7:=by kernel_rfl
theorem Yk6 {W:World} {l:List (String × DataW Unit)} (h:laidMetH Tryz.prog l W) (hm:("internal/strconv.uint64pow10",Rows.laid_internal_strconv_uint64pow10)∈l):GV (ctx [] La0 W) G.Za7 (Lib.pow10Tab.map fun z=>.int .u64 z) :=
  Ziy (Zdr (n:=20) h (Yk5▸hm) gP (by kernel_rfl) (t:=196) (e:=164) (by kernel_rfl) (by kernel_rfl) (by kernel_rfl) (by kernel_rfl)) gP (by simp [Lib.pow10Tab])
theorem Ye1 {W:World} {l:List (String × DataW Unit)} (h:laidMetH Tryz.prog l W) (hm:("strconv.ErrSyntax",Rows.laid_strconv_ErrSyntax)∈l):GV (ctx [] La0 W) G.Zcq [.any none] :=
  Zv2 h hm (by rfl) (by kernel_rfl) (t:=85) (by kernel_rfl) (by kernel_rfl)
theorem Z74 {W:World} {l:List (String × DataW Unit)} (h:laidMetH Tryz.prog l W) (hm:("strconv.ErrRange",Rows.laid_strconv_ErrRange)∈l):GV (ctx [] La0 W) G.Zcr [.any none] :=
  Zv2 h hm (by rfl) (by kernel_rfl) (t:=85) (by kernel_rfl) (by kernel_rfl)
theorem Yk7 {W:World} (h:W.ShapedOpen Tryz.prog):GV (ctx [] La0 W) G.U9 [.any (some .i64)] :=
  Z05 h (of_decide_eq_true (by kernel_rfl)) (by kernel_rfl) (Go.Proofs.cell_of_shapedOpen_int (zero := #[.int .i64 0]) (t:=3) h (of_decide_eq_true (by kernel_rfl)) (by kernel_rfl) rfl (by kernel_rfl) (by kernel_rfl) Tryz.underlying3)
theorem Yk8:(Rows.laid_math_bits_deBruijn64tab:DataW Unit)=Lib.tabData .u8 Zso:=by kernel_rfl
theorem gB:Tryz.prog.globalNamed "math/bits.deBruijn64tab" = some G.Zct:=by kernel_rfl
theorem Yk9 {W:World} {l:List (String × DataW Unit)} (h:laidMetH Tryz.prog l W) (hm:("math/bits.deBruijn64tab",Rows.laid_math_bits_deBruijn64tab)∈l):GV (ctx [] La0 W) G.Zct (Zso.map fun z=>.int .u8 z) :=
  Ziy (Zdr (n:=64) h (Yk8▸hm) gB (by kernel_rfl) (t:=134) (e:=5) (by kernel_rfl) (by kernel_rfl) (by kernel_rfl) (by kernel_rfl)) gB (by simp [Zso])
theorem Yla {W:World} (h:∀ p∈Zlo,GV (ctx [] La0 W) p.1 p.2):Zmr E W:=by
  intro n
  show GV _ n (T3 n)
  unfold T3
  cases hl:Zlo.lookup n with
  | none=>exact Z7u
  | some l=>exact h _ (Zwl hl)
theorem Ylb {W:World} {l:List (String × DataW Unit)} (h:laidMetH Tryz.prog l W) (hs:W.ShapedOpen Tryz.prog) (hk:("codicil/sha.k",Rows.laid_codicil_sha_k)∈l) (hf:("unicode.asciiFold",Rows.laid_unicode_asciiFold)∈l) (hp:("internal/strconv.uint64pow10",Rows.laid_internal_strconv_uint64pow10)∈l) (h1:("strconv.ErrSyntax",Rows.laid_strconv_ErrSyntax)∈l) (h2:("strconv.ErrRange",Rows.laid_strconv_ErrRange)∈l) (hb:("math/bits.deBruijn64tab",Rows.laid_math_bits_deBruijn64tab)∈l):Zmr E W:=by
  refine Yla ?_
  unfold Zlo
  refine List.forall_mem_cons.2 ⟨Yk4 h hk,?_⟩
  refine List.forall_mem_cons.2 ⟨Ye0 h hf,?_⟩
  refine List.forall_mem_cons.2 ⟨Yk6 h hp,?_⟩
  refine List.forall_mem_cons.2 ⟨Ye1 h h1,?_⟩
  refine List.forall_mem_cons.2 ⟨Z74 h h2,?_⟩
  refine List.forall_mem_cons.2 ⟨Yk7 hs,?_⟩
  refine List.forall_mem_cons.2 ⟨Yk9 h hb,?_⟩
  exact fun p h=>nomatch h
end Cod
namespace Cod
open Go
theorem Zf2:∀ {r:List (List AV)},(∀ x∈r,Wf (.int .u8) x)→∃ l:List UInt8,r.flatten=A0 l∧l.length=r.length:=by
  intro r
  induction r with
  | nil=>intro _;exact ⟨[],rfl,rfl⟩
  | cons x r ih =>
    intro h
    obtain ⟨l,h1,h2⟩:=ih fun y hy=>h y (Yob _ hy)
    obtain ⟨n,rfl,hn⟩:=h x (by simp)
    simp [Lit.wf,IntKind.min,IntKind.max,IntKind.signed,IntKind.bits] at hn
    refine ⟨byt n::l,?_,by simp [h2]⟩
    rw [List.flatten_cons,h1,Zll (by omega) (by omega)]
    rfl
end Cod
namespace Cod
open Go
theorem flatsA (a b:List AV):flats (a++b)=(flats a&&flats b):=by
  induction a with
  | nil=>simp [flats]
  | cons x a ih=>simp [flats,ih,Yn3]
theorem hardsA (a b:List AV):I7 (a++b)=(I7 a&&I7 b):=by
  induction a with
  | nil=>simp [I7]
  | cons x a ih=>simp [I7,ih,Yn3]
theorem Ylc (a b:List AV):leadss (a++b)=(leadss a||leadss b):=by
  induction a with
  | nil=>simp [leadss]
  | cons x a ih=>simp [leadss,ih,Bool.or_assoc]
theorem Ye2 (a b:List AV):refsOfs (a++b)=refsOfs a++refsOfs b:=by
  induction a with
  | nil=>simp [refsOfs]
  | cons x a ih=>simp [refsOfs,ih]
theorem rensA (f:Site→Nat→Option (Site × Nat)) (a b:List AV):rens f (a++b)=rens f a++rens f b:=by
  induction a with
  | nil=>simp [rens]
  | cons x a ih=>simp [rens,ih]
section
variable {α:Type} {f : α→List AV} {n:Nat}
theorem Zf3 (hn:∀ a,(f a).length=n) (l:List α):(l.flatMap f).length=n*l.length:=by
  induction l with
  | nil=>simp
  | cons s l ih=>rw [Yo8,Yny,ih,hn,Ynn,Nat.mul_add];omega
theorem Ze2 (h:∀ a,flats (f a)=true) (l:List α):flats (l.flatMap f)=true:=by
  induction l with
  | nil=>rfl
  | cons s l ih=>rw [Yo8,flatsA,ih,h];rfl
theorem Ze3 (h:∀ a,I7 (f a)=true) (l:List α):I7 (l.flatMap f)=true:=by
  induction l with
  | nil=>rfl
  | cons s l ih=>rw [Yo8,hardsA,ih,h];rfl
theorem Zdt (h:∀ a,leadss (f a)=false) (l:List α):leadss (l.flatMap f)=false:=by
  induction l with
  | nil=>rfl
  | cons s l ih=>rw [Yo8,Ylc,ih,h];rfl
theorem Zgu (h:∀ a,refsOfs (f a)=[]) (l:List α):refsOfs (l.flatMap f)=[]:=by
  induction l with
  | nil=>rfl
  | cons s l ih=>rw [Yo8,Ye2,ih,h];rfl
theorem Zgv (g:Site→Nat→Option (Site × Nat)) (h:∀ a,rens g (f a)=f a) (l:List α):rens g (l.flatMap f)=l.flatMap f:=by
  induction l with
  | nil=>rfl
  | cons s l ih=>rw [Yo8,rensA,ih,h]
theorem Z75 (hn:∀ a,(f a).length=n) (l:List α) (i:Nat):(l.flatMap f).drop (i*n)=(l.drop i).flatMap f:=by
  induction i generalizing l with
  | zero=>simp
  | succ i ih =>
    cases l with
    | nil=>simp
    | cons s l =>
      have h1:(i+1)*n=(f s).length+i*n:=by rw [hn,Nat.add_mul];omega
      rw [Yo8,h1,List.drop_append,Yo9 (by omega),List.nil_append,show (f s).length+i*n-(f s).length=i*n by omega,ih]
      rfl
variable [Inhabited α]
theorem Z76 {l:List α} {i:Nat} (h:i<l.length):l.drop i=l.getD i default::l.drop (i+1):=by
  rw [List.getD_eq_getElem?_getD,List.getElem?_eq_getElem h,Yof]
  exact Ypa h
theorem Zmy (hn:∀ a,(f a).length=n) {l:List α} {i:Nat} (h:i<l.length):sub (l.flatMap f) (i*n) n=f (l.getD i default):=by
  rw [sub,Z75 hn,Z76 h,Yo8,List.take_append_of_le_length (by rw [hn];exact Ym7 _),Ynx (by rw [hn];exact Ym7 _)]
end
theorem Zba (l:List (List UInt8)):Zbo l=l.flatMap fun s=>[.str s]:=by
  induction l with
  | nil=>rfl
  | cons s l ih=>rw [Yo8,←ih];rfl
theorem Zdf (l:List (List UInt8)):flats (Zbo l)=true:=by rw [Zba];exact Ze2 (fun _=>rfl) l
theorem Zdg (l:List (List UInt8)):I7 (Zbo l)=true:=by rw [Zba];exact Ze3 (fun _=>rfl) l
theorem Zb5 (l:List (List UInt8)):leadss (Zbo l)=false:=by rw [Zba];exact Zdt (fun _=>rfl) l
theorem Zbb (l:List (List UInt8)):refsOfs (Zbo l)=[]:=by rw [Zba];exact Zgu (fun _=>rfl) l
theorem Zed (f:Site→Nat→Option (Site × Nat)) (l:List (List UInt8)):rens f (Zbo l)=Zbo l:=by rw [Zba];exact Zgv f (fun _=>rfl) l
theorem Zee (l:List (List UInt8)) (s:List UInt8):Zbo l++[.str s]=Zbo (l++[s]):=by simp [Zbo]
theorem Zf4 {l:List (List UInt8)} {i:Nat} (h:i<l.length):(Zbo l)[i]? = some (.str (l.getD i [])):=by simp [Zbo,h]
end Cod
namespace Cod
open Go
structure Ety where
  mode:Int
  name:List UInt8
  id:List UInt8
  hid:id.length=32
def Ety.cells (e:Ety):List AV:=.int .i64 e.mode::.str e.name::A0 e.id
theorem Zcx (e:Ety):e.cells.length=34:=by simp [Ety.cells,D8,e.hid]
theorem Zj5 (e:Ety):flats e.cells=true:=by simp [Ety.cells,flats,L9,V0]
theorem Zwm (f:Site→Nat→Option (Site × Nat)) (e:Ety):rens f e.cells=e.cells:=rens_flats _ (Zj5 e)
theorem Zwn (e:Ety):refsOfs e.cells=[]:=by simp [Ety.cells,refsOfs,X1,V3]
theorem Zow (e:Ety):I7 e.cells=true:=by simp [Ety.cells,I7,R1,V1]
theorem Zox (e:Ety):leadss e.cells=false:=by simp [Ety.cells,leadss,Q3,V2]
theorem Yld (e:Ety):sub e.cells 0 34=e.cells:=Zde (by rw [Zcx];exact Ym7 _)
theorem ety_0 (e:Ety):e.cells[0]? = some (.int .i64 e.mode):=rfl
theorem ety_1 (e:Ety):e.cells[1]? = some (.str e.name):=rfl
attribute [go_sem] Zcx Zj5 Zwm Zwn Zow Zox Yld ety_0 ety_1
def Zhk (e:Ety):List UInt8:=if e.mode=16384 then e.name++[47] else e.name
theorem Z77:∀ a:List UInt8,Op.bytesLess a a=false:=by
  intro a
  induction a with
  | nil=>rfl
  | cons x a ih=>rw [Op.bytesLess,ih];simp
theorem Z3v {a b:List UInt8}:S E F.P6 [.str a,.str b] []=some (.int .i64 (Zsl a b),[]):=by
  have hn (x:List UInt8):S E F.P8 [.str x] []=some (.bool false,[]):=by
    have hb:(x==x)=true:=by simp
    rw [S_of Zr6 rfl rfl]
    simp -dsimp (disch:=first|omega|(simp only [A4]<;>omega)|fail) only [L.P8,go_sem,reduceIte,reduceCtorEq,B9,C0,C1,C2,C3,C4,C5,C6,C7,C8,C9,D0,D1,D2,D3,D4,D5,D6,D7,A3,hb,Ypb]
  rw [S_of Zrx rfl rfl]
  unfold Zsl
  by_cases he:a=b
  · subst he
    have hs:(a==a)=true:=by simp
    simp -dsimp (disch:=first|omega|(simp only [A4]<;>omega)|fail) only [L.P6,go_sem,reduceIte,reduceCtorEq,B9,C0,C1,C2,C3,C4,C5,C6,C7,C8,C9,D0,D1,D2,D3,D4,D5,D6,D7,A3,hn,Z77,hs,Ypb]
  · have hs:(a==b)=false:=by simp [he]
    rw [if_neg he]
    cases c1:Op.bytesLess a b<;>simp -dsimp (disch:=first|omega|(simp only [A4]<;>omega)|fail) only [L.P6,go_sem,reduceIte,reduceCtorEq,B9,C0,C1,C2,C3,C4,C5,C6,C7,C8,C9,D0,D1,D2,D3,D4,D5,D6,D7,A3,hn,c1,hs,Ypc]
theorem Zoy {a b:Ety} (ha:a.name.length≤1000000000000) (hb:b.name.length≤1000000000000):S E F.S1 [.agg a.cells,.agg b.cells] []=some (.int .i64 (Zsl (Zhk a) (Zhk b)),[]):=by
  rw [S_of Zro rfl rfl]
  unfold Zhk
  by_cases h1:a.mode=16384
  · by_cases h2:b.mode=16384<;>simp -dsimp (disch:=first|omega|(simp only [A4]<;>omega)|fail) only [L.S1,go_sem,reduceIte,reduceCtorEq,B9,C0,C1,C2,C3,C4,C5,C6,C7,C8,C9,D0,D1,D2,D3,D4,D5,D6,D7,A3,h1,h2,Z3v]
  · by_cases h2:b.mode=16384<;>simp -dsimp (disch:=first|omega|(simp only [A4]<;>omega)|fail) only [L.S1,go_sem,reduceIte,reduceCtorEq,B9,C0,C1,C2,C3,C4,C5,C6,C7,C8,C9,D0,D1,D2,D3,D4,D5,D6,D7,A3,h1,h2,Z3v]
end Cod
namespace Cod
open Go
instance:Inhabited Ety:=⟨0,[],List.replicate 32 0,by simp⟩
def Q9 (l:List Ety):List AV:=l.flatMap Ety.cells
def eat (l:List Ety) (i:Nat):Ety:=l.getD i default
theorem A2 (l:List Ety):(Q9 l).length=34*l.length:=Zf3 Zcx l
theorem Ye3:Q9 []=[]:=rfl
theorem Z78 (a:List Ety) (s:Ety):Q9 a++s.cells=Q9 (a++[s]):=by simp [Q9]
theorem Z1h (l:List Ety):flats (Q9 l)=true:=Ze2 Zj5 l
theorem Z1i (l:List Ety):I7 (Q9 l)=true:=Ze3 Zow l
theorem Zwo (l:List Ety):leadss (Q9 l)=false:=Zdt Zox l
theorem Zsw (l:List Ety):refsOfs (Q9 l)=[]:=Zgu Zwn l
theorem Z79 (f:Site→Nat→Option (Site × Nat)) (l:List Ety):rens f (Q9 l)=Q9 l:=Zgv f (Zwm f) l
theorem Zwp {l:List Ety} {i:Nat} (h:i<l.length):sub (Q9 l) (i*34) 34=(eat l i).cells:=Zmy Zcx h
theorem ety0z:(AV.int .i64 0::.str []::zer (.int .u8 0) 32)=(default:Ety).cells:=rfl
theorem ety0b:(AV.int .i64 0::.str []::A0 (List.replicate 32 0))=(default:Ety).cells:=rfl
theorem Ye4 (a b:Ety):over a.cells 0 b.cells=b.cells:=by
  unfold over;exact Zgp (by rw [Zcx,Zcx])
theorem ety_id (e:Ety):sub e.cells 2 32=A0 e.id:=by
  simp only [sub,Ety.cells,List.drop_succ_cons,Yoq]
  exact Ynx (by rw [D8,e.hid];exact Ym7 _)
theorem Ye5 (e:Ety):e.cells.take 34=e.cells:=Ynx (by rw [Zcx];exact Ym7 _)
attribute [go_sem] A2 Z1h Z1i Zwo Zsw Z79 Zwp ety0z ety0b Ye4 ety_id Ye5
end Cod
namespace Cod
open Go
def N6 (l:List Int):List AV:=l.map (.int .i64)
theorem A8 (l:List Int):(N6 l).length=l.length:=by simp [N6]
theorem Zhl (n:List UInt8):∀ (ks:List (List UInt8)) (j:Nat),Z9 true (.str n) (Zbo ks) j=some (if n∈ks then some (j+ks.idxOf n) else none):=by
  intro ks
  induction ks with
  | nil=>intro j;rfl
  | cons k ks ih =>
    intro j
    show Z9 true (.str n) (.str k::Zbo ks) j=_
    unfold Z9
    by_cases h:n=k
    · subst h
      simp [Zhu]
    · have e:Zhu true (.str n) (.str k)=some false:=by simp [Zhu,h]
      rw [e]
      simp only
      rw [ih (j+1)]
      by_cases hm:n∈ks
      · have e2:(k::ks).idxOf n=ks.idxOf n+1:=by
          rw [Ypd]
          have:(k==n)=false:=by simp [Ne.symm h]
          rw [this];rfl
        rw [if_pos hm,if_pos (Yob _ hm),e2]
        congr 2;omega
      · rw [if_neg hm,if_neg (by simp [h,hm])]
structure MapOK (seen:List (List UInt8)) (ks:List (List UInt8)) (vs:List Int):Prop where
  len:vs.length=ks.length
  mem:∀ n,n∈ks↔n∈seen
  pos:∀ v∈vs,1≤v∧v≤seen.length
theorem MapOK.nil:MapOK [] [] []:=⟨rfl,fun _=>Iff.rfl,fun v h=>by simp at h⟩
theorem MapOK.old {seen ks:List (List UInt8)} {vs:List Int} (h:MapOK seen ks vs) {n:List UInt8} (hn:n∈ks):∃ v,vs[ks.idxOf n]? = some v∧1≤v∧v≤seen.length∧MapOK (seen++[n]) ks (vs.set (ks.idxOf n) (v+1)):=by
  have hi:ks.idxOf n<vs.length:=by rw [h.len];exact List.idxOf_lt_length_of_mem hn
  obtain ⟨v,hv⟩:∃ v,vs[ks.idxOf n]? = some v:=⟨_,List.getElem?_eq_getElem hi⟩
  obtain ⟨p1,p2⟩:=h.pos v (List.mem_of_getElem? hv)
  refine ⟨v,hv,p1,p2,⟨by rw [Ype];exact h.len,?_,?_⟩⟩
  · intro m
    rw [h.mem,Ypf,Ynp]
    constructor
    · exact .inl
    · rintro (h1|h1)
      · exact h1
      · rw [h1];exact (h.mem n).1 hn
  · intro x hx
    rw [Yny,Ypg]
    rcases List.mem_or_eq_of_mem_set hx with h1|h1
    · have:=h.pos x h1;omega
    · omega
theorem MapOK.new {seen ks:List (List UInt8)} {vs:List Int} (h:MapOK seen ks vs) {n:List UInt8} (hn:n∉ks):MapOK (seen++[n]) (ks++[n]) (vs++[1]):=by
  refine ⟨by simp [h.len],?_,?_⟩
  · intro m
    simp only [Ypf,Ynp,h.mem]
  · intro x hx
    rw [Yny,Ypg]
    rcases List.mem_append.1 hx with h1|h1
    · have:=h.pos x h1;omega
    · rw [List.mem_singleton.1 h1];omega
end Cod
namespace Cod
open Go
def Zmz:Nat→Nat→List UInt8→List UInt8
  | 0,_,acc=>acc
  | f+1,u,acc=>if u<8 then byt (48+(u:Int))::acc else Zmz f (u/8) (byt (48+(u%8:Nat))::acc)
def Z5 (m:Int):List UInt8:=(if m<0 then [45] else [])++Zmz 22 m.natAbs []
theorem Ye6:∀ (f u:Nat) (acc:List UInt8),(Zmz f u acc).length≤f+acc.length:=by
  intro f
  induction f with
  | zero=>intro u acc;simp [Zmz]
  | succ f ih =>
    intro u acc
    unfold Zmz
    split
    · simp;omega
    · have:=ih (u/8) (byt (48+(u%8:Nat))::acc)
      simp only [Ynn] at this
      omega
theorem Zm0 (m:Int):(Z5 m).length≤23:=by
  unfold Z5
  have:=Ye6 22 m.natAbs []
  rw [Yny]
  simp only [List.length_nil] at this
  split<;>simp<;>omega
end Cod
namespace Cod
open Go
set_option maxRecDepth 100000
theorem tz8:S E F.Za4 [.int .u64 8] []=some (.int .i64 3,[]):=Zby.2 ⟨60,by kernel_rfl⟩
theorem pow8:S E F.Za3 [.int .i64 8] []=some (.bool true,[]):=Zby.2 ⟨60,by kernel_rfl⟩
def Ye7:List UInt8:=[48,49,50,51,52,53,54,55,56,57,97,98,99,100,101,102,103,104,105,106,107,108,109,110,111,112,113,114,115,116,117,118,119,120,121,122]
theorem Zwq:∀ u:Nat,u<8→bat Ye7 u=48+(u:Int):=by decide
def Zj6 (i:Nat) (acc:List UInt8):List UInt8:=List.replicate i 0++acc
theorem Y6 (i:Nat) (acc:List UInt8):(Zj6 i acc).length=i+acc.length:=by simp [Zj6]
theorem Zf5 (i:Nat) (acc:List UInt8) (b:UInt8):(Zj6 (i+1) acc).set i b=Zj6 i (b::acc):=by
  unfold Zj6
  rw [List.replicate_succ',List.append_assoc,List.set_append_right _ _ (by simp)]
  simp
theorem and7 (u:Nat) (h:u<18446744073709551616):Zzw .u64 (u:Int) 7=((u%8:Nat):Int):=by
  unfold Zzw
  have e:(BitVec.ofInt IntKind.u64.bits (u:Int) &&& BitVec.ofInt IntKind.u64.bits 7).toNat=u%8:=by
    rw [BitVec.toNat_and,Yph,Yph]
    show ((u:Int)%18446744073709551616).toNat &&& 7=u%8
    rw [show ((u:Int)%18446744073709551616).toNat=u by omega]
    exact Nat.and_two_pow_sub_one_eq_mod u 3
  rw [e,wrap_u64 (by omega) (by omega)]
theorem shr3 (u:Nat):Zvd .u64 (u:Int) 3=((u/8:Nat):Int):=by
  have:=Zv7 (k:=.u64) (a:=(u:Int)) (n:=3) (by decide)
  simp only [Ypi] at this
  rw [this]
  omega
theorem fmt_l0 (k:List It) (b:Bool):∀ (f u i:Nat) (acc:List UInt8),u<8^f→u<18446744073709551616→f≤i→1≤f→i+acc.length=65 →
    ∃ (i' u':Nat) (acc':List UInt8),u' < 8∧1≤i'∧i'+acc'.length=65∧byt (48+(u':Int))::acc'=Zmz f u acc∧i+1≤f+i' ∧
    X E [.tmp 10,.tmp 11] (.c L.E9.x0::.lp [0,1,3,4,10,11,12,13,14,15,16] L.E9.x0::.blk 0::k) ⟨[(0,.nils),(1,.int .u64 u),(3,.bool b),(4,.bool false),(10,.buf (.s 1000000 0) 0 0 0 1),(11,.str []),(12,.ref (.s 1000000 1) 0 0),(13,.int .i64 i),(14,.int .u64 3),(15,.int .u64 8),(16,.int .u64 7)],[(.s 1000000 0,⟨0,true,true,false,[]⟩),(.s 1000000 1,⟨0,true,true,true,A0 (Zj6 i acc)⟩)]⟩ =
    X E [.tmp 10,.tmp 11] k ⟨[(0,.nils),(1,.int .u64 u'),(3,.bool b),(4,.bool false),(10,.buf (.s 1000000 0) 0 0 0 1),(11,.str []),(12,.ref (.s 1000000 1) 0 0),(13,.int .i64 i'),(14,.int .u64 3),(15,.int .u64 8),(16,.int .u64 7),(46,.bool false)],[(.s 1000000 0,⟨0,true,true,false,[]⟩),(.s 1000000 1,⟨0,true,true,true,A0 (Zj6 i' acc')⟩)]⟩:=by
  intro f
  induction f with
  | zero=>intro u i acc hu h64 hi h1;omega
  | succ f ih =>
    intro u i acc hu h64 hi _ hl
    rw [K4 L.E9.x0.eq_1]
    by_cases h8:u<8
    · refine ⟨i,u,acc,h8,by omega,hl,by rw [Zmz,if_pos h8],by omega,?_⟩
      simp -dsimp (disch:=first|omega|(simp only [A4,Y6]<;>omega)|fail) only [go_sem,reduceIte,reduceCtorEq,B9,C0,C1,C2,C3,C4,C5,C6,C7,C8,C9,D0,D1,D2,D3,D4,D5,D6,D7,A3,BYs,h8]
    · have hf:1≤f:=by
        rcases Nat.eq_zero_or_pos f with rfl|h
        · simp at hu;omega
        · exact h
      obtain ⟨j,rfl⟩:∃ j,i=j+1:=⟨i-1,by omega⟩
      have hmod:=Zwq (u%8) (by omega)
      obtain ⟨i',u',acc',q1,q2,q3,q4,q5,q6⟩:=ih (u/8) j (byt (48+(u%8:Nat))::acc) (by rw [Nat.pow_succ] at hu;omega) (by omega) (by omega) hf (by rw [Ynn];omega)
      refine ⟨i',u',acc',q1,q2,q3,by rw [Zmz,if_neg h8];exact q4,by omega,?_⟩
      rw [←q6]
      have e1:((j+1:Nat):Int)-1=j:=by omega
      have e2:Zzw .u64 (u:Int) 7=((u%8:Nat):Int):=and7 u h64
      have e3:Zvd .u64 (u:Int) 3=((u/8:Nat):Int):=shr3 u
      unfold Ye7 at hmod
      have e4:UInt8.ofNat (48+((u%8:Nat):Int)).toNat=byt (48+((u%8:Nat):Int)):=rfl
      simp -dsimp (disch:=first|omega|(simp only [A4,Y6]<;>omega)|fail) only [go_sem,reduceIte,reduceCtorEq,B9,C0,C1,C2,C3,C4,C5,C6,C7,C8,C9,D0,D1,D2,D3,D4,D5,D6,D7,A3,BYs,h8,e1,e2,e3,Y4,hmod,e4,Zf5]
theorem Zoz (i:Nat) (acc:List UInt8):sub (Zj6 i acc) i acc.length=acc:=by
  unfold Zj6 sub
  rw [List.drop_left' (by simp),List.take_length]
theorem Zm1 {u:Nat} {b:Bool} (h64:u≤9223372036854775808):S E F.E9 [.nils,.int .u64 (if b then (if u=0 then 0 else 18446744073709551616-(u:Int)) else u),.int .i64 8,.bool b,.bool false] []=some (.tup [.buf (.r 0) 0 0 0 1,.str ((if b then [45] else [])++Zmz 22 u [])],[(.r 0,⟨0,true,true,false,[]⟩)]):=by
  have h22:(8:Nat)^22=73786976294838206464:=by decide
  obtain ⟨i',u',acc',q1,q2,q3,q4,q5,q6⟩:=fmt_l0 [.c L.E9.r0,.c L.E9.r2] b 22 u 65 [] (by omega) (by omega) (by omega) (by omega) rfl
  obtain ⟨j,rfl⟩:∃ j,i'=j+1:=⟨i' - 1,by omega⟩
  have hmod:=Zwq u' q1
  unfold Ye7 at hmod
  have e1:((j+1:Nat):Int)-1=j:=by omega
  have e4:UInt8.ofNat (48+(u':Int)).toNat=byt (48+(u':Int)):=rfl
  have e5:Zj6 65 []=List.replicate 65 0:=by simp [Zj6]
  rw [e5] at q6
  simp only [Ypi] at q6
  have hs1:sub (Zj6 j (byt (48+(u':Int))::acc')) j (65-j)=Zmz 22 u []:=by
    rw [←q4,show 65-j=(byt (48+(u':Int))::acc').length by rw [Ynn];omega]
    exact Zoz j _
  rw [S_of Zry rfl rfl]
  cases b with
  | false =>
    simp -dsimp (disch:=first|omega|(simp only [A4,Y6]<;>omega)|fail) only [L.E9,go_sem,reduceIte,reduceCtorEq,B9,C0,C1,C2,C3,C4,C5,C6,C7,C8,C9,D0,D1,D2,D3,D4,D5,D6,D7,A3,BYs,tz8,pow8]
    rw [q6]
    simp -dsimp (disch:=first|omega|(simp only [A4,Y6]<;>omega)|fail) only [L.E9.r0,go_sem,reduceIte,reduceCtorEq,B9,C0,C1,C2,C3,C4,C5,C6,C7,C8,C9,D0,D1,D2,D3,D4,D5,D6,D7,A3,BYs,e1,hmod,e4,Zf5,Y4]
    simp -dsimp (disch:=first|omega|(simp only [A4,Y6]<;>omega)|fail) only [L.E9.r2,go_sem,reduceIte,reduceCtorEq,B9,C0,C1,C2,C3,C4,C5,C6,C7,C8,C9,D0,D1,D2,D3,D4,D5,D6,D7,A3,BYs,e1,hmod,e4,Zf5,Y4,hs1]
  | true =>
    have e6:IntKind.u64.wrap (0-(if u=0 then 0 else 18446744073709551616-(u:Int)))=u:=by
      simp only [IntKind.wrap,IntKind.signed,IntKind.bits]
      split<;>simp<;>omega
    simp -dsimp (disch:=first|omega|(simp only [A4,Y6]<;>omega)|fail) only [L.E9,go_sem,reduceIte,reduceCtorEq,B9,C0,C1,C2,C3,C4,C5,C6,C7,C8,C9,D0,D1,D2,D3,D4,D5,D6,D7,A3,BYs,tz8,pow8,e6]
    rw [q6]
    obtain ⟨m,rfl⟩:∃ m,j=m+1:=⟨j-1,by omega⟩
    have e7:((m+1:Nat):Int)-1=m:=by omega
    have hs2:sub (Zj6 m (45::byt (48+(u':Int))::acc')) m (65-m)=45::Zmz 22 u []:=by
      rw [←q4,show 65-m=(45::byt (48+(u':Int))::acc').length by rw [Ynn,Ynn];omega]
      exact Zoz m _
    have e8:UInt8.ofNat 45=45:=rfl
    simp -dsimp (disch:=first|omega|(simp only [A4,Y6]<;>omega)|fail) only [L.E9.r0,go_sem,reduceIte,reduceCtorEq,B9,C0,C1,C2,C3,C4,C5,C6,C7,C8,C9,D0,D1,D2,D3,D4,D5,D6,D7,A3,BYs,e1,hmod,e4,Zf5,Y4]
    simp -dsimp (disch:=first|omega|(simp only [A4,Y6]<;>omega)|fail) only [L.E9.r2,go_sem,reduceIte,reduceCtorEq,B9,C0,C1,C2,C3,C4,C5,C6,C7,C8,C9,D0,D1,D2,D3,D4,D5,D6,D7,A3,BYs,e7,e8,Zf5,Y4,hs2]
theorem Zm2 {m:Int} (h0 : -9223372036854775808≤m) (h1:m≤9223372036854775807):S E F.R8 [.int .i64 m,.int .i64 8] []=some (.str (Z5 m),[]):=by
  have hb:S E F.P4 [.int .i64 m,.int .i64 8] []=some (.str (Z5 m),[]):=by
    rw [S_of Zrp rfl rfl]
    unfold Z5
    by_cases hn:m<0
    · have h2:=Zm1 (u:=m.natAbs) (b:=true) (by omega)
      rw [if_pos rfl,if_neg (by omega),if_pos rfl] at h2
      have e:IntKind.u64.wrap m=18446744073709551616-((m.natAbs:Nat):Int):=by
        simp only [IntKind.wrap,IntKind.signed,IntKind.bits];simp;omega
      rw [if_pos hn]
      simp -dsimp (disch:=first|omega|(simp only [A4,Y6]<;>omega)|fail) only [L.P4,go_sem,reduceIte,reduceCtorEq,B9,C0,C1,C2,C3,C4,C5,C6,C7,C8,C9,D0,D1,D2,D3,D4,D5,D6,D7,A3,BYs,hn,e,h2]
    · have h2:=Zm1 (u:=m.natAbs) (b:=false) (by omega)
      rw [if_neg (by simp),if_neg (by simp)] at h2
      have e:IntKind.u64.wrap m=((m.natAbs:Nat):Int):=by
        simp only [IntKind.wrap,IntKind.signed,IntKind.bits];simp;omega
      rw [if_neg hn]
      simp -dsimp (disch:=first|omega|(simp only [A4,Y6]<;>omega)|fail) only [L.P4,go_sem,reduceIte,reduceCtorEq,B9,C0,C1,C2,C3,C4,C5,C6,C7,C8,C9,D0,D1,D2,D3,D4,D5,D6,D7,A3,BYs,hn,e,h2]
  rw [S_of Zra rfl rfl]
  simp -dsimp (disch:=first|omega|(simp only [A4,Y6]<;>omega)|fail) only [L.R8,go_sem,reduceIte,reduceCtorEq,B9,C0,C1,C2,C3,C4,C5,C6,C7,C8,C9,D0,D1,D2,D3,D4,D5,D6,D7,A3,hb]
end Cod
namespace Cod
open Go
set_option maxRecDepth 100000
theorem Y7 (r v:Int) (h:(r=46∧v=46)∨(r=103∧v=71)∨(r=71∧v=103)∨(r=105∧v=73)∨(r=73∧v=105)∨(r=116∧v=84)∨(r=84∧v=116)):S E0 F.O3 [.int .i32 r] []=some (.int .i32 v,[]):=by
  rcases h with ⟨rfl,rfl⟩|⟨rfl,rfl⟩|⟨rfl,rfl⟩|⟨rfl,rfl⟩|⟨rfl,rfl⟩|⟨rfl,rfl⟩|⟨rfl,rfl⟩<;>exact Zby.2 ⟨60,by kernel_rfl⟩
theorem Zcy {b:UInt8} {l:List UInt8} (h:b<128):S E0 F.L1 [.str (b::l)] []=some (.tup [.int .i32 b.toNat,.int .i64 1],[]):=by
  have hb:b.toNat<128:=h
  rw [Zab Zr5 rfl rfl]
  have h1:((b::l:List UInt8) == [])=false:=rfl
  have h2:((b.toNat:Int)<128):=by omega
  have h3:IntKind.i32.wrap (b.toNat:Int)=b.toNat:=by
    simp only [IntKind.wrap,IntKind.signed,IntKind.bits];simp;omega
  simp -dsimp (disch:=first|omega|(simp only [A4]<;>omega)|fail) only [L.L1,go_sem,reduceIte,reduceCtorEq,B9,C0,C1,C2,C3,C4,C5,C6,C7,C8,C9,D0,D1,D2,D3,D4,D5,D6,D7,A3,h1,h2,h3,bat,List.getD_cons_zero]
def Zhm:LCode:=match L.A9.r0 with|.seq _ (.seq _ r)=>r|_=>.skip
theorem Z1j {l:List UInt8} {i:Nat} (h:i<l.length):((⟨l.toArray⟩:ByteArray).get! i).toNat=(l.getD i 0).toNat:=by
  simp [ByteArray.get!,h,List.getD]
theorem Ye8 {l:List UInt8} {i:Nat} (h:i<l.length) (hb:128≤bat l i):128≤(X3 l i).1:=by
  have hg:((⟨l.toArray⟩:ByteArray).get! (i+0)).toNat=(l.getD i 0).toNat:=Z1j h
  unfold bat at hb
  unfold X3 Utf8.decode Utf8.runeError
  simp only [hg]
  repeat' split
  all_goals (try simp only [ge_iff_le,Ynm,decide_eq_true_eq] at *)
  all_goals omega
theorem Yle:∀ t ∈ [46,103,105,116],∀ n:Nat,n<256→(decide ((128:Int)≤ior .u8 n t))=decide (128≤n):=by decide +kernel
theorem ef_uni {SC:LCode} {s:List UInt8} (hs:s.length=4) (i:Nat) (hi:i<4) (hb:128≤bat s i) (v6 v21 v7 v8 v33:AV) :
    X E0 [.tmp 4] [.c Zhm,.scp SC] ⟨[(0,.str s),(1,.str [46,103,105,116]),(5,.int .i64 i),(6,v6),(21,v21),(7,v7),(8,v8),(33,v33)],[]⟩=some (.bool false,[]):=by
  have hd:0<(s.drop i).length:=by rw [List.length_drop];omega
  have hb':128≤bat (s.drop i) 0:=by simpa [bat] using hb
  have hr:=Ye8 hd hb'
  generalize he:X3 (s.drop i) 0=q at hr
  obtain ⟨r,wd⟩:=q
  have:i=0∨i=1∨i=2∨i=3:=by omega
  have hrz:(128:Int)≤r:=by simp only at hr;omega
  have d46:S E0 F.L1 [.str [46,103,105,116]] []=some (.tup [.int .i32 46,.int .i64 1],[]):=Zcy (by decide)
  have d103:S E0 F.L1 [.str [103,105,116]] []=some (.tup [.int .i32 103,.int .i64 1],[]):=Zcy (by decide)
  have d105:S E0 F.L1 [.str [105,116]] []=some (.tup [.int .i32 105,.int .i64 1],[]):=Zcy (by decide)
  have d116:S E0 F.L1 [.str [116]] []=some (.tup [.int .i32 116,.int .i64 1],[]):=Zcy (by decide)
  have f46:=Y7 46 46 (by simp)
  have f103:=Y7 103 71 (by simp)
  have f71:=Y7 71 103 (by simp)
  have f105:=Y7 105 73 (by simp)
  have f73:=Y7 73 105 (by simp)
  have f116:=Y7 116 84 (by simp)
  have f84:=Y7 84 116 (by simp)
  rcases this with rfl|rfl|rfl|rfl
  · simp -dsimp (disch:=first|omega|(simp only [A4]<;>omega)|fail) only [Zhm,L.A9.r0,go_sem,reduceIte,reduceCtorEq,B9,C0,C1,C2,C3,C4,C5,C6,C7,C8,C9,D0,D1,D2,D3,D4,D5,D6,D7,A3,B7,B6,B5]
    simp only [Yoq] at hd he
    rw [K4 L.A9.x1.eq_1]
    simp -dsimp (disch:=first|omega|(simp only [A4]<;>omega)|fail) only [go_sem,reduceIte,reduceCtorEq,B9,C0,C1,C2,C3,C4,C5,C6,C7,C8,C9,D0,D1,D2,D3,D4,D5,D6,D7,A3,B7,B6,B5,hd,he,d46,f46]
    rw [K4 L.A9.x2.eq_1]
    simp -dsimp (disch:=first|omega|(simp only [A4]<;>omega)|fail) only [go_sem,reduceIte,reduceCtorEq,B9,C0,C1,C2,C3,C4,C5,C6,C7,C8,C9,D0,D1,D2,D3,D4,D5,D6,D7,A3,B7,B6,B5,f46,L.A9.r1]
  · simp -dsimp (disch:=first|omega|(simp only [A4]<;>omega)|fail) only [Zhm,L.A9.r0,go_sem,reduceIte,reduceCtorEq,B9,C0,C1,C2,C3,C4,C5,C6,C7,C8,C9,D0,D1,D2,D3,D4,D5,D6,D7,A3,B7,B6,B5]
    rw [K4 L.A9.x1.eq_1]
    simp -dsimp (disch:=first|omega|(simp only [A4]<;>omega)|fail) only [go_sem,reduceIte,reduceCtorEq,B9,C0,C1,C2,C3,C4,C5,C6,C7,C8,C9,D0,D1,D2,D3,D4,D5,D6,D7,A3,B7,B6,B5,hd,he,d103,f103]
    rw [K4 L.A9.x2.eq_1]
    simp -dsimp (disch:=first|omega|(simp only [A4]<;>omega)|fail) only [go_sem,reduceIte,reduceCtorEq,B9,C0,C1,C2,C3,C4,C5,C6,C7,C8,C9,D0,D1,D2,D3,D4,D5,D6,D7,A3,B7,B6,B5,f71,L.A9.r1]
    rw [K4 L.A9.x2.eq_1]
    simp -dsimp (disch:=first|omega|(simp only [A4]<;>omega)|fail) only [go_sem,reduceIte,reduceCtorEq,B9,C0,C1,C2,C3,C4,C5,C6,C7,C8,C9,D0,D1,D2,D3,D4,D5,D6,D7,A3,B7,B6,B5,f71,L.A9.r1]
  · simp -dsimp (disch:=first|omega|(simp only [A4]<;>omega)|fail) only [Zhm,L.A9.r0,go_sem,reduceIte,reduceCtorEq,B9,C0,C1,C2,C3,C4,C5,C6,C7,C8,C9,D0,D1,D2,D3,D4,D5,D6,D7,A3,B7,B6,B5]
    rw [K4 L.A9.x1.eq_1]
    simp -dsimp (disch:=first|omega|(simp only [A4]<;>omega)|fail) only [go_sem,reduceIte,reduceCtorEq,B9,C0,C1,C2,C3,C4,C5,C6,C7,C8,C9,D0,D1,D2,D3,D4,D5,D6,D7,A3,B7,B6,B5,hd,he,d105,f105]
    rw [K4 L.A9.x2.eq_1]
    simp -dsimp (disch:=first|omega|(simp only [A4]<;>omega)|fail) only [go_sem,reduceIte,reduceCtorEq,B9,C0,C1,C2,C3,C4,C5,C6,C7,C8,C9,D0,D1,D2,D3,D4,D5,D6,D7,A3,B7,B6,B5,f73,L.A9.r1]
    rw [K4 L.A9.x2.eq_1]
    simp -dsimp (disch:=first|omega|(simp only [A4]<;>omega)|fail) only [go_sem,reduceIte,reduceCtorEq,B9,C0,C1,C2,C3,C4,C5,C6,C7,C8,C9,D0,D1,D2,D3,D4,D5,D6,D7,A3,B7,B6,B5,f73,L.A9.r1]
  · simp -dsimp (disch:=first|omega|(simp only [A4]<;>omega)|fail) only [Zhm,L.A9.r0,go_sem,reduceIte,reduceCtorEq,B9,C0,C1,C2,C3,C4,C5,C6,C7,C8,C9,D0,D1,D2,D3,D4,D5,D6,D7,A3,B7,B6,B5]
    rw [K4 L.A9.x1.eq_1]
    simp -dsimp (disch:=first|omega|(simp only [A4]<;>omega)|fail) only [go_sem,reduceIte,reduceCtorEq,B9,C0,C1,C2,C3,C4,C5,C6,C7,C8,C9,D0,D1,D2,D3,D4,D5,D6,D7,A3,B7,B6,B5,hd,he,d116,f116]
    rw [K4 L.A9.x2.eq_1]
    simp -dsimp (disch:=first|omega|(simp only [A4]<;>omega)|fail) only [go_sem,reduceIte,reduceCtorEq,B9,C0,C1,C2,C3,C4,C5,C6,C7,C8,C9,D0,D1,D2,D3,D4,D5,D6,D7,A3,B7,B6,B5,f84,L.A9.r1]
    rw [K4 L.A9.x2.eq_1]
    simp -dsimp (disch:=first|omega|(simp only [A4]<;>omega)|fail) only [go_sem,reduceIte,reduceCtorEq,B9,C0,C1,C2,C3,C4,C5,C6,C7,C8,C9,D0,D1,D2,D3,D4,D5,D6,D7,A3,B7,B6,B5,f84,L.A9.r1]
def Zae (b t:Int):Bool:=b==t||(decide (b<t)&&(decide (65≤b)&&(decide (b≤90)&&(t==b+32))))
theorem Z3w {SC:LCode} (hSC:Q4 SC 0=some (.seq .skip Zhm)) {s:List UInt8} (hs:s.length=4) (i:Nat) (t:Int) (hi:(i=0∧t=46)∨(i=1∧t=103)∨(i=2∧t=105)∨(i=3∧t=116)) :
    X E0 [.tmp 4] (.c L.A9.x0::.lp [0,1,5,6] L.A9.x0::.blk 0::.c L.A9.r0::.scp SC::[]) ⟨[(0,.str s),(1,.str [46,103,105,116]),(5,.int .i64 i),(6,.int .i64 4)],[]⟩ =
    if bat s i<128∧Zae (bat s i) t=true then X E0 [.tmp 4] (.c L.A9.x0::.lp [0,1,5,6] L.A9.x0::.blk 0::.c L.A9.r0::.scp SC::[]) ⟨[(0,.str s),(1,.str [46,103,105,116]),(5,.int .i64 (i+1:Int)),(6,.int .i64 4)],[]⟩ else some (.bool false,[]):=by
  obtain ⟨h0,h1⟩:=T8 s i
  have hor:=Yle t (by rcases hi with ⟨_,rfl⟩|⟨_,rfl⟩|⟨_,rfl⟩|⟨_,rfl⟩<;>simp) (bat s i).toNat (by omega)
  rw [show (((bat s i).toNat:Nat):Int)=bat s i by omega] at hor
  have hti:bat [46,103,105,116] i=t:=by rcases hi with ⟨rfl,rfl⟩|⟨rfl,rfl⟩|⟨rfl,rfl⟩|⟨rfl,rfl⟩<;>rfl
  have hi4:i<4:=by omega
  have htr:46≤t∧t≤116:=by omega
  have hil:i < [46,103,105,(116:UInt8)].length:=by simpa using hi4
  rw [K4 L.A9.x0.eq_1]
  by_cases hb:bat s i<128
  · have hd:decide (128≤(bat s i).toNat)=false:=by simp;omega
    rw [hd] at hor
    generalize hx:bat s i=x at *
    by_cases e1:x=t
    · rw [if_pos ⟨hb,by simp [Zae,e1]⟩]
      have e9:(t==x)=true:=Zos e1.symm
      simp -dsimp (disch:=first|omega|(simp only [A4]<;>omega)|fail) only [go_sem,reduceIte,reduceCtorEq,B9,C0,C1,C2,C3,C4,C5,C6,C7,C8,C9,D0,D1,D2,D3,D4,D5,D6,D7,A3,B7,B6,B5,hx,hti,hor,e9]
    · have e2:(x==t)=false:=Zd9 e1
      have e2':(t==x)=false:=Zd9 (fun h=>e1 h.symm)
      by_cases e3:x<t
      · have e4:¬ t<x:=by omega
        by_cases e5:65≤x
        · by_cases e6:x≤90
          · have w1:IntKind.u8.wrap (x+97)=x+97:=by rw [Zew];omega
            have w2:IntKind.u8.wrap (x+97-65)=x+32:=by rw [Zew];omega
            by_cases e7:t=x+32
            · rw [if_pos ⟨hb,by simp only [Zae,e2,J1 e3,J1 e5,J1 e6,Zos e7,Ypj,Yn6,Ypk]⟩]
              have e8:(t==x+32)=true:=Zos e7
              simp -dsimp (disch:=first|omega|(simp only [A4]<;>omega)|fail) only [go_sem,reduceIte,reduceCtorEq,B9,C0,C1,C2,C3,C4,C5,C6,C7,C8,C9,D0,D1,D2,D3,D4,D5,D6,D7,A3,B7,B6,B5,hx,hti,hor,e2',e4,e5,e6,w1,w2,e8]
            · rw [if_neg (by simp only [Zae,e2,J1 e3,J1 e5,J1 e6,Zd9 e7,Ypj,Yn6,Ypk];simp)]
              have e8:(t==x+32)=false:=Zd9 e7
              simp -dsimp (disch:=first|omega|(simp only [A4]<;>omega)|fail) only [go_sem,reduceIte,reduceCtorEq,B9,C0,C1,C2,C3,C4,C5,C6,C7,C8,C9,D0,D1,D2,D3,D4,D5,D6,D7,A3,B7,B6,B5,hx,hti,hor,e2',e4,e5,e6,w1,w2,e8]
          · rw [if_neg (by simp only [Zae,e2,J1 e3,J1 e5,X2 e6,Ypj,Ypl,Ypk];simp)]
            simp -dsimp (disch:=first|omega|(simp only [A4]<;>omega)|fail) only [go_sem,reduceIte,reduceCtorEq,B9,C0,C1,C2,C3,C4,C5,C6,C7,C8,C9,D0,D1,D2,D3,D4,D5,D6,D7,A3,B7,B6,B5,hx,hti,hor,e2',e4,e5,e6]
        · rw [if_neg (by simp only [Zae,e2,J1 e3,X2 e5,Ypj,Ypl,Ypk];simp)]
          simp -dsimp (disch:=first|omega|(simp only [A4]<;>omega)|fail) only [go_sem,reduceIte,reduceCtorEq,B9,C0,C1,C2,C3,C4,C5,C6,C7,C8,C9,D0,D1,D2,D3,D4,D5,D6,D7,A3,B7,B6,B5,hx,hti,hor,e2',e4,e5]
      · have e4:t<x:=by omega
        rw [if_neg (by simp only [Zae,e2,X2 e3,Ypl,Ypk];simp)]
        by_cases e5:65≤t
        · have e6:¬ t≤90:=by omega
          simp -dsimp (disch:=first|omega|(simp only [A4]<;>omega)|fail) only [go_sem,reduceIte,reduceCtorEq,B9,C0,C1,C2,C3,C4,C5,C6,C7,C8,C9,D0,D1,D2,D3,D4,D5,D6,D7,A3,B7,B6,B5,hx,hti,hor,e2',e4,e5,e6]
        · simp -dsimp (disch:=first|omega|(simp only [A4]<;>omega)|fail) only [go_sem,reduceIte,reduceCtorEq,B9,C0,C1,C2,C3,C4,C5,C6,C7,C8,C9,D0,D1,D2,D3,D4,D5,D6,D7,A3,B7,B6,B5,hx,hti,hor,e2',e4,e5]
  · have hd:decide (128≤(bat s i).toNat)=true:=by simp;omega
    rw [hd] at hor
    rw [if_neg (fun h=>hb h.1)]
    simp -dsimp (disch:=first|omega|(simp only [A4]<;>omega)|fail) only [go_sem,reduceIte,reduceCtorEq,B9,C0,C1,C2,C3,C4,C5,C6,C7,C8,C9,D0,D1,D2,D3,D4,D5,D6,D7,A3,B7,B6,B5,hti,hor,hSC]
    exact ef_uni hs i hi4 (by omega) _ _ _ _ _
def Zwr (s:List UInt8):Bool:=decide (bat s 0<128∧Zae (bat s 0) 46=true)&&(decide (bat s 1<128∧Zae (bat s 1) 103=true)&&(decide (bat s 2<128∧Zae (bat s 2) 105=true)&&decide (bat s 3<128∧Zae (bat s 3) 116=true)))
theorem Ylf {s:List UInt8} (hs:s.length=4):S E0 F.A9 [.str s,.str [46,103,105,116]] []=some (.bool (Zwr s),[]):=by
  rw [Zab Zrw rfl rfl]
  have l4:((s.length:Int))=4:=by omega
  simp -dsimp (disch:=first|omega|(simp only [A4]<;>omega)|fail) only [L.A9,go_sem,reduceIte,reduceCtorEq,B9,C0,C1,C2,C3,C4,C5,C6,C7,C8,C9,D0,D1,D2,D3,D4,D5,D6,D7,A3,hs]
  generalize hSC:LCode.seq _ _=SC
  have hf:Q4 SC 0=some (.seq .skip Zhm):=by subst hSC;rfl
  have i0:=Z3w hf hs 0 46 (by simp)
  have i1:=Z3w hf hs 1 103 (by simp)
  have i2:=Z3w hf hs 2 105 (by simp)
  have i3:=Z3w hf hs 3 116 (by simp)
  have i4:X E0 [.tmp 4] (.c L.A9.x0::.lp [0,1,5,6] L.A9.x0::.blk 0::.c L.A9.r0::.scp SC::[]) ⟨[(0,.str s),(1,.str [46,103,105,116]),(5,.int .i64 4),(6,.int .i64 4)],[]⟩=some (.bool true,[]):=by
    rw [K4 L.A9.x0.eq_1]
    simp -dsimp (disch:=first|omega|(simp only [A4]<;>omega)|fail) only [go_sem,reduceIte,reduceCtorEq,B9,C0,C1,C2,C3,C4,C5,C6,C7,C8,C9,D0,D1,D2,D3,D4,D5,D6,D7,A3,L.A9.r0,hs]
  simp only [show ((0:Nat):Int)=0 from rfl,show ((1:Nat):Int)=1 from rfl,show ((2:Nat):Int)=2 from rfl,show ((3:Nat):Int)=3 from rfl,show (0:Int)+1=1 from rfl,show (1:Int)+1=2 from rfl,show (2:Int)+1=3 from rfl,show (3:Int)+1=4 from rfl] at i0 i1 i2 i3
  rw [show (if ((4:Nat):Int)<((4:Nat):Int) then ((4:Nat):Int) else ((4:Nat):Int))=4 from rfl,i0]
  by_cases c0:bat s 0<128∧Zae (bat s 0) 46=true
  · rw [if_pos c0,i1]
    by_cases c1:bat s 1<128∧Zae (bat s 1) 103=true
    · rw [if_pos c1,i2]
      by_cases c2:bat s 2<128∧Zae (bat s 2) 105=true
      · rw [if_pos c2,i3]
        by_cases c3:bat s 3<128∧Zae (bat s 3) 116=true
        · rw [if_pos c3,i4];simp only [Zwr,J1 c0,J1 c1,J1 c2,J1 c3];rfl
        · rw [if_neg c3];simp only [Zwr,J1 c0,J1 c1,J1 c2,X2 c3];rfl
      · rw [if_neg c2];simp only [Zwr,J1 c0,J1 c1,X2 c2];rfl
    · rw [if_neg c1];simp only [Zwr,J1 c0,X2 c1];rfl
  · rw [if_neg c0];simp only [Zwr,X2 c0];rfl
theorem Zws:∀ n:Nat,n<256→∀ t ∈ [(46:UInt8),103,105,116],decide ((n:Int)<128∧Zae n t.toNat=true)=(Zmv (UInt8.ofNat n)==t):=by decide +kernel
theorem Z3x {s:List UInt8} (hs:s.length=4):Zwr s=Zi0 s:=by
  match s,hs with
  | [a,b,c,d],_ =>
    have key:∀ (x:UInt8) (t:UInt8),t ∈ [(46:UInt8),103,105,116]→decide ((x.toNat:Int)<128∧Zae x.toNat t.toNat=true)=(Zmv x==t):=fun x t ht=>by
      have:=Zws x.toNat x.toNat_lt t ht
      rwa [UInt8.ofNat_toNat] at this
    have h0:=key a 46 (by simp)
    have h1:=key b 103 (by simp)
    have h2:=key c 105 (by simp)
    have h3:=key d 116 (by simp)
    have e0:(Zmv a==46)=(a==46):=by
      have:∀ n:Nat,n<256→(Zmv (UInt8.ofNat n)==46)=(UInt8.ofNat n==46):=by decide +kernel
      have:=this a.toNat a.toNat_lt
      rwa [UInt8.ofNat_toNat] at this
    show (decide ((a.toNat:Int)<128∧Zae a.toNat (46:UInt8).toNat=true)&&(decide ((b.toNat:Int)<128∧Zae b.toNat (103:UInt8).toNat=true)&&(decide ((c.toNat:Int)<128∧Zae c.toNat (105:UInt8).toNat=true)&&decide ((d.toNat:Int)<128∧Zae d.toNat (116:UInt8).toNat=true))))=_
    rw [h0,h1,h2,h3,e0]
    simp only [Zi0,Yn3]
end Cod
namespace Cod
open Go
set_option maxRecDepth 100000
def Znw (b0 a1 a2 a3:Nat) (c1 c2 c3:Bool):Nat × Nat :=
  if b0<0x80 then (b0,1)
  else if b0/32==6&&c1 then (if b0%32*64+a1%64 ≥ 0x80 then (b0%32*64+a1%64,2) else (65533,1))
  else if b0/16==14&&c1&&c2 then
    (if b0%16*4096+a1%64*64+a2%64 ≥ 0x800&&Utf8.valid ((b0%16*4096+a1%64*64+a2%64:Nat):Int) then (b0%16*4096+a1%64*64+a2%64,3) else (65533,1))
  else if b0/8==30&&c1&&c2&&c3 then
    (if b0%8*262144+a1%64*4096+a2%64*64+a3%64 ≥ 0x10000&&Utf8.valid ((b0%8*262144+a1%64*4096+a2%64*64+a3%64:Nat):Int) then (b0%8*262144+a1%64*4096+a2%64*64+a3%64,4) else (65533,1))
  else (65533,1)
theorem Ye9 {b0 a1 a2 a3:Nat} {c1 c2 c3:Bool} (h:b0<128):Znw b0 a1 a2 a3 c1 c2 c3=(b0,1):=by unfold Znw;rw [if_pos h]
theorem Z8a {b0 a1 a2 a3:Nat} {c1 c2 c3:Bool} (h:128≤b0) (h2:b0<256):128≤(Znw b0 a1 a2 a3 c1 c2 c3).1∧(Znw b0 a1 a2 a3 c1 c2 c3).1≤1114111 ∧
    ((Znw b0 a1 a2 a3 c1 c2 c3).2=1∨((Znw b0 a1 a2 a3 c1 c2 c3).2=2∧c1=true)∨((Znw b0 a1 a2 a3 c1 c2 c3).2=3∧c1=true∧c2=true)∨((Znw b0 a1 a2 a3 c1 c2 c3).2=4∧c1=true∧c2=true∧c3=true)):=by
  unfold Znw
  rw [if_neg (by omega)]
  split
  · rename_i h3
    simp only [Ynm] at h3
    split
    · exact ⟨by assumption,by omega,.inr (.inl ⟨rfl,h3.2⟩)⟩
    · exact ⟨by omega,by omega,.inl rfl⟩
  · split
    · rename_i h3
      simp only [Ynm] at h3
      split
      · rename_i h4
        simp only [Ynm,decide_eq_true_eq] at h4
        exact ⟨by omega,by omega,.inr (.inr (.inl ⟨rfl,h3.1.2,h3.2⟩))⟩
      · exact ⟨by omega,by omega,.inl rfl⟩
    · split
      · rename_i h3
        simp only [Ynm] at h3
        split
        · rename_i h4
          simp only [Ynm,decide_eq_true_eq,Utf8.valid,Bool.or_eq_true] at h4
          exact ⟨by omega,by omega,.inr (.inr (.inr ⟨rfl,h3.1.1.2,h3.1.2,h3.2⟩))⟩
        · exact ⟨by omega,by omega,.inl rfl⟩
      · exact ⟨by omega,by omega,.inl rfl⟩
theorem Zj7 {l:List UInt8} {p:Nat} (h:p<l.length) :
    (bat l p<128∧(((X3 l p).1:Nat):Int)=bat l p∧(X3 l p).2=1) ∨
    (128≤bat l p∧128≤(X3 l p).1∧(X3 l p).1≤1114111∧1≤(X3 l p).2∧∀ j,p≤j→j<p+(X3 l p).2→j<l.length∧128≤bat l j):=by
  have hs:(⟨l.toArray⟩:ByteArray).size=l.length:=by simp [ByteArray.size]
  have h0:((⟨l.toArray⟩:ByteArray).get! (p+0)).toNat=(l.getD p 0).toNat:=Z1j h
  have hc:∀ k,(decide (p+k<(⟨l.toArray⟩:ByteArray).size)&&((⟨l.toArray⟩:ByteArray).get! (p+k)).toNat/64==2)=true→p+k<l.length∧128≤bat l (p+k):=by
    intro k hk
    simp only [Ynm,decide_eq_true_eq,beq_iff_eq,hs] at hk
    refine ⟨hk.1,?_⟩
    have:=Z1j hk.1
    unfold bat
    omega
  have e:X3 l p=Znw ((⟨l.toArray⟩:ByteArray).get! (p+0)).toNat ((⟨l.toArray⟩:ByteArray).get! (p+1)).toNat ((⟨l.toArray⟩:ByteArray).get! (p+2)).toNat ((⟨l.toArray⟩:ByteArray).get! (p+3)).toNat
    (decide (p+1<(⟨l.toArray⟩:ByteArray).size)&&((⟨l.toArray⟩:ByteArray).get! (p+1)).toNat/64==2) (decide (p+2<(⟨l.toArray⟩:ByteArray).size)&&((⟨l.toArray⟩:ByteArray).get! (p+2)).toNat/64==2)
    (decide (p+3<(⟨l.toArray⟩:ByteArray).size)&&((⟨l.toArray⟩:ByteArray).get! (p+3)).toNat/64==2):=rfl
  have k1:=hc 1
  have k2:=hc 2
  have k3:=hc 3
  rw [h0] at e
  generalize (decide (p+1<(⟨l.toArray⟩:ByteArray).size)&&((⟨l.toArray⟩:ByteArray).get! (p+1)).toNat/64==2)=c1 at e k1
  generalize (decide (p+2<(⟨l.toArray⟩:ByteArray).size)&&((⟨l.toArray⟩:ByteArray).get! (p+2)).toNat/64==2)=c2 at e k2
  generalize (decide (p+3<(⟨l.toArray⟩:ByteArray).size)&&((⟨l.toArray⟩:ByteArray).get! (p+3)).toNat/64==2)=c3 at e k3
  generalize ((⟨l.toArray⟩:ByteArray).get! (p+1)).toNat=a1 at e
  generalize ((⟨l.toArray⟩:ByteArray).get! (p+2)).toNat=a2 at e
  generalize ((⟨l.toArray⟩:ByteArray).get! (p+3)).toNat=a3 at e
  have hlt:=(l.getD p 0).toNat_lt
  by_cases hb:bat l p<128
  · refine .inl ⟨hb,?_⟩
    unfold bat at hb ⊢
    rw [e,Ye9 (by omega)]
    exact ⟨rfl,rfl⟩
  · have hb':=hb
    unfold bat at hb
    obtain ⟨h1,h2,h3⟩:=Z8a (a1:=a1) (a2:=a2) (a3:=a3) (c1:=c1) (c2:=c2) (c3:=c3) (b0:=(l.getD p 0).toNat) (by omega) hlt
    rw [←e] at h1 h2 h3
    refine .inr ⟨by omega,h1,h2,by omega,fun j j1 j2=>?_⟩
    have:j=p∨j=p+1∨j=p+2∨j=p+3:=by omega
    rcases this with rfl|rfl|rfl|rfl
    · exact ⟨h,by omega⟩
    · exact k1 (by rcases h3 with h3|h3|h3|h3<;>first|omega|exact h3.2|exact h3.2.1)
    · exact k2 (by rcases h3 with h3|h3|h3|h3<;>first|omega|exact h3.2.2|exact h3.2.2.1)
    · exact k3 (by rcases h3 with h3|h3|h3|h3<;>first|omega|exact h3.2.2.2)
theorem Zwt {r:Int} (h0:128≤r) (h1:r≤1114111):2≤(X4 r).length∧(X4 r).length≤4∧((X4 r).length=2→128≤bat (X4 r) 1):=by
  unfold X4 Utf8.encode Utf8.runeError
  simp only []
  generalize hc:(if Utf8.valid r=true then r.toNat else 65533)=c
  have hc0:128≤c:=by
    rw [←hc];split
    · omega
    · omega
  rw [if_neg (by omega)]
  split
  · refine ⟨by simp,by simp,fun _=>?_⟩
    simp [bat]
    omega
  · split<;>simp
theorem Zm3 {r:Int} (h0:128≤r):S E0 F.J0 [.int .i32 r] []=some (.bool (decide (r<55296)||(decide (57343<r)&&decide (r≤1114111))),[]):=by
  rw [Zab Zr7 rfl rfl]
  by_cases h1:r<55296
  · simp -dsimp (disch:=first|omega|(simp only [A4]<;>omega)|fail) only [L.J0,go_sem,reduceIte,reduceCtorEq,B9,C0,C1,C2,C3,C4,C5,C6,C7,C8,C9,D0,D1,D2,D3,D4,D5,D6,D7,A3,J1 h1]
  · by_cases h2:57343<r
    · by_cases h3:r≤1114111
      · simp -dsimp (disch:=first|omega|(simp only [A4]<;>omega)|fail) only [L.J0,go_sem,reduceIte,reduceCtorEq,B9,C0,C1,C2,C3,C4,C5,C6,C7,C8,C9,D0,D1,D2,D3,D4,D5,D6,D7,A3,X2 h1,J1 h2,J1 h3]
      · simp -dsimp (disch:=first|omega|(simp only [A4]<;>omega)|fail) only [L.J0,go_sem,reduceIte,reduceCtorEq,B9,C0,C1,C2,C3,C4,C5,C6,C7,C8,C9,D0,D1,D2,D3,D4,D5,D6,D7,A3,X2 h1,J1 h2,X2 h3]
    · simp -dsimp (disch:=first|omega|(simp only [A4]<;>omega)|fail) only [L.J0,go_sem,reduceIte,reduceCtorEq,B9,C0,C1,C2,C3,C4,C5,C6,C7,C8,C9,D0,D1,D2,D3,D4,D5,D6,D7,A3,X2 h1,X2 h2]
theorem Z6 {l:List UInt8} {c:Int}:S E0 F.K9 [.str l,.int .u8 c] []=some (.int .i64 (G6 l (byt c)),[]):=by
  rw [Zab Zr3 rfl rfl]
  have h:S E0 F.L4 [.str l,.int .u8 c] []=some (.int .i64 (G6 l (byt c)),[]):=by
    rw [Zab Ziu rfl rfl]
    simp -dsimp (disch:=first|omega|(simp only [A4]<;>omega)|fail) only [L.L4,go_sem,reduceIte,reduceCtorEq,B9,C0,C1,C2,C3,C4,C5,C6,C7,C8,C9,D0,D1,D2,D3,D4,D5,D6,D7,A3,Zwe]
  simp -dsimp (disch:=first|omega|(simp only [A4]<;>omega)|fail) only [L.K9,go_sem,reduceIte,reduceCtorEq,B9,C0,C1,C2,C3,C4,C5,C6,C7,C8,C9,D0,D1,D2,D3,D4,D5,D6,D7,A3,h]
theorem Zwu:S E0 F.A7 [.str [47,0],.int .i32 65533] []=some (.int .i64 (-1),[]):=Zby.2 ⟨60,by kernel_rfl⟩
theorem Zk1 {r:Int} (h0:0≤r) (h1:r<128):S E0 F.A7 [.str [47,0],.int .i32 r] []=some (.int .i64 (G6 [47,0] (byt r)),[]):=by
  rw [Zab Z3 rfl rfl]
  have h2:IntKind.u8.wrap r=r:=by rw [Zew];omega
  simp -dsimp (disch:=first|omega|(simp only [A4]<;>omega)|fail) only [L.A7,go_sem,reduceIte,reduceCtorEq,B9,C0,C1,C2,C3,C4,C5,C6,C7,C8,C9,D0,D1,D2,D3,D4,D5,D6,D7,A3,J1 h0,J1 h1,h2,Z6]
theorem Zsx {r:Int} (h0:128≤r) (h1:r≤1114111):S E0 F.A7 [.str [47,0],.int .i32 r] []=some (.int .i64 (-1),[]):=by
  by_cases he:r=65533
  · subst he;exact Zwu
  · have h2:¬ r<128:=by omega
    have h3:(0:Int)≤r:=by omega
    rw [Zab Z3 rfl rfl]
    have hvv:S E0 F.J0 [.int .i32 r] []=some (.bool (decide (r<55296)||decide (57343<r)),[]):=by rw [Zm3 h0,J1 h1,Yn6]
    cases hv:(decide (r<55296)||decide (57343<r)) with
    | false=>simp -dsimp (disch:=first|omega|(simp only [A4]<;>omega)|fail) only [L.A7,go_sem,reduceIte,reduceCtorEq,B9,C0,C1,C2,C3,C4,C5,C6,C7,C8,C9,D0,D1,D2,D3,D4,D5,D6,D7,A3,J1 h3,X2 h2,Zd9 he,hvv,hv]
    | true =>
      obtain ⟨e1,e2,e3⟩:=Zwt h0 h1
      simp -dsimp (disch:=first|omega|(simp only [A4]<;>omega)|fail) only [L.A7,go_sem,reduceIte,reduceCtorEq,B9,C0,C1,C2,C3,C4,C5,C6,C7,C8,C9,D0,D1,D2,D3,D4,D5,D6,D7,A3,J1 h3,X2 h2,Zd9 he,hvv,hv]
      rw [K4 L.A7.x1.eq_1]
      by_cases e4:(X4 r).length=2
      · have e5:=e3 e4
        have b1:bat [47,0] 1=0:=rfl
        have b2:((((0:UInt8).toNat:Nat):Int) != bat (X4 r) 1)=true:=Zot (by show (0:Int)≠_;omega)
        have b3:(((2:Nat):Int)-1).toNat=1:=rfl
        have b4:G6 ([47,0].drop (((2:Nat):Int)-1+1).toNat) (byt (bat (X4 r) 1)) = -1:=rfl
        have b5:G6 [] (byt (bat (X4 r) 1)) = -1:=rfl
        simp -dsimp (disch:=first|omega|(simp only [A4]<;>omega)|fail) only [go_sem,reduceIte,reduceCtorEq,B9,C0,C1,C2,C3,C4,C5,C6,C7,C8,C9,D0,D1,D2,D3,D4,D5,D6,D7,A3,L.A7.r2,e4,b1,b2,b3,Z6,B7,B6,B5,b4,b5,List.drop_nil]
      · simp -dsimp (disch:=first|omega|(simp only [A4]<;>omega)|fail) only [go_sem,reduceIte,reduceCtorEq,B9,C0,C1,C2,C3,C4,C5,C6,C7,C8,C9,D0,D1,D2,D3,D4,D5,D6,D7,A3,L.A7.r2]
def Zdh (b:UInt8):Bool:=b==47||b==0
theorem Yfa (b:UInt8):(0≤G6 [47,0] b)↔Zdh b=true:=by
  unfold G6 Zdh
  by_cases h1:b=47
  · subst h1;simp
  · by_cases h2:b=0
    · subst h2;simp [Ypd]
    · simp [h1,h2]
theorem Z7 (l:List UInt8) (i:Nat):byt (bat l i)=l.getD i 0:=by
  unfold byt bat
  rw [Int.toNat_natCast,UInt8.ofNat_toNat]
theorem Yfb {s:List UInt8} (hs:s.length≤1000000):∀ (m p:Nat),p+m≤s.length→s.length≤p+m→∃ i:Int,((0≤i)↔(s.drop p).any Zdh=true) ∧
    X E0 [.tmp 4] (.c L.A5.x1::.lp [1,45] L.A5.x1::.blk 2::.c L.A5.r2::[]) ⟨[(1,.str [47,0]),(45,.it (.s 1000000 0) 0)],[(.s 1000000 0,⟨0,true,true,true,[.itr s p]⟩)]⟩=some (.int .i64 i,[]):=by
  intro m
  induction m using Nat.strongRecOn with
  | _ m ih =>
    intro p h1 h2
    rw [K4 L.A5.x1.eq_1]
    by_cases hp:p<s.length
    · have hd:s.drop p=s.getD p 0::s.drop (p+1):=by
        rw [Ypa hp];simp [hp]
      rcases Zj7 hp with ⟨e1,e2,e3⟩|⟨e1,e2,e3,e4,e5⟩
      · cases hbad:Zdh (s.getD p 0) with
        | true =>
          have h3:=(Yfa (byt (bat s p))).2 (by rw [Z7];exact hbad)
          refine ⟨p,⟨fun _=>by rw [hd,Ypm,hbad];rfl,fun _=>by omega⟩,?_⟩
          simp -dsimp (disch:=first|omega|(simp only [A4]<;>omega)|fail) only [go_sem,reduceIte,reduceCtorEq,B9,C0,C1,C2,C3,C4,C5,C6,C7,C8,C9,D0,D1,D2,D3,D4,D5,D6,D7,A3,hp,e2,e3,Zk1 (T8 s p).1 e1,J1 h3]
        | false =>
          have h3:¬ 0≤G6 [47,0] (byt (bat s p)):=fun h=>by rw [Yfa,Z7,hbad] at h;cases h
          obtain ⟨i,h4,h5⟩:=ih (m-1) (by omega) (p+1) (by omega) (by omega)
          refine ⟨i,by rw [h4,hd,Ypm,hbad,Ypk],?_⟩
          rw [←h5]
          simp -dsimp (disch:=first|omega|(simp only [A4]<;>omega)|fail) only [go_sem,reduceIte,reduceCtorEq,B9,C0,C1,C2,C3,C4,C5,C6,C7,C8,C9,D0,D1,D2,D3,D4,D5,D6,D7,A3,hp,e2,e3,Zk1 (T8 s p).1 e1,X2 h3]
      · have hw:p+(X3 s p).2≤s.length:=by
          have:=(e5 (p+(X3 s p).2-1) (by omega) (by omega)).1
          omega
        obtain ⟨i,h4,h5⟩:=ih (m-(X3 s p).2) (by omega) (p+(X3 s p).2) (by omega) (by omega)
        refine ⟨i,?_,?_⟩
        · rw [h4]
          have:∀ w,p+w≤s.length→(∀ j,p≤j→j<p+w→j<s.length∧128≤bat s j)→(s.drop p).any Zdh=(s.drop (p+w)).any Zdh:=by
            intro w
            induction w with
            | zero=>intro _ _;rfl
            | succ w ihw =>
              intro hw1 hw2
              rw [ihw (by omega) (fun j j1 j2=>hw2 j j1 (by omega)),Ypa (by omega:p+w<s.length),Ypm]
              have hh:=(hw2 (p+w) (by omega) (by omega)).2
              have:Zdh s[p+w]=false:=by
                unfold bat at hh
                rw [List.getD_eq_getElem?_getD,List.getElem?_eq_getElem (by omega),Yof] at hh
                unfold Zdh
                rw [Bool.or_eq_false_iff,beq_eq_false_iff_ne,beq_eq_false_iff_ne]
                constructor<;>(intro hx;rw [hx] at hh;simp at hh)
              rw [this,Ypk]
              rfl
          rw [this _ hw e5]
        · rw [←h5]
          have h6:=Zsx (r:=((X3 s p).1:Int)) (by omega) (by omega)
          simp -dsimp (disch:=first|omega|(simp only [A4]<;>omega)|fail) only [go_sem,reduceIte,reduceCtorEq,B9,C0,C1,C2,C3,C4,C5,C6,C7,C8,C9,D0,D1,D2,D3,D4,D5,D6,D7,A3,hp,h6]
    · refine ⟨-1,⟨fun h=>by omega,fun h=>by rw [Yo9 (by omega)] at h;simp at h⟩,?_⟩
      simp -dsimp (disch:=first|omega|(simp only [A4]<;>omega)|fail) only [go_sem,reduceIte,reduceCtorEq,B9,C0,C1,C2,C3,C4,C5,C6,C7,C8,C9,D0,D1,D2,D3,D4,D5,D6,D7,A3,hp,L.A5.r2]
def Zg5:List AV:=(List.range 256).map fun i=>.bool (i==47||i==0)
theorem go_set:S E0 F.N2 [.str [47,0]] []=some (.tup [.agg Zg5,.bool true],[]):=Zby.2 ⟨60,by kernel_rfl⟩
theorem Yfc:∀ n:Nat,n<256→Zg5[n]? = some (.bool (Zdh (UInt8.ofNat n))):=by
  intro n hn
  simp only [Zg5,List.getElem?_map,List.getElem?_range hn,Option.map_some,Zdh]
  have:∀ n:Nat,n<256→(n==47||n==0)=(UInt8.ofNat n==47||UInt8.ofNat n==0):=by decide +kernel
  rw [this n hn]
theorem Zai:flats Zg5=true:=by kernel_rfl
theorem Zaq:Zg5.length=256:=by simp [Zg5]
end Cod
namespace Cod
open Go
set_option maxRecDepth 100000
theorem Ylg {b:Int} (h0:0≤b) (h1:b<256):Zg5[b.toNat]? = some (.bool (Zdh (byt b))):=Yfc b.toNat (by omega)
theorem Zo0:leadss Zg5=false:=by kernel_rfl
theorem Zo1:refsOfs Zg5=[]:=by kernel_rfl
theorem Zo2 (f:Site→Nat→Option (Site × Nat)):rens f Zg5=Zg5:=rens_flats Zg5 Zai
theorem Zj8:I7 Zg5=true:=by kernel_rfl
theorem Zk2 {x:Site} {b:Int} (h0:0≤b) (h1:b<256):S E0 F.K8 [.ref (.up x) 0 0,.int .u8 b] [(.up x,⟨0,true,true,true,Zg5⟩)]=some (.bool (Zdh (byt b)),[(.up x,⟨0,true,true,true,Zg5⟩)]):=by
  rw [Zab Zev rfl rfl]
  simp -dsimp (disch:=first|omega|(simp only [A4]<;>omega)|fail) only [L.K8,go_sem,reduceIte,reduceCtorEq,B9,C0,C1,C2,C3,C4,C5,C6,C7,C8,C9,D0,D1,D2,D3,D4,D5,D6,D7,A3,Zaq,Zai,Zo0,Zo1,Zo2,Zj8,Ylg h0 h1]
theorem Yfd {s:List UInt8} (hs:s.length≤1000000):∀ (m p:Nat),p+m=s.length→∃ i:Int,((0≤i)↔(s.drop p).any Zdh=true) ∧
    X E0 [.tmp 4] (.c L.A5.x0::.lp [0,6,8] L.A5.x0::.blk 0::.c L.A5.r0::.c L.A5.r1::[]) ⟨[(0,.str s),(6,.ref (.s 1000000 0) 0 0),(8,.int .i64 p)],[(.s 1000000 0,⟨0,true,true,true,Zg5⟩)]⟩=some (.int .i64 i,[]):=by
  intro m
  induction m with
  | zero =>
    intro p h
    refine ⟨-1,⟨fun h=>by omega,fun h=>by rw [Yo9 (by omega)] at h;simp at h⟩,?_⟩
    rw [K4 L.A5.x0.eq_1]
    simp -dsimp (disch:=first|omega|(simp only [A4]<;>omega)|fail) only [go_sem,reduceIte,reduceCtorEq,B9,C0,C1,C2,C3,C4,C5,C6,C7,C8,C9,D0,D1,D2,D3,D4,D5,D6,D7,A3,Zaq,Zai,Zo0,Zo1,Zo2,Zj8,L.A5.r0]
  | succ m ih =>
    intro p h
    have hp:p<s.length:=by omega
    have hd:s.drop p=s.getD p 0::s.drop (p+1):=by
      rw [Ypa hp];simp [hp]
    obtain ⟨b0,b1⟩:=T8 s p
    cases hbad:Zdh (s.getD p 0) with
    | true =>
      have h3:Zdh (byt (bat s p))=true:=by rw [Z7];exact hbad
      refine ⟨p,⟨fun _=>by rw [hd,Ypm,hbad];rfl,fun _=>by omega⟩,?_⟩
      rw [K4 L.A5.x0.eq_1]
      simp -dsimp (disch:=first|omega|(simp only [A4]<;>omega)|fail) only [go_sem,reduceIte,reduceCtorEq,B9,C0,C1,C2,C3,C4,C5,C6,C7,C8,C9,D0,D1,D2,D3,D4,D5,D6,D7,A3,Zaq,Zai,Zo0,Zo1,Zo2,Zj8,Zk2 b0 b1,h3]
    | false =>
      have h3:Zdh (byt (bat s p))=false:=by rw [Z7];exact hbad
      obtain ⟨i,h4,h5⟩:=ih (p+1) (by omega)
      refine ⟨i,by rw [h4,hd,Ypm,hbad,Ypk],?_⟩
      rw [←h5,K4 L.A5.x0.eq_1]
      simp -dsimp (disch:=first|omega|(simp only [A4]<;>omega)|fail) only [go_sem,reduceIte,reduceCtorEq,B9,C0,C1,C2,C3,C4,C5,C6,C7,C8,C9,D0,D1,D2,D3,D4,D5,D6,D7,A3,Zaq,Zai,Zo0,Zo1,Zo2,Zj8,Zk2 b0 b1,h3]
      rfl
theorem Zj9 {n:Int}:S E0 F.S4 [.int .i64 n] []=some (.bool (decide (8<n)),[]):=by
  rw [Zab Zr2 rfl rfl]
  simp -dsimp (disch:=first|omega|(simp only [A4]<;>omega)|fail) only [L.S4,go_sem,reduceIte,reduceCtorEq,B9,C0,C1,C2,C3,C4,C5,C6,C7,C8,C9,D0,D1,D2,D3,D4,D5,D6,D7,A3]
theorem go_any {s:List UInt8} (hs:s.length≤1000000):∃ i:Int,((0≤i)↔s.any Zdh=true)∧S E0 F.A5 [.str s,.str [47,0]] []=some (.int .i64 i,[]):=by
  rw [Zab Zeu rfl rfl]
  have e0:(([47,0]:List UInt8) == [])=false:=rfl
  by_cases h8:8<s.length
  · obtain ⟨i,h1,h2⟩:=Yfd hs s.length 0 (by omega)
    refine ⟨i,by simpa using h1,?_⟩
    rw [←h2]
    have h9:decide (8<(s.length:Int))=true:=by simp;omega
    simp -dsimp (disch:=first|omega|(simp only [A4]<;>omega)|fail) only [L.A5,go_sem,reduceIte,reduceCtorEq,B9,C0,C1,C2,C3,C4,C5,C6,C7,C8,C9,D0,D1,D2,D3,D4,D5,D6,D7,A3,Zaq,Zai,Zo0,Zo1,Zo2,Zj8,e0,Zj9,h9,go_set]
    rfl
  · obtain ⟨i,h1,h2⟩:=Yfb hs s.length 0 (by omega) (by omega)
    refine ⟨i,by simpa using h1,?_⟩
    rw [←h2]
    have h9:decide (8<(s.length:Int))=false:=by simp;omega
    simp -dsimp (disch:=first|omega|(simp only [A4]<;>omega)|fail) only [L.A5,go_sem,reduceIte,reduceCtorEq,B9,C0,C1,C2,C3,C4,C5,C6,C7,C8,C9,D0,D1,D2,D3,D4,D5,D6,D7,A3,Zaq,Zai,Zo0,Zo1,Zo2,Zj8,e0,Zj9,h9,L.A5.r1]
theorem Zi4 {s:List UInt8} (hs:s.length≤1000000):S E0 F.H9 [.str s,.str [47,0]] []=some (.bool (s.any Zdh),[]):=by
  rw [Zab Zes rfl rfl]
  obtain ⟨i,h1,h2⟩:=go_any hs
  have h3:decide (0≤i)=s.any Zdh:=by
    cases h:s.any Zdh with
    | true=>simp [h1.2 h]
    | false=>rw [decide_eq_false_iff_not,h1,h];simp
  simp -dsimp (disch:=first|omega|(simp only [A4]<;>omega)|fail) only [L.H9,go_sem,reduceIte,reduceCtorEq,B9,C0,C1,C2,C3,C4,C5,C6,C7,C8,C9,D0,D1,D2,D3,D4,D5,D6,D7,A3,h2,h3]
theorem Zwv {s:List UInt8} (hs:s.length=4) (h:Zi0 s=true):bat s 1<128∧bat s 2<128:=by
  rw [←Z3x hs] at h
  simp only [Zwr,Ynm,decide_eq_true_eq] at h
  exact ⟨h.2.1.1,h.2.2.1.1⟩
theorem Ylh (s:List UInt8):s.any Zdh=(s.contains 47||s.contains 0):=by
  induction s with
  | nil=>rfl
  | cons b s ih =>
    rw [Ypm,ih,Ypn,Ypn]
    unfold Zdh
    rw [show (47==b)=(b==47) from Bool.beq_comm,show (0==b)=(b==0) from Bool.beq_comm]
    cases (b==47)<;>cases (b==0)<;>cases s.contains 47<;>cases s.contains 0<;>rfl
theorem Z8b {s:List UInt8} (h:s.length≠4):Zi0 s=false:=by
  unfold Zi0
  split
  · exact absurd rfl h
  · rfl
theorem Yli {s:List UInt8} (hs:s.length≤1000000):S E0 F.K2 [.str s] []=some (.bool (Q7 s),[]):=by
  rw [Zab Ziq rfl rfl]
  cases c1:(s == []) with
  | true =>
    have:Q7 s=false:=by rw [eq_of_beq c1];rfl
    rw [this]
    simp -dsimp (disch:=first|omega|(simp only [A4]<;>omega)|fail) only [L.K2,go_sem,reduceIte,reduceCtorEq,B9,C0,C1,C2,C3,C4,C5,C6,C7,C8,C9,D0,D1,D2,D3,D4,D5,D6,D7,A3,c1]
  | false =>
  cases c2:(s == [46]) with
  | true =>
    have:Q7 s=false:=by rw [eq_of_beq c2];rfl
    rw [this]
    simp -dsimp (disch:=first|omega|(simp only [A4]<;>omega)|fail) only [L.K2,go_sem,reduceIte,reduceCtorEq,B9,C0,C1,C2,C3,C4,C5,C6,C7,C8,C9,D0,D1,D2,D3,D4,D5,D6,D7,A3,c1,c2]
  | false =>
  cases c3:(s == [46,46]) with
  | true =>
    have:Q7 s=false:=by rw [eq_of_beq c3];rfl
    rw [this]
    simp -dsimp (disch:=first|omega|(simp only [A4]<;>omega)|fail) only [L.K2,go_sem,reduceIte,reduceCtorEq,B9,C0,C1,C2,C3,C4,C5,C6,C7,C8,C9,D0,D1,D2,D3,D4,D5,D6,D7,A3,c1,c2,c3]
  | false =>
  have hl:1≤s.length:=by
    cases s with
    | nil=>simp at c1
    | cons b s=>simp
  by_cases c4:100<s.length
  · have:Q7 s=false:=by
      unfold Q7
      rw [show decide (s.length≤100)=false from X2 (by omega)]
      simp
    have c4':decide (100<(s.length:Int))=true:=J1 (by omega)
    rw [this]
    simp -dsimp (disch:=first|omega|(simp only [A4]<;>omega)|fail) only [L.K2,go_sem,reduceIte,reduceCtorEq,B9,C0,C1,C2,C3,C4,C5,C6,C7,C8,C9,D0,D1,D2,D3,D4,D5,D6,D7,A3,c1,c2,c3,c4']
  · have c4':decide (100<(s.length:Int))=false:=X2 (by omega)
    have hn:Q7 s=(!(s.any Zdh) && !Zi0 s):=by
      unfold Q7
      rw [Ylh,show decide (s.length≤100)=true from J1 (by omega),show decide (1≤s.length)=true from J1 hl,show (s != [46])=true by simp [bne,c2],show (s != [46,46])=true by simp [bne,c3]]
      cases s.contains 47<;>cases s.contains 0<;>cases Zi0 s<;>rfl
    by_cases c5:s.length=4
    · have c5':((s.length:Int)==4)=true:=Zos (by omega)
      have hf:=Ylf c5
      rw [Z3x c5] at hf
      cases hg:Zi0 s with
      | true =>
        obtain ⟨g1,g2⟩:=Zwv c5 hg
        rw [hg] at hf
        rw [hn,hg]
        simp -dsimp (disch:=first|omega|(simp only [A4]<;>omega)|fail) only [L.K2,go_sem,reduceIte,reduceCtorEq,B9,C0,C1,C2,C3,C4,C5,C6,C7,C8,C9,D0,D1,D2,D3,D4,D5,D6,D7,A3,c1,c2,c3,c4',c5',hf,J1 g1,J1 g2,Ypb,Bool.and_false]
      | false =>
        rw [hg] at hf
        rw [hn,hg]
        simp -dsimp (disch:=first|omega|(simp only [A4]<;>omega)|fail) only [L.K2,go_sem,reduceIte,reduceCtorEq,B9,C0,C1,C2,C3,C4,C5,C6,C7,C8,C9,D0,D1,D2,D3,D4,D5,D6,D7,A3,c1,c2,c3,c4',c5',hf,Zi4 hs,Ypc,Yn6]
    · have c5':((s.length:Int)==4)=false:=Zd9 (by omega)
      rw [hn,Z8b c5]
      simp -dsimp (disch:=first|omega|(simp only [A4]<;>omega)|fail) only [L.K2,go_sem,reduceIte,reduceCtorEq,B9,C0,C1,C2,C3,C4,C5,C6,C7,C8,C9,D0,D1,D2,D3,D4,D5,D6,D7,A3,c1,c2,c3,c4',c5',Zi4 hs,Ypc,Yn6]
end Cod
namespace Cod
open Go
theorem Z3y {E E':Env} (h:E'.glob=E.glob) (sl loc:List (Nat × AV)):evR E' sl loc=evR E sl loc:=by
  funext x;cases x<;>simp [evR,h]
theorem Z3z {E E':Env} (h:E'.glob=E.glob) (c:M0) (sl:List (Nat × AV)) (o:LOper) (r:RS):opR E' c sl o r=opR E c sl o r:=by
  unfold opR;rw [Z3y h]
theorem Z1k {E E':Env} (h:E'.glob=E.glob) (c:M0) (sl:List (Nat × AV)) (o:LOper) (r:RS):R2 E' c sl o r=R2 E c sl o r:=by
  unfold R2;rw [Z3y h]
theorem Yfe {E E':Env} (h:E'.glob=E.glob) (c:M0) (sl:List (Nat × AV)):∀ (os:List LOper) (r:RS),O7 E' c sl os r=O7 E c sl os r:=by
  intro os
  induction os with
  | nil=>intro r;rfl
  | cons o os ih=>intro r;simp only [O7,Z3z h,ih]
theorem Zww {E E':Env} (h:E'.glob=E.glob) (c:M0) (sl:List (Nat × AV)):∀ (os:List LOper) (r:RS),M2 E' c sl os r=M2 E c sl os r:=by
  intro os
  induction os with
  | nil=>intro r;rfl
  | cons o os ih=>intro r;simp only [M2,Z3z h,Z1k h,ih]
theorem ev_env {E E':Env} (h:E'.glob=E.glob) (sl:List (Nat × AV)) (x:LO):ev E' sl x=ev E sl x:=by
  cases x<;>simp [ev,h]
theorem Yff {E E':Env} (h:E'.glob=E.glob) (c:M0) (st:St) (k:List It):move E' c st k=move E c st k:=by
  unfold move
  simp only [ev_env h,Yfe h,Zww h]
structure Ext (E E':Env):Prop where
  glob:E'.glob=E.glob
  fn:E'.fn=E.fn
  known:∀ f h,E.known f=some h→E'.known f=some h
  none:∀ f,E.known f=none→E'.known f=none∨E.fn f=none
theorem Yfg {E E':Env} (h:Ext E E'):∀ n,(∀ fn k st r,Zaz E n fn k st=some r→Zaz E' n fn k st=some r)∧LeC (acall E n) (acall E' n):=by
  intro n
  induction n with
  | zero=>exact ⟨fun fn k st r h=>by simp [Zaz] at h,fun f a σ r h=>by simp [acall] at h⟩
  | succ n ih =>
    obtain ⟨ih1,ih2⟩:=ih
    constructor
    · intro fn k st r hx
      rw [Zaz] at hx ⊢
      rw [Yff h.glob]
      cases hm:move E (acall E n) st k with
      | go k' st'=>rw [hm] at hx;rw [Zbl ih2 (by simp) hm];exact ih1 _ _ _ _ hx
      | done=>rw [hm] at hx;rw [Zbl ih2 (by simp) hm];exact hx
      | stuck=>rw [hm] at hx;cases hx
    · intro f a σ r hx
      rw [acall] at hx ⊢
      cases hk:E.known f with
      | some g=>rw [hk] at hx;rw [h.known f g hk];exact hx
      | none =>
        rw [hk] at hx
        cases hf:E.fn f with
        | none=>rw [hf] at hx;cases hx
        | some fn =>
          have hk':E'.known f=Option.none:=(h.none f hk).resolve_right (by rw [hf];simp)
          rw [hk',h.fn,hf]
          rw [hf] at hx;simp only [] at hx ⊢
          cases hb:(a.length==fn.np)<;>rw [hb] at hx<;>simp only [cond_true,cond_false] at hx ⊢
          · cases hx
          · exact ih1 _ _ _ _ hx
theorem K5 {E E':Env} (h:Ext E E') {f:Nat} {a:List AV} {σ:A1} {r:AV × A1} (hx:S E f a σ=some r):S E' f a σ=some r:=by
  obtain ⟨n,hn⟩:=Zby.1 hx
  exact Zby.2 ⟨n,(Yfg h n).2 _ _ _ _ hn⟩
end Cod
namespace Cod
open Go
theorem ext0:Ext E0 E where
  glob:=rfl
  fn:=rfl
  known f h hk:=hk
  none f hk:=.inl hk
end Cod
namespace Cod
open Go
def Zlc (w e:Int):Int:=if e≠0∧(w=0∨e<w) then e else w
def Zcz (l:List Int):Int:=l.foldl Zlc 0
theorem Q2 {b:Bool} {e:Int}:S E F.E2 [.bool b,.int .i64 e] []=some (.int .i64 (if b then e else 0),[]):=by
  rw [S_of Zrf rfl rfl]
  cases b<;>simp -dsimp (disch:=first|omega|(simp only [A4,A2,A8]<;>omega)|fail) only [L.E2,go_sem,reduceIte,reduceCtorEq,B9,C0,C1,C2,C3,C4,C5,C6,C7,C8,C9,D0,D1,D2,D3,D4,D5,D6,D7,A3]
theorem Yfh {l:List Int} {i:Nat} (h:i<l.length):(N6 l)[i]? = some (.int .i64 (l.getD i 0)):=by
  unfold N6
  rw [List.getElem?_map,List.getElem?_eq_getElem h]
  simp [List.getD,h]
theorem Zaj:∀ l:List Int,flats (N6 l)=true:=by
  intro l;induction l with
  | nil=>rfl
  | cons a l ih=>show flats (.int .i64 a::N6 l)=true;simp [flats,L9,ih]
theorem Z8:∀ l:List Int,refsOfs (N6 l)=[]:=by
  intro l;induction l with
  | nil=>rfl
  | cons a l ih=>show refsOfs (.int .i64 a::N6 l)=[];simp [refsOfs,X1,ih]
theorem Zc4 (f:Site→Nat→Option (Site × Nat)):∀ l:List Int,rens f (N6 l)=N6 l:=fun l=>rens_flats _ (Zaj l)
theorem Yfi {l:List Int} (hl:l.length≤1000000):∀ (m i:Nat) (w:Int),i+m=l.length →
    X E [.tmp 2] (.c L.E8.x0::.lp [3,6,7,8] L.E8.x0::.blk 0::[.c L.E8.r0]) ⟨[(3,.int .i64 w),(6,.lst (N6 l) l.length),(7,.int .i64 l.length),(8,.int .i64 i)],[]⟩=some (.int .i64 ((l.drop i).foldl Zlc w),[]):=by
  intro m
  induction m with
  | zero =>
    intro i w h
    obtain rfl:i=l.length:=by omega
    rw [K4 L.E8.x0.eq_1,List.drop_length]
    simp -dsimp (disch:=first|omega|(simp only [A4,A2,A8]<;>omega)|fail) only [go_sem,reduceIte,reduceCtorEq,B9,C0,C1,C2,C3,C4,C5,C6,C7,C8,C9,D0,D1,D2,D3,D4,D5,D6,D7,A3,L.E8.r0,Zaj,Z8,Zc4]
    rfl
  | succ m ih =>
    intro i w h
    have hlt:i<l.length:=by omega
    have h1:=ih (i+1) (Zlc w (l.getD i 0)) (by omega)
    simp only [Ypo,Ypi] at h1
    have hg:=Yfh hlt
    rw [K4 L.E8.x0.eq_1,Ypa hlt,List.foldl_cons,show l[i]=l.getD i 0 by simp [List.getD,hlt]]
    generalize l.getD i 0=e at *
    unfold Zlc at h1 ⊢
    by_cases e0:e=0
    · subst e0
      rw [if_neg (by simp)] at h1 ⊢
      simp -dsimp (disch:=first|omega|(simp only [A4,A2,A8]<;>omega)|fail) only [go_sem,reduceIte,reduceCtorEq,B9,C0,C1,C2,C3,C4,C5,C6,C7,C8,C9,D0,D1,D2,D3,D4,D5,D6,D7,A3,Zaj,Z8,Zc4,hg,h1]
    · by_cases w0:w=0
      · subst w0
        rw [if_pos (by simp [e0])] at h1 ⊢
        simp -dsimp (disch:=first|omega|(simp only [A4,A2,A8]<;>omega)|fail) only [go_sem,reduceIte,reduceCtorEq,B9,C0,C1,C2,C3,C4,C5,C6,C7,C8,C9,D0,D1,D2,D3,D4,D5,D6,D7,A3,Zaj,Z8,Zc4,hg,h1,e0]
      · by_cases lt:e<w
        · rw [if_pos (by simp [e0,lt])] at h1 ⊢
          simp -dsimp (disch:=first|omega|(simp only [A4,A2,A8]<;>omega)|fail) only [go_sem,reduceIte,reduceCtorEq,B9,C0,C1,C2,C3,C4,C5,C6,C7,C8,C9,D0,D1,D2,D3,D4,D5,D6,D7,A3,Zaj,Z8,Zc4,hg,h1,e0,w0,lt]
        · rw [if_neg (by simp [e0,lt,w0])] at h1 ⊢
          simp -dsimp (disch:=first|omega|(simp only [A4,A2,A8]<;>omega)|fail) only [go_sem,reduceIte,reduceCtorEq,B9,C0,C1,C2,C3,C4,C5,C6,C7,C8,C9,D0,D1,D2,D3,D4,D5,D6,D7,A3,Zaj,Z8,Zc4,hg,h1,e0,w0,lt]
theorem Zi5 {l:List Int} (hl:l.length≤1000000):S E F.E8 [.lst (N6 l) l.length] []=some (.int .i64 (Zcz l),[]):=by
  have h:=Yfi hl l.length 0 0 (by omega)
  simp only [Ypi,Yoq] at h
  rw [S_of Zre rfl rfl]
  simp -dsimp (disch:=first|omega|(simp only [A4,A2,A8]<;>omega)|fail) only [L.E8,go_sem,reduceIte,reduceCtorEq,B9,C0,C1,C2,C3,C4,C5,C6,C7,C8,C9,D0,D1,D2,D3,D4,D5,D6,D7,A3,Zaj,Z8,Zc4,h]
  rfl
end Cod
namespace Cod
open Go
theorem Zhn (x:Int):IntKind.u32.wrap x=x%4294967296:=by
  simp only [IntKind.wrap,IntKind.signed,IntKind.bits]
  simp
theorem Ze4 (a:BitVec 32):BitVec.ofInt 32 (a.toNat:Int)=a:=by
  apply BitVec.eq_of_toNat_eq
  rw [Yph]
  have:=a.isLt
  omega
theorem Ze5 (a:BitVec 32):(a.toNat:Int)<4294967296:=by have:=a.isLt;omega
theorem w_add (a b:BitVec 32):H8 .add (W a) (W b)=some (W (a+b)):=by
  simp only [W,Z3j,Zhn,BitVec.toNat_add]
  simp
theorem w_and (a b:BitVec 32):H8 .and (W a) (W b)=some (W (a &&& b)):=by
  rw [W,W,Z3k,Zzw]
  show some (AV.int .u32 (IntKind.u32.wrap (((BitVec.ofInt 32 (a.toNat:Int)) &&& (BitVec.ofInt 32 (b.toNat:Int))).toNat:Int)))=some (AV.int .u32 ((a &&& b).toNat:Int))
  rw [Ze4,Ze4,Zhn,Ypp (by omega) (Ze5 _)]
theorem w_or (a b:BitVec 32):H8 .or (W a) (W b)=some (W (a ||| b)):=by
  rw [W,W,Ydg,ior]
  show some (AV.int .u32 (IntKind.u32.wrap (((BitVec.ofInt 32 (a.toNat:Int)) ||| (BitVec.ofInt 32 (b.toNat:Int))).toNat:Int)))=some (AV.int .u32 ((a ||| b).toNat:Int))
  rw [Ze4,Ze4,Zhn,Ypp (by omega) (Ze5 _)]
theorem w_xor (a b:BitVec 32):H8 .xor (W a) (W b)=some (W (a ^^^ b)):=by
  rw [W,W,Z3l,ixor]
  show some (AV.int .u32 (IntKind.u32.wrap (((BitVec.ofInt 32 (a.toNat:Int)) ^^^ (BitVec.ofInt 32 (b.toNat:Int))).toNat:Int)))=some (AV.int .u32 ((a ^^^ b).toNat:Int))
  rw [Ze4,Ze4,Zhn,Ypp (by omega) (Ze5 _)]
theorem w_not (a:BitVec 32):Zpx .xor (W a)=some (W (~~~a)):=by
  rw [W,Yds,inot]
  show some (AV.int .u32 (IntKind.u32.wrap (((BitVec.allOnes 32) ^^^ (BitVec.ofInt 32 (a.toNat:Int))).toNat:Int)))=some (AV.int .u32 ((~~~a).toNat:Int))
  rw [Ze4,BitVec.allOnes_xor,Zhn,Ypp (by omega) (Ze5 _)]
theorem w_shl' (a:BitVec 32) (k:IntKind) (n:Nat):H8 .shl (W a) (.int k (n:Int))=some (W (a <<< n)):=by
  rw [W,Z3m (by omega),Zzx]
  show some (AV.int .u32 (IntKind.u32.wrap ((a.toNat:Int)*2^(Nat.min n 32))))=some (AV.int .u32 ((a <<< n).toNat:Int))
  rw [Zhn,BitVec.toNat_shiftLeft,Nat.shiftLeft_eq]
  by_cases h:n≤32
  · rw [show Nat.min n 32=n from Yo0 h,Int.natCast_emod,Int.natCast_mul,Ypq]
    rfl
  · rw [show Nat.min n 32=32 from Ypr (by omega)]
    obtain ⟨m,rfl⟩:∃ m,n=32+m:=⟨n-32,by omega⟩
    have h1:a.toNat*2^(32+m)%2^32=0:=by
      rw [Nat.pow_add,←Nat.mul_assoc,Nat.mul_right_comm]
      exact Nat.mul_mod_left _ _
    rw [h1]
    have h2:(a.toNat:Int)*2^32%4294967296=0:=by omega
    rw [h2];rfl
theorem w_shr' (a:BitVec 32) (k:IntKind) (n:Nat):H8 .shr (W a) (.int k (n:Int))=some (W (a >>> n)):=by
  rw [W,Z3n (by omega),Zvd]
  show some (AV.int .u32 ((a.toNat:Int).fdiv (2^(Nat.min n 32))))=some (AV.int .u32 ((a >>> n).toNat:Int))
  rw [BitVec.toNat_ushiftRight,Nat.shiftRight_eq_div_pow]
  have key:∀ m:Nat,((a.toNat:Int)).fdiv (2^m)=((a.toNat/2^m:Nat):Int):=by
    intro m
    rw [Int.fdiv_eq_ediv_of_nonneg _ (Int.le_of_lt (Int.pow_pos (by omega))),Int.natCast_ediv,Ypq]
    rfl
  rw [key]
  by_cases h:n≤32
  · rw [show Nat.min n 32=n from Yo0 h]
  · rw [show Nat.min n 32=32 from Ypr (by omega)]
    have h1:a.toNat/2^32=0:=Yps a.isLt
    have h2:a.toNat/2^n=0:=Yps (Nat.lt_of_lt_of_le a.isLt (Nat.pow_le_pow_right (by omega) (by omega)))
    rw [h1,h2]
theorem w_shl (a:BitVec 32) (k:IntKind) (n:Int) (h:0≤n):H8 .shl (W a) (.int k n)=some (W (a <<< n.toNat)):=by
  obtain ⟨m,rfl⟩:=Ypt h
  rw [w_shl'];rfl
theorem w_shr (a:BitVec 32) (k:IntKind) (n:Int) (h:0≤n):H8 .shr (W a) (.int k n)=some (W (a >>> n.toNat)):=by
  obtain ⟨m,rfl⟩:=Ypt h
  rw [w_shr'];rfl
theorem Z8c (n:Nat):zer (.int .u32 0) n=F1 (List.replicate n 0):=by simp [zer,F1,W]
theorem Zwx (l:List (BitVec 32)):flats (F1 l)=true:=by
  induction l with
  | nil=>rfl
  | cons x l ih=>simpa [F1,flats,L9,W] using ih
theorem Zwy (l:List (BitVec 32)):I7 (F1 l)=true:=by
  induction l with
  | nil=>rfl
  | cons x l ih=>simpa [F1,I7,R1,W] using ih
theorem Zsy (l:List (BitVec 32)):leadss (F1 l)=false:=by
  induction l with
  | nil=>rfl
  | cons x l ih=>simpa [F1,leadss,Q3,W] using ih
theorem Zsz (l:List (BitVec 32)):refsOfs (F1 l)=[]:=by
  induction l with
  | nil=>rfl
  | cons x l ih=>simpa [F1,refsOfs,X1,W] using ih
theorem Z1l (f:Site→Nat→Option (Site × Nat)) (l:List (BitVec 32)):rens f (F1 l)=F1 l:=by
  induction l with
  | nil=>rfl
  | cons x l ih=>simpa [F1,rens,ren,W] using ih
theorem Z8d {l:List (BitVec 32)} {i:Nat} (h:i<l.length):(F1 l)[i]? = some (W (l.getD i 0)):=by simp [F1,h]
theorem Z1m {l:List (BitVec 32)} {i:Nat} {x:BitVec 32} (h:i<l.length):over (F1 l) i [W x]=F1 (l.set i x):=by
  unfold over F1
  rw [Ypg,List.map_set,List.set_eq_take_append_cons_drop,if_pos (by simpa using h)]
  simp
theorem Z1n (l:List (BitVec 32)) (n:Nat):(F1 l).take n=F1 (l.take n):=by simp [F1,List.map_take]
theorem Z1o (l:List (BitVec 32)) (n:Nat):(F1 l).drop n=F1 (l.drop n):=by simp [F1,List.map_drop]
theorem Z8e (l:List (BitVec 32)) (i n:Nat):sub (F1 l) i n=F1 (sub l i n):=by simp [sub,F1,List.map_drop,List.map_take]
theorem Zs0 {l m:List (BitVec 32)} (h:m.length=l.length):over (F1 l) 0 (F1 m)=F1 m:=by
  unfold over;exact Zgp (by rw [Zcw,Zcw,h])
theorem hard_W (x:BitVec 32):R1 (W x)=true:=rfl
theorem flat_W (x:BitVec 32):L9 (W x)=true:=rfl
theorem Yfj (x:BitVec 32):X1 (W x)=[]:=rfl
theorem Ylj (x:BitVec 32):Q3 (W x)=false:=rfl
theorem ren_W (f:Site→Nat→Option (Site × Nat)) (x:BitVec 32):ren f (W x)=W x:=rfl
theorem view_W (x:BitVec 32):Zbx (W x)=.ret (W x,[]):=rfl
theorem Ylk (x:BitVec 32):V4 (W x)=.ret (W x,[]):=rfl
theorem Yfk (x:BitVec 32):I6 (W x)=some [W x]:=rfl
def bw (l:List UInt8) (i:Nat):BitVec 32:=BitVec.ofNat 32 (l.getD i 0).toNat
theorem cvi_bw (l:List UInt8) (i:Nat):Zpz .u32 (.int .u8 (bat l i))=.ret (W (bw l i),[]):=by
  have h:=(l.getD i 0).toNat_lt
  have:IntKind.u32.wrap (bat l i)=((bw l i).toNat:Int):=by
    rw [Zhn];unfold bat bw
    rw [BitVec.toNat_ofNat]
    omega
  rw [Zmo,this];rfl
def wb (x:BitVec 32):UInt8:=UInt8.ofNat x.toNat
theorem cvi_wb (x:BitVec 32):Zpz .u8 (W x)=.ret (.int .u8 ((wb x).toNat:Int),[]):=by
  have:IntKind.u8.wrap (x.toNat:Int)=((wb x).toNat:Int):=by
    rw [Zew];unfold wb
    simp
  rw [W,Zmo,this]
theorem WDs:(∀ (l:List (BitVec 32)) (n:Nat),(F1 l).take n=F1 (l.take n))∧(∀ (l:List (BitVec 32)) (n:Nat),(F1 l).drop n=F1 (l.drop n))∧(∀ (l:List (BitVec 32)) (i n:Nat),sub (F1 l) i n=F1 (sub l i n))∧(∀ l m:List (BitVec 32),m.length=l.length→over (F1 l) 0 (F1 m)=F1 m)∧(∀ n:Nat,zer (.int .u32 0) n=F1 (List.replicate n 0))∧(∀ a b:BitVec 32,H8 .add (W a) (W b)=some (W (a+b)))∧(∀ a b:BitVec 32,H8 .and (W a) (W b)=some (W (a &&& b)))∧(∀ a b:BitVec 32,H8 .or (W a) (W b)=some (W (a ||| b)))∧(∀ a b:BitVec 32,H8 .xor (W a) (W b)=some (W (a ^^^ b)))∧(∀ a:BitVec 32,Zpx .xor (W a)=some (W (~~~a)))∧(∀ (a:BitVec 32) (k:IntKind) (n:Int),0≤n→H8 .shl (W a) (.int k n)=some (W (a <<< n.toNat)))∧(∀ (a:BitVec 32) (k:IntKind) (n:Int),0≤n→H8 .shr (W a) (.int k n)=some (W (a >>> n.toNat)))∧(∀ l:List (BitVec 32),flats (F1 l)=true)∧(∀ l:List (BitVec 32),I7 (F1 l)=true)∧(∀ l:List (BitVec 32),leadss (F1 l)=false)∧(∀ l:List (BitVec 32),refsOfs (F1 l)=[])∧(∀ (f:Site→Nat→Option (Site × Nat)) (l:List (BitVec 32)),rens f (F1 l)=F1 l)∧(∀ l:List (BitVec 32),(F1 l).length=l.length)∧(∀ (l:List (BitVec 32)) (i:Nat),i<l.length→(F1 l)[i]? = some (W (l.getD i 0)))∧(∀ (l:List (BitVec 32)) (i:Nat) (x:BitVec 32),i<l.length→over (F1 l) i [W x]=F1 (l.set i x))∧(∀ x:BitVec 32,R1 (W x)=true)∧(∀ x:BitVec 32,L9 (W x)=true)∧(∀ x:BitVec 32,X1 (W x)=[])∧(∀ x:BitVec 32,Q3 (W x)=false)∧(∀ (f:Site→Nat→Option (Site × Nat)) (x:BitVec 32),ren f (W x)=W x)∧(∀ x:BitVec 32,Zbx (W x)=.ret (W x,[]))∧(∀ x:BitVec 32,V4 (W x)=.ret (W x,[]))∧(∀ x:BitVec 32,I6 (W x)=some [W x])∧(∀ (l:List UInt8) (i:Nat),Zpz .u32 (.int .u8 (bat l i))=.ret (W (bw l i),[]))∧(∀ x:BitVec 32,Zpz .u8 (W x)=.ret (.int .u8 ((wb x).toNat:Int),[])) :=
  ⟨Z1n,Z1o,Z8e,fun _ _ h=>Zs0 h,Z8c,w_add,w_and,w_or,w_xor,w_not,w_shl,w_shr,Zwx,Zwy,Zsy,Zsz,Z1l,Zcw,fun _ _ h=>Z8d h,fun _ _ _ h=>Z1m h,hard_W,flat_W,Yfj,Ylj,ren_W,view_W,Ylk,Yfk,cvi_bw,cvi_wb⟩
end Cod
namespace Cod
open Go
def Zdj (x:BitVec 32) (n:Nat):BitVec 32:=x >>> n ||| x <<< (32-n)
theorem Zdz {x:BitVec 32} {k:Int} {n:Nat} (hn:n≤32) (hk:Zzw .u64 (IntKind.u64.wrap k) 31=((32-n:Nat):Int)) :
    S E F.F3 [W x,.int .i64 k] []=some (W (Zdj x n),[]):=by
  have h1:IntKind.u64.wrap (32-((32-n:Nat):Int))=(n:Int):=by
    simp only [IntKind.wrap,IntKind.signed,IntKind.bits]
    simp
    omega
  rw [S_of Zrv rfl rfl]
  simp (disch:=omega) only [L.F3,go_sem,reduceIte,reduceCtorEq,B9,C0,C1,C2,C3,C4,C5,C6,C7,C8,C9,D0,D1,D2,D3,D4,D5,D6,D7,A3,WDs,hk,h1]
  rw [Zdj,BitVec.or_comm]
theorem rot_7 {x:BitVec 32}:S E F.F3 [W x,.int .i64 (-7)] []=some (W (Zdj x 7),[]):=Zdz (by omega) (by decide)
theorem rot_18 {x:BitVec 32}:S E F.F3 [W x,.int .i64 (-18)] []=some (W (Zdj x 18),[]):=Zdz (by omega) (by decide)
theorem rot_17 {x:BitVec 32}:S E F.F3 [W x,.int .i64 (-17)] []=some (W (Zdj x 17),[]):=Zdz (by omega) (by decide)
theorem rot_19 {x:BitVec 32}:S E F.F3 [W x,.int .i64 (-19)] []=some (W (Zdj x 19),[]):=Zdz (by omega) (by decide)
theorem rot_6 {x:BitVec 32}:S E F.F3 [W x,.int .i64 (-6)] []=some (W (Zdj x 6),[]):=Zdz (by omega) (by decide)
theorem rot_11 {x:BitVec 32}:S E F.F3 [W x,.int .i64 (-11)] []=some (W (Zdj x 11),[]):=Zdz (by omega) (by decide)
theorem rot_25 {x:BitVec 32}:S E F.F3 [W x,.int .i64 (-25)] []=some (W (Zdj x 25),[]):=Zdz (by omega) (by decide)
theorem rot_2 {x:BitVec 32}:S E F.F3 [W x,.int .i64 (-2)] []=some (W (Zdj x 2),[]):=Zdz (by omega) (by decide)
theorem rot_13 {x:BitVec 32}:S E F.F3 [W x,.int .i64 (-13)] []=some (W (Zdj x 13),[]):=Zdz (by omega) (by decide)
theorem rot_22 {x:BitVec 32}:S E F.F3 [W x,.int .i64 (-22)] []=some (W (Zdj x 22),[]):=Zdz (by omega) (by decide)
def word4 (b:List UInt8) (i:Nat):BitVec 32:=bw b (4*i) <<< 24 ||| bw b (4*i+1) <<< 16 ||| bw b (4*i+2) <<< 8 ||| bw b (4*i+3)
def Zk3 (b:List UInt8):Nat→Nat→List (BitVec 32)→List (BitVec 32)
  | 0,_,ws=>ws
  | m+1,i,ws=>Zk3 b m (i+1) (ws.set i (word4 b i))
def sig0 (x:BitVec 32):BitVec 32:=Zdj x 7 ^^^ Zdj x 18 ^^^ x >>> 3
def sig1 (y:BitVec 32):BitVec 32:=Zdj y 17 ^^^ Zdj y 19 ^^^ y >>> 10
def sched (ws:List (BitVec 32)) (i:Nat):BitVec 32:=ws.getD (i-16) 0+sig0 (ws.getD (i-15) 0)+ws.getD (i-7) 0+sig1 (ws.getD (i-2) 0)
def Zm4:Nat→Nat→List (BitVec 32)→List (BitVec 32)
  | 0,_,ws=>ws
  | m+1,i,ws=>Zm4 m (i+1) (ws.set i (sched ws i))
theorem Zi6 (b:List UInt8):∀ m i ws,(Zk3 b m i ws).length=ws.length:=by
  intro m
  induction m with
  | zero=>intro i ws;rfl
  | succ m ih=>intro i ws;simp [Zk3,ih]
theorem Zs1:∀ m i ws,(Zm4 m i ws).length=ws.length:=by
  intro m
  induction m with
  | zero=>intro i ws;rfl
  | succ m ih=>intro i ws;simp [Zm4,ih]
theorem Yfl {h:List (BitVec 32)} {b:List UInt8} (hh:h.length=8) (hb:b.length=64) (k:List It):∀ (m i:Nat) (ws:List (BitVec 32)),i+m=16→ws.length=64 →
    X E [.cell 4 (some 8)] (.c L.E6.x0::.lp [2,3,4,5,23] L.E6.x0::.blk 0::k) ⟨[(2,.ref (.s 1000000 0) 0 0),(3,.ref (.s 1000000 1) 0 0),(4,.ref (.s 1000000 2) 0 0),(5,.ref (.s 1000000 3) 0 0),(23,.int .i64 i)],[(.s 1000000 0,⟨0,true,true,true,F1 h⟩),(.s 1000000 1,⟨0,true,true,true,A0 b⟩),(.s 1000000 2,⟨0,true,true,true,F1 (List.replicate 8 0)⟩),(.s 1000000 3,⟨0,true,true,true,F1 ws⟩)]⟩=X E [.cell 4 (some 8)] k ⟨[(2,.ref (.s 1000000 0) 0 0),(3,.ref (.s 1000000 1) 0 0),(4,.ref (.s 1000000 2) 0 0),(5,.ref (.s 1000000 3) 0 0),(23,.int .i64 16),(24,.bool false)],[(.s 1000000 0,⟨0,true,true,true,F1 h⟩),(.s 1000000 1,⟨0,true,true,true,A0 b⟩),(.s 1000000 2,⟨0,true,true,true,F1 (List.replicate 8 0)⟩),(.s 1000000 3,⟨0,true,true,true,F1 (Zk3 b m i ws)⟩)]⟩:=by
  intro m
  induction m with
  | zero =>
    intro i ws h1 h2
    obtain rfl:i=16:=by omega
    rw [K4 L.E6.x0.eq_1]
    simp (disch:=omega) only [go_sem,reduceIte,reduceCtorEq,B9,C0,C1,C2,C3,C4,C5,C6,C7,C8,C9,D0,D1,D2,D3,D4,D5,D6,D7,A3,B7,B6,B5,WDs,BYs,Zk3,Ypi]
  | succ m ih =>
    intro i ws h1 h2
    have e0:(4*(i:Int)).toNat=4*i:=by omega
    have e1:(4*(i:Int)+1).toNat=4*i+1:=by omega
    have e2:(4*(i:Int)+2).toNat=4*i+2:=by omega
    have e3:(4*(i:Int)+3).toNat=4*i+3:=by omega
    rw [K4 L.E6.x0.eq_1]
    simp (disch:=omega) only [go_sem,reduceIte,reduceCtorEq,B9,C0,C1,C2,C3,C4,C5,C6,C7,C8,C9,D0,D1,D2,D3,D4,D5,D6,D7,A3,B7,B6,B5,WDs,BYs,Zk3,e0,e1,e2,e3]
    have:=ih (i+1) (ws.set i (word4 b i)) (by omega) (by simpa using h2)
    simp only [Ypo,Ypi] at this
    exact this
theorem Yfm {h:List (BitVec 32)} (hh:h.length=8) (k:List It):∀ (m i:Nat) (ws:List (BitVec 32)),i+m=64→16≤i→ws.length=64 →
    X E [.cell 4 (some 8)] (.c L.E6.x1::.lp [2,4,5,7] L.E6.x1::.blk 2::k) ⟨[(2,.ref (.s 1000000 0) 0 0),(4,.ref (.s 1000000 1) 0 0),(5,.ref (.s 1000000 2) 0 0),(7,.int .i64 i)],[(.s 1000000 0,⟨0,true,true,true,F1 h⟩),(.s 1000000 1,⟨0,true,true,true,F1 (List.replicate 8 0)⟩),(.s 1000000 2,⟨0,true,true,true,F1 ws⟩)]⟩=X E [.cell 4 (some 8)] k ⟨[(2,.ref (.s 1000000 0) 0 0),(4,.ref (.s 1000000 1) 0 0),(5,.ref (.s 1000000 2) 0 0),(7,.int .i64 64),(59,.bool false)],[(.s 1000000 0,⟨0,true,true,true,F1 h⟩),(.s 1000000 1,⟨0,true,true,true,F1 (List.replicate 8 0)⟩),(.s 1000000 2,⟨0,true,true,true,F1 (Zm4 m i ws)⟩)]⟩:=by
  intro m
  induction m with
  | zero =>
    intro i ws h1 h0 h2
    obtain rfl:i=64:=by omega
    rw [K4 L.E6.x1.eq_1]
    simp (disch:=omega) only [go_sem,reduceIte,reduceCtorEq,B9,C0,C1,C2,C3,C4,C5,C6,C7,C8,C9,D0,D1,D2,D3,D4,D5,D6,D7,A3,B7,B6,B5,WDs,BYs,Zm4,Ypi]
  | succ m ih =>
    intro i ws h1 h0 h2
    have e0:((i:Int)-16).toNat=i-16:=by omega
    have e1:((i:Int)-15).toNat=i-15:=by omega
    have e2:((i:Int)-7).toNat=i-7:=by omega
    have e3:((i:Int)-2).toNat=i-2:=by omega
    rw [K4 L.E6.x1.eq_1]
    simp (disch:=omega) only [go_sem,reduceIte,reduceCtorEq,B9,C0,C1,C2,C3,C4,C5,C6,C7,C8,C9,D0,D1,D2,D3,D4,D5,D6,D7,A3,B7,B6,B5,WDs,BYs,Zm4,e0,e1,e2,e3,rot_7,rot_18,rot_17,rot_19]
    have:=ih (i+1) (ws.set i (sched ws i)) (by omega) (by omega) (by simpa using h2)
    simp only [Ypo,Ypi] at this
    exact this
structure S8 where
  a:BitVec 32
  b:BitVec 32
  c:BitVec 32
  d:BitVec 32
  e:BitVec 32
  f:BitVec 32
  g:BitVec 32
  h:BitVec 32
def su1 (e:BitVec 32):BitVec 32:=Zdj e 6 ^^^ Zdj e 11 ^^^ Zdj e 25
def su0 (a:BitVec 32):BitVec 32:=Zdj a 2 ^^^ Zdj a 13 ^^^ Zdj a 22
def rndU (k w:BitVec 32) (s:S8):BitVec 32:=s.h+su1 s.e+(s.e &&& s.f ||| ~~~s.e &&& s.g)+k+w
def rndV (s:S8):BitVec 32:=su0 s.a+(s.a &&& s.b ^^^ s.a &&& s.c ^^^ s.b &&& s.c)
def rnd (k w:BitVec 32) (s:S8):S8:=⟨rndU k w s+rndV s,s.a,s.b,s.c,s.d+rndU k w s,s.e,s.f,s.g⟩
def Zka (ws:List (BitVec 32)):Nat→Nat→S8→S8
  | 0,_,s=>s
  | m+1,i,s=>Zka ws m (i+1) (rnd (Zsm.getD i 0) (ws.getD i 0) s)
def S8.of (h:List (BitVec 32)):S8:=⟨h.getD 0 0,h.getD 1 0,h.getD 2 0,h.getD 3 0,h.getD 4 0,h.getD 5 0,h.getD 6 0,h.getD 7 0⟩
def S8.plus (h:List (BitVec 32)) (s:S8):List (BitVec 32):=[h.getD 0 0+s.a,h.getD 1 0+s.b,h.getD 2 0+s.c,h.getD 3 0+s.d,h.getD 4 0+s.e,h.getD 5 0+s.f,h.getD 6 0+s.g,h.getD 7 0+s.h]
def msch (b:List UInt8):List (BitVec 32):=Zm4 48 16 (Zk3 b 16 0 (List.replicate 64 0))
def Zkb (h:List (BitVec 32)) (b:List UInt8):List (BitVec 32):=S8.plus h (Zka (msch b) 64 0 (S8.of h))
theorem Zwz (b:List UInt8):(msch b).length=64:=by rw [msch,Zs1,Zi6];simp
theorem Zbc (h:List (BitVec 32)) (b:List UInt8):(Zkb h b).length=8:=rfl
theorem Zw0:Zsm.length=64:=rfl
theorem Yfn {h ws:List (BitVec 32)} (hh:h.length=8) (hw:ws.length=64) (k:List It):∀ (m i:Nat) (s:S8),i+m=64 →
    X E [.cell 4 (some 8)] (.c L.E6.x2::.lp [2,4,5,12,13,14,15,16,17,18,19,117] L.E6.x2::.blk 4::k) ⟨[(2,.ref (.s 1000000 0) 0 0),(4,.ref (.s 1000000 1) 0 0),(5,.ref (.s 1000000 2) 0 0),(12,W s.a),(13,W s.b),(14,W s.c),(15,W s.d),(16,W s.e),(17,W s.f),(18,W s.g),(19,W s.h),(117,.int .i64 i)],[(.s 1000000 0,⟨0,true,true,true,F1 h⟩),(.s 1000000 1,⟨0,true,true,true,F1 (List.replicate 8 0)⟩),(.s 1000000 2,⟨0,true,true,true,F1 ws⟩)]⟩=X E [.cell 4 (some 8)] k ⟨[(2,.ref (.s 1000000 0) 0 0),(4,.ref (.s 1000000 1) 0 0),(5,.ref (.s 1000000 2) 0 0),(12,W (Zka ws m i s).a),(13,W (Zka ws m i s).b),(14,W (Zka ws m i s).c),(15,W (Zka ws m i s).d),(16,W (Zka ws m i s).e),(17,W (Zka ws m i s).f),(18,W (Zka ws m i s).g),(19,W (Zka ws m i s).h),(117,.int .i64 64),(118,.bool false)],[(.s 1000000 0,⟨0,true,true,true,F1 h⟩),(.s 1000000 1,⟨0,true,true,true,F1 (List.replicate 8 0)⟩),(.s 1000000 2,⟨0,true,true,true,F1 ws⟩)]⟩:=by
  intro m
  have hk:=Zw0
  induction m with
  | zero =>
    intro i s h1
    obtain rfl:i=64:=by omega
    rw [K4 L.E6.x2.eq_1]
    simp (disch:=omega) only [go_sem,reduceIte,reduceCtorEq,B9,C0,C1,C2,C3,C4,C5,C6,C7,C8,C9,D0,D1,D2,D3,D4,D5,D6,D7,A3,B7,B6,B5,WDs,BYs,Zka,Ypi]
  | succ m ih =>
    intro i s h1
    rw [K4 L.E6.x2.eq_1]
    simp (disch:=omega) only [go_sem,reduceIte,reduceCtorEq,B9,C0,C1,C2,C3,C4,C5,C6,C7,C8,C9,D0,D1,D2,D3,D4,D5,D6,D7,A3,B7,B6,B5,WDs,BYs,Zka,glob_k,rot_6,rot_11,rot_25,rot_2,rot_13,rot_22]
    have:=ih (i+1) (rnd (Zsm.getD i 0) (ws.getD i 0) s) (by omega)
    simp only [Ypo,Ypi] at this
    exact this
theorem Yfo {h ws:List (BitVec 32)} (hh:h.length=8) (R:S8):X E [.cell 4 (some 8)] [.c L.E6.r2] ⟨[(2,.ref (.s 1000000 0) 0 0),(4,.ref (.s 1000000 1) 0 0),(5,.ref (.s 1000000 2) 0 0),(12,W R.a),(13,W R.b),(14,W R.c),(15,W R.d),(16,W R.e),(17,W R.f),(18,W R.g),(19,W R.h),(117,.int .i64 64),(118,.bool false)],[(.s 1000000 0,⟨0,true,true,true,F1 h⟩),(.s 1000000 1,⟨0,true,true,true,F1 (List.replicate 8 0)⟩),(.s 1000000 2,⟨0,true,true,true,F1 ws⟩)]⟩=some (.agg (F1 (S8.plus h R)),[]):=by
  simp -dsimp (disch:=first|omega|(simp only [A4]<;>omega)|fail) only [L.E6.r2,go_sem,reduceIte,reduceCtorEq,B9,C0,C1,C2,C3,C4,C5,C6,C7,C8,C9,D0,D1,D2,D3,D4,D5,D6,D7,A3,B7,B6,B5,WDs,BYs,List.length_replicate,Ype]
  rfl
theorem Yfp {h ws:List (BitVec 32)} (hh:h.length=8) (hw:ws.length=64):X E [.cell 4 (some 8)] [.c L.E6.r1] ⟨[(2,.ref (.s 1000000 0) 0 0),(4,.ref (.s 1000000 1) 0 0),(5,.ref (.s 1000000 2) 0 0),(7,.int .i64 64),(59,.bool false)],[(.s 1000000 0,⟨0,true,true,true,F1 h⟩),(.s 1000000 1,⟨0,true,true,true,F1 (List.replicate 8 0)⟩),(.s 1000000 2,⟨0,true,true,true,F1 ws⟩)]⟩=some (.agg (F1 (S8.plus h (Zka ws 64 0 (S8.of h)))),[]):=by
  rw [←Yfo (ws:=ws) hh]
  have:=Yfn hh hw [.c L.E6.r2] 64 0 (S8.of h) (by omega)
  simp only [Ypi] at this
  rw [←this]
  simp -dsimp (disch:=first|omega|(simp only [A4]<;>omega)|fail) only [L.E6.r1,go_sem,reduceIte,reduceCtorEq,B9,C0,C1,C2,C3,C4,C5,C6,C7,C8,C9,D0,D1,D2,D3,D4,D5,D6,D7,A3,B7,B6,B5,WDs,BYs,S8.of]
theorem Zw1 {h:List (BitVec 32)} {b:List UInt8} (hh:h.length=8) (hb:b.length=64):S E F.E6 [.agg (F1 h),.agg (A0 b)] []=some (.agg (F1 (Zkb h b)),[]):=by
  have l1:(Zk3 b 16 0 (List.replicate 64 0)).length=64:=by rw [Zi6];simp
  rw [Zkb,←Yfp hh (Zwz b),msch]
  have:=Yfm hh [.c L.E6.r1] 48 16 _ (by omega) (by omega) l1
  simp only [Ypi] at this
  rw [←this]
  rw [S_of Zrl rfl rfl]
  simp -dsimp (disch:=first|omega|(simp only [A4]<;>omega)|fail) only [L.E6,go_sem,reduceIte,reduceCtorEq,B9,C0,C1,C2,C3,C4,C5,C6,C7,C8,C9,D0,D1,D2,D3,D4,D5,D6,D7,A3,B7,B6,B5,WDs,BYs]
  have:=Yfl hh hb [.c L.E6.r0] 16 0 (List.replicate 64 0) (by omega) (by simp)
  simp only [Ypi] at this
  rw [this]
  simp -dsimp (disch:=first|omega|(simp only [A4]<;>omega)|fail) only [L.E6.r0,go_sem,reduceIte,reduceCtorEq,B9,C0,C1,C2,C3,C4,C5,C6,C7,C8,C9,D0,D1,D2,D3,D4,D5,D6,D7,A3,B7,B6,B5,WDs,BYs]
end Cod

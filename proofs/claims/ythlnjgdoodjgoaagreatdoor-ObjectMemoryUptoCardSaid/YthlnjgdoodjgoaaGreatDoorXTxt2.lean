/- What the run knows is so. -/
import Derived.Test.YthlnjgdoodjgoaaGreatDoorRows
import Derived.KernelRfl
import Derived.Test.YthlnjgdoodjgoaaGreatDoorXTxt1
import Derived.Test.YthlnjgdoodjgoaaGreatDoorXShelf1
import Derived.Test.YthlnjgdoodjgoaaGreatDoorXLit3
import Derived.Test.YthlnjgdoodjgoaaGreatDoorXCod1
set_option linter.unusedSimpArgs false
set_option linter.unusedVariables false
open List renaming any_cons → Ysl, contains_cons → Ysm, drop_eq_getElem_cons → Yr9, drop_of_length_le → Yr8, drop_zero → Yrp, flatMap_cons → Yr7, idxOf_cons → Ysc, length_append → Yqx, length_cons → Yqm, length_set → Ysd, length_singleton → Ysf, mem_append → Yse, mem_cons_of_mem → Yra, mem_singleton → Yqo, take_of_length_le → Yqw
open Nat renaming div_eq_of_lt → Ysr, le_refl → Yp6, min_eq_left → Yrz, min_eq_right → Ysq
open Int renaming cast_ofNat_Int → Ysh, emod_eq_of_lt → Yso, eq_ofNat_of_zero_le → Yss, natCast_add → Ysn, natCast_pow → Ysp
open Bool renaming and_assoc → Yq2, and_eq_true → Yql, and_true → Yq5, false_and → Ysk, false_or → Ysj, not_false → Ysb, not_true → Ysa, true_and → Ysi
open Option renaming getD_some → Yre
open BitVec renaming toNat_ofInt → Ysg
open Nat renaming reduceEqDiff → B2, reduceAdd → B3, reduceSub → B4, reduceMul → B5, reduceDiv → B6, reduceMod → B7, reduceBEq → B8, reduceLeDiff → B9, reduceLT → C0
open Int renaming reduceEq → C1, reduceNe → C2, reduceLT → C3, reduceLE → C4, reduceBEq → C5, reduceBNe → C6, reduceToNat → C7, reduceAdd → C8, reduceSub → C9, reduceMul → D0, reduceNeg → A4
namespace Cod
open Go Go.RowKit Go.Proofs Go.Shelf
set_option maxRecDepth 100000
theorem fns_ok:Zl1 Tryz.prog E:=Zno (by kernel_rfl) Z29 (fun _=>rfl)
theorem Z58 {E:Env} (hE:E.glob=X7):∀ p∈Zff,Zg0 Tryz.prog E p.1 p.2:=by
  unfold Zff
  exact Ynz hE
theorem Yhh:Zft Tryz.prog E:=fun f h hf=>Z58 (E:=E) rfl (f,h) (Zg1 (show Zff.lookup f=some h from hf))
theorem Zhr {f:Nat} {fn:Func} {c:Code} (hf:Tryz.prog.funcs[f]? = some fn) (hb:fn.body=some c) (hn:(fn.name == "runtime.NumGoroutine")=false) {args:List AV} {v:AV} (h:S E f args []=some (v,[]))
    {W:World} (hW:Zar W) {vs:List Value} (hv:VRL (ctx [] LaE W) args vs) {y:Value} (hy:∀ c z,VR c v z→z=y):Calls Tryz.prog f vs.toArray W (fun e W'=>e=.returned y∧Below W.heap.size W W'):=by
  have hrel:Rel E W (J3 [] LaE) [] LaE [] LaE W:=⟨⟨fun s e he=>by simp [A9] at he,fun s s' e e' b o o' he=>by simp [A9] at he⟩,Keep.refl _ _,fun b hb=>.inl hb,hW,fun x e he=>by simp [A9] at he,fun b hb=>.inl hb,rfl,fun b hb=>hb.elim⟩
  refine (Zjw hf hb hn (Zib Yhh fns_ok h LaE hrel hv)).mono ?_
  rintro e W' ⟨z,rfl,La',h1,h2⟩
  rw [hy _ _ h2]
  exact ⟨rfl,Z3q h1.keep⟩
end Cod
namespace Cod
open Go Go.Proofs Go.Proofs.YthlnjgdoodjgoaaGreatDoor
set_option maxRecDepth 100000
theorem Zyp {α β:Type} [BEq α] [LawfulBEq α] {a : α} {b : β}:∀ {l:List (α × β)},l.lookup a=some b→(a,b)∈l:=by
  intro l
  induction l with
  | nil=>intro h;simp at h
  | cons x l ih =>
    intro h
    rw [List.lookup_cons] at h
    split at h
    · rename_i he
      rw [beq_iff_eq] at he
      cases h
      rw [he];exact List.mem_cons_self
    · exact Yra _ (ih h)
theorem own:ownKnob Tryz.prog.godebug=none:=by kernel_rfl
theorem Yn0:laidOutB Tryz.prog=true:=by kernel_rfl
theorem Yaq:Tryz.prog.underlying 4=some .bool:=Tryz.underlying4
mutual
theorem Zez {H:Type}:∀ d:DataW H,Rows.uptoBulk d=R3 d
  | .lit (.string _)=>by simp [Rows.uptoBulk,R3]
  | .lit (.bool _)=>by simp [Rows.uptoBulk,R3]
  | .lit (.int _ _)=>by simp [Rows.uptoBulk,R3]
  | .lit (.float _ _)=>by simp [Rows.uptoBulk,R3]
  | .lit .nil=>by simp [Rows.uptoBulk,R3]
  | .nil=>by simp [Rows.uptoBulk,R3]
  | .ptr d=>by simp [Rows.uptoBulk,R3,Zez d]
  | .slice a b=>by simp [Rows.uptoBulk,R3,bulkAll_eq a,bulkAll_eq b]
  | .agg a=>by simp [Rows.uptoBulk,R3,bulkAll_eq a]
  | .iface _ d=>by simp [Rows.uptoBulk,R3,Zez d]
  | .map l=>by simp [Rows.uptoBulk,R3,bulkEntries_eq l]
  | .held _=>by simp [Rows.uptoBulk,R3]
theorem bulkAll_eq {H:Type}:∀ l:List (DataW H),Rows.uptoBulkAll l=dbulkAll l
  | []=>by simp [Rows.uptoBulkAll,dbulkAll]
  | d::r=>by simp [Rows.uptoBulkAll,dbulkAll,Zez d,bulkAll_eq r]
theorem bulkEntries_eq {H:Type}:∀ l:List (Lit × DataW H),Rows.uptoBulkEntries l=dbulkEntries l
  | []=>by simp [Rows.uptoBulkEntries,dbulkEntries]
  | d::r=>by simp [Rows.uptoBulkEntries,dbulkEntries,bulkEntry_eq d,bulkEntries_eq r]
theorem bulkEntry_eq {H:Type}:∀ x:Lit × DataW H,Rows.uptoBulkEntry x=dbulkEntry x
  | (.string _,d)=>by simp [Rows.uptoBulkEntry,dbulkEntry,Zez d]
  | (.bool _,d)=>by simp [Rows.uptoBulkEntry,dbulkEntry,Zez d]
  | (.int _ _,d)=>by simp [Rows.uptoBulkEntry,dbulkEntry,Zez d]
  | (.float _ _,d)=>by simp [Rows.uptoBulkEntry,dbulkEntry,Zez d]
  | (.nil,d)=>by simp [Rows.uptoBulkEntry,dbulkEntry,Zez d]
end
theorem Zuo {H:Type} (a b:List (DataW H)):dbulkAll (a++b)=dbulkAll a+dbulkAll b:=by
  induction a with
  | nil=>simp [dbulkAll]
  | cons x a ih=>simp only [List.cons_append,dbulkAll,ih];omega
theorem Yhi {H:Type} {ds gs:List (DataW H)} (h:Rows.uptoSmall H (ds++gs)=true):dbulkAll ds≤1048576:=by
  simp only [Rows.uptoSmall,decide_eq_true_eq,bulkAll_eq,Zuo] at h
  omega
def Yhj:List Int:=Zug.map fun x=>(x.toNat:Int)
theorem kWords:F4 Zug=Yhj.map fun z=>AV.int .u32 z:=by kernel_rfl
theorem kLaid:(Rows.laid_codicil_sha_k:DataW Unit)=Lib.tabData .u32 Yhj:=by kernel_rfl
theorem gK:Tryz.prog.globalNamed "codicil/sha.k" = some G.Zxz:=by kernel_rfl
theorem Yn1 {W:World} {l:List (String × DataW Unit)} (h:laidMetH Tryz.prog l W) (hm:("codicil/sha.k",Rows.laid_codicil_sha_k)∈l):GV (ctx [] La0 W) G.Zxz (F4 Zug):=by
  rw [kWords]
  exact Zjx (Zex (n:=64) h (kLaid▸hm) gK (by kernel_rfl) (t:=162) (e:=131) (by kernel_rfl) (by kernel_rfl) (by kernel_rfl) (by kernel_rfl)) gK (by simp [Yhj,Zug])
theorem Yhk:(Rows.laid_unicode_asciiFold:DataW Unit)=Lib.tabData .u16 Zms:=by kernel_rfl
theorem gF:Tryz.prog.globalNamed "unicode.asciiFold" = some G.Zdw:=by kernel_rfl
theorem Yhl {W:World} {l:List (String × DataW Unit)} (h:laidMetH Tryz.prog l W) (hm:("unicode.asciiFold",Rows.laid_unicode_asciiFold)∈l):GV (ctx [] La0 W) G.Zdw (Zms.map fun z=>.int .u16 z) :=
  Zjx (Zex (n:=128) h (Yhk▸hm) gF (by kernel_rfl) (t:=209) (e:=208) (by kernel_rfl) (by kernel_rfl) (by kernel_rfl) (by kernel_rfl)) gF (by simp [Zms])
theorem Yn2:(Rows.laid_internal_strconv_uint64pow10:DataW Unit)=Lib.tabData .u64 Lib.pow10Tab:=by kernel_rfl
theorem gP:Tryz.prog.globalNamed "internal/strconv.uint64pow10" = some G.Zca:=by kernel_rfl
theorem Yn3 {W:World} {l:List (String × DataW Unit)} (h:laidMetH Tryz.prog l W) (hm:("internal/strconv.uint64pow10",Rows.laid_internal_strconv_uint64pow10)∈l):GV (ctx [] La0 W) G.Zca (Lib.pow10Tab.map fun z=>.int .u64 z) :=
  Zjx (Zex (n:=20) h (Yn2▸hm) gP (by kernel_rfl) (t:=196) (e:=164) (by kernel_rfl) (by kernel_rfl) (by kernel_rfl) (by kernel_rfl)) gP (by simp [Lib.pow10Tab])
theorem Yhm {W:World} {l:List (String × DataW Unit)} (h:laidMetH Tryz.prog l W) (hm:("strconv.ErrSyntax",Rows.laid_strconv_ErrSyntax)∈l):GV (ctx [] La0 W) G.Zdu [.any none] :=
  Zx6 h hm (by rfl) (by kernel_rfl) (t:=85) (by kernel_rfl) (by kernel_rfl)
theorem Yar {W:World} {l:List (String × DataW Unit)} (h:laidMetH Tryz.prog l W) (hm:("strconv.ErrRange",Rows.laid_strconv_ErrRange)∈l):GV (ctx [] La0 W) G.Zdv [.any none] :=
  Zx6 h hm (by rfl) (by kernel_rfl) (t:=85) (by kernel_rfl) (by kernel_rfl)
theorem Yn4 {W:World} (h:W.ShapedOpen Tryz.prog):GV (ctx [] La0 W) G.Z3 [.any (some .i64)] :=
  Z3e h (of_decide_eq_true (by kernel_rfl)) (by kernel_rfl) (Go.Proofs.cell_of_shapedOpen_int (zero := #[.int .i64 0]) (t:=3) h (of_decide_eq_true (by kernel_rfl)) (by kernel_rfl) rfl (by kernel_rfl) (by kernel_rfl) Tryz.underlying3)
theorem Yn5:(Rows.laid_math_bits_deBruijn64tab:DataW Unit)=Lib.tabData .u8 Zui:=by kernel_rfl
theorem gB:Tryz.prog.globalNamed "math/bits.deBruijn64tab" = some G.Zdx:=by kernel_rfl
theorem Yn6 {W:World} {l:List (String × DataW Unit)} (h:laidMetH Tryz.prog l W) (hm:("math/bits.deBruijn64tab",Rows.laid_math_bits_deBruijn64tab)∈l):GV (ctx [] La0 W) G.Zdx (Zui.map fun z=>.int .u8 z) :=
  Zjx (Zex (n:=64) h (Yn5▸hm) gB (by kernel_rfl) (t:=134) (e:=5) (by kernel_rfl) (by kernel_rfl) (by kernel_rfl) (by kernel_rfl)) gB (by simp [Zui])
theorem Yn7 {W:World} (h:∀ p∈Zmu,GV (ctx [] La0 W) p.1 p.2):Znu E W:=by
  intro n
  show GV _ n (X7 n)
  unfold X7
  cases hl:Zmu.lookup n with
  | none=>exact Yah
  | some l=>exact h _ (Zyp hl)
theorem Yn8 {W:World} {l:List (String × DataW Unit)} (h:laidMetH Tryz.prog l W) (hs:W.ShapedOpen Tryz.prog) (hk:("codicil/sha.k",Rows.laid_codicil_sha_k)∈l) (hf:("unicode.asciiFold",Rows.laid_unicode_asciiFold)∈l) (hp:("internal/strconv.uint64pow10",Rows.laid_internal_strconv_uint64pow10)∈l) (h1:("strconv.ErrSyntax",Rows.laid_strconv_ErrSyntax)∈l) (h2:("strconv.ErrRange",Rows.laid_strconv_ErrRange)∈l) (hb:("math/bits.deBruijn64tab",Rows.laid_math_bits_deBruijn64tab)∈l):Znu E W:=by
  refine Yn7 ?_
  unfold Zmu
  refine List.forall_mem_cons.2 ⟨Yn1 h hk,?_⟩
  refine List.forall_mem_cons.2 ⟨Yhl h hf,?_⟩
  refine List.forall_mem_cons.2 ⟨Yn3 h hp,?_⟩
  refine List.forall_mem_cons.2 ⟨Yhm h h1,?_⟩
  refine List.forall_mem_cons.2 ⟨Yar h h2,?_⟩
  refine List.forall_mem_cons.2 ⟨Yn4 hs,?_⟩
  refine List.forall_mem_cons.2 ⟨Yn6 h hb,?_⟩
  exact fun p h=>nomatch h
end Cod
namespace Cod
open Go
theorem Zj3:∀ {r:List (List AV)},(∀ x∈r,Wf (.int .u8) x)→∃ l:List UInt8,r.flatten=A1 l∧l.length=r.length:=by
  intro r
  induction r with
  | nil=>intro _;exact ⟨[],rfl,rfl⟩
  | cons x r ih =>
    intro h
    obtain ⟨l,h1,h2⟩:=ih fun y hy=>h y (Yra _ hy)
    obtain ⟨n,rfl,hn⟩:=h x (by simp)
    simp [Lit.wf,IntKind.min,IntKind.max,IntKind.signed,IntKind.bits] at hn
    refine ⟨byt n::l,?_,by simp [h2]⟩
    rw [List.flatten_cons,h1,Zmr (by omega) (by omega)]
    rfl
end Cod
namespace Cod
open Go
theorem flatsA (a b:List AV):flats (a++b)=(flats a&&flats b):=by
  induction a with
  | nil=>simp [flats]
  | cons x a ih=>simp [flats,ih,Yq2]
theorem hardsA (a b:List AV):J9 (a++b)=(J9 a&&J9 b):=by
  induction a with
  | nil=>simp [J9]
  | cons x a ih=>simp [J9,ih,Yq2]
theorem Yn9 (a b:List AV):leadss (a++b)=(leadss a||leadss b):=by
  induction a with
  | nil=>simp [leadss]
  | cons x a ih=>simp [leadss,ih,Bool.or_assoc]
theorem Yhn (a b:List AV):refsOfs (a++b)=refsOfs a++refsOfs b:=by
  induction a with
  | nil=>simp [refsOfs]
  | cons x a ih=>simp [refsOfs,ih]
theorem rensA (f:Site→Nat→Option (Site × Nat)) (a b:List AV):rens f (a++b)=rens f a++rens f b:=by
  induction a with
  | nil=>simp [rens]
  | cons x a ih=>simp [rens,ih]
section
variable {α:Type} {f : α→List AV} {n:Nat}
theorem Zg4 (hn:∀ a,(f a).length=n) (l:List α):(l.flatMap f).length=n*l.length:=by
  induction l with
  | nil=>simp
  | cons s l ih=>rw [Yr7,Yqx,ih,hn,Yqm,Nat.mul_add];omega
theorem Zf3 (h:∀ a,flats (f a)=true) (l:List α):flats (l.flatMap f)=true:=by
  induction l with
  | nil=>rfl
  | cons s l ih=>rw [Yr7,flatsA,ih,h];rfl
theorem Zf4 (h:∀ a,J9 (f a)=true) (l:List α):J9 (l.flatMap f)=true:=by
  induction l with
  | nil=>rfl
  | cons s l ih=>rw [Yr7,hardsA,ih,h];rfl
theorem Ze0 (h:∀ a,leadss (f a)=false) (l:List α):leadss (l.flatMap f)=false:=by
  induction l with
  | nil=>rfl
  | cons s l ih=>rw [Yr7,Yn9,ih,h];rfl
theorem Zhs (h:∀ a,refsOfs (f a)=[]) (l:List α):refsOfs (l.flatMap f)=[]:=by
  induction l with
  | nil=>rfl
  | cons s l ih=>rw [Yr7,Yhn,ih,h];rfl
theorem Zht (g:Site→Nat→Option (Site × Nat)) (h:∀ a,rens g (f a)=f a) (l:List α):rens g (l.flatMap f)=l.flatMap f:=by
  induction l with
  | nil=>rfl
  | cons s l ih=>rw [Yr7,rensA,ih,h]
theorem Zpu (hn:∀ a,(f a).length=n) (l:List α) (i:Nat):(l.flatMap f).drop (i*n)=(l.drop i).flatMap f:=by
  induction i generalizing l with
  | zero=>simp
  | succ i ih =>
    cases l with
    | nil=>simp
    | cons s l =>
      have h1:(i+1)*n=(f s).length+i*n:=by rw [hn,Nat.add_mul];omega
      rw [Yr7,h1,List.drop_append,Yr8 (by omega),List.nil_append,show (f s).length+i*n-(f s).length=i*n by omega,ih]
      rfl
variable [Inhabited α]
theorem Zpv {l:List α} {i:Nat} (h:i<l.length):l.drop i=l.getD i default::l.drop (i+1):=by
  rw [List.getD_eq_getElem?_getD,List.getElem?_eq_getElem h,Yre]
  exact Yr9 h
theorem Zn3 (hn:∀ a,(f a).length=n) {l:List α} {i:Nat} (h:i<l.length):sub (l.flatMap f) (i*n) n=f (l.getD i default):=by
  rw [sub,Zpu hn,Zpv h,Yr7,List.take_append_of_le_length (by rw [hn];exact Yp6 _),Yqw (by rw [hn];exact Yp6 _)]
theorem Yoa (hn:∀ a,(f a).length=n) {l:List α} {i j:Nat} (h:i<l.length) (hj:j<n):(l.flatMap f)[i*n+j]? = (f (l.getD i default))[j]? := by
  have h1:(l.flatMap f)[i*n+j]? = ((l.flatMap f).drop (i*n))[j]? := by rw [List.getElem?_drop]
  rw [h1,Zpu hn,Zpv h,Yr7,List.getElem?_append_left (by rw [hn];exact hj)]
end
theorem Zcc (l:List (List UInt8)):Zcq l=l.flatMap fun s=>[.str s]:=by
  induction l with
  | nil=>rfl
  | cons s l ih=>rw [Yr7,←ih];rfl
theorem Zeh (l:List (List UInt8)):flats (Zcq l)=true:=by rw [Zcc];exact Zf3 (fun _=>rfl) l
theorem Zei (l:List (List UInt8)):J9 (Zcq l)=true:=by rw [Zcc];exact Zf4 (fun _=>rfl) l
theorem Zda (l:List (List UInt8)):leadss (Zcq l)=false:=by rw [Zcc];exact Ze0 (fun _=>rfl) l
theorem Zcd (l:List (List UInt8)):refsOfs (Zcq l)=[]:=by rw [Zcc];exact Zhs (fun _=>rfl) l
theorem Zfh (f:Site→Nat→Option (Site × Nat)) (l:List (List UInt8)):rens f (Zcq l)=Zcq l:=by rw [Zcc];exact Zht f (fun _=>rfl) l
theorem Zfi (l:List (List UInt8)) (s:List UInt8):Zcq l++[.str s]=Zcq (l++[s]):=by simp [Zcq]
theorem Zg5 {l:List (List UInt8)} {i:Nat} (h:i<l.length):(Zcq l)[i]? = some (.str (l.getD i [])):=by simp [Zcq,h]
end Cod
namespace Cod
open Go
structure Ety where
  mode:Int
  name:List UInt8
  id:List UInt8
  hid:id.length=32
def Ety.cells (e:Ety):List AV:=.int .i64 e.mode::.str e.name::A1 e.id
theorem Zc0 (e:Ety):e.cells.length=34:=by simp [Ety.cells,D8,e.hid]
theorem Zk6 (e:Ety):flats e.cells=true:=by simp [Ety.cells,flats,K1,O8]
theorem Zyq (f:Site→Nat→Option (Site × Nat)) (e:Ety):rens f e.cells=e.cells:=rens_flats _ (Zk6 e)
theorem Zyr (e:Ety):refsOfs e.cells=[]:=by simp [Ety.cells,refsOfs,X4,Z6]
theorem Zpw (e:Ety):J9 e.cells=true:=by simp [Ety.cells,J9,U2,Z4]
theorem Zpx (e:Ety):leadss e.cells=false:=by simp [Ety.cells,leadss,T4,Z5]
theorem Yob (e:Ety):sub e.cells 0 34=e.cells:=Zeg (by rw [Zc0];exact Yp6 _)
theorem ety_0 (e:Ety):e.cells[0]? = some (.int .i64 e.mode):=rfl
theorem Yho (e:Ety):e.cells[1]? = some (.str e.name):=rfl
attribute [go_sem] Zc0 Zk6 Zyq Zyr Zpw Zpx Yob ety_0 Yho
def Ze4 (e:Ety):List UInt8:=if e.mode=16384 then e.name++[47] else e.name
theorem Zpy:∀ a:List UInt8,Op.bytesLess a a=false:=by
  intro a
  induction a with
  | nil=>rfl
  | cons x a ih=>rw [Op.bytesLess,ih];simp
theorem Z59 {a b:List UInt8}:S E F.S5 [.str a,.str b] []=some (.int .i64 (Znz a b),[]):=by
  have hn (x:List UInt8):S E F.S7 [.str x] []=some (.bool false,[]):=by
    have hb:(x==x)=true:=by simp
    rw [S_of Zt1 rfl rfl]
    simp -dsimp (disch:=first|omega|(simp only [A5]<;>omega)|fail) only [L.S7,go_sem,reduceIte,reduceCtorEq,B2,B3,B4,B5,B6,B7,B8,B9,C0,C1,C2,C3,C4,C5,C6,C7,C8,C9,D0,A4,hb,Ysa]
  rw [S_of Zto rfl rfl]
  unfold Znz
  by_cases he:a=b
  · subst he
    have hs:(a==a)=true:=by simp
    simp -dsimp (disch:=first|omega|(simp only [A5]<;>omega)|fail) only [L.S5,go_sem,reduceIte,reduceCtorEq,B2,B3,B4,B5,B6,B7,B8,B9,C0,C1,C2,C3,C4,C5,C6,C7,C8,C9,D0,A4,hn,Zpy,hs,Ysa]
  · have hs:(a==b)=false:=by simp [he]
    rw [if_neg he]
    cases c1:Op.bytesLess a b<;>simp -dsimp (disch:=first|omega|(simp only [A5]<;>omega)|fail) only [L.S5,go_sem,reduceIte,reduceCtorEq,B2,B3,B4,B5,B6,B7,B8,B9,C0,C1,C2,C3,C4,C5,C6,C7,C8,C9,D0,A4,hn,c1,hs,Ysb]
theorem Zpz {a b:Ety} (ha:a.name.length≤1000000000000) (hb:b.name.length≤1000000000000):S E F.V3 [.agg a.cells,.agg b.cells] []=some (.int .i64 (Znz (Ze4 a) (Ze4 b)),[]):=by
  rw [S_of Zs2 rfl rfl]
  unfold Ze4
  by_cases h1:a.mode=16384
  · by_cases h2:b.mode=16384<;>simp -dsimp (disch:=first|omega|(simp only [A5]<;>omega)|fail) only [L.V3,go_sem,reduceIte,reduceCtorEq,B2,B3,B4,B5,B6,B7,B8,B9,C0,C1,C2,C3,C4,C5,C6,C7,C8,C9,D0,A4,h1,h2,Z59]
  · by_cases h2:b.mode=16384<;>simp -dsimp (disch:=first|omega|(simp only [A5]<;>omega)|fail) only [L.V3,go_sem,reduceIte,reduceCtorEq,B2,B3,B4,B5,B6,B7,B8,B9,C0,C1,C2,C3,C4,C5,C6,C7,C8,C9,D0,A4,h1,h2,Z59]
end Cod
namespace Cod
open Go
instance:Inhabited Ety:=⟨0,[],List.replicate 32 0,by simp⟩
def I8 (l:List Ety):List AV:=l.flatMap Ety.cells
def eat (l:List Ety) (i:Nat):Ety:=l.getD i default
theorem A2 (l:List Ety):(I8 l).length=34*l.length:=Zg4 Zc0 l
theorem Zys:I8 []=[]:=rfl
theorem Zp0 (a:List Ety) (s:Ety):I8 a++s.cells=I8 (a++[s]):=by simp [I8]
theorem Zn4 (l:List Ety):flats (I8 l)=true:=Zf3 Zk6 l
theorem Z3r (l:List Ety):J9 (I8 l)=true:=Zf4 Zpw l
theorem Zyt (l:List Ety):leadss (I8 l)=false:=Ze0 Zpx l
theorem Zup (l:List Ety):refsOfs (I8 l)=[]:=Zhs Zyr l
theorem Yas (f:Site→Nat→Option (Site × Nat)) (l:List Ety):rens f (I8 l)=I8 l:=Zht f (Zyq f) l
theorem Zyu {l:List Ety} {i:Nat} (h:i<l.length):sub (I8 l) (i*34) 34=(eat l i).cells:=Zn3 Zc0 h
theorem Z6a {l:List Ety} {i j:Nat} (h:i<l.length) (hj:j<34):(I8 l)[i*34+j]? = (eat l i).cells[j]? := Yoa Zc0 h hj
theorem ety0z:(AV.int .i64 0::.str []::zer (.int .u8 0) 32)=(default:Ety).cells:=rfl
theorem ety0b:(AV.int .i64 0::.str []::A1 (List.replicate 32 0))=(default:Ety).cells:=rfl
theorem Yhp (a b:Ety):over a.cells 0 b.cells=b.cells:=by
  unfold over;exact Zhn (by rw [Zc0,Zc0])
theorem Yhq (e:Ety):sub e.cells 2 32=A1 e.id:=by
  simp only [sub,Ety.cells,List.drop_succ_cons,Yrp]
  exact Yqw (by rw [D8,e.hid];exact Yp6 _)
theorem Yhr (e:Ety):e.cells.take 34=e.cells:=Yqw (by rw [Zc0];exact Yp6 _)
attribute [go_sem] A2 Zn4 Z3r Zyt Zup Yas Zyu ety0z ety0b Yhp Yhq Yhr
end Cod
namespace Cod
open Go
def N8 (l:List Int):List AV:=l.map (.int .i64)
theorem A3 (l:List Int):(N8 l).length=l.length:=by simp [N8]
theorem Zie (n:List UInt8):∀ (ks:List (List UInt8)) (j:Nat),Za5 true (.str n) (Zcq ks) j=some (if n∈ks then some (j+ks.idxOf n) else none):=by
  intro ks
  induction ks with
  | nil=>intro j;rfl
  | cons k ks ih =>
    intro j
    show Za5 true (.str n) (.str k::Zcq ks) j=_
    unfold Za5
    by_cases h:n=k
    · subst h
      simp [Ziq]
    · have e:Ziq true (.str n) (.str k)=some false:=by simp [Ziq,h]
      rw [e]
      simp only
      rw [ih (j+1)]
      by_cases hm:n∈ks
      · have e2:(k::ks).idxOf n=ks.idxOf n+1:=by
          rw [Ysc]
          have:(k==n)=false:=by simp [Ne.symm h]
          rw [this];rfl
        rw [if_pos hm,if_pos (Yra _ hm),e2]
        congr 2;omega
      · rw [if_neg hm,if_neg (by simp [h,hm])]
structure MapOK (seen:List (List UInt8)) (ks:List (List UInt8)) (vs:List Int):Prop where
  len:vs.length=ks.length
  mem:∀ n,n∈ks↔n∈seen
  pos:∀ v∈vs,1≤v∧v≤seen.length
theorem MapOK.nil:MapOK [] [] []:=⟨rfl,fun _=>Iff.rfl,fun v h=>by simp at h⟩
theorem MapOK.old {seen ks:List (List UInt8)} {vs:List Int} (h:MapOK seen ks vs) {n:List UInt8} (hn:n∈ks):∃ v,vs[ks.idxOf n]? = some v∧1≤v∧v≤seen.length∧MapOK (seen++[n]) ks (vs.set (ks.idxOf n) (v+1)):=by
  have hi:ks.idxOf n<vs.length:=by rw [h.len];exact List.idxOf_lt_length_of_mem hn
  obtain ⟨v,hv⟩:∃ v,vs[ks.idxOf n]? = some v:=⟨_,List.getElem?_eq_getElem hi⟩
  obtain ⟨p1,p2⟩:=h.pos v (List.mem_of_getElem? hv)
  refine ⟨v,hv,p1,p2,⟨by rw [Ysd];exact h.len,?_,?_⟩⟩
  · intro m
    rw [h.mem,Yse,Yqo]
    constructor
    · exact .inl
    · rintro (h1|h1)
      · exact h1
      · rw [h1];exact (h.mem n).1 hn
  · intro x hx
    rw [Yqx,Ysf]
    rcases List.mem_or_eq_of_mem_set hx with h1|h1
    · have:=h.pos x h1;omega
    · omega
theorem MapOK.new {seen ks:List (List UInt8)} {vs:List Int} (h:MapOK seen ks vs) {n:List UInt8} (hn:n∉ks):MapOK (seen++[n]) (ks++[n]) (vs++[1]):=by
  refine ⟨by simp [h.len],?_,?_⟩
  · intro m
    simp only [Yse,Yqo,h.mem]
  · intro x hx
    rw [Yqx,Ysf]
    rcases List.mem_append.1 hx with h1|h1
    · have:=h.pos x h1;omega
    · rw [List.mem_singleton.1 h1];omega
end Cod
namespace Cod
open Go
def Zn5:Nat→Nat→List UInt8→List UInt8
  | 0,_,acc=>acc
  | f+1,u,acc=>if u<8 then byt (48+(u:Int))::acc else Zn5 f (u/8) (byt (48+(u%8:Nat))::acc)
def P4 (m:Int):List UInt8:=(if m<0 then [45] else [])++Zn5 22 m.natAbs []
theorem Yhs:∀ (f u:Nat) (acc:List UInt8),(Zn5 f u acc).length≤f+acc.length:=by
  intro f
  induction f with
  | zero=>intro u acc;simp [Zn5]
  | succ f ih =>
    intro u acc
    unfold Zn5
    split
    · simp;omega
    · have:=ih (u/8) (byt (48+(u%8:Nat))::acc)
      simp only [Yqm] at this
      omega
theorem Zg6 (m:Int):(P4 m).length≤23:=by
  unfold P4
  have:=Yhs 22 m.natAbs []
  rw [Yqx]
  simp only [List.length_nil] at this
  split<;>simp<;>omega
end Cod
namespace Cod
open Go
set_option maxRecDepth 100000
theorem tz8:S E F.Zb7 [.int .u64 8] []=some (.int .i64 3,[]):=Zec.2 ⟨60,by kernel_rfl⟩
theorem pow8:S E F.Zb6 [.int .i64 8] []=some (.bool true,[]):=Zec.2 ⟨60,by kernel_rfl⟩
def Yht:List UInt8:=[48,49,50,51,52,53,54,55,56,57,97,98,99,100,101,102,103,104,105,106,107,108,109,110,111,112,113,114,115,116,117,118,119,120,121,122]
theorem Zyv:∀ u:Nat,u<8→bat Yht u=48+(u:Int):=by decide
def Zk7 (i:Nat) (acc:List UInt8):List UInt8:=List.replicate i 0++acc
theorem Zas (i:Nat) (acc:List UInt8):(Zk7 i acc).length=i+acc.length:=by simp [Zk7]
theorem Zg7 (i:Nat) (acc:List UInt8) (b:UInt8):(Zk7 (i+1) acc).set i b=Zk7 i (b::acc):=by
  unfold Zk7
  rw [List.replicate_succ',List.append_assoc,List.set_append_right _ _ (by simp)]
  simp
theorem and7 (u:Nat) (h:u<18446744073709551616):Z15 .u64 (u:Int) 7=((u%8:Nat):Int):=by
  unfold Z15
  have e:(BitVec.ofInt IntKind.u64.bits (u:Int) &&& BitVec.ofInt IntKind.u64.bits 7).toNat=u%8:=by
    rw [BitVec.toNat_and,Ysg,Ysg]
    show ((u:Int)%18446744073709551616).toNat &&& 7=u%8
    rw [show ((u:Int)%18446744073709551616).toNat=u by omega]
    exact Nat.and_two_pow_sub_one_eq_mod u 3
  rw [e,wrap_u64 (by omega) (by omega)]
theorem shr3 (u:Nat):Zxh .u64 (u:Int) 3=((u/8:Nat):Int):=by
  have:=Zyb (k:=.u64) (a:=(u:Int)) (n:=3) (by decide)
  simp only [Ysh] at this
  rw [this]
  omega
theorem fmt_l0 (k:List It) (b:Bool):∀ (f u i:Nat) (acc:List UInt8),u<8^f→u<18446744073709551616→f≤i→1≤f→i+acc.length=65 →
    ∃ (i' u':Nat) (acc':List UInt8),u' < 8∧1≤i'∧i'+acc'.length=65∧byt (48+(u':Int))::acc'=Zn5 f u acc∧i+1≤f+i' ∧
    X E [.tmp 10,.tmp 11] (.c L.F2.x0::.lp [0,1,3,4,10,11,12,13,14,15,16] L.F2.x0::.blk 0::k) ⟨[(0,.nils),(1,.int .u64 u),(3,.bool b),(4,.bool false),(10,.buf (.s 1000000 0) 0 0 0 1),(11,.str []),(12,.ref (.s 1000000 1) 0 0),(13,.int .i64 i),(14,.int .u64 3),(15,.int .u64 8),(16,.int .u64 7)],[(.s 1000000 0,⟨0,true,true,false,[]⟩),(.s 1000000 1,⟨0,true,true,true,A1 (Zk7 i acc)⟩)]⟩ =
    X E [.tmp 10,.tmp 11] k ⟨[(0,.nils),(1,.int .u64 u'),(3,.bool b),(4,.bool false),(10,.buf (.s 1000000 0) 0 0 0 1),(11,.str []),(12,.ref (.s 1000000 1) 0 0),(13,.int .i64 i'),(14,.int .u64 3),(15,.int .u64 8),(16,.int .u64 7),(46,.bool false)],[(.s 1000000 0,⟨0,true,true,false,[]⟩),(.s 1000000 1,⟨0,true,true,true,A1 (Zk7 i' acc')⟩)]⟩:=by
  intro f
  induction f with
  | zero=>intro u i acc hu h64 hi h1;omega
  | succ f ih =>
    intro u i acc hu h64 hi _ hl
    rw [G9 L.F2.x0.eq_1]
    by_cases h8:u<8
    · refine ⟨i,u,acc,h8,by omega,hl,by rw [Zn5,if_pos h8],by omega,?_⟩
      simp -dsimp (disch:=first|omega|(simp only [A5,Zas]<;>omega)|fail) only [go_sem,reduceIte,reduceCtorEq,B2,B3,B4,B5,B6,B7,B8,B9,C0,C1,C2,C3,C4,C5,C6,C7,C8,C9,D0,A4,BYs,h8]
    · have hf:1≤f:=by
        rcases Nat.eq_zero_or_pos f with rfl|h
        · simp at hu;omega
        · exact h
      obtain ⟨j,rfl⟩:∃ j,i=j+1:=⟨i-1,by omega⟩
      have hmod:=Zyv (u%8) (by omega)
      obtain ⟨i',u',acc',q1,q2,q3,q4,q5,q6⟩:=ih (u/8) j (byt (48+(u%8:Nat))::acc) (by rw [Nat.pow_succ] at hu;omega) (by omega) (by omega) hf (by rw [Yqm];omega)
      refine ⟨i',u',acc',q1,q2,q3,by rw [Zn5,if_neg h8];exact q4,by omega,?_⟩
      rw [←q6]
      have e1:((j+1:Nat):Int)-1=j:=by omega
      have e2:Z15 .u64 (u:Int) 7=((u%8:Nat):Int):=and7 u h64
      have e3:Zxh .u64 (u:Int) 3=((u/8:Nat):Int):=shr3 u
      unfold Yht at hmod
      have e4:UInt8.ofNat (48+((u%8:Nat):Int)).toNat=byt (48+((u%8:Nat):Int)):=rfl
      simp -dsimp (disch:=first|omega|(simp only [A5,Zas]<;>omega)|fail) only [go_sem,reduceIte,reduceCtorEq,B2,B3,B4,B5,B6,B7,B8,B9,C0,C1,C2,C3,C4,C5,C6,C7,C8,C9,D0,A4,BYs,h8,e1,e2,e3,Zaq,hmod,e4,Zg7]
theorem Zp1 (i:Nat) (acc:List UInt8):sub (Zk7 i acc) i acc.length=acc:=by
  unfold Zk7 sub
  rw [List.drop_left' (by simp),List.take_length]
theorem Zn6 {u:Nat} {b:Bool} (h64:u≤9223372036854775808):S E F.F2 [.nils,.int .u64 (if b then (if u=0 then 0 else 18446744073709551616-(u:Int)) else u),.int .i64 8,.bool b,.bool false] []=some (.tup [.buf (.r 0) 0 0 0 1,.str ((if b then [45] else [])++Zn5 22 u [])],[(.r 0,⟨0,true,true,false,[]⟩)]):=by
  have h22:(8:Nat)^22=73786976294838206464:=by decide
  obtain ⟨i',u',acc',q1,q2,q3,q4,q5,q6⟩:=fmt_l0 [.c L.F2.r0,.c L.F2.r2] b 22 u 65 [] (by omega) (by omega) (by omega) (by omega) rfl
  obtain ⟨j,rfl⟩:∃ j,i'=j+1:=⟨i' - 1,by omega⟩
  have hmod:=Zyv u' q1
  unfold Yht at hmod
  have e1:((j+1:Nat):Int)-1=j:=by omega
  have e4:UInt8.ofNat (48+(u':Int)).toNat=byt (48+(u':Int)):=rfl
  have e5:Zk7 65 []=List.replicate 65 0:=by simp [Zk7]
  rw [e5] at q6
  simp only [Ysh] at q6
  have hs1:sub (Zk7 j (byt (48+(u':Int))::acc')) j (65-j)=Zn5 22 u []:=by
    rw [←q4,show 65-j=(byt (48+(u':Int))::acc').length by rw [Yqm];omega]
    exact Zp1 j _
  rw [S_of Ztp rfl rfl]
  cases b with
  | false =>
    simp -dsimp (disch:=first|omega|(simp only [A5,Zas]<;>omega)|fail) only [L.F2,go_sem,reduceIte,reduceCtorEq,B2,B3,B4,B5,B6,B7,B8,B9,C0,C1,C2,C3,C4,C5,C6,C7,C8,C9,D0,A4,BYs,tz8,pow8]
    rw [q6]
    simp -dsimp (disch:=first|omega|(simp only [A5,Zas]<;>omega)|fail) only [L.F2.r0,go_sem,reduceIte,reduceCtorEq,B2,B3,B4,B5,B6,B7,B8,B9,C0,C1,C2,C3,C4,C5,C6,C7,C8,C9,D0,A4,BYs,e1,hmod,e4,Zg7,Zaq]
    simp -dsimp (disch:=first|omega|(simp only [A5,Zas]<;>omega)|fail) only [L.F2.r2,go_sem,reduceIte,reduceCtorEq,B2,B3,B4,B5,B6,B7,B8,B9,C0,C1,C2,C3,C4,C5,C6,C7,C8,C9,D0,A4,BYs,e1,hmod,e4,Zg7,Zaq,hs1]
  | true =>
    have e6:IntKind.u64.wrap (0-(if u=0 then 0 else 18446744073709551616-(u:Int)))=u:=by
      simp only [IntKind.wrap,IntKind.signed,IntKind.bits]
      split<;>simp<;>omega
    simp -dsimp (disch:=first|omega|(simp only [A5,Zas]<;>omega)|fail) only [L.F2,go_sem,reduceIte,reduceCtorEq,B2,B3,B4,B5,B6,B7,B8,B9,C0,C1,C2,C3,C4,C5,C6,C7,C8,C9,D0,A4,BYs,tz8,pow8,e6]
    rw [q6]
    obtain ⟨m,rfl⟩:∃ m,j=m+1:=⟨j-1,by omega⟩
    have e7:((m+1:Nat):Int)-1=m:=by omega
    have hs2:sub (Zk7 m (45::byt (48+(u':Int))::acc')) m (65-m)=45::Zn5 22 u []:=by
      rw [←q4,show 65-m=(45::byt (48+(u':Int))::acc').length by rw [Yqm,Yqm];omega]
      exact Zp1 m _
    have e8:UInt8.ofNat 45=45:=rfl
    simp -dsimp (disch:=first|omega|(simp only [A5,Zas]<;>omega)|fail) only [L.F2.r0,go_sem,reduceIte,reduceCtorEq,B2,B3,B4,B5,B6,B7,B8,B9,C0,C1,C2,C3,C4,C5,C6,C7,C8,C9,D0,A4,BYs,e1,hmod,e4,Zg7,Zaq]
    simp -dsimp (disch:=first|omega|(simp only [A5,Zas]<;>omega)|fail) only [L.F2.r2,go_sem,reduceIte,reduceCtorEq,B2,B3,B4,B5,B6,B7,B8,B9,C0,C1,C2,C3,C4,C5,C6,C7,C8,C9,D0,A4,BYs,e7,e8,Zg7,Zaq,hs2]
theorem Zif {m:Int} (h0 : -9223372036854775808≤m) (h1:m≤9223372036854775807):S E F.S1 [.int .i64 m,.int .i64 8] []=some (.str (P4 m),[]):=by
  have hb:S E F.S3 [.int .i64 m,.int .i64 8] []=some (.str (P4 m),[]):=by
    rw [S_of Zs3 rfl rfl]
    unfold P4
    by_cases hn:m<0
    · have h2:=Zn6 (u:=m.natAbs) (b:=true) (by omega)
      rw [if_pos rfl,if_neg (by omega),if_pos rfl] at h2
      have e:IntKind.u64.wrap m=18446744073709551616-((m.natAbs:Nat):Int):=by
        simp only [IntKind.wrap,IntKind.signed,IntKind.bits];simp;omega
      rw [if_pos hn]
      simp -dsimp (disch:=first|omega|(simp only [A5,Zas]<;>omega)|fail) only [L.S3,go_sem,reduceIte,reduceCtorEq,B2,B3,B4,B5,B6,B7,B8,B9,C0,C1,C2,C3,C4,C5,C6,C7,C8,C9,D0,A4,BYs,hn,e,h2]
    · have h2:=Zn6 (u:=m.natAbs) (b:=false) (by omega)
      rw [if_neg (by simp),if_neg (by simp)] at h2
      have e:IntKind.u64.wrap m=((m.natAbs:Nat):Int):=by
        simp only [IntKind.wrap,IntKind.signed,IntKind.bits];simp;omega
      rw [if_neg hn]
      simp -dsimp (disch:=first|omega|(simp only [A5,Zas]<;>omega)|fail) only [L.S3,go_sem,reduceIte,reduceCtorEq,B2,B3,B4,B5,B6,B7,B8,B9,C0,C1,C2,C3,C4,C5,C6,C7,C8,C9,D0,A4,BYs,hn,e,h2]
  rw [S_of Zsh rfl rfl]
  simp -dsimp (disch:=first|omega|(simp only [A5,Zas]<;>omega)|fail) only [L.S1,go_sem,reduceIte,reduceCtorEq,B2,B3,B4,B5,B6,B7,B8,B9,C0,C1,C2,C3,C4,C5,C6,C7,C8,C9,D0,A4,hb]
end Cod
namespace Cod
open Go
set_option maxRecDepth 100000
theorem Zat (r v:Int) (h:(r=46∧v=46)∨(r=103∧v=71)∨(r=71∧v=103)∨(r=105∧v=73)∨(r=73∧v=105)∨(r=116∧v=84)∨(r=84∧v=116)):S E0 F.Q6 [.int .i32 r] []=some (.int .i32 v,[]):=by
  rcases h with ⟨rfl,rfl⟩|⟨rfl,rfl⟩|⟨rfl,rfl⟩|⟨rfl,rfl⟩|⟨rfl,rfl⟩|⟨rfl,rfl⟩|⟨rfl,rfl⟩<;>exact Zec.2 ⟨60,by kernel_rfl⟩
theorem Zd3 {b:UInt8} {l:List UInt8} (h:b<128):S E0 F.M5 [.str (b::l)] []=some (.tup [.int .i32 b.toNat,.int .i64 1],[]):=by
  have hb:b.toNat<128:=h
  rw [Zc9 Zt0 rfl rfl]
  have h1:((b::l:List UInt8) == [])=false:=rfl
  have h2:((b.toNat:Int)<128):=by omega
  have h3:IntKind.i32.wrap (b.toNat:Int)=b.toNat:=by
    simp only [IntKind.wrap,IntKind.signed,IntKind.bits];simp;omega
  simp -dsimp (disch:=first|omega|(simp only [A5]<;>omega)|fail) only [L.M5,go_sem,reduceIte,reduceCtorEq,B2,B3,B4,B5,B6,B7,B8,B9,C0,C1,C2,C3,C4,C5,C6,C7,C8,C9,D0,A4,h1,h2,h3,bat,List.getD_cons_zero]
def Zig:LCode:=match L.A8.r0 with|.seq _ (.seq _ r)=>r|_=>.skip
theorem Z3s {l:List UInt8} {i:Nat} (h:i<l.length):((⟨l.toArray⟩:ByteArray).get! i).toNat=(l.getD i 0).toNat:=by
  simp [ByteArray.get!,h,List.getD]
theorem Yhu {l:List UInt8} {i:Nat} (h:i<l.length) (hb:128≤bat l i):128≤(Zbi l i).1:=by
  have hg:((⟨l.toArray⟩:ByteArray).get! (i+0)).toNat=(l.getD i 0).toNat:=Z3s h
  unfold bat at hb
  unfold Zbi Utf8.decode Utf8.runeError
  simp only [hg]
  repeat' split
  all_goals (try simp only [ge_iff_le,Yql,decide_eq_true_eq] at *)
  all_goals omega
theorem Yoc:∀ t ∈ [46,103,105,116],∀ n:Nat,n<256→(decide ((128:Int)≤ior .u8 n t))=decide (128≤n):=by decide +kernel
theorem ef_uni {SC:LCode} {s:List UInt8} (hs:s.length=4) (i:Nat) (hi:i<4) (hb:128≤bat s i) (v6 v21 v7 v8 v33:AV) :
    X E0 [.tmp 4] [.c Zig,.scp SC] ⟨[(0,.str s),(1,.str [46,103,105,116]),(5,.int .i64 i),(6,v6),(21,v21),(7,v7),(8,v8),(33,v33)],[]⟩=some (.bool false,[]):=by
  have hd:0<(s.drop i).length:=by rw [List.length_drop];omega
  have hb':128≤bat (s.drop i) 0:=by simpa [bat] using hb
  have hr:=Yhu hd hb'
  generalize he:Zbi (s.drop i) 0=q at hr
  obtain ⟨r,wd⟩:=q
  have:i=0∨i=1∨i=2∨i=3:=by omega
  have hrz:(128:Int)≤r:=by simp only at hr;omega
  have d46:S E0 F.M5 [.str [46,103,105,116]] []=some (.tup [.int .i32 46,.int .i64 1],[]):=Zd3 (by decide)
  have d103:S E0 F.M5 [.str [103,105,116]] []=some (.tup [.int .i32 103,.int .i64 1],[]):=Zd3 (by decide)
  have d105:S E0 F.M5 [.str [105,116]] []=some (.tup [.int .i32 105,.int .i64 1],[]):=Zd3 (by decide)
  have d116:S E0 F.M5 [.str [116]] []=some (.tup [.int .i32 116,.int .i64 1],[]):=Zd3 (by decide)
  have f46:=Zat 46 46 (by simp)
  have f103:=Zat 103 71 (by simp)
  have f71:=Zat 71 103 (by simp)
  have f105:=Zat 105 73 (by simp)
  have f73:=Zat 73 105 (by simp)
  have f116:=Zat 116 84 (by simp)
  have f84:=Zat 84 116 (by simp)
  rcases this with rfl|rfl|rfl|rfl
  · simp -dsimp (disch:=first|omega|(simp only [A5]<;>omega)|fail) only [Zig,L.A8.r0,go_sem,reduceIte,reduceCtorEq,B2,B3,B4,B5,B6,B7,B8,B9,C0,C1,C2,C3,C4,C5,C6,C7,C8,C9,D0,A4,E2,D9,D6]
    simp only [Yrp] at hd he
    rw [G9 L.A8.x1.eq_1]
    simp -dsimp (disch:=first|omega|(simp only [A5]<;>omega)|fail) only [go_sem,reduceIte,reduceCtorEq,B2,B3,B4,B5,B6,B7,B8,B9,C0,C1,C2,C3,C4,C5,C6,C7,C8,C9,D0,A4,E2,D9,D6,hd,he,d46,f46]
    rw [G9 L.A8.x2.eq_1]
    simp -dsimp (disch:=first|omega|(simp only [A5]<;>omega)|fail) only [go_sem,reduceIte,reduceCtorEq,B2,B3,B4,B5,B6,B7,B8,B9,C0,C1,C2,C3,C4,C5,C6,C7,C8,C9,D0,A4,E2,D9,D6,f46,L.A8.r1]
  · simp -dsimp (disch:=first|omega|(simp only [A5]<;>omega)|fail) only [Zig,L.A8.r0,go_sem,reduceIte,reduceCtorEq,B2,B3,B4,B5,B6,B7,B8,B9,C0,C1,C2,C3,C4,C5,C6,C7,C8,C9,D0,A4,E2,D9,D6]
    rw [G9 L.A8.x1.eq_1]
    simp -dsimp (disch:=first|omega|(simp only [A5]<;>omega)|fail) only [go_sem,reduceIte,reduceCtorEq,B2,B3,B4,B5,B6,B7,B8,B9,C0,C1,C2,C3,C4,C5,C6,C7,C8,C9,D0,A4,E2,D9,D6,hd,he,d103,f103]
    rw [G9 L.A8.x2.eq_1]
    simp -dsimp (disch:=first|omega|(simp only [A5]<;>omega)|fail) only [go_sem,reduceIte,reduceCtorEq,B2,B3,B4,B5,B6,B7,B8,B9,C0,C1,C2,C3,C4,C5,C6,C7,C8,C9,D0,A4,E2,D9,D6,f71,L.A8.r1]
    rw [G9 L.A8.x2.eq_1]
    simp -dsimp (disch:=first|omega|(simp only [A5]<;>omega)|fail) only [go_sem,reduceIte,reduceCtorEq,B2,B3,B4,B5,B6,B7,B8,B9,C0,C1,C2,C3,C4,C5,C6,C7,C8,C9,D0,A4,E2,D9,D6,f71,L.A8.r1]
  · simp -dsimp (disch:=first|omega|(simp only [A5]<;>omega)|fail) only [Zig,L.A8.r0,go_sem,reduceIte,reduceCtorEq,B2,B3,B4,B5,B6,B7,B8,B9,C0,C1,C2,C3,C4,C5,C6,C7,C8,C9,D0,A4,E2,D9,D6]
    rw [G9 L.A8.x1.eq_1]
    simp -dsimp (disch:=first|omega|(simp only [A5]<;>omega)|fail) only [go_sem,reduceIte,reduceCtorEq,B2,B3,B4,B5,B6,B7,B8,B9,C0,C1,C2,C3,C4,C5,C6,C7,C8,C9,D0,A4,E2,D9,D6,hd,he,d105,f105]
    rw [G9 L.A8.x2.eq_1]
    simp -dsimp (disch:=first|omega|(simp only [A5]<;>omega)|fail) only [go_sem,reduceIte,reduceCtorEq,B2,B3,B4,B5,B6,B7,B8,B9,C0,C1,C2,C3,C4,C5,C6,C7,C8,C9,D0,A4,E2,D9,D6,f73,L.A8.r1]
    rw [G9 L.A8.x2.eq_1]
    simp -dsimp (disch:=first|omega|(simp only [A5]<;>omega)|fail) only [go_sem,reduceIte,reduceCtorEq,B2,B3,B4,B5,B6,B7,B8,B9,C0,C1,C2,C3,C4,C5,C6,C7,C8,C9,D0,A4,E2,D9,D6,f73,L.A8.r1]
  · simp -dsimp (disch:=first|omega|(simp only [A5]<;>omega)|fail) only [Zig,L.A8.r0,go_sem,reduceIte,reduceCtorEq,B2,B3,B4,B5,B6,B7,B8,B9,C0,C1,C2,C3,C4,C5,C6,C7,C8,C9,D0,A4,E2,D9,D6]
    rw [G9 L.A8.x1.eq_1]
    simp -dsimp (disch:=first|omega|(simp only [A5]<;>omega)|fail) only [go_sem,reduceIte,reduceCtorEq,B2,B3,B4,B5,B6,B7,B8,B9,C0,C1,C2,C3,C4,C5,C6,C7,C8,C9,D0,A4,E2,D9,D6,hd,he,d116,f116]
    rw [G9 L.A8.x2.eq_1]
    simp -dsimp (disch:=first|omega|(simp only [A5]<;>omega)|fail) only [go_sem,reduceIte,reduceCtorEq,B2,B3,B4,B5,B6,B7,B8,B9,C0,C1,C2,C3,C4,C5,C6,C7,C8,C9,D0,A4,E2,D9,D6,f84,L.A8.r1]
    rw [G9 L.A8.x2.eq_1]
    simp -dsimp (disch:=first|omega|(simp only [A5]<;>omega)|fail) only [go_sem,reduceIte,reduceCtorEq,B2,B3,B4,B5,B6,B7,B8,B9,C0,C1,C2,C3,C4,C5,C6,C7,C8,C9,D0,A4,E2,D9,D6,f84,L.A8.r1]
def Zbb (b t:Int):Bool:=b==t||(decide (b<t)&&(decide (65≤b)&&(decide (b≤90)&&(t==b+32))))
theorem Z6b {SC:LCode} (hSC:T5 SC 0=some (.seq .skip Zig)) {s:List UInt8} (hs:s.length=4) (i:Nat) (t:Int) (hi:(i=0∧t=46)∨(i=1∧t=103)∨(i=2∧t=105)∨(i=3∧t=116)) :
    X E0 [.tmp 4] (.c L.A8.x0::.lp [0,1,5,6] L.A8.x0::.blk 0::.c L.A8.r0::.scp SC::[]) ⟨[(0,.str s),(1,.str [46,103,105,116]),(5,.int .i64 i),(6,.int .i64 4)],[]⟩ =
    if bat s i<128∧Zbb (bat s i) t=true then X E0 [.tmp 4] (.c L.A8.x0::.lp [0,1,5,6] L.A8.x0::.blk 0::.c L.A8.r0::.scp SC::[]) ⟨[(0,.str s),(1,.str [46,103,105,116]),(5,.int .i64 (i+1:Int)),(6,.int .i64 4)],[]⟩ else some (.bool false,[]):=by
  obtain ⟨h0,h1⟩:=R4 s i
  have hor:=Yoc t (by rcases hi with ⟨_,rfl⟩|⟨_,rfl⟩|⟨_,rfl⟩|⟨_,rfl⟩<;>simp) (bat s i).toNat (by omega)
  rw [show (((bat s i).toNat:Nat):Int)=bat s i by omega] at hor
  have hti:bat [46,103,105,116] i=t:=by rcases hi with ⟨rfl,rfl⟩|⟨rfl,rfl⟩|⟨rfl,rfl⟩|⟨rfl,rfl⟩<;>rfl
  have hi4:i<4:=by omega
  have htr:46≤t∧t≤116:=by omega
  have hil:i < [46,103,105,(116:UInt8)].length:=by simpa using hi4
  rw [G9 L.A8.x0.eq_1]
  by_cases hb:bat s i<128
  · have hd:decide (128≤(bat s i).toNat)=false:=by simp;omega
    rw [hd] at hor
    generalize hx:bat s i=x at *
    by_cases e1:x=t
    · rw [if_pos ⟨hb,by simp [Zbb,e1]⟩]
      have e9:(t==x)=true:=Znx e1.symm
      simp -dsimp (disch:=first|omega|(simp only [A5]<;>omega)|fail) only [go_sem,reduceIte,reduceCtorEq,B2,B3,B4,B5,B6,B7,B8,B9,C0,C1,C2,C3,C4,C5,C6,C7,C8,C9,D0,A4,E2,D9,D6,hx,hti,hor,e9]
    · have e2:(x==t)=false:=Zey e1
      have e2':(t==x)=false:=Zey (fun h=>e1 h.symm)
      by_cases e3:x<t
      · have e4:¬ t<x:=by omega
        by_cases e5:65≤x
        · by_cases e6:x≤90
          · have w1:IntKind.u8.wrap (x+97)=x+97:=by rw [Zcz];omega
            have w2:IntKind.u8.wrap (x+97-65)=x+32:=by rw [Zcz];omega
            by_cases e7:t=x+32
            · rw [if_pos ⟨hb,by simp only [Zbb,e2,M0 e3,M0 e5,M0 e6,Znx e7,Ysi,Yq5,Ysj]⟩]
              have e8:(t==x+32)=true:=Znx e7
              simp -dsimp (disch:=first|omega|(simp only [A5]<;>omega)|fail) only [go_sem,reduceIte,reduceCtorEq,B2,B3,B4,B5,B6,B7,B8,B9,C0,C1,C2,C3,C4,C5,C6,C7,C8,C9,D0,A4,E2,D9,D6,hx,hti,hor,e2',e4,e5,e6,w1,w2,e8]
            · rw [if_neg (by simp only [Zbb,e2,M0 e3,M0 e5,M0 e6,Zey e7,Ysi,Yq5,Ysj];simp)]
              have e8:(t==x+32)=false:=Zey e7
              simp -dsimp (disch:=first|omega|(simp only [A5]<;>omega)|fail) only [go_sem,reduceIte,reduceCtorEq,B2,B3,B4,B5,B6,B7,B8,B9,C0,C1,C2,C3,C4,C5,C6,C7,C8,C9,D0,A4,E2,D9,D6,hx,hti,hor,e2',e4,e5,e6,w1,w2,e8]
          · rw [if_neg (by simp only [Zbb,e2,M0 e3,M0 e5,Zba e6,Ysi,Ysk,Ysj];simp)]
            simp -dsimp (disch:=first|omega|(simp only [A5]<;>omega)|fail) only [go_sem,reduceIte,reduceCtorEq,B2,B3,B4,B5,B6,B7,B8,B9,C0,C1,C2,C3,C4,C5,C6,C7,C8,C9,D0,A4,E2,D9,D6,hx,hti,hor,e2',e4,e5,e6]
        · rw [if_neg (by simp only [Zbb,e2,M0 e3,Zba e5,Ysi,Ysk,Ysj];simp)]
          simp -dsimp (disch:=first|omega|(simp only [A5]<;>omega)|fail) only [go_sem,reduceIte,reduceCtorEq,B2,B3,B4,B5,B6,B7,B8,B9,C0,C1,C2,C3,C4,C5,C6,C7,C8,C9,D0,A4,E2,D9,D6,hx,hti,hor,e2',e4,e5]
      · have e4:t<x:=by omega
        rw [if_neg (by simp only [Zbb,e2,Zba e3,Ysk,Ysj];simp)]
        by_cases e5:65≤t
        · have e6:¬ t≤90:=by omega
          simp -dsimp (disch:=first|omega|(simp only [A5]<;>omega)|fail) only [go_sem,reduceIte,reduceCtorEq,B2,B3,B4,B5,B6,B7,B8,B9,C0,C1,C2,C3,C4,C5,C6,C7,C8,C9,D0,A4,E2,D9,D6,hx,hti,hor,e2',e4,e5,e6]
        · simp -dsimp (disch:=first|omega|(simp only [A5]<;>omega)|fail) only [go_sem,reduceIte,reduceCtorEq,B2,B3,B4,B5,B6,B7,B8,B9,C0,C1,C2,C3,C4,C5,C6,C7,C8,C9,D0,A4,E2,D9,D6,hx,hti,hor,e2',e4,e5]
  · have hd:decide (128≤(bat s i).toNat)=true:=by simp;omega
    rw [hd] at hor
    rw [if_neg (fun h=>hb h.1)]
    simp -dsimp (disch:=first|omega|(simp only [A5]<;>omega)|fail) only [go_sem,reduceIte,reduceCtorEq,B2,B3,B4,B5,B6,B7,B8,B9,C0,C1,C2,C3,C4,C5,C6,C7,C8,C9,D0,A4,E2,D9,D6,hti,hor,hSC]
    exact ef_uni hs i hi4 (by omega) _ _ _ _ _
def Zyw (s:List UInt8):Bool:=decide (bat s 0<128∧Zbb (bat s 0) 46=true)&&(decide (bat s 1<128∧Zbb (bat s 1) 103=true)&&(decide (bat s 2<128∧Zbb (bat s 2) 105=true)&&decide (bat s 3<128∧Zbb (bat s 3) 116=true)))
theorem Yod {s:List UInt8} (hs:s.length=4):S E0 F.A8 [.str s,.str [46,103,105,116]] []=some (.bool (Zyw s),[]):=by
  rw [Zc9 Ztn rfl rfl]
  have l4:((s.length:Int))=4:=by omega
  simp -dsimp (disch:=first|omega|(simp only [A5]<;>omega)|fail) only [L.A8,go_sem,reduceIte,reduceCtorEq,B2,B3,B4,B5,B6,B7,B8,B9,C0,C1,C2,C3,C4,C5,C6,C7,C8,C9,D0,A4,hs]
  generalize hSC:LCode.seq _ _=SC
  have hf:T5 SC 0=some (.seq .skip Zig):=by subst hSC;rfl
  have i0:=Z6b hf hs 0 46 (by simp)
  have i1:=Z6b hf hs 1 103 (by simp)
  have i2:=Z6b hf hs 2 105 (by simp)
  have i3:=Z6b hf hs 3 116 (by simp)
  have i4:X E0 [.tmp 4] (.c L.A8.x0::.lp [0,1,5,6] L.A8.x0::.blk 0::.c L.A8.r0::.scp SC::[]) ⟨[(0,.str s),(1,.str [46,103,105,116]),(5,.int .i64 4),(6,.int .i64 4)],[]⟩=some (.bool true,[]):=by
    rw [G9 L.A8.x0.eq_1]
    simp -dsimp (disch:=first|omega|(simp only [A5]<;>omega)|fail) only [go_sem,reduceIte,reduceCtorEq,B2,B3,B4,B5,B6,B7,B8,B9,C0,C1,C2,C3,C4,C5,C6,C7,C8,C9,D0,A4,L.A8.r0,hs]
  simp only [show ((0:Nat):Int)=0 from rfl,show ((1:Nat):Int)=1 from rfl,show ((2:Nat):Int)=2 from rfl,show ((3:Nat):Int)=3 from rfl,show (0:Int)+1=1 from rfl,show (1:Int)+1=2 from rfl,show (2:Int)+1=3 from rfl,show (3:Int)+1=4 from rfl] at i0 i1 i2 i3
  rw [show (if ((4:Nat):Int)<((4:Nat):Int) then ((4:Nat):Int) else ((4:Nat):Int))=4 from rfl,i0]
  by_cases c0:bat s 0<128∧Zbb (bat s 0) 46=true
  · rw [if_pos c0,i1]
    by_cases c1:bat s 1<128∧Zbb (bat s 1) 103=true
    · rw [if_pos c1,i2]
      by_cases c2:bat s 2<128∧Zbb (bat s 2) 105=true
      · rw [if_pos c2,i3]
        by_cases c3:bat s 3<128∧Zbb (bat s 3) 116=true
        · rw [if_pos c3,i4];simp only [Zyw,M0 c0,M0 c1,M0 c2,M0 c3];rfl
        · rw [if_neg c3];simp only [Zyw,M0 c0,M0 c1,M0 c2,Zba c3];rfl
      · rw [if_neg c2];simp only [Zyw,M0 c0,M0 c1,Zba c2];rfl
    · rw [if_neg c1];simp only [Zyw,M0 c0,Zba c1];rfl
  · rw [if_neg c0];simp only [Zyw,Zba c0];rfl
theorem Zyx:∀ n:Nat,n<256→∀ t ∈ [(46:UInt8),103,105,116],decide ((n:Int)<128∧Zbb n t.toNat=true)=(Zgc (UInt8.ofNat n)==t):=by decide +kernel
theorem Z6c {s:List UInt8} (hs:s.length=4):Zyw s=Zgd s:=by
  match s,hs with
  | [a,b,c,d],_ =>
    have key:∀ (x:UInt8) (t:UInt8),t ∈ [(46:UInt8),103,105,116]→decide ((x.toNat:Int)<128∧Zbb x.toNat t.toNat=true)=(Zgc x==t):=fun x t ht=>by
      have:=Zyx x.toNat x.toNat_lt t ht
      rwa [UInt8.ofNat_toNat] at this
    have h0:=key a 46 (by simp)
    have h1:=key b 103 (by simp)
    have h2:=key c 105 (by simp)
    have h3:=key d 116 (by simp)
    have e0:(Zgc a==46)=(a==46):=by
      have:∀ n:Nat,n<256→(Zgc (UInt8.ofNat n)==46)=(UInt8.ofNat n==46):=by decide +kernel
      have:=this a.toNat a.toNat_lt
      rwa [UInt8.ofNat_toNat] at this
    show (decide ((a.toNat:Int)<128∧Zbb a.toNat (46:UInt8).toNat=true)&&(decide ((b.toNat:Int)<128∧Zbb b.toNat (103:UInt8).toNat=true)&&(decide ((c.toNat:Int)<128∧Zbb c.toNat (105:UInt8).toNat=true)&&decide ((d.toNat:Int)<128∧Zbb d.toNat (116:UInt8).toNat=true))))=_
    rw [h0,h1,h2,h3,e0]
    simp only [Zgd,Yq2]
end Cod
namespace Cod
open Go
set_option maxRecDepth 100000
def Zow (b0 a1 a2 a3:Nat) (c1 c2 c3:Bool):Nat × Nat :=
  if b0<0x80 then (b0,1)
  else if b0/32==6&&c1 then (if b0%32*64+a1%64 ≥ 0x80 then (b0%32*64+a1%64,2) else (65533,1))
  else if b0/16==14&&c1&&c2 then
    (if b0%16*4096+a1%64*64+a2%64 ≥ 0x800&&Utf8.valid ((b0%16*4096+a1%64*64+a2%64:Nat):Int) then (b0%16*4096+a1%64*64+a2%64,3) else (65533,1))
  else if b0/8==30&&c1&&c2&&c3 then
    (if b0%8*262144+a1%64*4096+a2%64*64+a3%64 ≥ 0x10000&&Utf8.valid ((b0%8*262144+a1%64*4096+a2%64*64+a3%64:Nat):Int) then (b0%8*262144+a1%64*4096+a2%64*64+a3%64,4) else (65533,1))
  else (65533,1)
theorem Yhv {b0 a1 a2 a3:Nat} {c1 c2 c3:Bool} (h:b0<128):Zow b0 a1 a2 a3 c1 c2 c3=(b0,1):=by unfold Zow;rw [if_pos h]
theorem Yat {b0 a1 a2 a3:Nat} {c1 c2 c3:Bool} (h:128≤b0) (h2:b0<256):128≤(Zow b0 a1 a2 a3 c1 c2 c3).1∧(Zow b0 a1 a2 a3 c1 c2 c3).1≤1114111 ∧
    ((Zow b0 a1 a2 a3 c1 c2 c3).2=1∨((Zow b0 a1 a2 a3 c1 c2 c3).2=2∧c1=true)∨((Zow b0 a1 a2 a3 c1 c2 c3).2=3∧c1=true∧c2=true)∨((Zow b0 a1 a2 a3 c1 c2 c3).2=4∧c1=true∧c2=true∧c3=true)):=by
  unfold Zow
  rw [if_neg (by omega)]
  split
  · rename_i h3
    simp only [Yql] at h3
    split
    · exact ⟨by assumption,by omega,.inr (.inl ⟨rfl,h3.2⟩)⟩
    · exact ⟨by omega,by omega,.inl rfl⟩
  · split
    · rename_i h3
      simp only [Yql] at h3
      split
      · rename_i h4
        simp only [Yql,decide_eq_true_eq] at h4
        exact ⟨by omega,by omega,.inr (.inr (.inl ⟨rfl,h3.1.2,h3.2⟩))⟩
      · exact ⟨by omega,by omega,.inl rfl⟩
    · split
      · rename_i h3
        simp only [Yql] at h3
        split
        · rename_i h4
          simp only [Yql,decide_eq_true_eq,Utf8.valid,Bool.or_eq_true] at h4
          exact ⟨by omega,by omega,.inr (.inr (.inr ⟨rfl,h3.1.1.2,h3.1.2,h3.2⟩))⟩
        · exact ⟨by omega,by omega,.inl rfl⟩
      · exact ⟨by omega,by omega,.inl rfl⟩
theorem Zp2 {l:List UInt8} {p:Nat} (h:p<l.length) :
    (bat l p<128∧(((Zbi l p).1:Nat):Int)=bat l p∧(Zbi l p).2=1) ∨
    (128≤bat l p∧128≤(Zbi l p).1∧(Zbi l p).1≤1114111∧1≤(Zbi l p).2∧∀ j,p≤j→j<p+(Zbi l p).2→j<l.length∧128≤bat l j):=by
  have hs:(⟨l.toArray⟩:ByteArray).size=l.length:=by simp [ByteArray.size]
  have h0:((⟨l.toArray⟩:ByteArray).get! (p+0)).toNat=(l.getD p 0).toNat:=Z3s h
  have hc:∀ k,(decide (p+k<(⟨l.toArray⟩:ByteArray).size)&&((⟨l.toArray⟩:ByteArray).get! (p+k)).toNat/64==2)=true→p+k<l.length∧128≤bat l (p+k):=by
    intro k hk
    simp only [Yql,decide_eq_true_eq,beq_iff_eq,hs] at hk
    refine ⟨hk.1,?_⟩
    have:=Z3s hk.1
    unfold bat
    omega
  have e:Zbi l p=Zow ((⟨l.toArray⟩:ByteArray).get! (p+0)).toNat ((⟨l.toArray⟩:ByteArray).get! (p+1)).toNat ((⟨l.toArray⟩:ByteArray).get! (p+2)).toNat ((⟨l.toArray⟩:ByteArray).get! (p+3)).toNat
    (decide (p+1<(⟨l.toArray⟩:ByteArray).size)&&((⟨l.toArray⟩:ByteArray).get! (p+1)).toNat/64==2) (decide (p+2<(⟨l.toArray⟩:ByteArray).size)&&((⟨l.toArray⟩:ByteArray).get! (p+2)).toNat/64==2)
    (decide (p+3<(⟨l.toArray⟩:ByteArray).size)&&((⟨l.toArray⟩:ByteArray).get! (p+3)).toNat/64==2):=rfl
  have k1:=hc 1
  have k2:=hc 2
  have k3:=hc 3
  rw [h0] at e
  generalize (decide (p+1<(⟨l.toArray⟩:ByteArray).size)&&((⟨l.toArray⟩:ByteArray).get! (p+1)).toNat/64==2)=c1 at e k1
  generalize (decide (p+2<(⟨l.toArray⟩:ByteArray).size)&&((⟨l.toArray⟩:ByteArray).get! (p+2)).toNat/64==2)=c2 at e k2
  generalize (decide (p+3<(⟨l.toArray⟩:ByteArray).size)&&((⟨l.toArray⟩:ByteArray).get! (p+3)).toNat/64==2)=c3 at e k3
  generalize ((⟨l.toArray⟩:ByteArray).get! (p+1)).toNat=a1 at e
  generalize ((⟨l.toArray⟩:ByteArray).get! (p+2)).toNat=a2 at e
  generalize ((⟨l.toArray⟩:ByteArray).get! (p+3)).toNat=a3 at e
  have hlt:=(l.getD p 0).toNat_lt
  by_cases hb:bat l p<128
  · refine .inl ⟨hb,?_⟩
    unfold bat at hb ⊢
    rw [e,Yhv (by omega)]
    exact ⟨rfl,rfl⟩
  · have hb':=hb
    unfold bat at hb
    obtain ⟨h1,h2,h3⟩:=Yat (a1:=a1) (a2:=a2) (a3:=a3) (c1:=c1) (c2:=c2) (c3:=c3) (b0:=(l.getD p 0).toNat) (by omega) hlt
    rw [←e] at h1 h2 h3
    refine .inr ⟨by omega,h1,h2,by omega,fun j j1 j2=>?_⟩
    have:j=p∨j=p+1∨j=p+2∨j=p+3:=by omega
    rcases this with rfl|rfl|rfl|rfl
    · exact ⟨h,by omega⟩
    · exact k1 (by rcases h3 with h3|h3|h3|h3<;>first|omega|exact h3.2|exact h3.2.1)
    · exact k2 (by rcases h3 with h3|h3|h3|h3<;>first|omega|exact h3.2.2|exact h3.2.2.1)
    · exact k3 (by rcases h3 with h3|h3|h3|h3<;>first|omega|exact h3.2.2.2)
theorem Yhw {r:Int} (h0:128≤r) (h1:r≤1114111):2≤(Zbj r).length∧(Zbj r).length≤4∧((Zbj r).length=2→128≤bat (Zbj r) 1):=by
  unfold Zbj Utf8.encode Utf8.runeError
  simp only []
  generalize hc:(if Utf8.valid r=true then r.toNat else 65533)=c
  have hc0:128≤c:=by
    rw [←hc];split
    · omega
    · omega
  rw [if_neg (by omega)]
  split
  · refine ⟨by simp,by simp,fun _=>?_⟩
    simp [bat]
    omega
  · split<;>simp
theorem Zyy {r:Int} (h0:128≤r):S E0 F.K9 [.int .i32 r] []=some (.bool (decide (r<55296)||(decide (57343<r)&&decide (r≤1114111))),[]):=by
  rw [Zc9 Zt3 rfl rfl]
  by_cases h1:r<55296
  · simp -dsimp (disch:=first|omega|(simp only [A5]<;>omega)|fail) only [L.K9,go_sem,reduceIte,reduceCtorEq,B2,B3,B4,B5,B6,B7,B8,B9,C0,C1,C2,C3,C4,C5,C6,C7,C8,C9,D0,A4,M0 h1]
  · by_cases h2:57343<r
    · by_cases h3:r≤1114111
      · simp -dsimp (disch:=first|omega|(simp only [A5]<;>omega)|fail) only [L.K9,go_sem,reduceIte,reduceCtorEq,B2,B3,B4,B5,B6,B7,B8,B9,C0,C1,C2,C3,C4,C5,C6,C7,C8,C9,D0,A4,Zba h1,M0 h2,M0 h3]
      · simp -dsimp (disch:=first|omega|(simp only [A5]<;>omega)|fail) only [L.K9,go_sem,reduceIte,reduceCtorEq,B2,B3,B4,B5,B6,B7,B8,B9,C0,C1,C2,C3,C4,C5,C6,C7,C8,C9,D0,A4,Zba h1,M0 h2,Zba h3]
    · simp -dsimp (disch:=first|omega|(simp only [A5]<;>omega)|fail) only [L.K9,go_sem,reduceIte,reduceCtorEq,B2,B3,B4,B5,B6,B7,B8,B9,C0,C1,C2,C3,C4,C5,C6,C7,C8,C9,D0,A4,Zba h1,Zba h2]
theorem Zcs {l:List UInt8} {c:Int}:S E0 F.M4 [.str l,.int .u8 c] []=some (.int .i64 (J1 l (byt c)),[]):=by
  rw [Zc9 Zty rfl rfl]
  have h:S E0 F.M7 [.str l,.int .u8 c] []=some (.int .i64 (J1 l (byt c)),[]):=by
    rw [Zc9 Zjt rfl rfl]
    simp -dsimp (disch:=first|omega|(simp only [A5]<;>omega)|fail) only [L.M7,go_sem,reduceIte,reduceCtorEq,B2,B3,B4,B5,B6,B7,B8,B9,C0,C1,C2,C3,C4,C5,C6,C7,C8,C9,D0,A4,Zyi]
  simp -dsimp (disch:=first|omega|(simp only [A5]<;>omega)|fail) only [L.M4,go_sem,reduceIte,reduceCtorEq,B2,B3,B4,B5,B6,B7,B8,B9,C0,C1,C2,C3,C4,C5,C6,C7,C8,C9,D0,A4,h]
theorem Zyz:S E0 F.D1 [.str [47,0],.int .i32 65533] []=some (.int .i64 (-1),[]):=Zec.2 ⟨60,by kernel_rfl⟩
theorem Zl3 {r:Int} (h0:0≤r) (h1:r<128):S E0 F.D1 [.str [47,0],.int .i32 r] []=some (.int .i64 (J1 [47,0] (byt r)),[]):=by
  rw [Zc9 Zdy rfl rfl]
  have h2:IntKind.u8.wrap r=r:=by rw [Zcz];omega
  simp -dsimp (disch:=first|omega|(simp only [A5]<;>omega)|fail) only [L.D1,go_sem,reduceIte,reduceCtorEq,B2,B3,B4,B5,B6,B7,B8,B9,C0,C1,C2,C3,C4,C5,C6,C7,C8,C9,D0,A4,M0 h0,M0 h1,h2,Zcs]
theorem Zuq {r:Int} (h0:128≤r) (h1:r≤1114111):S E0 F.D1 [.str [47,0],.int .i32 r] []=some (.int .i64 (-1),[]):=by
  by_cases he:r=65533
  · subst he;exact Zyz
  · have h2:¬ r<128:=by omega
    have h3:(0:Int)≤r:=by omega
    rw [Zc9 Zdy rfl rfl]
    have hvv:S E0 F.K9 [.int .i32 r] []=some (.bool (decide (r<55296)||decide (57343<r)),[]):=by rw [Zyy h0,M0 h1,Yq5]
    cases hv:(decide (r<55296)||decide (57343<r)) with
    | false=>simp -dsimp (disch:=first|omega|(simp only [A5]<;>omega)|fail) only [L.D1,go_sem,reduceIte,reduceCtorEq,B2,B3,B4,B5,B6,B7,B8,B9,C0,C1,C2,C3,C4,C5,C6,C7,C8,C9,D0,A4,M0 h3,Zba h2,Zey he,hvv,hv]
    | true =>
      obtain ⟨e1,e2,e3⟩:=Yhw h0 h1
      simp -dsimp (disch:=first|omega|(simp only [A5]<;>omega)|fail) only [L.D1,go_sem,reduceIte,reduceCtorEq,B2,B3,B4,B5,B6,B7,B8,B9,C0,C1,C2,C3,C4,C5,C6,C7,C8,C9,D0,A4,M0 h3,Zba h2,Zey he,hvv,hv]
      rw [G9 L.D1.x1.eq_1]
      by_cases e4:(Zbj r).length=2
      · have e5:=e3 e4
        have b1:bat [47,0] 1=0:=rfl
        have b2:((((0:UInt8).toNat:Nat):Int) != bat (Zbj r) 1)=true:=Zny (by show (0:Int)≠_;omega)
        have b3:(((2:Nat):Int)-1).toNat=1:=rfl
        have b4:J1 ([47,0].drop (((2:Nat):Int)-1+1).toNat) (byt (bat (Zbj r) 1)) = -1:=rfl
        have b5:J1 [] (byt (bat (Zbj r) 1)) = -1:=rfl
        simp -dsimp (disch:=first|omega|(simp only [A5]<;>omega)|fail) only [go_sem,reduceIte,reduceCtorEq,B2,B3,B4,B5,B6,B7,B8,B9,C0,C1,C2,C3,C4,C5,C6,C7,C8,C9,D0,A4,L.D1.r2,e4,b1,b2,b3,Zcs,E2,D9,D6,b4,b5,List.drop_nil]
      · simp -dsimp (disch:=first|omega|(simp only [A5]<;>omega)|fail) only [go_sem,reduceIte,reduceCtorEq,B2,B3,B4,B5,B6,B7,B8,B9,C0,C1,C2,C3,C4,C5,C6,C7,C8,C9,D0,A4,L.D1.r2]
def Zej (b:UInt8):Bool:=b==47||b==0
theorem Yhx (b:UInt8):(0≤J1 [47,0] b)↔Zej b=true:=by
  unfold J1 Zej
  by_cases h1:b=47
  · subst h1;simp
  · by_cases h2:b=0
    · subst h2;simp [Ysc]
    · simp [h1,h2]
theorem Zd4 (l:List UInt8) (i:Nat):byt (bat l i)=l.getD i 0:=by
  unfold byt bat
  rw [Int.toNat_natCast,UInt8.ofNat_toNat]
theorem Yhy {s:List UInt8} (hs:s.length≤1000000):∀ (m p:Nat),p+m≤s.length→s.length≤p+m→∃ i:Int,((0≤i)↔(s.drop p).any Zej=true) ∧
    X E0 [.tmp 4] (.c L.B1.x1::.lp [1,45] L.B1.x1::.blk 2::.c L.B1.r2::[]) ⟨[(1,.str [47,0]),(45,.it (.s 1000000 0) 0)],[(.s 1000000 0,⟨0,true,true,true,[.itr s p]⟩)]⟩=some (.int .i64 i,[]):=by
  intro m
  induction m using Nat.strongRecOn with
  | _ m ih =>
    intro p h1 h2
    rw [G9 L.B1.x1.eq_1]
    by_cases hp:p<s.length
    · have hd:s.drop p=s.getD p 0::s.drop (p+1):=by
        rw [Yr9 hp];simp [hp]
      rcases Zp2 hp with ⟨e1,e2,e3⟩|⟨e1,e2,e3,e4,e5⟩
      · cases hbad:Zej (s.getD p 0) with
        | true =>
          have h3:=(Yhx (byt (bat s p))).2 (by rw [Zd4];exact hbad)
          refine ⟨p,⟨fun _=>by rw [hd,Ysl,hbad];rfl,fun _=>by omega⟩,?_⟩
          simp -dsimp (disch:=first|omega|(simp only [A5]<;>omega)|fail) only [go_sem,reduceIte,reduceCtorEq,B2,B3,B4,B5,B6,B7,B8,B9,C0,C1,C2,C3,C4,C5,C6,C7,C8,C9,D0,A4,hp,e2,e3,Zl3 (R4 s p).1 e1,M0 h3]
        | false =>
          have h3:¬ 0≤J1 [47,0] (byt (bat s p)):=fun h=>by rw [Yhx,Zd4,hbad] at h;cases h
          obtain ⟨i,h4,h5⟩:=ih (m-1) (by omega) (p+1) (by omega) (by omega)
          refine ⟨i,by rw [h4,hd,Ysl,hbad,Ysj],?_⟩
          rw [←h5]
          simp -dsimp (disch:=first|omega|(simp only [A5]<;>omega)|fail) only [go_sem,reduceIte,reduceCtorEq,B2,B3,B4,B5,B6,B7,B8,B9,C0,C1,C2,C3,C4,C5,C6,C7,C8,C9,D0,A4,hp,e2,e3,Zl3 (R4 s p).1 e1,Zba h3]
      · have hw:p+(Zbi s p).2≤s.length:=by
          have:=(e5 (p+(Zbi s p).2-1) (by omega) (by omega)).1
          omega
        obtain ⟨i,h4,h5⟩:=ih (m-(Zbi s p).2) (by omega) (p+(Zbi s p).2) (by omega) (by omega)
        refine ⟨i,?_,?_⟩
        · rw [h4]
          have:∀ w,p+w≤s.length→(∀ j,p≤j→j<p+w→j<s.length∧128≤bat s j)→(s.drop p).any Zej=(s.drop (p+w)).any Zej:=by
            intro w
            induction w with
            | zero=>intro _ _;rfl
            | succ w ihw =>
              intro hw1 hw2
              rw [ihw (by omega) (fun j j1 j2=>hw2 j j1 (by omega)),Yr9 (by omega:p+w<s.length),Ysl]
              have hh:=(hw2 (p+w) (by omega) (by omega)).2
              have:Zej s[p+w]=false:=by
                unfold bat at hh
                rw [List.getD_eq_getElem?_getD,List.getElem?_eq_getElem (by omega),Yre] at hh
                unfold Zej
                rw [Bool.or_eq_false_iff,beq_eq_false_iff_ne,beq_eq_false_iff_ne]
                constructor<;>(intro hx;rw [hx] at hh;simp at hh)
              rw [this,Ysj]
              rfl
          rw [this _ hw e5]
        · rw [←h5]
          have h6:=Zuq (r:=((Zbi s p).1:Int)) (by omega) (by omega)
          simp -dsimp (disch:=first|omega|(simp only [A5]<;>omega)|fail) only [go_sem,reduceIte,reduceCtorEq,B2,B3,B4,B5,B6,B7,B8,B9,C0,C1,C2,C3,C4,C5,C6,C7,C8,C9,D0,A4,hp,h6]
    · refine ⟨-1,⟨fun h=>by omega,fun h=>by rw [Yr8 (by omega)] at h;simp at h⟩,?_⟩
      simp -dsimp (disch:=first|omega|(simp only [A5]<;>omega)|fail) only [go_sem,reduceIte,reduceCtorEq,B2,B3,B4,B5,B6,B7,B8,B9,C0,C1,C2,C3,C4,C5,C6,C7,C8,C9,D0,A4,hp,L.B1.r2]
def Zhz:List AV:=(List.range 256).map fun i=>.bool (i==47||i==0)
theorem go_set:S E0 F.Q4 [.str [47,0]] []=some (.tup [.agg Zhz,.bool true],[]):=Zec.2 ⟨60,by kernel_rfl⟩
theorem Yhz:∀ n:Nat,n<256→Zhz[n]? = some (.bool (Zej (UInt8.ofNat n))):=by
  intro n hn
  simp only [Zhz,List.getElem?_map,List.getElem?_range hn,Option.map_some,Zej]
  have:∀ n:Nat,n<256→(n==47||n==0)=(UInt8.ofNat n==47||UInt8.ofNat n==0):=by decide +kernel
  rw [this n hn]
theorem Zbn:flats Zhz=true:=by kernel_rfl
theorem Zbv:Zhz.length=256:=by simp [Zhz]
end Cod
namespace Cod
open Go
set_option maxRecDepth 100000
theorem Yoe {b:Int} (h0:0≤b) (h1:b<256):Zhz[b.toNat]? = some (.bool (Zej (byt b))):=Yhz b.toNat (by omega)
theorem Zp3:leadss Zhz=false:=by kernel_rfl
theorem Zp4:refsOfs Zhz=[]:=by kernel_rfl
theorem Zp5 (f:Site→Nat→Option (Site × Nat)):rens f Zhz=Zhz:=rens_flats Zhz Zbn
theorem Zk8:J9 Zhz=true:=by kernel_rfl
theorem Zl4 {x:Site} {b:Int} (h0:0≤b) (h1:b<256):S E0 F.Q5 [.ref (.up x) 0 0,.int .u8 b] [(.up x,⟨0,true,true,true,Zhz⟩)]=some (.bool (Zej (byt b)),[(.up x,⟨0,true,true,true,Zhz⟩)]):=by
  rw [Zc9 Zjs rfl rfl]
  simp -dsimp (disch:=first|omega|(simp only [A5]<;>omega)|fail) only [L.Q5,go_sem,reduceIte,reduceCtorEq,B2,B3,B4,B5,B6,B7,B8,B9,C0,C1,C2,C3,C4,C5,C6,C7,C8,C9,D0,A4,Zbv,Zbn,Zp3,Zp4,Zp5,Zk8,Yoe h0 h1]
theorem Yh0 {s:List UInt8} (hs:s.length≤1000000):∀ (m p:Nat),p+m=s.length→∃ i:Int,((0≤i)↔(s.drop p).any Zej=true) ∧
    X E0 [.tmp 4] (.c L.B1.x0::.lp [0,6,8] L.B1.x0::.blk 0::.c L.B1.r0::.c L.B1.r1::[]) ⟨[(0,.str s),(6,.ref (.s 1000000 0) 0 0),(8,.int .i64 p)],[(.s 1000000 0,⟨0,true,true,true,Zhz⟩)]⟩=some (.int .i64 i,[]):=by
  intro m
  induction m with
  | zero =>
    intro p h
    refine ⟨-1,⟨fun h=>by omega,fun h=>by rw [Yr8 (by omega)] at h;simp at h⟩,?_⟩
    rw [G9 L.B1.x0.eq_1]
    simp -dsimp (disch:=first|omega|(simp only [A5]<;>omega)|fail) only [go_sem,reduceIte,reduceCtorEq,B2,B3,B4,B5,B6,B7,B8,B9,C0,C1,C2,C3,C4,C5,C6,C7,C8,C9,D0,A4,Zbv,Zbn,Zp3,Zp4,Zp5,Zk8,L.B1.r0]
  | succ m ih =>
    intro p h
    have hp:p<s.length:=by omega
    have hd:s.drop p=s.getD p 0::s.drop (p+1):=by
      rw [Yr9 hp];simp [hp]
    obtain ⟨b0,b1⟩:=R4 s p
    cases hbad:Zej (s.getD p 0) with
    | true =>
      have h3:Zej (byt (bat s p))=true:=by rw [Zd4];exact hbad
      refine ⟨p,⟨fun _=>by rw [hd,Ysl,hbad];rfl,fun _=>by omega⟩,?_⟩
      rw [G9 L.B1.x0.eq_1]
      simp -dsimp (disch:=first|omega|(simp only [A5]<;>omega)|fail) only [go_sem,reduceIte,reduceCtorEq,B2,B3,B4,B5,B6,B7,B8,B9,C0,C1,C2,C3,C4,C5,C6,C7,C8,C9,D0,A4,Zbv,Zbn,Zp3,Zp4,Zp5,Zk8,Zl4 b0 b1,h3]
    | false =>
      have h3:Zej (byt (bat s p))=false:=by rw [Zd4];exact hbad
      obtain ⟨i,h4,h5⟩:=ih (p+1) (by omega)
      refine ⟨i,by rw [h4,hd,Ysl,hbad,Ysj],?_⟩
      rw [←h5,G9 L.B1.x0.eq_1]
      simp -dsimp (disch:=first|omega|(simp only [A5]<;>omega)|fail) only [go_sem,reduceIte,reduceCtorEq,B2,B3,B4,B5,B6,B7,B8,B9,C0,C1,C2,C3,C4,C5,C6,C7,C8,C9,D0,A4,Zbv,Zbn,Zp3,Zp4,Zp5,Zk8,Zl4 b0 b1,h3]
      rfl
theorem Zur {n:Int}:S E0 F.V8 [.int .i64 n] []=some (.bool (decide (8<n)),[]):=by
  rw [Zc9 Ztv rfl rfl]
  simp -dsimp (disch:=first|omega|(simp only [A5]<;>omega)|fail) only [L.V8,go_sem,reduceIte,reduceCtorEq,B2,B3,B4,B5,B6,B7,B8,B9,C0,C1,C2,C3,C4,C5,C6,C7,C8,C9,D0,A4]
theorem go_any {s:List UInt8} (hs:s.length≤1000000):∃ i:Int,((0≤i)↔s.any Zej=true)∧S E0 F.B1 [.str s,.str [47,0]] []=some (.int .i64 i,[]):=by
  rw [Zc9 Zjo rfl rfl]
  have e0:(([47,0]:List UInt8) == [])=false:=rfl
  by_cases h8:8<s.length
  · obtain ⟨i,h1,h2⟩:=Yh0 hs s.length 0 (by omega)
    refine ⟨i,by simpa using h1,?_⟩
    rw [←h2]
    have h9:decide (8<(s.length:Int))=true:=by simp;omega
    simp -dsimp (disch:=first|omega|(simp only [A5]<;>omega)|fail) only [L.B1,go_sem,reduceIte,reduceCtorEq,B2,B3,B4,B5,B6,B7,B8,B9,C0,C1,C2,C3,C4,C5,C6,C7,C8,C9,D0,A4,Zbv,Zbn,Zp3,Zp4,Zp5,Zk8,e0,Zur,h9,go_set]
    rfl
  · obtain ⟨i,h1,h2⟩:=Yhy hs s.length 0 (by omega) (by omega)
    refine ⟨i,by simpa using h1,?_⟩
    rw [←h2]
    have h9:decide (8<(s.length:Int))=false:=by simp;omega
    simp -dsimp (disch:=first|omega|(simp only [A5]<;>omega)|fail) only [L.B1,go_sem,reduceIte,reduceCtorEq,B2,B3,B4,B5,B6,B7,B8,B9,C0,C1,C2,C3,C4,C5,C6,C7,C8,C9,D0,A4,Zbv,Zbn,Zp3,Zp4,Zp5,Zk8,e0,Zur,h9,L.B1.r1]
theorem Zj4 {s:List UInt8} (hs:s.length≤1000000):S E0 F.M1 [.str s,.str [47,0]] []=some (.bool (s.any Zej),[]):=by
  rw [Zc9 Zji rfl rfl]
  obtain ⟨i,h1,h2⟩:=go_any hs
  have h3:decide (0≤i)=s.any Zej:=by
    cases h:s.any Zej with
    | true=>simp [h1.2 h]
    | false=>rw [decide_eq_false_iff_not,h1,h];simp
  simp -dsimp (disch:=first|omega|(simp only [A5]<;>omega)|fail) only [L.M1,go_sem,reduceIte,reduceCtorEq,B2,B3,B4,B5,B6,B7,B8,B9,C0,C1,C2,C3,C4,C5,C6,C7,C8,C9,D0,A4,h2,h3]
theorem Zy0 {s:List UInt8} (hs:s.length=4) (h:Zgd s=true):bat s 1<128∧bat s 2<128:=by
  rw [←Z6c hs] at h
  simp only [Zyw,Yql,decide_eq_true_eq] at h
  exact ⟨h.2.1.1,h.2.2.1.1⟩
theorem Yof (s:List UInt8):s.any Zej=(s.contains 47||s.contains 0):=by
  induction s with
  | nil=>rfl
  | cons b s ih =>
    rw [Ysl,ih,Ysm,Ysm]
    unfold Zej
    rw [show (47==b)=(b==47) from Bool.beq_comm,show (0==b)=(b==0) from Bool.beq_comm]
    cases (b==47)<;>cases (b==0)<;>cases s.contains 47<;>cases s.contains 0<;>rfl
theorem Yau {s:List UInt8} (h:s.length≠4):Zgd s=false:=by
  unfold Zgd
  split
  · exact absurd rfl h
  · rfl
theorem Yog {s:List UInt8} (hs:s.length≤1000000):S E0 F.L5 [.str s] []=some (.bool (P3 s),[]):=by
  rw [Zc9 Zjn rfl rfl]
  cases c1:(s == []) with
  | true =>
    have:P3 s=false:=by rw [eq_of_beq c1];rfl
    rw [this]
    simp -dsimp (disch:=first|omega|(simp only [A5]<;>omega)|fail) only [L.L5,go_sem,reduceIte,reduceCtorEq,B2,B3,B4,B5,B6,B7,B8,B9,C0,C1,C2,C3,C4,C5,C6,C7,C8,C9,D0,A4,c1]
  | false =>
  cases c2:(s == [46]) with
  | true =>
    have:P3 s=false:=by rw [eq_of_beq c2];rfl
    rw [this]
    simp -dsimp (disch:=first|omega|(simp only [A5]<;>omega)|fail) only [L.L5,go_sem,reduceIte,reduceCtorEq,B2,B3,B4,B5,B6,B7,B8,B9,C0,C1,C2,C3,C4,C5,C6,C7,C8,C9,D0,A4,c1,c2]
  | false =>
  cases c3:(s == [46,46]) with
  | true =>
    have:P3 s=false:=by rw [eq_of_beq c3];rfl
    rw [this]
    simp -dsimp (disch:=first|omega|(simp only [A5]<;>omega)|fail) only [L.L5,go_sem,reduceIte,reduceCtorEq,B2,B3,B4,B5,B6,B7,B8,B9,C0,C1,C2,C3,C4,C5,C6,C7,C8,C9,D0,A4,c1,c2,c3]
  | false =>
  have hl:1≤s.length:=by
    cases s with
    | nil=>simp at c1
    | cons b s=>simp
  by_cases c4:100<s.length
  · have:P3 s=false:=by
      unfold P3
      rw [show decide (s.length≤100)=false from Zba (by omega)]
      simp
    have c4':decide (100<(s.length:Int))=true:=M0 (by omega)
    rw [this]
    simp -dsimp (disch:=first|omega|(simp only [A5]<;>omega)|fail) only [L.L5,go_sem,reduceIte,reduceCtorEq,B2,B3,B4,B5,B6,B7,B8,B9,C0,C1,C2,C3,C4,C5,C6,C7,C8,C9,D0,A4,c1,c2,c3,c4']
  · have c4':decide (100<(s.length:Int))=false:=Zba (by omega)
    have hn:P3 s=(!(s.any Zej) && !Zgd s):=by
      unfold P3
      rw [Yof,show decide (s.length≤100)=true from M0 (by omega),show decide (1≤s.length)=true from M0 hl,show (s != [46])=true by simp [bne,c2],show (s != [46,46])=true by simp [bne,c3]]
      cases s.contains 47<;>cases s.contains 0<;>cases Zgd s<;>rfl
    by_cases c5:s.length=4
    · have c5':((s.length:Int)==4)=true:=Znx (by omega)
      have hf:=Yod c5
      rw [Z6c c5] at hf
      cases hg:Zgd s with
      | true =>
        obtain ⟨g1,g2⟩:=Zy0 c5 hg
        rw [hg] at hf
        rw [hn,hg]
        simp -dsimp (disch:=first|omega|(simp only [A5]<;>omega)|fail) only [L.L5,go_sem,reduceIte,reduceCtorEq,B2,B3,B4,B5,B6,B7,B8,B9,C0,C1,C2,C3,C4,C5,C6,C7,C8,C9,D0,A4,c1,c2,c3,c4',c5',hf,M0 g1,M0 g2,Ysa,Bool.and_false]
      | false =>
        rw [hg] at hf
        rw [hn,hg]
        simp -dsimp (disch:=first|omega|(simp only [A5]<;>omega)|fail) only [L.L5,go_sem,reduceIte,reduceCtorEq,B2,B3,B4,B5,B6,B7,B8,B9,C0,C1,C2,C3,C4,C5,C6,C7,C8,C9,D0,A4,c1,c2,c3,c4',c5',hf,Zj4 hs,Ysb,Yq5]
    · have c5':((s.length:Int)==4)=false:=Zey (by omega)
      rw [hn,Yau c5]
      simp -dsimp (disch:=first|omega|(simp only [A5]<;>omega)|fail) only [L.L5,go_sem,reduceIte,reduceCtorEq,B2,B3,B4,B5,B6,B7,B8,B9,C0,C1,C2,C3,C4,C5,C6,C7,C8,C9,D0,A4,c1,c2,c3,c4',c5',Zj4 hs,Ysb,Yq5]
end Cod
namespace Cod
open Go
theorem Z6d {E E':Env} (h:E'.glob=E.glob) (sl loc:List (Nat × AV)):evR E' sl loc=evR E sl loc:=by
  funext x;cases x<;>simp [evR,h]
theorem Z6e {E E':Env} (h:E'.glob=E.glob) (c:N3) (sl:List (Nat × AV)) (o:LOper) (r:RS):opR E' c sl o r=opR E c sl o r:=by
  unfold opR;rw [Z6d h]
theorem Z3t {E E':Env} (h:E'.glob=E.glob) (c:N3) (sl:List (Nat × AV)) (o:LOper) (r:RS):U3 E' c sl o r=U3 E c sl o r:=by
  unfold U3;rw [Z6d h]
theorem Yh1 {E E':Env} (h:E'.glob=E.glob) (c:N3) (sl:List (Nat × AV)):∀ (os:List LOper) (r:RS),R1 E' c sl os r=R1 E c sl os r:=by
  intro os
  induction os with
  | nil=>intro r;rfl
  | cons o os ih=>intro r;simp only [R1,Z6e h,ih]
theorem Zy1 {E E':Env} (h:E'.glob=E.glob) (c:N3) (sl:List (Nat × AV)):∀ (os:List LOper) (r:RS),N5 E' c sl os r=N5 E c sl os r:=by
  intro os
  induction os with
  | nil=>intro r;rfl
  | cons o os ih=>intro r;simp only [N5,Z6e h,Z3t h,ih]
theorem ev_env {E E':Env} (h:E'.glob=E.glob) (sl:List (Nat × AV)) (x:LO):ev E' sl x=ev E sl x:=by
  cases x<;>simp [ev,h]
theorem Yh2 {E E':Env} (h:E'.glob=E.glob) (c:N3) (st:St) (k:List It):move E' c st k=move E c st k:=by
  unfold move
  simp only [ev_env h,Yh1 h,Zy1 h]
structure Ext (E E':Env):Prop where
  glob:E'.glob=E.glob
  fn:E'.fn=E.fn
  known:∀ f h,E.known f=some h→E'.known f=some h
  none:∀ f,E.known f=none→E'.known f=none∨E.fn f=none
theorem Yh3 {E E':Env} (h:Ext E E'):∀ n,(∀ fn k st r,Zb2 E n fn k st=some r→Zb2 E' n fn k st=some r)∧LeC (acall E n) (acall E' n):=by
  intro n
  induction n with
  | zero=>exact ⟨fun fn k st r h=>by simp [Zb2] at h,fun f a σ r h=>by simp [acall] at h⟩
  | succ n ih =>
    obtain ⟨ih1,ih2⟩:=ih
    constructor
    · intro fn k st r hx
      rw [Zb2] at hx ⊢
      rw [Yh2 h.glob]
      cases hm:move E (acall E n) st k with
      | go k' st'=>rw [hm] at hx;rw [Zcn ih2 (by simp) hm];exact ih1 _ _ _ _ hx
      | done=>rw [hm] at hx;rw [Zcn ih2 (by simp) hm];exact hx
      | stuck=>rw [hm] at hx;cases hx
    · intro f a σ r hx
      rw [acall] at hx ⊢
      cases hk:E.known f with
      | some g=>rw [hk] at hx;rw [h.known f g hk];exact hx
      | none =>
        rw [hk] at hx
        cases hf:E.fn f with
        | none=>rw [hf] at hx;cases hx
        | some fn =>
          have hk':E'.known f=Option.none:=(h.none f hk).resolve_right (by rw [hf];simp)
          rw [hk',h.fn,hf]
          rw [hf] at hx;simp only [] at hx ⊢
          cases hb:(a.length==fn.np)<;>rw [hb] at hx<;>simp only [cond_true,cond_false] at hx ⊢
          · cases hx
          · exact ih1 _ _ _ _ hx
theorem R9 {E E':Env} (h:Ext E E') {f:Nat} {a:List AV} {σ:A6} {r:AV × A6} (hx:S E f a σ=some r):S E' f a σ=some r:=by
  obtain ⟨n,hn⟩:=Zec.1 hx
  exact Zec.2 ⟨n,(Yh3 h n).2 _ _ _ _ hn⟩
end Cod
namespace Cod
open Go
theorem ext0:Ext E0 E where
  glob:=rfl
  fn:=rfl
  known f h hk:=hk
  none f hk:=.inl hk
end Cod
namespace Cod
open Go
def Zgh (w e:Int):Int:=if e≠0∧(w=0∨e<w) then e else w
def Zbc (l:List Int):Int:=l.foldl Zgh 0
theorem X3 {b:Bool} {e:Int}:S E F.E8 [.bool b,.int .i64 e] []=some (.int .i64 (if b then e else 0),[]):=by
  rw [S_of Zsp rfl rfl]
  cases b<;>simp -dsimp (disch:=first|omega|(simp only [A5,A2,A3]<;>omega)|fail) only [L.E8,go_sem,reduceIte,reduceCtorEq,B2,B3,B4,B5,B6,B7,B8,B9,C0,C1,C2,C3,C4,C5,C6,C7,C8,C9,D0,A4]
theorem Zy2 {l:List Int} {i:Nat} (h:i<l.length):(N8 l)[i]? = some (.int .i64 (l.getD i 0)):=by
  unfold N8
  rw [List.getElem?_map,List.getElem?_eq_getElem h]
  simp [List.getD,h]
theorem P8:∀ l:List Int,flats (N8 l)=true:=by
  intro l;induction l with
  | nil=>rfl
  | cons a l ih=>show flats (.int .i64 a::N8 l)=true;simp [flats,K1,ih]
theorem N2:∀ l:List Int,refsOfs (N8 l)=[]:=by
  intro l;induction l with
  | nil=>rfl
  | cons a l ih=>show refsOfs (.int .i64 a::N8 l)=[];simp [refsOfs,X4,ih]
theorem U4 (f:Site→Nat→Option (Site × Nat)):∀ l:List Int,rens f (N8 l)=N8 l:=fun l=>rens_flats _ (P8 l)
theorem Yh4 {l:List Int} (hl:l.length≤1000000):∀ (m i:Nat) (w:Int),i+m=l.length →
    X E [.tmp 2] (.c L.F7.x0::.lp [3,6,7,8] L.F7.x0::.blk 0::[.c L.F7.r0]) ⟨[(3,.int .i64 w),(6,.lst (N8 l) l.length),(7,.int .i64 l.length),(8,.int .i64 i)],[]⟩=some (.int .i64 ((l.drop i).foldl Zgh w),[]):=by
  intro m
  induction m with
  | zero =>
    intro i w h
    obtain rfl:i=l.length:=by omega
    rw [G9 L.F7.x0.eq_1,List.drop_length]
    simp -dsimp (disch:=first|omega|(simp only [A5,A2,A3]<;>omega)|fail) only [go_sem,reduceIte,reduceCtorEq,B2,B3,B4,B5,B6,B7,B8,B9,C0,C1,C2,C3,C4,C5,C6,C7,C8,C9,D0,A4,L.F7.r0,P8,N2,U4]
    rfl
  | succ m ih =>
    intro i w h
    have hlt:i<l.length:=by omega
    have h1:=ih (i+1) (Zgh w (l.getD i 0)) (by omega)
    simp only [Ysn,Ysh] at h1
    have hg:=Zy2 hlt
    rw [G9 L.F7.x0.eq_1,Yr9 hlt,List.foldl_cons,show l[i]=l.getD i 0 by simp [List.getD,hlt]]
    generalize l.getD i 0=e at *
    unfold Zgh at h1 ⊢
    by_cases e0:e=0
    · subst e0
      rw [if_neg (by simp)] at h1 ⊢
      simp -dsimp (disch:=first|omega|(simp only [A5,A2,A3]<;>omega)|fail) only [go_sem,reduceIte,reduceCtorEq,B2,B3,B4,B5,B6,B7,B8,B9,C0,C1,C2,C3,C4,C5,C6,C7,C8,C9,D0,A4,P8,N2,U4,hg,h1]
    · by_cases w0:w=0
      · subst w0
        rw [if_pos (by simp [e0])] at h1 ⊢
        simp -dsimp (disch:=first|omega|(simp only [A5,A2,A3]<;>omega)|fail) only [go_sem,reduceIte,reduceCtorEq,B2,B3,B4,B5,B6,B7,B8,B9,C0,C1,C2,C3,C4,C5,C6,C7,C8,C9,D0,A4,P8,N2,U4,hg,h1,e0]
      · by_cases lt:e<w
        · rw [if_pos (by simp [e0,lt])] at h1 ⊢
          simp -dsimp (disch:=first|omega|(simp only [A5,A2,A3]<;>omega)|fail) only [go_sem,reduceIte,reduceCtorEq,B2,B3,B4,B5,B6,B7,B8,B9,C0,C1,C2,C3,C4,C5,C6,C7,C8,C9,D0,A4,P8,N2,U4,hg,h1,e0,w0,lt]
        · rw [if_neg (by simp [e0,lt,w0])] at h1 ⊢
          simp -dsimp (disch:=first|omega|(simp only [A5,A2,A3]<;>omega)|fail) only [go_sem,reduceIte,reduceCtorEq,B2,B3,B4,B5,B6,B7,B8,B9,C0,C1,C2,C3,C4,C5,C6,C7,C8,C9,D0,A4,P8,N2,U4,hg,h1,e0,w0,lt]
theorem Zj5 {l:List Int} (hl:l.length≤1000000):S E F.F7 [.lst (N8 l) l.length] []=some (.int .i64 (Zbc l),[]):=by
  have h:=Yh4 hl l.length 0 0 (by omega)
  simp only [Ysh,Yrp] at h
  rw [S_of Zso rfl rfl]
  simp -dsimp (disch:=first|omega|(simp only [A5,A2,A3]<;>omega)|fail) only [L.F7,go_sem,reduceIte,reduceCtorEq,B2,B3,B4,B5,B6,B7,B8,B9,C0,C1,C2,C3,C4,C5,C6,C7,C8,C9,D0,A4,P8,N2,U4,h]
  rfl
end Cod
namespace Cod
open Go
theorem Zih (x:Int):IntKind.u32.wrap x=x%4294967296:=by
  simp only [IntKind.wrap,IntKind.signed,IntKind.bits]
  simp
theorem Zf5 (a:BitVec 32):BitVec.ofInt 32 (a.toNat:Int)=a:=by
  apply BitVec.eq_of_toNat_eq
  rw [Ysg]
  have:=a.isLt
  omega
theorem Zf6 (a:BitVec 32):(a.toNat:Int)<4294967296:=by have:=a.isLt;omega
theorem w_add (a b:BitVec 32):J2 .add (W a) (W b)=some (W (a+b)):=by
  simp only [W,Z5x,Zih,BitVec.toNat_add]
  simp
theorem w_and (a b:BitVec 32):J2 .and (W a) (W b)=some (W (a &&& b)):=by
  rw [W,W,Z5y,Z15]
  show some (AV.int .u32 (IntKind.u32.wrap (((BitVec.ofInt 32 (a.toNat:Int)) &&& (BitVec.ofInt 32 (b.toNat:Int))).toNat:Int)))=some (AV.int .u32 ((a &&& b).toNat:Int))
  rw [Zf5,Zf5,Zih,Yso (by omega) (Zf6 _)]
theorem w_or (a b:BitVec 32):J2 .or (W a) (W b)=some (W (a ||| b)):=by
  rw [W,W,Yfz,ior]
  show some (AV.int .u32 (IntKind.u32.wrap (((BitVec.ofInt 32 (a.toNat:Int)) ||| (BitVec.ofInt 32 (b.toNat:Int))).toNat:Int)))=some (AV.int .u32 ((a ||| b).toNat:Int))
  rw [Zf5,Zf5,Zih,Yso (by omega) (Zf6 _)]
theorem w_xor (a b:BitVec 32):J2 .xor (W a) (W b)=some (W (a ^^^ b)):=by
  rw [W,W,Z5z,ixor]
  show some (AV.int .u32 (IntKind.u32.wrap (((BitVec.ofInt 32 (a.toNat:Int)) ^^^ (BitVec.ofInt 32 (b.toNat:Int))).toNat:Int)))=some (AV.int .u32 ((a ^^^ b).toNat:Int))
  rw [Zf5,Zf5,Zih,Yso (by omega) (Zf6 _)]
theorem w_not (a:BitVec 32):Zq5 .xor (W a)=some (W (~~~a)):=by
  rw [W,Ygb,inot]
  show some (AV.int .u32 (IntKind.u32.wrap (((BitVec.allOnes 32) ^^^ (BitVec.ofInt 32 (a.toNat:Int))).toNat:Int)))=some (AV.int .u32 ((~~~a).toNat:Int))
  rw [Zf5,BitVec.allOnes_xor,Zih,Yso (by omega) (Zf6 _)]
theorem w_shl' (a:BitVec 32) (k:IntKind) (n:Nat):J2 .shl (W a) (.int k (n:Int))=some (W (a <<< n)):=by
  rw [W,Z50 (by omega),Z16]
  show some (AV.int .u32 (IntKind.u32.wrap ((a.toNat:Int)*2^(Nat.min n 32))))=some (AV.int .u32 ((a <<< n).toNat:Int))
  rw [Zih,BitVec.toNat_shiftLeft,Nat.shiftLeft_eq]
  by_cases h:n≤32
  · rw [show Nat.min n 32=n from Yrz h,Int.natCast_emod,Int.natCast_mul,Ysp]
    rfl
  · rw [show Nat.min n 32=32 from Ysq (by omega)]
    obtain ⟨m,rfl⟩:∃ m,n=32+m:=⟨n-32,by omega⟩
    have h1:a.toNat*2^(32+m)%2^32=0:=by
      rw [Nat.pow_add,←Nat.mul_assoc,Nat.mul_right_comm]
      exact Nat.mul_mod_left _ _
    rw [h1]
    have h2:(a.toNat:Int)*2^32%4294967296=0:=by omega
    rw [h2];rfl
theorem w_shr' (a:BitVec 32) (k:IntKind) (n:Nat):J2 .shr (W a) (.int k (n:Int))=some (W (a >>> n)):=by
  rw [W,Z51 (by omega),Zxh]
  show some (AV.int .u32 ((a.toNat:Int).fdiv (2^(Nat.min n 32))))=some (AV.int .u32 ((a >>> n).toNat:Int))
  rw [BitVec.toNat_ushiftRight,Nat.shiftRight_eq_div_pow]
  have key:∀ m:Nat,((a.toNat:Int)).fdiv (2^m)=((a.toNat/2^m:Nat):Int):=by
    intro m
    rw [Int.fdiv_eq_ediv_of_nonneg _ (Int.le_of_lt (Int.pow_pos (by omega))),Int.natCast_ediv,Ysp]
    rfl
  rw [key]
  by_cases h:n≤32
  · rw [show Nat.min n 32=n from Yrz h]
  · rw [show Nat.min n 32=32 from Ysq (by omega)]
    have h1:a.toNat/2^32=0:=Ysr a.isLt
    have h2:a.toNat/2^n=0:=Ysr (Nat.lt_of_lt_of_le a.isLt (Nat.pow_le_pow_right (by omega) (by omega)))
    rw [h1,h2]
theorem w_shl (a:BitVec 32) (k:IntKind) (n:Int) (h:0≤n):J2 .shl (W a) (.int k n)=some (W (a <<< n.toNat)):=by
  obtain ⟨m,rfl⟩:=Yss h
  rw [w_shl'];rfl
theorem w_shr (a:BitVec 32) (k:IntKind) (n:Int) (h:0≤n):J2 .shr (W a) (.int k n)=some (W (a >>> n.toNat)):=by
  obtain ⟨m,rfl⟩:=Yss h
  rw [w_shr'];rfl
theorem Yav (n:Nat):zer (.int .u32 0) n=F4 (List.replicate n 0):=by simp [zer,F4,W]
theorem Zy3 (l:List (BitVec 32)):flats (F4 l)=true:=by
  induction l with
  | nil=>rfl
  | cons x l ih=>simpa [F4,flats,K1,W] using ih
theorem Zy4 (l:List (BitVec 32)):J9 (F4 l)=true:=by
  induction l with
  | nil=>rfl
  | cons x l ih=>simpa [F4,J9,U2,W] using ih
theorem Zus (l:List (BitVec 32)):leadss (F4 l)=false:=by
  induction l with
  | nil=>rfl
  | cons x l ih=>simpa [F4,leadss,T4,W] using ih
theorem Zut (l:List (BitVec 32)):refsOfs (F4 l)=[]:=by
  induction l with
  | nil=>rfl
  | cons x l ih=>simpa [F4,refsOfs,X4,W] using ih
theorem Z3u (f:Site→Nat→Option (Site × Nat)) (l:List (BitVec 32)):rens f (F4 l)=F4 l:=by
  induction l with
  | nil=>rfl
  | cons x l ih=>simpa [F4,rens,ren,W] using ih
theorem Yaw {l:List (BitVec 32)} {i:Nat} (h:i<l.length):(F4 l)[i]? = some (W (l.getD i 0)):=by simp [F4,h]
theorem Z3v {l:List (BitVec 32)} {i:Nat} {x:BitVec 32} (h:i<l.length):over (F4 l) i [W x]=F4 (l.set i x):=by
  unfold over F4
  rw [Ysf,List.map_set,List.set_eq_take_append_cons_drop,if_pos (by simpa using h)]
  simp
theorem Z3w (l:List (BitVec 32)) (n:Nat):(F4 l).take n=F4 (l.take n):=by simp [F4,List.map_take]
theorem Z3x (l:List (BitVec 32)) (n:Nat):(F4 l).drop n=F4 (l.drop n):=by simp [F4,List.map_drop]
theorem Yax (l:List (BitVec 32)) (i n:Nat):sub (F4 l) i n=F4 (sub l i n):=by simp [sub,F4,List.map_drop,List.map_take]
theorem Zuu {l m:List (BitVec 32)} (h:m.length=l.length):over (F4 l) 0 (F4 m)=F4 m:=by
  unfold over;exact Zhn (by rw [Zd2,Zd2,h])
theorem hard_W (x:BitVec 32):U2 (W x)=true:=rfl
theorem flat_W (x:BitVec 32):K1 (W x)=true:=rfl
theorem Yh5 (x:BitVec 32):X4 (W x)=[]:=rfl
theorem Yoh (x:BitVec 32):T4 (W x)=false:=rfl
theorem ren_W (f:Site→Nat→Option (Site × Nat)) (x:BitVec 32):ren f (W x)=W x:=rfl
theorem view_W (x:BitVec 32):Zc1 (W x)=.ret (W x,[]):=rfl
theorem Yoi (x:BitVec 32):Z7 (W x)=.ret (W x,[]):=rfl
theorem Yh6 (x:BitVec 32):J8 (W x)=some [W x]:=rfl
def bw (l:List UInt8) (i:Nat):BitVec 32:=BitVec.ofNat 32 (l.getD i 0).toNat
theorem cvi_bw (l:List UInt8) (i:Nat):Zq7 .u32 (.int .u8 (bat l i))=.ret (W (bw l i),[]):=by
  have h:=(l.getD i 0).toNat_lt
  have:IntKind.u32.wrap (bat l i)=((bw l i).toNat:Int):=by
    rw [Zih];unfold bat bw
    rw [BitVec.toNat_ofNat]
    omega
  rw [Znr,this];rfl
def wb (x:BitVec 32):UInt8:=UInt8.ofNat x.toNat
theorem cvi_wb (x:BitVec 32):Zq7 .u8 (W x)=.ret (.int .u8 ((wb x).toNat:Int),[]):=by
  have:IntKind.u8.wrap (x.toNat:Int)=((wb x).toNat:Int):=by
    rw [Zcz];unfold wb
    simp
  rw [W,Znr,this]
theorem WDs:(∀ (l:List (BitVec 32)) (n:Nat),(F4 l).take n=F4 (l.take n))∧(∀ (l:List (BitVec 32)) (n:Nat),(F4 l).drop n=F4 (l.drop n))∧(∀ (l:List (BitVec 32)) (i n:Nat),sub (F4 l) i n=F4 (sub l i n))∧(∀ l m:List (BitVec 32),m.length=l.length→over (F4 l) 0 (F4 m)=F4 m)∧(∀ n:Nat,zer (.int .u32 0) n=F4 (List.replicate n 0))∧(∀ a b:BitVec 32,J2 .add (W a) (W b)=some (W (a+b)))∧(∀ a b:BitVec 32,J2 .and (W a) (W b)=some (W (a &&& b)))∧(∀ a b:BitVec 32,J2 .or (W a) (W b)=some (W (a ||| b)))∧(∀ a b:BitVec 32,J2 .xor (W a) (W b)=some (W (a ^^^ b)))∧(∀ a:BitVec 32,Zq5 .xor (W a)=some (W (~~~a)))∧(∀ (a:BitVec 32) (k:IntKind) (n:Int),0≤n→J2 .shl (W a) (.int k n)=some (W (a <<< n.toNat)))∧(∀ (a:BitVec 32) (k:IntKind) (n:Int),0≤n→J2 .shr (W a) (.int k n)=some (W (a >>> n.toNat)))∧(∀ l:List (BitVec 32),flats (F4 l)=true)∧(∀ l:List (BitVec 32),J9 (F4 l)=true)∧(∀ l:List (BitVec 32),leadss (F4 l)=false)∧(∀ l:List (BitVec 32),refsOfs (F4 l)=[])∧(∀ (f:Site→Nat→Option (Site × Nat)) (l:List (BitVec 32)),rens f (F4 l)=F4 l)∧(∀ l:List (BitVec 32),(F4 l).length=l.length)∧(∀ (l:List (BitVec 32)) (i:Nat),i<l.length→(F4 l)[i]? = some (W (l.getD i 0)))∧(∀ (l:List (BitVec 32)) (i:Nat) (x:BitVec 32),i<l.length→over (F4 l) i [W x]=F4 (l.set i x))∧(∀ x:BitVec 32,U2 (W x)=true)∧(∀ x:BitVec 32,K1 (W x)=true)∧(∀ x:BitVec 32,X4 (W x)=[])∧(∀ x:BitVec 32,T4 (W x)=false)∧(∀ (f:Site→Nat→Option (Site × Nat)) (x:BitVec 32),ren f (W x)=W x)∧(∀ x:BitVec 32,Zc1 (W x)=.ret (W x,[]))∧(∀ x:BitVec 32,Z7 (W x)=.ret (W x,[]))∧(∀ x:BitVec 32,J8 (W x)=some [W x])∧(∀ (l:List UInt8) (i:Nat),Zq7 .u32 (.int .u8 (bat l i))=.ret (W (bw l i),[]))∧(∀ x:BitVec 32,Zq7 .u8 (W x)=.ret (.int .u8 ((wb x).toNat:Int),[])) :=
  ⟨Z3w,Z3x,Yax,fun _ _ h=>Zuu h,Yav,w_add,w_and,w_or,w_xor,w_not,w_shl,w_shr,Zy3,Zy4,Zus,Zut,Z3u,Zd2,fun _ _ h=>Yaw h,fun _ _ _ h=>Z3v h,hard_W,flat_W,Yh5,Yoh,ren_W,view_W,Yoi,Yh6,cvi_bw,cvi_wb⟩
end Cod
namespace Cod
open Go
def Zen (x:BitVec 32) (n:Nat):BitVec 32:=x >>> n ||| x <<< (32-n)
theorem Ze5 {x:BitVec 32} {k:Int} {n:Nat} (hn:n≤32) (hk:Z15 .u64 (IntKind.u64.wrap k) 31=((32-n:Nat):Int)) :
    S E F.F8 [W x,.int .i64 k] []=some (W (Zen x n),[]):=by
  have h1:IntKind.u64.wrap (32-((32-n:Nat):Int))=(n:Int):=by
    simp only [IntKind.wrap,IntKind.signed,IntKind.bits]
    simp
    omega
  rw [S_of Ztm rfl rfl]
  simp (disch:=omega) only [L.F8,go_sem,reduceIte,reduceCtorEq,B2,B3,B4,B5,B6,B7,B8,B9,C0,C1,C2,C3,C4,C5,C6,C7,C8,C9,D0,A4,WDs,hk,h1]
  rw [Zen,BitVec.or_comm]
theorem rot_7 {x:BitVec 32}:S E F.F8 [W x,.int .i64 (-7)] []=some (W (Zen x 7),[]):=Ze5 (by omega) (by decide)
theorem rot_18 {x:BitVec 32}:S E F.F8 [W x,.int .i64 (-18)] []=some (W (Zen x 18),[]):=Ze5 (by omega) (by decide)
theorem rot_17 {x:BitVec 32}:S E F.F8 [W x,.int .i64 (-17)] []=some (W (Zen x 17),[]):=Ze5 (by omega) (by decide)
theorem rot_19 {x:BitVec 32}:S E F.F8 [W x,.int .i64 (-19)] []=some (W (Zen x 19),[]):=Ze5 (by omega) (by decide)
theorem rot_6 {x:BitVec 32}:S E F.F8 [W x,.int .i64 (-6)] []=some (W (Zen x 6),[]):=Ze5 (by omega) (by decide)
theorem rot_11 {x:BitVec 32}:S E F.F8 [W x,.int .i64 (-11)] []=some (W (Zen x 11),[]):=Ze5 (by omega) (by decide)
theorem rot_25 {x:BitVec 32}:S E F.F8 [W x,.int .i64 (-25)] []=some (W (Zen x 25),[]):=Ze5 (by omega) (by decide)
theorem rot_2 {x:BitVec 32}:S E F.F8 [W x,.int .i64 (-2)] []=some (W (Zen x 2),[]):=Ze5 (by omega) (by decide)
theorem rot_13 {x:BitVec 32}:S E F.F8 [W x,.int .i64 (-13)] []=some (W (Zen x 13),[]):=Ze5 (by omega) (by decide)
theorem rot_22 {x:BitVec 32}:S E F.F8 [W x,.int .i64 (-22)] []=some (W (Zen x 22),[]):=Ze5 (by omega) (by decide)
def word4 (b:List UInt8) (i:Nat):BitVec 32:=bw b (4*i) <<< 24 ||| bw b (4*i+1) <<< 16 ||| bw b (4*i+2) <<< 8 ||| bw b (4*i+3)
def Zl5 (b:List UInt8):Nat→Nat→List (BitVec 32)→List (BitVec 32)
  | 0,_,ws=>ws
  | m+1,i,ws=>Zl5 b m (i+1) (ws.set i (word4 b i))
def sig0 (x:BitVec 32):BitVec 32:=Zen x 7 ^^^ Zen x 18 ^^^ x >>> 3
def sig1 (y:BitVec 32):BitVec 32:=Zen y 17 ^^^ Zen y 19 ^^^ y >>> 10
def sched (ws:List (BitVec 32)) (i:Nat):BitVec 32:=ws.getD (i-16) 0+sig0 (ws.getD (i-15) 0)+ws.getD (i-7) 0+sig1 (ws.getD (i-2) 0)
def Zn7:Nat→Nat→List (BitVec 32)→List (BitVec 32)
  | 0,_,ws=>ws
  | m+1,i,ws=>Zn7 m (i+1) (ws.set i (sched ws i))
theorem Zj6 (b:List UInt8):∀ m i ws,(Zl5 b m i ws).length=ws.length:=by
  intro m
  induction m with
  | zero=>intro i ws;rfl
  | succ m ih=>intro i ws;simp [Zl5,ih]
theorem Zuv:∀ m i ws,(Zn7 m i ws).length=ws.length:=by
  intro m
  induction m with
  | zero=>intro i ws;rfl
  | succ m ih=>intro i ws;simp [Zn7,ih]
theorem Yh7 {h:List (BitVec 32)} {b:List UInt8} (hh:h.length=8) (hb:b.length=64) (k:List It):∀ (m i:Nat) (ws:List (BitVec 32)),i+m=16→ws.length=64 →
    X E [.cell 4 (some 8)] (.c L.F1.x0::.lp [2,3,4,5,23] L.F1.x0::.blk 0::k) ⟨[(2,.ref (.s 1000000 0) 0 0),(3,.ref (.s 1000000 1) 0 0),(4,.ref (.s 1000000 2) 0 0),(5,.ref (.s 1000000 3) 0 0),(23,.int .i64 i)],[(.s 1000000 0,⟨0,true,true,true,F4 h⟩),(.s 1000000 1,⟨0,true,true,true,A1 b⟩),(.s 1000000 2,⟨0,true,true,true,F4 (List.replicate 8 0)⟩),(.s 1000000 3,⟨0,true,true,true,F4 ws⟩)]⟩=X E [.cell 4 (some 8)] k ⟨[(2,.ref (.s 1000000 0) 0 0),(3,.ref (.s 1000000 1) 0 0),(4,.ref (.s 1000000 2) 0 0),(5,.ref (.s 1000000 3) 0 0),(23,.int .i64 16),(24,.bool false)],[(.s 1000000 0,⟨0,true,true,true,F4 h⟩),(.s 1000000 1,⟨0,true,true,true,A1 b⟩),(.s 1000000 2,⟨0,true,true,true,F4 (List.replicate 8 0)⟩),(.s 1000000 3,⟨0,true,true,true,F4 (Zl5 b m i ws)⟩)]⟩:=by
  intro m
  induction m with
  | zero =>
    intro i ws h1 h2
    obtain rfl:i=16:=by omega
    rw [G9 L.F1.x0.eq_1]
    simp (disch:=omega) only [go_sem,reduceIte,reduceCtorEq,B2,B3,B4,B5,B6,B7,B8,B9,C0,C1,C2,C3,C4,C5,C6,C7,C8,C9,D0,A4,E2,D9,D6,WDs,BYs,Zl5,Ysh]
  | succ m ih =>
    intro i ws h1 h2
    have e0:(4*(i:Int)).toNat=4*i:=by omega
    have e1:(4*(i:Int)+1).toNat=4*i+1:=by omega
    have e2:(4*(i:Int)+2).toNat=4*i+2:=by omega
    have e3:(4*(i:Int)+3).toNat=4*i+3:=by omega
    rw [G9 L.F1.x0.eq_1]
    simp (disch:=omega) only [go_sem,reduceIte,reduceCtorEq,B2,B3,B4,B5,B6,B7,B8,B9,C0,C1,C2,C3,C4,C5,C6,C7,C8,C9,D0,A4,E2,D9,D6,WDs,BYs,Zl5,e0,e1,e2,e3]
    have:=ih (i+1) (ws.set i (word4 b i)) (by omega) (by simpa using h2)
    simp only [Ysn,Ysh] at this
    exact this
theorem Yh8 {h:List (BitVec 32)} (hh:h.length=8) (k:List It):∀ (m i:Nat) (ws:List (BitVec 32)),i+m=64→16≤i→ws.length=64 →
    X E [.cell 4 (some 8)] (.c L.F1.x1::.lp [2,4,5,7] L.F1.x1::.blk 2::k) ⟨[(2,.ref (.s 1000000 0) 0 0),(4,.ref (.s 1000000 1) 0 0),(5,.ref (.s 1000000 2) 0 0),(7,.int .i64 i)],[(.s 1000000 0,⟨0,true,true,true,F4 h⟩),(.s 1000000 1,⟨0,true,true,true,F4 (List.replicate 8 0)⟩),(.s 1000000 2,⟨0,true,true,true,F4 ws⟩)]⟩=X E [.cell 4 (some 8)] k ⟨[(2,.ref (.s 1000000 0) 0 0),(4,.ref (.s 1000000 1) 0 0),(5,.ref (.s 1000000 2) 0 0),(7,.int .i64 64),(59,.bool false)],[(.s 1000000 0,⟨0,true,true,true,F4 h⟩),(.s 1000000 1,⟨0,true,true,true,F4 (List.replicate 8 0)⟩),(.s 1000000 2,⟨0,true,true,true,F4 (Zn7 m i ws)⟩)]⟩:=by
  intro m
  induction m with
  | zero =>
    intro i ws h1 h0 h2
    obtain rfl:i=64:=by omega
    rw [G9 L.F1.x1.eq_1]
    simp (disch:=omega) only [go_sem,reduceIte,reduceCtorEq,B2,B3,B4,B5,B6,B7,B8,B9,C0,C1,C2,C3,C4,C5,C6,C7,C8,C9,D0,A4,E2,D9,D6,WDs,BYs,Zn7,Ysh]
  | succ m ih =>
    intro i ws h1 h0 h2
    have e0:((i:Int)-16).toNat=i-16:=by omega
    have e1:((i:Int)-15).toNat=i-15:=by omega
    have e2:((i:Int)-7).toNat=i-7:=by omega
    have e3:((i:Int)-2).toNat=i-2:=by omega
    rw [G9 L.F1.x1.eq_1]
    simp (disch:=omega) only [go_sem,reduceIte,reduceCtorEq,B2,B3,B4,B5,B6,B7,B8,B9,C0,C1,C2,C3,C4,C5,C6,C7,C8,C9,D0,A4,E2,D9,D6,WDs,BYs,Zn7,e0,e1,e2,e3,rot_7,rot_18,rot_17,rot_19]
    have:=ih (i+1) (ws.set i (sched ws i)) (by omega) (by omega) (by simpa using h2)
    simp only [Ysn,Ysh] at this
    exact this
structure S8 where
  a:BitVec 32
  b:BitVec 32
  c:BitVec 32
  d:BitVec 32
  e:BitVec 32
  f:BitVec 32
  g:BitVec 32
  h:BitVec 32
def su1 (e:BitVec 32):BitVec 32:=Zen e 6 ^^^ Zen e 11 ^^^ Zen e 25
def su0 (a:BitVec 32):BitVec 32:=Zen a 2 ^^^ Zen a 13 ^^^ Zen a 22
def rndU (k w:BitVec 32) (s:S8):BitVec 32:=s.h+su1 s.e+(s.e &&& s.f ||| ~~~s.e &&& s.g)+k+w
def rndV (s:S8):BitVec 32:=su0 s.a+(s.a &&& s.b ^^^ s.a &&& s.c ^^^ s.b &&& s.c)
def rnd (k w:BitVec 32) (s:S8):S8:=⟨rndU k w s+rndV s,s.a,s.b,s.c,s.d+rndU k w s,s.e,s.f,s.g⟩
def Zk9 (ws:List (BitVec 32)):Nat→Nat→S8→S8
  | 0,_,s=>s
  | m+1,i,s=>Zk9 ws m (i+1) (rnd (Zug.getD i 0) (ws.getD i 0) s)
def S8.of (h:List (BitVec 32)):S8:=⟨h.getD 0 0,h.getD 1 0,h.getD 2 0,h.getD 3 0,h.getD 4 0,h.getD 5 0,h.getD 6 0,h.getD 7 0⟩
def S8.plus (h:List (BitVec 32)) (s:S8):List (BitVec 32):=[h.getD 0 0+s.a,h.getD 1 0+s.b,h.getD 2 0+s.c,h.getD 3 0+s.d,h.getD 4 0+s.e,h.getD 5 0+s.f,h.getD 6 0+s.g,h.getD 7 0+s.h]
def msch (b:List UInt8):List (BitVec 32):=Zn7 48 16 (Zl5 b 16 0 (List.replicate 64 0))
def Zla (h:List (BitVec 32)) (b:List UInt8):List (BitVec 32):=S8.plus h (Zk9 (msch b) 64 0 (S8.of h))
theorem Zy5 (b:List UInt8):(msch b).length=64:=by rw [msch,Zuv,Zj6];simp
theorem Zce (h:List (BitVec 32)) (b:List UInt8):(Zla h b).length=8:=rfl
theorem Zy6:Zug.length=64:=rfl
theorem Yh9 {h ws:List (BitVec 32)} (hh:h.length=8) (hw:ws.length=64) (k:List It):∀ (m i:Nat) (s:S8),i+m=64 →
    X E [.cell 4 (some 8)] (.c L.F1.x2::.lp [2,4,5,12,13,14,15,16,17,18,19,117] L.F1.x2::.blk 4::k) ⟨[(2,.ref (.s 1000000 0) 0 0),(4,.ref (.s 1000000 1) 0 0),(5,.ref (.s 1000000 2) 0 0),(12,W s.a),(13,W s.b),(14,W s.c),(15,W s.d),(16,W s.e),(17,W s.f),(18,W s.g),(19,W s.h),(117,.int .i64 i)],[(.s 1000000 0,⟨0,true,true,true,F4 h⟩),(.s 1000000 1,⟨0,true,true,true,F4 (List.replicate 8 0)⟩),(.s 1000000 2,⟨0,true,true,true,F4 ws⟩)]⟩=X E [.cell 4 (some 8)] k ⟨[(2,.ref (.s 1000000 0) 0 0),(4,.ref (.s 1000000 1) 0 0),(5,.ref (.s 1000000 2) 0 0),(12,W (Zk9 ws m i s).a),(13,W (Zk9 ws m i s).b),(14,W (Zk9 ws m i s).c),(15,W (Zk9 ws m i s).d),(16,W (Zk9 ws m i s).e),(17,W (Zk9 ws m i s).f),(18,W (Zk9 ws m i s).g),(19,W (Zk9 ws m i s).h),(117,.int .i64 64),(118,.bool false)],[(.s 1000000 0,⟨0,true,true,true,F4 h⟩),(.s 1000000 1,⟨0,true,true,true,F4 (List.replicate 8 0)⟩),(.s 1000000 2,⟨0,true,true,true,F4 ws⟩)]⟩:=by
  intro m
  have hk:=Zy6
  induction m with
  | zero =>
    intro i s h1
    obtain rfl:i=64:=by omega
    rw [G9 L.F1.x2.eq_1]
    simp (disch:=omega) only [go_sem,reduceIte,reduceCtorEq,B2,B3,B4,B5,B6,B7,B8,B9,C0,C1,C2,C3,C4,C5,C6,C7,C8,C9,D0,A4,E2,D9,D6,WDs,BYs,Zk9,Ysh]
  | succ m ih =>
    intro i s h1
    rw [G9 L.F1.x2.eq_1]
    simp (disch:=omega) only [go_sem,reduceIte,reduceCtorEq,B2,B3,B4,B5,B6,B7,B8,B9,C0,C1,C2,C3,C4,C5,C6,C7,C8,C9,D0,A4,E2,D9,D6,WDs,BYs,Zk9,glob_k,rot_6,rot_11,rot_25,rot_2,rot_13,rot_22]
    have:=ih (i+1) (rnd (Zug.getD i 0) (ws.getD i 0) s) (by omega)
    simp only [Ysn,Ysh] at this
    exact this
theorem Yia {h ws:List (BitVec 32)} (hh:h.length=8) (R:S8):X E [.cell 4 (some 8)] [.c L.F1.r2] ⟨[(2,.ref (.s 1000000 0) 0 0),(4,.ref (.s 1000000 1) 0 0),(5,.ref (.s 1000000 2) 0 0),(12,W R.a),(13,W R.b),(14,W R.c),(15,W R.d),(16,W R.e),(17,W R.f),(18,W R.g),(19,W R.h),(117,.int .i64 64),(118,.bool false)],[(.s 1000000 0,⟨0,true,true,true,F4 h⟩),(.s 1000000 1,⟨0,true,true,true,F4 (List.replicate 8 0)⟩),(.s 1000000 2,⟨0,true,true,true,F4 ws⟩)]⟩=some (.agg (F4 (S8.plus h R)),[]):=by
  simp -dsimp (disch:=first|omega|(simp only [A5]<;>omega)|fail) only [L.F1.r2,go_sem,reduceIte,reduceCtorEq,B2,B3,B4,B5,B6,B7,B8,B9,C0,C1,C2,C3,C4,C5,C6,C7,C8,C9,D0,A4,E2,D9,D6,WDs,BYs,List.length_replicate,Ysd]
  rfl
theorem Yib {h ws:List (BitVec 32)} (hh:h.length=8) (hw:ws.length=64):X E [.cell 4 (some 8)] [.c L.F1.r1] ⟨[(2,.ref (.s 1000000 0) 0 0),(4,.ref (.s 1000000 1) 0 0),(5,.ref (.s 1000000 2) 0 0),(7,.int .i64 64),(59,.bool false)],[(.s 1000000 0,⟨0,true,true,true,F4 h⟩),(.s 1000000 1,⟨0,true,true,true,F4 (List.replicate 8 0)⟩),(.s 1000000 2,⟨0,true,true,true,F4 ws⟩)]⟩=some (.agg (F4 (S8.plus h (Zk9 ws 64 0 (S8.of h)))),[]):=by
  rw [←Yia (ws:=ws) hh]
  have:=Yh9 hh hw [.c L.F1.r2] 64 0 (S8.of h) (by omega)
  simp only [Ysh] at this
  rw [←this]
  simp -dsimp (disch:=first|omega|(simp only [A5]<;>omega)|fail) only [L.F1.r1,go_sem,reduceIte,reduceCtorEq,B2,B3,B4,B5,B6,B7,B8,B9,C0,C1,C2,C3,C4,C5,C6,C7,C8,C9,D0,A4,E2,D9,D6,WDs,BYs,S8.of]
theorem Zy7 {h:List (BitVec 32)} {b:List UInt8} (hh:h.length=8) (hb:b.length=64):S E F.F1 [.agg (F4 h),.agg (A1 b)] []=some (.agg (F4 (Zla h b)),[]):=by
  have l1:(Zl5 b 16 0 (List.replicate 64 0)).length=64:=by rw [Zj6];simp
  rw [Zla,←Yib hh (Zy5 b),msch]
  have:=Yh8 hh [.c L.F1.r1] 48 16 _ (by omega) (by omega) l1
  simp only [Ysh] at this
  rw [←this]
  rw [S_of Zsz rfl rfl]
  simp -dsimp (disch:=first|omega|(simp only [A5]<;>omega)|fail) only [L.F1,go_sem,reduceIte,reduceCtorEq,B2,B3,B4,B5,B6,B7,B8,B9,C0,C1,C2,C3,C4,C5,C6,C7,C8,C9,D0,A4,E2,D9,D6,WDs,BYs]
  have:=Yh7 hh hb [.c L.F1.r0] 16 0 (List.replicate 64 0) (by omega) (by simp)
  simp only [Ysh] at this
  rw [this]
  simp -dsimp (disch:=first|omega|(simp only [A5]<;>omega)|fail) only [L.F1.r0,go_sem,reduceIte,reduceCtorEq,B2,B3,B4,B5,B6,B7,B8,B9,C0,C1,C2,C3,C4,C5,C6,C7,C8,C9,D0,A4,E2,D9,D6,WDs,BYs]
end Cod

/- What the run knows is so. -/
import Derived.Test.YthlnjgdoodjgoaaGreatDoorRows
import Derived.KernelRfl
import Derived.Test.YthlnjgdoodjgoaaGreatDoorXTxt1
import Derived.Test.YthlnjgdoodjgoaaGreatDoorXShelf1
import Derived.Test.YthlnjgdoodjgoaaGreatDoorXLit3
set_option linter.unusedSimpArgs false
set_option linter.unusedVariables false
open List renaming any_cons → Yur, append_assoc → Ysw, append_nil → Yuh, cons_append → Yr7, contains_cons → Yus, drop_eq_getElem_cons → Yt7, drop_length → Yui, drop_of_length_le → Yt6, drop_succ_cons → Ytt, drop_zero → Ytn, eq_nil_of_length_eq_zero → Yss, flatMap_cons → Yt5, idxOf_cons → Yum, length_append → Ysv, length_cons → Ysk, length_replicate → Yul, length_singleton → Yue, mem_append → Yun, mem_cons_of_mem → Ys8, mem_singleton → Ysm, nil_append → Ytw, take_of_length_le → Ysu
open Nat renaming div_eq_of_lt → Yuc, le_refl → Yr4, min_eq_left → Ytx, min_eq_right → Yub
open Int renaming cast_ofNat_Int → Yuk, emod_eq_of_lt → Yt9, eq_ofNat_of_zero_le → Yud, natCast_add → Yuj, natCast_pow → Yua
open Bool renaming and_assoc → Ys0, and_eq_true → Ysj, and_true → Ys3, false_and → Yuq, false_or → Yup, not_false → Yug, not_true → Yuf, true_and → Yuo
open Option renaming getD_some → Ytc
open BitVec renaming toNat_ofInt → Yt8
open Nat renaming reduceEqDiff → A9, reduceAdd → B0, reduceSub → B1, reduceMul → B2, reduceDiv → B3, reduceMod → B4, reduceBEq → B5, reduceLeDiff → B6, reduceLT → B7
open Int renaming reduceEq → B8, reduceNe → B9, reduceLT → C0, reduceLE → C1, reduceBEq → C2, reduceBNe → C3, reduceToNat → C4, reduceAdd → C5, reduceSub → C6, reduceMul → C7, reduceNeg → A2
namespace Cod
open Go Go.RowKit Go.Proofs Go.Shelf
set_option maxRecDepth 100000
theorem fns_ok:Zm3 Tryz.prog E:=Zov (by kernel_rfl) Z4w (fun _=>rfl)
theorem Z7s {E:Env} (hE:E.glob=Y6):∀ p∈Zfw,Zho Tryz.prog E p.1 p.2:=by
  unfold Zfw
  exact Ypp hE
theorem Yje:Zgd Tryz.prog E:=fun f h hf=>Z7s (E:=E) rfl (f,h) (Zhp (show Zfw.lookup f=some h from hf))
theorem Zin {f:Nat} {fn:Func} {c:Code} (hf:Tryz.prog.funcs[f]? = some fn) (hb:fn.body=some c) (hn:(fn.name == "runtime.NumGoroutine")=false) {args:List AV} {v:AV} (h:S E f args []=some (v,[]))
    {W:World} (hW:Za5 W) {vs:List Value} (hv:VRL (ctx [] LaE W) args vs) {y:Value} (hy:∀ c z,VR c v z→z=y):Calls Tryz.prog f vs.toArray W (fun e W'=>e=.returned y∧Below W.heap.size W W'):=by
  have hrel:Rel E W (J6 [] LaE) [] LaE [] LaE W:=⟨⟨fun s e he=>by simp [C9] at he,fun s s' e e' b o o' he=>by simp [C9] at he⟩,Keep.refl _ _,fun b hb=>.inl hb,hW,fun x e he=>by simp [C9] at he,fun b hb=>.inl hb,rfl,fun b hb=>hb.elim⟩
  refine (Zk1 hf hb hn (Zjc Yje fns_ok h LaE hrel hv)).mono ?_
  rintro e W' ⟨z,rfl,La',h1,h2⟩
  rw [hy _ _ h2]
  exact ⟨rfl,Z5d h1.keep⟩
end Cod
namespace Cod
open Go Go.Proofs Go.Proofs.YthlnjgdoodjgoaaGreatDoor
set_option maxRecDepth 100000
theorem Zz4 {α β:Type} [BEq α] [LawfulBEq α] {a : α} {b : β}:∀ {l:List (α × β)},l.lookup a=some b→(a,b)∈l:=by
  intro l
  induction l with
  | nil=>intro h;simp at h
  | cons x l ih =>
    intro h
    rw [List.lookup_cons] at h
    split at h
    · rename_i he
      rw [beq_iff_eq] at he
      cases h
      rw [he];exact List.mem_cons_self
    · exact Ys8 _ (ih h)
theorem own:ownKnob Tryz.prog.godebug=none:=by kernel_rfl
theorem Ypq:laidOutB Tryz.prog=true:=by kernel_rfl
theorem Yce:Tryz.prog.underlying 4=some .bool:=Tryz.underlying4
mutual
theorem Zfe {H:Type}:∀ d:DataW H,Rows.uptoBulk d=S0 d
  | .lit (.string _)=>by simp [Rows.uptoBulk,S0]
  | .lit (.bool _)=>by simp [Rows.uptoBulk,S0]
  | .lit (.int _ _)=>by simp [Rows.uptoBulk,S0]
  | .lit (.float _ _)=>by simp [Rows.uptoBulk,S0]
  | .lit .nil=>by simp [Rows.uptoBulk,S0]
  | .nil=>by simp [Rows.uptoBulk,S0]
  | .ptr d=>by simp [Rows.uptoBulk,S0,Zfe d]
  | .slice a b=>by simp [Rows.uptoBulk,S0,bulkAll_eq a,bulkAll_eq b]
  | .agg a=>by simp [Rows.uptoBulk,S0,bulkAll_eq a]
  | .iface _ d=>by simp [Rows.uptoBulk,S0,Zfe d]
  | .map l=>by simp [Rows.uptoBulk,S0,bulkEntries_eq l]
  | .held _=>by simp [Rows.uptoBulk,S0]
theorem bulkAll_eq {H:Type}:∀ l:List (DataW H),Rows.uptoBulkAll l=dbulkAll l
  | []=>by simp [Rows.uptoBulkAll,dbulkAll]
  | d::r=>by simp [Rows.uptoBulkAll,dbulkAll,Zfe d,bulkAll_eq r]
theorem bulkEntries_eq {H:Type}:∀ l:List (Lit × DataW H),Rows.uptoBulkEntries l=dbulkEntries l
  | []=>by simp [Rows.uptoBulkEntries,dbulkEntries]
  | d::r=>by simp [Rows.uptoBulkEntries,dbulkEntries,bulkEntry_eq d,bulkEntries_eq r]
theorem bulkEntry_eq {H:Type}:∀ x:Lit × DataW H,Rows.uptoBulkEntry x=dbulkEntry x
  | (.string _,d)=>by simp [Rows.uptoBulkEntry,dbulkEntry,Zfe d]
  | (.bool _,d)=>by simp [Rows.uptoBulkEntry,dbulkEntry,Zfe d]
  | (.int _ _,d)=>by simp [Rows.uptoBulkEntry,dbulkEntry,Zfe d]
  | (.float _ _,d)=>by simp [Rows.uptoBulkEntry,dbulkEntry,Zfe d]
  | (.nil,d)=>by simp [Rows.uptoBulkEntry,dbulkEntry,Zfe d]
end
def Yjf:List Int:=Zvr.map fun x=>(x.toNat:Int)
theorem kWords:F6 Zvr=Yjf.map fun z=>AV.int .u32 z:=by kernel_rfl
theorem kLaid:(Rows.laid_codicil_sha_k:DataW Unit)=Lib.tabData .u32 Yjf:=by kernel_rfl
theorem gK:Tryz.prog.globalNamed "codicil/sha.k" = some G.Zze:=by kernel_rfl
theorem Ypr {W:World} {l:List (String × DataW Unit)} (h:laidMetH Tryz.prog l W) (hm:("codicil/sha.k",Rows.laid_codicil_sha_k)∈l):GV (ctx [] La0 W) G.Zze (F6 Zvr):=by
  rw [kWords]
  exact Zk2 (Zfd (n:=64) h (kLaid▸hm) gK (by kernel_rfl) (t:=162) (e:=131) (by kernel_rfl) (by kernel_rfl) (by kernel_rfl) (by kernel_rfl)) gK (by simp [Yjf,Zvr])
theorem Yjg:(Rows.laid_unicode_asciiFold:DataW Unit)=Lib.tabData .u16 Znw:=by kernel_rfl
theorem gF:Tryz.prog.globalNamed "unicode.asciiFold" = some G.Zee:=by kernel_rfl
theorem Yjh {W:World} {l:List (String × DataW Unit)} (h:laidMetH Tryz.prog l W) (hm:("unicode.asciiFold",Rows.laid_unicode_asciiFold)∈l):GV (ctx [] La0 W) G.Zee (Znw.map fun z=>.int .u16 z) :=
  Zk2 (Zfd (n:=128) h (Yjg▸hm) gF (by kernel_rfl) (t:=209) (e:=208) (by kernel_rfl) (by kernel_rfl) (by kernel_rfl) (by kernel_rfl)) gF (by simp [Znw])
theorem Yps:(Rows.laid_internal_strconv_uint64pow10:DataW Unit)=Lib.tabData .u64 Lib.pow10Tab:=by kernel_rfl
theorem gP:Tryz.prog.globalNamed "internal/strconv.uint64pow10" = some G.Zcn:=by kernel_rfl
theorem Ypt {W:World} {l:List (String × DataW Unit)} (h:laidMetH Tryz.prog l W) (hm:("internal/strconv.uint64pow10",Rows.laid_internal_strconv_uint64pow10)∈l):GV (ctx [] La0 W) G.Zcn (Lib.pow10Tab.map fun z=>.int .u64 z) :=
  Zk2 (Zfd (n:=20) h (Yps▸hm) gP (by kernel_rfl) (t:=196) (e:=164) (by kernel_rfl) (by kernel_rfl) (by kernel_rfl) (by kernel_rfl)) gP (by simp [Lib.pow10Tab])
theorem Yji {W:World} {l:List (String × DataW Unit)} (h:laidMetH Tryz.prog l W) (hm:("strconv.ErrSyntax",Rows.laid_strconv_ErrSyntax)∈l):GV (ctx [] La0 W) G.Zec [.any none] :=
  Zzl h hm (by rfl) (by kernel_rfl) (t:=85) (by kernel_rfl) (by kernel_rfl)
theorem Ycf {W:World} {l:List (String × DataW Unit)} (h:laidMetH Tryz.prog l W) (hm:("strconv.ErrRange",Rows.laid_strconv_ErrRange)∈l):GV (ctx [] La0 W) G.Zed [.any none] :=
  Zzl h hm (by rfl) (by kernel_rfl) (t:=85) (by kernel_rfl) (by kernel_rfl)
theorem Ypu {W:World} (h:W.ShapedOpen Tryz.prog):GV (ctx [] La0 W) G.Zac [.any (some .i64)] :=
  Z41 h (of_decide_eq_true (by kernel_rfl)) (by kernel_rfl) (Go.Proofs.cell_of_shapedOpen_int (zero := #[.int .i64 0]) (t:=3) h (of_decide_eq_true (by kernel_rfl)) (by kernel_rfl) rfl (by kernel_rfl) (by kernel_rfl) Tryz.underlying3)
theorem Ypv:(Rows.laid_math_bits_deBruijn64tab:DataW Unit)=Lib.tabData .u8 Zvt:=by kernel_rfl
theorem gB:Tryz.prog.globalNamed "math/bits.deBruijn64tab" = some G.Zef:=by kernel_rfl
theorem Ypw {W:World} {l:List (String × DataW Unit)} (h:laidMetH Tryz.prog l W) (hm:("math/bits.deBruijn64tab",Rows.laid_math_bits_deBruijn64tab)∈l):GV (ctx [] La0 W) G.Zef (Zvt.map fun z=>.int .u8 z) :=
  Zk2 (Zfd (n:=64) h (Ypv▸hm) gB (by kernel_rfl) (t:=134) (e:=5) (by kernel_rfl) (by kernel_rfl) (by kernel_rfl) (by kernel_rfl)) gB (by simp [Zvt])
theorem Ypx {W:World} (h:∀ p∈Zny,GV (ctx [] La0 W) p.1 p.2):Zo1 E W:=by
  intro n
  show GV _ n (Y6 n)
  unfold Y6
  cases hl:Zny.lookup n with
  | none=>exact Yb5
  | some l=>exact h _ (Zz4 hl)
theorem Ypy {W:World} {l:List (String × DataW Unit)} (h:laidMetH Tryz.prog l W) (hs:W.ShapedOpen Tryz.prog) (hk:("codicil/sha.k",Rows.laid_codicil_sha_k)∈l) (hf:("unicode.asciiFold",Rows.laid_unicode_asciiFold)∈l) (hp:("internal/strconv.uint64pow10",Rows.laid_internal_strconv_uint64pow10)∈l) (h1:("strconv.ErrSyntax",Rows.laid_strconv_ErrSyntax)∈l) (h2:("strconv.ErrRange",Rows.laid_strconv_ErrRange)∈l) (hb:("math/bits.deBruijn64tab",Rows.laid_math_bits_deBruijn64tab)∈l):Zo1 E W:=by
  refine Ypx ?_
  unfold Zny
  refine List.forall_mem_cons.2 ⟨Ypr h hk,?_⟩
  refine List.forall_mem_cons.2 ⟨Yjh h hf,?_⟩
  refine List.forall_mem_cons.2 ⟨Ypt h hp,?_⟩
  refine List.forall_mem_cons.2 ⟨Yji h h1,?_⟩
  refine List.forall_mem_cons.2 ⟨Ycf h h2,?_⟩
  refine List.forall_mem_cons.2 ⟨Ypu hs,?_⟩
  refine List.forall_mem_cons.2 ⟨Ypw h hb,?_⟩
  exact fun p h=>nomatch h
end Cod
namespace Cod
open Go
theorem Yjj:∀ {r:List (List AV)},(∀ x∈r,Wf (.int .u8) x)→∃ l:List UInt8,r.flatten=A0 l∧l.length=r.length:=by
  intro r
  induction r with
  | nil=>intro _;exact ⟨[],rfl,rfl⟩
  | cons x r ih =>
    intro h
    obtain ⟨l,h1,h2⟩:=ih fun y hy=>h y (Ys8 _ hy)
    obtain ⟨n,rfl,hn⟩:=h x (by simp)
    simp [Lit.wf,IntKind.min,IntKind.max,IntKind.signed,IntKind.bits] at hn
    refine ⟨byt n::l,?_,by simp [h2]⟩
    rw [List.flatten_cons,h1,Znv (by omega) (by omega)]
    rfl
end Cod
namespace Cod
open Go
theorem flatsA (a b:List AV):flats (a++b)=(flats a&&flats b):=by
  induction a with
  | nil=>simp [flats]
  | cons x a ih=>simp [flats,ih,Ys0]
theorem hardsA (a b:List AV):K4 (a++b)=(K4 a&&K4 b):=by
  induction a with
  | nil=>simp [K4]
  | cons x a ih=>simp [K4,ih,Ys0]
theorem Ypz (a b:List AV):leadss (a++b)=(leadss a||leadss b):=by
  induction a with
  | nil=>simp [leadss]
  | cons x a ih=>simp [leadss,ih,Bool.or_assoc]
theorem Yjk (a b:List AV):refsOfs (a++b)=refsOfs a++refsOfs b:=by
  induction a with
  | nil=>simp [refsOfs]
  | cons x a ih=>simp [refsOfs,ih]
theorem rensA (f:Site→Nat→Option (Site × Nat)) (a b:List AV):rens f (a++b)=rens f a++rens f b:=by
  induction a with
  | nil=>simp [rens]
  | cons x a ih=>simp [rens,ih]
section
variable {α:Type} {f : α→List AV} {n:Nat}
theorem Zhs (hn:∀ a,(f a).length=n) (l:List α):(l.flatMap f).length=n*l.length:=by
  induction l with
  | nil=>simp
  | cons s l ih=>rw [Yt5,Ysv,ih,hn,Ysk,Nat.mul_add];omega
theorem Zgr (h:∀ a,flats (f a)=true) (l:List α):flats (l.flatMap f)=true:=by
  induction l with
  | nil=>rfl
  | cons s l ih=>rw [Yt5,flatsA,ih,h];rfl
theorem Zgs (h:∀ a,K4 (f a)=true) (l:List α):K4 (l.flatMap f)=true:=by
  induction l with
  | nil=>rfl
  | cons s l ih=>rw [Yt5,hardsA,ih,h];rfl
theorem Zff (h:∀ a,leadss (f a)=false) (l:List α):leadss (l.flatMap f)=false:=by
  induction l with
  | nil=>rfl
  | cons s l ih=>rw [Yt5,Ypz,ih,h];rfl
theorem Zio (h:∀ a,refsOfs (f a)=[]) (l:List α):refsOfs (l.flatMap f)=[]:=by
  induction l with
  | nil=>rfl
  | cons s l ih=>rw [Yt5,Yjk,ih,h];rfl
theorem Zip (g:Site→Nat→Option (Site × Nat)) (h:∀ a,rens g (f a)=f a) (l:List α):rens g (l.flatMap f)=l.flatMap f:=by
  induction l with
  | nil=>rfl
  | cons s l ih=>rw [Yt5,rensA,ih,h]
theorem Zq3 (hn:∀ a,(f a).length=n) (l:List α) (i:Nat):(l.flatMap f).drop (i*n)=(l.drop i).flatMap f:=by
  induction i generalizing l with
  | zero=>simp
  | succ i ih =>
    cases l with
    | nil=>simp
    | cons s l =>
      have h1:(i+1)*n=(f s).length+i*n:=by rw [hn,Nat.add_mul];omega
      rw [Yt5,h1,List.drop_append,Yt6 (by omega),Ytw,show (f s).length+i*n-(f s).length=i*n by omega,ih]
      rfl
variable [Inhabited α]
theorem Zq4 {l:List α} {i:Nat} (h:i<l.length):l.drop i=l.getD i default::l.drop (i+1):=by
  rw [List.getD_eq_getElem?_getD,List.getElem?_eq_getElem h,Ytc]
  exact Yt7 h
theorem Zo9 (hn:∀ a,(f a).length=n) {l:List α} {i:Nat} (h:i<l.length):sub (l.flatMap f) (i*n) n=f (l.getD i default):=by
  rw [sub,Zq3 hn,Zq4 h,Yt5,List.take_append_of_le_length (by rw [hn];exact Yr4 _),Ysu (by rw [hn];exact Yr4 _)]
theorem Yp0 (hn:∀ a,(f a).length=n) {l:List α} {i j:Nat} (h:i<l.length) (hj:j<n):(l.flatMap f)[i*n+j]? = (f (l.getD i default))[j]? := by
  have h1:(l.flatMap f)[i*n+j]? = ((l.flatMap f).drop (i*n))[j]? := by rw [List.getElem?_drop]
  rw [h1,Zq3 hn,Zq4 h,Yt5,List.getElem?_append_left (by rw [hn];exact hj)]
end
theorem Zcq (l:List (List UInt8)):Zc3 l=l.flatMap fun s=>[.str s]:=by
  induction l with
  | nil=>rfl
  | cons s l ih=>rw [Yt5,←ih];rfl
theorem Zey (l:List (List UInt8)):flats (Zc3 l)=true:=by rw [Zcq];exact Zgr (fun _=>rfl) l
theorem Zez (l:List (List UInt8)):K4 (Zc3 l)=true:=by rw [Zcq];exact Zgs (fun _=>rfl) l
theorem Zdm (l:List (List UInt8)):leadss (Zc3 l)=false:=by rw [Zcq];exact Zff (fun _=>rfl) l
theorem Zcr (l:List (List UInt8)):refsOfs (Zc3 l)=[]:=by rw [Zcq];exact Zio (fun _=>rfl) l
theorem Zfy (f:Site→Nat→Option (Site × Nat)) (l:List (List UInt8)):rens f (Zc3 l)=Zc3 l:=by rw [Zcq];exact Zip f (fun _=>rfl) l
theorem Zfz (l:List (List UInt8)) (s:List UInt8):Zc3 l++[.str s]=Zc3 (l++[s]):=by simp [Zc3]
theorem Zht {l:List (List UInt8)} {i:Nat} (h:i<l.length):(Zc3 l)[i]? = some (.str (l.getD i [])):=by simp [Zc3,h]
end Cod
namespace Cod
open Go
theorem Zjf (x:Int):IntKind.u32.wrap x=x%4294967296:=by
  simp only [IntKind.wrap,IntKind.signed,IntKind.bits]
  simp
theorem Zgt (a:BitVec 32):BitVec.ofInt 32 (a.toNat:Int)=a:=by
  apply BitVec.eq_of_toNat_eq
  rw [Yt8]
  have:=a.isLt
  omega
theorem Zgu (a:BitVec 32):(a.toNat:Int)<4294967296:=by have:=a.isLt;omega
theorem w_add (a b:BitVec 32):J4 .add (W a) (W b)=some (W (a+b)):=by
  simp only [W,Z7h,Zjf,BitVec.toNat_add]
  simp
theorem w_and (a b:BitVec 32):J4 .and (W a) (W b)=some (W (a &&& b)):=by
  rw [W,W,Z7i,Z3s]
  show some (AV.int .u32 (IntKind.u32.wrap (((BitVec.ofInt 32 (a.toNat:Int)) &&& (BitVec.ofInt 32 (b.toNat:Int))).toNat:Int)))=some (AV.int .u32 ((a &&& b).toNat:Int))
  rw [Zgt,Zgt,Zjf,Yt9 (by omega) (Zgu _)]
theorem w_or (a b:BitVec 32):J4 .or (W a) (W b)=some (W (a ||| b)):=by
  rw [W,W,Yhv,ior]
  show some (AV.int .u32 (IntKind.u32.wrap (((BitVec.ofInt 32 (a.toNat:Int)) ||| (BitVec.ofInt 32 (b.toNat:Int))).toNat:Int)))=some (AV.int .u32 ((a ||| b).toNat:Int))
  rw [Zgt,Zgt,Zjf,Yt9 (by omega) (Zgu _)]
theorem w_xor (a b:BitVec 32):J4 .xor (W a) (W b)=some (W (a ^^^ b)):=by
  rw [W,W,Z7j,ixor]
  show some (AV.int .u32 (IntKind.u32.wrap (((BitVec.ofInt 32 (a.toNat:Int)) ^^^ (BitVec.ofInt 32 (b.toNat:Int))).toNat:Int)))=some (AV.int .u32 ((a ^^^ b).toNat:Int))
  rw [Zgt,Zgt,Zjf,Yt9 (by omega) (Zgu _)]
theorem w_not (a:BitVec 32):Zsg .xor (W a)=some (W (~~~a)):=by
  rw [W,Yh7,inot]
  show some (AV.int .u32 (IntKind.u32.wrap (((BitVec.allOnes 32) ^^^ (BitVec.ofInt 32 (a.toNat:Int))).toNat:Int)))=some (AV.int .u32 ((~~~a).toNat:Int))
  rw [Zgt,BitVec.allOnes_xor,Zjf,Yt9 (by omega) (Zgu _)]
theorem w_shl' (a:BitVec 32) (k:IntKind) (n:Nat):J4 .shl (W a) (.int k (n:Int))=some (W (a <<< n)):=by
  rw [W,Z7k (by omega),Z3t]
  show some (AV.int .u32 (IntKind.u32.wrap ((a.toNat:Int)*2^(Nat.min n 32))))=some (AV.int .u32 ((a <<< n).toNat:Int))
  rw [Zjf,BitVec.toNat_shiftLeft,Nat.shiftLeft_eq]
  by_cases h:n≤32
  · rw [show Nat.min n 32=n from Ytx h,Int.natCast_emod,Int.natCast_mul,Yua]
    rfl
  · rw [show Nat.min n 32=32 from Yub (by omega)]
    obtain ⟨m,rfl⟩:∃ m,n=32+m:=⟨n-32,by omega⟩
    have h1:a.toNat*2^(32+m)%2^32=0:=by
      rw [Nat.pow_add,←Nat.mul_assoc,Nat.mul_right_comm]
      exact Nat.mul_mod_left _ _
    rw [h1]
    have h2:(a.toNat:Int)*2^32%4294967296=0:=by omega
    rw [h2];rfl
theorem w_shr' (a:BitVec 32) (k:IntKind) (n:Nat):J4 .shr (W a) (.int k (n:Int))=some (W (a >>> n)):=by
  rw [W,Z7l (by omega),Zyx]
  show some (AV.int .u32 ((a.toNat:Int).fdiv (2^(Nat.min n 32))))=some (AV.int .u32 ((a >>> n).toNat:Int))
  rw [BitVec.toNat_ushiftRight,Nat.shiftRight_eq_div_pow]
  have key:∀ m:Nat,((a.toNat:Int)).fdiv (2^m)=((a.toNat/2^m:Nat):Int):=by
    intro m
    rw [Int.fdiv_eq_ediv_of_nonneg _ (Int.le_of_lt (Int.pow_pos (by omega))),Int.natCast_ediv,Yua]
    rfl
  rw [key]
  by_cases h:n≤32
  · rw [show Nat.min n 32=n from Ytx h]
  · rw [show Nat.min n 32=32 from Yub (by omega)]
    have h1:a.toNat/2^32=0:=Yuc a.isLt
    have h2:a.toNat/2^n=0:=Yuc (Nat.lt_of_lt_of_le a.isLt (Nat.pow_le_pow_right (by omega) (by omega)))
    rw [h1,h2]
theorem w_shl (a:BitVec 32) (k:IntKind) (n:Int) (h:0≤n):J4 .shl (W a) (.int k n)=some (W (a <<< n.toNat)):=by
  obtain ⟨m,rfl⟩:=Yud h
  rw [w_shl'];rfl
theorem w_shr (a:BitVec 32) (k:IntKind) (n:Int) (h:0≤n):J4 .shr (W a) (.int k n)=some (W (a >>> n.toNat)):=by
  obtain ⟨m,rfl⟩:=Yud h
  rw [w_shr'];rfl
theorem Ycg (n:Nat):zer (.int .u32 0) n=F6 (List.replicate n 0):=by simp [zer,F6,W]
theorem Zz5 (l:List (BitVec 32)):flats (F6 l)=true:=by
  induction l with
  | nil=>rfl
  | cons x l ih=>simpa [F6,flats,N9,W] using ih
theorem Zz6 (l:List (BitVec 32)):K4 (F6 l)=true:=by
  induction l with
  | nil=>rfl
  | cons x l ih=>simpa [F6,K4,V3,W] using ih
theorem Zvz (l:List (BitVec 32)):leadss (F6 l)=false:=by
  induction l with
  | nil=>rfl
  | cons x l ih=>simpa [F6,leadss,U3,W] using ih
theorem Zv0 (l:List (BitVec 32)):refsOfs (F6 l)=[]:=by
  induction l with
  | nil=>rfl
  | cons x l ih=>simpa [F6,refsOfs,Zar,W] using ih
theorem Z5e (f:Site→Nat→Option (Site × Nat)) (l:List (BitVec 32)):rens f (F6 l)=F6 l:=by
  induction l with
  | nil=>rfl
  | cons x l ih=>simpa [F6,rens,ren,W] using ih
theorem Ych {l:List (BitVec 32)} {i:Nat} (h:i<l.length):(F6 l)[i]? = some (W (l.getD i 0)):=by simp [F6,h]
theorem Z5f {l:List (BitVec 32)} {i:Nat} {x:BitVec 32} (h:i<l.length):over (F6 l) i [W x]=F6 (l.set i x):=by
  unfold over F6
  rw [Yue,List.map_set,List.set_eq_take_append_cons_drop,if_pos (by simpa using h)]
  simp
theorem Z5g (l:List (BitVec 32)) (n:Nat):(F6 l).take n=F6 (l.take n):=by simp [F6,List.map_take]
theorem Z5h (l:List (BitVec 32)) (n:Nat):(F6 l).drop n=F6 (l.drop n):=by simp [F6,List.map_drop]
theorem Yci (l:List (BitVec 32)) (i n:Nat):sub (F6 l) i n=F6 (sub l i n):=by simp [sub,F6,List.map_drop,List.map_take]
theorem Zv1 {l m:List (BitVec 32)} (h:m.length=l.length):over (F6 l) 0 (F6 m)=F6 m:=by
  unfold over;exact Zij (by rw [Zei,Zei,h])
theorem hard_W (x:BitVec 32):V3 (W x)=true:=rfl
theorem flat_W (x:BitVec 32):N9 (W x)=true:=rfl
theorem Yjl (x:BitVec 32):Zar (W x)=[]:=rfl
theorem Yp1 (x:BitVec 32):U3 (W x)=false:=rfl
theorem ren_W (f:Site→Nat→Option (Site × Nat)) (x:BitVec 32):ren f (W x)=W x:=rfl
theorem view_W (x:BitVec 32):Zdd (W x)=.ret (W x,[]):=rfl
theorem Yp2 (x:BitVec 32):Zai (W x)=.ret (W x,[]):=rfl
theorem Yjm (x:BitVec 32):K1 (W x)=some [W x]:=rfl
def bw (l:List UInt8) (i:Nat):BitVec 32:=BitVec.ofNat 32 (l.getD i 0).toNat
theorem cvi_bw (l:List UInt8) (i:Nat):Zsi .u32 (.int .u8 (bat l i))=.ret (W (bw l i),[]):=by
  have h:=(l.getD i 0).toNat_lt
  have:IntKind.u32.wrap (bat l i)=((bw l i).toNat:Int):=by
    rw [Zjf];unfold bat bw
    rw [BitVec.toNat_ofNat]
    omega
  rw [Zoy,this];rfl
def wb (x:BitVec 32):UInt8:=UInt8.ofNat x.toNat
theorem cvi_wb (x:BitVec 32):Zsi .u8 (W x)=.ret (.int .u8 ((wb x).toNat:Int),[]):=by
  have:IntKind.u8.wrap (x.toNat:Int)=((wb x).toNat:Int):=by
    rw [Zcp];unfold wb
    simp
  rw [W,Zoy,this]
theorem WDs:(∀ (l:List (BitVec 32)) (n:Nat),(F6 l).take n=F6 (l.take n))∧(∀ (l:List (BitVec 32)) (n:Nat),(F6 l).drop n=F6 (l.drop n))∧(∀ (l:List (BitVec 32)) (i n:Nat),sub (F6 l) i n=F6 (sub l i n))∧(∀ l m:List (BitVec 32),m.length=l.length→over (F6 l) 0 (F6 m)=F6 m)∧(∀ n:Nat,zer (.int .u32 0) n=F6 (List.replicate n 0))∧(∀ a b:BitVec 32,J4 .add (W a) (W b)=some (W (a+b)))∧(∀ a b:BitVec 32,J4 .and (W a) (W b)=some (W (a &&& b)))∧(∀ a b:BitVec 32,J4 .or (W a) (W b)=some (W (a ||| b)))∧(∀ a b:BitVec 32,J4 .xor (W a) (W b)=some (W (a ^^^ b)))∧(∀ a:BitVec 32,Zsg .xor (W a)=some (W (~~~a)))∧(∀ (a:BitVec 32) (k:IntKind) (n:Int),0≤n→J4 .shl (W a) (.int k n)=some (W (a <<< n.toNat)))∧(∀ (a:BitVec 32) (k:IntKind) (n:Int),0≤n→J4 .shr (W a) (.int k n)=some (W (a >>> n.toNat)))∧(∀ l:List (BitVec 32),flats (F6 l)=true)∧(∀ l:List (BitVec 32),K4 (F6 l)=true)∧(∀ l:List (BitVec 32),leadss (F6 l)=false)∧(∀ l:List (BitVec 32),refsOfs (F6 l)=[])∧(∀ (f:Site→Nat→Option (Site × Nat)) (l:List (BitVec 32)),rens f (F6 l)=F6 l)∧(∀ l:List (BitVec 32),(F6 l).length=l.length)∧(∀ (l:List (BitVec 32)) (i:Nat),i<l.length→(F6 l)[i]? = some (W (l.getD i 0)))∧(∀ (l:List (BitVec 32)) (i:Nat) (x:BitVec 32),i<l.length→over (F6 l) i [W x]=F6 (l.set i x))∧(∀ x:BitVec 32,V3 (W x)=true)∧(∀ x:BitVec 32,N9 (W x)=true)∧(∀ x:BitVec 32,Zar (W x)=[])∧(∀ x:BitVec 32,U3 (W x)=false)∧(∀ (f:Site→Nat→Option (Site × Nat)) (x:BitVec 32),ren f (W x)=W x)∧(∀ x:BitVec 32,Zdd (W x)=.ret (W x,[]))∧(∀ x:BitVec 32,Zai (W x)=.ret (W x,[]))∧(∀ x:BitVec 32,K1 (W x)=some [W x])∧(∀ (l:List UInt8) (i:Nat),Zsi .u32 (.int .u8 (bat l i))=.ret (W (bw l i),[]))∧(∀ x:BitVec 32,Zsi .u8 (W x)=.ret (.int .u8 ((wb x).toNat:Int),[])) :=
  ⟨Z5g,Z5h,Yci,fun _ _ h=>Zv1 h,Ycg,w_add,w_and,w_or,w_xor,w_not,w_shl,w_shr,Zz5,Zz6,Zvz,Zv0,Z5e,Zei,fun _ _ h=>Ych h,fun _ _ _ h=>Z5f h,hard_W,flat_W,Yjl,Yp1,ren_W,view_W,Yp2,Yjm,cvi_bw,cvi_wb⟩
end Cod
namespace Cod
open Go
def Zgv (n:Nat):UInt8:=[(48:UInt8),49,50,51,52,53,54,55,56,57,97,98,99,100,101,102].getD n 0
def hexB (b:UInt8):List UInt8:=[Zgv (b.toNat/16),Zgv (b.toNat%16)]
def M0 (id:List UInt8):List UInt8:=id.flatMap hexB
theorem Zl7 (b:UInt8) (id:List UInt8):M0 (b::id)=Zgv (b.toNat/16)::Zgv (b.toNat%16)::M0 id:=rfl
theorem V1 (id:List UInt8):(M0 id).length=2*id.length:=by
  induction id with
  | nil=>rfl
  | cons x r ih=>rw [Zl7,Ysk,Ysk,ih,Ysk];omega
theorem Z5i:∀ n:Nat,n<16→(48≤(Zgv n).toNat∧(Zgv n).toNat≤57∨97≤(Zgv n).toNat∧(Zgv n).toNat≤102):=by decide
theorem Yjn {id:List UInt8} {c:UInt8} (h:c∈M0 id):∃ n,n<16∧c=Zgv n:=by
  induction id with
  | nil=>simp [M0] at h
  | cons x r ih =>
    rw [Zl7,List.mem_cons,List.mem_cons] at h
    have:=x.toNat_lt
    rcases h with h|h|h
    · exact ⟨_,by omega,h⟩
    · exact ⟨_,by omega,h⟩
    · exact ih h
theorem Zeo (id:List UInt8):(10:UInt8)∉M0 id:=by
  intro h
  obtain ⟨n,h1,h2⟩:=Yjn h
  have:=Z5i n h1
  rw [←h2] at this
  simp at this
theorem Zz7 {id:List UInt8}:∀ {i:Nat},i<id.length→(M0 id).getD (2*i) 0=Zgv ((id.getD i 0).toNat/16)∧(M0 id).getD (2*i+1) 0=Zgv ((id.getD i 0).toNat%16):=by
  induction id with
  | nil=>intro i h;simp at h
  | cons x r ih =>
    intro i h
    rw [Zl7]
    cases i with
    | zero=>exact ⟨rfl,rfl⟩
    | succ i =>
      have:=ih (i:=i) (by rw [Ysk] at h;omega)
      rw [show 2*(i+1)=2*i+1+1 by omega]
      simp only [List.getD_cons_succ]
      exact this
theorem Ycj (id:List UInt8) (x:UInt8):M0 (id++[x])=M0 id++[Zgv (x.toNat/16),Zgv (x.toNat%16)]:=by simp [M0,hexB]
theorem Zq5 {id:List UInt8} {k:Nat} (h:k<id.length):id.take (k+1)=id.take k++[id.getD k 0]:=by
  rw [List.take_succ_eq_append_getElem h];simp [List.getD,h]
theorem Yp3 {c:UInt8} {H T:List UInt8} (h:c∉H):(H++c::T).idxOf c=H.length:=by
  rw [List.idxOf_append,if_neg h,List.idxOf_cons_self,Nat.zero_add]
theorem Yp4 {w v r:List UInt8} (hw:(10:UInt8)∉w) (hv:(10:UInt8)∉v):(w++32::(v++10::r)).idxOf 10=w.length+1+v.length:=by
  have:w++32::(v++10::r)=(w++32::v)++10::r:=by simp
  rw [this,Yp3 (by simp [hw,hv])]
  simp;omega
theorem Zl8:∀ {a b:List UInt8},A0 a=A0 b→a=b:=by
  intro a
  induction a with
  | nil=>intro b h;cases b with
    | nil=>rfl
    | cons=>simp [A0] at h
  | cons x a ih =>
    intro b h
    cases b with
    | nil=>simp [A0] at h
    | cons y b =>
      simp only [A0,List.map_cons,List.cons.injEq,AV.int.injEq,true_and] at h
      have h1:x=y:=UInt8.toNat_inj.1 (by have:=h.1;omega)
      rw [h1,ih (by simpa [A0] using h.2)]
theorem Zk8:∀ {xs ys:List AV},K4 (xs++ys)=(K4 xs&&K4 ys):=by
  intro xs
  induction xs with
  | nil=>intro ys;simp [K4]
  | cons x xs ih=>intro ys;rw [Yr7,K4,K4,ih,Ys0]
theorem Zk9:∀ {xs ys:List AV},leadss (xs++ys)=(leadss xs||leadss ys):=by
  intro xs
  induction xs with
  | nil=>intro ys;simp [leadss]
  | cons x xs ih=>intro ys;rw [Yr7,leadss,leadss,ih,Bool.or_assoc]
theorem Zla:∀ {xs ys:List AV},refsOfs (xs++ys)=refsOfs xs++refsOfs ys:=by
  intro xs
  induction xs with
  | nil=>intro ys;simp [refsOfs]
  | cons x xs ih=>intro ys;rw [Yr7,refsOfs,refsOfs,ih,Ysw]
theorem Za6 {xs ys v:List AV} {i j:Nat} (h:i=xs.length+j):over (xs++ys) i v=xs++over ys j v:=by
  subst h
  induction xs with
  | nil=>simp
  | cons x xs ih =>
    rw [Yr7,Ysk,show xs.length+1+j=xs.length+j+1 by omega,Zje,ih]
    rfl
theorem Zq6 {xs ys:List AV} {i j:Nat} (h:i=xs.length+j):(xs++ys)[i]? = ys[j]? := by
  subst h
  rw [List.getElem?_append_right (by omega),Nat.add_sub_cancel_left]
theorem Zq7 {xs ys:List AV} {i j n:Nat} (h:i=xs.length+j):sub (xs++ys) i n=sub ys j n:=by
  subst h
  unfold sub
  rw [←List.drop_drop,List.drop_left]
theorem Yjo {xs ys:List AV} {n:Nat} (h:n=xs.length):sub (xs++ys) 0 n=xs:=by
  subst h
  unfold sub
  rw [Ytn,List.take_left]
end Cod
namespace Cod
open Go
structure Id32 where
  b:List UInt8
  h:b.length=32
instance:Inhabited Id32:=⟨⟨List.replicate 32 0,by simp⟩⟩
def Id32.cells (d:Id32):List AV:=A0 d.b
theorem Znz (d:Id32):d.cells.length=32:=by simp [Id32.cells,D9,d.h]
theorem Yck (d:Id32):flats d.cells=true:=Zae _
theorem Ycl (d:Id32):K4 d.cells=true:=Zaf _
theorem Ycm (d:Id32):leadss d.cells=false:=Zag _
theorem Yjp (d:Id32):refsOfs d.cells=[]:=Zah _
theorem Yjq (f:Site→Nat→Option (Site × Nat)) (d:Id32):rens f d.cells=d.cells:=Zgm f _
def ids (l:List Id32):List AV:=l.flatMap Id32.cells
def iat (l:List Id32) (i:Nat):Id32:=l.getD i default
theorem Zc5 (l:List Id32):(ids l).length=32*l.length:=Zhs Znz l
theorem Z7t:ids []=[]:=rfl
theorem Zz8 (a:List Id32) (s:Id32):ids a++A0 s.b=ids (a++[s]):=by simp [ids,Id32.cells]
theorem Ycn (l:List Id32):flats (ids l)=true:=Zgr Yck l
theorem Yco (l:List Id32):K4 (ids l)=true:=Zgs Ycl l
theorem Z5j (l:List Id32):leadss (ids l)=false:=Zff Ycm l
theorem Zz9 (l:List Id32):refsOfs (ids l)=[]:=Zio Yjp l
theorem Yjr (f:Site→Nat→Option (Site × Nat)) (l:List Id32):rens f (ids l)=ids l:=Zip f (Yjq f) l
theorem Z7u {l:List Id32} {i:Nat} (h:i<l.length):sub (ids l) (i*32) 32=A0 (iat l i).b:=Zo9 Znz h
theorem Z0a {l:List Id32}:sub (ids l) 0 (l.length*32)=ids l:=Zex (by rw [Zc5];omega)
attribute [go_sem] Z0a Zc5 Ycn Yco Z5j Zz9 Yjr Z7u
def mkI (d:List UInt8):Id32:=if h:d.length=32 then ⟨d,h⟩ else default
theorem mkI_b {d:List UInt8} (h:d.length=32):(mkI d).b=d:=by unfold mkI;rw [dif_pos h]
theorem Z0b (d:Id32):mkI d.b=d:=by unfold mkI;rw [dif_pos d.h]
end Cod
namespace Cod
open Go
structure Ety where
  mode:Int
  name:List UInt8
  id:List UInt8
  hid:id.length=32
def Ety.cells (e:Ety):List AV:=.int .i64 e.mode::.str e.name::A0 e.id
theorem Zdc (e:Ety):e.cells.length=34:=by simp [Ety.cells,D9,e.hid]
theorem Zl9 (e:Ety):flats e.cells=true:=by simp [Ety.cells,flats,N9,Zae]
theorem Z0c (f:Site→Nat→Option (Site × Nat)) (e:Ety):rens f e.cells=e.cells:=rens_flats _ (Zl9 e)
theorem Z0d (e:Ety):refsOfs e.cells=[]:=by simp [Ety.cells,refsOfs,Zar,Zah]
theorem Zq8 (e:Ety):K4 e.cells=true:=by simp [Ety.cells,K4,V3,Zaf]
theorem Zq9 (e:Ety):leadss e.cells=false:=by simp [Ety.cells,leadss,U3,Zag]
theorem Yp5 (e:Ety):sub e.cells 0 34=e.cells:=Zex (by rw [Zdc];exact Yr4 _)
theorem ety_0 (e:Ety):e.cells[0]? = some (.int .i64 e.mode):=rfl
theorem Yjs (e:Ety):e.cells[1]? = some (.str e.name):=rfl
attribute [go_sem] Zdc Zl9 Z0c Z0d Zq8 Zq9 Yp5 ety_0 Yjs
def Zfl (e:Ety):List UInt8:=if e.mode=16384 then e.name++[47] else e.name
theorem Zra:∀ a:List UInt8,Op.bytesLess a a=false:=by
  intro a
  induction a with
  | nil=>rfl
  | cons x a ih=>rw [Op.bytesLess,ih];simp
theorem Z7v {a b:List UInt8}:S E F.T5 [.str a,.str b] []=some (.int .i64 (Zo5 a b),[]):=by
  have hn (x:List UInt8):S E F.T7 [.str x] []=some (.bool false,[]):=by
    have hb:(x==x)=true:=by simp
    rw [S_of Zvc rfl rfl]
    simp -dsimp (disch:=first|omega|(simp only [A3]<;>omega)|fail) only [L.T7,go_sem,reduceIte,reduceCtorEq,A9,B0,B1,B2,B3,B4,B5,B6,B7,B8,B9,C0,C1,C2,C3,C4,C5,C6,C7,A2,hb,Yuf]
  rw [S_of Zuz rfl rfl]
  unfold Zo5
  by_cases he:a=b
  · subst he
    have hs:(a==a)=true:=by simp
    simp -dsimp (disch:=first|omega|(simp only [A3]<;>omega)|fail) only [L.T5,go_sem,reduceIte,reduceCtorEq,A9,B0,B1,B2,B3,B4,B5,B6,B7,B8,B9,C0,C1,C2,C3,C4,C5,C6,C7,A2,hn,Zra,hs,Yuf]
  · have hs:(a==b)=false:=by simp [he]
    rw [if_neg he]
    cases c1:Op.bytesLess a b<;>simp -dsimp (disch:=first|omega|(simp only [A3]<;>omega)|fail) only [L.T5,go_sem,reduceIte,reduceCtorEq,A9,B0,B1,B2,B3,B4,B5,B6,B7,B8,B9,C0,C1,C2,C3,C4,C5,C6,C7,A2,hn,c1,hs,Yug]
theorem Zrb {a b:Ety} (ha:a.name.length≤1000000000000) (hb:b.name.length≤1000000000000):S E F.X5 [.agg a.cells,.agg b.cells] []=some (.int .i64 (Zo5 (Zfl a) (Zfl b)),[]):=by
  rw [S_of Zuc rfl rfl]
  unfold Zfl
  by_cases h1:a.mode=16384
  · by_cases h2:b.mode=16384<;>simp -dsimp (disch:=first|omega|(simp only [A3]<;>omega)|fail) only [L.X5,go_sem,reduceIte,reduceCtorEq,A9,B0,B1,B2,B3,B4,B5,B6,B7,B8,B9,C0,C1,C2,C3,C4,C5,C6,C7,A2,h1,h2,Z7v]
  · by_cases h2:b.mode=16384<;>simp -dsimp (disch:=first|omega|(simp only [A3]<;>omega)|fail) only [L.X5,go_sem,reduceIte,reduceCtorEq,A9,B0,B1,B2,B3,B4,B5,B6,B7,B8,B9,C0,C1,C2,C3,C4,C5,C6,C7,A2,h1,h2,Z7v]
end Cod
namespace Cod
open Go
instance:Inhabited Ety:=⟨0,[],List.replicate 32 0,by simp⟩
def P8 (l:List Ety):List AV:=l.flatMap Ety.cells
def eat (l:List Ety) (i:Nat):Ety:=l.getD i default
theorem A4 (l:List Ety):(P8 l).length=34*l.length:=Zhs Zdc l
theorem Z0e:P8 []=[]:=rfl
theorem Zrc (a:List Ety) (s:Ety):P8 a++s.cells=P8 (a++[s]):=by simp [P8]
theorem Z5k (l:List Ety):flats (P8 l)=true:=Zgr Zl9 l
theorem Z5l (l:List Ety):K4 (P8 l)=true:=Zgs Zq8 l
theorem Z0f (l:List Ety):leadss (P8 l)=false:=Zff Zq9 l
theorem Zv2 (l:List Ety):refsOfs (P8 l)=[]:=Zio Z0d l
theorem Ycp (f:Site→Nat→Option (Site × Nat)) (l:List Ety):rens f (P8 l)=P8 l:=Zip f (Z0c f) l
theorem Z0g {l:List Ety} {i:Nat} (h:i<l.length):sub (P8 l) (i*34) 34=(eat l i).cells:=Zo9 Zdc h
theorem Z7w {l:List Ety} {i j:Nat} (h:i<l.length) (hj:j<34):(P8 l)[i*34+j]? = (eat l i).cells[j]? := Yp0 Zdc h hj
theorem ety0z:(AV.int .i64 0::.str []::zer (.int .u8 0) 32)=(default:Ety).cells:=rfl
theorem ety0b:(AV.int .i64 0::.str []::A0 (List.replicate 32 0))=(default:Ety).cells:=rfl
theorem Yjt (a b:Ety):over a.cells 0 b.cells=b.cells:=by
  unfold over;exact Zij (by rw [Zdc,Zdc])
theorem Yju (e:Ety):sub e.cells 2 32=A0 e.id:=by
  simp only [sub,Ety.cells,Ytt,Ytn]
  exact Ysu (by rw [D9,e.hid];exact Yr4 _)
theorem Yjv (e:Ety):e.cells.take 34=e.cells:=Ysu (by rw [Zdc];exact Yr4 _)
attribute [go_sem] A4 Z5k Z5l Z0f Zv2 Ycp Z0g ety0z ety0b Yjt Yju Yjv
end Cod
namespace Cod
open Go
theorem Zv3:∀ (n:Nat) (x y:List UInt8) (ks:List Nat) (xs ys:List AV),x.length=n→y.length=n→J3 (List.replicate n 0++ks) (A0 x++xs) (A0 y++ys)=(J3 ks xs ys).map (x==y && ·):=by
  intro n
  induction n with
  | zero =>
    intro x y ks xs ys hx hy
    obtain rfl:=Yss hx
    obtain rfl:=Yss hy
    simp [A0]
  | succ n ih =>
    intro x y ks xs ys hx hy
    cases x with
    | nil=>simp at hx
    | cons a x =>
      cases y with
      | nil=>simp at hy
      | cons b y =>
        have h1:=ih x y ks xs ys (by simpa using hx) (by simpa using hy)
        have e1:A0 (a::x)=.int .u8 a.toNat::A0 x:=rfl
        have e2:A0 (b::y)=.int .u8 b.toNat::A0 y:=rfl
        rw [e1,e2,List.replicate_succ,Yr7,Yr7,Yr7]
        simp only [J3,if_true,h1,Option.map_map]
        congr 1
        funext z
        have:((a.toNat:Int)==b.toNat)=(a==b):=by
          by_cases h:a=b
          · subst h;simp
          · have h2:¬ ((a.toNat:Int)=b.toNat):=fun e=>h (UInt8.toNat_inj.1 (by omega))
            rw [beq_eq_false_iff_ne.2 h,beq_eq_false_iff_ne.2 h2]
        simp only [Function.comp,this,List.cons_beq_cons,Ys0]
theorem Zpa {x y:List UInt8} (hx:x.length=32) (hy:y.length=32):J3 [0,0,0,0,0,0,0,0,0,0,0,0,0,0,0,0,0,0,0,0,0,0,0,0,0,0,0,0,0,0,0,0] (A0 x) (A0 y)=some (x==y):=by
  have h:=Zv3 32 x y [] [] [] hx hy
  rw [Yuh,Yuh,Yuh] at h
  rw [show [0,0,0,0,0,0,0,0,0,0,0,0,0,0,0,0,0,0,0,0,0,0,0,0,0,0,0,0,0,0,0,0]=List.replicate 32 0 from rfl,h]
  simp [J3]
end Cod
namespace Cod
open Go
structure Lnk where
  kind:Int
  id:Id32
instance:Inhabited Lnk:=⟨⟨0,default⟩⟩
def Lnk.cells (l:Lnk):List AV:=.int .i64 l.kind::A0 l.id.b
theorem Ziq (l:Lnk):l.cells.length=33:=by simp [Lnk.cells,D9,l.id.h]
theorem Zma (l:Lnk):flats l.cells=true:=by simp [Lnk.cells,flats,N9,Zae]
theorem Zrd (l:Lnk):K4 l.cells=true:=by simp [Lnk.cells,K4,V3,Zaf]
theorem Zre (l:Lnk):leadss l.cells=false:=by simp [Lnk.cells,leadss,U3,Zag]
theorem Z0h (l:Lnk):refsOfs l.cells=[]:=by simp [Lnk.cells,refsOfs,Zar,Zah]
theorem Z0i (f:Site→Nat→Option (Site × Nat)) (l:Lnk):rens f l.cells=l.cells:=rens_flats _ (Zma l)
theorem Yp6 (l:Lnk):sub l.cells 0 33=l.cells:=Zex (by rw [Ziq];exact Yr4 _)
theorem lnk_0 (l:Lnk):l.cells[0]? = some (.int .i64 l.kind):=rfl
theorem lnk_id (l:Lnk):sub l.cells 1 32=A0 l.id.b:=by
  simp only [sub,Lnk.cells,Ytt,Ytn]
  exact Ysu (by rw [D9,l.id.h];exact Yr4 _)
def Zau (l:List Lnk):List AV:=l.flatMap Lnk.cells
def lat (l:List Lnk) (i:Nat):Lnk:=l.getD i default
theorem Zm7 (l:List Lnk):(Zau l).length=33*l.length:=Zhs Ziq l
theorem Ycq (a:List Lnk) (s:Lnk):Zau a++s.cells=Zau (a++[s]):=by simp [Zau]
theorem Z5m (l:List Lnk):flats (Zau l)=true:=Zgr Zma l
theorem Z5n (l:List Lnk):K4 (Zau l)=true:=Zgs Zrd l
theorem Z0j (l:List Lnk):leadss (Zau l)=false:=Zff Zre l
theorem Zv4 (l:List Lnk):refsOfs (Zau l)=[]:=Zio Z0h l
theorem Ycr (f:Site→Nat→Option (Site × Nat)) (l:List Lnk):rens f (Zau l)=Zau l:=Zip f (Z0i f) l
theorem Yjw {l:List Lnk} {i:Nat} (h:i<l.length):sub (Zau l) (i*33) 33=(lat l i).cells:=Zo9 Ziq h
theorem Zlb {l:List Lnk}:sub (Zau l) 0 (l.length*33)=Zau l:=Zex (by rw [Zm7];omega)
theorem lnk0z:M6 [.int .i64 0] (zer (.int .u8 0) 32)=(Lnk.mk 0 default).cells:=rfl
theorem lnk0c:AV.int .i64 0::A0 (List.replicate 32 0)=(Lnk.mk 0 default).cells:=rfl
theorem lnk0d:[AV.int .i64 0]++A0 (List.replicate 32 0)=(Lnk.mk 0 default).cells:=rfl
theorem over_k (k x:Int) (d:Id32):over (Lnk.mk k d).cells 0 [.int .i64 x]=(Lnk.mk x d).cells:=rfl
theorem Zmb (k:Int) (d e:Id32):over (Lnk.mk k d).cells 1 (A0 e.b)=(Lnk.mk k e).cells:=by
  show over (AV.int .i64 k::A0 d.b) 1 (A0 e.b)=_
  rw [Zje,R3 (by rw [e.h,d.h])]
  rfl
theorem Yjx (a b:Lnk):over a.cells 0 b.cells=b.cells:=by
  unfold over;exact Zij (by rw [Ziq,Ziq])
attribute [go_sem] Ziq Zma Zrd Zre Z0h Z0i Yp6 lnk_0 lnk_id Zm7 Z5m Z5n Z0j Zv4 Ycr Yjw Zlb lnk0z lnk0c lnk0d over_k Zmb Yjx Ycq
def Zjg (l:List Id32):List Lnk:=l.map fun d=>⟨1,d⟩
def Zjh (l:List Ety):List Lnk:=l.map fun e=>⟨if e.mode=16384 then 2 else 3,⟨e.id,e.hid⟩⟩
theorem Zrf {ps:List Id32} {i:Nat} (h:i<ps.length):Zjg (ps.drop i)=⟨1,iat ps i⟩::Zjg (ps.drop (i+1)):=by
  have e:ps.drop i=iat ps i::ps.drop (i+1):=by rw [Yt7 h];simp [iat,List.getD,h]
  rw [e];rfl
def Zji (e:Ety):Lnk:=⟨if e.mode=16384 then 2 else 3,⟨e.id,e.hid⟩⟩
theorem Zrg {l:List Ety} {i:Nat} (h:i<l.length):Zjh (l.drop i)=Zji (eat l i)::Zjh (l.drop (i+1)):=by
  have e:l.drop i=eat l i::l.drop (i+1):=by rw [Yt7 h];simp [eat,List.getD,h]
  rw [e];rfl
theorem lk_par {E:Env} {ps:List Id32} (hps:ps.length≤1000000) (k:List It):∀ (m i:Nat) (a:List Lnk),i+m=ps.length→a.length≤i+1 →
    X E [.tmp 2,.tmp 3] (.c L.D4.x0::.lp [5,42,43,44] L.D4.x0::.blk 1::k) ⟨[(5,.buf (.s 1000000 0) 0 0 (a).length 33),(42,.buf (.s 1000000 1) 0 0 ps.length 32),(43,.int .i64 ps.length),(44,.int .i64 (i:Int))],[(.s 1000000 0,⟨0,true,true,false,Zau (a)⟩),(.s 1000000 1,⟨0,true,true,false,ids ps⟩)]⟩ =
    X E [.tmp 2,.tmp 3] k ⟨[(5,.buf (.s 1000000 0) 0 0 ((a++Zjg (ps.drop i))).length 33),(42,.buf (.s 1000000 1) 0 0 ps.length 32),(43,.int .i64 ps.length),(44,.int .i64 (ps.length:Int))]++[(45,.bool false)],[(.s 1000000 0,⟨0,true,true,false,Zau (a++Zjg (ps.drop i))⟩),(.s 1000000 1,⟨0,true,true,false,ids ps⟩)]⟩:=by
  intro m
  induction m with
  | zero =>
    intro i a hi hl
    obtain rfl:i=ps.length:=by omega
    rw [G8 L.D4.x0.eq_1,Yui,show Zjg []=[] from rfl,Yuh]
    simp only [Yr7,Ytw]
    simp -dsimp (disch:=first|omega|(simp only [A3]<;>omega)|fail) only [go_sem,reduceIte,reduceCtorEq,A9,B0,B1,B2,B3,B4,B5,B6,B7,B8,B9,C0,C1,C2,C3,C4,C5,C6,C7,A2,BYs]
  | succ m ih =>
    intro i a hi hl
    have hlt:i<ps.length:=by omega
    have hx:=(iat ps i).h
    have h1:=ih (i+1) (a++[⟨1,iat ps i⟩]) (by omega) (by rw [Ysv,Yue];omega)
    have e:a++Zjg (ps.drop i)=a++[⟨1,iat ps i⟩]++Zjg (ps.drop (i+1)):=by
      rw [Zrf hlt,Ysw];rfl
    rw [e,←h1]
    simp only [Yuj,Yuk]
    have ho:over (A0 (List.replicate 32 0)) 0 (A0 (iat ps i).b)=A0 (iat ps i).b:=R3 (by rw [hx];simp)
    have hln:(a++[(⟨1,iat ps i⟩:Lnk)]).length=a.length+1:=by simp
    conv=>lhs;rw [G8 L.D4.x0.eq_1]
    simp -dsimp (disch:=first|omega|(simp only [A3]<;>omega)|fail) only [go_sem,reduceIte,reduceCtorEq,A9,B0,B1,B2,B3,B4,B5,B6,B7,B8,B9,C0,C1,C2,C3,C4,C5,C6,C7,A2,BYs,ho,hx,hln,Yul]
theorem Yp7 {E:Env} {ps:List Id32} (hps:ps.length≤1000000) (k:List It):∀ (m i:Nat) (a:List Lnk),i+m=ps.length→a.length≤i+1 →
    X E [.tmp 2,.tmp 3] (.c L.D6.x0::.lp [5,39,40,41] L.D6.x0::.blk 1::k) ⟨[(5,.buf (.s 1000000 0) 0 0 (a).length 33),(39,.buf (.s 1000000 1) 0 0 ps.length 32),(40,.int .i64 ps.length),(41,.int .i64 (i:Int))],[(.s 1000000 0,⟨0,true,true,false,Zau (a)⟩),(.s 1000000 1,⟨0,true,true,false,ids ps⟩)]⟩ =
    X E [.tmp 2,.tmp 3] k ⟨[(5,.buf (.s 1000000 0) 0 0 ((a++Zjg (ps.drop i))).length 33),(39,.buf (.s 1000000 1) 0 0 ps.length 32),(40,.int .i64 ps.length),(41,.int .i64 (ps.length:Int))]++[(42,.bool false)],[(.s 1000000 0,⟨0,true,true,false,Zau (a++Zjg (ps.drop i))⟩),(.s 1000000 1,⟨0,true,true,false,ids ps⟩)]⟩:=by
  intro m
  induction m with
  | zero =>
    intro i a hi hl
    obtain rfl:i=ps.length:=by omega
    rw [G8 L.D6.x0.eq_1,Yui,show Zjg []=[] from rfl,Yuh]
    simp only [Yr7,Ytw]
    simp -dsimp (disch:=first|omega|(simp only [A3]<;>omega)|fail) only [go_sem,reduceIte,reduceCtorEq,A9,B0,B1,B2,B3,B4,B5,B6,B7,B8,B9,C0,C1,C2,C3,C4,C5,C6,C7,A2,BYs]
  | succ m ih =>
    intro i a hi hl
    have hlt:i<ps.length:=by omega
    have hx:=(iat ps i).h
    have h1:=ih (i+1) (a++[⟨1,iat ps i⟩]) (by omega) (by rw [Ysv,Yue];omega)
    have e:a++Zjg (ps.drop i)=a++[⟨1,iat ps i⟩]++Zjg (ps.drop (i+1)):=by
      rw [Zrf hlt,Ysw];rfl
    rw [e,←h1]
    simp only [Yuj,Yuk]
    have ho:over (A0 (List.replicate 32 0)) 0 (A0 (iat ps i).b)=A0 (iat ps i).b:=R3 (by rw [hx];simp)
    have hln:(a++[(⟨1,iat ps i⟩:Lnk)]).length=a.length+1:=by simp
    conv=>lhs;rw [G8 L.D6.x0.eq_1]
    simp -dsimp (disch:=first|omega|(simp only [A3]<;>omega)|fail) only [go_sem,reduceIte,reduceCtorEq,A9,B0,B1,B2,B3,B4,B5,B6,B7,B8,B9,C0,C1,C2,C3,C4,C5,C6,C7,A2,BYs,ho,hx,hln,Yul]
theorem lk_ent {E:Env} {l:List Ety} (hps:l.length≤1000000) (k:List It):∀ (m i:Nat) (a:List Lnk),i+m=l.length→a.length≤i+1 →
    X E [.tmp 2,.tmp 3] (.c L.D4.x1::.lp [5,65,66,67] L.D4.x1::.blk 3::k) ⟨[(5,.buf (.s 1000000 0) 0 0 (a).length 33),(65,.buf (.s 1000000 1) 0 0 l.length 34),(66,.int .i64 l.length),(67,.int .i64 (i:Int))],[(.s 1000000 0,⟨0,true,true,false,Zau (a)⟩),(.s 1000000 1,⟨0,true,true,false,P8 l⟩)]⟩ =
    X E [.tmp 2,.tmp 3] k ⟨[(5,.buf (.s 1000000 0) 0 0 ((a++Zjh (l.drop i))).length 33),(65,.buf (.s 1000000 1) 0 0 l.length 34),(66,.int .i64 l.length),(67,.int .i64 (l.length:Int))]++[(68,.bool false)],[(.s 1000000 0,⟨0,true,true,false,Zau (a++Zjh (l.drop i))⟩),(.s 1000000 1,⟨0,true,true,false,P8 l⟩)]⟩:=by
  intro m
  induction m with
  | zero =>
    intro i a hi hl
    obtain rfl:i=l.length:=by omega
    rw [G8 L.D4.x1.eq_1,Yui,show Zjh []=[] from rfl,Yuh]
    simp only [Yr7,Ytw]
    simp -dsimp (disch:=first|omega|(simp only [A3]<;>omega)|fail) only [go_sem,reduceIte,reduceCtorEq,A9,B0,B1,B2,B3,B4,B5,B6,B7,B8,B9,C0,C1,C2,C3,C4,C5,C6,C7,A2,BYs]
  | succ m ih =>
    intro i a hi hl
    have hlt:i<l.length:=by omega
    have hx:=(eat l i).hid
    have h1:=ih (i+1) (a++[Zji (eat l i)]) (by omega) (by rw [Ysv,Yue];omega)
    have e:a++Zjh (l.drop i)=a++[Zji (eat l i)]++Zjh (l.drop (i+1)):=by
      rw [Zrg hlt,Ysw];rfl
    rw [e,←h1]
    simp only [Yuj,Yuk]
    have hln:(a++[Zji (eat l i)]).length=a.length+1:=by simp
    have od:∀ k (d:Id32),over (Lnk.mk k d).cells 1 (A0 (eat l i).id)=(Lnk.mk k ⟨(eat l i).id,hx⟩).cells:=fun k d=>Zmb k d ⟨(eat l i).id,hx⟩
    conv=>lhs;rw [G8 L.D4.x1.eq_1]
    by_cases hm:(eat l i).mode=16384
    · have ek:Zji (eat l i)=⟨2,⟨(eat l i).id,hx⟩⟩:=by unfold Zji;rw [if_pos hm]
      rw [ek] at hln ⊢
      simp -dsimp (disch:=first|omega|(simp only [A3]<;>omega)|fail) only [go_sem,reduceIte,reduceCtorEq,A9,B0,B1,B2,B3,B4,B5,B6,B7,B8,B9,C0,C1,C2,C3,C4,C5,C6,C7,A2,BYs,od,hx,hm,hln,Yul]
    · have ek:Zji (eat l i)=⟨3,⟨(eat l i).id,hx⟩⟩:=by unfold Zji;rw [if_neg hm]
      rw [ek] at hln ⊢
      simp -dsimp (disch:=first|omega|(simp only [A3]<;>omega)|fail) only [go_sem,reduceIte,reduceCtorEq,A9,B0,B1,B2,B3,B4,B5,B6,B7,B8,B9,C0,C1,C2,C3,C4,C5,C6,C7,A2,BYs,od,hx,hm,hln,Yul]
theorem Yp8 {E:Env} {l:List Ety} (hps:l.length≤1000000) (k:List It):∀ (m i:Nat) (a:List Lnk),i+m=l.length→a.length≤i+1 →
    X E [.tmp 2,.tmp 3] (.c L.D6.x1::.lp [5,59,60,61] L.D6.x1::.blk 3::k) ⟨[(5,.buf (.s 1000000 0) 0 0 (a).length 33),(59,.buf (.s 1000000 1) 0 0 l.length 34),(60,.int .i64 l.length),(61,.int .i64 (i:Int))],[(.s 1000000 0,⟨0,true,true,false,Zau (a)⟩),(.s 1000000 1,⟨0,true,true,false,P8 l⟩)]⟩ =
    X E [.tmp 2,.tmp 3] k ⟨[(5,.buf (.s 1000000 0) 0 0 ((a++Zjh (l.drop i))).length 33),(59,.buf (.s 1000000 1) 0 0 l.length 34),(60,.int .i64 l.length),(61,.int .i64 (l.length:Int))]++[(62,.bool false)],[(.s 1000000 0,⟨0,true,true,false,Zau (a++Zjh (l.drop i))⟩),(.s 1000000 1,⟨0,true,true,false,P8 l⟩)]⟩:=by
  intro m
  induction m with
  | zero =>
    intro i a hi hl
    obtain rfl:i=l.length:=by omega
    rw [G8 L.D6.x1.eq_1,Yui,show Zjh []=[] from rfl,Yuh]
    simp only [Yr7,Ytw]
    simp -dsimp (disch:=first|omega|(simp only [A3]<;>omega)|fail) only [go_sem,reduceIte,reduceCtorEq,A9,B0,B1,B2,B3,B4,B5,B6,B7,B8,B9,C0,C1,C2,C3,C4,C5,C6,C7,A2,BYs]
  | succ m ih =>
    intro i a hi hl
    have hlt:i<l.length:=by omega
    have hx:=(eat l i).hid
    have h1:=ih (i+1) (a++[Zji (eat l i)]) (by omega) (by rw [Ysv,Yue];omega)
    have e:a++Zjh (l.drop i)=a++[Zji (eat l i)]++Zjh (l.drop (i+1)):=by
      rw [Zrg hlt,Ysw];rfl
    rw [e,←h1]
    simp only [Yuj,Yuk]
    have hln:(a++[Zji (eat l i)]).length=a.length+1:=by simp
    have od:∀ k (d:Id32),over (Lnk.mk k d).cells 1 (A0 (eat l i).id)=(Lnk.mk k ⟨(eat l i).id,hx⟩).cells:=fun k d=>Zmb k d ⟨(eat l i).id,hx⟩
    conv=>lhs;rw [G8 L.D6.x1.eq_1]
    by_cases hm:(eat l i).mode=16384
    · have ek:Zji (eat l i)=⟨2,⟨(eat l i).id,hx⟩⟩:=by unfold Zji;rw [if_pos hm]
      rw [ek] at hln ⊢
      simp -dsimp (disch:=first|omega|(simp only [A3]<;>omega)|fail) only [go_sem,reduceIte,reduceCtorEq,A9,B0,B1,B2,B3,B4,B5,B6,B7,B8,B9,C0,C1,C2,C3,C4,C5,C6,C7,A2,BYs,od,hx,hm,hln,Yul]
    · have ek:Zji (eat l i)=⟨3,⟨(eat l i).id,hx⟩⟩:=by unfold Zji;rw [if_neg hm]
      rw [ek] at hln ⊢
      simp -dsimp (disch:=first|omega|(simp only [A3]<;>omega)|fail) only [go_sem,reduceIte,reduceCtorEq,A9,B0,B1,B2,B3,B4,B5,B6,B7,B8,B9,C0,C1,C2,C3,C4,C5,C6,C7,A2,BYs,od,hx,hm,hln,Yul]
end Cod
namespace Cod
open Go
def O8 (l:List Int):List AV:=l.map (.int .i64)
theorem A1 (l:List Int):(O8 l).length=l.length:=by simp [O8]
theorem Zjj (n:List UInt8):∀ (ks:List (List UInt8)) (j:Nat),Zbl true (.str n) (Zc3 ks) j=some (if n∈ks then some (j+ks.idxOf n) else none):=by
  intro ks
  induction ks with
  | nil=>intro j;rfl
  | cons k ks ih =>
    intro j
    show Zbl true (.str n) (.str k::Zc3 ks) j=_
    unfold Zbl
    by_cases h:n=k
    · subst h
      simp [Zjt]
    · have e:Zjt true (.str n) (.str k)=some false:=by simp [Zjt,h]
      rw [e]
      simp only
      rw [ih (j+1)]
      by_cases hm:n∈ks
      · have e2:(k::ks).idxOf n=ks.idxOf n+1:=by
          rw [Yum]
          have:(k==n)=false:=by simp [Ne.symm h]
          rw [this];rfl
        rw [if_pos hm,if_pos (Ys8 _ hm),e2]
        congr 2;omega
      · rw [if_neg hm,if_neg (by simp [h,hm])]
structure MapOK (seen:List (List UInt8)) (ks:List (List UInt8)) (vs:List Int):Prop where
  len:vs.length=ks.length
  mem:∀ n,n∈ks↔n∈seen
  pos:∀ v∈vs,1≤v∧v≤seen.length
theorem MapOK.nil:MapOK [] [] []:=⟨rfl,fun _=>Iff.rfl,fun v h=>by simp at h⟩
theorem MapOK.old {seen ks:List (List UInt8)} {vs:List Int} (h:MapOK seen ks vs) {n:List UInt8} (hn:n∈ks):∃ v,vs[ks.idxOf n]? = some v∧1≤v∧v≤seen.length∧MapOK (seen++[n]) ks (vs.set (ks.idxOf n) (v+1)):=by
  have hi:ks.idxOf n<vs.length:=by rw [h.len];exact List.idxOf_lt_length_of_mem hn
  obtain ⟨v,hv⟩:∃ v,vs[ks.idxOf n]? = some v:=⟨_,List.getElem?_eq_getElem hi⟩
  obtain ⟨p1,p2⟩:=h.pos v (List.mem_of_getElem? hv)
  refine ⟨v,hv,p1,p2,⟨by rw [List.length_set];exact h.len,?_,?_⟩⟩
  · intro m
    rw [h.mem,Yun,Ysm]
    constructor
    · exact .inl
    · rintro (h1|h1)
      · exact h1
      · rw [h1];exact (h.mem n).1 hn
  · intro x hx
    rw [Ysv,Yue]
    rcases List.mem_or_eq_of_mem_set hx with h1|h1
    · have:=h.pos x h1;omega
    · omega
theorem MapOK.new {seen ks:List (List UInt8)} {vs:List Int} (h:MapOK seen ks vs) {n:List UInt8} (hn:n∉ks):MapOK (seen++[n]) (ks++[n]) (vs++[1]):=by
  refine ⟨by simp [h.len],?_,?_⟩
  · intro m
    simp only [Yun,Ysm,h.mem]
  · intro x hx
    rw [Ysv,Yue]
    rcases List.mem_append.1 hx with h1|h1
    · have:=h.pos x h1;omega
    · rw [List.mem_singleton.1 h1];omega
end Cod
namespace Cod
open Go
def Zpb:Nat→Nat→List UInt8→List UInt8
  | 0,_,acc=>acc
  | f+1,u,acc=>if u<8 then byt (48+(u:Int))::acc else Zpb f (u/8) (byt (48+(u%8:Nat))::acc)
def Q2 (m:Int):List UInt8:=(if m<0 then [45] else [])++Zpb 22 m.natAbs []
theorem Yjy:∀ (f u:Nat) (acc:List UInt8),(Zpb f u acc).length≤f+acc.length:=by
  intro f
  induction f with
  | zero=>intro u acc;simp [Zpb]
  | succ f ih =>
    intro u acc
    unfold Zpb
    split
    · simp;omega
    · have:=ih (u/8) (byt (48+(u%8:Nat))::acc)
      simp only [Ysk] at this
      omega
theorem Zhu (m:Int):(Q2 m).length≤23:=by
  unfold Q2
  have:=Yjy 22 m.natAbs []
  rw [Ysv]
  simp only [List.length_nil] at this
  split<;>simp<;>omega
end Cod
namespace Cod
open Go
set_option maxRecDepth 100000
theorem tz8:S E F.Zck [.int .u64 8] []=some (.int .i64 3,[]):=Zde.2 ⟨60,by kernel_rfl⟩
theorem pow8:S E F.Zcj [.int .i64 8] []=some (.bool true,[]):=Zde.2 ⟨60,by kernel_rfl⟩
def Yjz:List UInt8:=[48,49,50,51,52,53,54,55,56,57,97,98,99,100,101,102,103,104,105,106,107,108,109,110,111,112,113,114,115,116,117,118,119,120,121,122]
theorem Z0k:∀ u:Nat,u<8→bat Yjz u=48+(u:Int):=by decide
def Zmc (i:Nat) (acc:List UInt8):List UInt8:=List.replicate i 0++acc
theorem Za7 (i:Nat) (acc:List UInt8):(Zmc i acc).length=i+acc.length:=by simp [Zmc]
theorem Zhv (i:Nat) (acc:List UInt8) (b:UInt8):(Zmc (i+1) acc).set i b=Zmc i (b::acc):=by
  unfold Zmc
  rw [List.replicate_succ',Ysw,List.set_append_right _ _ (by simp)]
  simp
theorem and7 (u:Nat) (h:u<18446744073709551616):Z3s .u64 (u:Int) 7=((u%8:Nat):Int):=by
  unfold Z3s
  have e:(BitVec.ofInt IntKind.u64.bits (u:Int) &&& BitVec.ofInt IntKind.u64.bits 7).toNat=u%8:=by
    rw [BitVec.toNat_and,Yt8,Yt8]
    show ((u:Int)%18446744073709551616).toNat &&& 7=u%8
    rw [show ((u:Int)%18446744073709551616).toNat=u by omega]
    exact Nat.and_two_pow_sub_one_eq_mod u 3
  rw [e,wrap_u64 (by omega) (by omega)]
theorem shr3 (u:Nat):Zyx .u64 (u:Int) 3=((u/8:Nat):Int):=by
  have:=Zzq (k:=.u64) (a:=(u:Int)) (n:=3) (by decide)
  simp only [Yuk] at this
  rw [this]
  omega
theorem fmt_l0 (k:List It) (b:Bool):∀ (f u i:Nat) (acc:List UInt8),u<8^f→u<18446744073709551616→f≤i→1≤f→i+acc.length=65 →
    ∃ (i' u':Nat) (acc':List UInt8),u' < 8∧1≤i'∧i'+acc'.length=65∧byt (48+(u':Int))::acc'=Zpb f u acc∧i+1≤f+i' ∧
    X E [.tmp 10,.tmp 11] (.c L.F4.x0::.lp [0,1,3,4,10,11,12,13,14,15,16] L.F4.x0::.blk 0::k) ⟨[(0,.nils),(1,.int .u64 u),(3,.bool b),(4,.bool false),(10,.buf (.s 1000000 0) 0 0 0 1),(11,.str []),(12,.ref (.s 1000000 1) 0 0),(13,.int .i64 i),(14,.int .u64 3),(15,.int .u64 8),(16,.int .u64 7)],[(.s 1000000 0,⟨0,true,true,false,[]⟩),(.s 1000000 1,⟨0,true,true,true,A0 (Zmc i acc)⟩)]⟩ =
    X E [.tmp 10,.tmp 11] k ⟨[(0,.nils),(1,.int .u64 u'),(3,.bool b),(4,.bool false),(10,.buf (.s 1000000 0) 0 0 0 1),(11,.str []),(12,.ref (.s 1000000 1) 0 0),(13,.int .i64 i'),(14,.int .u64 3),(15,.int .u64 8),(16,.int .u64 7),(46,.bool false)],[(.s 1000000 0,⟨0,true,true,false,[]⟩),(.s 1000000 1,⟨0,true,true,true,A0 (Zmc i' acc')⟩)]⟩:=by
  intro f
  induction f with
  | zero=>intro u i acc hu h64 hi h1;omega
  | succ f ih =>
    intro u i acc hu h64 hi _ hl
    rw [G8 L.F4.x0.eq_1]
    by_cases h8:u<8
    · refine ⟨i,u,acc,h8,by omega,hl,by rw [Zpb,if_pos h8],by omega,?_⟩
      simp -dsimp (disch:=first|omega|(simp only [A3,Za7]<;>omega)|fail) only [go_sem,reduceIte,reduceCtorEq,A9,B0,B1,B2,B3,B4,B5,B6,B7,B8,B9,C0,C1,C2,C3,C4,C5,C6,C7,A2,BYs,h8]
    · have hf:1≤f:=by
        rcases Nat.eq_zero_or_pos f with rfl|h
        · simp at hu;omega
        · exact h
      obtain ⟨j,rfl⟩:∃ j,i=j+1:=⟨i-1,by omega⟩
      have hmod:=Z0k (u%8) (by omega)
      obtain ⟨i',u',acc',q1,q2,q3,q4,q5,q6⟩:=ih (u/8) j (byt (48+(u%8:Nat))::acc) (by rw [Nat.pow_succ] at hu;omega) (by omega) (by omega) hf (by rw [Ysk];omega)
      refine ⟨i',u',acc',q1,q2,q3,by rw [Zpb,if_neg h8];exact q4,by omega,?_⟩
      rw [←q6]
      have e1:((j+1:Nat):Int)-1=j:=by omega
      have e2:Z3s .u64 (u:Int) 7=((u%8:Nat):Int):=and7 u h64
      have e3:Zyx .u64 (u:Int) 3=((u/8:Nat):Int):=shr3 u
      unfold Yjz at hmod
      have e4:UInt8.ofNat (48+((u%8:Nat):Int)).toNat=byt (48+((u%8:Nat):Int)):=rfl
      simp -dsimp (disch:=first|omega|(simp only [A3,Za7]<;>omega)|fail) only [go_sem,reduceIte,reduceCtorEq,A9,B0,B1,B2,B3,B4,B5,B6,B7,B8,B9,C0,C1,C2,C3,C4,C5,C6,C7,A2,BYs,h8,e1,e2,e3,Za4,hmod,e4,Zhv]
theorem Zrh (i:Nat) (acc:List UInt8):sub (Zmc i acc) i acc.length=acc:=by
  unfold Zmc sub
  rw [List.drop_left' (by simp),List.take_length]
theorem Zpc {u:Nat} {b:Bool} (h64:u≤9223372036854775808):S E F.F4 [.nils,.int .u64 (if b then (if u=0 then 0 else 18446744073709551616-(u:Int)) else u),.int .i64 8,.bool b,.bool false] []=some (.tup [.buf (.r 0) 0 0 0 1,.str ((if b then [45] else [])++Zpb 22 u [])],[(.r 0,⟨0,true,true,false,[]⟩)]):=by
  have h22:(8:Nat)^22=73786976294838206464:=by decide
  obtain ⟨i',u',acc',q1,q2,q3,q4,q5,q6⟩:=fmt_l0 [.c L.F4.r0,.c L.F4.r2] b 22 u 65 [] (by omega) (by omega) (by omega) (by omega) rfl
  obtain ⟨j,rfl⟩:∃ j,i'=j+1:=⟨i' - 1,by omega⟩
  have hmod:=Z0k u' q1
  unfold Yjz at hmod
  have e1:((j+1:Nat):Int)-1=j:=by omega
  have e4:UInt8.ofNat (48+(u':Int)).toNat=byt (48+(u':Int)):=rfl
  have e5:Zmc 65 []=List.replicate 65 0:=by simp [Zmc]
  rw [e5] at q6
  simp only [Yuk] at q6
  have hs1:sub (Zmc j (byt (48+(u':Int))::acc')) j (65-j)=Zpb 22 u []:=by
    rw [←q4,show 65-j=(byt (48+(u':Int))::acc').length by rw [Ysk];omega]
    exact Zrh j _
  rw [S_of Zu0 rfl rfl]
  cases b with
  | false =>
    simp -dsimp (disch:=first|omega|(simp only [A3,Za7]<;>omega)|fail) only [L.F4,go_sem,reduceIte,reduceCtorEq,A9,B0,B1,B2,B3,B4,B5,B6,B7,B8,B9,C0,C1,C2,C3,C4,C5,C6,C7,A2,BYs,tz8,pow8]
    rw [q6]
    simp -dsimp (disch:=first|omega|(simp only [A3,Za7]<;>omega)|fail) only [L.F4.r0,go_sem,reduceIte,reduceCtorEq,A9,B0,B1,B2,B3,B4,B5,B6,B7,B8,B9,C0,C1,C2,C3,C4,C5,C6,C7,A2,BYs,e1,hmod,e4,Zhv,Za4]
    simp -dsimp (disch:=first|omega|(simp only [A3,Za7]<;>omega)|fail) only [L.F4.r2,go_sem,reduceIte,reduceCtorEq,A9,B0,B1,B2,B3,B4,B5,B6,B7,B8,B9,C0,C1,C2,C3,C4,C5,C6,C7,A2,BYs,e1,hmod,e4,Zhv,Za4,hs1]
  | true =>
    have e6:IntKind.u64.wrap (0-(if u=0 then 0 else 18446744073709551616-(u:Int)))=u:=by
      simp only [IntKind.wrap,IntKind.signed,IntKind.bits]
      split<;>simp<;>omega
    simp -dsimp (disch:=first|omega|(simp only [A3,Za7]<;>omega)|fail) only [L.F4,go_sem,reduceIte,reduceCtorEq,A9,B0,B1,B2,B3,B4,B5,B6,B7,B8,B9,C0,C1,C2,C3,C4,C5,C6,C7,A2,BYs,tz8,pow8,e6]
    rw [q6]
    obtain ⟨m,rfl⟩:∃ m,j=m+1:=⟨j-1,by omega⟩
    have e7:((m+1:Nat):Int)-1=m:=by omega
    have hs2:sub (Zmc m (45::byt (48+(u':Int))::acc')) m (65-m)=45::Zpb 22 u []:=by
      rw [←q4,show 65-m=(45::byt (48+(u':Int))::acc').length by rw [Ysk,Ysk];omega]
      exact Zrh m _
    have e8:UInt8.ofNat 45=45:=rfl
    simp -dsimp (disch:=first|omega|(simp only [A3,Za7]<;>omega)|fail) only [L.F4.r0,go_sem,reduceIte,reduceCtorEq,A9,B0,B1,B2,B3,B4,B5,B6,B7,B8,B9,C0,C1,C2,C3,C4,C5,C6,C7,A2,BYs,e1,hmod,e4,Zhv,Za4]
    simp -dsimp (disch:=first|omega|(simp only [A3,Za7]<;>omega)|fail) only [L.F4.r2,go_sem,reduceIte,reduceCtorEq,A9,B0,B1,B2,B3,B4,B5,B6,B7,B8,B9,C0,C1,C2,C3,C4,C5,C6,C7,A2,BYs,e7,e8,Zhv,Za4,hs2]
theorem Zjk {m:Int} (h0 : -9223372036854775808≤m) (h1:m≤9223372036854775807):S E F.S9 [.int .i64 m,.int .i64 8] []=some (.str (Q2 m),[]):=by
  have hb:S E F.T0 [.int .i64 m,.int .i64 8] []=some (.str (Q2 m),[]):=by
    rw [S_of Zud rfl rfl]
    unfold Q2
    by_cases hn:m<0
    · have h2:=Zpc (u:=m.natAbs) (b:=true) (by omega)
      rw [if_pos rfl,if_neg (by omega),if_pos rfl] at h2
      have e:IntKind.u64.wrap m=18446744073709551616-((m.natAbs:Nat):Int):=by
        simp only [IntKind.wrap,IntKind.signed,IntKind.bits];simp;omega
      rw [if_pos hn]
      simp -dsimp (disch:=first|omega|(simp only [A3,Za7]<;>omega)|fail) only [L.T0,go_sem,reduceIte,reduceCtorEq,A9,B0,B1,B2,B3,B4,B5,B6,B7,B8,B9,C0,C1,C2,C3,C4,C5,C6,C7,A2,BYs,hn,e,h2]
    · have h2:=Zpc (u:=m.natAbs) (b:=false) (by omega)
      rw [if_neg (by simp),if_neg (by simp)] at h2
      have e:IntKind.u64.wrap m=((m.natAbs:Nat):Int):=by
        simp only [IntKind.wrap,IntKind.signed,IntKind.bits];simp;omega
      rw [if_neg hn]
      simp -dsimp (disch:=first|omega|(simp only [A3,Za7]<;>omega)|fail) only [L.T0,go_sem,reduceIte,reduceCtorEq,A9,B0,B1,B2,B3,B4,B5,B6,B7,B8,B9,C0,C1,C2,C3,C4,C5,C6,C7,A2,BYs,hn,e,h2]
  rw [S_of Ztp rfl rfl]
  simp -dsimp (disch:=first|omega|(simp only [A3,Za7]<;>omega)|fail) only [L.S9,go_sem,reduceIte,reduceCtorEq,A9,B0,B1,B2,B3,B4,B5,B6,B7,B8,B9,C0,C1,C2,C3,C4,C5,C6,C7,A2,hb]
end Cod
namespace Cod
open Go
set_option maxRecDepth 100000
theorem Za8 (r v:Int) (h:(r=46∧v=46)∨(r=103∧v=71)∨(r=71∧v=103)∨(r=105∧v=73)∨(r=73∧v=105)∨(r=116∧v=84)∨(r=84∧v=116)):S E0 F.R1 [.int .i32 r] []=some (.int .i32 v,[]):=by
  rcases h with ⟨rfl,rfl⟩|⟨rfl,rfl⟩|⟨rfl,rfl⟩|⟨rfl,rfl⟩|⟨rfl,rfl⟩|⟨rfl,rfl⟩|⟨rfl,rfl⟩<;>exact Zde.2 ⟨60,by kernel_rfl⟩
theorem Zej {b:UInt8} {l:List UInt8} (h:b<128):S E0 F.N1 [.str (b::l)] []=some (.tup [.int .i32 b.toNat,.int .i64 1],[]):=by
  have hb:b.toNat<128:=h
  rw [Zbn Zvb rfl rfl]
  have h1:((b::l:List UInt8) == [])=false:=rfl
  have h2:((b.toNat:Int)<128):=by omega
  have h3:IntKind.i32.wrap (b.toNat:Int)=b.toNat:=by
    simp only [IntKind.wrap,IntKind.signed,IntKind.bits];simp;omega
  simp -dsimp (disch:=first|omega|(simp only [A3]<;>omega)|fail) only [L.N1,go_sem,reduceIte,reduceCtorEq,A9,B0,B1,B2,B3,B4,B5,B6,B7,B8,B9,C0,C1,C2,C3,C4,C5,C6,C7,A2,h1,h2,h3,bat,List.getD_cons_zero]
def Zjl:LCode:=match L.A8.r0 with|.seq _ (.seq _ r)=>r|_=>.skip
theorem Z5o {l:List UInt8} {i:Nat} (h:i<l.length):((⟨l.toArray⟩:ByteArray).get! i).toNat=(l.getD i 0).toNat:=by
  simp [ByteArray.get!,h,List.getD]
theorem Yj0 {l:List UInt8} {i:Nat} (h:i<l.length) (hb:128≤bat l i):128≤(Zat l i).1:=by
  have hg:((⟨l.toArray⟩:ByteArray).get! (i+0)).toNat=(l.getD i 0).toNat:=Z5o h
  unfold bat at hb
  unfold Zat Utf8.decode Utf8.runeError
  simp only [hg]
  repeat' split
  all_goals (try simp only [ge_iff_le,Ysj,decide_eq_true_eq] at *)
  all_goals omega
theorem Yp9:∀ t ∈ [46,103,105,116],∀ n:Nat,n<256→(decide ((128:Int)≤ior .u8 n t))=decide (128≤n):=by decide +kernel
theorem ef_uni {SC:LCode} {s:List UInt8} (hs:s.length=4) (i:Nat) (hi:i<4) (hb:128≤bat s i) (v6 v21 v7 v8 v33:AV) :
    X E0 [.tmp 4] [.c Zjl,.scp SC] ⟨[(0,.str s),(1,.str [46,103,105,116]),(5,.int .i64 i),(6,v6),(21,v21),(7,v7),(8,v8),(33,v33)],[]⟩=some (.bool false,[]):=by
  have hd:0<(s.drop i).length:=by rw [List.length_drop];omega
  have hb':128≤bat (s.drop i) 0:=by simpa [bat] using hb
  have hr:=Yj0 hd hb'
  generalize he:Zat (s.drop i) 0=q at hr
  obtain ⟨r,wd⟩:=q
  have:i=0∨i=1∨i=2∨i=3:=by omega
  have hrz:(128:Int)≤r:=by simp only at hr;omega
  have d46:S E0 F.N1 [.str [46,103,105,116]] []=some (.tup [.int .i32 46,.int .i64 1],[]):=Zej (by decide)
  have d103:S E0 F.N1 [.str [103,105,116]] []=some (.tup [.int .i32 103,.int .i64 1],[]):=Zej (by decide)
  have d105:S E0 F.N1 [.str [105,116]] []=some (.tup [.int .i32 105,.int .i64 1],[]):=Zej (by decide)
  have d116:S E0 F.N1 [.str [116]] []=some (.tup [.int .i32 116,.int .i64 1],[]):=Zej (by decide)
  have f46:=Za8 46 46 (by simp)
  have f103:=Za8 103 71 (by simp)
  have f71:=Za8 71 103 (by simp)
  have f105:=Za8 105 73 (by simp)
  have f73:=Za8 73 105 (by simp)
  have f116:=Za8 116 84 (by simp)
  have f84:=Za8 84 116 (by simp)
  rcases this with rfl|rfl|rfl|rfl
  · simp -dsimp (disch:=first|omega|(simp only [A3]<;>omega)|fail) only [Zjl,L.A8.r0,go_sem,reduceIte,reduceCtorEq,A9,B0,B1,B2,B3,B4,B5,B6,B7,B8,B9,C0,C1,C2,C3,C4,C5,C6,C7,A2,E3,E2,D5]
    simp only [Ytn] at hd he
    rw [G8 L.A8.x1.eq_1]
    simp -dsimp (disch:=first|omega|(simp only [A3]<;>omega)|fail) only [go_sem,reduceIte,reduceCtorEq,A9,B0,B1,B2,B3,B4,B5,B6,B7,B8,B9,C0,C1,C2,C3,C4,C5,C6,C7,A2,E3,E2,D5,hd,he,d46,f46]
    rw [G8 L.A8.x2.eq_1]
    simp -dsimp (disch:=first|omega|(simp only [A3]<;>omega)|fail) only [go_sem,reduceIte,reduceCtorEq,A9,B0,B1,B2,B3,B4,B5,B6,B7,B8,B9,C0,C1,C2,C3,C4,C5,C6,C7,A2,E3,E2,D5,f46,L.A8.r1]
  · simp -dsimp (disch:=first|omega|(simp only [A3]<;>omega)|fail) only [Zjl,L.A8.r0,go_sem,reduceIte,reduceCtorEq,A9,B0,B1,B2,B3,B4,B5,B6,B7,B8,B9,C0,C1,C2,C3,C4,C5,C6,C7,A2,E3,E2,D5]
    rw [G8 L.A8.x1.eq_1]
    simp -dsimp (disch:=first|omega|(simp only [A3]<;>omega)|fail) only [go_sem,reduceIte,reduceCtorEq,A9,B0,B1,B2,B3,B4,B5,B6,B7,B8,B9,C0,C1,C2,C3,C4,C5,C6,C7,A2,E3,E2,D5,hd,he,d103,f103]
    rw [G8 L.A8.x2.eq_1]
    simp -dsimp (disch:=first|omega|(simp only [A3]<;>omega)|fail) only [go_sem,reduceIte,reduceCtorEq,A9,B0,B1,B2,B3,B4,B5,B6,B7,B8,B9,C0,C1,C2,C3,C4,C5,C6,C7,A2,E3,E2,D5,f71,L.A8.r1]
    rw [G8 L.A8.x2.eq_1]
    simp -dsimp (disch:=first|omega|(simp only [A3]<;>omega)|fail) only [go_sem,reduceIte,reduceCtorEq,A9,B0,B1,B2,B3,B4,B5,B6,B7,B8,B9,C0,C1,C2,C3,C4,C5,C6,C7,A2,E3,E2,D5,f71,L.A8.r1]
  · simp -dsimp (disch:=first|omega|(simp only [A3]<;>omega)|fail) only [Zjl,L.A8.r0,go_sem,reduceIte,reduceCtorEq,A9,B0,B1,B2,B3,B4,B5,B6,B7,B8,B9,C0,C1,C2,C3,C4,C5,C6,C7,A2,E3,E2,D5]
    rw [G8 L.A8.x1.eq_1]
    simp -dsimp (disch:=first|omega|(simp only [A3]<;>omega)|fail) only [go_sem,reduceIte,reduceCtorEq,A9,B0,B1,B2,B3,B4,B5,B6,B7,B8,B9,C0,C1,C2,C3,C4,C5,C6,C7,A2,E3,E2,D5,hd,he,d105,f105]
    rw [G8 L.A8.x2.eq_1]
    simp -dsimp (disch:=first|omega|(simp only [A3]<;>omega)|fail) only [go_sem,reduceIte,reduceCtorEq,A9,B0,B1,B2,B3,B4,B5,B6,B7,B8,B9,C0,C1,C2,C3,C4,C5,C6,C7,A2,E3,E2,D5,f73,L.A8.r1]
    rw [G8 L.A8.x2.eq_1]
    simp -dsimp (disch:=first|omega|(simp only [A3]<;>omega)|fail) only [go_sem,reduceIte,reduceCtorEq,A9,B0,B1,B2,B3,B4,B5,B6,B7,B8,B9,C0,C1,C2,C3,C4,C5,C6,C7,A2,E3,E2,D5,f73,L.A8.r1]
  · simp -dsimp (disch:=first|omega|(simp only [A3]<;>omega)|fail) only [Zjl,L.A8.r0,go_sem,reduceIte,reduceCtorEq,A9,B0,B1,B2,B3,B4,B5,B6,B7,B8,B9,C0,C1,C2,C3,C4,C5,C6,C7,A2,E3,E2,D5]
    rw [G8 L.A8.x1.eq_1]
    simp -dsimp (disch:=first|omega|(simp only [A3]<;>omega)|fail) only [go_sem,reduceIte,reduceCtorEq,A9,B0,B1,B2,B3,B4,B5,B6,B7,B8,B9,C0,C1,C2,C3,C4,C5,C6,C7,A2,E3,E2,D5,hd,he,d116,f116]
    rw [G8 L.A8.x2.eq_1]
    simp -dsimp (disch:=first|omega|(simp only [A3]<;>omega)|fail) only [go_sem,reduceIte,reduceCtorEq,A9,B0,B1,B2,B3,B4,B5,B6,B7,B8,B9,C0,C1,C2,C3,C4,C5,C6,C7,A2,E3,E2,D5,f84,L.A8.r1]
    rw [G8 L.A8.x2.eq_1]
    simp -dsimp (disch:=first|omega|(simp only [A3]<;>omega)|fail) only [go_sem,reduceIte,reduceCtorEq,A9,B0,B1,B2,B3,B4,B5,B6,B7,B8,B9,C0,C1,C2,C3,C4,C5,C6,C7,A2,E3,E2,D5,f84,L.A8.r1]
def Zbq (b t:Int):Bool:=b==t||(decide (b<t)&&(decide (65≤b)&&(decide (b≤90)&&(t==b+32))))
theorem Z7x {SC:LCode} (hSC:U4 SC 0=some (.seq .skip Zjl)) {s:List UInt8} (hs:s.length=4) (i:Nat) (t:Int) (hi:(i=0∧t=46)∨(i=1∧t=103)∨(i=2∧t=105)∨(i=3∧t=116)) :
    X E0 [.tmp 4] (.c L.A8.x0::.lp [0,1,5,6] L.A8.x0::.blk 0::.c L.A8.r0::.scp SC::[]) ⟨[(0,.str s),(1,.str [46,103,105,116]),(5,.int .i64 i),(6,.int .i64 4)],[]⟩ =
    if bat s i<128∧Zbq (bat s i) t=true then X E0 [.tmp 4] (.c L.A8.x0::.lp [0,1,5,6] L.A8.x0::.blk 0::.c L.A8.r0::.scp SC::[]) ⟨[(0,.str s),(1,.str [46,103,105,116]),(5,.int .i64 (i+1:Int)),(6,.int .i64 4)],[]⟩ else some (.bool false,[]):=by
  obtain ⟨h0,h1⟩:=O4 s i
  have hor:=Yp9 t (by rcases hi with ⟨_,rfl⟩|⟨_,rfl⟩|⟨_,rfl⟩|⟨_,rfl⟩<;>simp) (bat s i).toNat (by omega)
  rw [show (((bat s i).toNat:Nat):Int)=bat s i by omega] at hor
  have hti:bat [46,103,105,116] i=t:=by rcases hi with ⟨rfl,rfl⟩|⟨rfl,rfl⟩|⟨rfl,rfl⟩|⟨rfl,rfl⟩<;>rfl
  have hi4:i<4:=by omega
  have htr:46≤t∧t≤116:=by omega
  have hil:i < [46,103,105,(116:UInt8)].length:=by simpa using hi4
  rw [G8 L.A8.x0.eq_1]
  by_cases hb:bat s i<128
  · have hd:decide (128≤(bat s i).toNat)=false:=by simp;omega
    rw [hd] at hor
    generalize hx:bat s i=x at *
    by_cases e1:x=t
    · rw [if_pos ⟨hb,by simp [Zbq,e1]⟩]
      have e9:(t==x)=true:=Zo4 e1.symm
      simp -dsimp (disch:=first|omega|(simp only [A3]<;>omega)|fail) only [go_sem,reduceIte,reduceCtorEq,A9,B0,B1,B2,B3,B4,B5,B6,B7,B8,B9,C0,C1,C2,C3,C4,C5,C6,C7,A2,E3,E2,D5,hx,hti,hor,e9]
    · have e2:(x==t)=false:=Zdx e1
      have e2':(t==x)=false:=Zdx (fun h=>e1 h.symm)
      by_cases e3:x<t
      · have e4:¬ t<x:=by omega
        by_cases e5:65≤x
        · by_cases e6:x≤90
          · have w1:IntKind.u8.wrap (x+97)=x+97:=by rw [Zcp];omega
            have w2:IntKind.u8.wrap (x+97-65)=x+32:=by rw [Zcp];omega
            by_cases e7:t=x+32
            · rw [if_pos ⟨hb,by simp only [Zbq,e2,K9 e3,K9 e5,K9 e6,Zo4 e7,Yuo,Ys3,Yup]⟩]
              have e8:(t==x+32)=true:=Zo4 e7
              simp -dsimp (disch:=first|omega|(simp only [A3]<;>omega)|fail) only [go_sem,reduceIte,reduceCtorEq,A9,B0,B1,B2,B3,B4,B5,B6,B7,B8,B9,C0,C1,C2,C3,C4,C5,C6,C7,A2,E3,E2,D5,hx,hti,hor,e2',e4,e5,e6,w1,w2,e8]
            · rw [if_neg (by simp only [Zbq,e2,K9 e3,K9 e5,K9 e6,Zdx e7,Yuo,Ys3,Yup];simp)]
              have e8:(t==x+32)=false:=Zdx e7
              simp -dsimp (disch:=first|omega|(simp only [A3]<;>omega)|fail) only [go_sem,reduceIte,reduceCtorEq,A9,B0,B1,B2,B3,B4,B5,B6,B7,B8,B9,C0,C1,C2,C3,C4,C5,C6,C7,A2,E3,E2,D5,hx,hti,hor,e2',e4,e5,e6,w1,w2,e8]
          · rw [if_neg (by simp only [Zbq,e2,K9 e3,K9 e5,Zas e6,Yuo,Yuq,Yup];simp)]
            simp -dsimp (disch:=first|omega|(simp only [A3]<;>omega)|fail) only [go_sem,reduceIte,reduceCtorEq,A9,B0,B1,B2,B3,B4,B5,B6,B7,B8,B9,C0,C1,C2,C3,C4,C5,C6,C7,A2,E3,E2,D5,hx,hti,hor,e2',e4,e5,e6]
        · rw [if_neg (by simp only [Zbq,e2,K9 e3,Zas e5,Yuo,Yuq,Yup];simp)]
          simp -dsimp (disch:=first|omega|(simp only [A3]<;>omega)|fail) only [go_sem,reduceIte,reduceCtorEq,A9,B0,B1,B2,B3,B4,B5,B6,B7,B8,B9,C0,C1,C2,C3,C4,C5,C6,C7,A2,E3,E2,D5,hx,hti,hor,e2',e4,e5]
      · have e4:t<x:=by omega
        rw [if_neg (by simp only [Zbq,e2,Zas e3,Yuq,Yup];simp)]
        by_cases e5:65≤t
        · have e6:¬ t≤90:=by omega
          simp -dsimp (disch:=first|omega|(simp only [A3]<;>omega)|fail) only [go_sem,reduceIte,reduceCtorEq,A9,B0,B1,B2,B3,B4,B5,B6,B7,B8,B9,C0,C1,C2,C3,C4,C5,C6,C7,A2,E3,E2,D5,hx,hti,hor,e2',e4,e5,e6]
        · simp -dsimp (disch:=first|omega|(simp only [A3]<;>omega)|fail) only [go_sem,reduceIte,reduceCtorEq,A9,B0,B1,B2,B3,B4,B5,B6,B7,B8,B9,C0,C1,C2,C3,C4,C5,C6,C7,A2,E3,E2,D5,hx,hti,hor,e2',e4,e5]
  · have hd:decide (128≤(bat s i).toNat)=true:=by simp;omega
    rw [hd] at hor
    rw [if_neg (fun h=>hb h.1)]
    simp -dsimp (disch:=first|omega|(simp only [A3]<;>omega)|fail) only [go_sem,reduceIte,reduceCtorEq,A9,B0,B1,B2,B3,B4,B5,B6,B7,B8,B9,C0,C1,C2,C3,C4,C5,C6,C7,A2,E3,E2,D5,hti,hor,hSC]
    exact ef_uni hs i hi4 (by omega) _ _ _ _ _
def Z0l (s:List UInt8):Bool:=decide (bat s 0<128∧Zbq (bat s 0) 46=true)&&(decide (bat s 1<128∧Zbq (bat s 1) 103=true)&&(decide (bat s 2<128∧Zbq (bat s 2) 105=true)&&decide (bat s 3<128∧Zbq (bat s 3) 116=true)))
theorem Yqa {s:List UInt8} (hs:s.length=4):S E0 F.A8 [.str s,.str [46,103,105,116]] []=some (.bool (Z0l s),[]):=by
  rw [Zbn Zuy rfl rfl]
  have l4:((s.length:Int))=4:=by omega
  simp -dsimp (disch:=first|omega|(simp only [A3]<;>omega)|fail) only [L.A8,go_sem,reduceIte,reduceCtorEq,A9,B0,B1,B2,B3,B4,B5,B6,B7,B8,B9,C0,C1,C2,C3,C4,C5,C6,C7,A2,hs]
  generalize hSC:LCode.seq _ _=SC
  have hf:U4 SC 0=some (.seq .skip Zjl):=by subst hSC;rfl
  have i0:=Z7x hf hs 0 46 (by simp)
  have i1:=Z7x hf hs 1 103 (by simp)
  have i2:=Z7x hf hs 2 105 (by simp)
  have i3:=Z7x hf hs 3 116 (by simp)
  have i4:X E0 [.tmp 4] (.c L.A8.x0::.lp [0,1,5,6] L.A8.x0::.blk 0::.c L.A8.r0::.scp SC::[]) ⟨[(0,.str s),(1,.str [46,103,105,116]),(5,.int .i64 4),(6,.int .i64 4)],[]⟩=some (.bool true,[]):=by
    rw [G8 L.A8.x0.eq_1]
    simp -dsimp (disch:=first|omega|(simp only [A3]<;>omega)|fail) only [go_sem,reduceIte,reduceCtorEq,A9,B0,B1,B2,B3,B4,B5,B6,B7,B8,B9,C0,C1,C2,C3,C4,C5,C6,C7,A2,L.A8.r0,hs]
  simp only [show ((0:Nat):Int)=0 from rfl,show ((1:Nat):Int)=1 from rfl,show ((2:Nat):Int)=2 from rfl,show ((3:Nat):Int)=3 from rfl,show (0:Int)+1=1 from rfl,show (1:Int)+1=2 from rfl,show (2:Int)+1=3 from rfl,show (3:Int)+1=4 from rfl] at i0 i1 i2 i3
  rw [show (if ((4:Nat):Int)<((4:Nat):Int) then ((4:Nat):Int) else ((4:Nat):Int))=4 from rfl,i0]
  by_cases c0:bat s 0<128∧Zbq (bat s 0) 46=true
  · rw [if_pos c0,i1]
    by_cases c1:bat s 1<128∧Zbq (bat s 1) 103=true
    · rw [if_pos c1,i2]
      by_cases c2:bat s 2<128∧Zbq (bat s 2) 105=true
      · rw [if_pos c2,i3]
        by_cases c3:bat s 3<128∧Zbq (bat s 3) 116=true
        · rw [if_pos c3,i4];simp only [Z0l,K9 c0,K9 c1,K9 c2,K9 c3];rfl
        · rw [if_neg c3];simp only [Z0l,K9 c0,K9 c1,K9 c2,Zas c3];rfl
      · rw [if_neg c2];simp only [Z0l,K9 c0,K9 c1,Zas c2];rfl
    · rw [if_neg c1];simp only [Z0l,K9 c0,Zas c1];rfl
  · rw [if_neg c0];simp only [Z0l,Zas c0];rfl
theorem Z0m:∀ n:Nat,n<256→∀ t ∈ [(46:UInt8),103,105,116],decide ((n:Int)<128∧Zbq n t.toNat=true)=(Zgz (UInt8.ofNat n)==t):=by decide +kernel
theorem Z7y {s:List UInt8} (hs:s.length=4):Z0l s=Zg0 s:=by
  match s,hs with
  | [a,b,c,d],_ =>
    have key:∀ (x:UInt8) (t:UInt8),t ∈ [(46:UInt8),103,105,116]→decide ((x.toNat:Int)<128∧Zbq x.toNat t.toNat=true)=(Zgz x==t):=fun x t ht=>by
      have:=Z0m x.toNat x.toNat_lt t ht
      rwa [UInt8.ofNat_toNat] at this
    have h0:=key a 46 (by simp)
    have h1:=key b 103 (by simp)
    have h2:=key c 105 (by simp)
    have h3:=key d 116 (by simp)
    have e0:(Zgz a==46)=(a==46):=by
      have:∀ n:Nat,n<256→(Zgz (UInt8.ofNat n)==46)=(UInt8.ofNat n==46):=by decide +kernel
      have:=this a.toNat a.toNat_lt
      rwa [UInt8.ofNat_toNat] at this
    show (decide ((a.toNat:Int)<128∧Zbq a.toNat (46:UInt8).toNat=true)&&(decide ((b.toNat:Int)<128∧Zbq b.toNat (103:UInt8).toNat=true)&&(decide ((c.toNat:Int)<128∧Zbq c.toNat (105:UInt8).toNat=true)&&decide ((d.toNat:Int)<128∧Zbq d.toNat (116:UInt8).toNat=true))))=_
    rw [h0,h1,h2,h3,e0]
    simp only [Zg0,Ys0]
end Cod
namespace Cod
open Go
set_option maxRecDepth 100000
def Zp6 (b0 a1 a2 a3:Nat) (c1 c2 c3:Bool):Nat × Nat :=
  if b0<0x80 then (b0,1)
  else if b0/32==6&&c1 then (if b0%32*64+a1%64 ≥ 0x80 then (b0%32*64+a1%64,2) else (65533,1))
  else if b0/16==14&&c1&&c2 then
    (if b0%16*4096+a1%64*64+a2%64 ≥ 0x800&&Utf8.valid ((b0%16*4096+a1%64*64+a2%64:Nat):Int) then (b0%16*4096+a1%64*64+a2%64,3) else (65533,1))
  else if b0/8==30&&c1&&c2&&c3 then
    (if b0%8*262144+a1%64*4096+a2%64*64+a3%64 ≥ 0x10000&&Utf8.valid ((b0%8*262144+a1%64*4096+a2%64*64+a3%64:Nat):Int) then (b0%8*262144+a1%64*4096+a2%64*64+a3%64,4) else (65533,1))
  else (65533,1)
theorem Yj1 {b0 a1 a2 a3:Nat} {c1 c2 c3:Bool} (h:b0<128):Zp6 b0 a1 a2 a3 c1 c2 c3=(b0,1):=by unfold Zp6;rw [if_pos h]
theorem Ycs {b0 a1 a2 a3:Nat} {c1 c2 c3:Bool} (h:128≤b0) (h2:b0<256):128≤(Zp6 b0 a1 a2 a3 c1 c2 c3).1∧(Zp6 b0 a1 a2 a3 c1 c2 c3).1≤1114111 ∧
    ((Zp6 b0 a1 a2 a3 c1 c2 c3).2=1∨((Zp6 b0 a1 a2 a3 c1 c2 c3).2=2∧c1=true)∨((Zp6 b0 a1 a2 a3 c1 c2 c3).2=3∧c1=true∧c2=true)∨((Zp6 b0 a1 a2 a3 c1 c2 c3).2=4∧c1=true∧c2=true∧c3=true)):=by
  unfold Zp6
  rw [if_neg (by omega)]
  split
  · rename_i h3
    simp only [Ysj] at h3
    split
    · exact ⟨by assumption,by omega,.inr (.inl ⟨rfl,h3.2⟩)⟩
    · exact ⟨by omega,by omega,.inl rfl⟩
  · split
    · rename_i h3
      simp only [Ysj] at h3
      split
      · rename_i h4
        simp only [Ysj,decide_eq_true_eq] at h4
        exact ⟨by omega,by omega,.inr (.inr (.inl ⟨rfl,h3.1.2,h3.2⟩))⟩
      · exact ⟨by omega,by omega,.inl rfl⟩
    · split
      · rename_i h3
        simp only [Ysj] at h3
        split
        · rename_i h4
          simp only [Ysj,decide_eq_true_eq,Utf8.valid,Bool.or_eq_true] at h4
          exact ⟨by omega,by omega,.inr (.inr (.inr ⟨rfl,h3.1.1.2,h3.1.2,h3.2⟩))⟩
        · exact ⟨by omega,by omega,.inl rfl⟩
      · exact ⟨by omega,by omega,.inl rfl⟩
theorem Zmd {l:List UInt8} {p:Nat} (h:p<l.length) :
    (bat l p<128∧(((Zat l p).1:Nat):Int)=bat l p∧(Zat l p).2=1) ∨
    (128≤bat l p∧128≤(Zat l p).1∧(Zat l p).1≤1114111∧1≤(Zat l p).2∧∀ j,p≤j→j<p+(Zat l p).2→j<l.length∧128≤bat l j):=by
  have hs:(⟨l.toArray⟩:ByteArray).size=l.length:=by simp [ByteArray.size]
  have h0:((⟨l.toArray⟩:ByteArray).get! (p+0)).toNat=(l.getD p 0).toNat:=Z5o h
  have hc:∀ k,(decide (p+k<(⟨l.toArray⟩:ByteArray).size)&&((⟨l.toArray⟩:ByteArray).get! (p+k)).toNat/64==2)=true→p+k<l.length∧128≤bat l (p+k):=by
    intro k hk
    simp only [Ysj,decide_eq_true_eq,beq_iff_eq,hs] at hk
    refine ⟨hk.1,?_⟩
    have:=Z5o hk.1
    unfold bat
    omega
  have e:Zat l p=Zp6 ((⟨l.toArray⟩:ByteArray).get! (p+0)).toNat ((⟨l.toArray⟩:ByteArray).get! (p+1)).toNat ((⟨l.toArray⟩:ByteArray).get! (p+2)).toNat ((⟨l.toArray⟩:ByteArray).get! (p+3)).toNat
    (decide (p+1<(⟨l.toArray⟩:ByteArray).size)&&((⟨l.toArray⟩:ByteArray).get! (p+1)).toNat/64==2) (decide (p+2<(⟨l.toArray⟩:ByteArray).size)&&((⟨l.toArray⟩:ByteArray).get! (p+2)).toNat/64==2)
    (decide (p+3<(⟨l.toArray⟩:ByteArray).size)&&((⟨l.toArray⟩:ByteArray).get! (p+3)).toNat/64==2):=rfl
  have k1:=hc 1
  have k2:=hc 2
  have k3:=hc 3
  rw [h0] at e
  generalize (decide (p+1<(⟨l.toArray⟩:ByteArray).size)&&((⟨l.toArray⟩:ByteArray).get! (p+1)).toNat/64==2)=c1 at e k1
  generalize (decide (p+2<(⟨l.toArray⟩:ByteArray).size)&&((⟨l.toArray⟩:ByteArray).get! (p+2)).toNat/64==2)=c2 at e k2
  generalize (decide (p+3<(⟨l.toArray⟩:ByteArray).size)&&((⟨l.toArray⟩:ByteArray).get! (p+3)).toNat/64==2)=c3 at e k3
  generalize ((⟨l.toArray⟩:ByteArray).get! (p+1)).toNat=a1 at e
  generalize ((⟨l.toArray⟩:ByteArray).get! (p+2)).toNat=a2 at e
  generalize ((⟨l.toArray⟩:ByteArray).get! (p+3)).toNat=a3 at e
  have hlt:=(l.getD p 0).toNat_lt
  by_cases hb:bat l p<128
  · refine .inl ⟨hb,?_⟩
    unfold bat at hb ⊢
    rw [e,Yj1 (by omega)]
    exact ⟨rfl,rfl⟩
  · have hb':=hb
    unfold bat at hb
    obtain ⟨h1,h2,h3⟩:=Ycs (a1:=a1) (a2:=a2) (a3:=a3) (c1:=c1) (c2:=c2) (c3:=c3) (b0:=(l.getD p 0).toNat) (by omega) hlt
    rw [←e] at h1 h2 h3
    refine .inr ⟨by omega,h1,h2,by omega,fun j j1 j2=>?_⟩
    have:j=p∨j=p+1∨j=p+2∨j=p+3:=by omega
    rcases this with rfl|rfl|rfl|rfl
    · exact ⟨h,by omega⟩
    · exact k1 (by rcases h3 with h3|h3|h3|h3<;>first|omega|exact h3.2|exact h3.2.1)
    · exact k2 (by rcases h3 with h3|h3|h3|h3<;>first|omega|exact h3.2.2|exact h3.2.2.1)
    · exact k3 (by rcases h3 with h3|h3|h3|h3<;>first|omega|exact h3.2.2.2)
theorem Z0n {r:Int} (h0:128≤r) (h1:r≤1114111):2≤(Zav r).length∧(Zav r).length≤4∧((Zav r).length=2→128≤bat (Zav r) 1):=by
  unfold Zav Utf8.encode Utf8.runeError
  simp only []
  generalize hc:(if Utf8.valid r=true then r.toNat else 65533)=c
  have hc0:128≤c:=by
    rw [←hc];split
    · omega
    · omega
  rw [if_neg (by omega)]
  split
  · refine ⟨by simp,by simp,fun _=>?_⟩
    simp [bat]
    omega
  · split<;>simp
theorem Zpd {r:Int} (h0:128≤r):S E0 F.K8 [.int .i32 r] []=some (.bool (decide (r<55296)||(decide (57343<r)&&decide (r≤1114111))),[]):=by
  rw [Zbn Zve rfl rfl]
  by_cases h1:r<55296
  · simp -dsimp (disch:=first|omega|(simp only [A3]<;>omega)|fail) only [L.K8,go_sem,reduceIte,reduceCtorEq,A9,B0,B1,B2,B3,B4,B5,B6,B7,B8,B9,C0,C1,C2,C3,C4,C5,C6,C7,A2,K9 h1]
  · by_cases h2:57343<r
    · by_cases h3:r≤1114111
      · simp -dsimp (disch:=first|omega|(simp only [A3]<;>omega)|fail) only [L.K8,go_sem,reduceIte,reduceCtorEq,A9,B0,B1,B2,B3,B4,B5,B6,B7,B8,B9,C0,C1,C2,C3,C4,C5,C6,C7,A2,Zas h1,K9 h2,K9 h3]
      · simp -dsimp (disch:=first|omega|(simp only [A3]<;>omega)|fail) only [L.K8,go_sem,reduceIte,reduceCtorEq,A9,B0,B1,B2,B3,B4,B5,B6,B7,B8,B9,C0,C1,C2,C3,C4,C5,C6,C7,A2,Zas h1,K9 h2,Zas h3]
    · simp -dsimp (disch:=first|omega|(simp only [A3]<;>omega)|fail) only [L.K8,go_sem,reduceIte,reduceCtorEq,A9,B0,B1,B2,B3,B4,B5,B6,B7,B8,B9,C0,C1,C2,C3,C4,C5,C6,C7,A2,Zas h1,Zas h2]
theorem Zbj {l:List UInt8} {c:Int}:S E0 F.N0 [.str l,.int .u8 c] []=some (.int .i64 (I0 l (byt c)),[]):=by
  rw [Zbn Zu9 rfl rfl]
  have h:S E0 F.N3 [.str l,.int .u8 c] []=some (.int .i64 (I0 l (byt c)),[]):=by
    rw [Zbn Zkx rfl rfl]
    simp -dsimp (disch:=first|omega|(simp only [A3]<;>omega)|fail) only [L.N3,go_sem,reduceIte,reduceCtorEq,A9,B0,B1,B2,B3,B4,B5,B6,B7,B8,B9,C0,C1,C2,C3,C4,C5,C6,C7,A2,Zzx]
  simp -dsimp (disch:=first|omega|(simp only [A3]<;>omega)|fail) only [L.N0,go_sem,reduceIte,reduceCtorEq,A9,B0,B1,B2,B3,B4,B5,B6,B7,B8,B9,C0,C1,C2,C3,C4,C5,C6,C7,A2,h]
theorem Z0o:S E0 F.A7 [.str [47,0],.int .i32 65533] []=some (.int .i64 (-1),[]):=Zde.2 ⟨60,by kernel_rfl⟩
theorem Zm8 {r:Int} (h0:0≤r) (h1:r<128):S E0 F.A7 [.str [47,0],.int .i32 r] []=some (.int .i64 (I0 [47,0] (byt r)),[]):=by
  rw [Zbn Zbi rfl rfl]
  have h2:IntKind.u8.wrap r=r:=by rw [Zcp];omega
  simp -dsimp (disch:=first|omega|(simp only [A3]<;>omega)|fail) only [L.A7,go_sem,reduceIte,reduceCtorEq,A9,B0,B1,B2,B3,B4,B5,B6,B7,B8,B9,C0,C1,C2,C3,C4,C5,C6,C7,A2,K9 h0,K9 h1,h2,Zbj]
theorem Zv5 {r:Int} (h0:128≤r) (h1:r≤1114111):S E0 F.A7 [.str [47,0],.int .i32 r] []=some (.int .i64 (-1),[]):=by
  by_cases he:r=65533
  · subst he;exact Z0o
  · have h2:¬ r<128:=by omega
    have h3:(0:Int)≤r:=by omega
    rw [Zbn Zbi rfl rfl]
    have hvv:S E0 F.K8 [.int .i32 r] []=some (.bool (decide (r<55296)||decide (57343<r)),[]):=by rw [Zpd h0,K9 h1,Ys3]
    cases hv:(decide (r<55296)||decide (57343<r)) with
    | false=>simp -dsimp (disch:=first|omega|(simp only [A3]<;>omega)|fail) only [L.A7,go_sem,reduceIte,reduceCtorEq,A9,B0,B1,B2,B3,B4,B5,B6,B7,B8,B9,C0,C1,C2,C3,C4,C5,C6,C7,A2,K9 h3,Zas h2,Zdx he,hvv,hv]
    | true =>
      obtain ⟨e1,e2,e3⟩:=Z0n h0 h1
      simp -dsimp (disch:=first|omega|(simp only [A3]<;>omega)|fail) only [L.A7,go_sem,reduceIte,reduceCtorEq,A9,B0,B1,B2,B3,B4,B5,B6,B7,B8,B9,C0,C1,C2,C3,C4,C5,C6,C7,A2,K9 h3,Zas h2,Zdx he,hvv,hv]
      rw [G8 L.A7.x1.eq_1]
      by_cases e4:(Zav r).length=2
      · have e5:=e3 e4
        have b1:bat [47,0] 1=0:=rfl
        have b2:((((0:UInt8).toNat:Nat):Int) != bat (Zav r) 1)=true:=Zm6 (by show (0:Int)≠_;omega)
        have b3:(((2:Nat):Int)-1).toNat=1:=rfl
        have b4:I0 ([47,0].drop (((2:Nat):Int)-1+1).toNat) (byt (bat (Zav r) 1)) = -1:=rfl
        have b5:I0 [] (byt (bat (Zav r) 1)) = -1:=rfl
        simp -dsimp (disch:=first|omega|(simp only [A3]<;>omega)|fail) only [go_sem,reduceIte,reduceCtorEq,A9,B0,B1,B2,B3,B4,B5,B6,B7,B8,B9,C0,C1,C2,C3,C4,C5,C6,C7,A2,L.A7.r2,e4,b1,b2,b3,Zbj,E3,E2,D5,b4,b5,List.drop_nil]
      · simp -dsimp (disch:=first|omega|(simp only [A3]<;>omega)|fail) only [go_sem,reduceIte,reduceCtorEq,A9,B0,B1,B2,B3,B4,B5,B6,B7,B8,B9,C0,C1,C2,C3,C4,C5,C6,C7,A2,L.A7.r2]
def Ze0 (b:UInt8):Bool:=b==47||b==0
theorem Yj2 (b:UInt8):(0≤I0 [47,0] b)↔Ze0 b=true:=by
  unfold I0 Ze0
  by_cases h1:b=47
  · subst h1;simp
  · by_cases h2:b=0
    · subst h2;simp [Yum]
    · simp [h1,h2]
theorem Zbk (l:List UInt8) (i:Nat):byt (bat l i)=l.getD i 0:=by
  unfold byt bat
  rw [Int.toNat_natCast,UInt8.ofNat_toNat]
theorem Yj3 {s:List UInt8} (hs:s.length≤1000000):∀ (m p:Nat),p+m≤s.length→s.length≤p+m→∃ i:Int,((0≤i)↔(s.drop p).any Ze0=true) ∧
    X E0 [.tmp 4] (.c L.A6.x1::.lp [1,45] L.A6.x1::.blk 2::.c L.A6.r2::[]) ⟨[(1,.str [47,0]),(45,.it (.s 1000000 0) 0)],[(.s 1000000 0,⟨0,true,true,true,[.itr s p]⟩)]⟩=some (.int .i64 i,[]):=by
  intro m
  induction m using Nat.strongRecOn with
  | _ m ih =>
    intro p h1 h2
    rw [G8 L.A6.x1.eq_1]
    by_cases hp:p<s.length
    · have hd:s.drop p=s.getD p 0::s.drop (p+1):=by
        rw [Yt7 hp];simp [hp]
      rcases Zmd hp with ⟨e1,e2,e3⟩|⟨e1,e2,e3,e4,e5⟩
      · cases hbad:Ze0 (s.getD p 0) with
        | true =>
          have h3:=(Yj2 (byt (bat s p))).2 (by rw [Zbk];exact hbad)
          refine ⟨p,⟨fun _=>by rw [hd,Yur,hbad];rfl,fun _=>by omega⟩,?_⟩
          simp -dsimp (disch:=first|omega|(simp only [A3]<;>omega)|fail) only [go_sem,reduceIte,reduceCtorEq,A9,B0,B1,B2,B3,B4,B5,B6,B7,B8,B9,C0,C1,C2,C3,C4,C5,C6,C7,A2,hp,e2,e3,Zm8 (O4 s p).1 e1,K9 h3]
        | false =>
          have h3:¬ 0≤I0 [47,0] (byt (bat s p)):=fun h=>by rw [Yj2,Zbk,hbad] at h;cases h
          obtain ⟨i,h4,h5⟩:=ih (m-1) (by omega) (p+1) (by omega) (by omega)
          refine ⟨i,by rw [h4,hd,Yur,hbad,Yup],?_⟩
          rw [←h5]
          simp -dsimp (disch:=first|omega|(simp only [A3]<;>omega)|fail) only [go_sem,reduceIte,reduceCtorEq,A9,B0,B1,B2,B3,B4,B5,B6,B7,B8,B9,C0,C1,C2,C3,C4,C5,C6,C7,A2,hp,e2,e3,Zm8 (O4 s p).1 e1,Zas h3]
      · have hw:p+(Zat s p).2≤s.length:=by
          have:=(e5 (p+(Zat s p).2-1) (by omega) (by omega)).1
          omega
        obtain ⟨i,h4,h5⟩:=ih (m-(Zat s p).2) (by omega) (p+(Zat s p).2) (by omega) (by omega)
        refine ⟨i,?_,?_⟩
        · rw [h4]
          have:∀ w,p+w≤s.length→(∀ j,p≤j→j<p+w→j<s.length∧128≤bat s j)→(s.drop p).any Ze0=(s.drop (p+w)).any Ze0:=by
            intro w
            induction w with
            | zero=>intro _ _;rfl
            | succ w ihw =>
              intro hw1 hw2
              rw [ihw (by omega) (fun j j1 j2=>hw2 j j1 (by omega)),Yt7 (by omega:p+w<s.length),Yur]
              have hh:=(hw2 (p+w) (by omega) (by omega)).2
              have:Ze0 s[p+w]=false:=by
                unfold bat at hh
                rw [List.getD_eq_getElem?_getD,List.getElem?_eq_getElem (by omega),Ytc] at hh
                unfold Ze0
                rw [Bool.or_eq_false_iff,beq_eq_false_iff_ne,beq_eq_false_iff_ne]
                constructor<;>(intro hx;rw [hx] at hh;simp at hh)
              rw [this,Yup]
              rfl
          rw [this _ hw e5]
        · rw [←h5]
          have h6:=Zv5 (r:=((Zat s p).1:Int)) (by omega) (by omega)
          simp -dsimp (disch:=first|omega|(simp only [A3]<;>omega)|fail) only [go_sem,reduceIte,reduceCtorEq,A9,B0,B1,B2,B3,B4,B5,B6,B7,B8,B9,C0,C1,C2,C3,C4,C5,C6,C7,A2,hp,h6]
    · refine ⟨-1,⟨fun h=>by omega,fun h=>by rw [Yt6 (by omega)] at h;simp at h⟩,?_⟩
      simp -dsimp (disch:=first|omega|(simp only [A3]<;>omega)|fail) only [go_sem,reduceIte,reduceCtorEq,A9,B0,B1,B2,B3,B4,B5,B6,B7,B8,B9,C0,C1,C2,C3,C4,C5,C6,C7,A2,hp,L.A6.r2]
def Ziy:List AV:=(List.range 256).map fun i=>.bool (i==47||i==0)
theorem go_set:S E0 F.P7 [.str [47,0]] []=some (.tup [.agg Ziy,.bool true],[]):=Zde.2 ⟨60,by kernel_rfl⟩
theorem Yj4:∀ n:Nat,n<256→Ziy[n]? = some (.bool (Ze0 (UInt8.ofNat n))):=by
  intro n hn
  simp only [Ziy,List.getElem?_map,List.getElem?_range hn,Option.map_some,Ze0]
  have:∀ n:Nat,n<256→(n==47||n==0)=(UInt8.ofNat n==47||UInt8.ofNat n==0):=by decide +kernel
  rw [this n hn]
theorem Zby:flats Ziy=true:=by kernel_rfl
theorem Zb6:Ziy.length=256:=by simp [Ziy]
end Cod
namespace Cod
open Go
set_option maxRecDepth 100000
theorem Yqb {b:Int} (h0:0≤b) (h1:b<256):Ziy[b.toNat]? = some (.bool (Ze0 (byt b))):=Yj4 b.toNat (by omega)
theorem Zri:leadss Ziy=false:=by kernel_rfl
theorem Zrj:refsOfs Ziy=[]:=by kernel_rfl
theorem Zrk (f:Site→Nat→Option (Site × Nat)):rens f Ziy=Ziy:=rens_flats Ziy Zby
theorem Zme:K4 Ziy=true:=by kernel_rfl
theorem Zm9 {x:Site} {b:Int} (h0:0≤b) (h1:b<256):S E0 F.M9 [.ref (.up x) 0 0,.int .u8 b] [(.up x,⟨0,true,true,true,Ziy⟩)]=some (.bool (Ze0 (byt b)),[(.up x,⟨0,true,true,true,Ziy⟩)]):=by
  rw [Zbn Zgl rfl rfl]
  simp -dsimp (disch:=first|omega|(simp only [A3]<;>omega)|fail) only [L.M9,go_sem,reduceIte,reduceCtorEq,A9,B0,B1,B2,B3,B4,B5,B6,B7,B8,B9,C0,C1,C2,C3,C4,C5,C6,C7,A2,Zb6,Zby,Zri,Zrj,Zrk,Zme,Yqb h0 h1]
theorem Yj5 {s:List UInt8} (hs:s.length≤1000000):∀ (m p:Nat),p+m=s.length→∃ i:Int,((0≤i)↔(s.drop p).any Ze0=true) ∧
    X E0 [.tmp 4] (.c L.A6.x0::.lp [0,6,8] L.A6.x0::.blk 0::.c L.A6.r0::.c L.A6.r1::[]) ⟨[(0,.str s),(6,.ref (.s 1000000 0) 0 0),(8,.int .i64 p)],[(.s 1000000 0,⟨0,true,true,true,Ziy⟩)]⟩=some (.int .i64 i,[]):=by
  intro m
  induction m with
  | zero =>
    intro p h
    refine ⟨-1,⟨fun h=>by omega,fun h=>by rw [Yt6 (by omega)] at h;simp at h⟩,?_⟩
    rw [G8 L.A6.x0.eq_1]
    simp -dsimp (disch:=first|omega|(simp only [A3]<;>omega)|fail) only [go_sem,reduceIte,reduceCtorEq,A9,B0,B1,B2,B3,B4,B5,B6,B7,B8,B9,C0,C1,C2,C3,C4,C5,C6,C7,A2,Zb6,Zby,Zri,Zrj,Zrk,Zme,L.A6.r0]
  | succ m ih =>
    intro p h
    have hp:p<s.length:=by omega
    have hd:s.drop p=s.getD p 0::s.drop (p+1):=by
      rw [Yt7 hp];simp [hp]
    obtain ⟨b0,b1⟩:=O4 s p
    cases hbad:Ze0 (s.getD p 0) with
    | true =>
      have h3:Ze0 (byt (bat s p))=true:=by rw [Zbk];exact hbad
      refine ⟨p,⟨fun _=>by rw [hd,Yur,hbad];rfl,fun _=>by omega⟩,?_⟩
      rw [G8 L.A6.x0.eq_1]
      simp -dsimp (disch:=first|omega|(simp only [A3]<;>omega)|fail) only [go_sem,reduceIte,reduceCtorEq,A9,B0,B1,B2,B3,B4,B5,B6,B7,B8,B9,C0,C1,C2,C3,C4,C5,C6,C7,A2,Zb6,Zby,Zri,Zrj,Zrk,Zme,Zm9 b0 b1,h3]
    | false =>
      have h3:Ze0 (byt (bat s p))=false:=by rw [Zbk];exact hbad
      obtain ⟨i,h4,h5⟩:=ih (p+1) (by omega)
      refine ⟨i,by rw [h4,hd,Yur,hbad,Yup],?_⟩
      rw [←h5,G8 L.A6.x0.eq_1]
      simp -dsimp (disch:=first|omega|(simp only [A3]<;>omega)|fail) only [go_sem,reduceIte,reduceCtorEq,A9,B0,B1,B2,B3,B4,B5,B6,B7,B8,B9,C0,C1,C2,C3,C4,C5,C6,C7,A2,Zb6,Zby,Zri,Zrj,Zrk,Zme,Zm9 b0 b1,h3]
      rfl
theorem Zmf {n:Int}:S E0 F.X9 [.int .i64 n] []=some (.bool (decide (8<n)),[]):=by
  rw [Zbn Zu6 rfl rfl]
  simp -dsimp (disch:=first|omega|(simp only [A3]<;>omega)|fail) only [L.X9,go_sem,reduceIte,reduceCtorEq,A9,B0,B1,B2,B3,B4,B5,B6,B7,B8,B9,C0,C1,C2,C3,C4,C5,C6,C7,A2]
theorem go_any {s:List UInt8} (hs:s.length≤1000000):∃ i:Int,((0≤i)↔s.any Ze0=true)∧S E0 F.A6 [.str s,.str [47,0]] []=some (.int .i64 i,[]):=by
  rw [Zbn Zgk rfl rfl]
  have e0:(([47,0]:List UInt8) == [])=false:=rfl
  by_cases h8:8<s.length
  · obtain ⟨i,h1,h2⟩:=Yj5 hs s.length 0 (by omega)
    refine ⟨i,by simpa using h1,?_⟩
    rw [←h2]
    have h9:decide (8<(s.length:Int))=true:=by simp;omega
    simp -dsimp (disch:=first|omega|(simp only [A3]<;>omega)|fail) only [L.A6,go_sem,reduceIte,reduceCtorEq,A9,B0,B1,B2,B3,B4,B5,B6,B7,B8,B9,C0,C1,C2,C3,C4,C5,C6,C7,A2,Zb6,Zby,Zri,Zrj,Zrk,Zme,e0,Zmf,h9,go_set]
    rfl
  · obtain ⟨i,h1,h2⟩:=Yj3 hs s.length 0 (by omega) (by omega)
    refine ⟨i,by simpa using h1,?_⟩
    rw [←h2]
    have h9:decide (8<(s.length:Int))=false:=by simp;omega
    simp -dsimp (disch:=first|omega|(simp only [A3]<;>omega)|fail) only [L.A6,go_sem,reduceIte,reduceCtorEq,A9,B0,B1,B2,B3,B4,B5,B6,B7,B8,B9,C0,C1,C2,C3,C4,C5,C6,C7,A2,Zb6,Zby,Zri,Zrj,Zrk,Zme,e0,Zmf,h9,L.A6.r1]
theorem Zlc {s:List UInt8} (hs:s.length≤1000000):S E0 F.J5 [.str s,.str [47,0]] []=some (.bool (s.any Ze0),[]):=by
  rw [Zbn Zgi rfl rfl]
  obtain ⟨i,h1,h2⟩:=go_any hs
  have h3:decide (0≤i)=s.any Ze0:=by
    cases h:s.any Ze0 with
    | true=>simp [h1.2 h]
    | false=>rw [decide_eq_false_iff_not,h1,h];simp
  simp -dsimp (disch:=first|omega|(simp only [A3]<;>omega)|fail) only [L.J5,go_sem,reduceIte,reduceCtorEq,A9,B0,B1,B2,B3,B4,B5,B6,B7,B8,B9,C0,C1,C2,C3,C4,C5,C6,C7,A2,h2,h3]
theorem Z0p {s:List UInt8} (hs:s.length=4) (h:Zg0 s=true):bat s 1<128∧bat s 2<128:=by
  rw [←Z7y hs] at h
  simp only [Z0l,Ysj,decide_eq_true_eq] at h
  exact ⟨h.2.1.1,h.2.2.1.1⟩
theorem Yqc (s:List UInt8):s.any Ze0=(s.contains 47||s.contains 0):=by
  induction s with
  | nil=>rfl
  | cons b s ih =>
    rw [Yur,ih,Yus,Yus]
    unfold Ze0
    rw [show (47==b)=(b==47) from Bool.beq_comm,show (0==b)=(b==0) from Bool.beq_comm]
    cases (b==47)<;>cases (b==0)<;>cases s.contains 47<;>cases s.contains 0<;>rfl
theorem Yct {s:List UInt8} (h:s.length≠4):Zg0 s=false:=by
  unfold Zg0
  split
  · exact absurd rfl h
  · rfl
theorem Yqd {s:List UInt8} (hs:s.length≤1000000):S E0 F.M3 [.str s] []=some (.bool (Q1 s),[]):=by
  rw [Zbn Zkt rfl rfl]
  cases c1:(s == []) with
  | true =>
    have:Q1 s=false:=by rw [eq_of_beq c1];rfl
    rw [this]
    simp -dsimp (disch:=first|omega|(simp only [A3]<;>omega)|fail) only [L.M3,go_sem,reduceIte,reduceCtorEq,A9,B0,B1,B2,B3,B4,B5,B6,B7,B8,B9,C0,C1,C2,C3,C4,C5,C6,C7,A2,c1]
  | false =>
  cases c2:(s == [46]) with
  | true =>
    have:Q1 s=false:=by rw [eq_of_beq c2];rfl
    rw [this]
    simp -dsimp (disch:=first|omega|(simp only [A3]<;>omega)|fail) only [L.M3,go_sem,reduceIte,reduceCtorEq,A9,B0,B1,B2,B3,B4,B5,B6,B7,B8,B9,C0,C1,C2,C3,C4,C5,C6,C7,A2,c1,c2]
  | false =>
  cases c3:(s == [46,46]) with
  | true =>
    have:Q1 s=false:=by rw [eq_of_beq c3];rfl
    rw [this]
    simp -dsimp (disch:=first|omega|(simp only [A3]<;>omega)|fail) only [L.M3,go_sem,reduceIte,reduceCtorEq,A9,B0,B1,B2,B3,B4,B5,B6,B7,B8,B9,C0,C1,C2,C3,C4,C5,C6,C7,A2,c1,c2,c3]
  | false =>
  have hl:1≤s.length:=by
    cases s with
    | nil=>simp at c1
    | cons b s=>simp
  by_cases c4:100<s.length
  · have:Q1 s=false:=by
      unfold Q1
      rw [show decide (s.length≤100)=false from Zas (by omega)]
      simp
    have c4':decide (100<(s.length:Int))=true:=K9 (by omega)
    rw [this]
    simp -dsimp (disch:=first|omega|(simp only [A3]<;>omega)|fail) only [L.M3,go_sem,reduceIte,reduceCtorEq,A9,B0,B1,B2,B3,B4,B5,B6,B7,B8,B9,C0,C1,C2,C3,C4,C5,C6,C7,A2,c1,c2,c3,c4']
  · have c4':decide (100<(s.length:Int))=false:=Zas (by omega)
    have hn:Q1 s=(!(s.any Ze0) && !Zg0 s):=by
      unfold Q1
      rw [Yqc,show decide (s.length≤100)=true from K9 (by omega),show decide (1≤s.length)=true from K9 hl,show (s != [46])=true by simp [bne,c2],show (s != [46,46])=true by simp [bne,c3]]
      cases s.contains 47<;>cases s.contains 0<;>cases Zg0 s<;>rfl
    by_cases c5:s.length=4
    · have c5':((s.length:Int)==4)=true:=Zo4 (by omega)
      have hf:=Yqa c5
      rw [Z7y c5] at hf
      cases hg:Zg0 s with
      | true =>
        obtain ⟨g1,g2⟩:=Z0p c5 hg
        rw [hg] at hf
        rw [hn,hg]
        simp -dsimp (disch:=first|omega|(simp only [A3]<;>omega)|fail) only [L.M3,go_sem,reduceIte,reduceCtorEq,A9,B0,B1,B2,B3,B4,B5,B6,B7,B8,B9,C0,C1,C2,C3,C4,C5,C6,C7,A2,c1,c2,c3,c4',c5',hf,K9 g1,K9 g2,Yuf,Bool.and_false]
      | false =>
        rw [hg] at hf
        rw [hn,hg]
        simp -dsimp (disch:=first|omega|(simp only [A3]<;>omega)|fail) only [L.M3,go_sem,reduceIte,reduceCtorEq,A9,B0,B1,B2,B3,B4,B5,B6,B7,B8,B9,C0,C1,C2,C3,C4,C5,C6,C7,A2,c1,c2,c3,c4',c5',hf,Zlc hs,Yug,Ys3]
    · have c5':((s.length:Int)==4)=false:=Zdx (by omega)
      rw [hn,Yct c5]
      simp -dsimp (disch:=first|omega|(simp only [A3]<;>omega)|fail) only [L.M3,go_sem,reduceIte,reduceCtorEq,A9,B0,B1,B2,B3,B4,B5,B6,B7,B8,B9,C0,C1,C2,C3,C4,C5,C6,C7,A2,c1,c2,c3,c4',c5',Zlc hs,Yug,Ys3]
end Cod

/- From the model's code to the lean form. -/
import Derived.Laws.Cells
import Derived.Laws.Slices
import Derived.Laws.StructEq
import Derived.Laws.BytesString
import Derived.Laws.IdiomStrings
import Derived.Laws.AppendOwn
import Derived.Test.YtabccggcfcppgaaGreatDoorXCod1
set_option linter.unusedSimpArgs false
set_option linter.unusedVariables false
open List renaming extract_eq_take_drop → Yft, foldl_cons → Yfy, length_cons → Yf0, length_drop → Yfr, length_take → Yfq, size_toArray → Yfs
open Nat renaming add_assoc → Yfu, add_mul → Yfx, le_refl → Yfj
open Int renaming toNat_of_nonneg → Yfw
open Bool renaming and_eq_true → Yfz
open Option renaming map_eq_some_iff → Yfp, map_none → Yfv, map_some → Yfo
namespace Cod
open Go
structure Ann where
  cross:List Nat
  keep:List (Nat × List Nat)
  live:List (Nat × List Nat)
  take:List (Nat × List Nat)
  ord:List (Nat × List Nat)
def tab (l:List (Nat × List Nat)) (n:Nat):List Nat:=(l.lookup n).getD []
def T5:Value→Option AV
  | .int k n=>some (.int k n)
  | .bool b=>some (.bool b)
  | .string s=>some (.str s.data.toList)
  | .pointer none=>some .nilp
  | .slice none 0 0=>some .nils
  | .map none=>some .nilm
  | .nilIface=>some .nili
  | .nilFunc=>some .nilf
  | _=>none
def Zbd:List Value→Option (List AV)
  | []=>some []
  | v::vs=>match T5 v,Zbd vs with|some a,some as=>some (a::as)|_,_=>none
def Zgk:Value→Option AV
  | .agg cs=>(Zbd cs.toList).map .agg
  | v=>T5 v
def K3:Operand→Option LO
  | .tmp t=>some (.t t)
  | .const v=>(Zgk v).map .k
  | .global g=>some (.g g)
  | .func f=>some (.f f)
def Zc3:List Operand→Option (List LO)
  | []=>some []
  | x::xs=>match K3 x,Zc3 xs with|some a,some as=>some (a::as)|_,_=>none
section
variable (P:Program)
def L1 (t:TypeId):Option Nat:=(P.info? t).map (·.size)
def Zdf (t:TypeId):Option Nat:=(P.info? t).map (·.bytes)
def Z9 (t:TypeId):Option (List AV):=match (P.info? t).bind (·.zero) with|some z=>Zbd z.cells.toList|none=>none
def Zep (t:TypeId):Option (Option Nat) :=
  match P.underlying t,P.info? t with
  | some (.struct _),some i=>some (some i.size)
  | some (.array _ _),some i=>some (some i.size)
  | some _,some _=>some none
  | _,_=>none
def Zev (t:TypeId):Option TypeId:=match P.underlying t with|some (.slice e)=>some e|_=>none
def Zm3 (t:TypeId):Bool:=match P.underlying t with|some (.int .u8)=>true|_=>false
def Z30 (t:TypeId):Bool:=match P.underlying t with|some .string=>true|_=>false
def Zjh:Operand→Bool
  | .const _=>true
  | _=>false
def Zju (f:TypeId→Option (List Nat)):List Field→Nat→Option (List Nat)
  | [],_=>some []
  | x::r,n=>match f x.type with|some ks=>if x.offset=n∧x.name ≠ "_" then (Zju f r (n+ks.length)).map (ks ++ ·) else none|none=>none
def Zqh (ks:List Nat):Nat→List Nat
  | 0=>[]
  | n+1=>ks++Zqh ks n
def Zcn:Nat→TypeId→Option (List Nat)
  | 0,_=>none
  | d+1,t =>
    match P.underlying t,P.info? t with
    | some (.int _),some _=>some [0]
    | some .bool,some _=>some [1]
    | some .string,some _=>some [2]
    | some (.struct fs),some i=>if P.stoodInHeld t=false then (Zju (Zcn d) fs.toList 0).bind fun ks=>if ks.length=i.size then some ks else none else none
    | some (.array n e),some i=>(match Zcn d e,L1 P e with|some ks,some m=>if ks.length=m∧i.size=n*m∧0<m then some (Zqh ks n) else none|_,_=>none)
    | _,_=>none
def Zxm (op:BinOp) (neg:Bool) (t:TypeId) (x y:Operand):Option LOp :=
  match K3 x,K3 y with
  | some a,some b =>
    (match P.underlying t with
    | some (.int _)|some .string=>some (.bin op a b)
    | some .bool=>some (.eqb neg a b)
    | some (.pointer _)=>some (.eqn 0 neg a b)
    | some (.slice _)=>some (.eqn 1 neg a b)
    | some (.map ..)=>some (.eqn 2 neg a b)
    | some (.func ..)=>some (.eqn 3 neg a b)
    | some (.interface _)=>if (Zjh x||Zjh y)=true then some (.eqn 4 neg a b) else none
    | some (.struct _)|some (.array ..)=>(match Zcn P 20 t with|some ks=>if P.eqGuardType P.depth t then none else some (.eqa ks neg a b)|none=>none)
    | _=>none)
  | _,_=>none
def Y9 (off:Nat→Option (Nat × Nat)):List (Nat × Operand)→Option (List (Nat × Nat × LO))
  | []=>some []
  | (i,x)::r=>match off i,K3 x,Y9 off r with|some (o,n),some a,some as=>some ((o,n,a)::as)|_,_,_=>none
def Zxn (A:Ann) (f:Operand) (args:Array Operand):Option LOp :=
  match K3 f,Zc3 args.toList with
  | some g,some as=>some (.call g as (match f with|.func n=>tab A.take n|_=>tab A.take (1000000+as.length)))
  | _,_=>none
def frzAt (A:Ann) (d:Option Nat):Bool:=match d with|some d=>(tab A.take 2000000).contains d|none=>false
def Ztk (A:Ann) (d:Option Nat):Bool:=match d with|some d=>(tab A.take 2000001).contains d|none=>false
def mvOp (b:Bool) (x:LO):LOp:=match b with|true=>.frz x|false=>.mv x
def appOp (b:Bool) (sz by_:Nat) (s x:LO):LOp:=match b with|true=>.appk sz by_ s x|false=>.app sz by_ s x
def Zlw (keep:Bool) (c:Call):Option LOp :=
  match c.args.toList,c.argTypes.toList with
  | [s,x],[ts,tx] =>
    match Zev P ts,K3 s,K3 x with
    | some e,some s',some x' =>
      (match L1 P e,Zdf P e,Z9 P e with
      | some sz,some b,some z =>
        if sz=0∨b=0∨z.length≠sz then none
        else (match P.underlying tx with
          | some (.int _)=>some (.appz sz b z s' x')
          | some .string|some (.slice _)=>some (appOp keep sz b s' x')
          | _=>none)
      | _,_,_=>none)
    | _,_,_=>none
  | _,_=>none
def Z31 (c:Call):Option LOp :=
  match c.args.toList,c.argTypes.toList with
  | [x],[t] =>
    match P.underlying t,K3 x with
    | some (.array n _),some x'=>some (.len (some n) x')
    | some .string,some x'=>some (.lens x')
    | some (.slice _),some x'=>some (.len none x')
    | some (.map ..),some x'=>some (.mlen x')
    | some (.pointer a),some x'=>(match P.underlying a with|some (.array n _)=>some (.len (some n) x')|_=>none)
    | _,_=>none
  | _,_=>none
def low2 (c:Call) (f:LO→LO→LOp):Option LOp :=
  match c.args.toList with
  | [x,y]=>match K3 x,K3 y with|some a,some b=>some (f a b)|_,_=>none
  | _=>none
def Zxo (c:Call):Option LOp :=
  match c.args.toList,c.argTypes.toList with
  | [d,s],[td,_] =>
    match Zev P td,K3 d,K3 s with
    | some e,some d',some s'=>(match L1 P e with|some sz=>if sz=0 then none else some (.copy sz d' s')|none=>none)
    | _,_,_=>none
  | _,_=>none
def Zqi (t:TypeId) (x:Operand) (lo hi:Option Operand):Option LOp :=
  match K3 x,Zc3 lo.toList,Zc3 hi.toList with
  | some x',some lo',some hi' =>
    (match P.underlying t with
    | some (.array n e)=>(L1 P e).bind fun sz=>if sz=0 then none else some (.sl sz (some n) x' lo'.head? hi'.head?)
    | some .string=>some (.sls x' lo'.head? hi'.head?)
    | some (.slice e)=>(L1 P e).bind fun sz=>if sz=0 then none else some (.sl sz none x' lo'.head? hi'.head?)
    | _=>none)
  | _,_,_=>none
def Z32 (t:TypeId) (x:Operand) (lo:Option Operand) (hi mx:Operand):Option LOp :=
  match K3 x,Zc3 lo.toList,K3 hi,K3 mx with
  | some x',some lo',some hi',some mx' =>
    (match P.underlying t with
    | some (.slice e)=>(L1 P e).bind fun sz=>if sz=0 then none else some (.slm sz x' lo'.head? hi' mx')
    | _=>none)
  | _,_,_,_=>none
def Zjv (src dst:TypeId) (x:Operand):Option LOp :=
  match K3 x,P.underlying src,P.underlying dst with
  | some a,some (.int _),some (.int k)=>some (.cvi k a)
  | some a,some .string,some .string=>some (.s2s a)
  | some a,some (.int _),some .string=>some (.r2s a)
  | some a,some .string,some (.slice e)=>if Zm3 P e then some (.s2b a) else none
  | some a,some (.slice e),some .string=>if Zm3 P e then some (.b2s a) else none
  | some a,some (.slice _),some (.slice e)=>if src==dst&&Zm3 P e then some (.b2b a) else none
  | _,_,_=>none
def Zew (k:TypeId):Option Bool:=match P.underlying k with|some (.int _)=>some false|some .string=>some true|_=>none
def Zxp (e:TypeId):Option AV:=((P.info? e).bind (·.zero)).bind Zgk
def Zxq (t:TypeId) (m k:Operand) (ok:Bool):Option LOp :=
  match P.underlying t,K3 m,K3 k with
  | some (.map kt e),some m',some k'=>(match Zew P kt,Zxp P e with|some str,some z=>some (.mget str z ok m' k')|_,_=>none)
  | _,_,_=>none
def Zm4 (t:TypeId) (m k x:Operand):Option LOp :=
  match P.underlying t,K3 m,K3 k,K3 x with
  | some (.map kt _),some m',some k',some x'=>(Zew P kt).map fun str=>.mput str m' k' x'
  | _,_,_,_=>none
def Zxr (c:Call):Option LOp :=
  match c.args.toList,c.argTypes.toList with
  | [m,k],[t,_] =>
    match P.underlying t,K3 m,K3 k with
    | some (.map kt _),some m',some k'=>(Zew P kt).map fun str=>.mdel str m' k'
    | _,_,_=>none
  | _,_=>none
def Zlx (A:Ann) (o:Oper):Option LOp :=
  match o.op with
  | .move (.const (.slice none 0 0))|.assign (.const (.slice none 0 0)) =>
    (Zev P o.type).bind fun e=>(L1 P e).map .nil
  | .move x|.assign x=>(K3 x).map (mvOp (frzAt A o.dst))
  | .pick c a b=>match K3 c,K3 a,K3 b with|some c,some a,some b=>some (.pick c a b)|_,_,_=>none
  | .alloc e=>(Z9 P e).map .new
  | .box _ x=>(K3 x).map .box
  | .build t parts =>
    (match P.underlying t,Z9 P t with
    | some (.struct fs),some z=>(fs.toList.mapM (fun f=>(P.info? f.type).map fun i=>(f.offset,i.size))).bind fun places=>(Y9 (fun i=>places.toArray[i]?) parts.toList).map (.build z)
    | some (.array _ e),some z=>(L1 P e).bind fun n=>(Y9 (fun i=>some (i*n,n)) parts.toList).map (.build z)
    | _,_=>none)
  | .buildSlice t len parts =>
    (Zev P t).bind fun e =>
    (match L1 P e,Z9 P e with
    | some n,some z=>if n=0∨z.length≠n∨16777216<len*n then none else (Y9 (fun i=>some (i*n,n)) parts.toList).map (.bslice n len z)
    | _,_=>none)
  | .load t a=>(match Zep P t,K3 a with|some n,some x=>some (.ld n x)|_,_=>none)
  | .store t a x=>(match L1 P t,K3 a,K3 x with|some n,some a,some x=>some (.st n a x)|_,_,_=>none)
  | .nilCheck x=>(K3 x).map .nilck
  | .binOp op t x y _ =>
    (match op with
    | .eql=>Zxm P .eql false t x y
    | .neq=>Zxm P .neq true t x y
    | _=>(match K3 x,K3 y with|some a,some b=>some (.bin op a b)|_,_=>none))
  | .unOp op _ x=>(K3 x).map (.un op)
  | .convert src dst x=>Zjv P src dst x
  | .sliceToArrayPointer arr x=>(match P.underlying arr with
    | some (.array n e)=>(match L1 P e,K3 x with|some sz,some a=>if sz=0 then none else some (.s2a n sz a)|_,_=>none)
    | _=>none)
  | .makeInterface t x=>(match P.underlying t with|some (.interface _)|none=>none|_=>(K3 x).map (.mkif t))
  | .makeFunc (.func f) first cap=>if first.isEmpty then (Zc3 cap.toList).map (.mkfn f) else none
  | .makeSlice t l c =>
    (Zev P t).bind fun e =>
    (match L1 P e,Zdf P e,Z9 P e,K3 l,K3 c with
    | some n,some b,some z,some l,some c=>if n=0∨z.length≠n then none else some (.mks n b z l c)
    | _,_,_,_,_=>none)
  | .slice t x lo hi none=>Zqi P t x lo hi
  | .slice t x lo (some hi) (some mx)=>Z32 P t x lo hi mx
  | .fieldAddr s x f=>(match P.underlying s with
    | some (.struct fs)=>(match fs[f]? with
      | some f=>(match L1 P f.type,K3 x with|some n,some a=>if n=0 then none else some (.fa a f.offset)|_,_=>none)
      | none=>none)
    | _=>none)
  | .field s x f=>(match P.underlying s with
    | some (.struct fs)=>(match fs[f]? with
      | some f=>(match Zep P f.type,K3 x with|some n,some a=>some (.fld a f.offset n)|_,_=>none)
      | none=>none)
    | _=>none)
  | .indexAddr t x i=>(match P.underlying t,K3 x,K3 i with
    | some (.array n e),some a,some b=>(L1 P e).map fun sz=>.ia sz (some n) a b
    | some (.slice e),some a,some b=>(L1 P e).map fun sz=>.ia sz none a b
    | _,_,_=>none)
  | .index t x i=>(match P.underlying t,K3 x,K3 i with
    | some (.array n e),some a,some b=>(match L1 P e,Zep P e with|some sz,some g=>some (.ix sz (some n) g.isSome a b)|_,_=>none)
    | some .string,some a,some b=>some (.ix 1 none false a b)
    | _,_,_=>none)
  | .extract x i=>(K3 x).map (.ext · i)
  | .panic _=>some .stop
  | .range t x=>if Z30 P t then (K3 x).map .rng else none
  | .next x str=>if str then (K3 x).map .nxt else none
  | .makeMap _ none=>some .mkmap
  | .makeMap t (some x)=>(match P.underlying t,K3 x with|some (.map ..),some a=>some (.mkmapn a)|_,_=>none)
  | .lookup t m k ok=>Zxq P t m k ok
  | .mapUpdate t m k x|.insert t m k x=>Zm4 P t m k x
  | .call c =>
    (match c.callee with
    | .value f=>Zxn A f c.args
    | .builtin .append=>Zlw P (Ztk A o.dst) c
    | .builtin .len=>Z31 P c
    | .builtin .min=>low2 c .min
    | .builtin .max=>low2 c .max
    | .builtin .copy=>Zxo P c
    | .builtin .cap=>(match c.args.toList,c.argTypes.toList with|[x],[t]=>(match Zev P t,K3 x with|some _,some a=>some (.cap a)|_,_=>none)|_,_=>none)
    | .builtin .delete=>Zxr P c
    | .builtin .panic=>some .stop
    | _=>none)
  | _=>none
def Zdi (ops:Array Oper):Option (Nat × Bool)→Option (Option (Nat × Bool))
  | none=>some none
  | some (j,w)=>match (ops[j]?).bind (·.dst) with|some d=>some (some (d,w))|none=>none
def V2 (A:Ann) (ops:Array Oper):List Oper→Option (List LOper)
  | []=>some []
  | o::os=>match Zlx P A o,Zdi ops o.guard,V2 A ops os with
    | some p,some g,some r=>some (⟨o.dst,p,g⟩::r)
    | _,_,_=>none
def Zan:Code→Nat
  | .region id _ _=>id
  | .seq a b=>if Zan a=1000000 then Zan b else Zan a
  | .block _ a|.loop a=>Zan a
  | .cond _ a _=>Zan a
  | _=>1000000
def N8:LOp→Nat
  | .mv _|.pick ..|.build ..|.bin ..|.eqb ..|.eqa ..|.un ..|.cvi ..|.s2s _|.r2s _|.mkif ..|.mkfn ..|.fld ..|.ix ..|.ext ..|.min ..|.max ..|.cap _|.lens _|.sls ..|.stop=>0
  | .ld ..|.b2s _|.nilck _|.sl ..|.slm ..|.fa ..|.ia ..|.s2a ..|.len ..|.b2b _|.eqn ..=>1
  | _=>2
def Zxs:LOp→List LO
  | .mv x|.box x|.nilck x|.un _ x|.cvi _ x|.s2s x|.s2b x|.b2s x|.b2b x|.mkif _ x|.fa x _|.fld x _ _|.s2a _ _ x|.ext x _|.len _ x|.lens x|.cap x|.ld _ x|.r2s x|.rng x|.nxt x|.mlen x|.mkmapn x|.frz x=>[x]
  | .nil _|.new _|.mkmap|.stop=>[]
  | .pick a b c|.mput _ a b c=>[a,b,c]
  | .build _ ps|.bslice _ _ _ ps=>ps.map (·.2.2)
  | .st _ a x|.bin _ a x|.eqb _ a x|.eqa _ _ a x|.eqn _ _ a x|.mks _ _ _ a x|.ia _ _ a x|.ix _ _ _ a x|.app _ _ a x|.appk _ _ a x|.appz _ _ _ a x|.copy _ a x|.min a x|.max a x|.mget _ _ _ a x|.mdel _ a x=>[a,x]
  | .mkfn _ xs=>xs
  | .sl _ _ x lo hi|.sls x lo hi=>x::(lo.toList++hi.toList)
  | .slm _ x lo hi mx=>x::(lo.toList++[hi,mx])
  | .call f xs _=>f::xs
def Zqj (A:Ann) (id n:Nat):List Nat:=match tab A.ord id with|[]=>List.range n|x::l=>x::l
def Zex {α:Type} (l:List α):List Nat→Option (List α)
  | []=>some []
  | i::is=>match l[i]?,Zex l is with|some x,some xs=>some (x::xs)|_,_=>none
def Zey (π:List Nat) (acc:List Nat) (o:Oper):Nat:=o.after.toList.foldl (fun s e=>if Region.binds .any e then s ||| 2 ^ π.idxOf e.on ||| acc.getD (π.idxOf e.on) 0 else s) 0
def Zgl (π:List Nat):List Oper→List Nat→List Nat
  | [],acc=>acc
  | o::os,acc=>Zgl π os (acc++[Zey π acc o])
def Zaa (π:List Nat) (os:List Oper):List (Nat × Nat) :=
  let b:=Zgl π os []
  (List.range os.length).flatMap fun j=>(List.range j).filterMap fun i=>if (b.getD j 0).testBit i then none else some (i,j)
def V8 (lo:LOper):List Nat :=
  (Zxs lo.op).filterMap (fun|.t n=>some n|_=>none)++(match lo.guard with|some (g,_)=>[g]|none=>[])
def Z33 (x y:LOper):Bool :=
  (match x.dst with|some d => !(V8 y).contains d&&y.dst != some d|none=>true)&&(match y.dst with|some d => !(V8 x).contains d|none=>true)
def Zhx (π:List Nat) (n:Nat) (os:List Oper) (los:List LOper):Bool :=
  π.length==n&&((List.range n).all fun k=>match π[k]? with|some i => π.idxOf i==k|none=>false)&&((List.range n).all fun i => π.contains i) &&
  ((List.range n).all fun k=>match os[k]? with|some o=>o.after.all fun e => !Region.binds .any e||decide (π.idxOf e.on<k)|none=>false) &&
  (Zaa π os).all fun (i,j)=>match los[i]?,los[j]? with|some x,some y=>Z33 x y|_,_=>false
def Zly (l:List LOper) (p:List (Nat × Nat)):List (Nat × Nat) :=
  p.filter fun (i,j)=>match l[i]?,l[j]? with|some x,some y=>N8 x.op != 0&&N8 y.op != 0&&(N8 x.op==2||N8 y.op==2)|_,_=>true
def Zjw (A:Ann) (n:Nat) (ops:List Oper) (keep:List Nat):Bool :=
  ops.all (fun o=>match o.dst with|some d=>decide (d<n)&&(!(A.cross.contains d)||keep.contains d)|none=>true)&&keep.all A.cross.contains
def low (A:Ann) (n:Nat):Code→Option LCode
  | .skip=>some .skip
  | .ret=>some .ret
  | .exit k=>some (.exit k)
  | .region id ops draw =>
    (match V2 P A ops ops.toList with
    | some l=>if !(Zjw A n ops.toList (tab A.keep id)) then none else if draw then
        (match Zex ops.toList (Zqj A id ops.size),Zex l (Zqj A id ops.size) with
        | some os,some ls=>if Zhx (Zqj A id ops.size) ops.size os ls then some (.dreg ls (Zly ls (Zaa (Zqj A id ops.size) os)) (tab A.keep id)) else none
        | _,_=>none)
      else some (.reg l (tab A.keep id))
    | none=>none)
  | .seq a b=>match low A n a,low A n b with|some x,some y=>some (.seq x y)|_,_=>none
  | .cond c a b=>match K3 c,low A n a,low A n b with|some z,some x,some y=>some (.cond z x y)|_,_,_=>none
  | .block k a=>(low A n a).map (.block k)
  | .loop a=>if (tab A.live (Zan a)).all A.cross.contains then (low A n a).map (.loop (tab A.live (Zan a))) else none
  | .scope a=>(low A n a).map .scope
  | .label l=>some (.label l)
  | .goto l=>some (.goto l)
  | _=>none
def Ztl:ResultVar→Option LRes
  | .tmp t=>some (.tmp t)
  | .cell a t=>(Zep P t).map (.cell a)
def Zfm:List ResultVar→Option (List LRes)
  | []=>some []
  | r::rs=>match Ztl P r,Zfm rs with|some a,some as=>some (a::as)|_,_=>none
def Z34 (A:Ann) (f:Func):Option LFn :=
  match f.body with
  | some c =>
    if (List.range (f.params.size+f.nfree)).all A.cross.contains&&decide (f.params.size+f.nfree≤f.ntmps) then
      (match low P A f.ntmps c,Zfm P f.results.toList with|some x,some rs=>some ⟨f.params.size+f.nfree,rs,x⟩|_,_=>none)
    else none
  | none=>none
end
end Cod
namespace Cod
open Go
structure Fr (c:Ctx) (ρ:Nat→AV) (N:Nat) (a:Act):Prop where
  slots:∀ t,VR c (ρ t) (a.tmps.getD t undef)
  defers:a.defers=[]
  size:a.tmps.size=N
theorem Zjx (c:Ctx):∀ {v:Value} {x:AV},T5 v=some x→VR c x v:=by
  intro v x h
  cases v with
  | int k n=>simp only [T5,Option.some.injEq] at h;subst h;simp [VR]
  | bool b=>simp only [T5,Option.some.injEq] at h;subst h;simp [VR]
  | string s=>simp only [T5,Option.some.injEq] at h;subst h;simp [VR]
  | pointer a=>cases a<;>simp only [T5,Option.some.injEq,reduceCtorEq] at h;subst h;simp [VR]
  | slice a n m =>
    cases a with
    | some a=>simp [T5] at h
    | none =>
      cases n with
      | succ n=>simp [T5] at h
      | zero=>cases m with
        | succ m=>simp [T5] at h
        | zero=>simp only [T5,Option.some.injEq] at h;subst h;simp [VR]
  | map r=>cases r<;>simp only [T5,Option.some.injEq,reduceCtorEq] at h;subst h;simp [VR]
  | nilIface=>simp only [T5,Option.some.injEq] at h;subst h;simp [VR]
  | nilFunc=>simp only [T5,Option.some.injEq] at h;subst h;simp [VR]
  | _=>simp [T5] at h
theorem V9 (c:Ctx):∀ {vs:List Value} {xs:List AV},Zbd vs=some xs→VRL c xs vs:=by
  intro vs
  induction vs with
  | nil=>intro xs h;simp only [Zbd,Option.some.injEq] at h;subst h;simp [VRL]
  | cons v vs ih =>
    intro xs h
    simp only [Zbd] at h
    cases h1:T5 v with
    | none=>rw [h1] at h;simp at h
    | some a =>
      cases h2:Zbd vs with
      | none=>rw [h1,h2] at h;simp at h
      | some as =>
        rw [h1,h2] at h
        simp only [Option.some.injEq] at h
        subst h
        simp only [VRL]
        exact ⟨v,vs,rfl,Zjx c h1,ih h2⟩
theorem Zip (c:Ctx) {v:Value} {x:AV} (h:Zgk v=some x):VR c x v:=by
  cases v with
  | agg cs =>
    simp only [Zgk,Yfp] at h
    obtain ⟨xs,h1,rfl⟩:=h
    simp only [VR]
    exact ⟨cs,rfl,V9 c h1⟩
  | _=>exact Zjx c h
theorem Zxt {E:Env} {c:Ctx} {sl loc:List (Nat × AV)} {N:Nat} {a:Act} (hf:Fr c (P2 sl loc) N a) (hg:∀ n,VR c (Zgf (E.glob n)) (.pointer (some ⟨n,0,none⟩)))
    {x:Operand} {lx:LO} (h:K3 x=some lx):VR c (evR E sl loc lx) (a.eval x):=by
  cases x with
  | tmp t=>simp only [K3,Option.some.injEq] at h;subst h;exact hf.slots t
  | const v=>simp only [K3,Yfp] at h;obtain ⟨x,h1,rfl⟩:=h;exact Zip c h1
  | global g=>simp only [K3,Option.some.injEq] at h;subst h;exact hg g
  | func f=>simp only [K3,Option.some.injEq] at h;subst h;simp [evR,Act.eval,VR,VRL]
theorem Z35 {E:Env} {c:Ctx} {sl loc:List (Nat × AV)} {N:Nat} {a:Act} (hf:Fr c (P2 sl loc) N a) (hg:∀ n,VR c (Zgf (E.glob n)) (.pointer (some ⟨n,0,none⟩))) :
    ∀ {xs:List Operand} {lxs:List LO},Zc3 xs=some lxs→VRL c (lxs.map (evR E sl loc)) (xs.map a.eval):=by
  intro xs
  induction xs with
  | nil=>intro lxs h;simp only [Zc3,Option.some.injEq] at h;subst h;simp [VRL]
  | cons x xs ih =>
    intro lxs h
    simp only [Zc3] at h
    cases h1:K3 x with
    | none=>rw [h1] at h;simp at h
    | some y =>
      cases h2:Zc3 xs with
      | none=>rw [h1,h2] at h;simp at h
      | some ys =>
        rw [h1,h2] at h
        simp only [Option.some.injEq] at h
        subst h
        simp only [List.map_cons,VRL]
        exact ⟨_,_,rfl,Zxt hf hg h1,ih h2⟩
section
variable (E:Env) (w0:World) (O0:Nat→Prop) (σ0:A2) (L0:Lay) (P:Program) (σ:A2) (L:Lay) (w:World) (o:Oper) (a:Act)
def L3 (v:AV) (u:Ups):Prop :=
  ∀ (next:Act→World→Prop) (Q:Exit→Act→World→Prop),
    (∀ y w' L',Rel E w0 O0 σ0 L0 (B5 σ u) L' w'→CLe (ctx σ L w) (ctx (B5 σ u) L' w')→VR (ctx (B5 σ u) L' w') v y→next (a.put o.dst y) w')→o.wp P a w next Q
end
variable {E:Env} {w0:World} {O0:Nat→Prop} {σ0:A2} {L0:Lay} {P:Program} {σ:A2} {L:Lay} {w:World} {o:Oper} {a:Act}
theorem J6 {v:AV} {u:Ups} {y:Value} {w':World} {L':Lay} (hr:(execOp a.eval o).run P w=.ok (.value y) w') (h1:Rel E w0 O0 σ0 L0 (B5 σ u) L' w')
    (h2:CLe (ctx σ L w) (ctx (B5 σ u) L' w')) (h3:VR (ctx (B5 σ u) L' w') v y):L3 E w0 O0 σ0 L0 P σ L w o a v u:=by
  intro next Q hn
  unfold Oper.wp
  rw [hr]
  exact hn y w' L' h1 h2 h3
theorem Zfn {u:Ups} {w':World} {L':Lay} (hr:(execOp a.eval o).run P w=.ok .skip w') (h1:Rel E w0 O0 σ0 L0 (B5 σ u) L' w')
    (h2:CLe (ctx σ L w) (ctx (B5 σ u) L' w')):L3 E w0 O0 σ0 L0 P σ L w o a .und u:=by
  intro next Q hn
  unfold Oper.wp
  rw [hr]
  exact hn undef w' L' h1 h2 (by simp [VR])
theorem B3 (h:Rel E w0 O0 σ0 L0 σ L w) {v:AV} {y:Value} (hr:(execOp a.eval o).run P w=.ok (.value y) w) (hv:VR (ctx σ L w) v y):L3 E w0 O0 σ0 L0 P σ L w o a v [] :=
  J6 (u:=[]) hr h (CLe.refl _) hv
theorem T2 {t:TypeId} {n:Nat} (h:L1 P t=some n) (w:World):(Go.sizeOf t).run P w=.ok n w:=by
  unfold L1 at h
  simp only [Yfp] at h
  obtain ⟨i,h1,h2⟩:=h
  simp [Go.sizeOf,typeInfo,h1,h2]
theorem Z36 {t:TypeId} {z:List AV} (h:Z9 P t=some z) (w:World):∃ zv,(zeroValue t).run P w=.ok zv w∧Zbd zv.cells.toList=some z:=by
  unfold Z9 at h
  cases h1:(P.info? t).bind (·.zero) with
  | none=>rw [h1] at h;cases h
  | some zv =>
    rw [h1] at h
    simp only [Option.bind_eq_some_iff] at h1
    obtain ⟨i,h2,h3⟩:=h1
    exact ⟨zv,by simp [zeroValue,typeInfo,h2,h3],h⟩
theorem Zfo {t:TypeId} {x:Option Nat} (h:Zep P t=some x) (w:World) :
    (isAgg t).run P w=.ok x.isSome w∧∀ n,x=some n→(Go.sizeOf t).run P w=.ok n w:=by
  unfold Zep at h
  cases hu:P.underlying t with
  | none=>rw [hu] at h;simp at h
  | some d =>
    cases hi:P.info? t with
    | none=>rw [hu,hi] at h;cases d<;>simp at h
    | some i =>
      rw [hu,hi] at h
      have hs:(Go.sizeOf t).run P w=.ok i.size w:=by simp [Go.sizeOf,typeInfo,hi]
      cases d<;>simp only [Option.some.injEq] at h<;>subst h<;>refine ⟨by simp [isAgg,run_underlying hu],fun n hn=>?_⟩<;>first|(cases hn;exact hs)|cases hn
theorem P5 (b off n:Nat):(⟨b,off,none⟩:Addr).add n=⟨b,off+n,none⟩:=Addr.add_lit b off n
theorem Zm5 {c:Ctx} {b off n:Nat} {xs:List AV} (hw:c.w=w) (h:VRC c b off xs) (hn:xs.length=n) :
    ∃ vs:List Value,VRL c xs vs∧vs.length=n∧(loadCells ⟨b,off,none⟩ n).run P w=.ok vs.toArray w:=by
  obtain ⟨vs,h1,h2⟩:=Zet h
  have hl:=H5 h1
  refine ⟨vs,h1,by omega,?_⟩
  have:=run_loadCells_list (P:=P) w ⟨b,off,none⟩ vs (fun j v hj=>by rw [P5,←hw];exact h2 j v hj)
  rw [show vs.length=n by omega] at this
  exact this
theorem Q6 {α:Type} {xs:List α} {o n:Nat} (h:o+n≤xs.length):(sub xs o n).length=n:=by
  unfold sub
  rw [Yfq,Yfr]
  omega
def Ziq (xs:List AV) (off:Nat):Option Nat→AV→Prop
  | none,v=>xs[off]? = some v
  | some n,v=>off+n≤xs.length∧v=.agg (sub xs off n)
theorem Zgm {c:Ctx} {b o off:Nat} {t:TypeId} {n:Option Nat} {xs:List AV} (hw:c.w=w) (hn:Zep P t=some n) (h:VRC c b o xs) {v:AV}
    (hv:Ziq xs off n v) :
    ∃ y,(loadVar t ⟨b,o+off,none⟩).run P w=.ok y w∧VR c v y:=by
  obtain ⟨h1,h2⟩:=Zfo hn w
  cases n with
  | none =>
    obtain ⟨y,h3,h4⟩:=Za7 h hv
    refine ⟨y,?_,h4⟩
    rw [hw] at h3
    simp [loadVar,h1,h3]
  | some n =>
    obtain ⟨hb,rfl⟩:=hv
    obtain ⟨vs,h3,h4,h5⟩:=Zm5 (P:=P) (w:=w) (n:=n) hw (Za8 h off n) (Q6 hb)
    refine ⟨.agg vs.toArray,?_,?_⟩
    · simp [loadVar,h1,h2 n rfl,h5]
    · simp only [VR];exact ⟨_,rfl,by simpa using h3⟩
theorem J0 {s:Site} {e:Ent} (h:A8 σ s=some e):(ctx σ L w).T s=some (e.g,e.alive):=by
  show (A8 σ s).map _=_
  rw [h];rfl
theorem J8 {s:Site} {g:Nat} {α:Type} {k:Ent→Acc α} {x : α} (h:((Q9 s g).bind k).run σ=some x):∃ e,A8 σ s=some e∧e.alive=true∧e.g=g∧(k e).run σ=some x:=by
  simp only [Q9,Acc.bind,Acc.run] at h
  cases h1:A8 σ s with
  | none=>rw [h1] at h;simp [Zpz,Acc.bind,Acc.run] at h
  | some e =>
    rw [h1] at h
    simp only [Zpz] at h
    by_cases hc:e.alive=true∧e.g=g
    · rw [if_pos hc] at h;exact ⟨e,rfl,hc.1,hc.2,h⟩
    · rw [if_neg hc] at h;simp [Acc.bind,Acc.run] at h
theorem Zdg (h:StoreOK σ L w) {s:Site} {g off:Nat} {y:Value} (hv:VR (ctx σ L w) (.ref s g off) y) {e:Ent} (he:A8 σ s=some e) (ha:e.alive=true) (hg:e.g=g) :
    ∃ b o,L s=some (b,o)∧y=.pointer (some ⟨b,o+off,none⟩)∧Zeo w b (o+e.cells.length)∧VRC (ctx σ L w) b o e.cells:=by
  simp only [VR] at hv
  obtain ⟨_,g0,al,h1,_,h3⟩:=hv
  rw [J0 he] at h1
  simp only [Option.some.injEq,Prod.mk.injEq] at h1
  obtain ⟨h4,h5⟩:=h1
  obtain ⟨b,o,h6,h7,h10⟩:=h3 (by rw [←h5];exact ha) (by omega)
  obtain ⟨h8,h9⟩:=h.free he ha h6 h10
  exact ⟨b,o,h6,h7,h8,h9⟩
theorem Zbq {s:Site} {g off n z:Nat} {y:Value} (hv:VR (ctx σ L w) (.buf s g off n z) y) {e:Ent} (he:A8 σ s=some e) (ha:e.alive=true) (hg:e.g=g) :
    L5 (ctx σ L w) s off n z y:=by
  simp only [VR] at hv
  obtain ⟨_,g0,al,h1,_,h3⟩:=hv
  rw [J0 he] at h1
  simp only [Option.some.injEq,Prod.mk.injEq] at h1
  obtain ⟨h4,h5⟩:=h1
  exact h3 (by rw [←h5];exact ha) (by omega)
theorem Zez {b n m:Nat} {w:World} {y:Value} {f:Nat→Value} {g:Nat→Nat} {q0:Nat→Value} (h:(n=0∧Zaf w b 0∧∃ q,y=q0 q)∨∃ cap,y=f cap∧m≤cap∧Zaf w b (g cap)):Zaf w b 0:=by
  rcases h with ⟨_,h,_⟩|⟨_,_,_,h⟩
  · exact h
  · exact h.zero
theorem ok_mv (h:Rel E w0 O0 σ0 L0 σ L w) {x:Operand} {v:AV} (ho:o.op=.move x∨o.op=.assign x) (hv:VR (ctx σ L w) v (a.eval x)) {r:AV × Ups} (hr:(one v).run σ=some r) :
    L3 E w0 O0 σ0 L0 P σ L w o a r.1 r.2:=by
  simp only [one,Acc.run,Option.some.injEq] at hr
  subst hr
  refine B3 h (y:=a.eval x) ?_ hv
  rcases ho with ho|ho<;>simp [execOp,ho]
theorem Ya9 (h:Rel E w0 O0 σ0 L0 σ L w) {c x y:Operand} {vc vx vy:AV} (ho:o.op=.pick c x y) (hc:VR (ctx σ L w) vc (a.eval c)) (hx:VR (ctx σ L w) vx (a.eval x)) (hy:VR (ctx σ L w) vy (a.eval y))
    {r:AV × Ups} (hr:(Zp2 vc vx vy).run σ=some r):L3 E w0 O0 σ0 L0 P σ L w o a r.1 r.2:=by
  cases vc<;>simp only [Zp2,Acc.run,reduceCtorEq] at hr
  rename_i t
  simp only [one,Acc.run,Option.some.injEq] at hr
  subst hr
  simp only [VR] at hc
  cases t with
  | true=>exact B3 h (y:=a.eval x) (by simp [execOp,ho,hc,asBool]) hx
  | false=>exact B3 h (y:=a.eval y) (by simp [execOp,ho,hc,asBool]) hy
theorem ok_ld (h:Rel E w0 O0 σ0 L0 σ L w) {t:TypeId} {x:Operand} {n:Option Nat} {v:AV} (ho:o.op=.load t x) (ht:Zep P t=some n) (hv:VR (ctx σ L w) v (a.eval x))
    {r:AV × Ups} (hr:(ldV n v).run σ=some r):L3 E w0 O0 σ0 L0 P σ L w o a r.1 r.2:=by
  have key:∀ (b o' off:Nat) (cs:List AV) (r':AV × Ups),a.eval x=.pointer (some ⟨b,o'+off,none⟩)→VRC (ctx σ L w) b o' cs →
      (match n with|none=>optV cs[off]? | some n=>aggV cs off n).run σ=some r'→L3 E w0 O0 σ0 L0 P σ L w o a r'.1 r'.2:=by
    intro b o' off cs r' hx hc hr'
    have:∃ v',r'=(v',[])∧Ziq cs off n v':=by
      cases n with
      | none =>
        simp only at hr'
        cases hcs:cs[off]? with
        | none=>rw [hcs] at hr';simp [optV,Acc.run] at hr'
        | some v'=>rw [hcs] at hr';simp only [optV,one,Acc.run,Option.some.injEq] at hr';exact ⟨v',hr'.symm,hcs⟩
      | some n =>
        simp only [aggV] at hr'
        by_cases hle:off+n≤cs.length
        · rw [if_pos hle] at hr';simp only [one,Acc.run,Option.some.injEq] at hr';exact ⟨_,hr'.symm,hle,rfl⟩
        · rw [if_neg hle] at hr';simp [Acc.run] at hr'
    obtain ⟨v',rfl,hv'⟩:=this
    obtain ⟨y,h1,h2⟩:=Zgm (P:=P) (w:=w) (c:=ctx σ L w) rfl ht hc hv'
    refine B3 h (y:=y) ?_ h2
    simp [execOp,ho,Instr.loadAt,Instr.sureAddr,hx,h1]
  cases v with
  | fp cs off =>
    simp only [VR] at hv
    obtain ⟨_,b,o',h1,h2,h3,h4⟩:=hv
    refine key b o' off cs r h1 h4 ?_
    cases n<;>exact hr
  | ref s g off =>
    have hr':((Q9 s g).bind (ldC n off)).run σ=some r:=by cases n<;>exact hr
    obtain ⟨e,he,ha,hg,hk⟩:=J8 hr'
    obtain ⟨b,o',h1,h2,h3,h4⟩:=Zdg h.store hv he ha hg
    refine key b o' off e.cells r h2 h4 ?_
    cases n<;>exact hk
  | _=>cases n<;>simp [ldV,Acc.run] at hr
theorem W0 {s:Site} {g:Nat} {x:AV} {r:AV × Ups} (h:(still1 s g x).run σ=some r):r=(x,[])∧∃ e,A8 σ s=some e∧e.alive=true∧e.g=g:=by
  obtain ⟨e,h1,h2,h3,h4⟩:=J8 h
  simp only [Acc.run,Option.some.injEq] at h4
  exact ⟨h4.symm,e,h1,h2,h3⟩
theorem Z37 (h:Rel E w0 O0 σ0 L0 σ L w) {x:Operand} {v:AV} (ho:o.op=.nilCheck x) (hv:VR (ctx σ L w) v (a.eval x))
    {r:AV × Ups} (hr:(Zhs v).run σ=some r):L3 E w0 O0 σ0 L0 P σ L w o a r.1 r.2:=by
  cases v<;>simp only [Zhs,one,Acc.run,Option.some.injEq,reduceCtorEq] at hr
  case fp cs off =>
    subst hr
    have hv':=hv
    simp only [VR] at hv'
    obtain ⟨_,b,o',h1,_⟩:=hv'
    exact B3 h (y:=a.eval x) (by simp [execOp,ho,h1]) hv
  case ref s g off =>
    obtain ⟨rfl,e,he,ha,hg⟩:=W0 hr
    obtain ⟨b,o',_,h2,_⟩:=Zdg h.store hv he ha hg
    exact B3 h (y:=a.eval x) (by simp [execOp,ho,h2]) hv
  case clo f cap =>
    subst hr
    have hv':=hv
    simp only [VR] at hv'
    obtain ⟨vs,h1,_⟩:=hv'
    exact B3 h (y:=a.eval x) (by simp [execOp,ho,h1]) hv
end Cod
namespace Cod
open Go
variable {E:Env} {w0:World} {O0:Nat→Prop} {σ0:A2} {L0:Lay} {P:Program} {σ:A2} {L:Lay} {w:World} {o:Oper} {a:Act}
theorem Zhy (l:List UInt8):(⟨l.toArray⟩:ByteArray).toList=l:=by rw [ByteArray.toList_eq]
theorem Zbe {x:Option AV} {r:AV × Ups} (h:(optV x).run σ=some r):∃ v,x=some v∧r=(v,[]):=by
  cases x with
  | none=>simp [optV,Acc.run] at h
  | some v=>simp only [optV,one,Acc.run,Option.some.injEq] at h;exact ⟨v,rfl,h.symm⟩
theorem A6 {α:Type} {x y : α} (h:(Acc.ret x).run σ=some y):y=x:=by
  simp only [Acc.run,Option.some.injEq] at h;exact h.symm
theorem A7 {α:Type} {y : α} {p:Prop} (h:(Acc.fail:Acc α).run σ=some y):p:=by simp [Acc.run] at h
theorem G2 {α:Type} {c:Prop} [Decidable c] {x:Acc α} {y : α} (h:(if c then x else Acc.fail).run σ=some y):c∧x.run σ=some y:=by
  by_cases hc:c
  · rw [if_pos hc] at h;exact ⟨hc,h⟩
  · rw [if_neg hc] at h;exact A7 h
theorem Za9 {α:Type} {c:Prop} [Decidable c] {x:Option α} {y : α} (h:(if c then x else none)=some y):c∧x=some y:=by
  by_cases hc:c
  · rw [if_pos hc] at h;exact ⟨hc,h⟩
  · rw [if_neg hc] at h;cases h
theorem Ztm (t:TypeId) (op:BinOp) (k:IntKind) (x y:Int) (v:AV) (hop:op≠.shl∧op≠.shr) (h:U1 op k x y=some v) :
    ∃ u,(binOp op t (.int k x) (.int k y)).run P w=.ok u w∧∀ c,VR c v u:=by
  obtain ⟨h1,h2⟩:=hop
  cases op<;>simp only [U1,Option.some.injEq,reduceCtorEq] at h<;>first
    | (exact absurd rfl h1)|(exact absurd rfl h2)
    | (subst h;exact ⟨_,by simp [binOp,Op.intArith,Op.intBits,Op.intCmp];rfl,fun c=>by simp [VR]⟩)
    | skip
  · by_cases hy:y=0
    · rw [if_pos hy] at h;cases h
    · rw [if_neg hy] at h;cases h;exact ⟨_,by simp [binOp,Op.intDiv,hy];rfl,fun c=>by simp [VR]⟩
  · by_cases hy:y=0
    · rw [if_pos hy] at h;cases h
    · rw [if_neg hy] at h;cases h;exact ⟨_,by simp [binOp,Op.intDiv,hy];rfl,fun c=>by simp [VR]⟩
theorem Zm6 (t:TypeId) (op:BinOp) (k k':IntKind) (x y:Int) (v:AV) (hop:op=.shl∨op=.shr) (h:Zeq op k x y=some v) :
    ∃ u,(binOp op t (.int k x) (.int k' y)).run P w=.ok u w∧∀ c,VR c v u:=by
  unfold Zeq at h
  by_cases hy:y<0
  · rw [if_pos hy] at h;cases h
  · rw [if_neg hy] at h
    rcases hop with rfl|rfl
    · simp only [Option.some.injEq] at h;subst h
      exact ⟨_,by simp [binOp,Op.shift,hy];rfl,fun c=>by simp [VR,Nat.min_def]⟩
    · simp only [Option.some.injEq] at h;subst h
      exact ⟨_,by simp [binOp,Op.shift,hy];rfl,fun c=>by simp [VR,Nat.min_def]⟩
theorem Ztn (t:TypeId) (op:BinOp) (x y:List UInt8) (v:AV) (h:Ztg op x y=some v) :
    ∃ u,(binOp op t (.string ⟨x.toArray⟩) (.string ⟨y.toArray⟩)).run P w=.ok u w∧∀ c,VR c v u:=by
  cases op<;>simp only [Ztg,Option.some.injEq,reduceCtorEq] at h<;>first
    | (subst h;exact ⟨_,by simp [binOp,Op.stringOp,Zhy];rfl,fun c=>by simp [VR]⟩)
    | skip
  obtain ⟨h1,h2⟩:=Za9 h
  cases h2
  refine ⟨.string (⟨x.toArray⟩++⟨y.toArray⟩),?_,fun c=>?_⟩
  · have:¬ ((((⟨x.toArray⟩:ByteArray).size+(⟨y.toArray⟩:ByteArray).size:Nat):Int) > IntKind.i64.max):=by
      simp only [ByteArray.size,Yfs,IntKind.max_i64];omega
    simp only [binOp,Op.stringOp]
    rw [if_neg this]
    rfl
  · simp only [VR]
    congr 1
theorem Zto (h:Rel E w0 O0 σ0 L0 σ L w) {op:BinOp} {t t':TypeId} {x y:Operand} {vx vy:AV} (ho:o.op=.binOp op t x y t') (hx:VR (ctx σ L w) vx (a.eval x)) (hy:VR (ctx σ L w) vy (a.eval y))
    {r:AV × Ups} (hr:(optV (I4 op vx vy)).run σ=some r):L3 E w0 O0 σ0 L0 P σ L w o a r.1 r.2:=by
  obtain ⟨v,h1,rfl⟩:=Zbe hr
  cases vx<;>simp only [I4,reduceCtorEq] at h1
  case int k n =>
    cases vy<;>simp only [reduceCtorEq] at h1
    rename_i k' m
    simp only [VR] at hx hy
    have key:∃ u,(binOp op t (.int k n) (.int k' m)).run P w=.ok u w∧∀ c,VR c v u:=by
      by_cases hop:op=.shl∨op=.shr
      · refine Zm6 t op k k' n m v hop ?_
        rcases hop with rfl|rfl<;>exact h1
      · have hop':op≠.shl∧op≠.shr:=⟨fun e=>hop (.inl e),fun e=>hop (.inr e)⟩
        have h2:(if k=k' then U1 op k n m else none)=some v:=by
          cases op<;>first|exact h1|exact absurd rfl hop'.1|exact absurd rfl hop'.2
        obtain ⟨rfl,h3⟩:=Za9 h2
        exact Ztm t op k n m v hop' h3
    obtain ⟨u,h3,h4⟩:=key
    refine B3 h (y:=u) ?_ (h4 _)
    simp [execOp,ho,hx,hy,eqGuard_at_int,h3]
  case str s =>
    cases vy<;>simp only [reduceCtorEq] at h1
    rename_i s'
    simp only [VR] at hx hy
    obtain ⟨u,h3,h4⟩:=Ztn (P:=P) (w:=w) t op s s' v h1
    refine B3 h (y:=u) ?_ (h4 _)
    simp [execOp,ho,hx,hy,eqGuard_at_string,h3]
theorem ok_eqb (h:Rel E w0 O0 σ0 L0 σ L w) {op:BinOp} {neg:Bool} (hop:(op=.eql∧neg=false)∨(op=.neq∧neg=true)) {t t':TypeId} (ht:P.underlying t=some .bool) {x y:Operand} {vx vy:AV}
    (ho:o.op=.binOp op t x y t') (hx:VR (ctx σ L w) vx (a.eval x)) (hy:VR (ctx σ L w) vy (a.eval y))
    {r:AV × Ups} (hr:(optV (Zpy neg vx vy)).run σ=some r):L3 E w0 O0 σ0 L0 P σ L w o a r.1 r.2:=by
  obtain ⟨v,h1,rfl⟩:=Zbe hr
  cases vx<;>simp only [Zpy,reduceCtorEq] at h1
  cases vy<;>simp only [Option.some.injEq,reduceCtorEq] at h1
  subst h1
  rename_i b b'
  simp only [VR] at hx hy
  refine B3 h (y:=.bool (bif neg then !(b==b') else b==b')) ?_ (by simp [VR])
  have he:(Op.equal t (.bool b) (.bool b')).run P w=.ok (b==b') w:=run_equalIn_bool' (P:=P) w 9999 t b b' ht
  rcases hop with ⟨rfl,rfl⟩|⟨rfl,rfl⟩
  · have h2:binOp .eql t (.bool b) (.bool b')=(do pure (.bool (←Op.equal t (.bool b) (.bool b')))):=rfl
    simp [execOp,ho,hx,hy,eqGuard_at_bool,h2,he]
  · have h2:binOp .neq t (.bool b) (.bool b')=(do pure (.bool (!(←Op.equal t (.bool b) (.bool b'))))):=rfl
    simp [execOp,ho,hx,hy,eqGuard_at_bool,h2,he]
theorem ok_un (h:Rel E w0 O0 σ0 L0 σ L w) {op:UnOp} {t:TypeId} {x:Operand} {vx:AV} (ho:o.op=.unOp op t x) (hx:VR (ctx σ L w) vx (a.eval x))
    {r:AV × Ups} (hr:(optV (Zmx op vx)).run σ=some r):L3 E w0 O0 σ0 L0 P σ L w o a r.1 r.2:=by
  obtain ⟨v,h1,rfl⟩:=Zbe hr
  cases op<;>cases vx<;>simp only [Zmx,Option.some.injEq,reduceCtorEq] at h1<;>subst h1<;>simp only [VR] at hx <;>
    refine B3 h (y:=?_) ?_ (by simp only [VR];rfl)<;>simp [execOp,ho,hx,Op.unary,Op.intArith,Op.intBits]
theorem ok_cvi (h:Rel E w0 O0 σ0 L0 σ L w) {s t:TypeId} {x:Operand} {vx:AV} {k:IntKind} {dsc:TypeDesc} (hs:P.underlying s=some dsc) (ht:P.underlying t=some (.int k)) (ho:o.op=.convert s t x)
    (hx:VR (ctx σ L w) vx (a.eval x)) {r:AV × Ups} (hr:(Zmz k vx).run σ=some r):L3 E w0 O0 σ0 L0 P σ L w o a r.1 r.2:=by
  cases vx<;>simp only [Zmz,one,Acc.run,Option.some.injEq,reduceCtorEq] at hr
  rename_i k' n
  subst hr
  simp only [VR] at hx
  exact B3 h (y:=.int k (k.wrap n)) (by simp [execOp,ho,hx,convert,run_underlying hs,run_underlying ht,Conv.intToInt]) (by simp [VR])
theorem ok_s2s (h:Rel E w0 O0 σ0 L0 σ L w) {s t:TypeId} {x:Operand} {vx:AV} (hs:P.underlying s=some .string) (ht:P.underlying t=some .string) (ho:o.op=.convert s t x)
    (hx:VR (ctx σ L w) vx (a.eval x)) {r:AV × Ups} (hr:(s2sV vx).run σ=some r):L3 E w0 O0 σ0 L0 P σ L w o a r.1 r.2:=by
  cases vx<;>simp only [s2sV,one,Acc.run,Option.some.injEq,reduceCtorEq] at hr
  subst hr
  have hx':=hx
  simp only [VR] at hx
  exact B3 h (y:=a.eval x) (by simp [execOp,ho,hx,convert,run_underlying hs,run_underlying ht]) hx'
theorem Zzb:∀ {x:AV},M1 x=true→R1 x=true:=by intro x h;cases x<;>simp_all [M1,R1]
theorem Yba (h:Rel E w0 O0 σ0 L0 σ L w) {t:TypeId} {dsc:TypeDesc} (ht:P.underlying t=some dsc) (hd:∀ ms,dsc≠.interface ms) {x:Operand} {vx:AV} (ho:o.op=.makeInterface t x)
    (hx:VR (ctx σ L w) vx (a.eval x)) {r:AV × Ups} (hr:(Zln t vx).run σ=some r):L3 E w0 O0 σ0 L0 P σ L w o a r.1 r.2:=by
  have key:r=(.ifc t vx,[]):=by
    cases vx<;>simp only [Zln] at hr<;>obtain ⟨_,h2⟩:=G2 hr<;>exact A6 h2
  subst key
  refine B3 h (y:=.iface t (a.eval x)) ?_ (by simp only [VR];exact ⟨_,rfl,hx⟩)
  cases dsc<;>first|exact absurd rfl (hd _)|simp [execOp,ho,Instr.makeInterface,run_underlying ht]
theorem Ybb (h:Rel E w0 O0 σ0 L0 σ L w) {f:FuncId} {first cap:Array Operand} (hfi:first = #[]) {vs:List AV} (ho:o.op=.makeFunc (.func f) first cap) (hx:VRL (ctx σ L w) vs (cap.toList.map a.eval))
    {r:AV × Ups} (hr:(one (.clo f vs)).run σ=some r):L3 E w0 O0 σ0 L0 P σ L w o a r.1 r.2:=by
  have key:=A6 hr
  subst key
  subst hfi
  refine B3 h (y:=.func (.func f) #[] (cap.map a.eval)) (by simp [execOp,ho,Instr.makeFunc]) ?_
  simp only [VR]
  exact ⟨_,rfl,by simpa using hx⟩
theorem ok_ext (h:Rel E w0 O0 σ0 L0 σ L w) {x:Operand} {i:Nat} {vx:AV} (ho:o.op=.extract x i) (hx:VR (ctx σ L w) vx (a.eval x))
    {r:AV × Ups} (hr:(extV i vx).run σ=some r):L3 E w0 O0 σ0 L0 P σ L w o a r.1 r.2:=by
  cases vx<;>simp only [extV] at hr<;>try exact A7 hr
  obtain ⟨v,h1,rfl⟩:=Zbe hr
  simp only [VR] at hx
  obtain ⟨vs,h2,h3⟩:=hx
  obtain ⟨u,h4,h5⟩:=Zam h3 h1
  refine B3 h (y:=u) ?_ h5
  have h4':vs[i]? = some u:=by simpa using h4
  simp [execOp,ho,Instr.extract,h2,h4']
theorem Z38 {cs:List AV} {off n:Nat} {r:AV × Ups} (h:(aggV cs off n).run σ=some r):off+n≤cs.length∧r=(.agg (sub cs off n),[]):=by
  obtain ⟨h1,h2⟩:=G2 h
  exact ⟨h1,A6 h2⟩
theorem Zdj {t:TypeId} {n:Option Nat} (hn:Zep P t=some n) {c:Ctx} {cs:List AV} {vs:Array Value} (h:VRL c cs vs.toList) {off:Nat} {v:AV} (hv:Ziq cs off n v) :
    ∃ y,(part t vs off).run P w=.ok y w∧VR c v y:=by
  obtain ⟨h1,h2⟩:=Zfo hn w
  cases n with
  | none =>
    obtain ⟨u,h3,h4⟩:=Zam h hv
    refine ⟨u,?_,h4⟩
    have h3':vs[off]? = some u:=by simpa using h3
    simp [part,h1,h3']
  | some n =>
    obtain ⟨hb,rfl⟩:=hv
    refine ⟨.agg (vs.extract off (off+n)),by simp [part,h1,h2 n rfl],?_⟩
    simp only [VR]
    refine ⟨_,rfl,?_⟩
    have:(vs.extract off (off+n)).toList=sub vs.toList off n:=by
      simp [sub,Array.toList_extract,Yft]
    rw [this]
    exact Ya8 h off n
theorem ok_fld (h:Rel E w0 O0 σ0 L0 σ L w) {s:TypeId} {x:Operand} {i:Nat} {fs:Array Field} {f:Field} (hs:P.underlying s=some (.struct fs)) (hf:fs[i]? = some f) {n:Option Nat} (hn:Zep P f.type=some n)
    {vx:AV} (ho:o.op=.field s x i) (hx:VR (ctx σ L w) vx (a.eval x)) {r:AV × Ups} (hr:(Zp3 f.offset n vx).run σ=some r):L3 E w0 O0 σ0 L0 P σ L w o a r.1 r.2:=by
  cases vx<;>try (cases n<;>simp only [Zp3] at hr<;>exact A7 hr)
  rename_i cs
  simp only [VR] at hx
  obtain ⟨vs,h2,h3⟩:=hx
  have:∃ v,r=(v,[])∧Ziq cs f.offset n v:=by
    cases n with
    | none=>simp only [Zp3] at hr;obtain ⟨v,h1,h4⟩:=Zbe hr;exact ⟨v,h4,h1⟩
    | some n=>simp only [Zp3] at hr;obtain ⟨h1,h4⟩:=Z38 hr;exact ⟨_,h4,h1,rfl⟩
  obtain ⟨v,rfl,hv⟩:=this
  obtain ⟨y,h4,h5⟩:=Zdj (P:=P) (w:=w) hn h3 hv
  exact B3 h (y:=y) (by simp [execOp,ho,Instr.field,run_underlying hs,hf,asAgg,h2,h4]) h5
theorem ok_fa (h:Rel E w0 O0 σ0 L0 σ L w) {s:TypeId} {x:Operand} {i:Nat} {fs:Array Field} {f:Field} (hs:P.underlying s=some (.struct fs)) (hf:fs[i]? = some f) {n:Nat} (hn:L1 P f.type=some n) (hn0:n≠0)
    {vx:AV} (ho:o.op=.fieldAddr s x i) (hx:VR (ctx σ L w) vx (a.eval x)) {r:AV × Ups} (hr:(faV f.offset vx).run σ=some r):L3 E w0 O0 σ0 L0 P σ L w o a r.1 r.2:=by
  have key:∀ b off,a.eval x=.pointer (some ⟨b,off,none⟩)→(execOp a.eval o).run P w=.ok (.value (.pointer (some ⟨b,off+f.offset,none⟩))) w:=by
    intro b off hb
    simp [execOp,ho,Instr.fieldAt,run_underlying hs,hf,Instr.sureAddr,hb,fieldPlace,T2 hn,hn0,P5]
  cases vx<;>simp only [faV] at hr<;>try exact A7 hr
  case fp cs off =>
    have k:=A6 hr
    subst k
    simp only [VR] at hx
    obtain ⟨hfl,b,o',h1,h2⟩:=hx
    refine B3 h (key b _ h1) ?_
    simp only [VR]
    exact ⟨hfl,b,o',by rw [Yfu],h2⟩
  case ref s' g off =>
    obtain ⟨rfl,e,he,ha,hg⟩:=W0 hr
    obtain ⟨b,o',h1,h2,hfr,_⟩:=Zdg h.store hx he ha hg
    refine B3 h (key b _ h2) ?_
    simp only [VR]
    exact ⟨rfl,e.g,true,by rw [J0 he,ha],by omega,fun _ _=>⟨b,o',h1,by rw [Yfu],hfr.room⟩⟩
theorem Za4 {t ty e:TypeId} (he:P.underlying t=some (.slice e)) (base:Option Addr) (n c:Nat):(Builtin.len_ #[t] ty #[.slice base n c]).run P w=.ok (.int .i64 n) w:=by
  have h1:P.elem t=e:=by simp [Program.elem,he]
  exact run_len_slice w t ty base n c (by rw [h1];exact he)
theorem Ztp (h:Rel E w0 O0 σ0 L0 σ L w) {arr:Option Nat} {x:Operand} {t t':TypeId} {c:Call} (hc:c.callee=.builtin .len) (hca:c.args = #[x]) (hct:c.argTypes = #[t])
    (hu:match arr with
      | some n=>P.underlying t=some (.array n t')∨(∃ p,P.underlying t=some (.pointer p)∧P.underlying p=some (.array n t'))
      | none=>∃ e,P.underlying t=some (.slice e))
    {vx:AV} (ho:o.op=.call c) (hx:VR (ctx σ L w) vx (a.eval x)) {r:AV × Ups} (hr:(Zil arr vx).run σ=some r) :
    L3 E w0 O0 σ0 L0 P σ L w o a r.1 r.2:=by
  have hcall:∀ y,(Builtin.len_ #[t] o.type #[a.eval x]).run P w=.ok y w→(execOp a.eval o).run P w=.ok (.value y) w:=by
    intro y hy
    simp [execOp,ho,resolve,hc,hca,hct,invoke,builtin,hy]
  cases arr with
  | some n =>
    have k:r=(.int .i64 n,[]):=by cases vx<;>exact A6 hr
    subst k
    refine B3 h (hcall (.int .i64 n) ?_) (by simp [VR])
    rcases hu with hu|⟨p,hu,hp⟩
    · simp [Builtin.len_,run_underlying hu,goInt]
    · simp [Builtin.len_,run_underlying hu,run_underlying hp,goInt]
  | none =>
    cases vx<;>simp only [Zil] at hr<;>try exact A7 hr
    case nils =>
      have k:=A6 hr
      subst k
      obtain ⟨e,he⟩:=hu
      simp only [VR] at hx
      refine B3 h (hcall (.int .i64 0) ?_) (by simp [VR])
      rw [hx];exact Za4 he _ _ _
    case lst cs n =>
      have k:=A6 hr
      subst k
      obtain ⟨e,he⟩:=hu
      simp only [VR] at hx
      refine B3 h (hcall (.int .i64 n) ?_) (by simp [VR])
      rcases hx.2 with ⟨_,h2,h3⟩|⟨b,o',cap,h3,_⟩
      · subst h2;rw [h3];exact Za4 he _ _ _
      · rw [h3];exact Za4 he _ _ _
    case buf s g off n z =>
      obtain ⟨rfl,e,hge,hal,hgg⟩:=W0 hr
      obtain ⟨e',he⟩:=hu
      have hb:=Zbq hx hge hal hgg
      refine B3 h (hcall (.int .i64 n) ?_) (by simp [VR])
      unfold L5 at hb
      split at hb
      · rcases hb with ⟨h4,_,q,h3⟩|⟨cap,h3,_⟩
        · subst h4;rw [h3];exact Za4 he _ _ _
        · rw [h3];exact Za4 he _ _ _
      · obtain ⟨h3,_,h4⟩:=hb
        subst h4
        rw [h3];exact Za4 he _ _ _
theorem Ybc (h:Rel E w0 O0 σ0 L0 σ L w) {x:Operand} {t:TypeId} {c:Call} (hc:c.callee=.builtin .len) (hca:c.args = #[x]) (hct:c.argTypes = #[t]) (hu:P.underlying t=some .string)
    {vx:AV} (ho:o.op=.call c) (hx:VR (ctx σ L w) vx (a.eval x)) {r:AV × Ups} (hr:(Zp5 vx).run σ=some r):L3 E w0 O0 σ0 L0 P σ L w o a r.1 r.2:=by
  cases vx<;>simp only [Zp5] at hr<;>try exact A7 hr
  rename_i l
  have k:=A6 hr
  subst k
  simp only [VR] at hx
  refine B3 h (y:=.int .i64 l.length) ?_ (by simp [VR])
  have:=run_len_string (P:=P) w t o.type ⟨l.toArray⟩ hu
  simp only [goInt,ByteArray.size] at this
  simp [execOp,ho,resolve,hc,hca,hct,invoke,builtin,hx,this]
theorem ok_min (h:Rel E w0 O0 σ0 L0 σ L w) {x y:Operand} {c:Call} (hc:c.callee=.builtin .min) (hca:c.args = #[x,y]) {vx vy:AV} (ho:o.op=.call c) (hx:VR (ctx σ L w) vx (a.eval x)) (hy:VR (ctx σ L w) vy (a.eval y))
    {r:AV × Ups} (hr:(minV vx vy).run σ=some r):L3 E w0 O0 σ0 L0 P σ L w o a r.1 r.2:=by
  cases vx<;>simp only [minV] at hr<;>try exact A7 hr
  cases vy<;>simp only at hr<;>try exact A7 hr
  obtain ⟨rfl,h2⟩:=G2 hr
  have k:=A6 h2
  subst k
  simp only [VR] at hx hy
  refine B3 h (y:=.int _ _) ?_ (by simp only [VR];rfl)
  simp [execOp,ho,resolve,hc,hca,invoke,builtin,Builtin.min_,Builtin.min2,hx,hy]
theorem ok_max (h:Rel E w0 O0 σ0 L0 σ L w) {x y:Operand} {c:Call} (hc:c.callee=.builtin .max) (hca:c.args = #[x,y]) {vx vy:AV} (ho:o.op=.call c) (hx:VR (ctx σ L w) vx (a.eval x)) (hy:VR (ctx σ L w) vy (a.eval y))
    {r:AV × Ups} (hr:(maxV vx vy).run σ=some r):L3 E w0 O0 σ0 L0 P σ L w o a r.1 r.2:=by
  cases vx<;>simp only [maxV] at hr<;>try exact A7 hr
  cases vy<;>simp only at hr<;>try exact A7 hr
  obtain ⟨rfl,h2⟩:=G2 hr
  have k:=A6 h2
  subst k
  simp only [VR] at hx hy
  refine B3 h (y:=.int _ _) ?_ (by simp only [VR];rfl)
  simp [execOp,ho,resolve,hc,hca,invoke,builtin,Builtin.max_,Builtin.max2,hx,hy]
end Cod
namespace Cod
open Go
variable {E:Env} {w0:World} {O0:Nat→Prop} {σ0:A2} {L0:Lay} {P:Program} {σ:A2} {L:Lay} {w:World} {o:Oper} {a:Act}
theorem ok_ia (h:Rel E w0 O0 σ0 L0 σ L w) {arr:Option Nat} {t e:TypeId} {x i:Operand} {sz:Nat} (hs:L1 P e=some sz)
    (hu:match arr with|some n=>P.underlying t=some (.array n e)|none=>P.underlying t=some (.slice e))
    {vx vi:AV} (ho:o.op=.indexAddr t x i) (hx:VR (ctx σ L w) vx (a.eval x)) (hi:VR (ctx σ L w) vi (a.eval i)) {r:AV × Ups} (hr:(iaV sz arr vx vi).run σ=some r) :
    L3 E w0 O0 σ0 L0 P σ L w o a r.1 r.2:=by
  have key1:∀ (n:Nat) b off k (j:Int),P.underlying t=some (.array n e)→a.eval x=.pointer (some ⟨b,off,none⟩)→a.eval i=.int k j→0≤j→j<n →
      (execOp a.eval o).run P w=.ok (.value (.pointer (some ⟨b,off+j.toNat*sz,none⟩))) w:=by
    intro n b off k j hu hb hj h0 h1
    have e1:P.arrayLen t=n:=by simp [Program.arrayLen,hu]
    have e2:P.elem t=e:=by simp [Program.elem,hu]
    have:=run_indexAt_array (P:=P) w t ⟨b,off,none⟩ k j (by rw [e1,e2];exact hu)
    rw [if_pos ⟨h0,by rw [e1];exact h1⟩,e2,T2 hs] at this
    simp [execOp,ho,hb,hj,this,P5]
  have key2:∀ (n cap:Nat) b off k (j:Int),P.underlying t=some (.slice e)→a.eval x=.slice (some ⟨b,off,none⟩) n cap→a.eval i=.int k j→0≤j→j<n →
      (execOp a.eval o).run P w=.ok (.value (.pointer (some ⟨b,off+j.toNat*sz,none⟩))) w:=by
    intro n cap b off k j hu hb hj h0 h1
    have e2:P.elem t=e:=by simp [Program.elem,hu]
    have:=run_indexAt_slice (P:=P) w t ⟨b,off,none⟩ n cap k j (by rw [e2];exact hu)
    rw [if_pos ⟨h0,h1⟩,e2,T2 hs] at this
    simp [execOp,ho,hb,hj,this,P5]
  cases vi<;>try (cases arr<;>cases vx<;>simp only [iaV] at hr<;>exact A7 hr)
  rename_i k j
  simp only [VR] at hi
  cases arr with
  | some n =>
    cases vx<;>simp only [iaV] at hr<;>try exact A7 hr
    case fp cs off =>
      obtain ⟨⟨h0,h1⟩,h2⟩:=G2 hr
      have k:=A6 h2
      subst k
      simp only [VR] at hx
      obtain ⟨hfl,b,o',h3,h4⟩:=hx
      refine B3 h (key1 n b _ _ j hu h3 hi h0 h1) ?_
      simp only [VR]
      exact ⟨hfl,b,o',by rw [Yfu],h4⟩
    case ref s g off =>
      obtain ⟨⟨h0,h1⟩,h2⟩:=G2 hr
      obtain ⟨rfl,e',he,ha,hg⟩:=W0 h2
      obtain ⟨b,o',h3,h4,hfr,_⟩:=Zdg h.store hx he ha hg
      refine B3 h (key1 n b _ _ j hu h4 hi h0 h1) ?_
      simp only [VR]
      exact ⟨rfl,e'.g,true,by rw [J0 he,ha],by omega,fun _ _=>⟨b,o',h3,by rw [Yfu],hfr.room⟩⟩
  | none =>
    cases vx<;>simp only [iaV] at hr<;>try exact A7 hr
    case lst cs n =>
      obtain ⟨⟨h0,h1⟩,h2⟩:=G2 hr
      have k:=A6 h2
      subst k
      simp only [VR] at hx
      rcases hx.2 with ⟨_,h3,_⟩|⟨b,o',cap,h3,hcap,h4,h5,h6⟩
      · omega
      · refine B3 h (key2 n cap b _ _ j hu h3 hi h0 h1) ?_
        simp only [VR]
        exact ⟨hx.1,b,o',rfl,h4,h5,h6⟩
    case buf s g off n z =>
      obtain ⟨⟨h0,h1,rfl⟩,h2⟩:=G2 hr
      obtain ⟨rfl,e',he,ha,hg⟩:=W0 h2
      have hb:=Zbq hx he ha hg
      unfold L5 at hb
      split at hb
      · rename_i b o' hl
        rcases hb with ⟨h4,_⟩|⟨cap,h3,_,hro⟩
        · omega
        refine B3 h (key2 n cap b _ _ j hu h3 hi h0 h1) ?_
        simp only [VR]
        exact ⟨rfl,e'.g,true,by rw [J0 he,ha],by omega,fun _ _=>⟨b,o',hl,by rw [Yfu],hro.zero⟩⟩
      · omega
theorem Z39 (l:List UInt8) (i:Nat):(⟨l.toArray⟩:ByteArray)[i]? = l[i]? := by
  simp only [getElem?_def,ByteArray.size,Yfs]
  split
  · rfl
  · rfl
theorem Zzc (h:Rel E w0 O0 σ0 L0 σ L w) {t:TypeId} {x i:Operand} (hu:P.underlying t=some .string) {sz:Nat} {g:Bool}
    {vx vi:AV} (ho:o.op=.index t x i) (hx:VR (ctx σ L w) vx (a.eval x)) (hi:VR (ctx σ L w) vi (a.eval i)) {r:AV × Ups} (hr:(ixV sz g none vx vi).run σ=some r) :
    L3 E w0 O0 σ0 L0 P σ L w o a r.1 r.2:=by
  cases vi<;>try (cases vx<;>simp only [ixV] at hr<;>exact A7 hr)
  rename_i k j
  cases vx<;>simp only [ixV] at hr<;>try exact A7 hr
  rename_i l
  obtain ⟨h0,h1⟩:=G2 hr
  cases hb:l[j.toNat]? with
  | none=>rw [hb] at h1;exact A7 h1
  | some u =>
    rw [hb] at h1
    have k:=A6 h1
    subst k
    simp only [VR] at hx hi
    refine B3 h (y:=.int .u8 u.toNat) ?_ (by simp [VR])
    simp [execOp,ho,Instr.index,hi,hx,asIntOf,run_underlying hu,h0,Z39,hb]
theorem Zzd (h:Rel E w0 O0 σ0 L0 σ L w) {t e:TypeId} {x i:Operand} {n sz:Nat} {g:Option Nat} (hu:P.underlying t=some (.array n e)) (hs:L1 P e=some sz) (hg:Zep P e=some g)
    {vx vi:AV} (ho:o.op=.index t x i) (hx:VR (ctx σ L w) vx (a.eval x)) (hi:VR (ctx σ L w) vi (a.eval i)) {r:AV × Ups} (hr:(ixV sz g.isSome (some n) vx vi).run σ=some r) :
    L3 E w0 O0 σ0 L0 P σ L w o a r.1 r.2:=by
  cases vi<;>try (cases vx<;>simp only [ixV] at hr<;>exact A7 hr)
  rename_i k j
  cases vx<;>simp only [ixV] at hr<;>try exact A7 hr
  rename_i cs
  obtain ⟨⟨h0,h1,h2⟩,h3⟩:=G2 hr
  simp only [VR] at hx hi
  obtain ⟨vs,h4,h5⟩:=hx
  have hsz:∀ m,g=some m→m=sz:=by
    intro m hm
    have a1:=(Zfo hg w).2 m hm
    have a2:=T2 hs w
    rw [a1] at a2
    cases a2
    rfl
  have:∃ v,r=(v,[])∧Ziq cs (j.toNat*sz) g v:=by
    cases g with
    | none =>
      simp only [Option.isSome_none,cond_false] at h3
      obtain ⟨v,h6,h7⟩:=Zbe h3
      exact ⟨v,h7,h6⟩
    | some m =>
      simp only [Option.isSome_some,cond_true] at h3
      have:=hsz m rfl
      subst this
      exact ⟨_,A6 h3,h2,rfl⟩
  obtain ⟨v,rfl,hv⟩:=this
  obtain ⟨y,h6,h7⟩:=Zdj (P:=P) (w:=w) hg h5 hv
  refine B3 h (y:=y) ?_ h7
  have h0':0≤j∧j<(n:Int):=⟨h0,h1⟩
  simp [execOp,ho,Instr.index,hi,h4,asIntOf,run_underlying hu,h0',T2 hs,h6]
theorem ok_s2a (h:Rel E w0 O0 σ0 L0 σ L w) {arr e:TypeId} {x:Operand} {n sz:Nat} (hu:P.underlying arr=some (.array n e))
    {vx:AV} (ho:o.op=.sliceToArrayPointer arr x) (hx:VR (ctx σ L w) vx (a.eval x)) {r:AV × Ups} (hr:(s2aV n sz vx).run σ=some r) :
    L3 E w0 O0 σ0 L0 P σ L w o a r.1 r.2:=by
  have key:∀ (m cap:Nat) b off,a.eval x=.slice (some ⟨b,off,none⟩) m cap→n≤m→(execOp a.eval o).run P w=.ok (.value (.pointer (some ⟨b,off,none⟩))) w:=by
    intro m cap b off hb hm
    simp [execOp,ho,Instr.arrayAt,hb,run_underlying hu,Nat.not_lt.2 hm]
  cases vx<;>simp only [s2aV] at hr<;>try exact A7 hr
  case lst cs m =>
    obtain ⟨⟨h0,h1,h2⟩,h3⟩:=G2 hr
    have k:=A6 h3
    subst k
    simp only [VR] at hx
    rcases hx.2 with ⟨_,h4,_⟩|⟨b,o',cap,h4,hcap,h5⟩
    · omega
    · refine B3 h (key m cap b o' h4 h0) ?_
      simp only [VR]
      exact ⟨hx.1,b,o',rfl,h5⟩
  case buf s g off m z =>
    obtain ⟨⟨h0,rfl,h2⟩,h3⟩:=G2 hr
    obtain ⟨rfl,e',he,ha,hg⟩:=W0 h3
    have hb:=Zbq hx he ha hg
    unfold L5 at hb
    split at hb
    · rename_i b o' hl
      rcases hb with ⟨h4,_⟩|⟨cap,h4,_,hro⟩
      · omega
      refine B3 h (key m cap b _ h4 h0) ?_
      simp only [VR]
      exact ⟨rfl,e'.g,true,by rw [J0 he,ha],by omega,fun _ _=>⟨b,o',hl,rfl,hro.zero⟩⟩
    · omega
theorem Zc4 (h:StoreOK σ L w) {kd:Nat} {x:AV} {y:Value} (hv:VR (ctx σ L w) x y) {b:Bool} (hr:(Zem kd x).run σ=some b) :
    (kd=0∧∃ p,y=.pointer p∧p.isNone=b)∨(kd=1∧∃ p n c,y=.slice p n c∧p.isNone=b)∨(kd=2∧b=true∧y=.map none)∨(kd=3∧((b=true∧y=.nilFunc)∨(b=false∧∃ f vs,y=.func f #[] vs))) ∨
    (kd=4∧((b=true∧y=.nilIface)∨(b=false∧∃ t v,y=.iface t v))):=by
  unfold Zem at hr
  split at hr
  · have k:=A6 hr;subst k;simp only [VR] at hv;exact .inl ⟨rfl,none,hv,rfl⟩
  · have k:=A6 hr;subst k;simp only [VR] at hv;obtain ⟨_,b',o',h1,_⟩:=hv;exact .inl ⟨rfl,_,h1,rfl⟩
  · obtain ⟨e,he,ha,hg,h2⟩:=J8 hr
    have k:=A6 h2;subst k
    obtain ⟨b',o',_,h3,_⟩:=Zdg h hv he ha hg
    exact .inl ⟨rfl,_,h3,rfl⟩
  · have k:=A6 hr;subst k;simp only [VR] at hv;exact .inr (.inl ⟨rfl,none,0,0,hv,rfl⟩)
  · have k:=A6 hr;subst k;simp only [VR] at hv
    rcases hv.2 with ⟨_,h1,_⟩|⟨b',o',cap,h1,_⟩
    · omega
    · exact .inr (.inl ⟨rfl,_,_,_,h1,rfl⟩)
  · obtain ⟨e,he,ha,hg,h2⟩:=J8 hr
    have k:=A6 h2;subst k
    have hb:=Zbq hv he ha hg
    unfold L5 at hb
    split at hb
    · rcases hb with ⟨h4,_⟩|⟨cap,h4,_⟩
      · omega
      · exact .inr (.inl ⟨rfl,_,_,_,h4,rfl⟩)
    · omega
  · have k:=A6 hr;subst k;simp only [VR] at hv;exact .inr (.inr (.inl ⟨rfl,rfl,hv⟩))
  · have k:=A6 hr;subst k;simp only [VR] at hv;exact .inr (.inr (.inr (.inl ⟨rfl,.inl ⟨rfl,hv⟩⟩)))
  · have k:=A6 hr;subst k;simp only [VR] at hv;obtain ⟨vs,h1,_⟩:=hv;exact .inr (.inr (.inr (.inl ⟨rfl,.inr ⟨rfl,_,_,h1⟩⟩)))
  · have k:=A6 hr;subst k;simp only [VR] at hv;exact .inr (.inr (.inr (.inr ⟨rfl,.inl ⟨rfl,hv⟩⟩)))
  · have k:=A6 hr;subst k;simp only [VR] at hv;obtain ⟨v,h1,_⟩:=hv;exact .inr (.inr (.inr (.inr ⟨rfl,.inr ⟨rfl,_,_,h1⟩⟩)))
  · exact A7 hr
def Z4a:Nat→TypeDesc→Prop
  | 0,d=>∃ e,d=.pointer e
  | 1,d=>∃ e,d=.slice e
  | 2,d=>∃ k e,d=.map k e
  | 3,d=>∃ p r v,d=.func p r v
  | 4,d=>∃ ms,d=.interface ms
  | _,_=>False
theorem D7 {α β:Type} {x:Acc α} {f : α→Acc β} {y : β} (h:(x.bind f).run σ=some y):∃ a,x.run σ=some a∧(f a).run σ=some y:=by
  rw [Acc.run_bind] at h
  cases hx:x.run σ with
  | none=>rw [hx] at h;cases h
  | some a=>rw [hx] at h;exact ⟨a,rfl,h⟩
theorem Zm7 {kd:Nat} {t:TypeId} {d:TypeDesc} (hu:P.underlying t=some d) (hk:Z4a kd d) {x y:Value} {b b':Bool} (hb:(b||b')=true) (h:StoreOK σ L w) {vx vy:AV}
    (hx:VR (ctx σ L w) vx x) (hy:VR (ctx σ L w) vy y) (h1:(Zem kd vx).run σ=some b) (h2:(Zem kd vy).run σ=some b') :
    (∀ d,(Op.equalIn (d+1) t x y).run P w=.ok (b&&b') w)∧∀ op (o1 o2:Operand),(kd=4→(∃ c,o1=.const c)∨(∃ c,o2=.const c))→(eqGuard op t o1 o2 x y).run P w=.ok () w:=by
  rcases Zc4 h hx h1 with ⟨rfl,p,rfl,rfl⟩|⟨rfl,p,n,c,rfl,rfl⟩|⟨rfl,rfl,rfl⟩|⟨rfl,hh⟩|⟨rfl,hh⟩
  · rcases Zc4 h hy h2 with ⟨_,p',rfl,rfl⟩|⟨h3,_⟩|⟨h3,_⟩|⟨h3,_⟩|⟨h3,_⟩<;>try omega
    obtain ⟨e,rfl⟩:=hk
    refine ⟨fun d=>?_,fun op o1 o2 _=>by simp [eqGuard_at_pointer]⟩
    cases p<;>cases p'<;>simp at hb<;>simp [Op.equalIn,run_underlying hu]
  · rcases Zc4 h hy h2 with ⟨h3,_⟩|⟨_,p',n',c',rfl,rfl⟩|⟨h3,_⟩|⟨h3,_⟩|⟨h3,_⟩<;>try omega
    obtain ⟨e,rfl⟩:=hk
    refine ⟨fun d=>?_,fun op o1 o2 _=>by simp [eqGuard_at_slice]⟩
    cases p<;>cases p'<;>simp at hb<;>simp [Op.equalIn,run_underlying hu]
  · rcases Zc4 h hy h2 with ⟨h3,_⟩|⟨h3,_⟩|⟨_,rfl,rfl⟩|⟨h3,_⟩|⟨h3,_⟩<;>try omega
    obtain ⟨k,e,rfl⟩:=hk
    refine ⟨fun d=>?_,fun op o1 o2 _=>by simp [eqGuard_at_map]⟩
    simp [Op.equalIn,run_underlying hu]
  · rcases Zc4 h hy h2 with ⟨h3,_⟩|⟨h3,_⟩|⟨h3,_⟩|⟨_,hh'⟩|⟨h3,_⟩<;>try omega
    obtain ⟨p,r,v,rfl⟩:=hk
    rcases hh with ⟨rfl,rfl⟩|⟨rfl,f,vs,rfl⟩<;>rcases hh' with ⟨rfl,rfl⟩|⟨rfl,f',vs',rfl⟩
    · exact ⟨fun d=>by simp [Op.equalIn,run_underlying hu],fun op o1 o2 _=>by simp [eqGuard_at_nilFunc]⟩
    · exact ⟨fun d=>by simp [Op.equalIn,run_underlying hu],fun op o1 o2 _=>by simp [eqGuard_at_nilFunc]⟩
    · exact ⟨fun d=>by simp [Op.equalIn,run_underlying hu],fun op o1 o2 _=>by simp [eqGuard_at_func]⟩
    · simp at hb
  · rcases Zc4 h hy h2 with ⟨h3,_⟩|⟨h3,_⟩|⟨h3,_⟩|⟨h3,_⟩|⟨_,hh'⟩<;>try omega
    obtain ⟨ms,rfl⟩:=hk
    rcases hh with ⟨rfl,rfl⟩|⟨rfl,t1,v1,rfl⟩<;>rcases hh' with ⟨rfl,rfl⟩|⟨rfl,t2,v2,rfl⟩
    · refine ⟨fun d=>by simp [Op.equalIn,run_underlying hu],fun op o1 o2 hc=>?_⟩
      rcases hc rfl with ⟨c,rfl⟩|⟨c,rfl⟩
      · simp [eqGuard_nil_constL]
      · simp [eqGuard_nil_constR]
    · exact ⟨fun d=>by simp [Op.equalIn,run_underlying hu],fun op o1 o2 _=>by simp [eqGuard_nil_iface]⟩
    · exact ⟨fun d=>by simp [Op.equalIn,run_underlying hu],fun op o1 o2 _=>by simp [eqGuard_at_iface]⟩
    · simp at hb
theorem Zjy (h:Rel E w0 O0 σ0 L0 σ L w) {op:BinOp} {neg:Bool} (hop:(op=.eql∧neg=false)∨(op=.neq∧neg=true)) {t t':TypeId} {d:TypeDesc} {kd:Nat} (hu:P.underlying t=some d) (hk:Z4a kd d) {x y:Operand} {vx vy:AV}
    (hcon:kd=4→(∃ c,x=.const c)∨(∃ c,y=.const c)) (ho:o.op=.binOp op t x y t') (hx:VR (ctx σ L w) vx (a.eval x)) (hy:VR (ctx σ L w) vy (a.eval y))
    {r:AV × Ups} (hr:(eqnV kd neg vx vy).run σ=some r):L3 E w0 O0 σ0 L0 P σ L w o a r.1 r.2:=by
  obtain ⟨b,h1,h2⟩:=D7 hr
  obtain ⟨b',h3,h4⟩:=D7 h2
  unfold eqnB at h4
  cases hbb:(b||b') with
  | false=>rw [hbb] at h4;exact A7 h4
  | true =>
    rw [hbb] at h4
    have k:=A6 h4
    subst k
    obtain ⟨h5,h6⟩:=Zm7 (P:=P) hu hk hbb h.store hx hy h1 h3
    have he:(Op.equal t (a.eval x) (a.eval y)).run P w=.ok (b&&b') w:=h5 9999
    refine B3 h (y:=.bool (bif neg then !(b&&b') else b&&b')) ?_ (by simp [VR])
    have hg:=h6 op x y hcon
    have nb:∀ v,(kd=0∧∃ p,v=Value.pointer p)∨(kd=1∧∃ p n c,v=Value.slice p n c)∨(kd=2∧v=.map none)∨(kd=3∧(v=.nilFunc∨∃ f vs,v=.func f #[] vs))∨(kd=4∧(v=.nilIface∨∃ t u,v=.iface t u)) →
        True:=fun _ _=>trivial
    have hb2:∀ (P:Program) (w:World),(binOp .eql t (a.eval x) (a.eval y)).run P w=((Op.equal t (a.eval x) (a.eval y)).run P w).andThen (fun b w'=>.ok (.bool b) w') ∧
        (binOp .neq t (a.eval x) (a.eval y)).run P w=((Op.equal t (a.eval x) (a.eval y)).run P w).andThen (fun b w'=>.ok (.bool (!b)) w'):=by
      intro P w
      rcases Zc4 h.store hx h1 with ⟨_,p,e1,_⟩|⟨_,p,n,c,e1,_⟩|⟨_,_,e1⟩|⟨_,⟨_,e1⟩|⟨_,f,vs,e1⟩⟩|⟨_,⟨_,e1⟩|⟨_,t1,v1,e1⟩⟩<;>rw [e1] <;>
        rcases Zc4 h.store hy h3 with ⟨_,p',e2,_⟩|⟨_,p',n',c',e2,_⟩|⟨_,_,e2⟩|⟨_,⟨_,e2⟩|⟨_,f',vs',e2⟩⟩|⟨_,⟨_,e2⟩|⟨_,t2,v2,e2⟩⟩<;>rw [e2] <;>
        exact ⟨Sem.run_bind _ _ _ _,Sem.run_bind _ _ _ _⟩
    rcases hop with ⟨rfl,rfl⟩|⟨rfl,rfl⟩
    · simp [execOp,ho,hg,(hb2 P w).1,he]
    · simp [execOp,ho,hg,(hb2 P w).2,he]
end Cod
namespace Cod
open Go
variable {E:Env} {w0:World} {O0:Nat→Prop} {σ0:A2} {L0:Lay} {P:Program} {σ:A2} {L:Lay} {w:World} {o:Oper} {a:Act}
def Z2 (x:Option Value) (dflt n:Nat):Prop:=(x=none∧n=dflt)∨∃ k:IntKind,x=some (.int k (n:Int))
theorem Zf4 (isS:Bool) {len cap l h:Nat} {lo hi:Option Value} (hl:Z2 lo 0 l) (hh:Z2 hi len h) (h1:l≤h) (h2:h≤cap) :
    (Instr.sliceBounds isS len cap lo hi none).run P w=.ok (l,h,cap) w:=by
  have e1:(0:Int)≤(h:Int)∧(h:Int)≤(cap:Int):=by omega
  have e2:(0:Int)≤(l:Int)∧(l:Int)≤(h:Int):=by omega
  rcases hl with ⟨rfl,rfl⟩|⟨k,rfl⟩<;>rcases hh with ⟨rfl,rfl⟩|⟨k',rfl⟩<;>simp [Instr.sliceBounds,Instr.sliceBound,asIntOf,h1,h2]
theorem X1 {t e:TypeId} (hu:P.underlying t=some (.slice e)) {sz:Nat} (hs:L1 P e=some sz) {p:Option Addr} {len cap l h:Nat} {lo hi:Option Value} (hl:Z2 lo 0 l) (hh:Z2 hi len h) (h1:l≤h) (h2:h≤cap) :
    (Instr.sliceAt t (.slice p len cap) lo hi none).run P w=.ok (.slice (if cap=l then p else p.map (·.add (l*sz))) (h-l) (cap-l)) w:=by
  simp [Instr.sliceAt,run_underlying hu,Instr.slice,Zf4 true hl hh h1 h2,T2 hs]
theorem Zm8 {t:TypeId} (hu:P.underlying t=some .string) {s:ByteArray} {l h:Nat} {lo hi:Option Value} (hl:Z2 lo 0 l) (hh:Z2 hi s.size h) (h1:l≤h) (h2:h≤s.size) :
    (Instr.sliceAt t (.string s) lo hi none).run P w=.ok (.string (s.extract l h)) w:=by
  simp [Instr.sliceAt,run_underlying hu,Instr.slice,Zf4 false hl hh h1 h2]
theorem Zgn {t e:TypeId} {n:Nat} (hu:P.underlying t=some (.array n e)) {sz:Nat} (hs:L1 P e=some sz) {p:Addr} {l h:Nat} {lo hi:Option Value} (hl:Z2 lo 0 l) (hh:Z2 hi n h) (h1:l≤h) (h2:h≤n) :
    (Instr.sliceAt t (.pointer (some p)) lo hi none).run P w=.ok (.slice (some (if n=l then p else p.add (l*sz))) (h-l) (n-l)) w:=by
  simp [Instr.sliceAt,run_underlying hu,Instr.sureAddr,Zf4 false hl hh h1 h2,T2 hs]
theorem Zjz {c:Ctx} {x:Option LO} {y:Option Operand} {ρ:LO→AV} {ev:Operand→Value} (hxy:(x=none∧y=none)∨∃ u v,x=some u∧y=some v∧VR c (ρ u) (ev v)) {k:IntKind} {l:Int} (h:loV (x.map ρ)=.int k l) (h0:0≤l) :
    Z2 (y.map ev) 0 l.toNat:=by
  rcases hxy with ⟨rfl,rfl⟩|⟨u,v,rfl,rfl,hv⟩
  · simp only [Yfv,loV,AV.int.injEq] at h
    exact .inl ⟨rfl,by omega⟩
  · simp only [Yfo,loV] at h
    rw [h] at hv
    simp only [VR] at hv
    exact .inr ⟨k,by simp only [Yfo,hv];rw [Yfw h0]⟩
theorem Zqk {c:Ctx} {x:Option LO} {y:Option Operand} {ρ:LO→AV} {ev:Operand→Value} (hxy:(x=none∧y=none)∨∃ u v,x=some u∧y=some v∧VR c (ρ u) (ev v)) {n:Nat} {k:IntKind} {l:Int} (h:hiV n (x.map ρ)=.int k l) (h0:0≤l) :
    Z2 (y.map ev) n l.toNat:=by
  rcases hxy with ⟨rfl,rfl⟩|⟨u,v,rfl,rfl,hv⟩
  · simp only [Yfv,hiV,AV.int.injEq] at h
    exact .inl ⟨rfl,by omega⟩
  · simp only [Yfo,hiV] at h
    rw [h] at hv
    simp only [VR] at hv
    exact .inr ⟨k,by simp only [Yfo,hv];rw [Yfw h0]⟩
theorem Zdv (t:List UInt8) (l h:Nat):(⟨t.toArray⟩:ByteArray).extract l h=⟨(sub t l (h-l)).toArray⟩:=by
  apply ByteArray.ext
  simp [sub,Yft]
def SlTy (P:Program) (t:TypeId) (sz:Nat):Option Nat→Prop
  | some n=>∃ e,P.underlying t=some (.array n e)∧L1 P e=some sz
  | none=>∃ e,P.underlying t=some (.slice e)∧L1 P e=some sz
theorem ok_sl (h:Rel E w0 O0 σ0 L0 σ L w) {arr:Option Nat} {t:TypeId} {x:Operand} {lo hi:Option Operand} {sz:Nat} {vx:AV} (hu:SlTy P t sz arr) (ho:o.op=.slice t x lo hi none)
    (hx:VR (ctx σ L w) vx (a.eval x)) {lo' hi':Option LO} {ρ:LO→AV}
    (hl:(lo'=none∧lo=none)∨∃ u v,lo'=some u∧lo=some v∧VR (ctx σ L w) (ρ u) (a.eval v)) (hh:(hi'=none∧hi=none)∨∃ u v,hi'=some u∧hi=some v∧VR (ctx σ L w) (ρ u) (a.eval v))
    {r:AV × Ups} (hr:(slV sz arr vx (loV (lo'.map ρ)) (hiV (Zal arr vx) (hi'.map ρ))).run σ=some r):L3 E w0 O0 σ0 L0 P σ L w o a r.1 r.2:=by
  have hcall:∀ y,(Instr.sliceAt t (a.eval x) (lo.map a.eval) (hi.map a.eval) none).run P w=.ok y w→(execOp a.eval o).run P w=.ok (.value y) w:=by
    intro y hy
    simp [execOp,ho,hy]
  cases hlv:loV (lo'.map ρ)<;>rw [hlv] at hr<;>try (simp only [slV] at hr;exact A7 hr)
  rename_i kl l
  cases hhv:hiV (Zal arr vx) (hi'.map ρ)<;>rw [hhv] at hr<;>try (simp only [slV] at hr;exact A7 hr)
  rename_i kh hI
  simp only [slV] at hr
  obtain ⟨⟨h0,h1,h2⟩,h3⟩:=G2 hr
  have bl:=Zjz hl hlv h0
  have bh:=Zqk hh hhv (Int.le_trans h0 h1)
  have g1:l.toNat≤hI.toNat:=by omega
  have g2:hI.toNat≤Zal arr vx:=by omega
  cases arr with
  | some n =>
    obtain ⟨e,hue,hse⟩:=hu
    simp only [Zal] at bh g2
    cases vx<;>simp only [slB] at h3<;>try exact A7 h3
    case fp cs off =>
      obtain ⟨h4,h5⟩:=G2 h3
      have k:=A6 h5
      subst k
      simp only [VR] at hx
      obtain ⟨hfl,b,o',h6,h7,h8,h9⟩:=hx
      refine B3 h (hcall _ (by rw [h6];exact Zgn hue hse bl bh g1 g2)) ?_
      simp only [VR]
      refine ⟨Zfk hfl _ _,.inr ⟨b,if n=l.toNat then o'+off else o'+off+l.toNat*sz,n-l.toNat,?_,by omega,h7,h8,?_⟩⟩
      · split
        · rfl
        · rw [P5]
      · split
        · have e0:hI.toNat-l.toNat=0:=by omega
          rw [e0];simp [sub,VRC]
        · rw [Yfu];exact Za8 h9 _ _
    case ref s g off =>
      obtain ⟨e',he,ha,hg,h4⟩:=J8 h3
      obtain ⟨h5,h5'⟩:=G2 h4
      have k:=A6 h5'
      subst k
      obtain ⟨b,o',h6,h7,h8,h9⟩:=Zdg h.store hx he ha hg
      refine B3 h (hcall _ (by rw [h7];exact Zgn hue hse bl bh g1 g2)) ?_
      simp only [VR]
      refine ⟨rfl,e'.g,true,by rw [J0 he,ha],by omega,fun _ _=>?_⟩
      unfold L5
      rw [show (ctx σ L w).L s=some (b,o') from h6]
      by_cases hcl:n=l.toNat
      · refine .inl ⟨by omega,h8.room,o'+off,?_⟩
        rw [if_pos hcl]
        congr 1<;>omega
      · refine .inr ⟨n-l.toNat,?_,by omega,?_⟩
        · rw [if_neg hcl,P5,Yfu]
        · obtain ⟨c1,c2,c3,c4,c5,c6⟩:=h8
          refine ⟨c1,c2,c3,c4,?_⟩
          have:(l.toNat+(n-l.toNat))*sz=n*sz:=by rw [show l.toNat+(n-l.toNat)=n by omega]
          rw [Yfx] at this
          omega
  | none =>
    cases vx<;>simp only [slB] at h3<;>try exact A7 h3
    case nils =>
      have k:=A6 h3
      subst k
      obtain ⟨e,hue,hse⟩:=hu
      simp only [Zal] at bh g2
      simp only [VR] at hx
      refine B3 h (hcall _ (by rw [hx];exact X1 hue hse bl bh g1 g2)) ?_
      have e0:l.toNat=0:=by omega
      have e1:hI.toNat=0:=by omega
      simp [VR,e0,e1]
    case lst cs n =>
      obtain ⟨h4,h5⟩:=G2 h3
      have k:=A6 h5
      subst k
      obtain ⟨e,hue,hse⟩:=hu
      simp only [Zal] at bh g2
      simp only [VR] at hx
      obtain ⟨hfl,hx⟩:=hx
      rcases hx with ⟨h6,h7,h8⟩|⟨b,o',cap,h6,hcap,h7,h8,h9⟩
      · subst h7
        refine B3 h (hcall _ (by rw [h8];exact X1 hue hse bl bh g1 g2)) ?_
        have e0:l.toNat=0:=by omega
        have e1:hI.toNat=0:=by omega
        simp [VR,e0,e1,h6,sub,flats]
      · refine B3 h (hcall _ (by rw [h6];exact X1 hue hse bl bh g1 (by omega))) ?_
        simp only [VR]
        refine ⟨Zfk hfl _ _,.inr ⟨b,if cap=l.toNat then o' else o'+l.toNat*sz,cap-l.toNat,?_,by omega,h7,h8,?_⟩⟩
        · split
          · rfl
          · simp only [Yfo,P5]
        · split
          · have e0:hI.toNat-l.toNat=0:=by omega
            rw [e0];simp [sub,VRC]
          · exact Za8 h9 _ _
    case buf s g off n z =>
      obtain ⟨rfl,h5⟩:=G2 h3
      obtain ⟨rfl,e',he,ha,hg⟩:=W0 h5
      obtain ⟨e,hue,hse⟩:=hu
      simp only [Zal] at bh g2
      have hb:=Zbq hx he ha hg
      unfold L5 at hb
      split at hb
      · rename_i b o' hl'
        rcases hb with ⟨h6,hrm,q,h7⟩|⟨cap,h6,h7,h8⟩
        · subst h6
          refine B3 h (hcall _ (by rw [h7];exact X1 hue hse bl bh g1 g2)) ?_
          have e0:l.toNat=0:=by omega
          have e1:hI.toNat=0:=by omega
          simp only [VR]
          refine ⟨rfl,e'.g,true,by rw [J0 he,ha],by omega,fun _ _=>?_⟩
          unfold L5
          rw [hl']
          exact .inl ⟨by omega,hrm,q,by simp [e0,e1]⟩
        · refine B3 h (hcall _ (by rw [h6];exact X1 hue hse bl bh g1 (by omega))) ?_
          simp only [VR]
          refine ⟨rfl,e'.g,true,by rw [J0 he,ha],by omega,fun _ _=>?_⟩
          unfold L5
          rw [hl']
          by_cases hcl:cap=l.toNat
          · refine .inl ⟨by omega,h8.zero,o'+off,?_⟩
            rw [if_pos hcl]
            congr 1<;>omega
          · refine .inr ⟨cap-l.toNat,?_,by omega,?_⟩
            · rw [if_neg hcl];simp only [Yfo,P5,Yfu]
            · obtain ⟨c1,c2,c3,c4,c5⟩:=h8
              refine ⟨c1,c2,c3,c4,?_⟩
              have:(l.toNat+(cap-l.toNat))*z=cap*z:=by rw [show l.toNat+(cap-l.toNat)=cap by omega]
              rw [Yfx] at this
              omega
      · rename_i hl'
        obtain ⟨h6,h7,h8⟩:=hb
        subst h8
        refine B3 h (hcall _ (by rw [h6];exact X1 hue hse bl bh g1 g2)) ?_
        have e0:l.toNat=0:=by omega
        have e1:hI.toNat=0:=by omega
        simp only [VR]
        refine ⟨rfl,e'.g,true,by rw [J0 he,ha],by omega,fun _ _=>?_⟩
        unfold L5
        rw [hl']
        simp [e0,e1,h7]
theorem Zql (isS:Bool) {len cap l h m:Nat} {k k':IntKind} {lo:Option Value} (hl:Z2 lo 0 l) (h1:l≤h) (h2:h≤m) (h3:m≤cap) :
    (Instr.sliceBounds isS len cap lo (some (.int k (h:Int))) (some (.int k' (m:Int)))).run P w=.ok (l,h,m) w:=by
  have e0:(0:Int)≤(m:Int)∧(m:Int)≤(cap:Int):=by omega
  have e1:(0:Int)≤(h:Int)∧(h:Int)≤(m:Int):=by omega
  have e2:(0:Int)≤(l:Int)∧(l:Int)≤(h:Int):=by omega
  rcases hl with ⟨rfl,rfl⟩|⟨k,rfl⟩<;>simp [Instr.sliceBounds,Instr.sliceBound,asIntOf,h1,h2,h3]
theorem X2 {t e:TypeId} (hu:P.underlying t=some (.slice e)) {sz:Nat} (hs:L1 P e=some sz) {p:Option Addr} {len cap l h m:Nat} {k k':IntKind} {lo:Option Value} (hl:Z2 lo 0 l) (h1:l≤h) (h2:h≤m) (h3:m≤cap) :
    (Instr.sliceAt t (.slice p len cap) lo (some (.int k (h:Int))) (some (.int k' (m:Int)))).run P w=.ok (.slice (if m=l then p else p.map (·.add (l*sz))) (h-l) (m-l)) w:=by
  simp [Instr.sliceAt,run_underlying hu,Instr.slice,Zql true hl h1 h2 h3,T2 hs]
theorem ok_slm (h:Rel E w0 O0 σ0 L0 σ L w) {t e:TypeId} {x hi mx:Operand} {lo:Option Operand} {sz:Nat} {vx vh vm:AV} (hue:P.underlying t=some (.slice e)) (hse:L1 P e=some sz) (ho:o.op=.slice t x lo (some hi) (some mx))
    (hx:VR (ctx σ L w) vx (a.eval x)) {lo':Option LO} {ρ:LO→AV}
    (hl:(lo'=none∧lo=none)∨∃ u v,lo'=some u∧lo=some v∧VR (ctx σ L w) (ρ u) (a.eval v)) (hh:VR (ctx σ L w) vh (a.eval hi)) (hm:VR (ctx σ L w) vm (a.eval mx))
    {r:AV × Ups} (hr:(Zm0 sz vx (loV (lo'.map ρ)) vh vm).run σ=some r):L3 E w0 O0 σ0 L0 P σ L w o a r.1 r.2:=by
  have hcall:∀ y,(Instr.sliceAt t (a.eval x) (lo.map a.eval) (some (a.eval hi)) (some (a.eval mx))).run P w=.ok y w→(execOp a.eval o).run P w=.ok (.value y) w:=by
    intro y hy
    simp [execOp,ho,hy]
  cases hlv:loV (lo'.map ρ)<;>rw [hlv] at hr<;>try (simp only [Zm0] at hr;exact A7 hr)
  rename_i kl l
  cases vh<;>try (simp only [Zm0] at hr;exact A7 hr)
  rename_i kh hI
  cases vm<;>try (simp only [Zm0] at hr;exact A7 hr)
  rename_i km mI
  simp only [Zm0] at hr
  obtain ⟨⟨h0,h1,h2,h2'⟩,h3⟩:=G2 hr
  have bl:=Zjz hl hlv h0
  simp only [VR] at hh hm
  rw [hh,hm,←Yfw (a:=hI) (by omega),←Yfw (a:=mI) (by omega)] at hcall
  have g1:l.toNat≤hI.toNat:=by omega
  have g2:hI.toNat≤mI.toNat:=by omega
  have g3:mI.toNat≤Zal none vx:=by omega
  clear hr hh hm h1 h2 h2'
  cases vx<;>simp only [slB] at h3<;>try exact A7 h3
  case nils =>
    have k:=A6 h3
    subst k
    simp only [Zal] at g3
    simp only [VR] at hx
    refine B3 h (hcall _ (by rw [hx];exact X2 hue hse bl g1 g2 g3)) ?_
    have e0:l.toNat=0:=by omega
    have e1:hI.toNat=0:=by omega
    have e2:mI.toNat=0:=by omega
    simp [VR,e0,e1,e2]
  case lst cs n =>
    obtain ⟨h4,h5⟩:=G2 h3
    have k:=A6 h5
    subst k
    simp only [Zal] at g3
    simp only [VR] at hx
    obtain ⟨hfl,hx⟩:=hx
    rcases hx with ⟨h6,h7,h8⟩|⟨b,o',cap,h6,hcap,h7,h8,h9⟩
    · subst h7
      refine B3 h (hcall _ (by rw [h8];exact X2 hue hse bl g1 g2 g3)) ?_
      have e0:l.toNat=0:=by omega
      have e1:hI.toNat=0:=by omega
      have e2:mI.toNat=0:=by omega
      simp [VR,e0,e1,e2,h6,sub,flats]
    · refine B3 h (hcall _ (by rw [h6];exact X2 hue hse bl g1 g2 (by omega))) ?_
      simp only [VR]
      refine ⟨Zfk hfl _ _,.inr ⟨b,if mI.toNat=l.toNat then o' else o'+l.toNat*sz,mI.toNat-l.toNat,?_,by omega,h7,h8,?_⟩⟩
      · split
        · rfl
        · simp only [Yfo,P5]
      · split
        · have e0:hI.toNat-l.toNat=0:=by omega
          rw [e0];simp [sub,VRC]
        · exact Za8 h9 _ _
  case buf s g off n z =>
    obtain ⟨rfl,h5⟩:=G2 h3
    obtain ⟨rfl,e',he,ha,hg⟩:=W0 h5
    simp only [Zal] at g3
    have hb:=Zbq hx he ha hg
    unfold L5 at hb
    split at hb
    · rename_i b o' hl'
      rcases hb with ⟨h6,hrm,q,h7⟩|⟨cap,h6,h7,h8⟩
      · subst h6
        refine B3 h (hcall _ (by rw [h7];exact X2 hue hse bl g1 g2 g3)) ?_
        have e0:l.toNat=0:=by omega
        have e1:hI.toNat=0:=by omega
        have e2:mI.toNat=0:=by omega
        simp only [VR]
        refine ⟨rfl,e'.g,true,by rw [J0 he,ha],by omega,fun _ _=>?_⟩
        unfold L5
        rw [hl']
        exact .inl ⟨by omega,hrm,q,by simp [e0,e1,e2]⟩
      · refine B3 h (hcall _ (by rw [h6];exact X2 hue hse bl g1 g2 (by omega))) ?_
        simp only [VR]
        refine ⟨rfl,e'.g,true,by rw [J0 he,ha],by omega,fun _ _=>?_⟩
        unfold L5
        rw [hl']
        by_cases hcl:mI.toNat=l.toNat
        · refine .inl ⟨by omega,h8.zero,o'+off,?_⟩
          rw [if_pos hcl]
          congr 1<;>omega
        · refine .inr ⟨mI.toNat-l.toNat,?_,by omega,?_⟩
          · rw [if_neg hcl];simp only [Yfo,P5,Yfu]
          · obtain ⟨c1,c2,c3,c4,c5⟩:=h8
            refine ⟨c1,c2,c3,c4,?_⟩
            have e1:(l.toNat+(mI.toNat-l.toNat))*z=mI.toNat*z:=by rw [show l.toNat+(mI.toNat-l.toNat)=mI.toNat by omega]
            rw [Yfx] at e1
            have e2:mI.toNat*z≤cap*z:=Nat.mul_le_mul_right _ (by omega)
            omega
    · rename_i hl'
      obtain ⟨h6,h7,h8⟩:=hb
      subst h8
      refine B3 h (hcall _ (by rw [h6];exact X2 hue hse bl g1 g2 g3)) ?_
      have e0:l.toNat=0:=by omega
      have e1:hI.toNat=0:=by omega
      have e2:mI.toNat=0:=by omega
      simp only [VR]
      refine ⟨rfl,e'.g,true,by rw [J0 he,ha],by omega,fun _ _=>?_⟩
      unfold L5
      rw [hl']
      simp [e0,e1,e2,h7]
theorem ok_sls (h:Rel E w0 O0 σ0 L0 σ L w) {t:TypeId} {x:Operand} {lo hi:Option Operand} {vx:AV} (hu:P.underlying t=some .string) (ho:o.op=.slice t x lo hi none)
    (hx:VR (ctx σ L w) vx (a.eval x)) {lo' hi':Option LO} {ρ:LO→AV}
    (hl:(lo'=none∧lo=none)∨∃ u v,lo'=some u∧lo=some v∧VR (ctx σ L w) (ρ u) (a.eval v)) (hh:(hi'=none∧hi=none)∨∃ u v,hi'=some u∧hi=some v∧VR (ctx σ L w) (ρ u) (a.eval v))
    {r:AV × Ups} (hr:(slsV vx (loV (lo'.map ρ)) (hiV (Zal none vx) (hi'.map ρ))).run σ=some r):L3 E w0 O0 σ0 L0 P σ L w o a r.1 r.2:=by
  cases vx<;>try exact A7 hr
  rename_i s
  cases hlv:loV (lo'.map ρ)<;>rw [hlv] at hr<;>try exact A7 hr
  rename_i kl l
  cases hhv:hiV (Zal none (.str s)) (hi'.map ρ)<;>rw [hhv] at hr<;>try exact A7 hr
  rename_i kh hI
  simp only [slsV] at hr
  obtain ⟨⟨h0,h1,h2⟩,h3⟩:=G2 hr
  have bl:=Zjz hl hlv h0
  have bh:=Zqk hh hhv (Int.le_trans h0 h1)
  have k:=A6 h3
  subst k
  simp only [VR] at hx
  simp only [Zal] at bh
  have hs:=Zm8 (P:=P) (w:=w) hu (s:=⟨s.toArray⟩) bl (by simpa [ByteArray.size] using bh) (by omega) (by simp [ByteArray.size];omega)
  refine B3 h (y:=.string ((⟨s.toArray⟩:ByteArray).extract l.toNat hI.toNat)) ?_ (by simp only [VR];rw [Zdv])
  simp [execOp,ho,hx,hs]
theorem Ztq {c:Ctx}:∀ {cs:List AV} {l:List UInt8},bytesOf cs=some l→∀ {vs:List Value},VRL c cs vs→∃ ns:List Int,vs=ns.map (Value.int .u8)∧ns.map (fun n=>UInt8.ofNat n.toNat)=l:=by
  intro cs
  induction cs with
  | nil=>intro l h vs hv;simp only [bytesOf,Option.some.injEq] at h;subst h;simp only [VRL] at hv;subst hv;exact ⟨[],rfl,rfl⟩
  | cons x cs ih =>
    intro l h vs hv
    simp only [VRL] at hv
    obtain ⟨v,r,rfl,h1,h2⟩:=hv
    cases x<;>try (simp [bytesOf] at h;done)
    rename_i k n
    cases k<;>try (simp [bytesOf] at h;done)
    simp only [bytesOf,Yfp] at h
    obtain ⟨l',h3,rfl⟩:=h
    obtain ⟨ns,h4,h5⟩:=ih h3 h2
    simp only [VR] at h1
    exact ⟨n::ns,by simp [h1,h4],by simp [h5]⟩
theorem Ztr (ns:List Int):∀ (r:ByteArray),ns.foldl (fun r n=>r.push (UInt8.ofNat n.toNat)) r=⟨(r.data.toList++ns.map fun n=>UInt8.ofNat n.toNat).toArray⟩:=by
  induction ns with
  | nil=>intro r;apply ByteArray.ext;simp
  | cons n ns ih=>intro r;simp only [Yfy,ih];apply ByteArray.ext;simp [ByteArray.push]
theorem Zj0 (h:StoreOK σ L w) {sz:Nat} {v:AV} {y:Value} (hv:VR (ctx σ L w) v y) {cs:List AV} {n:Nat} (hr:(P6 sz v).run σ=some (cs,n)) :
    (∃ l,v=.str l∧cs=A0 l∧n=l.length∧sz=1) ∨
    ((∀ l,v≠.str l)∧cs.length=n*sz∧((y=.slice none 0 0∧n=0∧cs=[])∨∃ b q cap,y=.slice (some ⟨b,q,none⟩) n cap∧n≤cap∧VRC (ctx σ L w) b q cs)):=by
  cases v<;>simp only [P6] at hr<;>try exact A7 hr
  case str l =>
    unfold Zjp at hr
    split at hr
    · have k:=A6 hr;simp only [Prod.mk.injEq] at k;exact .inl ⟨l,rfl,k.1,k.2,rfl⟩
    · exact A7 hr
  case nils =>
    have k:=A6 hr
    simp only [Prod.mk.injEq] at k
    simp only [VR] at hv
    obtain ⟨rfl,rfl⟩:=k
    exact .inr ⟨by simp,by simp,.inl ⟨hv,rfl,rfl⟩⟩
  case lst cs' m =>
    obtain ⟨h1,h2⟩:=G2 hr
    have k:=A6 h2
    simp only [Prod.mk.injEq] at k
    obtain ⟨rfl,rfl⟩:=k
    simp only [VR] at hv
    refine .inr ⟨by simp,h1,?_⟩
    rcases hv.2 with ⟨h3,h4,h5⟩|⟨b,o',cap,h3,h4,_,_,h5⟩
    · exact .inl ⟨h5,h4,h3⟩
    · exact .inr ⟨b,o',cap,h3,h4,h5⟩
  case buf s g off m z =>
    obtain ⟨e,he,ha,hg,h1⟩:=J8 hr
    obtain ⟨⟨rfl,h2⟩,h3⟩:=G2 h1
    have k:=A6 h3
    simp only [Prod.mk.injEq] at k
    obtain ⟨rfl,rfl⟩:=k
    refine .inr ⟨by simp,Q6 h2,?_⟩
    have hb:=Zbq hv he ha hg
    unfold L5 at hb
    split at hb
    · rename_i b o' hl
      have hrm:=Zez hb
      obtain ⟨_,h5⟩:=h.free he ha hl hrm
      rcases hb with ⟨h6,_,q,h7⟩|⟨cap,h6,h7,h8⟩
      · subst h6
        refine .inr ⟨b,q,0,h7,Yfj _,?_⟩
        simp [sub,VRC]
      · exact .inr ⟨b,o'+off,cap,h6,h7,Za8 h5 _ _⟩
    · obtain ⟨h6,h7,h8⟩:=hb
      subst h8
      exact .inl ⟨h6,rfl,by simp [sub]⟩
theorem ok_b2s (h:Rel E w0 O0 σ0 L0 σ L w) {s t e:TypeId} {x:Operand} (hs:P.underlying s=some (.slice e)) (he:Zm3 P e=true) (ht:P.underlying t=some .string) {vx:AV} (ho:o.op=.convert s t x)
    (hx:VR (ctx σ L w) vx (a.eval x)) {r:AV × Ups} (hr:(Zth vx).run σ=some r):L3 E w0 O0 σ0 L0 P σ L w o a r.1 r.2:=by
  have hns:∀ l,vx≠.str l:=by rintro l rfl;exact A7 hr
  replace hr:((P6 1 vx).bind fun p=>strV (bytesOf p.1)).run σ=some r:=by cases vx<;>first|exact hr|exact absurd rfl (hns _)
  obtain ⟨⟨cs,n⟩,h1,h2⟩:=D7 hr
  simp only at h2
  cases hb:bytesOf cs with
  | none=>rw [hb] at h2;exact A7 h2
  | some l =>
    rw [hb] at h2
    have k:=A6 h2
    subst k
    have hu:P.underlying e=some (.int .u8):=by
      unfold Zm3 at he
      split at he
      · assumption
      · cases he
    rcases Zj0 h.store hx h1 with ⟨l',h3,_⟩|⟨_,h3,h4⟩
    · exact absurd h3 (hns l')
    · refine B3 h (y:=.string ⟨l.toArray⟩) ?_ (by simp [VR])
      rcases h4 with ⟨h5,h6,h7⟩|⟨b,q,cap,h5,_,h6⟩
      · subst h7
        simp only [bytesOf,Option.some.injEq] at hb
        subst hb
        have e0:(convert s t (.slice none 0 0)).run P w=.ok (.string .empty) w:=by
          rw [run_convert_bytes_string w s t e none 0 0 hs hu ht]
          simp [Conv.bytesToString]
        simp only [execOp,ho,h5,Sem.run_bind,e0,Result.andThen_ok,Sem.run_pure]
        rfl
      · obtain ⟨vs,h7,h8⟩:=Zet h6
        obtain ⟨ns,h9,h10⟩:=Ztq hb h7
        have hl:=H5 h7
        have h11:=run_loadCells_list (P:=P) w ⟨b,q,none⟩ vs (fun j v hj=>by rw [P5];exact h8 j v hj)
        have h12:(convert s t (.slice (some ⟨b,q,none⟩) n cap)).run P w=.ok (.string ⟨l.toArray⟩) w:=by
          rw [run_convert_bytes_string w s t e _ n cap hs hu ht]
          have:=run_bytesToString (P:=P) w ⟨b,q,none⟩ n cap ns (by rw [show n=vs.length by omega,h11,h9])
          rw [this,Ztr]
          simp [h10]
        simp only [execOp,ho,h5,Sem.run_bind,h12,Result.andThen_ok,Sem.run_pure]
end Cod
namespace Cod
open Go
variable {E:Env} {w0:World} {O0:Nat→Prop} {σ0:A2} {L0:Lay} {P:Program} {σ:A2} {L:Lay} {w:World} {o:Oper} {a:Act}
theorem Zts {s:Site} {var:Bool} {cells:List AV} {p:Nat × Ups} (h:(mk s var cells).run σ=some p) :
    (∀ e,A8 σ s=some e→e.g<p.1)∧p.2=[(s,⟨p.1,true,true,var,cells⟩)]:=by
  simp only [mk,Acc.run] at h
  cases he:A8 σ s with
  | none=>rw [he] at h;have k:=A6 h;subst k;exact ⟨by simp,rfl⟩
  | some e=>rw [he] at h;have k:=A6 h;subst k;exact ⟨by simp,rfl⟩
theorem Zze {s:Site} {cells:List AV} {r:AV × Ups} (h:(Zik s cells).run σ=some r) :
    ∃ g,(∀ e,A8 σ s=some e→e.g<g)∧r=(.ref s g 0,[(s,⟨g,true,true,true,cells⟩)]):=by
  obtain ⟨p,h1,h2⟩:=D7 h
  obtain ⟨h3,h4⟩:=Zts h1
  have k:=A6 h2
  subst k
  exact ⟨p.1,h3,by rw [h4]⟩
theorem Zci {s:Site} {cells:List AV} {n sz:Nat} {u:Ups} {r:AV × Ups} (h:(Zbu s cells n sz u).run σ=some r) :
    ∃ g,(∀ e,A8 σ s=some e→e.g<g)∧r=(.buf s g 0 n sz,u++[(s,⟨g,true,true,false,cells⟩)]):=by
  obtain ⟨p,h1,h2⟩:=D7 h
  obtain ⟨h3,h4⟩:=Zts h1
  have k:=A6 h2
  subst k
  exact ⟨p.1,h3,by rw [h4]⟩
theorem C8 (u v:Ups):∀ σ:A2,B5 σ (u++v)=B5 (B5 σ u) v:=by
  induction u with
  | nil=>intro σ;rfl
  | cons p u ih=>intro σ;obtain ⟨s,e⟩:=p;exact ih _
theorem Zj1 {c:Ctx} {x:AV} {y:Value} (hv:VR c x y) (h:R1 x=true):y.oneCell'=true:=by
  cases x with
  | agg xs=>simp [R1] at h
  | junk=>simp [R1] at h
  | und=>simp [R1] at h
  | tup xs=>simp [R1] at h
  | lst cs n=>simp only [VR] at hv;rcases hv.2 with ⟨_,_,h1⟩|⟨_,_,_,h1,_⟩<;>rw [h1]<;>rfl
  | fp cs n=>simp only [VR] at hv;obtain ⟨_,_,_,h1,_⟩:=hv;rw [h1];rfl
  | ref s g o=>simp only [VR] at hv;exact hv.1
  | buf s g o n z=>simp only [VR] at hv;exact hv.1
  | clo f cap=>simp only [VR] at hv;obtain ⟨_,h1,_⟩:=hv;rw [h1];rfl
  | ifc t x=>simp only [VR] at hv;obtain ⟨_,h1,_⟩:=hv;rw [h1];rfl
  | it s g=>simp [R1] at h
  | itr s g=>simp [R1] at h
  | mp s g=>simp [R1] at h
  | mpr s g=>simp only [VR] at hv;exact hv.1
  | any k =>
    simp only [VR] at hv
    cases k with
    | none=>rcases hv with h1|⟨_,_,h1⟩<;>rw [h1]<;>rfl
    | some k=>obtain ⟨_,h1⟩:=hv;rw [h1];rfl
  | _=>simp only [VR] at hv;rw [hv];rfl
theorem Zlz {y:Value} (h:y.oneCell'=true):y.cells = #[y]:=by
  cases y<;>first|rfl|simp [Value.oneCell'] at h
theorem Zfp {c:Ctx}:∀ {xs:List AV} {vs:List Value},VRL c xs vs→T7 xs=true→∀ v∈vs,v.oneCell'=true:=by
  intro xs
  induction xs with
  | nil=>intro vs h _ v hv;simp only [VRL] at h;subst h;simp at hv
  | cons x xs ih =>
    intro vs h hh v hv
    simp only [VRL] at h
    obtain ⟨u,r,rfl,h1,h2⟩:=h
    simp only [T7,Yfz] at hh
    rcases List.mem_cons.1 hv with rfl|hv
    · exact Zj1 h1 hh.1
    · exact ih h2 hh.2 v hv
theorem Zdk {c:Ctx} {x:AV} {y:Value} (hv:VR c x y) {cs:List AV} (h:J4 x=some cs):VRL c cs y.cells.toList:=by
  by_cases hx:R1 x=true
  · have h1:cs=[x]:=by
      cases x<;>simp_all [J4,R1]
    subst h1
    rw [Zlz (Zj1 hv hx)]
    exact Zc2 hv
  · cases x<;>simp [J4,R1] at h hx
    rename_i xs
    subst h
    simp only [VR] at hv
    obtain ⟨vs,rfl,h2⟩:=hv
    exact h2
theorem Zir:∀ {xs:List AV},flats xs=true→T7 xs=true:=by
  intro xs
  induction xs with
  | nil=>intro _;rfl
  | cons x xs ih=>intro h;simp only [flats,Yfz] at h;simp only [T7,Yfz];exact ⟨Zzb h.1,ih h.2⟩
theorem Zj2 (t:TypeId) (v:Value):(newVar t v).run P w=.ok ⟨w.heap.size,0,none⟩ (w.alloc (.cells v.cells t)):=by
  simp [newVar,newRow]
theorem Z4b (h:Rel E w0 O0 σ0 L0 σ L w) {d sz:Nat} {x:Operand} (ho:o.op=.move x∨o.op=.assign x) (hx:x=.const (.slice none 0 0)) {r:AV × Ups} (hr:(Zbu (.s d 0) [] 0 sz []).run σ=some r) :
    L3 E w0 O0 σ0 L0 P σ L w o a r.1 r.2:=by
  obtain ⟨g,hg,rfl⟩:=Zci hr
  obtain ⟨h1,h2⟩:=h.newNil hg
  refine J6 (y:=.slice none 0 0) (w':=w) (L':=G4 L (.s d 0) none) ?_ h1 h2 ?_
  · subst hx
    rcases ho with ho|ho<;>simp [execOp,ho,Act.eval]
  · simp only [VR]
    refine ⟨rfl,g,true,J0 (C1 _ _ _),Yfj _,fun _ _=>?_⟩
    show L5 (ctx (H9 σ (.s d 0) ⟨g,true,true,false,[]⟩) (G4 L (.s d 0) none) w) _ _ _ _ _
    unfold L5
    rw [show (ctx (H9 σ (.s d 0) ⟨g,true,true,false,[]⟩) (G4 L (.s d 0) none) w).L (.s d 0)=none from G8 _ _ _]
    exact ⟨rfl,rfl,rfl⟩
theorem Zxu (h:Rel E w0 O0 σ0 L0 σ L w) {d:Nat} {t:TypeId} {cells:List AV} {v:Value} (hv:VRL (ctx σ L w) cells v.cells.toList) (hr1:(execOp a.eval o).run P w=.ok (.value (.pointer (some ⟨w.heap.size,0,none⟩))) (w.alloc (.cells v.cells t)))
    {r:AV × Ups} (hr:(Zik (.s d 0) cells).run σ=some r):L3 E w0 O0 σ0 L0 P σ L w o a r.1 r.2:=by
  obtain ⟨g,hg,rfl⟩:=Zze hr
  obtain ⟨h1,h2⟩:=h.new hg true hv v.cells (by simp) t (0,0) (by simp)
  refine J6 hr1 h1 h2 ?_
  simp only [VR]
  refine ⟨rfl,g,true,J0 (C1 _ _ _),Yfj _,fun _ _=>⟨w.heap.size,0,G8 _ _ _,rfl,v.cells,t,(0,0),heap_alloc_new w _,Nat.zero_le _⟩⟩
theorem ok_new (h:Rel E w0 O0 σ0 L0 σ L w) {d:Nat} {t:TypeId} {z:List AV} (hz:Z9 P t=some z) (ho:o.op=.alloc t) {r:AV × Ups} (hr:(Zik (.s d 0) z).run σ=some r) :
    L3 E w0 O0 σ0 L0 P σ L w o a r.1 r.2:=by
  obtain ⟨zv,h1,h2⟩:=Z36 hz w
  refine Zxu h (t:=t) (v:=zv) (V9 _ h2) ?_ hr
  simp [execOp,ho,Instr.alloc,h1,Zj2]
theorem ok_box (h:Rel E w0 O0 σ0 L0 σ L w) {d:Nat} {t:TypeId} {x:Operand} {vx:AV} (hx:VR (ctx σ L w) vx (a.eval x)) (ho:o.op=.box t x) {r:AV × Ups} (hr:(boxV (.s d 0) (J4 vx)).run σ=some r) :
    L3 E w0 O0 σ0 L0 P σ L w o a r.1 r.2:=by
  cases hc:J4 vx with
  | none=>rw [hc] at hr;exact A7 hr
  | some cs =>
    rw [hc] at hr
    refine Zxu h (t:=t) (v:=a.eval x) (Zdk hx hc) ?_ hr
    simp [execOp,ho,Instr.box,Zj2]
theorem Zl0 (vs:List Value):∀ (k off:Nat) (cs:Array Value),off+k+vs.length≤cs.size →
    ((vs.zipIdx k).foldl (fun cs (p:Value × Nat)=>cs.setIfInBounds (off+p.2) p.1) cs).toList=cs.toList.take (off+k)++vs++cs.toList.drop (off+k+vs.length):=by
  induction vs with
  | nil=>intro k off cs _;simp
  | cons v vs ih =>
    intro k off cs h
    simp only [List.zipIdx_cons,Yfy]
    rw [ih (k+1) off _ (by simp only [Array.size_setIfInBounds];simp only [Yf0] at h;omega)]
    simp only [Yf0] at h
    have hlen:off+k<cs.toList.length:=by simp;omega
    simp only [Array.toList_setIfInBounds,Yf0]
    have e1:(cs.toList.set (off+k) v).take (off+(k+1))=cs.toList.take (off+k)++[v]:=by
      rw [show off+(k+1)=(off+k)+1 by omega,List.take_add_one,List.take_set,List.set_eq_of_length_le (by simp only [Yfq];omega),List.getElem?_set_self hlen]
      rfl
    have e2:(cs.toList.set (off+k) v).drop (off+(k+1)+vs.length)=cs.toList.drop (off+k+(vs.length+1)):=by
      rw [List.drop_set]
      rw [if_pos (by omega)]
      congr 1
      omega
    rw [e1,e2]
    simp
theorem Ze0 {cs xs:List AV} {off:Nat} (h:off+xs.length≤cs.length):(over cs off xs).length=cs.length:=by
  unfold over
  simp only [List.length_append,Yfq,Yfr]
  omega
theorem Z4c {c:Ctx} {cs xs:List AV} {vs us:List Value} (h1:VRL c cs vs) (h2:VRL c xs us) (off:Nat):VRL c (over cs off xs) (vs.take off++us++vs.drop (off+us.length)):=by
  unfold over
  rw [H5 h2]
  exact U4 (U4 (Zjt h1 _) h2) (Zqf h1 _)
end Cod

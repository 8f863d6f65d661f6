/- From the model's code to the lean form. -/
import Derived.Laws.Cells
import Derived.Laws.Slices
import Derived.Laws.StructEq
import Derived.Laws.BytesString
import Derived.Laws.IdiomStrings
import Derived.Laws.AppendOwn
import Derived.Test.YthlnjgdoodjgoaaGreatDoorXCod1
set_option linter.unusedSimpArgs false
set_option linter.unusedVariables false
open List renaming extract_eq_take_drop → Yqg, foldl_cons → Yqk, length_cons → Yqm, length_drop → Yqe, length_take → Yqd, mem_singleton → Yqo, size_toArray → Yqf
open Nat renaming add_assoc → Yqh, le_refl → Yp6
open Int renaming toNat_of_nonneg → Yqj
open Bool renaming and_eq_true → Yql, false_eq_true → Yqn
open Option renaming map_eq_some_iff → Yqc, map_none → Yqi, map_some → Yqb
namespace Cod
open Go
structure Ann where
  cross:List Nat
  keep:List (Nat × List Nat)
  live:List (Nat × List Nat)
  take:List (Nat × List Nat)
  ord:List (Nat × List Nat)
def tab (l:List (Nat × List Nat)) (n:Nat):List Nat:=(l.lookup n).getD []
def X8:Value→Option AV
  | .int k n=>some (.int k n)
  | .bool b=>some (.bool b)
  | .string s=>some (.str s.data.toList)
  | .pointer none=>some .nilp
  | .slice none 0 0=>some .nils
  | .map none=>some .nilm
  | .nilIface=>some .nili
  | .nilFunc=>some .nilf
  | _=>none
def Zc2:List Value→Option (List AV)
  | []=>some []
  | v::vs=>match X8 v,Zc2 vs with|some a,some as=>some (a::as)|_,_=>none
def Ziv:Value→Option AV
  | .agg cs=>(Zc2 cs.toList).map .agg
  | v=>X8 v
def L3:Operand→Option LO
  | .tmp t=>some (.t t)
  | .const v=>(Ziv v).map .k
  | .global g=>some (.g g)
  | .func f=>some (.f f)
def Ze8:List Operand→Option (List LO)
  | []=>some []
  | x::xs=>match L3 x,Ze8 xs with|some a,some as=>some (a::as)|_,_=>none
section
variable (P:Program)
def O1 (t:TypeId):Option Nat:=(P.info? t).map (·.size)
def Zgp (t:TypeId):Option Nat:=(P.info? t).map (·.bytes)
def Zcj (t:TypeId):Option (List AV):=match (P.info? t).bind (·.zero) with|some z=>Zc2 z.cells.toList|none=>none
def Zgg (t:TypeId):Option (Option Nat) :=
  match P.underlying t,P.info? t with
  | some (.struct _),some i=>some (some i.size)
  | some (.array _ _),some i=>some (some i.size)
  | some _,some _=>some none
  | _,_=>none
def Zgq (t:TypeId):Option TypeId:=match P.underlying t with|some (.slice e)=>some e|_=>none
def Zrb (t:TypeId):Bool:=match P.underlying t with|some (.int .u8)=>true|_=>false
def Yco (t:TypeId):Bool:=match P.underlying t with|some .string=>true|_=>false
def Zml:Operand→Bool
  | .const _=>true
  | _=>false
def Zm8 (f:TypeId→Option (List Nat)):List Field→Nat→Option (List Nat)
  | [],_=>some []
  | x::r,n=>match f x.type with|some ks=>if x.offset=n∧x.name ≠ "_" then (Zm8 f r (n+ks.length)).map (ks ++ ·) else none|none=>none
def Zwj (ks:List Nat):Nat→List Nat
  | 0=>[]
  | n+1=>ks++Zwj ks n
def Zed:Nat→TypeId→Option (List Nat)
  | 0,_=>none
  | d+1,t =>
    match P.underlying t,P.info? t with
    | some (.int _),some _=>some [0]
    | some .bool,some _=>some [1]
    | some .string,some _=>some [2]
    | some (.struct fs),some i=>if P.stoodInHeld t=false then (Zm8 (Zed d) fs.toList 0).bind fun ks=>if ks.length=i.size then some ks else none else none
    | some (.array n e),some i=>(match Zed d e,O1 P e with|some ks,some m=>if ks.length=m∧i.size=n*m∧0<m then some (Zwj ks n) else none|_,_=>none)
    | _,_=>none
def Z5e (op:BinOp) (neg:Bool) (t:TypeId) (x y:Operand):Option LOp :=
  match L3 x,L3 y with
  | some a,some b =>
    (match P.underlying t with
    | some (.int _)|some .string=>some (.bin op a b)
    | some .bool=>some (.eqb neg a b)
    | some (.pointer _)=>some (.eqn 0 neg a b)
    | some (.slice _)=>some (.eqn 1 neg a b)
    | some (.map ..)=>some (.eqn 2 neg a b)
    | some (.func ..)=>some (.eqn 3 neg a b)
    | some (.interface _)=>if (Zml x||Zml y)=true then some (.eqn 4 neg a b) else none
    | some (.struct _)|some (.array ..)=>(match Zed P 20 t with|some ks=>if P.eqGuardType P.depth t then none else some (.eqa ks neg a b)|none=>none)
    | _=>none)
  | _,_=>none
def Za9 (off:Nat→Option (Nat × Nat)):List (Nat × Operand)→Option (List (Nat × Nat × LO))
  | []=>some []
  | (i,x)::r=>match off i,L3 x,Za9 off r with|some (o,n),some a,some as=>some ((o,n,a)::as)|_,_,_=>none
def Z5f (A:Ann) (f:Operand) (args:Array Operand):Option LOp :=
  match L3 f,Ze8 args.toList with
  | some g,some as=>some (.call g as (match f with|.func n=>tab A.take n|_=>[]))
  | _,_=>none
def Zpa (c:Call):Option LOp :=
  match c.args.toList,c.argTypes.toList with
  | [s,x],[ts,tx] =>
    match Zgq P ts,L3 s,L3 x with
    | some e,some s',some x' =>
      (match O1 P e,Zgp P e,Zcj P e with
      | some sz,some b,some z =>
        if sz=0∨b=0∨z.length≠sz then none
        else (match P.underlying tx with
          | some (.int _)=>some (.appz sz b z s' x')
          | some .string|some (.slice _)=>some (.app sz b s' x')
          | _=>none)
      | _,_,_=>none)
    | _,_,_=>none
  | _,_=>none
def Ycp (c:Call):Option LOp :=
  match c.args.toList,c.argTypes.toList with
  | [x],[t] =>
    match P.underlying t,L3 x with
    | some (.array n _),some x'=>some (.len (some n) x')
    | some .string,some x'=>some (.lens x')
    | some (.slice _),some x'=>some (.len none x')
    | some (.map ..),some x'=>some (.mlen x')
    | some (.pointer a),some x'=>(match P.underlying a with|some (.array n _)=>some (.len (some n) x')|_=>none)
    | _,_=>none
  | _,_=>none
def low2 (c:Call) (f:LO→LO→LOp):Option LOp :=
  match c.args.toList with
  | [x,y]=>match L3 x,L3 y with|some a,some b=>some (f a b)|_,_=>none
  | _=>none
def Z5g (c:Call):Option LOp :=
  match c.args.toList,c.argTypes.toList with
  | [d,s],[td,_] =>
    match Zgq P td,L3 d,L3 s with
    | some e,some d',some s'=>(match O1 P e with|some sz=>if sz=0 then none else some (.copy sz d' s')|none=>none)
    | _,_,_=>none
  | _,_=>none
def Zwk (t:TypeId) (x:Operand) (lo hi:Option Operand):Option LOp :=
  match L3 x,Ze8 lo.toList,Ze8 hi.toList with
  | some x',some lo',some hi' =>
    (match P.underlying t with
    | some (.array n e)=>(O1 P e).bind fun sz=>if sz=0 then none else some (.sl sz (some n) x' lo'.head? hi'.head?)
    | some .string=>some (.sls x' lo'.head? hi'.head?)
    | some (.slice e)=>(O1 P e).bind fun sz=>if sz=0 then none else some (.sl sz none x' lo'.head? hi'.head?)
    | _=>none)
  | _,_,_=>none
def Zm9 (src dst:TypeId) (x:Operand):Option LOp :=
  match L3 x,P.underlying src,P.underlying dst with
  | some a,some (.int _),some (.int k)=>some (.cvi k a)
  | some a,some .string,some .string=>some (.s2s a)
  | some a,some (.int _),some .string=>some (.r2s a)
  | some a,some .string,some (.slice e)=>if Zrb P e then some (.s2b a) else none
  | some a,some (.slice e),some .string=>if Zrb P e then some (.b2s a) else none
  | some a,some (.slice _),some (.slice e)=>if src==dst&&Zrb P e then some (.b2b a) else none
  | _,_,_=>none
def Zgr (k:TypeId):Option Bool:=match P.underlying k with|some (.int _)=>some false|some .string=>some true|_=>none
def Z5h (e:TypeId):Option AV:=((P.info? e).bind (·.zero)).bind Ziv
def Z5i (t:TypeId) (m k:Operand) (ok:Bool):Option LOp :=
  match P.underlying t,L3 m,L3 k with
  | some (.map kt e),some m',some k'=>(match Zgr P kt,Z5h P e with|some str,some z=>some (.mget str z ok m' k')|_,_=>none)
  | _,_,_=>none
def Zrc (t:TypeId) (m k x:Operand):Option LOp :=
  match P.underlying t,L3 m,L3 k,L3 x with
  | some (.map kt _),some m',some k',some x'=>(Zgr P kt).map fun str=>.mput str m' k' x'
  | _,_,_,_=>none
def Z5j (c:Call):Option LOp :=
  match c.args.toList,c.argTypes.toList with
  | [m,k],[t,_] =>
    match P.underlying t,L3 m,L3 k with
    | some (.map kt _),some m',some k'=>(Zgr P kt).map fun str=>.mdel str m' k'
    | _,_,_=>none
  | _,_=>none
def Zpb (A:Ann) (o:Oper):Option LOp :=
  match o.op with
  | .move (.const (.slice none 0 0))|.assign (.const (.slice none 0 0)) =>
    (Zgq P o.type).bind fun e=>(O1 P e).map .nil
  | .move x|.assign x=>(L3 x).map .mv
  | .pick c a b=>match L3 c,L3 a,L3 b with|some c,some a,some b=>some (.pick c a b)|_,_,_=>none
  | .alloc e=>(Zcj P e).map .new
  | .box _ x=>(L3 x).map .box
  | .build t parts =>
    (match P.underlying t,Zcj P t with
    | some (.struct fs),some z=>(fs.toList.mapM (fun f=>(P.info? f.type).map fun i=>(f.offset,i.size))).bind fun places=>(Za9 (fun i=>places.toArray[i]?) parts.toList).map (.build z)
    | some (.array _ e),some z=>(O1 P e).bind fun n=>(Za9 (fun i=>some (i*n,n)) parts.toList).map (.build z)
    | _,_=>none)
  | .buildSlice t len parts =>
    (Zgq P t).bind fun e =>
    (match O1 P e,Zcj P e with
    | some n,some z=>if n=0∨z.length≠n∨16777216<len*n then none else (Za9 (fun i=>some (i*n,n)) parts.toList).map (.bslice n len z)
    | _,_=>none)
  | .load t a=>(match Zgg P t,L3 a with|some n,some x=>some (.ld n x)|_,_=>none)
  | .store t a x=>(match O1 P t,L3 a,L3 x with|some n,some a,some x=>some (.st n a x)|_,_,_=>none)
  | .nilCheck x=>(L3 x).map .nilck
  | .binOp op t x y _ =>
    (match op with
    | .eql=>Z5e P .eql false t x y
    | .neq=>Z5e P .neq true t x y
    | _=>(match L3 x,L3 y with|some a,some b=>some (.bin op a b)|_,_=>none))
  | .unOp op _ x=>(L3 x).map (.un op)
  | .convert src dst x=>Zm9 P src dst x
  | .sliceToArrayPointer arr x=>(match P.underlying arr with
    | some (.array n e)=>(match O1 P e,L3 x with|some sz,some a=>if sz=0 then none else some (.s2a n sz a)|_,_=>none)
    | _=>none)
  | .makeInterface t x=>(match P.underlying t with|some (.interface _)|none=>none|_=>(L3 x).map (.mkif t))
  | .makeFunc (.func f) first cap=>if first.isEmpty then (Ze8 cap.toList).map (.mkfn f) else none
  | .makeSlice t l c =>
    (Zgq P t).bind fun e =>
    (match O1 P e,Zgp P e,Zcj P e,L3 l,L3 c with
    | some n,some b,some z,some l,some c=>if n=0∨z.length≠n then none else some (.mks n b z l c)
    | _,_,_,_,_=>none)
  | .slice t x lo hi none=>Zwk P t x lo hi
  | .fieldAddr s x f=>(match P.underlying s with
    | some (.struct fs)=>(match fs[f]? with
      | some f=>(match O1 P f.type,L3 x with|some n,some a=>if n=0 then none else some (.fa a f.offset)|_,_=>none)
      | none=>none)
    | _=>none)
  | .field s x f=>(match P.underlying s with
    | some (.struct fs)=>(match fs[f]? with
      | some f=>(match Zgg P f.type,L3 x with|some n,some a=>some (.fld a f.offset n)|_,_=>none)
      | none=>none)
    | _=>none)
  | .indexAddr t x i=>(match P.underlying t,L3 x,L3 i with
    | some (.array n e),some a,some b=>(O1 P e).map fun sz=>.ia sz (some n) a b
    | some (.slice e),some a,some b=>(O1 P e).map fun sz=>.ia sz none a b
    | _,_,_=>none)
  | .index t x i=>(match P.underlying t,L3 x,L3 i with
    | some (.array n e),some a,some b=>(match O1 P e,Zgg P e with|some sz,some g=>some (.ix sz (some n) g.isSome a b)|_,_=>none)
    | some .string,some a,some b=>some (.ix 1 none false a b)
    | _,_,_=>none)
  | .extract x i=>(L3 x).map (.ext · i)
  | .panic _=>some .stop
  | .range t x=>if Yco P t then (L3 x).map .rng else none
  | .next x str=>if str then (L3 x).map .nxt else none
  | .makeMap _ none=>some .mkmap
  | .lookup t m k ok=>Z5i P t m k ok
  | .mapUpdate t m k x|.insert t m k x=>Zrc P t m k x
  | .call c =>
    (match c.callee with
    | .value f=>Z5f A f c.args
    | .builtin .append=>Zpa P c
    | .builtin .len=>Ycp P c
    | .builtin .min=>low2 c .min
    | .builtin .max=>low2 c .max
    | .builtin .copy=>Z5g P c
    | .builtin .cap=>(match c.args.toList,c.argTypes.toList with|[x],[t]=>(match Zgq P t,L3 x with|some _,some a=>some (.cap a)|_,_=>none)|_,_=>none)
    | .builtin .delete=>Z5j P c
    | .builtin .panic=>some .stop
    | _=>none)
  | _=>none
def Ze9 (ops:Array Oper):Option (Nat × Bool)→Option (Option (Nat × Bool))
  | none=>some none
  | some (j,w)=>match (ops[j]?).bind (·.dst) with|some d=>some (some (d,w))|none=>none
def Zaa (A:Ann) (ops:Array Oper):List Oper→Option (List LOper)
  | []=>some []
  | o::os=>match Zpb P A o,Ze9 ops o.guard,Zaa A ops os with
    | some p,some g,some r=>some (⟨o.dst,p,g⟩::r)
    | _,_,_=>none
def Zb3:Code→Nat
  | .region id _ _=>id
  | .seq a b=>if Zb3 a=1000000 then Zb3 b else Zb3 a
  | .block _ a|.loop a=>Zb3 a
  | .cond _ a _=>Zb3 a
  | _=>1000000
def P7:LOp→Nat
  | .mv _|.pick ..|.build ..|.bin ..|.eqb ..|.eqa ..|.un ..|.cvi ..|.s2s _|.r2s _|.mkif ..|.mkfn ..|.fld ..|.ix ..|.ext ..|.min ..|.max ..|.cap _|.lens _|.sls ..|.stop=>0
  | .ld ..|.b2s _|.nilck _|.sl ..|.fa ..|.ia ..|.s2a ..|.len ..|.b2b _|.eqn ..=>1
  | _=>2
def Z5k:LOp→List LO
  | .mv x|.box x|.nilck x|.un _ x|.cvi _ x|.s2s x|.s2b x|.b2s x|.b2b x|.mkif _ x|.fa x _|.fld x _ _|.s2a _ _ x|.ext x _|.len _ x|.lens x|.cap x|.ld _ x|.r2s x|.rng x|.nxt x|.mlen x=>[x]
  | .nil _|.new _|.mkmap|.stop=>[]
  | .pick a b c|.mput _ a b c=>[a,b,c]
  | .build _ ps|.bslice _ _ _ ps=>ps.map (·.2.2)
  | .st _ a x|.bin _ a x|.eqb _ a x|.eqa _ _ a x|.eqn _ _ a x|.mks _ _ _ a x|.ia _ _ a x|.ix _ _ _ a x|.app _ _ a x|.appz _ _ _ a x|.copy _ a x|.min a x|.max a x|.mget _ _ _ a x|.mdel _ a x=>[a,x]
  | .mkfn _ xs=>xs
  | .sl _ _ x lo hi|.sls x lo hi=>x::(lo.toList++hi.toList)
  | .call f xs _=>f::xs
def Zwl (A:Ann) (id n:Nat):List Nat:=match tab A.ord id with|[]=>List.range n|x::l=>x::l
def Zgs {α:Type} (l:List α):List Nat→Option (List α)
  | []=>some []
  | i::is=>match l[i]?,Zgs l is with|some x,some xs=>some (x::xs)|_,_=>none
def Zgt (π:List Nat) (acc:List Nat) (o:Oper):Nat:=o.after.toList.foldl (fun s e=>if Region.binds .any e then s ||| 2 ^ π.idxOf e.on ||| acc.getD (π.idxOf e.on) 0 else s) 0
def Ziw (π:List Nat):List Oper→List Nat→List Nat
  | [],acc=>acc
  | o::os,acc=>Ziw π os (acc++[Zgt π acc o])
def Zbt (π:List Nat) (os:List Oper):List (Nat × Nat) :=
  let b:=Ziw π os []
  (List.range os.length).flatMap fun j=>(List.range j).filterMap fun i=>if (b.getD j 0).testBit i then none else some (i,j)
def Zak (lo:LOper):List Nat :=
  (Z5k lo.op).filterMap (fun|.t n=>some n|_=>none)++(match lo.guard with|some (g,_)=>[g]|none=>[])
def Ycq (x y:LOper):Bool :=
  (match x.dst with|some d => !(Zak y).contains d&&y.dst != some d|none=>true)&&(match y.dst with|some d => !(Zak x).contains d|none=>true)
def Zkw (π:List Nat) (n:Nat) (os:List Oper) (los:List LOper):Bool :=
  π.length==n&&((List.range n).all fun k=>match π[k]? with|some i => π.idxOf i==k|none=>false)&&((List.range n).all fun i => π.contains i) &&
  ((List.range n).all fun k=>match os[k]? with|some o=>o.after.all fun e => !Region.binds .any e||decide (π.idxOf e.on<k)|none=>false) &&
  (Zbt π os).all fun (i,j)=>match los[i]?,los[j]? with|some x,some y=>Ycq x y|_,_=>false
def Zpc (l:List LOper) (p:List (Nat × Nat)):List (Nat × Nat) :=
  p.filter fun (i,j)=>match l[i]?,l[j]? with|some x,some y=>P7 x.op != 0&&P7 y.op != 0&&(P7 x.op==2||P7 y.op==2)|_,_=>true
def Zna (A:Ann) (n:Nat) (ops:List Oper) (keep:List Nat):Bool :=
  ops.all (fun o=>match o.dst with|some d=>decide (d<n)&&(!(A.cross.contains d)||keep.contains d)|none=>true)&&keep.all A.cross.contains
def low (A:Ann) (n:Nat):Code→Option LCode
  | .skip=>some .skip
  | .ret=>some .ret
  | .exit k=>some (.exit k)
  | .region id ops draw =>
    (match Zaa P A ops ops.toList with
    | some l=>if !(Zna A n ops.toList (tab A.keep id)) then none else if draw then
        (match Zgs ops.toList (Zwl A id ops.size),Zgs l (Zwl A id ops.size) with
        | some os,some ls=>if Zkw (Zwl A id ops.size) ops.size os ls then some (.dreg ls (Zpc ls (Zbt (Zwl A id ops.size) os)) (tab A.keep id)) else none
        | _,_=>none)
      else some (.reg l (tab A.keep id))
    | none=>none)
  | .seq a b=>match low A n a,low A n b with|some x,some y=>some (.seq x y)|_,_=>none
  | .cond c a b=>match L3 c,low A n a,low A n b with|some z,some x,some y=>some (.cond z x y)|_,_,_=>none
  | .block k a=>(low A n a).map (.block k)
  | .loop a=>if (tab A.live (Zb3 a)).all A.cross.contains then (low A n a).map (.loop (tab A.live (Zb3 a))) else none
  | .scope a=>(low A n a).map .scope
  | .label l=>some (.label l)
  | .goto l=>some (.goto l)
  | _=>none
def Z0e:ResultVar→Option LRes
  | .tmp t=>some (.tmp t)
  | .cell a t=>(Zgg P t).map (.cell a)
def Zhg:List ResultVar→Option (List LRes)
  | []=>some []
  | r::rs=>match Z0e P r,Zhg rs with|some a,some as=>some (a::as)|_,_=>none
def Ycr (A:Ann) (f:Func):Option LFn :=
  match f.body with
  | some c =>
    if (List.range (f.params.size+f.nfree)).all A.cross.contains&&decide (f.params.size+f.nfree≤f.ntmps) then
      (match low P A f.ntmps c,Zhg P f.results.toList with|some x,some rs=>some ⟨f.params.size+f.nfree,rs,x⟩|_,_=>none)
    else none
  | none=>none
end
end Cod
namespace Cod
open Go
structure Fr (c:Ctx) (ρ:Nat→AV) (N:Nat) (a:Act):Prop where
  slots:∀ t,VR c (ρ t) (a.tmps.getD t undef)
  defers:a.defers=[]
  size:a.tmps.size=N
theorem Znb (c:Ctx):∀ {v:Value} {x:AV},X8 v=some x→VR c x v:=by
  intro v x h
  cases v with
  | int k n=>simp only [X8,Option.some.injEq] at h;subst h;simp [VR]
  | bool b=>simp only [X8,Option.some.injEq] at h;subst h;simp [VR]
  | string s=>simp only [X8,Option.some.injEq] at h;subst h;simp [VR]
  | pointer a=>cases a<;>simp only [X8,Option.some.injEq,reduceCtorEq] at h;subst h;simp [VR]
  | slice a n m =>
    cases a with
    | some a=>simp [X8] at h
    | none =>
      cases n with
      | succ n=>simp [X8] at h
      | zero=>cases m with
        | succ m=>simp [X8] at h
        | zero=>simp only [X8,Option.some.injEq] at h;subst h;simp [VR]
  | map r=>cases r<;>simp only [X8,Option.some.injEq,reduceCtorEq] at h;subst h;simp [VR]
  | nilIface=>simp only [X8,Option.some.injEq] at h;subst h;simp [VR]
  | nilFunc=>simp only [X8,Option.some.injEq] at h;subst h;simp [VR]
  | _=>simp [X8] at h
theorem Zal (c:Ctx):∀ {vs:List Value} {xs:List AV},Zc2 vs=some xs→VRL c xs vs:=by
  intro vs
  induction vs with
  | nil=>intro xs h;simp only [Zc2,Option.some.injEq] at h;subst h;simp [VRL]
  | cons v vs ih =>
    intro xs h
    simp only [Zc2] at h
    cases h1:X8 v with
    | none=>rw [h1] at h;simp at h
    | some a =>
      cases h2:Zc2 vs with
      | none=>rw [h1,h2] at h;simp at h
      | some as =>
        rw [h1,h2] at h
        simp only [Option.some.injEq] at h
        subst h
        simp only [VRL]
        exact ⟨v,vs,rfl,Znb c h1,ih h2⟩
theorem Zlu (c:Ctx) {v:Value} {x:AV} (h:Ziv v=some x):VR c x v:=by
  cases v with
  | agg cs =>
    simp only [Ziv,Yqc] at h
    obtain ⟨xs,h1,rfl⟩:=h
    simp only [VR]
    exact ⟨cs,rfl,Zal c h1⟩
  | _=>exact Znb c h
theorem Z5l {E:Env} {c:Ctx} {sl loc:List (Nat × AV)} {N:Nat} {a:Act} (hf:Fr c (R5 sl loc) N a) (hg:∀ n,VR c (Zh4 (E.glob n)) (.pointer (some ⟨n,0,none⟩)))
    {x:Operand} {lx:LO} (h:L3 x=some lx):VR c (evR E sl loc lx) (a.eval x):=by
  cases x with
  | tmp t=>simp only [L3,Option.some.injEq] at h;subst h;exact hf.slots t
  | const v=>simp only [L3,Yqc] at h;obtain ⟨x,h1,rfl⟩:=h;exact Zlu c h1
  | global g=>simp only [L3,Option.some.injEq] at h;subst h;exact hg g
  | func f=>simp only [L3,Option.some.injEq] at h;subst h;simp [evR,Act.eval,VR,VRL]
theorem Ycs {E:Env} {c:Ctx} {sl loc:List (Nat × AV)} {N:Nat} {a:Act} (hf:Fr c (R5 sl loc) N a) (hg:∀ n,VR c (Zh4 (E.glob n)) (.pointer (some ⟨n,0,none⟩))) :
    ∀ {xs:List Operand} {lxs:List LO},Ze8 xs=some lxs→VRL c (lxs.map (evR E sl loc)) (xs.map a.eval):=by
  intro xs
  induction xs with
  | nil=>intro lxs h;simp only [Ze8,Option.some.injEq] at h;subst h;simp [VRL]
  | cons x xs ih =>
    intro lxs h
    simp only [Ze8] at h
    cases h1:L3 x with
    | none=>rw [h1] at h;simp at h
    | some y =>
      cases h2:Ze8 xs with
      | none=>rw [h1,h2] at h;simp at h
      | some ys =>
        rw [h1,h2] at h
        simp only [Option.some.injEq] at h
        subst h
        simp only [List.map_cons,VRL]
        exact ⟨_,_,rfl,Z5l hf hg h1,ih h2⟩
section
variable (E:Env) (w0:World) (O0:Nat→Prop) (σ0:A6) (L0:Lay) (P:Program) (σ:A6) (L:Lay) (w:World) (o:Oper) (a:Act)
def N7 (v:AV) (u:Ups):Prop :=
  ∀ (next:Act→World→Prop) (Q:Exit→Act→World→Prop),
    (∀ y w' L',Rel E w0 O0 σ0 L0 (E3 σ u) L' w'→CLe (ctx σ L w) (ctx (E3 σ u) L' w')→VR (ctx (E3 σ u) L' w') v y→next (a.put o.dst y) w')→o.wp P a w next Q
end
variable {E:Env} {w0:World} {O0:Nat→Prop} {σ0:A6} {L0:Lay} {P:Program} {σ:A6} {L:Lay} {w:World} {o:Oper} {a:Act}
theorem O3 {v:AV} {u:Ups} {y:Value} {w':World} {L':Lay} (hr:(execOp a.eval o).run P w=.ok (.value y) w') (h1:Rel E w0 O0 σ0 L0 (E3 σ u) L' w')
    (h2:CLe (ctx σ L w) (ctx (E3 σ u) L' w')) (h3:VR (ctx (E3 σ u) L' w') v y):N7 E w0 O0 σ0 L0 P σ L w o a v u:=by
  intro next Q hn
  unfold Oper.wp
  rw [hr]
  exact hn y w' L' h1 h2 h3
theorem Zhh {u:Ups} {w':World} {L':Lay} (hr:(execOp a.eval o).run P w=.ok .skip w') (h1:Rel E w0 O0 σ0 L0 (E3 σ u) L' w')
    (h2:CLe (ctx σ L w) (ctx (E3 σ u) L' w')):N7 E w0 O0 σ0 L0 P σ L w o a .und u:=by
  intro next Q hn
  unfold Oper.wp
  rw [hr]
  exact hn undef w' L' h1 h2 (by simp [VR])
theorem D7 (h:Rel E w0 O0 σ0 L0 σ L w) {v:AV} {y:Value} (hr:(execOp a.eval o).run P w=.ok (.value y) w) (hv:VR (ctx σ L w) v y):N7 E w0 O0 σ0 L0 P σ L w o a v [] :=
  O3 (u:=[]) hr h (CLe.refl _) hv
theorem Z0 {t:TypeId} {n:Nat} (h:O1 P t=some n) (w:World):(Go.sizeOf t).run P w=.ok n w:=by
  unfold O1 at h
  simp only [Yqc] at h
  obtain ⟨i,h1,h2⟩:=h
  simp [Go.sizeOf,typeInfo,h1,h2]
theorem Yct {t:TypeId} {z:List AV} (h:Zcj P t=some z) (w:World):∃ zv,(zeroValue t).run P w=.ok zv w∧Zc2 zv.cells.toList=some z:=by
  unfold Zcj at h
  cases h1:(P.info? t).bind (·.zero) with
  | none=>rw [h1] at h;cases h
  | some zv =>
    rw [h1] at h
    simp only [Option.bind_eq_some_iff] at h1
    obtain ⟨i,h2,h3⟩:=h1
    exact ⟨zv,by simp [zeroValue,typeInfo,h2,h3],h⟩
theorem Zhi {t:TypeId} {x:Option Nat} (h:Zgg P t=some x) (w:World) :
    (isAgg t).run P w=.ok x.isSome w∧∀ n,x=some n→(Go.sizeOf t).run P w=.ok n w:=by
  unfold Zgg at h
  cases hu:P.underlying t with
  | none=>rw [hu] at h;simp at h
  | some d =>
    cases hi:P.info? t with
    | none=>rw [hu,hi] at h;cases d<;>simp at h
    | some i =>
      rw [hu,hi] at h
      have hs:(Go.sizeOf t).run P w=.ok i.size w:=by simp [Go.sizeOf,typeInfo,hi]
      cases d<;>simp only [Option.some.injEq] at h<;>subst h<;>refine ⟨by simp [isAgg,run_underlying hu],fun n hn=>?_⟩<;>first|(cases hn;exact hs)|cases hn
theorem Zab (b off n:Nat):(⟨b,off,none⟩:Addr).add n=⟨b,off+n,none⟩:=Addr.add_lit b off n
theorem Zrd {c:Ctx} {b off n:Nat} {xs:List AV} (hw:c.w=w) (h:VRC c b off xs) (hn:xs.length=n) :
    ∃ vs:List Value,VRL c xs vs∧vs.length=n∧(loadCells ⟨b,off,none⟩ n).run P w=.ok vs.toArray w:=by
  obtain ⟨vs,h1,h2⟩:=Ze7 h
  have hl:=J0 h1
  refine ⟨vs,h1,by omega,?_⟩
  have:=run_loadCells_list (P:=P) w ⟨b,off,none⟩ vs (fun j v hj=>by rw [Zab,←hw];exact h2 j v hj)
  rw [show vs.length=n by omega] at this
  exact this
theorem Zbl {α:Type} {xs:List α} {o n:Nat} (h:o+n≤xs.length):(sub xs o n).length=n:=by
  unfold sub
  rw [Yqd,Yqe]
  omega
def Zlv (xs:List AV) (off:Nat):Option Nat→AV→Prop
  | none,v=>xs[off]? = some v
  | some n,v=>off+n≤xs.length∧v=.agg (sub xs off n)
theorem Zix {c:Ctx} {b o off:Nat} {t:TypeId} {n:Option Nat} {xs:List AV} (hw:c.w=w) (hn:Zgg P t=some n) (h:VRC c b o xs) {v:AV}
    (hv:Zlv xs off n v) :
    ∃ y,(loadVar t ⟨b,o+off,none⟩).run P w=.ok y w∧VR c v y:=by
  obtain ⟨h1,h2⟩:=Zhi hn w
  cases n with
  | none =>
    obtain ⟨y,h3,h4⟩:=Zer h hv
    refine ⟨y,?_,h4⟩
    rw [hw] at h3
    simp [loadVar,h1,h3]
  | some n =>
    obtain ⟨hb,rfl⟩:=hv
    obtain ⟨vs,h3,h4,h5⟩:=Zrd (P:=P) (w:=w) (n:=n) hw (Zdk h off n) (Zbl hb)
    refine ⟨.agg vs.toArray,?_,?_⟩
    · simp [loadVar,h1,h2 n rfl,h5]
    · simp only [VR];exact ⟨_,rfl,by simpa using h3⟩
theorem K2 {s:Site} {e:Ent} (h:A9 σ s=some e):(ctx σ L w).T s=some (e.g,e.alive):=by
  show (A9 σ s).map _=_
  rw [h];rfl
theorem L1 {s:Site} {g:Nat} {α:Type} {k:Ent→Acc α} {x : α} (h:((U5 s g).bind k).run σ=some x):∃ e,A9 σ s=some e∧e.alive=true∧e.g=g∧(k e).run σ=some x:=by
  simp only [U5,Acc.bind,Acc.run] at h
  cases h1:A9 σ s with
  | none=>rw [h1] at h;simp [Zv1,Acc.bind,Acc.run] at h
  | some e =>
    rw [h1] at h
    simp only [Zv1] at h
    by_cases hc:e.alive=true∧e.g=g
    · rw [if_pos hc] at h;exact ⟨e,rfl,hc.1,hc.2,h⟩
    · rw [if_neg hc] at h;simp [Acc.bind,Acc.run] at h
theorem Zfn (h:StoreOK σ L w) {s:Site} {g off:Nat} {y:Value} (hv:VR (ctx σ L w) (.ref s g off) y) {e:Ent} (he:A9 σ s=some e) (ha:e.alive=true) (hg:e.g=g) :
    ∃ b o,L s=some (b,o)∧y=.pointer (some ⟨b,o+off,none⟩)∧Zgf w b (o+e.cells.length)∧VRC (ctx σ L w) b o e.cells:=by
  simp only [VR] at hv
  obtain ⟨_,g0,al,h1,_,h3⟩:=hv
  rw [K2 he] at h1
  simp only [Option.some.injEq,Prod.mk.injEq] at h1
  obtain ⟨h4,h5⟩:=h1
  obtain ⟨b,o,h6,h7,h10⟩:=h3 (by rw [←h5];exact ha) (by omega)
  obtain ⟨h8,h9⟩:=h.free he ha h6 h10
  exact ⟨b,o,h6,h7,h8,h9⟩
theorem Ze3 {s:Site} {g off n z:Nat} {y:Value} (hv:VR (ctx σ L w) (.buf s g off n z) y) {e:Ent} (he:A9 σ s=some e) (ha:e.alive=true) (hg:e.g=g) :
    N9 (ctx σ L w) s off n z y:=by
  simp only [VR] at hv
  obtain ⟨_,g0,al,h1,_,h3⟩:=hv
  rw [K2 he] at h1
  simp only [Option.some.injEq,Prod.mk.injEq] at h1
  obtain ⟨h4,h5⟩:=h1
  exact h3 (by rw [←h5];exact ha) (by omega)
theorem Ziy {b n m:Nat} {w:World} {y:Value} {f:Nat→Value} {g:Nat→Nat} {q0:Nat→Value} (h:(n=0∧Zby w b 0∧∃ q,y=q0 q)∨∃ cap,y=f cap∧m≤cap∧Zby w b (g cap)):Zby w b 0:=by
  rcases h with ⟨_,h,_⟩|⟨_,_,_,h⟩
  · exact h
  · exact h.zero
theorem ok_mv (h:Rel E w0 O0 σ0 L0 σ L w) {x:Operand} {v:AV} (ho:o.op=.move x∨o.op=.assign x) (hv:VR (ctx σ L w) v (a.eval x)) {r:AV × Ups} (hr:(one v).run σ=some r) :
    N7 E w0 O0 σ0 L0 P σ L w o a r.1 r.2:=by
  simp only [one,Acc.run,Option.some.injEq] at hr
  subst hr
  refine D7 h (y:=a.eval x) ?_ hv
  rcases ho with ho|ho<;>simp [execOp,ho]
theorem Yk3 (h:Rel E w0 O0 σ0 L0 σ L w) {c x y:Operand} {vc vx vy:AV} (ho:o.op=.pick c x y) (hc:VR (ctx σ L w) vc (a.eval c)) (hx:VR (ctx σ L w) vx (a.eval x)) (hy:VR (ctx σ L w) vy (a.eval y))
    {r:AV × Ups} (hr:(Zv4 vc vx vy).run σ=some r):N7 E w0 O0 σ0 L0 P σ L w o a r.1 r.2:=by
  cases vc<;>simp only [Zv4,Acc.run,reduceCtorEq] at hr
  rename_i t
  simp only [one,Acc.run,Option.some.injEq] at hr
  subst hr
  simp only [VR] at hc
  cases t with
  | true=>exact D7 h (y:=a.eval x) (by simp [execOp,ho,hc,asBool]) hx
  | false=>exact D7 h (y:=a.eval y) (by simp [execOp,ho,hc,asBool]) hy
theorem ok_ld (h:Rel E w0 O0 σ0 L0 σ L w) {t:TypeId} {x:Operand} {n:Option Nat} {v:AV} (ho:o.op=.load t x) (ht:Zgg P t=some n) (hv:VR (ctx σ L w) v (a.eval x))
    {r:AV × Ups} (hr:(ldV n v).run σ=some r):N7 E w0 O0 σ0 L0 P σ L w o a r.1 r.2:=by
  have key:∀ (b o' off:Nat) (cs:List AV) (r':AV × Ups),a.eval x=.pointer (some ⟨b,o'+off,none⟩)→VRC (ctx σ L w) b o' cs →
      (match n with|none=>optV cs[off]? | some n=>aggV cs off n).run σ=some r'→N7 E w0 O0 σ0 L0 P σ L w o a r'.1 r'.2:=by
    intro b o' off cs r' hx hc hr'
    have:∃ v',r'=(v',[])∧Zlv cs off n v':=by
      cases n with
      | none =>
        simp only at hr'
        cases hcs:cs[off]? with
        | none=>rw [hcs] at hr';simp [optV,Acc.run] at hr'
        | some v'=>rw [hcs] at hr';simp only [optV,one,Acc.run,Option.some.injEq] at hr';exact ⟨v',hr'.symm,hcs⟩
      | some n =>
        simp only [aggV] at hr'
        by_cases hle:off+n≤cs.length
        · rw [if_pos hle] at hr';simp only [one,Acc.run,Option.some.injEq] at hr';exact ⟨_,hr'.symm,hle,rfl⟩
        · rw [if_neg hle] at hr';simp [Acc.run] at hr'
    obtain ⟨v',rfl,hv'⟩:=this
    obtain ⟨y,h1,h2⟩:=Zix (P:=P) (w:=w) (c:=ctx σ L w) rfl ht hc hv'
    refine D7 h (y:=y) ?_ h2
    simp [execOp,ho,Instr.loadAt,Instr.sureAddr,hx,h1]
  cases v with
  | fp cs off =>
    simp only [VR] at hv
    obtain ⟨_,b,o',h1,h2,h3,h4⟩:=hv
    refine key b o' off cs r h1 h4 ?_
    cases n<;>exact hr
  | ref s g off =>
    have hr':((U5 s g).bind (ldC n off)).run σ=some r:=by cases n<;>exact hr
    obtain ⟨e,he,ha,hg,hk⟩:=L1 hr'
    obtain ⟨b,o',h1,h2,h3,h4⟩:=Zfn h.store hv he ha hg
    refine key b o' off e.cells r h2 h4 ?_
    cases n<;>exact hk
  | _=>cases n<;>simp [ldV,Acc.run] at hr
theorem Zbm {s:Site} {g:Nat} {x:AV} {r:AV × Ups} (h:(still1 s g x).run σ=some r):r=(x,[])∧∃ e,A9 σ s=some e∧e.alive=true∧e.g=g:=by
  obtain ⟨e,h1,h2,h3,h4⟩:=L1 h
  simp only [Acc.run,Option.some.injEq] at h4
  exact ⟨h4.symm,e,h1,h2,h3⟩
theorem Ycu (h:Rel E w0 O0 σ0 L0 σ L w) {x:Operand} {v:AV} (ho:o.op=.nilCheck x) (hv:VR (ctx σ L w) v (a.eval x))
    {r:AV × Ups} (hr:(Zkq v).run σ=some r):N7 E w0 O0 σ0 L0 P σ L w o a r.1 r.2:=by
  cases v<;>simp only [Zkq,one,Acc.run,Option.some.injEq,reduceCtorEq] at hr
  case fp cs off =>
    subst hr
    have hv':=hv
    simp only [VR] at hv'
    obtain ⟨_,b,o',h1,_⟩:=hv'
    exact D7 h (y:=a.eval x) (by simp [execOp,ho,h1]) hv
  case ref s g off =>
    obtain ⟨rfl,e,he,ha,hg⟩:=Zbm hr
    obtain ⟨b,o',_,h2,_⟩:=Zfn h.store hv he ha hg
    exact D7 h (y:=a.eval x) (by simp [execOp,ho,h2]) hv
  case clo f cap =>
    subst hr
    have hv':=hv
    simp only [VR] at hv'
    obtain ⟨vs,h1,_⟩:=hv'
    exact D7 h (y:=a.eval x) (by simp [execOp,ho,h1]) hv
end Cod
namespace Cod
open Go
variable {E:Env} {w0:World} {O0:Nat→Prop} {σ0:A6} {L0:Lay} {P:Program} {σ:A6} {L:Lay} {w:World} {o:Oper} {a:Act}
theorem Zkx (l:List UInt8):(⟨l.toArray⟩:ByteArray).toList=l:=by rw [ByteArray.toList_eq]
theorem Zc3 {x:Option AV} {r:AV × Ups} (h:(optV x).run σ=some r):∃ v,x=some v∧r=(v,[]):=by
  cases x with
  | none=>simp [optV,Acc.run] at h
  | some v=>simp only [optV,one,Acc.run,Option.some.injEq] at h;exact ⟨v,rfl,h.symm⟩
theorem B0 {α:Type} {x y : α} (h:(Acc.ret x).run σ=some y):y=x:=by
  simp only [Acc.run,Option.some.injEq] at h;exact h.symm
theorem D2 {α:Type} {y : α} {p:Prop} (h:(Acc.fail:Acc α).run σ=some y):p:=by simp [Acc.run] at h
theorem I2 {α:Type} {c:Prop} [Decidable c] {x:Acc α} {y : α} (h:(if c then x else Acc.fail).run σ=some y):c∧x.run σ=some y:=by
  by_cases hc:c
  · rw [if_pos hc] at h;exact ⟨hc,h⟩
  · rw [if_neg hc] at h;exact D2 h
theorem Zcw {α:Type} {c:Prop} [Decidable c] {x:Option α} {y : α} (h:(if c then x else none)=some y):c∧x=some y:=by
  by_cases hc:c
  · rw [if_pos hc] at h;exact ⟨hc,h⟩
  · rw [if_neg hc] at h;cases h
theorem Z0f (t:TypeId) (op:BinOp) (k:IntKind) (x y:Int) (v:AV) (hop:op≠.shl∧op≠.shr) (h:Y7 op k x y=some v) :
    ∃ u,(binOp op t (.int k x) (.int k y)).run P w=.ok u w∧∀ c,VR c v u:=by
  obtain ⟨h1,h2⟩:=hop
  cases op<;>simp only [Y7,Option.some.injEq,reduceCtorEq] at h<;>first
    | (exact absurd rfl h1)|(exact absurd rfl h2)
    | (subst h;exact ⟨_,by simp [binOp,Op.intArith,Op.intBits,Op.intCmp];rfl,fun c=>by simp [VR]⟩)
    | skip
  · by_cases hy:y=0
    · rw [if_pos hy] at h;cases h
    · rw [if_neg hy] at h;cases h;exact ⟨_,by simp [binOp,Op.intDiv,hy];rfl,fun c=>by simp [VR]⟩
  · by_cases hy:y=0
    · rw [if_pos hy] at h;cases h
    · rw [if_neg hy] at h;cases h;exact ⟨_,by simp [binOp,Op.intDiv,hy];rfl,fun c=>by simp [VR]⟩
theorem Zre (t:TypeId) (op:BinOp) (k k':IntKind) (x y:Int) (v:AV) (hop:op=.shl∨op=.shr) (h:Zgl op k x y=some v) :
    ∃ u,(binOp op t (.int k x) (.int k' y)).run P w=.ok u w∧∀ c,VR c v u:=by
  unfold Zgl at h
  by_cases hy:y<0
  · rw [if_pos hy] at h;cases h
  · rw [if_neg hy] at h
    rcases hop with rfl|rfl
    · simp only [Option.some.injEq] at h;subst h
      exact ⟨_,by simp [binOp,Op.shift,hy];rfl,fun c=>by simp [VR,Nat.min_def]⟩
    · simp only [Option.some.injEq] at h;subst h
      exact ⟨_,by simp [binOp,Op.shift,hy];rfl,fun c=>by simp [VR,Nat.min_def]⟩
theorem Z0g (t:TypeId) (op:BinOp) (x y:List UInt8) (v:AV) (h:Z0b op x y=some v) :
    ∃ u,(binOp op t (.string ⟨x.toArray⟩) (.string ⟨y.toArray⟩)).run P w=.ok u w∧∀ c,VR c v u:=by
  cases op<;>simp only [Z0b,Option.some.injEq,reduceCtorEq] at h<;>first
    | (subst h;exact ⟨_,by simp [binOp,Op.stringOp,Zkx];rfl,fun c=>by simp [VR]⟩)
    | skip
  obtain ⟨h1,h2⟩:=Zcw h
  cases h2
  refine ⟨.string (⟨x.toArray⟩++⟨y.toArray⟩),?_,fun c=>?_⟩
  · have:¬ ((((⟨x.toArray⟩:ByteArray).size+(⟨y.toArray⟩:ByteArray).size:Nat):Int) > IntKind.i64.max):=by
      simp only [ByteArray.size,Yqf,IntKind.max_i64];omega
    simp only [binOp,Op.stringOp]
    rw [if_neg this]
    rfl
  · simp only [VR]
    congr 1
theorem Z0h (h:Rel E w0 O0 σ0 L0 σ L w) {op:BinOp} {t t':TypeId} {x y:Operand} {vx vy:AV} (ho:o.op=.binOp op t x y t') (hx:VR (ctx σ L w) vx (a.eval x)) (hy:VR (ctx σ L w) vy (a.eval y))
    {r:AV × Ups} (hr:(optV (J2 op vx vy)).run σ=some r):N7 E w0 O0 σ0 L0 P σ L w o a r.1 r.2:=by
  obtain ⟨v,h1,rfl⟩:=Zc3 hr
  cases vx<;>simp only [J2,reduceCtorEq] at h1
  case int k n =>
    cases vy<;>simp only [reduceCtorEq] at h1
    rename_i k' m
    simp only [VR] at hx hy
    have key:∃ u,(binOp op t (.int k n) (.int k' m)).run P w=.ok u w∧∀ c,VR c v u:=by
      by_cases hop:op=.shl∨op=.shr
      · refine Zre t op k k' n m v hop ?_
        rcases hop with rfl|rfl<;>exact h1
      · have hop':op≠.shl∧op≠.shr:=⟨fun e=>hop (.inl e),fun e=>hop (.inr e)⟩
        have h2:(if k=k' then Y7 op k n m else none)=some v:=by
          cases op<;>first|exact h1|exact absurd rfl hop'.1|exact absurd rfl hop'.2
        obtain ⟨rfl,h3⟩:=Zcw h2
        exact Z0f t op k n m v hop' h3
    obtain ⟨u,h3,h4⟩:=key
    refine D7 h (y:=u) ?_ (h4 _)
    simp [execOp,ho,hx,hy,eqGuard_at_int,h3]
  case str s =>
    cases vy<;>simp only [reduceCtorEq] at h1
    rename_i s'
    simp only [VR] at hx hy
    obtain ⟨u,h3,h4⟩:=Z0g (P:=P) (w:=w) t op s s' v h1
    refine D7 h (y:=u) ?_ (h4 _)
    simp [execOp,ho,hx,hy,eqGuard_at_string,h3]
theorem ok_eqb (h:Rel E w0 O0 σ0 L0 σ L w) {op:BinOp} {neg:Bool} (hop:(op=.eql∧neg=false)∨(op=.neq∧neg=true)) {t t':TypeId} (ht:P.underlying t=some .bool) {x y:Operand} {vx vy:AV}
    (ho:o.op=.binOp op t x y t') (hx:VR (ctx σ L w) vx (a.eval x)) (hy:VR (ctx σ L w) vy (a.eval y))
    {r:AV × Ups} (hr:(optV (Zv0 neg vx vy)).run σ=some r):N7 E w0 O0 σ0 L0 P σ L w o a r.1 r.2:=by
  obtain ⟨v,h1,rfl⟩:=Zc3 hr
  cases vx<;>simp only [Zv0,reduceCtorEq] at h1
  cases vy<;>simp only [Option.some.injEq,reduceCtorEq] at h1
  subst h1
  rename_i b b'
  simp only [VR] at hx hy
  refine D7 h (y:=.bool (bif neg then !(b==b') else b==b')) ?_ (by simp [VR])
  have he:(Op.equal t (.bool b) (.bool b')).run P w=.ok (b==b') w:=run_equalIn_bool' (P:=P) w 9999 t b b' ht
  rcases hop with ⟨rfl,rfl⟩|⟨rfl,rfl⟩
  · have h2:binOp .eql t (.bool b) (.bool b')=(do pure (.bool (←Op.equal t (.bool b) (.bool b')))):=rfl
    simp [execOp,ho,hx,hy,eqGuard_at_bool,h2,he]
  · have h2:binOp .neq t (.bool b) (.bool b')=(do pure (.bool (!(←Op.equal t (.bool b) (.bool b'))))):=rfl
    simp [execOp,ho,hx,hy,eqGuard_at_bool,h2,he]
theorem ok_un (h:Rel E w0 O0 σ0 L0 σ L w) {op:UnOp} {t:TypeId} {x:Operand} {vx:AV} (ho:o.op=.unOp op t x) (hx:VR (ctx σ L w) vx (a.eval x))
    {r:AV × Ups} (hr:(optV (Zq5 op vx)).run σ=some r):N7 E w0 O0 σ0 L0 P σ L w o a r.1 r.2:=by
  obtain ⟨v,h1,rfl⟩:=Zc3 hr
  cases op<;>cases vx<;>simp only [Zq5,Option.some.injEq,reduceCtorEq] at h1<;>subst h1<;>simp only [VR] at hx <;>
    refine D7 h (y:=?_) ?_ (by simp only [VR];rfl)<;>simp [execOp,ho,hx,Op.unary,Op.intArith,Op.intBits]
theorem ok_cvi (h:Rel E w0 O0 σ0 L0 σ L w) {s t:TypeId} {x:Operand} {vx:AV} {k:IntKind} {dsc:TypeDesc} (hs:P.underlying s=some dsc) (ht:P.underlying t=some (.int k)) (ho:o.op=.convert s t x)
    (hx:VR (ctx σ L w) vx (a.eval x)) {r:AV × Ups} (hr:(Zq7 k vx).run σ=some r):N7 E w0 O0 σ0 L0 P σ L w o a r.1 r.2:=by
  cases vx<;>simp only [Zq7,one,Acc.run,Option.some.injEq,reduceCtorEq] at hr
  rename_i k' n
  subst hr
  simp only [VR] at hx
  exact D7 h (y:=.int k (k.wrap n)) (by simp [execOp,ho,hx,convert,run_underlying hs,run_underlying ht,Conv.intToInt]) (by simp [VR])
theorem ok_s2s (h:Rel E w0 O0 σ0 L0 σ L w) {s t:TypeId} {x:Operand} {vx:AV} (hs:P.underlying s=some .string) (ht:P.underlying t=some .string) (ho:o.op=.convert s t x)
    (hx:VR (ctx σ L w) vx (a.eval x)) {r:AV × Ups} (hr:(s2sV vx).run σ=some r):N7 E w0 O0 σ0 L0 P σ L w o a r.1 r.2:=by
  cases vx<;>simp only [s2sV,one,Acc.run,Option.some.injEq,reduceCtorEq] at hr
  subst hr
  have hx':=hx
  simp only [VR] at hx
  exact D7 h (y:=a.eval x) (by simp [execOp,ho,hx,convert,run_underlying hs,run_underlying ht]) hx'
theorem Z65:∀ {x:AV},K1 x=true→U2 x=true:=by intro x h;cases x<;>simp_all [K1,U2]
theorem Yk4 (h:Rel E w0 O0 σ0 L0 σ L w) {t:TypeId} {dsc:TypeDesc} (ht:P.underlying t=some dsc) (hd:∀ ms,dsc≠.interface ms) {x:Operand} {vx:AV} (ho:o.op=.makeInterface t x)
    (hx:VR (ctx σ L w) vx (a.eval x)) {r:AV × Ups} (hr:(Zoz t vx).run σ=some r):N7 E w0 O0 σ0 L0 P σ L w o a r.1 r.2:=by
  have key:r=(.ifc t vx,[]):=by
    cases vx<;>simp only [Zoz] at hr<;>obtain ⟨_,h2⟩:=I2 hr<;>exact B0 h2
  subst key
  refine D7 h (y:=.iface t (a.eval x)) ?_ (by simp only [VR];exact ⟨_,rfl,hx⟩)
  cases dsc<;>first|exact absurd rfl (hd _)|simp [execOp,ho,Instr.makeInterface,run_underlying ht]
theorem Yk5 (h:Rel E w0 O0 σ0 L0 σ L w) {f:FuncId} {first cap:Array Operand} (hfi:first = #[]) {vs:List AV} (ho:o.op=.makeFunc (.func f) first cap) (hx:VRL (ctx σ L w) vs (cap.toList.map a.eval))
    {r:AV × Ups} (hr:(one (.clo f vs)).run σ=some r):N7 E w0 O0 σ0 L0 P σ L w o a r.1 r.2:=by
  have key:=B0 hr
  subst key
  subst hfi
  refine D7 h (y:=.func (.func f) #[] (cap.map a.eval)) (by simp [execOp,ho,Instr.makeFunc]) ?_
  simp only [VR]
  exact ⟨_,rfl,by simpa using hx⟩
theorem ok_ext (h:Rel E w0 O0 σ0 L0 σ L w) {x:Operand} {i:Nat} {vx:AV} (ho:o.op=.extract x i) (hx:VR (ctx σ L w) vx (a.eval x))
    {r:AV × Ups} (hr:(extV i vx).run σ=some r):N7 E w0 O0 σ0 L0 P σ L w o a r.1 r.2:=by
  cases vx<;>simp only [extV] at hr<;>try exact D2 hr
  obtain ⟨v,h1,rfl⟩:=Zc3 hr
  simp only [VR] at hx
  obtain ⟨vs,h2,h3⟩:=hx
  obtain ⟨u,h4,h5⟩:=Zdj h3 h1
  refine D7 h (y:=u) ?_ h5
  have h4':vs[i]? = some u:=by simpa using h4
  simp [execOp,ho,Instr.extract,h2,h4']
theorem Ycv {cs:List AV} {off n:Nat} {r:AV × Ups} (h:(aggV cs off n).run σ=some r):off+n≤cs.length∧r=(.agg (sub cs off n),[]):=by
  obtain ⟨h1,h2⟩:=I2 h
  exact ⟨h1,B0 h2⟩
theorem Zfa {t:TypeId} {n:Option Nat} (hn:Zgg P t=some n) {c:Ctx} {cs:List AV} {vs:Array Value} (h:VRL c cs vs.toList) {off:Nat} {v:AV} (hv:Zlv cs off n v) :
    ∃ y,(part t vs off).run P w=.ok y w∧VR c v y:=by
  obtain ⟨h1,h2⟩:=Zhi hn w
  cases n with
  | none =>
    obtain ⟨u,h3,h4⟩:=Zdj h hv
    refine ⟨u,?_,h4⟩
    have h3':vs[off]? = some u:=by simpa using h3
    simp [part,h1,h3']
  | some n =>
    obtain ⟨hb,rfl⟩:=hv
    refine ⟨.agg (vs.extract off (off+n)),by simp [part,h1,h2 n rfl],?_⟩
    simp only [VR]
    refine ⟨_,rfl,?_⟩
    have:(vs.extract off (off+n)).toList=sub vs.toList off n:=by
      simp [sub,Array.toList_extract,Yqg]
    rw [this]
    exact Yk2 h off n
theorem ok_fld (h:Rel E w0 O0 σ0 L0 σ L w) {s:TypeId} {x:Operand} {i:Nat} {fs:Array Field} {f:Field} (hs:P.underlying s=some (.struct fs)) (hf:fs[i]? = some f) {n:Option Nat} (hn:Zgg P f.type=some n)
    {vx:AV} (ho:o.op=.field s x i) (hx:VR (ctx σ L w) vx (a.eval x)) {r:AV × Ups} (hr:(Zv5 f.offset n vx).run σ=some r):N7 E w0 O0 σ0 L0 P σ L w o a r.1 r.2:=by
  cases vx<;>try (cases n<;>simp only [Zv5] at hr<;>exact D2 hr)
  rename_i cs
  simp only [VR] at hx
  obtain ⟨vs,h2,h3⟩:=hx
  have:∃ v,r=(v,[])∧Zlv cs f.offset n v:=by
    cases n with
    | none=>simp only [Zv5] at hr;obtain ⟨v,h1,h4⟩:=Zc3 hr;exact ⟨v,h4,h1⟩
    | some n=>simp only [Zv5] at hr;obtain ⟨h1,h4⟩:=Ycv hr;exact ⟨_,h4,h1,rfl⟩
  obtain ⟨v,rfl,hv⟩:=this
  obtain ⟨y,h4,h5⟩:=Zfa (P:=P) (w:=w) hn h3 hv
  exact D7 h (y:=y) (by simp [execOp,ho,Instr.field,run_underlying hs,hf,asAgg,h2,h4]) h5
theorem ok_fa (h:Rel E w0 O0 σ0 L0 σ L w) {s:TypeId} {x:Operand} {i:Nat} {fs:Array Field} {f:Field} (hs:P.underlying s=some (.struct fs)) (hf:fs[i]? = some f) {n:Nat} (hn:O1 P f.type=some n) (hn0:n≠0)
    {vx:AV} (ho:o.op=.fieldAddr s x i) (hx:VR (ctx σ L w) vx (a.eval x)) {r:AV × Ups} (hr:(faV f.offset vx).run σ=some r):N7 E w0 O0 σ0 L0 P σ L w o a r.1 r.2:=by
  have key:∀ b off,a.eval x=.pointer (some ⟨b,off,none⟩)→(execOp a.eval o).run P w=.ok (.value (.pointer (some ⟨b,off+f.offset,none⟩))) w:=by
    intro b off hb
    simp [execOp,ho,Instr.fieldAt,run_underlying hs,hf,Instr.sureAddr,hb,fieldPlace,Z0 hn,hn0,Zab]
  cases vx<;>simp only [faV] at hr<;>try exact D2 hr
  case fp cs off =>
    have k:=B0 hr
    subst k
    simp only [VR] at hx
    obtain ⟨hfl,b,o',h1,h2⟩:=hx
    refine D7 h (key b _ h1) ?_
    simp only [VR]
    exact ⟨hfl,b,o',by rw [Yqh],h2⟩
  case ref s' g off =>
    obtain ⟨rfl,e,he,ha,hg⟩:=Zbm hr
    obtain ⟨b,o',h1,h2,hfr,_⟩:=Zfn h.store hx he ha hg
    refine D7 h (key b _ h2) ?_
    simp only [VR]
    exact ⟨rfl,e.g,true,by rw [K2 he,ha],by omega,fun _ _=>⟨b,o',h1,by rw [Yqh],hfr.room⟩⟩
theorem Zco {t ty e:TypeId} (he:P.underlying t=some (.slice e)) (base:Option Addr) (n c:Nat):(Builtin.len_ #[t] ty #[.slice base n c]).run P w=.ok (.int .i64 n) w:=by
  have h1:P.elem t=e:=by simp [Program.elem,he]
  exact run_len_slice w t ty base n c (by rw [h1];exact he)
theorem Z0i (h:Rel E w0 O0 σ0 L0 σ L w) {arr:Option Nat} {x:Operand} {t t':TypeId} {c:Call} (hc:c.callee=.builtin .len) (hca:c.args = #[x]) (hct:c.argTypes = #[t])
    (hu:match arr with
      | some n=>P.underlying t=some (.array n t')∨(∃ p,P.underlying t=some (.pointer p)∧P.underlying p=some (.array n t'))
      | none=>∃ e,P.underlying t=some (.slice e))
    {vx:AV} (ho:o.op=.call c) (hx:VR (ctx σ L w) vx (a.eval x)) {r:AV × Ups} (hr:(Zls arr vx).run σ=some r) :
    N7 E w0 O0 σ0 L0 P σ L w o a r.1 r.2:=by
  have hcall:∀ y,(Builtin.len_ #[t] o.type #[a.eval x]).run P w=.ok y w→(execOp a.eval o).run P w=.ok (.value y) w:=by
    intro y hy
    simp [execOp,ho,resolve,hc,hca,hct,invoke,builtin,hy]
  cases arr with
  | some n =>
    have k:r=(.int .i64 n,[]):=by cases vx<;>exact B0 hr
    subst k
    refine D7 h (hcall (.int .i64 n) ?_) (by simp [VR])
    rcases hu with hu|⟨p,hu,hp⟩
    · simp [Builtin.len_,run_underlying hu,goInt]
    · simp [Builtin.len_,run_underlying hu,run_underlying hp,goInt]
  | none =>
    cases vx<;>simp only [Zls] at hr<;>try exact D2 hr
    case nils =>
      have k:=B0 hr
      subst k
      obtain ⟨e,he⟩:=hu
      simp only [VR] at hx
      refine D7 h (hcall (.int .i64 0) ?_) (by simp [VR])
      rw [hx];exact Zco he _ _ _
    case lst cs n =>
      have k:=B0 hr
      subst k
      obtain ⟨e,he⟩:=hu
      simp only [VR] at hx
      refine D7 h (hcall (.int .i64 n) ?_) (by simp [VR])
      rcases hx.2 with ⟨_,h2,h3⟩|⟨b,o',cap,h3,_⟩
      · subst h2;rw [h3];exact Zco he _ _ _
      · rw [h3];exact Zco he _ _ _
    case buf s g off n z =>
      obtain ⟨rfl,e,hge,hal,hgg⟩:=Zbm hr
      obtain ⟨e',he⟩:=hu
      have hb:=Ze3 hx hge hal hgg
      refine D7 h (hcall (.int .i64 n) ?_) (by simp [VR])
      unfold N9 at hb
      split at hb
      · rcases hb with ⟨h4,_,q,h3⟩|⟨cap,h3,_⟩
        · subst h4;rw [h3];exact Zco he _ _ _
        · rw [h3];exact Zco he _ _ _
      · obtain ⟨h3,_,h4⟩:=hb
        subst h4
        rw [h3];exact Zco he _ _ _
theorem Yk6 (h:Rel E w0 O0 σ0 L0 σ L w) {x:Operand} {t:TypeId} {c:Call} (hc:c.callee=.builtin .len) (hca:c.args = #[x]) (hct:c.argTypes = #[t]) (hu:P.underlying t=some .string)
    {vx:AV} (ho:o.op=.call c) (hx:VR (ctx σ L w) vx (a.eval x)) {r:AV × Ups} (hr:(Zv6 vx).run σ=some r):N7 E w0 O0 σ0 L0 P σ L w o a r.1 r.2:=by
  cases vx<;>simp only [Zv6] at hr<;>try exact D2 hr
  rename_i l
  have k:=B0 hr
  subst k
  simp only [VR] at hx
  refine D7 h (y:=.int .i64 l.length) ?_ (by simp [VR])
  have:=run_len_string (P:=P) w t o.type ⟨l.toArray⟩ hu
  simp only [goInt,ByteArray.size] at this
  simp [execOp,ho,resolve,hc,hca,hct,invoke,builtin,hx,this]
theorem ok_min (h:Rel E w0 O0 σ0 L0 σ L w) {x y:Operand} {c:Call} (hc:c.callee=.builtin .min) (hca:c.args = #[x,y]) {vx vy:AV} (ho:o.op=.call c) (hx:VR (ctx σ L w) vx (a.eval x)) (hy:VR (ctx σ L w) vy (a.eval y))
    {r:AV × Ups} (hr:(minV vx vy).run σ=some r):N7 E w0 O0 σ0 L0 P σ L w o a r.1 r.2:=by
  cases vx<;>simp only [minV] at hr<;>try exact D2 hr
  cases vy<;>simp only at hr<;>try exact D2 hr
  obtain ⟨rfl,h2⟩:=I2 hr
  have k:=B0 h2
  subst k
  simp only [VR] at hx hy
  refine D7 h (y:=.int _ _) ?_ (by simp only [VR];rfl)
  simp [execOp,ho,resolve,hc,hca,invoke,builtin,Builtin.min_,Builtin.min2,hx,hy]
theorem ok_max (h:Rel E w0 O0 σ0 L0 σ L w) {x y:Operand} {c:Call} (hc:c.callee=.builtin .max) (hca:c.args = #[x,y]) {vx vy:AV} (ho:o.op=.call c) (hx:VR (ctx σ L w) vx (a.eval x)) (hy:VR (ctx σ L w) vy (a.eval y))
    {r:AV × Ups} (hr:(maxV vx vy).run σ=some r):N7 E w0 O0 σ0 L0 P σ L w o a r.1 r.2:=by
  cases vx<;>simp only [maxV] at hr<;>try exact D2 hr
  cases vy<;>simp only at hr<;>try exact D2 hr
  obtain ⟨rfl,h2⟩:=I2 hr
  have k:=B0 h2
  subst k
  simp only [VR] at hx hy
  refine D7 h (y:=.int _ _) ?_ (by simp only [VR];rfl)
  simp [execOp,ho,resolve,hc,hca,invoke,builtin,Builtin.max_,Builtin.max2,hx,hy]
end Cod
namespace Cod
open Go
variable {E:Env} {w0:World} {O0:Nat→Prop} {σ0:A6} {L0:Lay} {P:Program} {σ:A6} {L:Lay} {w:World} {o:Oper} {a:Act}
theorem ok_ia (h:Rel E w0 O0 σ0 L0 σ L w) {arr:Option Nat} {t e:TypeId} {x i:Operand} {sz:Nat} (hs:O1 P e=some sz)
    (hu:match arr with|some n=>P.underlying t=some (.array n e)|none=>P.underlying t=some (.slice e))
    {vx vi:AV} (ho:o.op=.indexAddr t x i) (hx:VR (ctx σ L w) vx (a.eval x)) (hi:VR (ctx σ L w) vi (a.eval i)) {r:AV × Ups} (hr:(iaV sz arr vx vi).run σ=some r) :
    N7 E w0 O0 σ0 L0 P σ L w o a r.1 r.2:=by
  have key1:∀ (n:Nat) b off k (j:Int),P.underlying t=some (.array n e)→a.eval x=.pointer (some ⟨b,off,none⟩)→a.eval i=.int k j→0≤j→j<n →
      (execOp a.eval o).run P w=.ok (.value (.pointer (some ⟨b,off+j.toNat*sz,none⟩))) w:=by
    intro n b off k j hu hb hj h0 h1
    have e1:P.arrayLen t=n:=by simp [Program.arrayLen,hu]
    have e2:P.elem t=e:=by simp [Program.elem,hu]
    have:=run_indexAt_array (P:=P) w t ⟨b,off,none⟩ k j (by rw [e1,e2];exact hu)
    rw [if_pos ⟨h0,by rw [e1];exact h1⟩,e2,Z0 hs] at this
    simp [execOp,ho,hb,hj,this,Zab]
  have key2:∀ (n cap:Nat) b off k (j:Int),P.underlying t=some (.slice e)→a.eval x=.slice (some ⟨b,off,none⟩) n cap→a.eval i=.int k j→0≤j→j<n →
      (execOp a.eval o).run P w=.ok (.value (.pointer (some ⟨b,off+j.toNat*sz,none⟩))) w:=by
    intro n cap b off k j hu hb hj h0 h1
    have e2:P.elem t=e:=by simp [Program.elem,hu]
    have:=run_indexAt_slice (P:=P) w t ⟨b,off,none⟩ n cap k j (by rw [e2];exact hu)
    rw [if_pos ⟨h0,h1⟩,e2,Z0 hs] at this
    simp [execOp,ho,hb,hj,this,Zab]
  cases vi<;>try (cases arr<;>cases vx<;>simp only [iaV] at hr<;>exact D2 hr)
  rename_i k j
  simp only [VR] at hi
  cases arr with
  | some n =>
    cases vx<;>simp only [iaV] at hr<;>try exact D2 hr
    case fp cs off =>
      obtain ⟨⟨h0,h1⟩,h2⟩:=I2 hr
      have k:=B0 h2
      subst k
      simp only [VR] at hx
      obtain ⟨hfl,b,o',h3,h4⟩:=hx
      refine D7 h (key1 n b _ _ j hu h3 hi h0 h1) ?_
      simp only [VR]
      exact ⟨hfl,b,o',by rw [Yqh],h4⟩
    case ref s g off =>
      obtain ⟨⟨h0,h1⟩,h2⟩:=I2 hr
      obtain ⟨rfl,e',he,ha,hg⟩:=Zbm h2
      obtain ⟨b,o',h3,h4,hfr,_⟩:=Zfn h.store hx he ha hg
      refine D7 h (key1 n b _ _ j hu h4 hi h0 h1) ?_
      simp only [VR]
      exact ⟨rfl,e'.g,true,by rw [K2 he,ha],by omega,fun _ _=>⟨b,o',h3,by rw [Yqh],hfr.room⟩⟩
  | none =>
    cases vx<;>simp only [iaV] at hr<;>try exact D2 hr
    case lst cs n =>
      obtain ⟨⟨h0,h1⟩,h2⟩:=I2 hr
      have k:=B0 h2
      subst k
      simp only [VR] at hx
      rcases hx.2 with ⟨_,h3,_⟩|⟨b,o',cap,h3,hcap,h4,h5,h6⟩
      · omega
      · refine D7 h (key2 n cap b _ _ j hu h3 hi h0 h1) ?_
        simp only [VR]
        exact ⟨hx.1,b,o',rfl,h4,h5,h6⟩
    case buf s g off n z =>
      obtain ⟨⟨h0,h1,rfl⟩,h2⟩:=I2 hr
      obtain ⟨rfl,e',he,ha,hg⟩:=Zbm h2
      have hb:=Ze3 hx he ha hg
      unfold N9 at hb
      split at hb
      · rename_i b o' hl
        rcases hb with ⟨h4,_⟩|⟨cap,h3,_,hro⟩
        · omega
        refine D7 h (key2 n cap b _ _ j hu h3 hi h0 h1) ?_
        simp only [VR]
        exact ⟨rfl,e'.g,true,by rw [K2 he,ha],by omega,fun _ _=>⟨b,o',hl,by rw [Yqh],hro.zero⟩⟩
      · omega
theorem Ycw (l:List UInt8) (i:Nat):(⟨l.toArray⟩:ByteArray)[i]? = l[i]? := by
  simp only [getElem?_def,ByteArray.size,Yqf]
  split
  · rfl
  · rfl
theorem Z66 (h:Rel E w0 O0 σ0 L0 σ L w) {t:TypeId} {x i:Operand} (hu:P.underlying t=some .string) {sz:Nat} {g:Bool}
    {vx vi:AV} (ho:o.op=.index t x i) (hx:VR (ctx σ L w) vx (a.eval x)) (hi:VR (ctx σ L w) vi (a.eval i)) {r:AV × Ups} (hr:(ixV sz g none vx vi).run σ=some r) :
    N7 E w0 O0 σ0 L0 P σ L w o a r.1 r.2:=by
  cases vi<;>try (cases vx<;>simp only [ixV] at hr<;>exact D2 hr)
  rename_i k j
  cases vx<;>simp only [ixV] at hr<;>try exact D2 hr
  rename_i l
  obtain ⟨h0,h1⟩:=I2 hr
  cases hb:l[j.toNat]? with
  | none=>rw [hb] at h1;exact D2 h1
  | some u =>
    rw [hb] at h1
    have k:=B0 h1
    subst k
    simp only [VR] at hx hi
    refine D7 h (y:=.int .u8 u.toNat) ?_ (by simp [VR])
    simp [execOp,ho,Instr.index,hi,hx,asIntOf,run_underlying hu,h0,Ycw,hb]
theorem Z67 (h:Rel E w0 O0 σ0 L0 σ L w) {t e:TypeId} {x i:Operand} {n sz:Nat} {g:Option Nat} (hu:P.underlying t=some (.array n e)) (hs:O1 P e=some sz) (hg:Zgg P e=some g)
    {vx vi:AV} (ho:o.op=.index t x i) (hx:VR (ctx σ L w) vx (a.eval x)) (hi:VR (ctx σ L w) vi (a.eval i)) {r:AV × Ups} (hr:(ixV sz g.isSome (some n) vx vi).run σ=some r) :
    N7 E w0 O0 σ0 L0 P σ L w o a r.1 r.2:=by
  cases vi<;>try (cases vx<;>simp only [ixV] at hr<;>exact D2 hr)
  rename_i k j
  cases vx<;>simp only [ixV] at hr<;>try exact D2 hr
  rename_i cs
  obtain ⟨⟨h0,h1,h2⟩,h3⟩:=I2 hr
  simp only [VR] at hx hi
  obtain ⟨vs,h4,h5⟩:=hx
  have hsz:∀ m,g=some m→m=sz:=by
    intro m hm
    have a1:=(Zhi hg w).2 m hm
    have a2:=Z0 hs w
    rw [a1] at a2
    cases a2
    rfl
  have:∃ v,r=(v,[])∧Zlv cs (j.toNat*sz) g v:=by
    cases g with
    | none =>
      simp only [Option.isSome_none,cond_false] at h3
      obtain ⟨v,h6,h7⟩:=Zc3 h3
      exact ⟨v,h7,h6⟩
    | some m =>
      simp only [Option.isSome_some,cond_true] at h3
      have:=hsz m rfl
      subst this
      exact ⟨_,B0 h3,h2,rfl⟩
  obtain ⟨v,rfl,hv⟩:=this
  obtain ⟨y,h6,h7⟩:=Zfa (P:=P) (w:=w) hg h5 hv
  refine D7 h (y:=y) ?_ h7
  have h0':0≤j∧j<(n:Int):=⟨h0,h1⟩
  simp [execOp,ho,Instr.index,hi,h4,asIntOf,run_underlying hu,h0',Z0 hs,h6]
theorem ok_s2a (h:Rel E w0 O0 σ0 L0 σ L w) {arr e:TypeId} {x:Operand} {n sz:Nat} (hu:P.underlying arr=some (.array n e))
    {vx:AV} (ho:o.op=.sliceToArrayPointer arr x) (hx:VR (ctx σ L w) vx (a.eval x)) {r:AV × Ups} (hr:(s2aV n sz vx).run σ=some r) :
    N7 E w0 O0 σ0 L0 P σ L w o a r.1 r.2:=by
  have key:∀ (m cap:Nat) b off,a.eval x=.slice (some ⟨b,off,none⟩) m cap→n≤m→(execOp a.eval o).run P w=.ok (.value (.pointer (some ⟨b,off,none⟩))) w:=by
    intro m cap b off hb hm
    simp [execOp,ho,Instr.arrayAt,hb,run_underlying hu,Nat.not_lt.2 hm]
  cases vx<;>simp only [s2aV] at hr<;>try exact D2 hr
  case lst cs m =>
    obtain ⟨⟨h0,h1,h2⟩,h3⟩:=I2 hr
    have k:=B0 h3
    subst k
    simp only [VR] at hx
    rcases hx.2 with ⟨_,h4,_⟩|⟨b,o',cap,h4,hcap,h5⟩
    · omega
    · refine D7 h (key m cap b o' h4 h0) ?_
      simp only [VR]
      exact ⟨hx.1,b,o',rfl,h5⟩
  case buf s g off m z =>
    obtain ⟨⟨h0,rfl,h2⟩,h3⟩:=I2 hr
    obtain ⟨rfl,e',he,ha,hg⟩:=Zbm h3
    have hb:=Ze3 hx he ha hg
    unfold N9 at hb
    split at hb
    · rename_i b o' hl
      rcases hb with ⟨h4,_⟩|⟨cap,h4,_,hro⟩
      · omega
      refine D7 h (key m cap b _ h4 h0) ?_
      simp only [VR]
      exact ⟨rfl,e'.g,true,by rw [K2 he,ha],by omega,fun _ _=>⟨b,o',hl,rfl,hro.zero⟩⟩
    · omega
theorem Zes (h:StoreOK σ L w) {kd:Nat} {x:AV} {y:Value} (hv:VR (ctx σ L w) x y) {b:Bool} (hr:(Zge kd x).run σ=some b) :
    (kd=0∧∃ p,y=.pointer p∧p.isNone=b)∨(kd=1∧∃ p n c,y=.slice p n c∧p.isNone=b)∨(kd=2∧b=true∧y=.map none)∨(kd=3∧((b=true∧y=.nilFunc)∨(b=false∧∃ f vs,y=.func f #[] vs))) ∨
    (kd=4∧((b=true∧y=.nilIface)∨(b=false∧∃ t v,y=.iface t v))):=by
  unfold Zge at hr
  split at hr
  · have k:=B0 hr;subst k;simp only [VR] at hv;exact .inl ⟨rfl,none,hv,rfl⟩
  · have k:=B0 hr;subst k;simp only [VR] at hv;obtain ⟨_,b',o',h1,_⟩:=hv;exact .inl ⟨rfl,_,h1,rfl⟩
  · obtain ⟨e,he,ha,hg,h2⟩:=L1 hr
    have k:=B0 h2;subst k
    obtain ⟨b',o',_,h3,_⟩:=Zfn h hv he ha hg
    exact .inl ⟨rfl,_,h3,rfl⟩
  · have k:=B0 hr;subst k;simp only [VR] at hv;exact .inr (.inl ⟨rfl,none,0,0,hv,rfl⟩)
  · have k:=B0 hr;subst k;simp only [VR] at hv
    rcases hv.2 with ⟨_,h1,_⟩|⟨b',o',cap,h1,_⟩
    · omega
    · exact .inr (.inl ⟨rfl,_,_,_,h1,rfl⟩)
  · obtain ⟨e,he,ha,hg,h2⟩:=L1 hr
    have k:=B0 h2;subst k
    have hb:=Ze3 hv he ha hg
    unfold N9 at hb
    split at hb
    · rcases hb with ⟨h4,_⟩|⟨cap,h4,_⟩
      · omega
      · exact .inr (.inl ⟨rfl,_,_,_,h4,rfl⟩)
    · omega
  · have k:=B0 hr;subst k;simp only [VR] at hv;exact .inr (.inr (.inl ⟨rfl,rfl,hv⟩))
  · have k:=B0 hr;subst k;simp only [VR] at hv;exact .inr (.inr (.inr (.inl ⟨rfl,.inl ⟨rfl,hv⟩⟩)))
  · have k:=B0 hr;subst k;simp only [VR] at hv;obtain ⟨vs,h1,_⟩:=hv;exact .inr (.inr (.inr (.inl ⟨rfl,.inr ⟨rfl,_,_,h1⟩⟩)))
  · have k:=B0 hr;subst k;simp only [VR] at hv;exact .inr (.inr (.inr (.inr ⟨rfl,.inl ⟨rfl,hv⟩⟩)))
  · have k:=B0 hr;subst k;simp only [VR] at hv;obtain ⟨v,h1,_⟩:=hv;exact .inr (.inr (.inr (.inr ⟨rfl,.inr ⟨rfl,_,_,h1⟩⟩)))
  · exact D2 hr
def Ycx:Nat→TypeDesc→Prop
  | 0,d=>∃ e,d=.pointer e
  | 1,d=>∃ e,d=.slice e
  | 2,d=>∃ k e,d=.map k e
  | 3,d=>∃ p r v,d=.func p r v
  | 4,d=>∃ ms,d=.interface ms
  | _,_=>False
theorem G8 {α β:Type} {x:Acc α} {f : α→Acc β} {y : β} (h:(x.bind f).run σ=some y):∃ a,x.run σ=some a∧(f a).run σ=some y:=by
  rw [Acc.run_bind] at h
  cases hx:x.run σ with
  | none=>rw [hx] at h;cases h
  | some a=>rw [hx] at h;exact ⟨a,rfl,h⟩
theorem Zrf {kd:Nat} {t:TypeId} {d:TypeDesc} (hu:P.underlying t=some d) (hk:Ycx kd d) {x y:Value} {b b':Bool} (hb:(b||b')=true) (h:StoreOK σ L w) {vx vy:AV}
    (hx:VR (ctx σ L w) vx x) (hy:VR (ctx σ L w) vy y) (h1:(Zge kd vx).run σ=some b) (h2:(Zge kd vy).run σ=some b') :
    (∀ d,(Op.equalIn (d+1) t x y).run P w=.ok (b&&b') w)∧∀ op (o1 o2:Operand),(kd=4→(∃ c,o1=.const c)∨(∃ c,o2=.const c))→(eqGuard op t o1 o2 x y).run P w=.ok () w:=by
  rcases Zes h hx h1 with ⟨rfl,p,rfl,rfl⟩|⟨rfl,p,n,c,rfl,rfl⟩|⟨rfl,rfl,rfl⟩|⟨rfl,hh⟩|⟨rfl,hh⟩
  · rcases Zes h hy h2 with ⟨_,p',rfl,rfl⟩|⟨h3,_⟩|⟨h3,_⟩|⟨h3,_⟩|⟨h3,_⟩<;>try omega
    obtain ⟨e,rfl⟩:=hk
    refine ⟨fun d=>?_,fun op o1 o2 _=>by simp [eqGuard_at_pointer]⟩
    cases p<;>cases p'<;>simp at hb<;>simp [Op.equalIn,run_underlying hu]
  · rcases Zes h hy h2 with ⟨h3,_⟩|⟨_,p',n',c',rfl,rfl⟩|⟨h3,_⟩|⟨h3,_⟩|⟨h3,_⟩<;>try omega
    obtain ⟨e,rfl⟩:=hk
    refine ⟨fun d=>?_,fun op o1 o2 _=>by simp [eqGuard_at_slice]⟩
    cases p<;>cases p'<;>simp at hb<;>simp [Op.equalIn,run_underlying hu]
  · rcases Zes h hy h2 with ⟨h3,_⟩|⟨h3,_⟩|⟨_,rfl,rfl⟩|⟨h3,_⟩|⟨h3,_⟩<;>try omega
    obtain ⟨k,e,rfl⟩:=hk
    refine ⟨fun d=>?_,fun op o1 o2 _=>by simp [eqGuard_at_map]⟩
    simp [Op.equalIn,run_underlying hu]
  · rcases Zes h hy h2 with ⟨h3,_⟩|⟨h3,_⟩|⟨h3,_⟩|⟨_,hh'⟩|⟨h3,_⟩<;>try omega
    obtain ⟨p,r,v,rfl⟩:=hk
    rcases hh with ⟨rfl,rfl⟩|⟨rfl,f,vs,rfl⟩<;>rcases hh' with ⟨rfl,rfl⟩|⟨rfl,f',vs',rfl⟩
    · exact ⟨fun d=>by simp [Op.equalIn,run_underlying hu],fun op o1 o2 _=>by simp [eqGuard_at_nilFunc]⟩
    · exact ⟨fun d=>by simp [Op.equalIn,run_underlying hu],fun op o1 o2 _=>by simp [eqGuard_at_nilFunc]⟩
    · exact ⟨fun d=>by simp [Op.equalIn,run_underlying hu],fun op o1 o2 _=>by simp [eqGuard_at_func]⟩
    · simp at hb
  · rcases Zes h hy h2 with ⟨h3,_⟩|⟨h3,_⟩|⟨h3,_⟩|⟨h3,_⟩|⟨_,hh'⟩<;>try omega
    obtain ⟨ms,rfl⟩:=hk
    rcases hh with ⟨rfl,rfl⟩|⟨rfl,t1,v1,rfl⟩<;>rcases hh' with ⟨rfl,rfl⟩|⟨rfl,t2,v2,rfl⟩
    · refine ⟨fun d=>by simp [Op.equalIn,run_underlying hu],fun op o1 o2 hc=>?_⟩
      rcases hc rfl with ⟨c,rfl⟩|⟨c,rfl⟩
      · simp [eqGuard_nil_constL]
      · simp [eqGuard_nil_constR]
    · exact ⟨fun d=>by simp [Op.equalIn,run_underlying hu],fun op o1 o2 _=>by simp [eqGuard_nil_iface]⟩
    · exact ⟨fun d=>by simp [Op.equalIn,run_underlying hu],fun op o1 o2 _=>by simp [eqGuard_at_iface]⟩
    · simp at hb
theorem Znc (h:Rel E w0 O0 σ0 L0 σ L w) {op:BinOp} {neg:Bool} (hop:(op=.eql∧neg=false)∨(op=.neq∧neg=true)) {t t':TypeId} {d:TypeDesc} {kd:Nat} (hu:P.underlying t=some d) (hk:Ycx kd d) {x y:Operand} {vx vy:AV}
    (hcon:kd=4→(∃ c,x=.const c)∨(∃ c,y=.const c)) (ho:o.op=.binOp op t x y t') (hx:VR (ctx σ L w) vx (a.eval x)) (hy:VR (ctx σ L w) vy (a.eval y))
    {r:AV × Ups} (hr:(eqnV kd neg vx vy).run σ=some r):N7 E w0 O0 σ0 L0 P σ L w o a r.1 r.2:=by
  obtain ⟨b,h1,h2⟩:=G8 hr
  obtain ⟨b',h3,h4⟩:=G8 h2
  unfold eqnB at h4
  cases hbb:(b||b') with
  | false=>rw [hbb] at h4;exact D2 h4
  | true =>
    rw [hbb] at h4
    have k:=B0 h4
    subst k
    obtain ⟨h5,h6⟩:=Zrf (P:=P) hu hk hbb h.store hx hy h1 h3
    have he:(Op.equal t (a.eval x) (a.eval y)).run P w=.ok (b&&b') w:=h5 9999
    refine D7 h (y:=.bool (bif neg then !(b&&b') else b&&b')) ?_ (by simp [VR])
    have hg:=h6 op x y hcon
    have nb:∀ v,(kd=0∧∃ p,v=Value.pointer p)∨(kd=1∧∃ p n c,v=Value.slice p n c)∨(kd=2∧v=.map none)∨(kd=3∧(v=.nilFunc∨∃ f vs,v=.func f #[] vs))∨(kd=4∧(v=.nilIface∨∃ t u,v=.iface t u)) →
        True:=fun _ _=>trivial
    have hb2:∀ (P:Program) (w:World),(binOp .eql t (a.eval x) (a.eval y)).run P w=((Op.equal t (a.eval x) (a.eval y)).run P w).andThen (fun b w'=>.ok (.bool b) w') ∧
        (binOp .neq t (a.eval x) (a.eval y)).run P w=((Op.equal t (a.eval x) (a.eval y)).run P w).andThen (fun b w'=>.ok (.bool (!b)) w'):=by
      intro P w
      rcases Zes h.store hx h1 with ⟨_,p,e1,_⟩|⟨_,p,n,c,e1,_⟩|⟨_,_,e1⟩|⟨_,⟨_,e1⟩|⟨_,f,vs,e1⟩⟩|⟨_,⟨_,e1⟩|⟨_,t1,v1,e1⟩⟩<;>rw [e1] <;>
        rcases Zes h.store hy h3 with ⟨_,p',e2,_⟩|⟨_,p',n',c',e2,_⟩|⟨_,_,e2⟩|⟨_,⟨_,e2⟩|⟨_,f',vs',e2⟩⟩|⟨_,⟨_,e2⟩|⟨_,t2,v2,e2⟩⟩<;>rw [e2] <;>
        exact ⟨Sem.run_bind _ _ _ _,Sem.run_bind _ _ _ _⟩
    rcases hop with ⟨rfl,rfl⟩|⟨rfl,rfl⟩
    · simp [execOp,ho,hg,(hb2 P w).1,he]
    · simp [execOp,ho,hg,(hb2 P w).2,he]
end Cod
namespace Cod
open Go
variable {E:Env} {w0:World} {O0:Nat→Prop} {σ0:A6} {L0:Lay} {P:Program} {σ:A6} {L:Lay} {w:World} {o:Oper} {a:Act}
def Zcx (x:Option Value) (dflt n:Nat):Prop:=(x=none∧n=dflt)∨∃ k:IntKind,x=some (.int k (n:Int))
theorem Zh5 (isS:Bool) {len cap l h:Nat} {lo hi:Option Value} (hl:Zcx lo 0 l) (hh:Zcx hi len h) (h1:l≤h) (h2:h≤cap) :
    (Instr.sliceBounds isS len cap lo hi none).run P w=.ok (l,h,cap) w:=by
  have e1:(0:Int)≤(h:Int)∧(h:Int)≤(cap:Int):=by omega
  have e2:(0:Int)≤(l:Int)∧(l:Int)≤(h:Int):=by omega
  rcases hl with ⟨rfl,rfl⟩|⟨k,rfl⟩<;>rcases hh with ⟨rfl,rfl⟩|⟨k',rfl⟩<;>simp [Instr.sliceBounds,Instr.sliceBound,asIntOf,h1,h2]
theorem Zaz {t e:TypeId} (hu:P.underlying t=some (.slice e)) {sz:Nat} (hs:O1 P e=some sz) {p:Option Addr} {len cap l h:Nat} {lo hi:Option Value} (hl:Zcx lo 0 l) (hh:Zcx hi len h) (h1:l≤h) (h2:h≤cap) :
    (Instr.sliceAt t (.slice p len cap) lo hi none).run P w=.ok (.slice (if cap=l then p else p.map (·.add (l*sz))) (h-l) (cap-l)) w:=by
  simp [Instr.sliceAt,run_underlying hu,Instr.slice,Zh5 true hl hh h1 h2,Z0 hs]
theorem Zrg {t:TypeId} (hu:P.underlying t=some .string) {s:ByteArray} {l h:Nat} {lo hi:Option Value} (hl:Zcx lo 0 l) (hh:Zcx hi s.size h) (h1:l≤h) (h2:h≤s.size) :
    (Instr.sliceAt t (.string s) lo hi none).run P w=.ok (.string (s.extract l h)) w:=by
  simp [Instr.sliceAt,run_underlying hu,Instr.slice,Zh5 false hl hh h1 h2]
theorem Ziz {t e:TypeId} {n:Nat} (hu:P.underlying t=some (.array n e)) {sz:Nat} (hs:O1 P e=some sz) {p:Addr} {l h:Nat} {lo hi:Option Value} (hl:Zcx lo 0 l) (hh:Zcx hi n h) (h1:l≤h) (h2:h≤n) :
    (Instr.sliceAt t (.pointer (some p)) lo hi none).run P w=.ok (.slice (some (if n=l then p else p.add (l*sz))) (h-l) (n-l)) w:=by
  simp [Instr.sliceAt,run_underlying hu,Instr.sureAddr,Zh5 false hl hh h1 h2,Z0 hs]
theorem Zwm {c:Ctx} {x:Option LO} {y:Option Operand} {ρ:LO→AV} {ev:Operand→Value} (hxy:(x=none∧y=none)∨∃ u v,x=some u∧y=some v∧VR c (ρ u) (ev v)) {k:IntKind} {l:Int} (h:loV (x.map ρ)=.int k l) (h0:0≤l) :
    Zcx (y.map ev) 0 l.toNat:=by
  rcases hxy with ⟨rfl,rfl⟩|⟨u,v,rfl,rfl,hv⟩
  · simp only [Yqi,loV,AV.int.injEq] at h
    exact .inl ⟨rfl,by omega⟩
  · simp only [Yqb,loV] at h
    rw [h] at hv
    simp only [VR] at hv
    exact .inr ⟨k,by simp only [Yqb,hv];rw [Yqj h0]⟩
theorem Zwn {c:Ctx} {x:Option LO} {y:Option Operand} {ρ:LO→AV} {ev:Operand→Value} (hxy:(x=none∧y=none)∨∃ u v,x=some u∧y=some v∧VR c (ρ u) (ev v)) {n:Nat} {k:IntKind} {l:Int} (h:hiV n (x.map ρ)=.int k l) (h0:0≤l) :
    Zcx (y.map ev) n l.toNat:=by
  rcases hxy with ⟨rfl,rfl⟩|⟨u,v,rfl,rfl,hv⟩
  · simp only [Yqi,hiV,AV.int.injEq] at h
    exact .inl ⟨rfl,by omega⟩
  · simp only [Yqb,hiV] at h
    rw [h] at hv
    simp only [VR] at hv
    exact .inr ⟨k,by simp only [Yqb,hv];rw [Yqj h0]⟩
theorem Znd (t:List UInt8) (l h:Nat):(⟨t.toArray⟩:ByteArray).extract l h=⟨(sub t l (h-l)).toArray⟩:=by
  apply ByteArray.ext
  simp [sub,Yqg]
def SlTy (P:Program) (t:TypeId) (sz:Nat):Option Nat→Prop
  | some n=>∃ e,P.underlying t=some (.array n e)∧O1 P e=some sz
  | none=>∃ e,P.underlying t=some (.slice e)∧O1 P e=some sz
theorem ok_sl (h:Rel E w0 O0 σ0 L0 σ L w) {arr:Option Nat} {t:TypeId} {x:Operand} {lo hi:Option Operand} {sz:Nat} {vx:AV} (hu:SlTy P t sz arr) (ho:o.op=.slice t x lo hi none)
    (hx:VR (ctx σ L w) vx (a.eval x)) {lo' hi':Option LO} {ρ:LO→AV}
    (hl:(lo'=none∧lo=none)∨∃ u v,lo'=some u∧lo=some v∧VR (ctx σ L w) (ρ u) (a.eval v)) (hh:(hi'=none∧hi=none)∨∃ u v,hi'=some u∧hi=some v∧VR (ctx σ L w) (ρ u) (a.eval v))
    {r:AV × Ups} (hr:(slV sz arr vx (loV (lo'.map ρ)) (hiV (Zd9 arr vx) (hi'.map ρ))).run σ=some r):N7 E w0 O0 σ0 L0 P σ L w o a r.1 r.2:=by
  have hcall:∀ y,(Instr.sliceAt t (a.eval x) (lo.map a.eval) (hi.map a.eval) none).run P w=.ok y w→(execOp a.eval o).run P w=.ok (.value y) w:=by
    intro y hy
    simp [execOp,ho,hy]
  cases hlv:loV (lo'.map ρ)<;>rw [hlv] at hr<;>try (simp only [slV] at hr;exact D2 hr)
  rename_i kl l
  cases hhv:hiV (Zd9 arr vx) (hi'.map ρ)<;>rw [hhv] at hr<;>try (simp only [slV] at hr;exact D2 hr)
  rename_i kh hI
  simp only [slV] at hr
  obtain ⟨⟨h0,h1,h2⟩,h3⟩:=I2 hr
  have bl:=Zwm hl hlv h0
  have bh:=Zwn hh hhv (Int.le_trans h0 h1)
  have g1:l.toNat≤hI.toNat:=by omega
  have g2:hI.toNat≤Zd9 arr vx:=by omega
  cases arr with
  | some n =>
    obtain ⟨e,hue,hse⟩:=hu
    simp only [Zd9] at bh g2
    cases vx<;>simp only [slB] at h3<;>try exact D2 h3
    case fp cs off =>
      obtain ⟨h4,h5⟩:=I2 h3
      have k:=B0 h5
      subst k
      simp only [VR] at hx
      obtain ⟨hfl,b,o',h6,h7,h8,h9⟩:=hx
      refine D7 h (hcall _ (by rw [h6];exact Ziz hue hse bl bh g1 g2)) ?_
      simp only [VR]
      refine ⟨Zks hfl _ _,.inr ⟨b,if n=l.toNat then o'+off else o'+off+l.toNat*sz,n-l.toNat,?_,by omega,h7,h8,?_⟩⟩
      · split
        · rfl
        · rw [Zab]
      · split
        · have e0:hI.toNat-l.toNat=0:=by omega
          rw [e0];simp [sub,VRC]
        · rw [Yqh];exact Zdk h9 _ _
    case ref s g off =>
      obtain ⟨e',he,ha,hg,h4⟩:=L1 h3
      obtain ⟨h5,h5'⟩:=I2 h4
      have k:=B0 h5'
      subst k
      obtain ⟨b,o',h6,h7,h8,h9⟩:=Zfn h.store hx he ha hg
      refine D7 h (hcall _ (by rw [h7];exact Ziz hue hse bl bh g1 g2)) ?_
      simp only [VR]
      refine ⟨rfl,e'.g,true,by rw [K2 he,ha],by omega,fun _ _=>?_⟩
      unfold N9
      rw [show (ctx σ L w).L s=some (b,o') from h6]
      by_cases hcl:n=l.toNat
      · refine .inl ⟨by omega,h8.room,o'+off,?_⟩
        rw [if_pos hcl]
        congr 1<;>omega
      · refine .inr ⟨n-l.toNat,?_,by omega,?_⟩
        · rw [if_neg hcl,Zab,Yqh]
        · obtain ⟨c1,c2,c3,c4,c5,c6⟩:=h8
          refine ⟨c1,c2,c3,c4,?_⟩
          have:(l.toNat+(n-l.toNat))*sz=n*sz:=by rw [show l.toNat+(n-l.toNat)=n by omega]
          rw [Nat.add_mul] at this
          omega
  | none =>
    cases vx<;>simp only [slB] at h3<;>try exact D2 h3
    case nils =>
      have k:=B0 h3
      subst k
      obtain ⟨e,hue,hse⟩:=hu
      simp only [Zd9] at bh g2
      simp only [VR] at hx
      refine D7 h (hcall _ (by rw [hx];exact Zaz hue hse bl bh g1 g2)) ?_
      have e0:l.toNat=0:=by omega
      have e1:hI.toNat=0:=by omega
      simp [VR,e0,e1]
    case lst cs n =>
      obtain ⟨h4,h5⟩:=I2 h3
      have k:=B0 h5
      subst k
      obtain ⟨e,hue,hse⟩:=hu
      simp only [Zd9] at bh g2
      simp only [VR] at hx
      obtain ⟨hfl,hx⟩:=hx
      rcases hx with ⟨h6,h7,h8⟩|⟨b,o',cap,h6,hcap,h7,h8,h9⟩
      · subst h7
        refine D7 h (hcall _ (by rw [h8];exact Zaz hue hse bl bh g1 g2)) ?_
        have e0:l.toNat=0:=by omega
        have e1:hI.toNat=0:=by omega
        simp [VR,e0,e1,h6,sub,flats]
      · refine D7 h (hcall _ (by rw [h6];exact Zaz hue hse bl bh g1 (by omega))) ?_
        simp only [VR]
        refine ⟨Zks hfl _ _,.inr ⟨b,if cap=l.toNat then o' else o'+l.toNat*sz,cap-l.toNat,?_,by omega,h7,h8,?_⟩⟩
        · split
          · rfl
          · simp only [Yqb,Zab]
        · split
          · have e0:hI.toNat-l.toNat=0:=by omega
            rw [e0];simp [sub,VRC]
          · exact Zdk h9 _ _
    case buf s g off n z =>
      obtain ⟨rfl,h5⟩:=I2 h3
      obtain ⟨rfl,e',he,ha,hg⟩:=Zbm h5
      obtain ⟨e,hue,hse⟩:=hu
      simp only [Zd9] at bh g2
      have hb:=Ze3 hx he ha hg
      unfold N9 at hb
      split at hb
      · rename_i b o' hl'
        rcases hb with ⟨h6,hrm,q,h7⟩|⟨cap,h6,h7,h8⟩
        · subst h6
          refine D7 h (hcall _ (by rw [h7];exact Zaz hue hse bl bh g1 g2)) ?_
          have e0:l.toNat=0:=by omega
          have e1:hI.toNat=0:=by omega
          simp only [VR]
          refine ⟨rfl,e'.g,true,by rw [K2 he,ha],by omega,fun _ _=>?_⟩
          unfold N9
          rw [hl']
          exact .inl ⟨by omega,hrm,q,by simp [e0,e1]⟩
        · refine D7 h (hcall _ (by rw [h6];exact Zaz hue hse bl bh g1 (by omega))) ?_
          simp only [VR]
          refine ⟨rfl,e'.g,true,by rw [K2 he,ha],by omega,fun _ _=>?_⟩
          unfold N9
          rw [hl']
          by_cases hcl:cap=l.toNat
          · refine .inl ⟨by omega,h8.zero,o'+off,?_⟩
            rw [if_pos hcl]
            congr 1<;>omega
          · refine .inr ⟨cap-l.toNat,?_,by omega,?_⟩
            · rw [if_neg hcl];simp only [Yqb,Zab,Yqh]
            · obtain ⟨c1,c2,c3,c4,c5⟩:=h8
              refine ⟨c1,c2,c3,c4,?_⟩
              have:(l.toNat+(cap-l.toNat))*z=cap*z:=by rw [show l.toNat+(cap-l.toNat)=cap by omega]
              rw [Nat.add_mul] at this
              omega
      · rename_i hl'
        obtain ⟨h6,h7,h8⟩:=hb
        subst h8
        refine D7 h (hcall _ (by rw [h6];exact Zaz hue hse bl bh g1 g2)) ?_
        have e0:l.toNat=0:=by omega
        have e1:hI.toNat=0:=by omega
        simp only [VR]
        refine ⟨rfl,e'.g,true,by rw [K2 he,ha],by omega,fun _ _=>?_⟩
        unfold N9
        rw [hl']
        simp [e0,e1,h7]
theorem ok_sls (h:Rel E w0 O0 σ0 L0 σ L w) {t:TypeId} {x:Operand} {lo hi:Option Operand} {vx:AV} (hu:P.underlying t=some .string) (ho:o.op=.slice t x lo hi none)
    (hx:VR (ctx σ L w) vx (a.eval x)) {lo' hi':Option LO} {ρ:LO→AV}
    (hl:(lo'=none∧lo=none)∨∃ u v,lo'=some u∧lo=some v∧VR (ctx σ L w) (ρ u) (a.eval v)) (hh:(hi'=none∧hi=none)∨∃ u v,hi'=some u∧hi=some v∧VR (ctx σ L w) (ρ u) (a.eval v))
    {r:AV × Ups} (hr:(slsV vx (loV (lo'.map ρ)) (hiV (Zd9 none vx) (hi'.map ρ))).run σ=some r):N7 E w0 O0 σ0 L0 P σ L w o a r.1 r.2:=by
  cases vx<;>try exact D2 hr
  rename_i s
  cases hlv:loV (lo'.map ρ)<;>rw [hlv] at hr<;>try exact D2 hr
  rename_i kl l
  cases hhv:hiV (Zd9 none (.str s)) (hi'.map ρ)<;>rw [hhv] at hr<;>try exact D2 hr
  rename_i kh hI
  simp only [slsV] at hr
  obtain ⟨⟨h0,h1,h2⟩,h3⟩:=I2 hr
  have bl:=Zwm hl hlv h0
  have bh:=Zwn hh hhv (Int.le_trans h0 h1)
  have k:=B0 h3
  subst k
  simp only [VR] at hx
  simp only [Zd9] at bh
  have hs:=Zrg (P:=P) (w:=w) hu (s:=⟨s.toArray⟩) bl (by simpa [ByteArray.size] using bh) (by omega) (by simp [ByteArray.size];omega)
  refine D7 h (y:=.string ((⟨s.toArray⟩:ByteArray).extract l.toNat hI.toNat)) ?_ (by simp only [VR];rw [Znd])
  simp [execOp,ho,hx,hs]
theorem Z0j {c:Ctx}:∀ {cs:List AV} {l:List UInt8},bytesOf cs=some l→∀ {vs:List Value},VRL c cs vs→∃ ns:List Int,vs=ns.map (Value.int .u8)∧ns.map (fun n=>UInt8.ofNat n.toNat)=l:=by
  intro cs
  induction cs with
  | nil=>intro l h vs hv;simp only [bytesOf,Option.some.injEq] at h;subst h;simp only [VRL] at hv;subst hv;exact ⟨[],rfl,rfl⟩
  | cons x cs ih =>
    intro l h vs hv
    simp only [VRL] at hv
    obtain ⟨v,r,rfl,h1,h2⟩:=hv
    cases x<;>try (simp [bytesOf] at h;done)
    rename_i k n
    cases k<;>try (simp [bytesOf] at h;done)
    simp only [bytesOf,Yqc] at h
    obtain ⟨l',h3,rfl⟩:=h
    obtain ⟨ns,h4,h5⟩:=ih h3 h2
    simp only [VR] at h1
    exact ⟨n::ns,by simp [h1,h4],by simp [h5]⟩
theorem Z0k (ns:List Int):∀ (r:ByteArray),ns.foldl (fun r n=>r.push (UInt8.ofNat n.toNat)) r=⟨(r.data.toList++ns.map fun n=>UInt8.ofNat n.toNat).toArray⟩:=by
  induction ns with
  | nil=>intro r;apply ByteArray.ext;simp
  | cons n ns ih=>intro r;simp only [Yqk,ih];apply ByteArray.ext;simp [ByteArray.push]
theorem Zne (h:StoreOK σ L w) {sz:Nat} {v:AV} {y:Value} (hv:VR (ctx σ L w) v y) {cs:List AV} {n:Nat} (hr:(U6 sz v).run σ=some (cs,n)) :
    (∃ l,v=.str l∧cs=A1 l∧n=l.length∧sz=1) ∨
    ((∀ l,v≠.str l)∧cs.length=n*sz∧((y=.slice none 0 0∧n=0∧cs=[])∨∃ b q cap,y=.slice (some ⟨b,q,none⟩) n cap∧n≤cap∧VRC (ctx σ L w) b q cs)):=by
  cases v<;>simp only [U6] at hr<;>try exact D2 hr
  case str l =>
    unfold Zm2 at hr
    split at hr
    · have k:=B0 hr;simp only [Prod.mk.injEq] at k;exact .inl ⟨l,rfl,k.1,k.2,rfl⟩
    · exact D2 hr
  case nils =>
    have k:=B0 hr
    simp only [Prod.mk.injEq] at k
    simp only [VR] at hv
    obtain ⟨rfl,rfl⟩:=k
    exact .inr ⟨by simp,by simp,.inl ⟨hv,rfl,rfl⟩⟩
  case lst cs' m =>
    obtain ⟨h1,h2⟩:=I2 hr
    have k:=B0 h2
    simp only [Prod.mk.injEq] at k
    obtain ⟨rfl,rfl⟩:=k
    simp only [VR] at hv
    refine .inr ⟨by simp,h1,?_⟩
    rcases hv.2 with ⟨h3,h4,h5⟩|⟨b,o',cap,h3,h4,_,_,h5⟩
    · exact .inl ⟨h5,h4,h3⟩
    · exact .inr ⟨b,o',cap,h3,h4,h5⟩
  case buf s g off m z =>
    obtain ⟨e,he,ha,hg,h1⟩:=L1 hr
    obtain ⟨⟨rfl,h2⟩,h3⟩:=I2 h1
    have k:=B0 h3
    simp only [Prod.mk.injEq] at k
    obtain ⟨rfl,rfl⟩:=k
    refine .inr ⟨by simp,Zbl h2,?_⟩
    have hb:=Ze3 hv he ha hg
    unfold N9 at hb
    split at hb
    · rename_i b o' hl
      have hrm:=Ziy hb
      obtain ⟨_,h5⟩:=h.free he ha hl hrm
      rcases hb with ⟨h6,_,q,h7⟩|⟨cap,h6,h7,h8⟩
      · subst h6
        refine .inr ⟨b,q,0,h7,Yp6 _,?_⟩
        simp [sub,VRC]
      · exact .inr ⟨b,o'+off,cap,h6,h7,Zdk h5 _ _⟩
    · obtain ⟨h6,h7,h8⟩:=hb
      subst h8
      exact .inl ⟨h6,rfl,by simp [sub]⟩
theorem ok_b2s (h:Rel E w0 O0 σ0 L0 σ L w) {s t e:TypeId} {x:Operand} (hs:P.underlying s=some (.slice e)) (he:Zrb P e=true) (ht:P.underlying t=some .string) {vx:AV} (ho:o.op=.convert s t x)
    (hx:VR (ctx σ L w) vx (a.eval x)) {r:AV × Ups} (hr:(Z0c vx).run σ=some r):N7 E w0 O0 σ0 L0 P σ L w o a r.1 r.2:=by
  have hns:∀ l,vx≠.str l:=by rintro l rfl;exact D2 hr
  replace hr:((U6 1 vx).bind fun p=>strV (bytesOf p.1)).run σ=some r:=by cases vx<;>first|exact hr|exact absurd rfl (hns _)
  obtain ⟨⟨cs,n⟩,h1,h2⟩:=G8 hr
  simp only at h2
  cases hb:bytesOf cs with
  | none=>rw [hb] at h2;exact D2 h2
  | some l =>
    rw [hb] at h2
    have k:=B0 h2
    subst k
    have hu:P.underlying e=some (.int .u8):=by
      unfold Zrb at he
      split at he
      · assumption
      · cases he
    rcases Zne h.store hx h1 with ⟨l',h3,_⟩|⟨_,h3,h4⟩
    · exact absurd h3 (hns l')
    · refine D7 h (y:=.string ⟨l.toArray⟩) ?_ (by simp [VR])
      rcases h4 with ⟨h5,h6,h7⟩|⟨b,q,cap,h5,_,h6⟩
      · subst h7
        simp only [bytesOf,Option.some.injEq] at hb
        subst hb
        have e0:(convert s t (.slice none 0 0)).run P w=.ok (.string .empty) w:=by
          rw [run_convert_bytes_string w s t e none 0 0 hs hu ht]
          simp [Conv.bytesToString]
        simp only [execOp,ho,h5,Sem.run_bind,e0,Result.andThen_ok,Sem.run_pure]
        rfl
      · obtain ⟨vs,h7,h8⟩:=Ze7 h6
        obtain ⟨ns,h9,h10⟩:=Z0j hb h7
        have hl:=J0 h7
        have h11:=run_loadCells_list (P:=P) w ⟨b,q,none⟩ vs (fun j v hj=>by rw [Zab];exact h8 j v hj)
        have h12:(convert s t (.slice (some ⟨b,q,none⟩) n cap)).run P w=.ok (.string ⟨l.toArray⟩) w:=by
          rw [run_convert_bytes_string w s t e _ n cap hs hu ht]
          have:=run_bytesToString (P:=P) w ⟨b,q,none⟩ n cap ns (by rw [show n=vs.length by omega,h11,h9])
          rw [this,Z0k]
          simp [h10]
        simp only [execOp,ho,h5,Sem.run_bind,h12,Result.andThen_ok,Sem.run_pure]
end Cod
namespace Cod
open Go
variable {E:Env} {w0:World} {O0:Nat→Prop} {σ0:A6} {L0:Lay} {P:Program} {σ:A6} {L:Lay} {w:World} {o:Oper} {a:Act}
theorem Z0l {s:Site} {var:Bool} {cells:List AV} {p:Nat × Ups} (h:(mk s var cells).run σ=some p) :
    (∀ e,A9 σ s=some e→e.g<p.1)∧p.2=[(s,⟨p.1,true,true,var,cells⟩)]:=by
  simp only [mk,Acc.run] at h
  cases he:A9 σ s with
  | none=>rw [he] at h;have k:=B0 h;subst k;exact ⟨by simp,rfl⟩
  | some e=>rw [he] at h;have k:=B0 h;subst k;exact ⟨by simp,rfl⟩
theorem Z68 {s:Site} {cells:List AV} {r:AV × Ups} (h:(Zlr s cells).run σ=some r) :
    ∃ g,(∀ e,A9 σ s=some e→e.g<g)∧r=(.ref s g 0,[(s,⟨g,true,true,true,cells⟩)]):=by
  obtain ⟨p,h1,h2⟩:=G8 h
  obtain ⟨h3,h4⟩:=Z0l h1
  have k:=B0 h2
  subst k
  exact ⟨p.1,h3,by rw [h4]⟩
theorem Zd5 {s:Site} {cells:List AV} {n sz:Nat} {u:Ups} {r:AV × Ups} (h:(Zdf s cells n sz u).run σ=some r) :
    ∃ g,(∀ e,A9 σ s=some e→e.g<g)∧r=(.buf s g 0 n sz,u++[(s,⟨g,true,true,false,cells⟩)]):=by
  obtain ⟨p,h1,h2⟩:=G8 h
  obtain ⟨h3,h4⟩:=Z0l h1
  have k:=B0 h2
  subst k
  exact ⟨p.1,h3,by rw [h4]⟩
theorem F5 (u v:Ups):∀ σ:A6,E3 σ (u++v)=E3 (E3 σ u) v:=by
  induction u with
  | nil=>intro σ;rfl
  | cons p u ih=>intro σ;obtain ⟨s,e⟩:=p;exact ih _
theorem Znf {c:Ctx} {x:AV} {y:Value} (hv:VR c x y) (h:U2 x=true):y.oneCell'=true:=by
  cases x with
  | agg xs=>simp [U2] at h
  | junk=>simp [U2] at h
  | und=>simp [U2] at h
  | tup xs=>simp [U2] at h
  | lst cs n=>simp only [VR] at hv;rcases hv.2 with ⟨_,_,h1⟩|⟨_,_,_,h1,_⟩<;>rw [h1]<;>rfl
  | fp cs n=>simp only [VR] at hv;obtain ⟨_,_,_,h1,_⟩:=hv;rw [h1];rfl
  | ref s g o=>simp only [VR] at hv;exact hv.1
  | buf s g o n z=>simp only [VR] at hv;exact hv.1
  | clo f cap=>simp only [VR] at hv;obtain ⟨_,h1,_⟩:=hv;rw [h1];rfl
  | ifc t x=>simp only [VR] at hv;obtain ⟨_,h1,_⟩:=hv;rw [h1];rfl
  | it s g=>simp [U2] at h
  | itr s g=>simp [U2] at h
  | mp s g=>simp [U2] at h
  | mpr s g=>simp only [VR] at hv;exact hv.1
  | any k =>
    simp only [VR] at hv
    cases k with
    | none=>rcases hv with h1|⟨_,_,h1⟩<;>rw [h1]<;>rfl
    | some k=>obtain ⟨_,h1⟩:=hv;rw [h1];rfl
  | _=>simp only [VR] at hv;rw [hv];rfl
theorem Zpd {y:Value} (h:y.oneCell'=true):y.cells = #[y]:=by
  cases y<;>first|rfl|simp [Value.oneCell'] at h
theorem Zky {c:Ctx}:∀ {xs:List AV} {vs:List Value},VRL c xs vs→J9 xs=true→∀ v∈vs,v.oneCell'=true:=by
  intro xs
  induction xs with
  | nil=>intro vs h _ v hv;simp only [VRL] at h;subst h;simp at hv
  | cons x xs ih =>
    intro vs h hh v hv
    simp only [VRL] at h
    obtain ⟨u,r,rfl,h1,h2⟩:=h
    simp only [J9,Yql] at hh
    rcases List.mem_cons.1 hv with rfl|hv
    · exact Znf h1 hh.1
    · exact ih h2 hh.2 v hv
theorem Zfb {c:Ctx} {x:AV} {y:Value} (hv:VR c x y) {cs:List AV} (h:J8 x=some cs):VRL c cs y.cells.toList:=by
  by_cases hx:U2 x=true
  · have h1:cs=[x]:=by
      cases x<;>simp_all [J8,U2]
    subst h1
    rw [Zpd (Znf hv hx)]
    exact Zeq hv
  · cases x<;>simp [J8,U2] at h hx
    rename_i xs
    subst h
    simp only [VR] at hv
    obtain ⟨vs,rfl,h2⟩:=hv
    exact h2
theorem Zwo:∀ {xs:List AV},flats xs=true→J9 xs=true:=by
  intro xs
  induction xs with
  | nil=>intro _;rfl
  | cons x xs ih=>intro h;simp only [flats,Yql] at h;simp only [J9,Yql];exact ⟨Z65 h.1,ih h.2⟩
theorem Zng (t:TypeId) (v:Value):(newVar t v).run P w=.ok ⟨w.heap.size,0,none⟩ (w.alloc (.cells v.cells t)):=by
  simp [newVar,newRow]
theorem Ycy (h:Rel E w0 O0 σ0 L0 σ L w) {d sz:Nat} {x:Operand} (ho:o.op=.move x∨o.op=.assign x) (hx:x=.const (.slice none 0 0)) {r:AV × Ups} (hr:(Zdf (.s d 0) [] 0 sz []).run σ=some r) :
    N7 E w0 O0 σ0 L0 P σ L w o a r.1 r.2:=by
  obtain ⟨g,hg,rfl⟩:=Zd5 hr
  obtain ⟨h1,h2⟩:=h.newNil hg
  refine O3 (y:=.slice none 0 0) (w':=w) (L':=H0 L (.s d 0) none) ?_ h1 h2 ?_
  · subst hx
    rcases ho with ho|ho<;>simp [execOp,ho,Act.eval]
  · simp only [VR]
    refine ⟨rfl,g,true,K2 (F0 _ _ _),Yp6 _,fun _ _=>?_⟩
    show N9 (ctx (I6 σ (.s d 0) ⟨g,true,true,false,[]⟩) (H0 L (.s d 0) none) w) _ _ _ _ _
    unfold N9
    rw [show (ctx (I6 σ (.s d 0) ⟨g,true,true,false,[]⟩) (H0 L (.s d 0) none) w).L (.s d 0)=none from I1 _ _ _]
    exact ⟨rfl,rfl,rfl⟩
theorem Z5m (h:Rel E w0 O0 σ0 L0 σ L w) {d:Nat} {t:TypeId} {cells:List AV} {v:Value} (hv:VRL (ctx σ L w) cells v.cells.toList) (hr1:(execOp a.eval o).run P w=.ok (.value (.pointer (some ⟨w.heap.size,0,none⟩))) (w.alloc (.cells v.cells t)))
    {r:AV × Ups} (hr:(Zlr (.s d 0) cells).run σ=some r):N7 E w0 O0 σ0 L0 P σ L w o a r.1 r.2:=by
  obtain ⟨g,hg,rfl⟩:=Z68 hr
  obtain ⟨h1,h2⟩:=h.new hg true hv v.cells (by simp) t (0,0) (by simp)
  refine O3 hr1 h1 h2 ?_
  simp only [VR]
  refine ⟨rfl,g,true,K2 (F0 _ _ _),Yp6 _,fun _ _=>⟨w.heap.size,0,I1 _ _ _,rfl,v.cells,t,(0,0),heap_alloc_new w _,Nat.zero_le _⟩⟩
theorem ok_new (h:Rel E w0 O0 σ0 L0 σ L w) {d:Nat} {t:TypeId} {z:List AV} (hz:Zcj P t=some z) (ho:o.op=.alloc t) {r:AV × Ups} (hr:(Zlr (.s d 0) z).run σ=some r) :
    N7 E w0 O0 σ0 L0 P σ L w o a r.1 r.2:=by
  obtain ⟨zv,h1,h2⟩:=Yct hz w
  refine Z5m h (t:=t) (v:=zv) (Zal _ h2) ?_ hr
  simp [execOp,ho,Instr.alloc,h1,Zng]
theorem ok_box (h:Rel E w0 O0 σ0 L0 σ L w) {d:Nat} {t:TypeId} {x:Operand} {vx:AV} (hx:VR (ctx σ L w) vx (a.eval x)) (ho:o.op=.box t x) {r:AV × Ups} (hr:(boxV (.s d 0) (J8 vx)).run σ=some r) :
    N7 E w0 O0 σ0 L0 P σ L w o a r.1 r.2:=by
  cases hc:J8 vx with
  | none=>rw [hc] at hr;exact D2 hr
  | some cs =>
    rw [hc] at hr
    refine Z5m h (t:=t) (v:=a.eval x) (Zfb hx hc) ?_ hr
    simp [execOp,ho,Instr.box,Zng]
theorem Zpe (vs:List Value):∀ (k off:Nat) (cs:Array Value),off+k+vs.length≤cs.size →
    ((vs.zipIdx k).foldl (fun cs (p:Value × Nat)=>cs.setIfInBounds (off+p.2) p.1) cs).toList=cs.toList.take (off+k)++vs++cs.toList.drop (off+k+vs.length):=by
  induction vs with
  | nil=>intro k off cs _;simp
  | cons v vs ih =>
    intro k off cs h
    simp only [List.zipIdx_cons,Yqk]
    rw [ih (k+1) off _ (by simp only [Array.size_setIfInBounds];simp only [Yqm] at h;omega)]
    simp only [Yqm] at h
    have hlen:off+k<cs.toList.length:=by simp;omega
    simp only [Array.toList_setIfInBounds,Yqm]
    have e1:(cs.toList.set (off+k) v).take (off+(k+1))=cs.toList.take (off+k)++[v]:=by
      rw [show off+(k+1)=(off+k)+1 by omega,List.take_add_one,List.take_set,List.set_eq_of_length_le (by simp only [Yqd];omega),List.getElem?_set_self hlen]
      rfl
    have e2:(cs.toList.set (off+k) v).drop (off+(k+1)+vs.length)=cs.toList.drop (off+k+(vs.length+1)):=by
      rw [List.drop_set]
      rw [if_pos (by omega)]
      congr 1
      omega
    rw [e1,e2]
    simp
theorem Zet {cs xs:List AV} {off:Nat} (h:off+xs.length≤cs.length):(over cs off xs).length=cs.length:=by
  unfold over
  simp only [List.length_append,Yqd,Yqe]
  omega
theorem Ycz {c:Ctx} {cs xs:List AV} {vs us:List Value} (h1:VRL c cs vs) (h2:VRL c xs us) (off:Nat):VRL c (over cs off xs) (vs.take off++us++vs.drop (off+us.length)):=by
  unfold over
  rw [J0 h2]
  exact Zai (Zai (Zm7 h1 _) h2) (Zwg h1 _)
end Cod
namespace Cod
open Go
variable {E:Env} {w0:World} {O0:Nat→Prop} {σ0:A6} {L0:Lay} {P:Program} {σ:A6} {L:Lay} {w:World} {o:Oper} {a:Act}
mutual
theorem Zmm {c:Ctx} {T':Tab} {L':Site→Option (Nat × Nat)}:∀ (x:AV) (v:Value),K1 x=true→VR c x v→VR ⟨T',L',c.O,c.w⟩ x v
  | .junk,_,h,_=>by simp [K1] at h
  | .und,_,h,_=>by simp [K1] at h
  | .int _ _,_,_,hv=>by simpa [VR] using hv
  | .bool _,_,_,hv=>by simpa [VR] using hv
  | .str _,_,_,hv=>by simpa [VR] using hv
  | .nilp,_,_,hv=>by simpa [VR] using hv
  | .nils,_,_,hv=>by simpa [VR] using hv
  | .nilf,_,_,hv=>by simpa [VR] using hv
  | .nili,_,_,hv=>by simpa [VR] using hv
  | .nilm,_,_,hv=>by simpa [VR] using hv
  | .any _,_,_,hv=>by simpa [VR] using hv
  | .agg _,_,h,_=>by simp [K1] at h
  | .tup _,_,h,_=>by simp [K1] at h
  | .lst cs n,v,_,hv=>by
    simp only [VR] at hv ⊢
    obtain ⟨hfl,hv⟩:=hv
    refine ⟨hfl,?_⟩
    rcases hv with hv|⟨b,o,cap,h1,hn,h2,h3,h4⟩
    · exact .inl hv
    · exact .inr ⟨b,o,cap,h1,hn,h2,h3,flat_VRC b o cs hfl h4⟩
  | .fp cs off,v,_,hv=>by
    simp only [VR] at hv ⊢
    obtain ⟨hfl,b,o,h1,h2,h3,h4⟩:=hv
    exact ⟨hfl,b,o,h1,h2,h3,flat_VRC b o cs hfl h4⟩
  | .ref ..,_,h,_=>by simp [K1] at h
  | .buf ..,_,h,_=>by simp [K1] at h
  | .clo f cap,v,h,hv=>by
    simp only [VR] at hv ⊢
    simp only [K1] at h
    obtain ⟨vs,h1,h2⟩:=hv
    exact ⟨vs,h1,flat_VRL cap _ h h2⟩
  | .ifc t x,v,h,hv=>by
    simp only [VR] at hv ⊢
    simp only [K1] at h
    obtain ⟨u,h1,h2⟩:=hv
    exact ⟨u,h1,Zmm x u h h2⟩
theorem flat_VRL {c:Ctx} {T':Tab} {L':Site→Option (Nat × Nat)}:∀ (xs:List AV) (vs:List Value),flats xs=true→VRL c xs vs→VRL ⟨T',L',c.O,c.w⟩ xs vs
  | [],_,_,hv=>by simpa [VRL] using hv
  | a::as,vs,h,hv=>by
    simp only [VRL] at hv ⊢
    simp only [flats,Yql] at h
    obtain ⟨v,r,h1,h2,h3⟩:=hv
    exact ⟨v,r,h1,Zmm a v h.1 h2,flat_VRL as r h.2 h3⟩
theorem flat_VRC {c:Ctx} {T':Tab} {L':Site→Option (Nat × Nat)} (b:Nat):∀ (o:Nat) (xs:List AV),flats xs=true→VRC c b o xs→VRC ⟨T',L',c.O,c.w⟩ b o xs
  | _,[],_,_=>by simp [VRC]
  | o,a::as,h,hv=>by
    simp only [VRC] at hv ⊢
    simp only [flats,Yql] at h
    obtain ⟨⟨v,h1,h2⟩,h3⟩:=hv
    exact ⟨⟨v,h1,Zmm a v h.1 h2⟩,flat_VRC b (o+1) as h.2 h3⟩
end
structure CFl (c c':Ctx):Prop where
  own:∀ b,b<c.w.heap.size→c'.O b→c.O b
  block:∀ b,b<c.w.heap.size→¬ c.O b→c'.w.heap[b]? = c.w.heap[b]?
  room:∀ b k,Zby c.w b k→Zby c'.w b k
  size:c.w.heap.size≤c'.w.heap.size
theorem CLe.fl {c c':Ctx} (h:CLe c c'):CFl c c':=⟨h.own,h.block,h.room,h.size⟩
theorem CFl.le {c c':Ctx} (h:CFl c c'):CLe ⟨c'.T,c'.L,c.O,c.w⟩ c':=⟨fun _ g0 al h1=>⟨g0,al,h1,Yp6 _,fun _ h=>⟨h,rfl⟩⟩,h.own,h.block,h.room,h.size⟩
theorem Zhj {c c':Ctx} (h:CFl c c') {x:AV} {v:Value} (hx:K1 x=true) (hv:VR c x v):VR c' x v:=Zbr h.le x v (Zmm x v hx hv)
theorem Yc0 {c c':Ctx} (h:CFl c c') {xs:List AV} {vs:List Value} (hx:flats xs=true) (hv:VRL c xs vs):VRL c' xs vs:=VRL_le h.le xs vs (flat_VRL xs vs hx hv)
def Zfc (L:Lay) (ss:List Site) (b:Nat):Prop:=∃ s∈ss,∃ o,L s=some (b,o)
theorem Znh (h:StoreOK σ L w) {x y:AV} {v:Value} {ss:List Site} (hv:VR (ctx σ L w) x v) (hr:(Z7 x).run σ=some (y,ss)) {c':Ctx} (hw:c'.w=w)
    (ho:∀ b,b<w.heap.size→c'.O b→(ctx σ L w).O b) (hs:∀ b,b<w.heap.size→Zfc L ss b→¬ c'.O b):VR c' y v∧K1 y=true:=by
  have hf:CFl (ctx σ L w) c':=⟨ho,fun _ _ _=>by rw [hw];rfl,fun _ _ hh=>by rw [hw];exact hh,by rw [hw];exact Yp6 _⟩
  cases x<;>simp only [Z7,K1,if_true,Yqn,if_false] at hr<;>try exact D2 hr
  case buf s g off n z =>
    obtain ⟨e,he,ha,hg,h1⟩:=L1 hr
    obtain ⟨⟨h2,h3⟩,h4⟩:=I2 h1
    have k:=B0 h4
    simp only [Prod.mk.injEq] at k
    obtain ⟨rfl,rfl⟩:=k
    refine ⟨?_,by simp [K1]⟩
    have hb:=Ze3 hv he ha hg
    unfold N9 at hb
    simp only [VR]
    refine ⟨Zks h3 _ _,?_⟩
    split at hb
    · rename_i b o' hl
      have hrm:Zby w b 0:=by
        rcases hb with ⟨_,h6,_⟩|⟨_,_,_,h6⟩
        · exact h6
        · exact h6.zero
      have hlt:=(h.free he ha hl hrm).1.lt
      have hno:=hs b hlt ⟨s,by simp,o',hl⟩
      have hc:=flat_VRC (T':=c'.T) (L':=c'.L) b o' e.cells h3 (h.free he ha hl hrm).2
      have hc':=VRC_le hf.le b (fun _=>by rw [hw];rfl) o' e.cells hc
      rcases hb with ⟨h6,_,q,h7⟩|⟨cap,h6,h7,h8⟩
      · subst h6
        refine .inr ⟨b,q,0,h7,Yp6 _,by rw [hw];exact hlt,hno,?_⟩
        simp [sub,VRC]
      · exact .inr ⟨b,o'+off,cap,h6,h7,by rw [hw];exact hlt,hno,Zdk hc' _ _⟩
    · obtain ⟨h6,h7,h8⟩:=hb
      subst h8
      exact .inl ⟨by simp [sub],rfl,h6⟩
  case ref s g off =>
    obtain ⟨e,he,ha,hg,h1⟩:=L1 hr
    obtain ⟨h3,h4⟩:=I2 h1
    have k:=B0 h4
    simp only [Prod.mk.injEq] at k
    obtain ⟨rfl,rfl⟩:=k
    refine ⟨?_,by simp [K1]⟩
    obtain ⟨b,o',hl,h5,h6,h7⟩:=Zfn h hv he ha hg
    have hlt:=h6.lt
    have hno:=hs b hlt ⟨s,by simp,o',hl⟩
    simp only [VR]
    refine ⟨h3,b,o',h5,by rw [hw];exact hlt,hno,VRC_le hf.le b (fun _=>by rw [hw];rfl) o' e.cells (flat_VRC b o' e.cells h3 h7)⟩
  case nils =>
    have k:=B0 hr
    simp only [Prod.mk.injEq] at k
    obtain ⟨rfl,rfl⟩:=k
    simp only [VR] at hv
    refine ⟨?_,by simp [K1]⟩
    subst hv
    simp [VR,flats]
  case clo f cap =>
    obtain ⟨h1,h2⟩:=I2 hr
    have k:=B0 h2
    simp only [Prod.mk.injEq] at k
    obtain ⟨rfl,rfl⟩:=k
    exact ⟨Zhj hf (by simpa [K1] using h1) hv,by simpa [K1] using h1⟩
  case ifc t x =>
    obtain ⟨h1,h2⟩:=I2 hr
    have k:=B0 h2
    simp only [Prod.mk.injEq] at k
    obtain ⟨rfl,rfl⟩:=k
    exact ⟨Zhj hf (by simpa [K1] using h1) hv,by simpa [K1] using h1⟩
  all_goals
    have k:=B0 hr
    simp only [Prod.mk.injEq] at k
    obtain ⟨rfl,rfl⟩:=k
    exact ⟨Zhj hf (by simp [K1]) hv,by simp [K1]⟩
theorem Zi0 (h:StoreOK σ L w) {c':Ctx} (hw:c'.w=w) (ho:∀ b,b<w.heap.size→c'.O b→(ctx σ L w).O b):∀ {xs ys:List AV} {vs:List Value} {ss:List Site},VRL (ctx σ L w) xs vs→(views xs).run σ=some (ys,ss) →
    (∀ b,b<w.heap.size→Zfc L ss b→¬ c'.O b)→VRL c' ys vs∧flats ys=true:=by
  intro xs
  induction xs with
  | nil =>
    intro ys vs ss hv hr _
    simp only [views] at hr
    have k:=B0 hr
    simp only [Prod.mk.injEq] at k
    obtain ⟨rfl,rfl⟩:=k
    simp only [VRL] at hv ⊢
    exact ⟨hv,rfl⟩
  | cons x xs ih =>
    intro ys vs ss hv hr hs
    simp only [views] at hr
    obtain ⟨p,h1,h2⟩:=G8 hr
    obtain ⟨q,h3,h4⟩:=G8 h2
    have k:=B0 h4
    simp only [Prod.mk.injEq] at k
    obtain ⟨rfl,rfl⟩:=k
    simp only [VRL] at hv
    obtain ⟨v,r,rfl,h5,h6⟩:=hv
    obtain ⟨h7,h8⟩:=Znh h h5 (y:=p.1) (ss:=p.2) h1 hw ho (fun b hb ⟨s,hs1,hs2⟩=>hs b hb ⟨s,by simp [hs1],hs2⟩)
    obtain ⟨h9,h10⟩:=ih h6 (ys:=q.1) (ss:=q.2) h3 (fun b hb ⟨s,hs1,hs2⟩=>hs b hb ⟨s,by simp [hs1],hs2⟩)
    simp only [VRL,flats,Yql]
    exact ⟨⟨v,r,rfl,h7,h9⟩,h8,h10⟩
theorem Yk7 (h:StoreOK σ L w) {x y:AV} {v:Value} {ss:List Site} (hv:VR (ctx σ L w) x v) (hr:(Zc1 x).run σ=some (y,ss)) {c':Ctx} (hw:c'.w=w)
    (ho:∀ b,b<w.heap.size→c'.O b→(ctx σ L w).O b) (hs:∀ b,b<w.heap.size→Zfc L ss b→¬ c'.O b):VR c' y v:=by
  have hf:CFl (ctx σ L w) c':=⟨ho,fun _ _ _=>by rw [hw];rfl,fun _ _ hh=>by rw [hw];exact hh,by rw [hw];exact Yp6 _⟩
  cases x<;>simp only [Zc1] at hr<;>try exact (Znh h hv hr hw ho hs).1
  case agg cs =>
    simp only [VR] at hv
    obtain ⟨vs,rfl,hv⟩:=hv
    by_cases hc:flats cs=true
    · rw [if_pos hc] at hr
      have k:=B0 hr
      simp only [Prod.mk.injEq] at k
      obtain ⟨rfl,rfl⟩:=k
      simp only [VR]
      exact ⟨vs,rfl,Yc0 hf hc hv⟩
    · rw [if_neg hc] at hr
      obtain ⟨p,h1,h2⟩:=G8 hr
      have k:=B0 h2
      simp only [Prod.mk.injEq] at k
      obtain ⟨rfl,rfl⟩:=k
      simp only [VR]
      exact ⟨vs,rfl,(Zi0 h hw ho hv (ys:=p.1) (ss:=p.2) h1 hs).1⟩
  case clo f cs =>
    simp only [VR] at hv
    obtain ⟨vs,rfl,hv⟩:=hv
    obtain ⟨p,h1,h2⟩:=G8 hr
    have k:=B0 h2
    simp only [Prod.mk.injEq] at k
    obtain ⟨rfl,rfl⟩:=k
    simp only [VR]
    exact ⟨vs,rfl,(Zi0 h hw ho hv (ys:=p.1) (ss:=p.2) h1 hs).1⟩
def Sim (σ σ':A6):Prop:=∀ t,A9 σ' t=A9 σ t∨∃ e,A9 σ t=some e∧A9 σ' t=some { e with rw:=false }
theorem Sim.refl (σ:A6):Sim σ σ:=fun _=>.inl rfl
theorem Sim.back {σ':A6} (h:Sim σ σ') {t:Site} {e':Ent} (he:A9 σ' t=some e'):∃ e,A9 σ t=some e∧e.alive=e'.alive∧e.g=e'.g∧e.cells=e'.cells∧e.var=e'.var∧(e'.rw=true→e.rw=true):=by
  rcases h t with h1|⟨e,h1,h2⟩
  · rw [he] at h1;exact ⟨e',h1.symm,rfl,rfl,rfl,rfl,id⟩
  · rw [he] at h2;cases h2;exact ⟨e,h1,rfl,rfl,rfl,rfl,fun h=>by cases h⟩
theorem Zwp:∀ {ss:List Site} {u:Ups} {σ1:A6},(Zgm ss).run σ=some u→Sim σ σ1→Rel E w0 O0 σ0 L0 σ1 L w →
    Rel E w0 O0 σ0 L0 (E3 σ1 u) L w∧CLe (ctx σ1 L w) (ctx (E3 σ1 u) L w)∧Sim σ (E3 σ1 u)∧(∀ s∈ss,∀ e,A9 (E3 σ1 u) s=some e→e.rw=false) ∧
    (∀ s e,A9 σ1 s=some e→e.rw=false→∀ e',A9 (E3 σ1 u) s=some e'→e'.rw=false)∧(∀ s,s∉ss→A9 (E3 σ1 u) s=A9 σ1 s):=by
  intro ss
  induction ss with
  | nil =>
    intro u σ1 hr hs h
    simp only [Zgm] at hr
    have k:=B0 hr
    subst k
    exact ⟨h,CLe.refl _,hs,by simp,fun s e h1 h2 e' h3=>by rw [show A9 (E3 σ1 []) s=A9 σ1 s from rfl,h1] at h3;cases h3;exact h2,fun _ _=>rfl⟩
  | cons s ss ih =>
    intro u σ1 hr hs h
    simp only [Zgm] at hr
    obtain ⟨u',h1,h2⟩:=G8 hr
    simp only [Acc.run] at h2
    cases hge:A9 σ s with
    | none=>rw [hge] at h2;simp only [Zm1] at h2;exact D2 h2
    | some e =>
      rw [hge] at h2
      simp only [Zm1] at h2
      have k:=B0 h2
      subst k
      have hg1:∃ e1,A9 σ1 s=some e1∧e1.g=e.g∧e1.alive=e.alive∧e1.cells=e.cells∧e1.var=e.var:=by
        rcases hs s with h3|⟨e',h3,h4⟩
        · exact ⟨e,h3.trans hge,rfl,rfl,rfl,rfl⟩
        · rw [hge] at h3;cases h3;exact ⟨_,h4,rfl,rfl,rfl,rfl⟩
      obtain ⟨e1,g1,g2,g3,g4,g5⟩:=hg1
      obtain ⟨r1,r2⟩:=h.less (e' := { e with rw:=false }) g1 g2.symm (fun h=>⟨g3.trans h,g4.symm,g5.symm⟩) (fun h=>by cases h)
      have hs1:Sim σ (I6 σ1 s { e with rw:=false }):=by
        intro t
        by_cases ht:s=t
        · subst ht;exact .inr ⟨e,hge,F0 _ _ _⟩
        · rw [G2 _ _ ht];exact hs t
      obtain ⟨k1,k2,k3,k4,k5,k6⟩:=ih h1 hs1 r1
      refine ⟨k1,r2.trans k2,k3,?_,?_,?_⟩
      · intro t ht e' he'
        rcases List.mem_cons.1 ht with rfl|ht
        · exact k5 _ _ (F0 _ _ _) rfl e' he'
        · exact k4 t ht e' he'
      · intro t e2 h3 h4 e3 h5
        by_cases ht:s=t
        · subst ht;exact k5 _ _ (F0 _ _ _) rfl e3 h5
        · exact k5 t e2 (by rw [G2 _ _ ht];exact h3) h4 e3 h5
      · intro t ht
        simp only [List.mem_cons,not_or] at ht
        show A9 (E3 (I6 σ1 s _) u') t=_
        rw [k6 t ht.2,G2 _ _ (Ne.symm ht.1)]
theorem Sim.not_own (h:StoreOK σ L w) {σ':A6} (hs:Sim σ σ') {ss:List Site} (hst:∀ s∈ss,∀ e,A9 σ' s=some e→e.rw=false) (hal:∀ s∈ss,∃ e,A9 σ s=some e∧e.alive=true) {b:Nat} (hb:Zfc L ss b):¬ J3 σ' L b:=by
  intro ⟨t,e',o',h1,h2,h3,h4⟩
  obtain ⟨s,hs1,o,hs2⟩:=hb
  obtain ⟨e,he,ha⟩:=hal s hs1
  obtain ⟨e1,k1,k2,_⟩:=hs.back h1
  have:=h.apart t s e1 e b o' o k1 (k2.trans h2) he ha h4 hs2
  subst this
  rw [hst t hs1 e' h1] at h3
  cases h3
theorem Sim.own {σ':A6} (hs:Sim σ σ') {b:Nat} (hb:J3 σ' L b):J3 σ L b:=by
  obtain ⟨t,e',o',h1,h2,h3,h4⟩:=hb
  obtain ⟨e,k1,k2,_,_,_,k3⟩:=hs.back h1
  exact ⟨t,e,o',k1,k2.trans h2,k3 h3,h4⟩
theorem Zlw {x y:AV} {ss:List Site} (hr:(Z7 x).run σ=some (y,ss)):∀ s∈ss,∃ e,A9 σ s=some e∧e.alive=true:=by
  cases x<;>simp only [Z7,K1,if_true,Yqn,if_false] at hr<;>try exact D2 hr
  case buf s g off n z =>
    obtain ⟨e,he,ha,hg,h1⟩:=L1 hr
    obtain ⟨_,h4⟩:=I2 h1
    have k:=B0 h4
    simp only [Prod.mk.injEq] at k
    obtain ⟨rfl,rfl⟩:=k
    intro t ht
    simp only [Yqo] at ht
    subst ht
    exact ⟨e,he,ha⟩
  case ref s g off =>
    obtain ⟨e,he,ha,hg,h1⟩:=L1 hr
    obtain ⟨_,h4⟩:=I2 h1
    have k:=B0 h4
    simp only [Prod.mk.injEq] at k
    obtain ⟨rfl,rfl⟩:=k
    intro t ht
    simp only [Yqo] at ht
    subst ht
    exact ⟨e,he,ha⟩
  case clo f cap =>
    obtain ⟨_,h2⟩:=I2 hr
    have k:=B0 h2
    simp only [Prod.mk.injEq] at k
    rw [k.2];simp
  case ifc t x =>
    obtain ⟨_,h2⟩:=I2 hr
    have k:=B0 h2
    simp only [Prod.mk.injEq] at k
    rw [k.2];simp
  all_goals
    have k:=B0 hr
    simp only [Prod.mk.injEq] at k
    rw [k.2];simp
theorem Zeu:∀ {xs ys:List AV} {ss:List Site},(views xs).run σ=some (ys,ss)→∀ s∈ss,∃ e,A9 σ s=some e∧e.alive=true:=by
  intro xs
  induction xs with
  | nil =>
    intro ys ss hr
    simp only [views] at hr
    have k:=B0 hr
    simp only [Prod.mk.injEq] at k
    rw [k.2];simp
  | cons x xs ih =>
    intro ys ss hr
    simp only [views] at hr
    obtain ⟨p,h1,h2⟩:=G8 hr
    obtain ⟨q,h3,h4⟩:=G8 h2
    have k:=B0 h4
    simp only [Prod.mk.injEq] at k
    obtain ⟨rfl,rfl⟩:=k
    intro s hs
    rcases List.mem_append.1 hs with hs|hs
    · exact Zlw (y:=p.1) (ss:=p.2) h1 s hs
    · exact ih (ys:=q.1) (ss:=q.2) h3 s hs
theorem Zrh (h:Rel E w0 O0 σ0 L0 σ L w) {cs cs':List AV} {u:Ups} {ss:List Site} {vs:List Value} (hv:VRL (ctx σ L w) cs vs) (hr:(fix cs).run σ=some (cs',u,ss)) :
    Rel E w0 O0 σ0 L0 (E3 σ u) L w∧CLe (ctx σ L w) (ctx (E3 σ u) L w)∧VRL (ctx (E3 σ u) L w) cs' vs∧Sim σ (E3 σ u)∧flats cs'=true∧(∀ s,s∉ss→A9 (E3 σ u) s=A9 σ s):=by
  unfold fix at hr
  by_cases hc:flats cs=true
  · rw [if_pos hc] at hr
    have k:=B0 hr
    simp only [Prod.mk.injEq] at k
    obtain ⟨rfl,rfl,rfl⟩:=k
    exact ⟨h,CLe.refl _,hv,Sim.refl _,hc,fun _ _=>rfl⟩
  · rw [if_neg hc] at hr
    obtain ⟨p,h1,h2⟩:=G8 hr
    obtain ⟨u',h3,h4⟩:=G8 h2
    have k:=B0 h4
    simp only [Prod.mk.injEq] at k
    obtain ⟨rfl,hu,rfl⟩:=k
    subst hu
    obtain ⟨k1,k2,k3,k4,_,k6⟩:=Zwp h3 (Sim.refl σ) h
    obtain ⟨h5,h6⟩:=Zi0 h.store (c':=ctx (E3 σ u) L w) rfl (fun b _ hb=>hb.imp k3.own id) hv (ys:=p.1) (ss:=p.2) h1
      (fun b _ hb hO=>hO.elim (k3.not_own h.store k4 (Zeu (ys:=p.1) (ss:=p.2) h1) hb) (h.notF (by
        obtain ⟨s,hs1,o,hs2⟩:=hb
        obtain ⟨e,he,ha⟩:=Zeu (ys:=p.1) (ss:=p.2) h1 s hs1
        exact ⟨s,e,o,he,ha,hs2⟩)))
    exact ⟨k1,k2,h5,k3,h6,k6⟩
end Cod

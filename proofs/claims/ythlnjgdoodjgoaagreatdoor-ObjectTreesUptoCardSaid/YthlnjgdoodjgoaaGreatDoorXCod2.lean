/- From the model's code to the lean form. -/
import Derived.Laws.Cells
import Derived.Laws.Slices
import Derived.Laws.StructEq
import Derived.Laws.BytesString
import Derived.Laws.IdiomStrings
import Derived.Laws.AppendOwn
import Derived.Test.YthlnjgdoodjgoaaGreatDoorXCod1
set_option linter.unusedSimpArgs false
set_option linter.unusedVariables false
open List renaming extract_eq_take_drop → Yd3, foldl_cons → Yd7, length_cons → Yd9, length_drop → Yd1, length_take → Yd0, mem_singleton → Yeb, size_toArray → Yd2
open Nat renaming add_assoc → Yd4, le_refl → Ydt
open Int renaming toNat_of_nonneg → Yd6
open Bool renaming and_eq_true → Yd8, false_eq_true → Yea
open Option renaming map_eq_some_iff → Ydz, map_none → Yd5, map_some → Ydy
namespace Cod
open Go
structure Ann where
  cross:List Nat
  keep:List (Nat × List Nat)
  live:List (Nat × List Nat)
  take:List (Nat × List Nat)
  ord:List (Nat × List Nat)
def tab (l:List (Nat × List Nat)) (n:Nat):List Nat:=(l.lookup n).getD []
def Q3:Value→Option AV
  | .int k n=>some (.int k n)
  | .bool b=>some (.bool b)
  | .string s=>some (.str s.data.toList)
  | .pointer none=>some .nilp
  | .slice none 0 0=>some .nils
  | .map none=>some .nilm
  | .nilIface=>some .nili
  | .nilFunc=>some .nilf
  | _=>none
def Zah:List Value→Option (List AV)
  | []=>some []
  | v::vs=>match Q3 v,Zah vs with|some a,some as=>some (a::as)|_,_=>none
def Zeu:Value→Option AV
  | .agg cs=>(Zah cs.toList).map .agg
  | v=>Q3 v
def H9:Operand→Option LO
  | .tmp t=>some (.t t)
  | .const v=>(Zeu v).map .k
  | .global g=>some (.g g)
  | .func f=>some (.f f)
def Zbx:List Operand→Option (List LO)
  | []=>some []
  | x::xs=>match H9 x,Zbx xs with|some a,some as=>some (a::as)|_,_=>none
section
variable (P:Program)
def J9 (t:TypeId):Option Nat:=(P.info? t).map (·.size)
def Zc5 (t:TypeId):Option Nat:=(P.info? t).map (·.bytes)
def Y9 (t:TypeId):Option (List AV):=match (P.info? t).bind (·.zero) with|some z=>Zah z.cells.toList|none=>none
def Zcy (t:TypeId):Option (Option Nat) :=
  match P.underlying t,P.info? t with
  | some (.struct _),some i=>some (some i.size)
  | some (.array _ _),some i=>some (some i.size)
  | some _,some _=>some none
  | _,_=>none
def Zc6 (t:TypeId):Option TypeId:=match P.underlying t with|some (.slice e)=>some e|_=>none
def Zkz (t:TypeId):Bool:=match P.underlying t with|some (.int .u8)=>true|_=>false
def Z2l (t:TypeId):Bool:=match P.underlying t with|some .string=>true|_=>false
def Zhg:Operand→Bool
  | .const _=>true
  | _=>false
def Zhx (f:TypeId→Option (List Nat)):List Field→Nat→Option (List Nat)
  | [],_=>some []
  | x::r,n=>match f x.type with|some ks=>if x.offset=n∧x.name ≠ "_" then (Zhx f r (n+ks.length)).map (ks ++ ·) else none|none=>none
def Zo0 (ks:List Nat):Nat→List Nat
  | 0=>[]
  | n+1=>ks++Zo0 ks n
def Zbd:Nat→TypeId→Option (List Nat)
  | 0,_=>none
  | d+1,t =>
    match P.underlying t,P.info? t with
    | some (.int _),some _=>some [0]
    | some .bool,some _=>some [1]
    | some .string,some _=>some [2]
    | some (.struct fs),some i=>if P.stoodInHeld t=false then (Zhx (Zbd d) fs.toList 0).bind fun ks=>if ks.length=i.size then some ks else none else none
    | some (.array n e),some i=>(match Zbd d e,J9 P e with|some ks,some m=>if ks.length=m∧i.size=n*m∧0<m then some (Zo0 ks n) else none|_,_=>none)
    | _,_=>none
def Zwe (op:BinOp) (neg:Bool) (t:TypeId) (x y:Operand):Option LOp :=
  match H9 x,H9 y with
  | some a,some b =>
    (match P.underlying t with
    | some (.int _)|some .string=>some (.bin op a b)
    | some .bool=>some (.eqb neg a b)
    | some (.pointer _)=>some (.eqn 0 neg a b)
    | some (.slice _)=>some (.eqn 1 neg a b)
    | some (.map ..)=>some (.eqn 2 neg a b)
    | some (.func ..)=>some (.eqn 3 neg a b)
    | some (.interface _)=>if (Zhg x||Zhg y)=true then some (.eqn 4 neg a b) else none
    | some (.struct _)|some (.array ..)=>(match Zbd P 20 t with|some ks=>if P.eqGuardType P.depth t then none else some (.eqa ks neg a b)|none=>none)
    | _=>none)
  | _,_=>none
def U9 (off:Nat→Option (Nat × Nat)):List (Nat × Operand)→Option (List (Nat × Nat × LO))
  | []=>some []
  | (i,x)::r=>match off i,H9 x,U9 off r with|some (o,n),some a,some as=>some ((o,n,a)::as)|_,_,_=>none
def Zwf (A:Ann) (f:Operand) (args:Array Operand):Option LOp :=
  match H9 f,Zbx args.toList with
  | some g,some as=>some (.call g as (match f with|.func n=>tab A.take n|_=>[]))
  | _,_=>none
def Zjk (c:Call):Option LOp :=
  match c.args.toList,c.argTypes.toList with
  | [s,x],[ts,tx] =>
    match Zc6 P ts,H9 s,H9 x with
    | some e,some s',some x' =>
      (match J9 P e,Zc5 P e,Y9 P e with
      | some sz,some b,some z =>
        if sz=0∨b=0∨z.length≠sz then none
        else (match P.underlying tx with
          | some (.int _)=>some (.appz sz b z s' x')
          | some .string|some (.slice _)=>some (.app sz b s' x')
          | _=>none)
      | _,_,_=>none)
    | _,_,_=>none
  | _,_=>none
def Z2m (c:Call):Option LOp :=
  match c.args.toList,c.argTypes.toList with
  | [x],[t] =>
    match P.underlying t,H9 x with
    | some (.array n _),some x'=>some (.len (some n) x')
    | some .string,some x'=>some (.lens x')
    | some (.slice _),some x'=>some (.len none x')
    | some (.map ..),some x'=>some (.mlen x')
    | some (.pointer a),some x'=>(match P.underlying a with|some (.array n _)=>some (.len (some n) x')|_=>none)
    | _,_=>none
  | _,_=>none
def low2 (c:Call) (f:LO→LO→LOp):Option LOp :=
  match c.args.toList with
  | [x,y]=>match H9 x,H9 y with|some a,some b=>some (f a b)|_,_=>none
  | _=>none
def Zwg (c:Call):Option LOp :=
  match c.args.toList,c.argTypes.toList with
  | [d,s],[td,_] =>
    match Zc6 P td,H9 d,H9 s with
    | some e,some d',some s'=>(match J9 P e with|some sz=>if sz=0 then none else some (.copy sz d' s')|none=>none)
    | _,_,_=>none
  | _,_=>none
def Zo1 (t:TypeId) (x:Operand) (lo hi:Option Operand):Option LOp :=
  match H9 x,Zbx lo.toList,Zbx hi.toList with
  | some x',some lo',some hi' =>
    (match P.underlying t with
    | some (.array n e)=>(J9 P e).bind fun sz=>if sz=0 then none else some (.sl sz (some n) x' lo'.head? hi'.head?)
    | some .string=>some (.sls x' lo'.head? hi'.head?)
    | some (.slice e)=>(J9 P e).bind fun sz=>if sz=0 then none else some (.sl sz none x' lo'.head? hi'.head?)
    | _=>none)
  | _,_,_=>none
def Zhy (src dst:TypeId) (x:Operand):Option LOp :=
  match H9 x,P.underlying src,P.underlying dst with
  | some a,some (.int _),some (.int k)=>some (.cvi k a)
  | some a,some .string,some .string=>some (.s2s a)
  | some a,some (.int _),some .string=>some (.r2s a)
  | some a,some .string,some (.slice e)=>if Zkz P e then some (.s2b a) else none
  | some a,some (.slice e),some .string=>if Zkz P e then some (.b2s a) else none
  | some a,some (.slice _),some (.slice e)=>if src==dst&&Zkz P e then some (.b2b a) else none
  | _,_,_=>none
def Zc7 (k:TypeId):Option Bool:=match P.underlying k with|some (.int _)=>some false|some .string=>some true|_=>none
def Zwh (e:TypeId):Option AV:=((P.info? e).bind (·.zero)).bind Zeu
def Zwi (t:TypeId) (m k:Operand) (ok:Bool):Option LOp :=
  match P.underlying t,H9 m,H9 k with
  | some (.map kt e),some m',some k'=>(match Zc7 P kt,Zwh P e with|some str,some z=>some (.mget str z ok m' k')|_,_=>none)
  | _,_,_=>none
def Zk0 (t:TypeId) (m k x:Operand):Option LOp :=
  match P.underlying t,H9 m,H9 k,H9 x with
  | some (.map kt _),some m',some k',some x'=>(Zc7 P kt).map fun str=>.mput str m' k' x'
  | _,_,_,_=>none
def Zwj (c:Call):Option LOp :=
  match c.args.toList,c.argTypes.toList with
  | [m,k],[t,_] =>
    match P.underlying t,H9 m,H9 k with
    | some (.map kt _),some m',some k'=>(Zc7 P kt).map fun str=>.mdel str m' k'
    | _,_,_=>none
  | _,_=>none
def Zjl (A:Ann) (o:Oper):Option LOp :=
  match o.op with
  | .move (.const (.slice none 0 0))|.assign (.const (.slice none 0 0)) =>
    (Zc6 P o.type).bind fun e=>(J9 P e).map .nil
  | .move x|.assign x=>(H9 x).map .mv
  | .pick c a b=>match H9 c,H9 a,H9 b with|some c,some a,some b=>some (.pick c a b)|_,_,_=>none
  | .alloc e=>(Y9 P e).map .new
  | .box _ x=>(H9 x).map .box
  | .build t parts =>
    (match P.underlying t,Y9 P t with
    | some (.struct fs),some z=>(fs.toList.mapM (fun f=>(P.info? f.type).map fun i=>(f.offset,i.size))).bind fun places=>(U9 (fun i=>places.toArray[i]?) parts.toList).map (.build z)
    | some (.array _ e),some z=>(J9 P e).bind fun n=>(U9 (fun i=>some (i*n,n)) parts.toList).map (.build z)
    | _,_=>none)
  | .buildSlice t len parts =>
    (Zc6 P t).bind fun e =>
    (match J9 P e,Y9 P e with
    | some n,some z=>if n=0∨z.length≠n∨16777216<len*n then none else (U9 (fun i=>some (i*n,n)) parts.toList).map (.bslice n len z)
    | _,_=>none)
  | .load t a=>(match Zcy P t,H9 a with|some n,some x=>some (.ld n x)|_,_=>none)
  | .store t a x=>(match J9 P t,H9 a,H9 x with|some n,some a,some x=>some (.st n a x)|_,_,_=>none)
  | .nilCheck x=>(H9 x).map .nilck
  | .binOp op t x y _ =>
    (match op with
    | .eql=>Zwe P .eql false t x y
    | .neq=>Zwe P .neq true t x y
    | _=>(match H9 x,H9 y with|some a,some b=>some (.bin op a b)|_,_=>none))
  | .unOp op _ x=>(H9 x).map (.un op)
  | .convert src dst x=>Zhy P src dst x
  | .sliceToArrayPointer arr x=>(match P.underlying arr with
    | some (.array n e)=>(match J9 P e,H9 x with|some sz,some a=>if sz=0 then none else some (.s2a n sz a)|_,_=>none)
    | _=>none)
  | .makeInterface t x=>(match P.underlying t with|some (.interface _)|none=>none|_=>(H9 x).map (.mkif t))
  | .makeFunc (.func f) first cap=>if first.isEmpty then (Zbx cap.toList).map (.mkfn f) else none
  | .makeSlice t l c =>
    (Zc6 P t).bind fun e =>
    (match J9 P e,Zc5 P e,Y9 P e,H9 l,H9 c with
    | some n,some b,some z,some l,some c=>if n=0∨z.length≠n then none else some (.mks n b z l c)
    | _,_,_,_,_=>none)
  | .slice t x lo hi none=>Zo1 P t x lo hi
  | .fieldAddr s x f=>(match P.underlying s with
    | some (.struct fs)=>(match fs[f]? with
      | some f=>(match J9 P f.type,H9 x with|some n,some a=>if n=0 then none else some (.fa a f.offset)|_,_=>none)
      | none=>none)
    | _=>none)
  | .field s x f=>(match P.underlying s with
    | some (.struct fs)=>(match fs[f]? with
      | some f=>(match Zcy P f.type,H9 x with|some n,some a=>some (.fld a f.offset n)|_,_=>none)
      | none=>none)
    | _=>none)
  | .indexAddr t x i=>(match P.underlying t,H9 x,H9 i with
    | some (.array n e),some a,some b=>(J9 P e).map fun sz=>.ia sz (some n) a b
    | some (.slice e),some a,some b=>(J9 P e).map fun sz=>.ia sz none a b
    | _,_,_=>none)
  | .index t x i=>(match P.underlying t,H9 x,H9 i with
    | some (.array n e),some a,some b=>(match J9 P e,Zcy P e with|some sz,some g=>some (.ix sz (some n) g.isSome a b)|_,_=>none)
    | some .string,some a,some b=>some (.ix 1 none false a b)
    | _,_,_=>none)
  | .extract x i=>(H9 x).map (.ext · i)
  | .panic _=>some .stop
  | .range t x=>if Z2l P t then (H9 x).map .rng else none
  | .next x str=>if str then (H9 x).map .nxt else none
  | .makeMap _ none=>some .mkmap
  | .lookup t m k ok=>Zwi P t m k ok
  | .mapUpdate t m k x|.insert t m k x=>Zk0 P t m k x
  | .call c =>
    (match c.callee with
    | .value f=>Zwf A f c.args
    | .builtin .append=>Zjk P c
    | .builtin .len=>Z2m P c
    | .builtin .min=>low2 c .min
    | .builtin .max=>low2 c .max
    | .builtin .copy=>Zwg P c
    | .builtin .cap=>(match c.args.toList,c.argTypes.toList with|[x],[t]=>(match Zc6 P t,H9 x with|some _,some a=>some (.cap a)|_,_=>none)|_,_=>none)
    | .builtin .delete=>Zwj P c
    | .builtin .panic=>some .stop
    | _=>none)
  | _=>none
def Zby (ops:Array Oper):Option (Nat × Bool)→Option (Option (Nat × Bool))
  | none=>some none
  | some (j,w)=>match (ops[j]?).bind (·.dst) with|some d=>some (some (d,w))|none=>none
def R6 (A:Ann) (ops:Array Oper):List Oper→Option (List LOper)
  | []=>some []
  | o::os=>match Zjl P A o,Zby ops o.guard,R6 A ops os with
    | some p,some g,some r=>some (⟨o.dst,p,g⟩::r)
    | _,_,_=>none
def X5:Code→Nat
  | .region id _ _=>id
  | .seq a b=>if X5 a=1000000 then X5 b else X5 a
  | .block _ a|.loop a=>X5 a
  | .cond _ a _=>X5 a
  | _=>1000000
def L1:LOp→Nat
  | .mv _|.pick ..|.build ..|.bin ..|.eqb ..|.eqa ..|.un ..|.cvi ..|.s2s _|.r2s _|.mkif ..|.mkfn ..|.fld ..|.ix ..|.ext ..|.min ..|.max ..|.cap _|.lens _|.sls ..|.stop=>0
  | .ld ..|.b2s _|.nilck _|.sl ..|.fa ..|.ia ..|.s2a ..|.len ..|.b2b _|.eqn ..=>1
  | _=>2
def Zwk:LOp→List LO
  | .mv x|.box x|.nilck x|.un _ x|.cvi _ x|.s2s x|.s2b x|.b2s x|.b2b x|.mkif _ x|.fa x _|.fld x _ _|.s2a _ _ x|.ext x _|.len _ x|.lens x|.cap x|.ld _ x|.r2s x|.rng x|.nxt x|.mlen x=>[x]
  | .nil _|.new _|.mkmap|.stop=>[]
  | .pick a b c|.mput _ a b c=>[a,b,c]
  | .build _ ps|.bslice _ _ _ ps=>ps.map (·.2.2)
  | .st _ a x|.bin _ a x|.eqb _ a x|.eqa _ _ a x|.eqn _ _ a x|.mks _ _ _ a x|.ia _ _ a x|.ix _ _ _ a x|.app _ _ a x|.appz _ _ _ a x|.copy _ a x|.min a x|.max a x|.mget _ _ _ a x|.mdel _ a x=>[a,x]
  | .mkfn _ xs=>xs
  | .sl _ _ x lo hi|.sls x lo hi=>x::(lo.toList++hi.toList)
  | .call f xs _=>f::xs
def Zo2 (A:Ann) (id n:Nat):List Nat:=match tab A.ord id with|[]=>List.range n|x::l=>x::l
def Zc8 {α:Type} (l:List α):List Nat→Option (List α)
  | []=>some []
  | i::is=>match l[i]?,Zc8 l is with|some x,some xs=>some (x::xs)|_,_=>none
def Zc9 (π:List Nat) (acc:List Nat) (o:Oper):Nat:=o.after.toList.foldl (fun s e=>if Region.binds .any e then s ||| 2 ^ π.idxOf e.on ||| acc.getD (π.idxOf e.on) 0 else s) 0
def Zev (π:List Nat):List Oper→List Nat→List Nat
  | [],acc=>acc
  | o::os,acc=>Zev π os (acc++[Zc9 π acc o])
def W0 (π:List Nat) (os:List Oper):List (Nat × Nat) :=
  let b:=Zev π os []
  (List.range os.length).flatMap fun j=>(List.range j).filterMap fun i=>if (b.getD j 0).testBit i then none else some (i,j)
def S6 (lo:LOper):List Nat :=
  (Zwk lo.op).filterMap (fun|.t n=>some n|_=>none)++(match lo.guard with|some (g,_)=>[g]|none=>[])
def Z2n (x y:LOper):Bool :=
  (match x.dst with|some d => !(S6 y).contains d&&y.dst != some d|none=>true)&&(match y.dst with|some d => !(S6 x).contains d|none=>true)
def Zf2 (π:List Nat) (n:Nat) (os:List Oper) (los:List LOper):Bool :=
  π.length==n&&((List.range n).all fun k=>match π[k]? with|some i => π.idxOf i==k|none=>false)&&((List.range n).all fun i => π.contains i) &&
  ((List.range n).all fun k=>match os[k]? with|some o=>o.after.all fun e => !Region.binds .any e||decide (π.idxOf e.on<k)|none=>false) &&
  (W0 π os).all fun (i,j)=>match los[i]?,los[j]? with|some x,some y=>Z2n x y|_,_=>false
def Zjm (l:List LOper) (p:List (Nat × Nat)):List (Nat × Nat) :=
  p.filter fun (i,j)=>match l[i]?,l[j]? with|some x,some y=>L1 x.op != 0&&L1 y.op != 0&&(L1 x.op==2||L1 y.op==2)|_,_=>true
def Zhz (A:Ann) (n:Nat) (ops:List Oper) (keep:List Nat):Bool :=
  ops.all (fun o=>match o.dst with|some d=>decide (d<n)&&(!(A.cross.contains d)||keep.contains d)|none=>true)&&keep.all A.cross.contains
def low (A:Ann) (n:Nat):Code→Option LCode
  | .skip=>some .skip
  | .ret=>some .ret
  | .exit k=>some (.exit k)
  | .region id ops draw =>
    (match R6 P A ops ops.toList with
    | some l=>if !(Zhz A n ops.toList (tab A.keep id)) then none else if draw then
        (match Zc8 ops.toList (Zo2 A id ops.size),Zc8 l (Zo2 A id ops.size) with
        | some os,some ls=>if Zf2 (Zo2 A id ops.size) ops.size os ls then some (.dreg ls (Zjm ls (W0 (Zo2 A id ops.size) os)) (tab A.keep id)) else none
        | _,_=>none)
      else some (.reg l (tab A.keep id))
    | none=>none)
  | .seq a b=>match low A n a,low A n b with|some x,some y=>some (.seq x y)|_,_=>none
  | .cond c a b=>match H9 c,low A n a,low A n b with|some z,some x,some y=>some (.cond z x y)|_,_,_=>none
  | .block k a=>(low A n a).map (.block k)
  | .loop a=>if (tab A.live (X5 a)).all A.cross.contains then (low A n a).map (.loop (tab A.live (X5 a))) else none
  | .scope a=>(low A n a).map .scope
  | .label l=>some (.label l)
  | .goto l=>some (.goto l)
  | _=>none
def Zr4:ResultVar→Option LRes
  | .tmp t=>some (.tmp t)
  | .cell a t=>(Zcy P t).map (.cell a)
def Zdu:List ResultVar→Option (List LRes)
  | []=>some []
  | r::rs=>match Zr4 P r,Zdu rs with|some a,some as=>some (a::as)|_,_=>none
def Z2o (A:Ann) (f:Func):Option LFn :=
  match f.body with
  | some c =>
    if (List.range (f.params.size+f.nfree)).all A.cross.contains&&decide (f.params.size+f.nfree≤f.ntmps) then
      (match low P A f.ntmps c,Zdu P f.results.toList with|some x,some rs=>some ⟨f.params.size+f.nfree,rs,x⟩|_,_=>none)
    else none
  | none=>none
end
end Cod
namespace Cod
open Go
structure Fr (c:Ctx) (ρ:Nat→AV) (N:Nat) (a:Act):Prop where
  slots:∀ t,VR c (ρ t) (a.tmps.getD t undef)
  defers:a.defers=[]
  size:a.tmps.size=N
theorem Zh0 (c:Ctx):∀ {v:Value} {x:AV},Q3 v=some x→VR c x v:=by
  intro v x h
  cases v with
  | int k n=>simp only [Q3,Option.some.injEq] at h;subst h;simp [VR]
  | bool b=>simp only [Q3,Option.some.injEq] at h;subst h;simp [VR]
  | string s=>simp only [Q3,Option.some.injEq] at h;subst h;simp [VR]
  | pointer a=>cases a<;>simp only [Q3,Option.some.injEq,reduceCtorEq] at h;subst h;simp [VR]
  | slice a n m =>
    cases a with
    | some a=>simp [Q3] at h
    | none =>
      cases n with
      | succ n=>simp [Q3] at h
      | zero=>cases m with
        | succ m=>simp [Q3] at h
        | zero=>simp only [Q3,Option.some.injEq] at h;subst h;simp [VR]
  | map r=>cases r<;>simp only [Q3,Option.some.injEq,reduceCtorEq] at h;subst h;simp [VR]
  | nilIface=>simp only [Q3,Option.some.injEq] at h;subst h;simp [VR]
  | nilFunc=>simp only [Q3,Option.some.injEq] at h;subst h;simp [VR]
  | _=>simp [Q3] at h
theorem S7 (c:Ctx):∀ {vs:List Value} {xs:List AV},Zah vs=some xs→VRL c xs vs:=by
  intro vs
  induction vs with
  | nil=>intro xs h;simp only [Zah,Option.some.injEq] at h;subst h;simp [VRL]
  | cons v vs ih =>
    intro xs h
    simp only [Zah] at h
    cases h1:Q3 v with
    | none=>rw [h1] at h;simp at h
    | some a =>
      cases h2:Zah vs with
      | none=>rw [h1,h2] at h;simp at h
      | some as =>
        rw [h1,h2] at h
        simp only [Option.some.injEq] at h
        subst h
        simp only [VRL]
        exact ⟨v,vs,rfl,Zh0 c h1,ih h2⟩
theorem Zgr (c:Ctx) {v:Value} {x:AV} (h:Zeu v=some x):VR c x v:=by
  cases v with
  | agg cs =>
    simp only [Zeu,Ydz] at h
    obtain ⟨xs,h1,rfl⟩:=h
    simp only [VR]
    exact ⟨cs,rfl,S7 c h1⟩
  | _=>exact Zh0 c h
theorem Zwl {E:Env} {c:Ctx} {sl loc:List (Nat × AV)} {N:Nat} {a:Act} (hf:Fr c (M2 sl loc) N a) (hg:∀ n,VR c (Zd9 (E.glob n)) (.pointer (some ⟨n,0,none⟩)))
    {x:Operand} {lx:LO} (h:H9 x=some lx):VR c (evR E sl loc lx) (a.eval x):=by
  cases x with
  | tmp t=>simp only [H9,Option.some.injEq] at h;subst h;exact hf.slots t
  | const v=>simp only [H9,Ydz] at h;obtain ⟨x,h1,rfl⟩:=h;exact Zgr c h1
  | global g=>simp only [H9,Option.some.injEq] at h;subst h;exact hg g
  | func f=>simp only [H9,Option.some.injEq] at h;subst h;simp [evR,Act.eval,VR,VRL]
theorem Z2p {E:Env} {c:Ctx} {sl loc:List (Nat × AV)} {N:Nat} {a:Act} (hf:Fr c (M2 sl loc) N a) (hg:∀ n,VR c (Zd9 (E.glob n)) (.pointer (some ⟨n,0,none⟩))) :
    ∀ {xs:List Operand} {lxs:List LO},Zbx xs=some lxs→VRL c (lxs.map (evR E sl loc)) (xs.map a.eval):=by
  intro xs
  induction xs with
  | nil=>intro lxs h;simp only [Zbx,Option.some.injEq] at h;subst h;simp [VRL]
  | cons x xs ih =>
    intro lxs h
    simp only [Zbx] at h
    cases h1:H9 x with
    | none=>rw [h1] at h;simp at h
    | some y =>
      cases h2:Zbx xs with
      | none=>rw [h1,h2] at h;simp at h
      | some ys =>
        rw [h1,h2] at h
        simp only [Option.some.injEq] at h
        subst h
        simp only [List.map_cons,VRL]
        exact ⟨_,_,rfl,Zwl hf hg h1,ih h2⟩
section
variable (E:Env) (w0:World) (O0:Nat→Prop) (σ0:A3) (L0:Lay) (P:Program) (σ:A3) (L:Lay) (w:World) (o:Oper) (a:Act)
def J7 (v:AV) (u:Ups):Prop :=
  ∀ (next:Act→World→Prop) (Q:Exit→Act→World→Prop),
    (∀ y w' L',Rel E w0 O0 σ0 L0 (B2 σ u) L' w'→CLe (ctx σ L w) (ctx (B2 σ u) L' w')→VR (ctx (B2 σ u) L' w') v y→next (a.put o.dst y) w')→o.wp P a w next Q
end
variable {E:Env} {w0:World} {O0:Nat→Prop} {σ0:A3} {L0:Lay} {P:Program} {σ:A3} {L:Lay} {w:World} {o:Oper} {a:Act}
theorem K2 {v:AV} {u:Ups} {y:Value} {w':World} {L':Lay} (hr:(execOp a.eval o).run P w=.ok (.value y) w') (h1:Rel E w0 O0 σ0 L0 (B2 σ u) L' w')
    (h2:CLe (ctx σ L w) (ctx (B2 σ u) L' w')) (h3:VR (ctx (B2 σ u) L' w') v y):J7 E w0 O0 σ0 L0 P σ L w o a v u:=by
  intro next Q hn
  unfold Oper.wp
  rw [hr]
  exact hn y w' L' h1 h2 h3
theorem Zdv {u:Ups} {w':World} {L':Lay} (hr:(execOp a.eval o).run P w=.ok .skip w') (h1:Rel E w0 O0 σ0 L0 (B2 σ u) L' w')
    (h2:CLe (ctx σ L w) (ctx (B2 σ u) L' w')):J7 E w0 O0 σ0 L0 P σ L w o a .und u:=by
  intro next Q hn
  unfold Oper.wp
  rw [hr]
  exact hn undef w' L' h1 h2 (by simp [VR])
theorem B0 (h:Rel E w0 O0 σ0 L0 σ L w) {v:AV} {y:Value} (hr:(execOp a.eval o).run P w=.ok (.value y) w) (hv:VR (ctx σ L w) v y):J7 E w0 O0 σ0 L0 P σ L w o a v [] :=
  K2 (u:=[]) hr h (CLe.refl _) hv
theorem R2 {t:TypeId} {n:Nat} (h:J9 P t=some n) (w:World):(Go.sizeOf t).run P w=.ok n w:=by
  unfold J9 at h
  simp only [Ydz] at h
  obtain ⟨i,h1,h2⟩:=h
  simp [Go.sizeOf,typeInfo,h1,h2]
theorem Z2q {t:TypeId} {z:List AV} (h:Y9 P t=some z) (w:World):∃ zv,(zeroValue t).run P w=.ok zv w∧Zah zv.cells.toList=some z:=by
  unfold Y9 at h
  cases h1:(P.info? t).bind (·.zero) with
  | none=>rw [h1] at h;cases h
  | some zv =>
    rw [h1] at h
    simp only [Option.bind_eq_some_iff] at h1
    obtain ⟨i,h2,h3⟩:=h1
    exact ⟨zv,by simp [zeroValue,typeInfo,h2,h3],h⟩
theorem Zdw {t:TypeId} {x:Option Nat} (h:Zcy P t=some x) (w:World) :
    (isAgg t).run P w=.ok x.isSome w∧∀ n,x=some n→(Go.sizeOf t).run P w=.ok n w:=by
  unfold Zcy at h
  cases hu:P.underlying t with
  | none=>rw [hu] at h;simp at h
  | some d =>
    cases hi:P.info? t with
    | none=>rw [hu,hi] at h;cases d<;>simp at h
    | some i =>
      rw [hu,hi] at h
      have hs:(Go.sizeOf t).run P w=.ok i.size w:=by simp [Go.sizeOf,typeInfo,hi]
      cases d<;>simp only [Option.some.injEq] at h<;>subst h<;>refine ⟨by simp [isAgg,run_underlying hu],fun n hn=>?_⟩<;>first|(cases hn;exact hs)|cases hn
theorem R7 (b off n:Nat):(⟨b,off,none⟩:Addr).add n=⟨b,off+n,none⟩:=Addr.add_lit b off n
theorem Zk1 {c:Ctx} {b off n:Nat} {xs:List AV} (hw:c.w=w) (h:VRC c b off xs) (hn:xs.length=n) :
    ∃ vs:List Value,VRL c xs vs∧vs.length=n∧(loadCells ⟨b,off,none⟩ n).run P w=.ok vs.toArray w:=by
  obtain ⟨vs,h1,h2⟩:=Zc3 h
  have hl:=G4 h1
  refine ⟨vs,h1,by omega,?_⟩
  have:=run_loadCells_list (P:=P) w ⟨b,off,none⟩ vs (fun j v hj=>by rw [R7,←hw];exact h2 j v hj)
  rw [show vs.length=n by omega] at this
  exact this
theorem V3 {α:Type} {xs:List α} {o n:Nat} (h:o+n≤xs.length):(sub xs o n).length=n:=by
  unfold sub
  rw [Yd0,Yd1]
  omega
def Zgs (xs:List AV) (off:Nat):Option Nat→AV→Prop
  | none,v=>xs[off]? = some v
  | some n,v=>off+n≤xs.length∧v=.agg (sub xs off n)
theorem Zew {c:Ctx} {b o off:Nat} {t:TypeId} {n:Option Nat} {xs:List AV} (hw:c.w=w) (hn:Zcy P t=some n) (h:VRC c b o xs) {v:AV}
    (hv:Zgs xs off n v) :
    ∃ y,(loadVar t ⟨b,o+off,none⟩).run P w=.ok y w∧VR c v y:=by
  obtain ⟨h1,h2⟩:=Zdw hn w
  cases n with
  | none =>
    obtain ⟨y,h3,h4⟩:=Zbm h hv
    refine ⟨y,?_,h4⟩
    rw [hw] at h3
    simp [loadVar,h1,h3]
  | some n =>
    obtain ⟨hb,rfl⟩:=hv
    obtain ⟨vs,h3,h4,h5⟩:=Zk1 (P:=P) (w:=w) (n:=n) hw (Zbn h off n) (V3 hb)
    refine ⟨.agg vs.toArray,?_,?_⟩
    · simp [loadVar,h1,h2 n rfl,h5]
    · simp only [VR];exact ⟨_,rfl,by simpa using h3⟩
theorem H4 {s:Site} {e:Ent} (h:A6 σ s=some e):(ctx σ L w).T s=some (e.g,e.alive):=by
  show (A6 σ s).map _=_
  rw [h];rfl
theorem H8 {s:Site} {g:Nat} {α:Type} {k:Ent→Acc α} {x : α} (h:((O4 s g).bind k).run σ=some x):∃ e,A6 σ s=some e∧e.alive=true∧e.g=g∧(k e).run σ=some x:=by
  simp only [O4,Acc.bind,Acc.run] at h
  cases h1:A6 σ s with
  | none=>rw [h1] at h;simp [Zoi,Acc.bind,Acc.run] at h
  | some e =>
    rw [h1] at h
    simp only [Zoi] at h
    by_cases hc:e.alive=true∧e.g=g
    · rw [if_pos hc] at h;exact ⟨e,rfl,hc.1,hc.2,h⟩
    · rw [if_neg hc] at h;simp [Acc.bind,Acc.run] at h
theorem Zb8 (h:StoreOK σ L w) {s:Site} {g off:Nat} {y:Value} (hv:VR (ctx σ L w) (.ref s g off) y) {e:Ent} (he:A6 σ s=some e) (ha:e.alive=true) (hg:e.g=g) :
    ∃ b o,L s=some (b,o)∧y=.pointer (some ⟨b,o+off,none⟩)∧Zcx w b (o+e.cells.length)∧VRC (ctx σ L w) b o e.cells:=by
  simp only [VR] at hv
  obtain ⟨_,g0,al,h1,_,h3⟩:=hv
  rw [H4 he] at h1
  simp only [Option.some.injEq,Prod.mk.injEq] at h1
  obtain ⟨h4,h5⟩:=h1
  obtain ⟨b,o,h6,h7,h10⟩:=h3 (by rw [←h5];exact ha) (by omega)
  obtain ⟨h8,h9⟩:=h.free he ha h6 h10
  exact ⟨b,o,h6,h7,h8,h9⟩
theorem Zbt {s:Site} {g off n z:Nat} {y:Value} (hv:VR (ctx σ L w) (.buf s g off n z) y) {e:Ent} (he:A6 σ s=some e) (ha:e.alive=true) (hg:e.g=g) :
    K1 (ctx σ L w) s off n z y:=by
  simp only [VR] at hv
  obtain ⟨_,g0,al,h1,_,h3⟩:=hv
  rw [H4 he] at h1
  simp only [Option.some.injEq,Prod.mk.injEq] at h1
  obtain ⟨h4,h5⟩:=h1
  exact h3 (by rw [←h5];exact ha) (by omega)
theorem Zex {b n m:Nat} {w:World} {y:Value} {f:Nat→Value} {g:Nat→Nat} {q0:Nat→Value} (h:(n=0∧X0 w b 0∧∃ q,y=q0 q)∨∃ cap,y=f cap∧m≤cap∧X0 w b (g cap)):X0 w b 0:=by
  rcases h with ⟨_,h,_⟩|⟨_,_,_,h⟩
  · exact h
  · exact h.zero
theorem ok_mv (h:Rel E w0 O0 σ0 L0 σ L w) {x:Operand} {v:AV} (ho:o.op=.move x∨o.op=.assign x) (hv:VR (ctx σ L w) v (a.eval x)) {r:AV × Ups} (hr:(one v).run σ=some r) :
    J7 E w0 O0 σ0 L0 P σ L w o a r.1 r.2:=by
  simp only [one,Acc.run,Option.some.injEq] at hr
  subst hr
  refine B0 h (y:=a.eval x) ?_ hv
  rcases ho with ho|ho<;>simp [execOp,ho]
theorem Z9n (h:Rel E w0 O0 σ0 L0 σ L w) {c x y:Operand} {vc vx vy:AV} (ho:o.op=.pick c x y) (hc:VR (ctx σ L w) vc (a.eval c)) (hx:VR (ctx σ L w) vx (a.eval x)) (hy:VR (ctx σ L w) vy (a.eval y))
    {r:AV × Ups} (hr:(Zol vc vx vy).run σ=some r):J7 E w0 O0 σ0 L0 P σ L w o a r.1 r.2:=by
  cases vc<;>simp only [Zol,Acc.run,reduceCtorEq] at hr
  rename_i t
  simp only [one,Acc.run,Option.some.injEq] at hr
  subst hr
  simp only [VR] at hc
  cases t with
  | true=>exact B0 h (y:=a.eval x) (by simp [execOp,ho,hc,asBool]) hx
  | false=>exact B0 h (y:=a.eval y) (by simp [execOp,ho,hc,asBool]) hy
theorem ok_ld (h:Rel E w0 O0 σ0 L0 σ L w) {t:TypeId} {x:Operand} {n:Option Nat} {v:AV} (ho:o.op=.load t x) (ht:Zcy P t=some n) (hv:VR (ctx σ L w) v (a.eval x))
    {r:AV × Ups} (hr:(ldV n v).run σ=some r):J7 E w0 O0 σ0 L0 P σ L w o a r.1 r.2:=by
  have key:∀ (b o' off:Nat) (cs:List AV) (r':AV × Ups),a.eval x=.pointer (some ⟨b,o'+off,none⟩)→VRC (ctx σ L w) b o' cs →
      (match n with|none=>optV cs[off]? | some n=>aggV cs off n).run σ=some r'→J7 E w0 O0 σ0 L0 P σ L w o a r'.1 r'.2:=by
    intro b o' off cs r' hx hc hr'
    have:∃ v',r'=(v',[])∧Zgs cs off n v':=by
      cases n with
      | none =>
        simp only at hr'
        cases hcs:cs[off]? with
        | none=>rw [hcs] at hr';simp [optV,Acc.run] at hr'
        | some v'=>rw [hcs] at hr';simp only [optV,one,Acc.run,Option.some.injEq] at hr';exact ⟨v',hr'.symm,hcs⟩
      | some n =>
        simp only [aggV] at hr'
        by_cases hle:off+n≤cs.length
        · rw [if_pos hle] at hr';simp only [one,Acc.run,Option.some.injEq] at hr';exact ⟨_,hr'.symm,hle,rfl⟩
        · rw [if_neg hle] at hr';simp [Acc.run] at hr'
    obtain ⟨v',rfl,hv'⟩:=this
    obtain ⟨y,h1,h2⟩:=Zew (P:=P) (w:=w) (c:=ctx σ L w) rfl ht hc hv'
    refine B0 h (y:=y) ?_ h2
    simp [execOp,ho,Instr.loadAt,Instr.sureAddr,hx,h1]
  cases v with
  | fp cs off =>
    simp only [VR] at hv
    obtain ⟨_,b,o',h1,h2,h3,h4⟩:=hv
    refine key b o' off cs r h1 h4 ?_
    cases n<;>exact hr
  | ref s g off =>
    have hr':((O4 s g).bind (ldC n off)).run σ=some r:=by cases n<;>exact hr
    obtain ⟨e,he,ha,hg,hk⟩:=H8 hr'
    obtain ⟨b,o',h1,h2,h3,h4⟩:=Zb8 h.store hv he ha hg
    refine key b o' off e.cells r h2 h4 ?_
    cases n<;>exact hk
  | _=>cases n<;>simp [ldV,Acc.run] at hr
theorem V4 {s:Site} {g:Nat} {x:AV} {r:AV × Ups} (h:(still1 s g x).run σ=some r):r=(x,[])∧∃ e,A6 σ s=some e∧e.alive=true∧e.g=g:=by
  obtain ⟨e,h1,h2,h3,h4⟩:=H8 h
  simp only [Acc.run,Option.some.injEq] at h4
  exact ⟨h4.symm,e,h1,h2,h3⟩
theorem Z2r (h:Rel E w0 O0 σ0 L0 σ L w) {x:Operand} {v:AV} (ho:o.op=.nilCheck x) (hv:VR (ctx σ L w) v (a.eval x))
    {r:AV × Ups} (hr:(Zfw v).run σ=some r):J7 E w0 O0 σ0 L0 P σ L w o a r.1 r.2:=by
  cases v<;>simp only [Zfw,one,Acc.run,Option.some.injEq,reduceCtorEq] at hr
  case fp cs off =>
    subst hr
    have hv':=hv
    simp only [VR] at hv'
    obtain ⟨_,b,o',h1,_⟩:=hv'
    exact B0 h (y:=a.eval x) (by simp [execOp,ho,h1]) hv
  case ref s g off =>
    obtain ⟨rfl,e,he,ha,hg⟩:=V4 hr
    obtain ⟨b,o',_,h2,_⟩:=Zb8 h.store hv he ha hg
    exact B0 h (y:=a.eval x) (by simp [execOp,ho,h2]) hv
  case clo f cap =>
    subst hr
    have hv':=hv
    simp only [VR] at hv'
    obtain ⟨vs,h1,_⟩:=hv'
    exact B0 h (y:=a.eval x) (by simp [execOp,ho,h1]) hv
end Cod
namespace Cod
open Go
variable {E:Env} {w0:World} {O0:Nat→Prop} {σ0:A3} {L0:Lay} {P:Program} {σ:A3} {L:Lay} {w:World} {o:Oper} {a:Act}
theorem Zf3 (l:List UInt8):(⟨l.toArray⟩:ByteArray).toList=l:=by rw [ByteArray.toList_eq]
theorem Zai {x:Option AV} {r:AV × Ups} (h:(optV x).run σ=some r):∃ v,x=some v∧r=(v,[]):=by
  cases x with
  | none=>simp [optV,Acc.run] at h
  | some v=>simp only [optV,one,Acc.run,Option.some.injEq] at h;exact ⟨v,rfl,h.symm⟩
theorem A7 {α:Type} {x y : α} (h:(Acc.ret x).run σ=some y):y=x:=by
  simp only [Acc.run,Option.some.injEq] at h;exact h.symm
theorem A9 {α:Type} {y : α} {p:Prop} (h:(Acc.fail:Acc α).run σ=some y):p:=by simp [Acc.run] at h
theorem G0 {α:Type} {c:Prop} [Decidable c] {x:Acc α} {y : α} (h:(if c then x else Acc.fail).run σ=some y):c∧x.run σ=some y:=by
  by_cases hc:c
  · rw [if_pos hc] at h;exact ⟨hc,h⟩
  · rw [if_neg hc] at h;exact A9 h
theorem Zab {α:Type} {c:Prop} [Decidable c] {x:Option α} {y : α} (h:(if c then x else none)=some y):c∧x=some y:=by
  by_cases hc:c
  · rw [if_pos hc] at h;exact ⟨hc,h⟩
  · rw [if_neg hc] at h;cases h
theorem Zr5 (t:TypeId) (op:BinOp) (k:IntKind) (x y:Int) (v:AV) (hop:op≠.shl∧op≠.shr) (h:Q9 op k x y=some v) :
    ∃ u,(binOp op t (.int k x) (.int k y)).run P w=.ok u w∧∀ c,VR c v u:=by
  obtain ⟨h1,h2⟩:=hop
  cases op<;>simp only [Q9,Option.some.injEq,reduceCtorEq] at h<;>first
    | (exact absurd rfl h1)|(exact absurd rfl h2)
    | (subst h;exact ⟨_,by simp [binOp,Op.intArith,Op.intBits,Op.intCmp];rfl,fun c=>by simp [VR]⟩)
    | skip
  · by_cases hy:y=0
    · rw [if_pos hy] at h;cases h
    · rw [if_neg hy] at h;cases h;exact ⟨_,by simp [binOp,Op.intDiv,hy];rfl,fun c=>by simp [VR]⟩
  · by_cases hy:y=0
    · rw [if_pos hy] at h;cases h
    · rw [if_neg hy] at h;cases h;exact ⟨_,by simp [binOp,Op.intDiv,hy];rfl,fun c=>by simp [VR]⟩
theorem Zk2 (t:TypeId) (op:BinOp) (k k':IntKind) (x y:Int) (v:AV) (hop:op=.shl∨op=.shr) (h:Zc0 op k x y=some v) :
    ∃ u,(binOp op t (.int k x) (.int k' y)).run P w=.ok u w∧∀ c,VR c v u:=by
  unfold Zc0 at h
  by_cases hy:y<0
  · rw [if_pos hy] at h;cases h
  · rw [if_neg hy] at h
    rcases hop with rfl|rfl
    · simp only [Option.some.injEq] at h;subst h
      exact ⟨_,by simp [binOp,Op.shift,hy];rfl,fun c=>by simp [VR,Nat.min_def]⟩
    · simp only [Option.some.injEq] at h;subst h
      exact ⟨_,by simp [binOp,Op.shift,hy];rfl,fun c=>by simp [VR,Nat.min_def]⟩
theorem Zr6 (t:TypeId) (op:BinOp) (x y:List UInt8) (v:AV) (h:Zr1 op x y=some v) :
    ∃ u,(binOp op t (.string ⟨x.toArray⟩) (.string ⟨y.toArray⟩)).run P w=.ok u w∧∀ c,VR c v u:=by
  cases op<;>simp only [Zr1,Option.some.injEq,reduceCtorEq] at h<;>first
    | (subst h;exact ⟨_,by simp [binOp,Op.stringOp,Zf3];rfl,fun c=>by simp [VR]⟩)
    | skip
  obtain ⟨h1,h2⟩:=Zab h
  cases h2
  refine ⟨.string (⟨x.toArray⟩++⟨y.toArray⟩),?_,fun c=>?_⟩
  · have:¬ ((((⟨x.toArray⟩:ByteArray).size+(⟨y.toArray⟩:ByteArray).size:Nat):Int) > IntKind.i64.max):=by
      simp only [ByteArray.size,Yd2,IntKind.max_i64];omega
    simp only [binOp,Op.stringOp]
    rw [if_neg this]
    rfl
  · simp only [VR]
    congr 1
theorem Zr7 (h:Rel E w0 O0 σ0 L0 σ L w) {op:BinOp} {t t':TypeId} {x y:Operand} {vx vy:AV} (ho:o.op=.binOp op t x y t') (hx:VR (ctx σ L w) vx (a.eval x)) (hy:VR (ctx σ L w) vy (a.eval y))
    {r:AV × Ups} (hr:(optV (G6 op vx vy)).run σ=some r):J7 E w0 O0 σ0 L0 P σ L w o a r.1 r.2:=by
  obtain ⟨v,h1,rfl⟩:=Zai hr
  cases vx<;>simp only [G6,reduceCtorEq] at h1
  case int k n =>
    cases vy<;>simp only [reduceCtorEq] at h1
    rename_i k' m
    simp only [VR] at hx hy
    have key:∃ u,(binOp op t (.int k n) (.int k' m)).run P w=.ok u w∧∀ c,VR c v u:=by
      by_cases hop:op=.shl∨op=.shr
      · refine Zk2 t op k k' n m v hop ?_
        rcases hop with rfl|rfl<;>exact h1
      · have hop':op≠.shl∧op≠.shr:=⟨fun e=>hop (.inl e),fun e=>hop (.inr e)⟩
        have h2:(if k=k' then Q9 op k n m else none)=some v:=by
          cases op<;>first|exact h1|exact absurd rfl hop'.1|exact absurd rfl hop'.2
        obtain ⟨rfl,h3⟩:=Zab h2
        exact Zr5 t op k n m v hop' h3
    obtain ⟨u,h3,h4⟩:=key
    refine B0 h (y:=u) ?_ (h4 _)
    simp [execOp,ho,hx,hy,eqGuard_at_int,h3]
  case str s =>
    cases vy<;>simp only [reduceCtorEq] at h1
    rename_i s'
    simp only [VR] at hx hy
    obtain ⟨u,h3,h4⟩:=Zr6 (P:=P) (w:=w) t op s s' v h1
    refine B0 h (y:=u) ?_ (h4 _)
    simp [execOp,ho,hx,hy,eqGuard_at_string,h3]
theorem ok_eqb (h:Rel E w0 O0 σ0 L0 σ L w) {op:BinOp} {neg:Bool} (hop:(op=.eql∧neg=false)∨(op=.neq∧neg=true)) {t t':TypeId} (ht:P.underlying t=some .bool) {x y:Operand} {vx vy:AV}
    (ho:o.op=.binOp op t x y t') (hx:VR (ctx σ L w) vx (a.eval x)) (hy:VR (ctx σ L w) vy (a.eval y))
    {r:AV × Ups} (hr:(optV (Zoh neg vx vy)).run σ=some r):J7 E w0 O0 σ0 L0 P σ L w o a r.1 r.2:=by
  obtain ⟨v,h1,rfl⟩:=Zai hr
  cases vx<;>simp only [Zoh,reduceCtorEq] at h1
  cases vy<;>simp only [Option.some.injEq,reduceCtorEq] at h1
  subst h1
  rename_i b b'
  simp only [VR] at hx hy
  refine B0 h (y:=.bool (bif neg then !(b==b') else b==b')) ?_ (by simp [VR])
  have he:(Op.equal t (.bool b) (.bool b')).run P w=.ok (b==b') w:=run_equalIn_bool' (P:=P) w 9999 t b b' ht
  rcases hop with ⟨rfl,rfl⟩|⟨rfl,rfl⟩
  · have h2:binOp .eql t (.bool b) (.bool b')=(do pure (.bool (←Op.equal t (.bool b) (.bool b')))):=rfl
    simp [execOp,ho,hx,hy,eqGuard_at_bool,h2,he]
  · have h2:binOp .neq t (.bool b) (.bool b')=(do pure (.bool (!(←Op.equal t (.bool b) (.bool b'))))):=rfl
    simp [execOp,ho,hx,hy,eqGuard_at_bool,h2,he]
theorem ok_un (h:Rel E w0 O0 σ0 L0 σ L w) {op:UnOp} {t:TypeId} {x:Operand} {vx:AV} (ho:o.op=.unOp op t x) (hx:VR (ctx σ L w) vx (a.eval x))
    {r:AV × Ups} (hr:(optV (Zkt op vx)).run σ=some r):J7 E w0 O0 σ0 L0 P σ L w o a r.1 r.2:=by
  obtain ⟨v,h1,rfl⟩:=Zai hr
  cases op<;>cases vx<;>simp only [Zkt,Option.some.injEq,reduceCtorEq] at h1<;>subst h1<;>simp only [VR] at hx <;>
    refine B0 h (y:=?_) ?_ (by simp only [VR];rfl)<;>simp [execOp,ho,hx,Op.unary,Op.intArith,Op.intBits]
theorem ok_cvi (h:Rel E w0 O0 σ0 L0 σ L w) {s t:TypeId} {x:Operand} {vx:AV} {k:IntKind} {dsc:TypeDesc} (hs:P.underlying s=some dsc) (ht:P.underlying t=some (.int k)) (ho:o.op=.convert s t x)
    (hx:VR (ctx σ L w) vx (a.eval x)) {r:AV × Ups} (hr:(Zkv k vx).run σ=some r):J7 E w0 O0 σ0 L0 P σ L w o a r.1 r.2:=by
  cases vx<;>simp only [Zkv,one,Acc.run,Option.some.injEq,reduceCtorEq] at hr
  rename_i k' n
  subst hr
  simp only [VR] at hx
  exact B0 h (y:=.int k (k.wrap n)) (by simp [execOp,ho,hx,convert,run_underlying hs,run_underlying ht,Conv.intToInt]) (by simp [VR])
theorem ok_s2s (h:Rel E w0 O0 σ0 L0 σ L w) {s t:TypeId} {x:Operand} {vx:AV} (hs:P.underlying s=some .string) (ht:P.underlying t=some .string) (ho:o.op=.convert s t x)
    (hx:VR (ctx σ L w) vx (a.eval x)) {r:AV × Ups} (hr:(s2sV vx).run σ=some r):J7 E w0 O0 σ0 L0 P σ L w o a r.1 r.2:=by
  cases vx<;>simp only [s2sV,one,Acc.run,Option.some.injEq,reduceCtorEq] at hr
  subst hr
  have hx':=hx
  simp only [VR] at hx
  exact B0 h (y:=a.eval x) (by simp [execOp,ho,hx,convert,run_underlying hs,run_underlying ht]) hx'
theorem Zxu:∀ {x:AV},J6 x=true→P9 x=true:=by intro x h;cases x<;>simp_all [J6,P9]
theorem Z9o (h:Rel E w0 O0 σ0 L0 σ L w) {t:TypeId} {dsc:TypeDesc} (ht:P.underlying t=some dsc) (hd:∀ ms,dsc≠.interface ms) {x:Operand} {vx:AV} (ho:o.op=.makeInterface t x)
    (hx:VR (ctx σ L w) vx (a.eval x)) {r:AV × Ups} (hr:(Zi9 t vx).run σ=some r):J7 E w0 O0 σ0 L0 P σ L w o a r.1 r.2:=by
  have key:r=(.ifc t vx,[]):=by
    cases vx<;>simp only [Zi9] at hr<;>obtain ⟨_,h2⟩:=G0 hr<;>exact A7 h2
  subst key
  refine B0 h (y:=.iface t (a.eval x)) ?_ (by simp only [VR];exact ⟨_,rfl,hx⟩)
  cases dsc<;>first|exact absurd rfl (hd _)|simp [execOp,ho,Instr.makeInterface,run_underlying ht]
theorem Z9p (h:Rel E w0 O0 σ0 L0 σ L w) {f:FuncId} {first cap:Array Operand} (hfi:first = #[]) {vs:List AV} (ho:o.op=.makeFunc (.func f) first cap) (hx:VRL (ctx σ L w) vs (cap.toList.map a.eval))
    {r:AV × Ups} (hr:(one (.clo f vs)).run σ=some r):J7 E w0 O0 σ0 L0 P σ L w o a r.1 r.2:=by
  have key:=A7 hr
  subst key
  subst hfi
  refine B0 h (y:=.func (.func f) #[] (cap.map a.eval)) (by simp [execOp,ho,Instr.makeFunc]) ?_
  simp only [VR]
  exact ⟨_,rfl,by simpa using hx⟩
theorem ok_ext (h:Rel E w0 O0 σ0 L0 σ L w) {x:Operand} {i:Nat} {vx:AV} (ho:o.op=.extract x i) (hx:VR (ctx σ L w) vx (a.eval x))
    {r:AV × Ups} (hr:(extV i vx).run σ=some r):J7 E w0 O0 σ0 L0 P σ L w o a r.1 r.2:=by
  cases vx<;>simp only [extV] at hr<;>try exact A9 hr
  obtain ⟨v,h1,rfl⟩:=Zai hr
  simp only [VR] at hx
  obtain ⟨vs,h2,h3⟩:=hx
  obtain ⟨u,h4,h5⟩:=Zav h3 h1
  refine B0 h (y:=u) ?_ h5
  have h4':vs[i]? = some u:=by simpa using h4
  simp [execOp,ho,Instr.extract,h2,h4']
theorem Z2s {cs:List AV} {off n:Nat} {r:AV × Ups} (h:(aggV cs off n).run σ=some r):off+n≤cs.length∧r=(.agg (sub cs off n),[]):=by
  obtain ⟨h1,h2⟩:=G0 h
  exact ⟨h1,A7 h2⟩
theorem Zbz {t:TypeId} {n:Option Nat} (hn:Zcy P t=some n) {c:Ctx} {cs:List AV} {vs:Array Value} (h:VRL c cs vs.toList) {off:Nat} {v:AV} (hv:Zgs cs off n v) :
    ∃ y,(part t vs off).run P w=.ok y w∧VR c v y:=by
  obtain ⟨h1,h2⟩:=Zdw hn w
  cases n with
  | none =>
    obtain ⟨u,h3,h4⟩:=Zav h hv
    refine ⟨u,?_,h4⟩
    have h3':vs[off]? = some u:=by simpa using h3
    simp [part,h1,h3']
  | some n =>
    obtain ⟨hb,rfl⟩:=hv
    refine ⟨.agg (vs.extract off (off+n)),by simp [part,h1,h2 n rfl],?_⟩
    simp only [VR]
    refine ⟨_,rfl,?_⟩
    have:(vs.extract off (off+n)).toList=sub vs.toList off n:=by
      simp [sub,Array.toList_extract,Yd3]
    rw [this]
    exact Z9m h off n
theorem ok_fld (h:Rel E w0 O0 σ0 L0 σ L w) {s:TypeId} {x:Operand} {i:Nat} {fs:Array Field} {f:Field} (hs:P.underlying s=some (.struct fs)) (hf:fs[i]? = some f) {n:Option Nat} (hn:Zcy P f.type=some n)
    {vx:AV} (ho:o.op=.field s x i) (hx:VR (ctx σ L w) vx (a.eval x)) {r:AV × Ups} (hr:(Zom f.offset n vx).run σ=some r):J7 E w0 O0 σ0 L0 P σ L w o a r.1 r.2:=by
  cases vx<;>try (cases n<;>simp only [Zom] at hr<;>exact A9 hr)
  rename_i cs
  simp only [VR] at hx
  obtain ⟨vs,h2,h3⟩:=hx
  have:∃ v,r=(v,[])∧Zgs cs f.offset n v:=by
    cases n with
    | none=>simp only [Zom] at hr;obtain ⟨v,h1,h4⟩:=Zai hr;exact ⟨v,h4,h1⟩
    | some n=>simp only [Zom] at hr;obtain ⟨h1,h4⟩:=Z2s hr;exact ⟨_,h4,h1,rfl⟩
  obtain ⟨v,rfl,hv⟩:=this
  obtain ⟨y,h4,h5⟩:=Zbz (P:=P) (w:=w) hn h3 hv
  exact B0 h (y:=y) (by simp [execOp,ho,Instr.field,run_underlying hs,hf,asAgg,h2,h4]) h5
theorem ok_fa (h:Rel E w0 O0 σ0 L0 σ L w) {s:TypeId} {x:Operand} {i:Nat} {fs:Array Field} {f:Field} (hs:P.underlying s=some (.struct fs)) (hf:fs[i]? = some f) {n:Nat} (hn:J9 P f.type=some n) (hn0:n≠0)
    {vx:AV} (ho:o.op=.fieldAddr s x i) (hx:VR (ctx σ L w) vx (a.eval x)) {r:AV × Ups} (hr:(faV f.offset vx).run σ=some r):J7 E w0 O0 σ0 L0 P σ L w o a r.1 r.2:=by
  have key:∀ b off,a.eval x=.pointer (some ⟨b,off,none⟩)→(execOp a.eval o).run P w=.ok (.value (.pointer (some ⟨b,off+f.offset,none⟩))) w:=by
    intro b off hb
    simp [execOp,ho,Instr.fieldAt,run_underlying hs,hf,Instr.sureAddr,hb,fieldPlace,R2 hn,hn0,R7]
  cases vx<;>simp only [faV] at hr<;>try exact A9 hr
  case fp cs off =>
    have k:=A7 hr
    subst k
    simp only [VR] at hx
    obtain ⟨hfl,b,o',h1,h2⟩:=hx
    refine B0 h (key b _ h1) ?_
    simp only [VR]
    exact ⟨hfl,b,o',by rw [Yd4],h2⟩
  case ref s' g off =>
    obtain ⟨rfl,e,he,ha,hg⟩:=V4 hr
    obtain ⟨b,o',h1,h2,hfr,_⟩:=Zb8 h.store hx he ha hg
    refine B0 h (key b _ h2) ?_
    simp only [VR]
    exact ⟨rfl,e.g,true,by rw [H4 he,ha],by omega,fun _ _=>⟨b,o',h1,by rw [Yd4],hfr.room⟩⟩
theorem Z6 {t ty e:TypeId} (he:P.underlying t=some (.slice e)) (base:Option Addr) (n c:Nat):(Builtin.len_ #[t] ty #[.slice base n c]).run P w=.ok (.int .i64 n) w:=by
  have h1:P.elem t=e:=by simp [Program.elem,he]
  exact run_len_slice w t ty base n c (by rw [h1];exact he)
theorem Zr8 (h:Rel E w0 O0 σ0 L0 σ L w) {arr:Option Nat} {x:Operand} {t t':TypeId} {c:Call} (hc:c.callee=.builtin .len) (hca:c.args = #[x]) (hct:c.argTypes = #[t])
    (hu:match arr with
      | some n=>P.underlying t=some (.array n t')∨(∃ p,P.underlying t=some (.pointer p)∧P.underlying p=some (.array n t'))
      | none=>∃ e,P.underlying t=some (.slice e))
    {vx:AV} (ho:o.op=.call c) (hx:VR (ctx σ L w) vx (a.eval x)) {r:AV × Ups} (hr:(Zgp arr vx).run σ=some r) :
    J7 E w0 O0 σ0 L0 P σ L w o a r.1 r.2:=by
  have hcall:∀ y,(Builtin.len_ #[t] o.type #[a.eval x]).run P w=.ok y w→(execOp a.eval o).run P w=.ok (.value y) w:=by
    intro y hy
    simp [execOp,ho,resolve,hc,hca,hct,invoke,builtin,hy]
  cases arr with
  | some n =>
    have k:r=(.int .i64 n,[]):=by cases vx<;>exact A7 hr
    subst k
    refine B0 h (hcall (.int .i64 n) ?_) (by simp [VR])
    rcases hu with hu|⟨p,hu,hp⟩
    · simp [Builtin.len_,run_underlying hu,goInt]
    · simp [Builtin.len_,run_underlying hu,run_underlying hp,goInt]
  | none =>
    cases vx<;>simp only [Zgp] at hr<;>try exact A9 hr
    case nils =>
      have k:=A7 hr
      subst k
      obtain ⟨e,he⟩:=hu
      simp only [VR] at hx
      refine B0 h (hcall (.int .i64 0) ?_) (by simp [VR])
      rw [hx];exact Z6 he _ _ _
    case lst cs n =>
      have k:=A7 hr
      subst k
      obtain ⟨e,he⟩:=hu
      simp only [VR] at hx
      refine B0 h (hcall (.int .i64 n) ?_) (by simp [VR])
      rcases hx.2 with ⟨_,h2,h3⟩|⟨b,o',cap,h3,_⟩
      · subst h2;rw [h3];exact Z6 he _ _ _
      · rw [h3];exact Z6 he _ _ _
    case buf s g off n z =>
      obtain ⟨rfl,e,hge,hal,hgg⟩:=V4 hr
      obtain ⟨e',he⟩:=hu
      have hb:=Zbt hx hge hal hgg
      refine B0 h (hcall (.int .i64 n) ?_) (by simp [VR])
      unfold K1 at hb
      split at hb
      · rcases hb with ⟨h4,_,q,h3⟩|⟨cap,h3,_⟩
        · subst h4;rw [h3];exact Z6 he _ _ _
        · rw [h3];exact Z6 he _ _ _
      · obtain ⟨h3,_,h4⟩:=hb
        subst h4
        rw [h3];exact Z6 he _ _ _
theorem Z9q (h:Rel E w0 O0 σ0 L0 σ L w) {x:Operand} {t:TypeId} {c:Call} (hc:c.callee=.builtin .len) (hca:c.args = #[x]) (hct:c.argTypes = #[t]) (hu:P.underlying t=some .string)
    {vx:AV} (ho:o.op=.call c) (hx:VR (ctx σ L w) vx (a.eval x)) {r:AV × Ups} (hr:(Zon vx).run σ=some r):J7 E w0 O0 σ0 L0 P σ L w o a r.1 r.2:=by
  cases vx<;>simp only [Zon] at hr<;>try exact A9 hr
  rename_i l
  have k:=A7 hr
  subst k
  simp only [VR] at hx
  refine B0 h (y:=.int .i64 l.length) ?_ (by simp [VR])
  have:=run_len_string (P:=P) w t o.type ⟨l.toArray⟩ hu
  simp only [goInt,ByteArray.size] at this
  simp [execOp,ho,resolve,hc,hca,hct,invoke,builtin,hx,this]
theorem ok_min (h:Rel E w0 O0 σ0 L0 σ L w) {x y:Operand} {c:Call} (hc:c.callee=.builtin .min) (hca:c.args = #[x,y]) {vx vy:AV} (ho:o.op=.call c) (hx:VR (ctx σ L w) vx (a.eval x)) (hy:VR (ctx σ L w) vy (a.eval y))
    {r:AV × Ups} (hr:(minV vx vy).run σ=some r):J7 E w0 O0 σ0 L0 P σ L w o a r.1 r.2:=by
  cases vx<;>simp only [minV] at hr<;>try exact A9 hr
  cases vy<;>simp only at hr<;>try exact A9 hr
  obtain ⟨rfl,h2⟩:=G0 hr
  have k:=A7 h2
  subst k
  simp only [VR] at hx hy
  refine B0 h (y:=.int _ _) ?_ (by simp only [VR];rfl)
  simp [execOp,ho,resolve,hc,hca,invoke,builtin,Builtin.min_,Builtin.min2,hx,hy]
theorem ok_max (h:Rel E w0 O0 σ0 L0 σ L w) {x y:Operand} {c:Call} (hc:c.callee=.builtin .max) (hca:c.args = #[x,y]) {vx vy:AV} (ho:o.op=.call c) (hx:VR (ctx σ L w) vx (a.eval x)) (hy:VR (ctx σ L w) vy (a.eval y))
    {r:AV × Ups} (hr:(maxV vx vy).run σ=some r):J7 E w0 O0 σ0 L0 P σ L w o a r.1 r.2:=by
  cases vx<;>simp only [maxV] at hr<;>try exact A9 hr
  cases vy<;>simp only at hr<;>try exact A9 hr
  obtain ⟨rfl,h2⟩:=G0 hr
  have k:=A7 h2
  subst k
  simp only [VR] at hx hy
  refine B0 h (y:=.int _ _) ?_ (by simp only [VR];rfl)
  simp [execOp,ho,resolve,hc,hca,invoke,builtin,Builtin.max_,Builtin.max2,hx,hy]
end Cod
namespace Cod
open Go
variable {E:Env} {w0:World} {O0:Nat→Prop} {σ0:A3} {L0:Lay} {P:Program} {σ:A3} {L:Lay} {w:World} {o:Oper} {a:Act}
theorem ok_ia (h:Rel E w0 O0 σ0 L0 σ L w) {arr:Option Nat} {t e:TypeId} {x i:Operand} {sz:Nat} (hs:J9 P e=some sz)
    (hu:match arr with|some n=>P.underlying t=some (.array n e)|none=>P.underlying t=some (.slice e))
    {vx vi:AV} (ho:o.op=.indexAddr t x i) (hx:VR (ctx σ L w) vx (a.eval x)) (hi:VR (ctx σ L w) vi (a.eval i)) {r:AV × Ups} (hr:(iaV sz arr vx vi).run σ=some r) :
    J7 E w0 O0 σ0 L0 P σ L w o a r.1 r.2:=by
  have key1:∀ (n:Nat) b off k (j:Int),P.underlying t=some (.array n e)→a.eval x=.pointer (some ⟨b,off,none⟩)→a.eval i=.int k j→0≤j→j<n →
      (execOp a.eval o).run P w=.ok (.value (.pointer (some ⟨b,off+j.toNat*sz,none⟩))) w:=by
    intro n b off k j hu hb hj h0 h1
    have e1:P.arrayLen t=n:=by simp [Program.arrayLen,hu]
    have e2:P.elem t=e:=by simp [Program.elem,hu]
    have:=run_indexAt_array (P:=P) w t ⟨b,off,none⟩ k j (by rw [e1,e2];exact hu)
    rw [if_pos ⟨h0,by rw [e1];exact h1⟩,e2,R2 hs] at this
    simp [execOp,ho,hb,hj,this,R7]
  have key2:∀ (n cap:Nat) b off k (j:Int),P.underlying t=some (.slice e)→a.eval x=.slice (some ⟨b,off,none⟩) n cap→a.eval i=.int k j→0≤j→j<n →
      (execOp a.eval o).run P w=.ok (.value (.pointer (some ⟨b,off+j.toNat*sz,none⟩))) w:=by
    intro n cap b off k j hu hb hj h0 h1
    have e2:P.elem t=e:=by simp [Program.elem,hu]
    have:=run_indexAt_slice (P:=P) w t ⟨b,off,none⟩ n cap k j (by rw [e2];exact hu)
    rw [if_pos ⟨h0,h1⟩,e2,R2 hs] at this
    simp [execOp,ho,hb,hj,this,R7]
  cases vi<;>try (cases arr<;>cases vx<;>simp only [iaV] at hr<;>exact A9 hr)
  rename_i k j
  simp only [VR] at hi
  cases arr with
  | some n =>
    cases vx<;>simp only [iaV] at hr<;>try exact A9 hr
    case fp cs off =>
      obtain ⟨⟨h0,h1⟩,h2⟩:=G0 hr
      have k:=A7 h2
      subst k
      simp only [VR] at hx
      obtain ⟨hfl,b,o',h3,h4⟩:=hx
      refine B0 h (key1 n b _ _ j hu h3 hi h0 h1) ?_
      simp only [VR]
      exact ⟨hfl,b,o',by rw [Yd4],h4⟩
    case ref s g off =>
      obtain ⟨⟨h0,h1⟩,h2⟩:=G0 hr
      obtain ⟨rfl,e',he,ha,hg⟩:=V4 h2
      obtain ⟨b,o',h3,h4,hfr,_⟩:=Zb8 h.store hx he ha hg
      refine B0 h (key1 n b _ _ j hu h4 hi h0 h1) ?_
      simp only [VR]
      exact ⟨rfl,e'.g,true,by rw [H4 he,ha],by omega,fun _ _=>⟨b,o',h3,by rw [Yd4],hfr.room⟩⟩
  | none =>
    cases vx<;>simp only [iaV] at hr<;>try exact A9 hr
    case lst cs n =>
      obtain ⟨⟨h0,h1⟩,h2⟩:=G0 hr
      have k:=A7 h2
      subst k
      simp only [VR] at hx
      rcases hx.2 with ⟨_,h3,_⟩|⟨b,o',cap,h3,hcap,h4,h5,h6⟩
      · omega
      · refine B0 h (key2 n cap b _ _ j hu h3 hi h0 h1) ?_
        simp only [VR]
        exact ⟨hx.1,b,o',rfl,h4,h5,h6⟩
    case buf s g off n z =>
      obtain ⟨⟨h0,h1,rfl⟩,h2⟩:=G0 hr
      obtain ⟨rfl,e',he,ha,hg⟩:=V4 h2
      have hb:=Zbt hx he ha hg
      unfold K1 at hb
      split at hb
      · rename_i b o' hl
        rcases hb with ⟨h4,_⟩|⟨cap,h3,_,hro⟩
        · omega
        refine B0 h (key2 n cap b _ _ j hu h3 hi h0 h1) ?_
        simp only [VR]
        exact ⟨rfl,e'.g,true,by rw [H4 he,ha],by omega,fun _ _=>⟨b,o',hl,by rw [Yd4],hro.zero⟩⟩
      · omega
theorem Z2t (l:List UInt8) (i:Nat):(⟨l.toArray⟩:ByteArray)[i]? = l[i]? := by
  simp only [getElem?_def,ByteArray.size,Yd2]
  split
  · rfl
  · rfl
theorem Zxv (h:Rel E w0 O0 σ0 L0 σ L w) {t:TypeId} {x i:Operand} (hu:P.underlying t=some .string) {sz:Nat} {g:Bool}
    {vx vi:AV} (ho:o.op=.index t x i) (hx:VR (ctx σ L w) vx (a.eval x)) (hi:VR (ctx σ L w) vi (a.eval i)) {r:AV × Ups} (hr:(ixV sz g none vx vi).run σ=some r) :
    J7 E w0 O0 σ0 L0 P σ L w o a r.1 r.2:=by
  cases vi<;>try (cases vx<;>simp only [ixV] at hr<;>exact A9 hr)
  rename_i k j
  cases vx<;>simp only [ixV] at hr<;>try exact A9 hr
  rename_i l
  obtain ⟨h0,h1⟩:=G0 hr
  cases hb:l[j.toNat]? with
  | none=>rw [hb] at h1;exact A9 h1
  | some u =>
    rw [hb] at h1
    have k:=A7 h1
    subst k
    simp only [VR] at hx hi
    refine B0 h (y:=.int .u8 u.toNat) ?_ (by simp [VR])
    simp [execOp,ho,Instr.index,hi,hx,asIntOf,run_underlying hu,h0,Z2t,hb]
theorem Zxw (h:Rel E w0 O0 σ0 L0 σ L w) {t e:TypeId} {x i:Operand} {n sz:Nat} {g:Option Nat} (hu:P.underlying t=some (.array n e)) (hs:J9 P e=some sz) (hg:Zcy P e=some g)
    {vx vi:AV} (ho:o.op=.index t x i) (hx:VR (ctx σ L w) vx (a.eval x)) (hi:VR (ctx σ L w) vi (a.eval i)) {r:AV × Ups} (hr:(ixV sz g.isSome (some n) vx vi).run σ=some r) :
    J7 E w0 O0 σ0 L0 P σ L w o a r.1 r.2:=by
  cases vi<;>try (cases vx<;>simp only [ixV] at hr<;>exact A9 hr)
  rename_i k j
  cases vx<;>simp only [ixV] at hr<;>try exact A9 hr
  rename_i cs
  obtain ⟨⟨h0,h1,h2⟩,h3⟩:=G0 hr
  simp only [VR] at hx hi
  obtain ⟨vs,h4,h5⟩:=hx
  have hsz:∀ m,g=some m→m=sz:=by
    intro m hm
    have a1:=(Zdw hg w).2 m hm
    have a2:=R2 hs w
    rw [a1] at a2
    cases a2
    rfl
  have:∃ v,r=(v,[])∧Zgs cs (j.toNat*sz) g v:=by
    cases g with
    | none =>
      simp only [Option.isSome_none,cond_false] at h3
      obtain ⟨v,h6,h7⟩:=Zai h3
      exact ⟨v,h7,h6⟩
    | some m =>
      simp only [Option.isSome_some,cond_true] at h3
      have:=hsz m rfl
      subst this
      exact ⟨_,A7 h3,h2,rfl⟩
  obtain ⟨v,rfl,hv⟩:=this
  obtain ⟨y,h6,h7⟩:=Zbz (P:=P) (w:=w) hg h5 hv
  refine B0 h (y:=y) ?_ h7
  have h0':0≤j∧j<(n:Int):=⟨h0,h1⟩
  simp [execOp,ho,Instr.index,hi,h4,asIntOf,run_underlying hu,h0',R2 hs,h6]
theorem ok_s2a (h:Rel E w0 O0 σ0 L0 σ L w) {arr e:TypeId} {x:Operand} {n sz:Nat} (hu:P.underlying arr=some (.array n e))
    {vx:AV} (ho:o.op=.sliceToArrayPointer arr x) (hx:VR (ctx σ L w) vx (a.eval x)) {r:AV × Ups} (hr:(s2aV n sz vx).run σ=some r) :
    J7 E w0 O0 σ0 L0 P σ L w o a r.1 r.2:=by
  have key:∀ (m cap:Nat) b off,a.eval x=.slice (some ⟨b,off,none⟩) m cap→n≤m→(execOp a.eval o).run P w=.ok (.value (.pointer (some ⟨b,off,none⟩))) w:=by
    intro m cap b off hb hm
    simp [execOp,ho,Instr.arrayAt,hb,run_underlying hu,Nat.not_lt.2 hm]
  cases vx<;>simp only [s2aV] at hr<;>try exact A9 hr
  case lst cs m =>
    obtain ⟨⟨h0,h1,h2⟩,h3⟩:=G0 hr
    have k:=A7 h3
    subst k
    simp only [VR] at hx
    rcases hx.2 with ⟨_,h4,_⟩|⟨b,o',cap,h4,hcap,h5⟩
    · omega
    · refine B0 h (key m cap b o' h4 h0) ?_
      simp only [VR]
      exact ⟨hx.1,b,o',rfl,h5⟩
  case buf s g off m z =>
    obtain ⟨⟨h0,rfl,h2⟩,h3⟩:=G0 hr
    obtain ⟨rfl,e',he,ha,hg⟩:=V4 h3
    have hb:=Zbt hx he ha hg
    unfold K1 at hb
    split at hb
    · rename_i b o' hl
      rcases hb with ⟨h4,_⟩|⟨cap,h4,_,hro⟩
      · omega
      refine B0 h (key m cap b _ h4 h0) ?_
      simp only [VR]
      exact ⟨rfl,e'.g,true,by rw [H4 he,ha],by omega,fun _ _=>⟨b,o',hl,rfl,hro.zero⟩⟩
    · omega
theorem Zbo (h:StoreOK σ L w) {kd:Nat} {x:AV} {y:Value} (hv:VR (ctx σ L w) x y) {b:Bool} (hr:(Zcw kd x).run σ=some b) :
    (kd=0∧∃ p,y=.pointer p∧p.isNone=b)∨(kd=1∧∃ p n c,y=.slice p n c∧p.isNone=b)∨(kd=2∧b=true∧y=.map none)∨(kd=3∧((b=true∧y=.nilFunc)∨(b=false∧∃ f vs,y=.func f #[] vs))) ∨
    (kd=4∧((b=true∧y=.nilIface)∨(b=false∧∃ t v,y=.iface t v))):=by
  unfold Zcw at hr
  split at hr
  · have k:=A7 hr;subst k;simp only [VR] at hv;exact .inl ⟨rfl,none,hv,rfl⟩
  · have k:=A7 hr;subst k;simp only [VR] at hv;obtain ⟨_,b',o',h1,_⟩:=hv;exact .inl ⟨rfl,_,h1,rfl⟩
  · obtain ⟨e,he,ha,hg,h2⟩:=H8 hr
    have k:=A7 h2;subst k
    obtain ⟨b',o',_,h3,_⟩:=Zb8 h hv he ha hg
    exact .inl ⟨rfl,_,h3,rfl⟩
  · have k:=A7 hr;subst k;simp only [VR] at hv;exact .inr (.inl ⟨rfl,none,0,0,hv,rfl⟩)
  · have k:=A7 hr;subst k;simp only [VR] at hv
    rcases hv.2 with ⟨_,h1,_⟩|⟨b',o',cap,h1,_⟩
    · omega
    · exact .inr (.inl ⟨rfl,_,_,_,h1,rfl⟩)
  · obtain ⟨e,he,ha,hg,h2⟩:=H8 hr
    have k:=A7 h2;subst k
    have hb:=Zbt hv he ha hg
    unfold K1 at hb
    split at hb
    · rcases hb with ⟨h4,_⟩|⟨cap,h4,_⟩
      · omega
      · exact .inr (.inl ⟨rfl,_,_,_,h4,rfl⟩)
    · omega
  · have k:=A7 hr;subst k;simp only [VR] at hv;exact .inr (.inr (.inl ⟨rfl,rfl,hv⟩))
  · have k:=A7 hr;subst k;simp only [VR] at hv;exact .inr (.inr (.inr (.inl ⟨rfl,.inl ⟨rfl,hv⟩⟩)))
  · have k:=A7 hr;subst k;simp only [VR] at hv;obtain ⟨vs,h1,_⟩:=hv;exact .inr (.inr (.inr (.inl ⟨rfl,.inr ⟨rfl,_,_,h1⟩⟩)))
  · have k:=A7 hr;subst k;simp only [VR] at hv;exact .inr (.inr (.inr (.inr ⟨rfl,.inl ⟨rfl,hv⟩⟩)))
  · have k:=A7 hr;subst k;simp only [VR] at hv;obtain ⟨v,h1,_⟩:=hv;exact .inr (.inr (.inr (.inr ⟨rfl,.inr ⟨rfl,_,_,h1⟩⟩)))
  · exact A9 hr
def Z2u:Nat→TypeDesc→Prop
  | 0,d=>∃ e,d=.pointer e
  | 1,d=>∃ e,d=.slice e
  | 2,d=>∃ k e,d=.map k e
  | 3,d=>∃ p r v,d=.func p r v
  | 4,d=>∃ ms,d=.interface ms
  | _,_=>False
theorem F5 {α β:Type} {x:Acc α} {f : α→Acc β} {y : β} (h:(x.bind f).run σ=some y):∃ a,x.run σ=some a∧(f a).run σ=some y:=by
  rw [Acc.run_bind] at h
  cases hx:x.run σ with
  | none=>rw [hx] at h;cases h
  | some a=>rw [hx] at h;exact ⟨a,rfl,h⟩
theorem Zk3 {kd:Nat} {t:TypeId} {d:TypeDesc} (hu:P.underlying t=some d) (hk:Z2u kd d) {x y:Value} {b b':Bool} (hb:(b||b')=true) (h:StoreOK σ L w) {vx vy:AV}
    (hx:VR (ctx σ L w) vx x) (hy:VR (ctx σ L w) vy y) (h1:(Zcw kd vx).run σ=some b) (h2:(Zcw kd vy).run σ=some b') :
    (∀ d,(Op.equalIn (d+1) t x y).run P w=.ok (b&&b') w)∧∀ op (o1 o2:Operand),(kd=4→(∃ c,o1=.const c)∨(∃ c,o2=.const c))→(eqGuard op t o1 o2 x y).run P w=.ok () w:=by
  rcases Zbo h hx h1 with ⟨rfl,p,rfl,rfl⟩|⟨rfl,p,n,c,rfl,rfl⟩|⟨rfl,rfl,rfl⟩|⟨rfl,hh⟩|⟨rfl,hh⟩
  · rcases Zbo h hy h2 with ⟨_,p',rfl,rfl⟩|⟨h3,_⟩|⟨h3,_⟩|⟨h3,_⟩|⟨h3,_⟩<;>try omega
    obtain ⟨e,rfl⟩:=hk
    refine ⟨fun d=>?_,fun op o1 o2 _=>by simp [eqGuard_at_pointer]⟩
    cases p<;>cases p'<;>simp at hb<;>simp [Op.equalIn,run_underlying hu]
  · rcases Zbo h hy h2 with ⟨h3,_⟩|⟨_,p',n',c',rfl,rfl⟩|⟨h3,_⟩|⟨h3,_⟩|⟨h3,_⟩<;>try omega
    obtain ⟨e,rfl⟩:=hk
    refine ⟨fun d=>?_,fun op o1 o2 _=>by simp [eqGuard_at_slice]⟩
    cases p<;>cases p'<;>simp at hb<;>simp [Op.equalIn,run_underlying hu]
  · rcases Zbo h hy h2 with ⟨h3,_⟩|⟨h3,_⟩|⟨_,rfl,rfl⟩|⟨h3,_⟩|⟨h3,_⟩<;>try omega
    obtain ⟨k,e,rfl⟩:=hk
    refine ⟨fun d=>?_,fun op o1 o2 _=>by simp [eqGuard_at_map]⟩
    simp [Op.equalIn,run_underlying hu]
  · rcases Zbo h hy h2 with ⟨h3,_⟩|⟨h3,_⟩|⟨h3,_⟩|⟨_,hh'⟩|⟨h3,_⟩<;>try omega
    obtain ⟨p,r,v,rfl⟩:=hk
    rcases hh with ⟨rfl,rfl⟩|⟨rfl,f,vs,rfl⟩<;>rcases hh' with ⟨rfl,rfl⟩|⟨rfl,f',vs',rfl⟩
    · exact ⟨fun d=>by simp [Op.equalIn,run_underlying hu],fun op o1 o2 _=>by simp [eqGuard_at_nilFunc]⟩
    · exact ⟨fun d=>by simp [Op.equalIn,run_underlying hu],fun op o1 o2 _=>by simp [eqGuard_at_nilFunc]⟩
    · exact ⟨fun d=>by simp [Op.equalIn,run_underlying hu],fun op o1 o2 _=>by simp [eqGuard_at_func]⟩
    · simp at hb
  · rcases Zbo h hy h2 with ⟨h3,_⟩|⟨h3,_⟩|⟨h3,_⟩|⟨h3,_⟩|⟨_,hh'⟩<;>try omega
    obtain ⟨ms,rfl⟩:=hk
    rcases hh with ⟨rfl,rfl⟩|⟨rfl,t1,v1,rfl⟩<;>rcases hh' with ⟨rfl,rfl⟩|⟨rfl,t2,v2,rfl⟩
    · refine ⟨fun d=>by simp [Op.equalIn,run_underlying hu],fun op o1 o2 hc=>?_⟩
      rcases hc rfl with ⟨c,rfl⟩|⟨c,rfl⟩
      · simp [eqGuard_nil_constL]
      · simp [eqGuard_nil_constR]
    · exact ⟨fun d=>by simp [Op.equalIn,run_underlying hu],fun op o1 o2 _=>by simp [eqGuard_nil_iface]⟩
    · exact ⟨fun d=>by simp [Op.equalIn,run_underlying hu],fun op o1 o2 _=>by simp [eqGuard_at_iface]⟩
    · simp at hb
theorem Zh1 (h:Rel E w0 O0 σ0 L0 σ L w) {op:BinOp} {neg:Bool} (hop:(op=.eql∧neg=false)∨(op=.neq∧neg=true)) {t t':TypeId} {d:TypeDesc} {kd:Nat} (hu:P.underlying t=some d) (hk:Z2u kd d) {x y:Operand} {vx vy:AV}
    (hcon:kd=4→(∃ c,x=.const c)∨(∃ c,y=.const c)) (ho:o.op=.binOp op t x y t') (hx:VR (ctx σ L w) vx (a.eval x)) (hy:VR (ctx σ L w) vy (a.eval y))
    {r:AV × Ups} (hr:(eqnV kd neg vx vy).run σ=some r):J7 E w0 O0 σ0 L0 P σ L w o a r.1 r.2:=by
  obtain ⟨b,h1,h2⟩:=F5 hr
  obtain ⟨b',h3,h4⟩:=F5 h2
  unfold eqnB at h4
  cases hbb:(b||b') with
  | false=>rw [hbb] at h4;exact A9 h4
  | true =>
    rw [hbb] at h4
    have k:=A7 h4
    subst k
    obtain ⟨h5,h6⟩:=Zk3 (P:=P) hu hk hbb h.store hx hy h1 h3
    have he:(Op.equal t (a.eval x) (a.eval y)).run P w=.ok (b&&b') w:=h5 9999
    refine B0 h (y:=.bool (bif neg then !(b&&b') else b&&b')) ?_ (by simp [VR])
    have hg:=h6 op x y hcon
    have nb:∀ v,(kd=0∧∃ p,v=Value.pointer p)∨(kd=1∧∃ p n c,v=Value.slice p n c)∨(kd=2∧v=.map none)∨(kd=3∧(v=.nilFunc∨∃ f vs,v=.func f #[] vs))∨(kd=4∧(v=.nilIface∨∃ t u,v=.iface t u)) →
        True:=fun _ _=>trivial
    have hb2:∀ (P:Program) (w:World),(binOp .eql t (a.eval x) (a.eval y)).run P w=((Op.equal t (a.eval x) (a.eval y)).run P w).andThen (fun b w'=>.ok (.bool b) w') ∧
        (binOp .neq t (a.eval x) (a.eval y)).run P w=((Op.equal t (a.eval x) (a.eval y)).run P w).andThen (fun b w'=>.ok (.bool (!b)) w'):=by
      intro P w
      rcases Zbo h.store hx h1 with ⟨_,p,e1,_⟩|⟨_,p,n,c,e1,_⟩|⟨_,_,e1⟩|⟨_,⟨_,e1⟩|⟨_,f,vs,e1⟩⟩|⟨_,⟨_,e1⟩|⟨_,t1,v1,e1⟩⟩<;>rw [e1] <;>
        rcases Zbo h.store hy h3 with ⟨_,p',e2,_⟩|⟨_,p',n',c',e2,_⟩|⟨_,_,e2⟩|⟨_,⟨_,e2⟩|⟨_,f',vs',e2⟩⟩|⟨_,⟨_,e2⟩|⟨_,t2,v2,e2⟩⟩<;>rw [e2] <;>
        exact ⟨Sem.run_bind _ _ _ _,Sem.run_bind _ _ _ _⟩
    rcases hop with ⟨rfl,rfl⟩|⟨rfl,rfl⟩
    · simp [execOp,ho,hg,(hb2 P w).1,he]
    · simp [execOp,ho,hg,(hb2 P w).2,he]
end Cod
namespace Cod
open Go
variable {E:Env} {w0:World} {O0:Nat→Prop} {σ0:A3} {L0:Lay} {P:Program} {σ:A3} {L:Lay} {w:World} {o:Oper} {a:Act}
def Zac (x:Option Value) (dflt n:Nat):Prop:=(x=none∧n=dflt)∨∃ k:IntKind,x=some (.int k (n:Int))
theorem Zea (isS:Bool) {len cap l h:Nat} {lo hi:Option Value} (hl:Zac lo 0 l) (hh:Zac hi len h) (h1:l≤h) (h2:h≤cap) :
    (Instr.sliceBounds isS len cap lo hi none).run P w=.ok (l,h,cap) w:=by
  have e1:(0:Int)≤(h:Int)∧(h:Int)≤(cap:Int):=by omega
  have e2:(0:Int)≤(l:Int)∧(l:Int)≤(h:Int):=by omega
  rcases hl with ⟨rfl,rfl⟩|⟨k,rfl⟩<;>rcases hh with ⟨rfl,rfl⟩|⟨k',rfl⟩<;>simp [Instr.sliceBounds,Instr.sliceBound,asIntOf,h1,h2]
theorem U0 {t e:TypeId} (hu:P.underlying t=some (.slice e)) {sz:Nat} (hs:J9 P e=some sz) {p:Option Addr} {len cap l h:Nat} {lo hi:Option Value} (hl:Zac lo 0 l) (hh:Zac hi len h) (h1:l≤h) (h2:h≤cap) :
    (Instr.sliceAt t (.slice p len cap) lo hi none).run P w=.ok (.slice (if cap=l then p else p.map (·.add (l*sz))) (h-l) (cap-l)) w:=by
  simp [Instr.sliceAt,run_underlying hu,Instr.slice,Zea true hl hh h1 h2,R2 hs]
theorem Zk4 {t:TypeId} (hu:P.underlying t=some .string) {s:ByteArray} {l h:Nat} {lo hi:Option Value} (hl:Zac lo 0 l) (hh:Zac hi s.size h) (h1:l≤h) (h2:h≤s.size) :
    (Instr.sliceAt t (.string s) lo hi none).run P w=.ok (.string (s.extract l h)) w:=by
  simp [Instr.sliceAt,run_underlying hu,Instr.slice,Zea false hl hh h1 h2]
theorem Zey {t e:TypeId} {n:Nat} (hu:P.underlying t=some (.array n e)) {sz:Nat} (hs:J9 P e=some sz) {p:Addr} {l h:Nat} {lo hi:Option Value} (hl:Zac lo 0 l) (hh:Zac hi n h) (h1:l≤h) (h2:h≤n) :
    (Instr.sliceAt t (.pointer (some p)) lo hi none).run P w=.ok (.slice (some (if n=l then p else p.add (l*sz))) (h-l) (n-l)) w:=by
  simp [Instr.sliceAt,run_underlying hu,Instr.sureAddr,Zea false hl hh h1 h2,R2 hs]
theorem Zo3 {c:Ctx} {x:Option LO} {y:Option Operand} {ρ:LO→AV} {ev:Operand→Value} (hxy:(x=none∧y=none)∨∃ u v,x=some u∧y=some v∧VR c (ρ u) (ev v)) {k:IntKind} {l:Int} (h:loV (x.map ρ)=.int k l) (h0:0≤l) :
    Zac (y.map ev) 0 l.toNat:=by
  rcases hxy with ⟨rfl,rfl⟩|⟨u,v,rfl,rfl,hv⟩
  · simp only [Yd5,loV,AV.int.injEq] at h
    exact .inl ⟨rfl,by omega⟩
  · simp only [Ydy,loV] at h
    rw [h] at hv
    simp only [VR] at hv
    exact .inr ⟨k,by simp only [Ydy,hv];rw [Yd6 h0]⟩
theorem Zo4 {c:Ctx} {x:Option LO} {y:Option Operand} {ρ:LO→AV} {ev:Operand→Value} (hxy:(x=none∧y=none)∨∃ u v,x=some u∧y=some v∧VR c (ρ u) (ev v)) {n:Nat} {k:IntKind} {l:Int} (h:hiV n (x.map ρ)=.int k l) (h0:0≤l) :
    Zac (y.map ev) n l.toNat:=by
  rcases hxy with ⟨rfl,rfl⟩|⟨u,v,rfl,rfl,hv⟩
  · simp only [Yd5,hiV,AV.int.injEq] at h
    exact .inl ⟨rfl,by omega⟩
  · simp only [Ydy,hiV] at h
    rw [h] at hv
    simp only [VR] at hv
    exact .inr ⟨k,by simp only [Ydy,hv];rw [Yd6 h0]⟩
theorem Zh2 (t:List UInt8) (l h:Nat):(⟨t.toArray⟩:ByteArray).extract l h=⟨(sub t l (h-l)).toArray⟩:=by
  apply ByteArray.ext
  simp [sub,Yd3]
def SlTy (P:Program) (t:TypeId) (sz:Nat):Option Nat→Prop
  | some n=>∃ e,P.underlying t=some (.array n e)∧J9 P e=some sz
  | none=>∃ e,P.underlying t=some (.slice e)∧J9 P e=some sz
theorem ok_sl (h:Rel E w0 O0 σ0 L0 σ L w) {arr:Option Nat} {t:TypeId} {x:Operand} {lo hi:Option Operand} {sz:Nat} {vx:AV} (hu:SlTy P t sz arr) (ho:o.op=.slice t x lo hi none)
    (hx:VR (ctx σ L w) vx (a.eval x)) {lo' hi':Option LO} {ρ:LO→AV}
    (hl:(lo'=none∧lo=none)∨∃ u v,lo'=some u∧lo=some v∧VR (ctx σ L w) (ρ u) (a.eval v)) (hh:(hi'=none∧hi=none)∨∃ u v,hi'=some u∧hi=some v∧VR (ctx σ L w) (ρ u) (a.eval v))
    {r:AV × Ups} (hr:(slV sz arr vx (loV (lo'.map ρ)) (hiV (Zba arr vx) (hi'.map ρ))).run σ=some r):J7 E w0 O0 σ0 L0 P σ L w o a r.1 r.2:=by
  have hcall:∀ y,(Instr.sliceAt t (a.eval x) (lo.map a.eval) (hi.map a.eval) none).run P w=.ok y w→(execOp a.eval o).run P w=.ok (.value y) w:=by
    intro y hy
    simp [execOp,ho,hy]
  cases hlv:loV (lo'.map ρ)<;>rw [hlv] at hr<;>try (simp only [slV] at hr;exact A9 hr)
  rename_i kl l
  cases hhv:hiV (Zba arr vx) (hi'.map ρ)<;>rw [hhv] at hr<;>try (simp only [slV] at hr;exact A9 hr)
  rename_i kh hI
  simp only [slV] at hr
  obtain ⟨⟨h0,h1,h2⟩,h3⟩:=G0 hr
  have bl:=Zo3 hl hlv h0
  have bh:=Zo4 hh hhv (Int.le_trans h0 h1)
  have g1:l.toNat≤hI.toNat:=by omega
  have g2:hI.toNat≤Zba arr vx:=by omega
  cases arr with
  | some n =>
    obtain ⟨e,hue,hse⟩:=hu
    simp only [Zba] at bh g2
    cases vx<;>simp only [slB] at h3<;>try exact A9 h3
    case fp cs off =>
      obtain ⟨h4,h5⟩:=G0 h3
      have k:=A7 h5
      subst k
      simp only [VR] at hx
      obtain ⟨hfl,b,o',h6,h7,h8,h9⟩:=hx
      refine B0 h (hcall _ (by rw [h6];exact Zey hue hse bl bh g1 g2)) ?_
      simp only [VR]
      refine ⟨Zfy hfl _ _,.inr ⟨b,if n=l.toNat then o'+off else o'+off+l.toNat*sz,n-l.toNat,?_,by omega,h7,h8,?_⟩⟩
      · split
        · rfl
        · rw [R7]
      · split
        · have e0:hI.toNat-l.toNat=0:=by omega
          rw [e0];simp [sub,VRC]
        · rw [Yd4];exact Zbn h9 _ _
    case ref s g off =>
      obtain ⟨e',he,ha,hg,h4⟩:=H8 h3
      obtain ⟨h5,h5'⟩:=G0 h4
      have k:=A7 h5'
      subst k
      obtain ⟨b,o',h6,h7,h8,h9⟩:=Zb8 h.store hx he ha hg
      refine B0 h (hcall _ (by rw [h7];exact Zey hue hse bl bh g1 g2)) ?_
      simp only [VR]
      refine ⟨rfl,e'.g,true,by rw [H4 he,ha],by omega,fun _ _=>?_⟩
      unfold K1
      rw [show (ctx σ L w).L s=some (b,o') from h6]
      by_cases hcl:n=l.toNat
      · refine .inl ⟨by omega,h8.room,o'+off,?_⟩
        rw [if_pos hcl]
        congr 1<;>omega
      · refine .inr ⟨n-l.toNat,?_,by omega,?_⟩
        · rw [if_neg hcl,R7,Yd4]
        · obtain ⟨c1,c2,c3,c4,c5,c6⟩:=h8
          refine ⟨c1,c2,c3,c4,?_⟩
          have:(l.toNat+(n-l.toNat))*sz=n*sz:=by rw [show l.toNat+(n-l.toNat)=n by omega]
          rw [Nat.add_mul] at this
          omega
  | none =>
    cases vx<;>simp only [slB] at h3<;>try exact A9 h3
    case nils =>
      have k:=A7 h3
      subst k
      obtain ⟨e,hue,hse⟩:=hu
      simp only [Zba] at bh g2
      simp only [VR] at hx
      refine B0 h (hcall _ (by rw [hx];exact U0 hue hse bl bh g1 g2)) ?_
      have e0:l.toNat=0:=by omega
      have e1:hI.toNat=0:=by omega
      simp [VR,e0,e1]
    case lst cs n =>
      obtain ⟨h4,h5⟩:=G0 h3
      have k:=A7 h5
      subst k
      obtain ⟨e,hue,hse⟩:=hu
      simp only [Zba] at bh g2
      simp only [VR] at hx
      obtain ⟨hfl,hx⟩:=hx
      rcases hx with ⟨h6,h7,h8⟩|⟨b,o',cap,h6,hcap,h7,h8,h9⟩
      · subst h7
        refine B0 h (hcall _ (by rw [h8];exact U0 hue hse bl bh g1 g2)) ?_
        have e0:l.toNat=0:=by omega
        have e1:hI.toNat=0:=by omega
        simp [VR,e0,e1,h6,sub,flats]
      · refine B0 h (hcall _ (by rw [h6];exact U0 hue hse bl bh g1 (by omega))) ?_
        simp only [VR]
        refine ⟨Zfy hfl _ _,.inr ⟨b,if cap=l.toNat then o' else o'+l.toNat*sz,cap-l.toNat,?_,by omega,h7,h8,?_⟩⟩
        · split
          · rfl
          · simp only [Ydy,R7]
        · split
          · have e0:hI.toNat-l.toNat=0:=by omega
            rw [e0];simp [sub,VRC]
          · exact Zbn h9 _ _
    case buf s g off n z =>
      obtain ⟨rfl,h5⟩:=G0 h3
      obtain ⟨rfl,e',he,ha,hg⟩:=V4 h5
      obtain ⟨e,hue,hse⟩:=hu
      simp only [Zba] at bh g2
      have hb:=Zbt hx he ha hg
      unfold K1 at hb
      split at hb
      · rename_i b o' hl'
        rcases hb with ⟨h6,hrm,q,h7⟩|⟨cap,h6,h7,h8⟩
        · subst h6
          refine B0 h (hcall _ (by rw [h7];exact U0 hue hse bl bh g1 g2)) ?_
          have e0:l.toNat=0:=by omega
          have e1:hI.toNat=0:=by omega
          simp only [VR]
          refine ⟨rfl,e'.g,true,by rw [H4 he,ha],by omega,fun _ _=>?_⟩
          unfold K1
          rw [hl']
          exact .inl ⟨by omega,hrm,q,by simp [e0,e1]⟩
        · refine B0 h (hcall _ (by rw [h6];exact U0 hue hse bl bh g1 (by omega))) ?_
          simp only [VR]
          refine ⟨rfl,e'.g,true,by rw [H4 he,ha],by omega,fun _ _=>?_⟩
          unfold K1
          rw [hl']
          by_cases hcl:cap=l.toNat
          · refine .inl ⟨by omega,h8.zero,o'+off,?_⟩
            rw [if_pos hcl]
            congr 1<;>omega
          · refine .inr ⟨cap-l.toNat,?_,by omega,?_⟩
            · rw [if_neg hcl];simp only [Ydy,R7,Yd4]
            · obtain ⟨c1,c2,c3,c4,c5⟩:=h8
              refine ⟨c1,c2,c3,c4,?_⟩
              have:(l.toNat+(cap-l.toNat))*z=cap*z:=by rw [show l.toNat+(cap-l.toNat)=cap by omega]
              rw [Nat.add_mul] at this
              omega
      · rename_i hl'
        obtain ⟨h6,h7,h8⟩:=hb
        subst h8
        refine B0 h (hcall _ (by rw [h6];exact U0 hue hse bl bh g1 g2)) ?_
        have e0:l.toNat=0:=by omega
        have e1:hI.toNat=0:=by omega
        simp only [VR]
        refine ⟨rfl,e'.g,true,by rw [H4 he,ha],by omega,fun _ _=>?_⟩
        unfold K1
        rw [hl']
        simp [e0,e1,h7]
theorem ok_sls (h:Rel E w0 O0 σ0 L0 σ L w) {t:TypeId} {x:Operand} {lo hi:Option Operand} {vx:AV} (hu:P.underlying t=some .string) (ho:o.op=.slice t x lo hi none)
    (hx:VR (ctx σ L w) vx (a.eval x)) {lo' hi':Option LO} {ρ:LO→AV}
    (hl:(lo'=none∧lo=none)∨∃ u v,lo'=some u∧lo=some v∧VR (ctx σ L w) (ρ u) (a.eval v)) (hh:(hi'=none∧hi=none)∨∃ u v,hi'=some u∧hi=some v∧VR (ctx σ L w) (ρ u) (a.eval v))
    {r:AV × Ups} (hr:(slsV vx (loV (lo'.map ρ)) (hiV (Zba none vx) (hi'.map ρ))).run σ=some r):J7 E w0 O0 σ0 L0 P σ L w o a r.1 r.2:=by
  cases vx<;>try exact A9 hr
  rename_i s
  cases hlv:loV (lo'.map ρ)<;>rw [hlv] at hr<;>try exact A9 hr
  rename_i kl l
  cases hhv:hiV (Zba none (.str s)) (hi'.map ρ)<;>rw [hhv] at hr<;>try exact A9 hr
  rename_i kh hI
  simp only [slsV] at hr
  obtain ⟨⟨h0,h1,h2⟩,h3⟩:=G0 hr
  have bl:=Zo3 hl hlv h0
  have bh:=Zo4 hh hhv (Int.le_trans h0 h1)
  have k:=A7 h3
  subst k
  simp only [VR] at hx
  simp only [Zba] at bh
  have hs:=Zk4 (P:=P) (w:=w) hu (s:=⟨s.toArray⟩) bl (by simpa [ByteArray.size] using bh) (by omega) (by simp [ByteArray.size];omega)
  refine B0 h (y:=.string ((⟨s.toArray⟩:ByteArray).extract l.toNat hI.toNat)) ?_ (by simp only [VR];rw [Zh2])
  simp [execOp,ho,hx,hs]
theorem Zr9 {c:Ctx}:∀ {cs:List AV} {l:List UInt8},bytesOf cs=some l→∀ {vs:List Value},VRL c cs vs→∃ ns:List Int,vs=ns.map (Value.int .u8)∧ns.map (fun n=>UInt8.ofNat n.toNat)=l:=by
  intro cs
  induction cs with
  | nil=>intro l h vs hv;simp only [bytesOf,Option.some.injEq] at h;subst h;simp only [VRL] at hv;subst hv;exact ⟨[],rfl,rfl⟩
  | cons x cs ih =>
    intro l h vs hv
    simp only [VRL] at hv
    obtain ⟨v,r,rfl,h1,h2⟩:=hv
    cases x<;>try (simp [bytesOf] at h;done)
    rename_i k n
    cases k<;>try (simp [bytesOf] at h;done)
    simp only [bytesOf,Ydz] at h
    obtain ⟨l',h3,rfl⟩:=h
    obtain ⟨ns,h4,h5⟩:=ih h3 h2
    simp only [VR] at h1
    exact ⟨n::ns,by simp [h1,h4],by simp [h5]⟩
theorem Zsa (ns:List Int):∀ (r:ByteArray),ns.foldl (fun r n=>r.push (UInt8.ofNat n.toNat)) r=⟨(r.data.toList++ns.map fun n=>UInt8.ofNat n.toNat).toArray⟩:=by
  induction ns with
  | nil=>intro r;apply ByteArray.ext;simp
  | cons n ns ih=>intro r;simp only [Yd7,ih];apply ByteArray.ext;simp [ByteArray.push]
theorem Zh3 (h:StoreOK σ L w) {sz:Nat} {v:AV} {y:Value} (hv:VR (ctx σ L w) v y) {cs:List AV} {n:Nat} (hr:(O5 sz v).run σ=some (cs,n)) :
    (∃ l,v=.str l∧cs=A1 l∧n=l.length∧sz=1) ∨
    ((∀ l,v≠.str l)∧cs.length=n*sz∧((y=.slice none 0 0∧n=0∧cs=[])∨∃ b q cap,y=.slice (some ⟨b,q,none⟩) n cap∧n≤cap∧VRC (ctx σ L w) b q cs)):=by
  cases v<;>simp only [O5] at hr<;>try exact A9 hr
  case str l =>
    unfold Zhr at hr
    split at hr
    · have k:=A7 hr;simp only [Prod.mk.injEq] at k;exact .inl ⟨l,rfl,k.1,k.2,rfl⟩
    · exact A9 hr
  case nils =>
    have k:=A7 hr
    simp only [Prod.mk.injEq] at k
    simp only [VR] at hv
    obtain ⟨rfl,rfl⟩:=k
    exact .inr ⟨by simp,by simp,.inl ⟨hv,rfl,rfl⟩⟩
  case lst cs' m =>
    obtain ⟨h1,h2⟩:=G0 hr
    have k:=A7 h2
    simp only [Prod.mk.injEq] at k
    obtain ⟨rfl,rfl⟩:=k
    simp only [VR] at hv
    refine .inr ⟨by simp,h1,?_⟩
    rcases hv.2 with ⟨h3,h4,h5⟩|⟨b,o',cap,h3,h4,_,_,h5⟩
    · exact .inl ⟨h5,h4,h3⟩
    · exact .inr ⟨b,o',cap,h3,h4,h5⟩
  case buf s g off m z =>
    obtain ⟨e,he,ha,hg,h1⟩:=H8 hr
    obtain ⟨⟨rfl,h2⟩,h3⟩:=G0 h1
    have k:=A7 h3
    simp only [Prod.mk.injEq] at k
    obtain ⟨rfl,rfl⟩:=k
    refine .inr ⟨by simp,V3 h2,?_⟩
    have hb:=Zbt hv he ha hg
    unfold K1 at hb
    split at hb
    · rename_i b o' hl
      have hrm:=Zex hb
      obtain ⟨_,h5⟩:=h.free he ha hl hrm
      rcases hb with ⟨h6,_,q,h7⟩|⟨cap,h6,h7,h8⟩
      · subst h6
        refine .inr ⟨b,q,0,h7,Ydt _,?_⟩
        simp [sub,VRC]
      · exact .inr ⟨b,o'+off,cap,h6,h7,Zbn h5 _ _⟩
    · obtain ⟨h6,h7,h8⟩:=hb
      subst h8
      exact .inl ⟨h6,rfl,by simp [sub]⟩
theorem ok_b2s (h:Rel E w0 O0 σ0 L0 σ L w) {s t e:TypeId} {x:Operand} (hs:P.underlying s=some (.slice e)) (he:Zkz P e=true) (ht:P.underlying t=some .string) {vx:AV} (ho:o.op=.convert s t x)
    (hx:VR (ctx σ L w) vx (a.eval x)) {r:AV × Ups} (hr:(Zr2 vx).run σ=some r):J7 E w0 O0 σ0 L0 P σ L w o a r.1 r.2:=by
  have hns:∀ l,vx≠.str l:=by rintro l rfl;exact A9 hr
  replace hr:((O5 1 vx).bind fun p=>strV (bytesOf p.1)).run σ=some r:=by cases vx<;>first|exact hr|exact absurd rfl (hns _)
  obtain ⟨⟨cs,n⟩,h1,h2⟩:=F5 hr
  simp only at h2
  cases hb:bytesOf cs with
  | none=>rw [hb] at h2;exact A9 h2
  | some l =>
    rw [hb] at h2
    have k:=A7 h2
    subst k
    have hu:P.underlying e=some (.int .u8):=by
      unfold Zkz at he
      split at he
      · assumption
      · cases he
    rcases Zh3 h.store hx h1 with ⟨l',h3,_⟩|⟨_,h3,h4⟩
    · exact absurd h3 (hns l')
    · refine B0 h (y:=.string ⟨l.toArray⟩) ?_ (by simp [VR])
      rcases h4 with ⟨h5,h6,h7⟩|⟨b,q,cap,h5,_,h6⟩
      · subst h7
        simp only [bytesOf,Option.some.injEq] at hb
        subst hb
        have e0:(convert s t (.slice none 0 0)).run P w=.ok (.string .empty) w:=by
          rw [run_convert_bytes_string w s t e none 0 0 hs hu ht]
          simp [Conv.bytesToString]
        simp only [execOp,ho,h5,Sem.run_bind,e0,Result.andThen_ok,Sem.run_pure]
        rfl
      · obtain ⟨vs,h7,h8⟩:=Zc3 h6
        obtain ⟨ns,h9,h10⟩:=Zr9 hb h7
        have hl:=G4 h7
        have h11:=run_loadCells_list (P:=P) w ⟨b,q,none⟩ vs (fun j v hj=>by rw [R7];exact h8 j v hj)
        have h12:(convert s t (.slice (some ⟨b,q,none⟩) n cap)).run P w=.ok (.string ⟨l.toArray⟩) w:=by
          rw [run_convert_bytes_string w s t e _ n cap hs hu ht]
          have:=run_bytesToString (P:=P) w ⟨b,q,none⟩ n cap ns (by rw [show n=vs.length by omega,h11,h9])
          rw [this,Zsa]
          simp [h10]
        simp only [execOp,ho,h5,Sem.run_bind,h12,Result.andThen_ok,Sem.run_pure]
end Cod
namespace Cod
open Go
variable {E:Env} {w0:World} {O0:Nat→Prop} {σ0:A3} {L0:Lay} {P:Program} {σ:A3} {L:Lay} {w:World} {o:Oper} {a:Act}
theorem Zsb {s:Site} {var:Bool} {cells:List AV} {p:Nat × Ups} (h:(mk s var cells).run σ=some p) :
    (∀ e,A6 σ s=some e→e.g<p.1)∧p.2=[(s,⟨p.1,true,true,var,cells⟩)]:=by
  simp only [mk,Acc.run] at h
  cases he:A6 σ s with
  | none=>rw [he] at h;have k:=A7 h;subst k;exact ⟨by simp,rfl⟩
  | some e=>rw [he] at h;have k:=A7 h;subst k;exact ⟨by simp,rfl⟩
theorem Zxx {s:Site} {cells:List AV} {r:AV × Ups} (h:(Zgo s cells).run σ=some r) :
    ∃ g,(∀ e,A6 σ s=some e→e.g<g)∧r=(.ref s g 0,[(s,⟨g,true,true,true,cells⟩)]):=by
  obtain ⟨p,h1,h2⟩:=F5 h
  obtain ⟨h3,h4⟩:=Zsb h1
  have k:=A7 h2
  subst k
  exact ⟨p.1,h3,by rw [h4]⟩
theorem Za8 {s:Site} {cells:List AV} {n sz:Nat} {u:Ups} {r:AV × Ups} (h:(Zar s cells n sz u).run σ=some r) :
    ∃ g,(∀ e,A6 σ s=some e→e.g<g)∧r=(.buf s g 0 n sz,u++[(s,⟨g,true,true,false,cells⟩)]):=by
  obtain ⟨p,h1,h2⟩:=F5 h
  obtain ⟨h3,h4⟩:=Zsb h1
  have k:=A7 h2
  subst k
  exact ⟨p.1,h3,by rw [h4]⟩
theorem C4 (u v:Ups):∀ σ:A3,B2 σ (u++v)=B2 (B2 σ u) v:=by
  induction u with
  | nil=>intro σ;rfl
  | cons p u ih=>intro σ;obtain ⟨s,e⟩:=p;exact ih _
theorem Zh4 {c:Ctx} {x:AV} {y:Value} (hv:VR c x y) (h:P9 x=true):y.oneCell'=true:=by
  cases x with
  | agg xs=>simp [P9] at h
  | junk=>simp [P9] at h
  | und=>simp [P9] at h
  | tup xs=>simp [P9] at h
  | lst cs n=>simp only [VR] at hv;rcases hv.2 with ⟨_,_,h1⟩|⟨_,_,_,h1,_⟩<;>rw [h1]<;>rfl
  | fp cs n=>simp only [VR] at hv;obtain ⟨_,_,_,h1,_⟩:=hv;rw [h1];rfl
  | ref s g o=>simp only [VR] at hv;exact hv.1
  | buf s g o n z=>simp only [VR] at hv;exact hv.1
  | clo f cap=>simp only [VR] at hv;obtain ⟨_,h1,_⟩:=hv;rw [h1];rfl
  | ifc t x=>simp only [VR] at hv;obtain ⟨_,h1,_⟩:=hv;rw [h1];rfl
  | it s g=>simp [P9] at h
  | itr s g=>simp [P9] at h
  | mp s g=>simp [P9] at h
  | mpr s g=>simp only [VR] at hv;exact hv.1
  | any k =>
    simp only [VR] at hv
    cases k with
    | none=>rcases hv with h1|⟨_,_,h1⟩<;>rw [h1]<;>rfl
    | some k=>obtain ⟨_,h1⟩:=hv;rw [h1];rfl
  | _=>simp only [VR] at hv;rw [hv];rfl
theorem Zjn {y:Value} (h:y.oneCell'=true):y.cells = #[y]:=by
  cases y<;>first|rfl|simp [Value.oneCell'] at h
theorem Zf4 {c:Ctx}:∀ {xs:List AV} {vs:List Value},VRL c xs vs→N3 xs=true→∀ v∈vs,v.oneCell'=true:=by
  intro xs
  induction xs with
  | nil=>intro vs h _ v hv;simp only [VRL] at h;subst h;simp at hv
  | cons x xs ih =>
    intro vs h hh v hv
    simp only [VRL] at h
    obtain ⟨u,r,rfl,h1,h2⟩:=h
    simp only [N3,Yd8] at hh
    rcases List.mem_cons.1 hv with rfl|hv
    · exact Zh4 h1 hh.1
    · exact ih h2 hh.2 v hv
theorem Zb0 {c:Ctx} {x:AV} {y:Value} (hv:VR c x y) {cs:List AV} (h:H3 x=some cs):VRL c cs y.cells.toList:=by
  by_cases hx:P9 x=true
  · have h1:cs=[x]:=by
      cases x<;>simp_all [H3,P9]
    subst h1
    rw [Zjn (Zh4 hv hx)]
    exact Zbl hv
  · cases x<;>simp [H3,P9] at h hx
    rename_i xs
    subst h
    simp only [VR] at hv
    obtain ⟨vs,rfl,h2⟩:=hv
    exact h2
theorem Zo5:∀ {xs:List AV},flats xs=true→N3 xs=true:=by
  intro xs
  induction xs with
  | nil=>intro _;rfl
  | cons x xs ih=>intro h;simp only [flats,Yd8] at h;simp only [N3,Yd8];exact ⟨Zxu h.1,ih h.2⟩
theorem Zh5 (t:TypeId) (v:Value):(newVar t v).run P w=.ok ⟨w.heap.size,0,none⟩ (w.alloc (.cells v.cells t)):=by
  simp [newVar,newRow]
theorem Z2v (h:Rel E w0 O0 σ0 L0 σ L w) {d sz:Nat} {x:Operand} (ho:o.op=.move x∨o.op=.assign x) (hx:x=.const (.slice none 0 0)) {r:AV × Ups} (hr:(Zar (.s d 0) [] 0 sz []).run σ=some r) :
    J7 E w0 O0 σ0 L0 P σ L w o a r.1 r.2:=by
  obtain ⟨g,hg,rfl⟩:=Za8 hr
  obtain ⟨h1,h2⟩:=h.newNil hg
  refine K2 (y:=.slice none 0 0) (w':=w) (L':=F6 L (.s d 0) none) ?_ h1 h2 ?_
  · subst hx
    rcases ho with ho|ho<;>simp [execOp,ho,Act.eval]
  · simp only [VR]
    refine ⟨rfl,g,true,H4 (C0 _ _ _),Ydt _,fun _ _=>?_⟩
    show K1 (ctx (G3 σ (.s d 0) ⟨g,true,true,false,[]⟩) (F6 L (.s d 0) none) w) _ _ _ _ _
    unfold K1
    rw [show (ctx (G3 σ (.s d 0) ⟨g,true,true,false,[]⟩) (F6 L (.s d 0) none) w).L (.s d 0)=none from F9 _ _ _]
    exact ⟨rfl,rfl,rfl⟩
theorem Zwm (h:Rel E w0 O0 σ0 L0 σ L w) {d:Nat} {t:TypeId} {cells:List AV} {v:Value} (hv:VRL (ctx σ L w) cells v.cells.toList) (hr1:(execOp a.eval o).run P w=.ok (.value (.pointer (some ⟨w.heap.size,0,none⟩))) (w.alloc (.cells v.cells t)))
    {r:AV × Ups} (hr:(Zgo (.s d 0) cells).run σ=some r):J7 E w0 O0 σ0 L0 P σ L w o a r.1 r.2:=by
  obtain ⟨g,hg,rfl⟩:=Zxx hr
  obtain ⟨h1,h2⟩:=h.new hg true hv v.cells (by simp) t (0,0) (by simp)
  refine K2 hr1 h1 h2 ?_
  simp only [VR]
  refine ⟨rfl,g,true,H4 (C0 _ _ _),Ydt _,fun _ _=>⟨w.heap.size,0,F9 _ _ _,rfl,v.cells,t,(0,0),heap_alloc_new w _,Nat.zero_le _⟩⟩
theorem ok_new (h:Rel E w0 O0 σ0 L0 σ L w) {d:Nat} {t:TypeId} {z:List AV} (hz:Y9 P t=some z) (ho:o.op=.alloc t) {r:AV × Ups} (hr:(Zgo (.s d 0) z).run σ=some r) :
    J7 E w0 O0 σ0 L0 P σ L w o a r.1 r.2:=by
  obtain ⟨zv,h1,h2⟩:=Z2q hz w
  refine Zwm h (t:=t) (v:=zv) (S7 _ h2) ?_ hr
  simp [execOp,ho,Instr.alloc,h1,Zh5]
theorem ok_box (h:Rel E w0 O0 σ0 L0 σ L w) {d:Nat} {t:TypeId} {x:Operand} {vx:AV} (hx:VR (ctx σ L w) vx (a.eval x)) (ho:o.op=.box t x) {r:AV × Ups} (hr:(boxV (.s d 0) (H3 vx)).run σ=some r) :
    J7 E w0 O0 σ0 L0 P σ L w o a r.1 r.2:=by
  cases hc:H3 vx with
  | none=>rw [hc] at hr;exact A9 hr
  | some cs =>
    rw [hc] at hr
    refine Zwm h (t:=t) (v:=a.eval x) (Zb0 hx hc) ?_ hr
    simp [execOp,ho,Instr.box,Zh5]
theorem Zjo (vs:List Value):∀ (k off:Nat) (cs:Array Value),off+k+vs.length≤cs.size →
    ((vs.zipIdx k).foldl (fun cs (p:Value × Nat)=>cs.setIfInBounds (off+p.2) p.1) cs).toList=cs.toList.take (off+k)++vs++cs.toList.drop (off+k+vs.length):=by
  induction vs with
  | nil=>intro k off cs _;simp
  | cons v vs ih =>
    intro k off cs h
    simp only [List.zipIdx_cons,Yd7]
    rw [ih (k+1) off _ (by simp only [Array.size_setIfInBounds];simp only [Yd9] at h;omega)]
    simp only [Yd9] at h
    have hlen:off+k<cs.toList.length:=by simp;omega
    simp only [Array.toList_setIfInBounds,Yd9]
    have e1:(cs.toList.set (off+k) v).take (off+(k+1))=cs.toList.take (off+k)++[v]:=by
      rw [show off+(k+1)=(off+k)+1 by omega,List.take_add_one,List.take_set,List.set_eq_of_length_le (by simp only [Yd0];omega),List.getElem?_set_self hlen]
      rfl
    have e2:(cs.toList.set (off+k) v).drop (off+(k+1)+vs.length)=cs.toList.drop (off+k+(vs.length+1)):=by
      rw [List.drop_set]
      rw [if_pos (by omega)]
      congr 1
      omega
    rw [e1,e2]
    simp
theorem Zda {cs xs:List AV} {off:Nat} (h:off+xs.length≤cs.length):(over cs off xs).length=cs.length:=by
  unfold over
  simp only [List.length_append,Yd0,Yd1]
  omega
theorem Z2w {c:Ctx} {cs xs:List AV} {vs us:List Value} (h1:VRL c cs vs) (h2:VRL c xs us) (off:Nat):VRL c (over cs off xs) (vs.take off++us++vs.drop (off+us.length)):=by
  unfold over
  rw [G4 h2]
  exact S4 (S4 (Zhw h1 _) h2) (Zox h1 _)
end Cod
namespace Cod
open Go
variable {E:Env} {w0:World} {O0:Nat→Prop} {σ0:A3} {L0:Lay} {P:Program} {σ:A3} {L:Lay} {w:World} {o:Oper} {a:Act}
mutual
theorem Zhh {c:Ctx} {T':Tab} {L':Site→Option (Nat × Nat)}:∀ (x:AV) (v:Value),J6 x=true→VR c x v→VR ⟨T',L',c.O,c.w⟩ x v
  | .junk,_,h,_=>by simp [J6] at h
  | .und,_,h,_=>by simp [J6] at h
  | .int _ _,_,_,hv=>by simpa [VR] using hv
  | .bool _,_,_,hv=>by simpa [VR] using hv
  | .str _,_,_,hv=>by simpa [VR] using hv
  | .nilp,_,_,hv=>by simpa [VR] using hv
  | .nils,_,_,hv=>by simpa [VR] using hv
  | .nilf,_,_,hv=>by simpa [VR] using hv
  | .nili,_,_,hv=>by simpa [VR] using hv
  | .nilm,_,_,hv=>by simpa [VR] using hv
  | .any _,_,_,hv=>by simpa [VR] using hv
  | .agg _,_,h,_=>by simp [J6] at h
  | .tup _,_,h,_=>by simp [J6] at h
  | .lst cs n,v,_,hv=>by
    simp only [VR] at hv ⊢
    obtain ⟨hfl,hv⟩:=hv
    refine ⟨hfl,?_⟩
    rcases hv with hv|⟨b,o,cap,h1,hn,h2,h3,h4⟩
    · exact .inl hv
    · exact .inr ⟨b,o,cap,h1,hn,h2,h3,flat_VRC b o cs hfl h4⟩
  | .fp cs off,v,_,hv=>by
    simp only [VR] at hv ⊢
    obtain ⟨hfl,b,o,h1,h2,h3,h4⟩:=hv
    exact ⟨hfl,b,o,h1,h2,h3,flat_VRC b o cs hfl h4⟩
  | .ref ..,_,h,_=>by simp [J6] at h
  | .buf ..,_,h,_=>by simp [J6] at h
  | .clo f cap,v,h,hv=>by
    simp only [VR] at hv ⊢
    simp only [J6] at h
    obtain ⟨vs,h1,h2⟩:=hv
    exact ⟨vs,h1,flat_VRL cap _ h h2⟩
  | .ifc t x,v,h,hv=>by
    simp only [VR] at hv ⊢
    simp only [J6] at h
    obtain ⟨u,h1,h2⟩:=hv
    exact ⟨u,h1,Zhh x u h h2⟩
theorem flat_VRL {c:Ctx} {T':Tab} {L':Site→Option (Nat × Nat)}:∀ (xs:List AV) (vs:List Value),flats xs=true→VRL c xs vs→VRL ⟨T',L',c.O,c.w⟩ xs vs
  | [],_,_,hv=>by simpa [VRL] using hv
  | a::as,vs,h,hv=>by
    simp only [VRL] at hv ⊢
    simp only [flats,Yd8] at h
    obtain ⟨v,r,h1,h2,h3⟩:=hv
    exact ⟨v,r,h1,Zhh a v h.1 h2,flat_VRL as r h.2 h3⟩
theorem flat_VRC {c:Ctx} {T':Tab} {L':Site→Option (Nat × Nat)} (b:Nat):∀ (o:Nat) (xs:List AV),flats xs=true→VRC c b o xs→VRC ⟨T',L',c.O,c.w⟩ b o xs
  | _,[],_,_=>by simp [VRC]
  | o,a::as,h,hv=>by
    simp only [VRC] at hv ⊢
    simp only [flats,Yd8] at h
    obtain ⟨⟨v,h1,h2⟩,h3⟩:=hv
    exact ⟨⟨v,h1,Zhh a v h.1 h2⟩,flat_VRC b (o+1) as h.2 h3⟩
end
structure CFl (c c':Ctx):Prop where
  own:∀ b,b<c.w.heap.size→c'.O b→c.O b
  block:∀ b,b<c.w.heap.size→¬ c.O b→c'.w.heap[b]? = c.w.heap[b]?
  room:∀ b k,X0 c.w b k→X0 c'.w b k
  size:c.w.heap.size≤c'.w.heap.size
theorem CLe.fl {c c':Ctx} (h:CLe c c'):CFl c c':=⟨h.own,h.block,h.room,h.size⟩
theorem CFl.le {c c':Ctx} (h:CFl c c'):CLe ⟨c'.T,c'.L,c.O,c.w⟩ c':=⟨fun _ g0 al h1=>⟨g0,al,h1,Ydt _,fun _ h=>⟨h,rfl⟩⟩,h.own,h.block,h.room,h.size⟩
theorem Zdx {c c':Ctx} (h:CFl c c') {x:AV} {v:Value} (hx:J6 x=true) (hv:VR c x v):VR c' x v:=V8 h.le x v (Zhh x v hx hv)
theorem Z2x {c c':Ctx} (h:CFl c c') {xs:List AV} {vs:List Value} (hx:flats xs=true) (hv:VRL c xs vs):VRL c' xs vs:=VRL_le h.le xs vs (flat_VRL xs vs hx hv)
def Zb1 (L:Lay) (ss:List Site) (b:Nat):Prop:=∃ s∈ss,∃ o,L s=some (b,o)
theorem Zh6 (h:StoreOK σ L w) {x y:AV} {v:Value} {ss:List Site} (hv:VR (ctx σ L w) x v) (hr:(S0 x).run σ=some (y,ss)) {c':Ctx} (hw:c'.w=w)
    (ho:∀ b,b<w.heap.size→c'.O b→(ctx σ L w).O b) (hs:∀ b,b<w.heap.size→Zb1 L ss b→¬ c'.O b):VR c' y v∧J6 y=true:=by
  have hf:CFl (ctx σ L w) c':=⟨ho,fun _ _ _=>by rw [hw];rfl,fun _ _ hh=>by rw [hw];exact hh,by rw [hw];exact Ydt _⟩
  cases x<;>simp only [S0,J6,if_true,Yea,if_false] at hr<;>try exact A9 hr
  case buf s g off n z =>
    obtain ⟨e,he,ha,hg,h1⟩:=H8 hr
    obtain ⟨⟨h2,h3⟩,h4⟩:=G0 h1
    have k:=A7 h4
    simp only [Prod.mk.injEq] at k
    obtain ⟨rfl,rfl⟩:=k
    refine ⟨?_,by simp [J6]⟩
    have hb:=Zbt hv he ha hg
    unfold K1 at hb
    simp only [VR]
    refine ⟨Zfy h3 _ _,?_⟩
    split at hb
    · rename_i b o' hl
      have hrm:X0 w b 0:=by
        rcases hb with ⟨_,h6,_⟩|⟨_,_,_,h6⟩
        · exact h6
        · exact h6.zero
      have hlt:=(h.free he ha hl hrm).1.lt
      have hno:=hs b hlt ⟨s,by simp,o',hl⟩
      have hc:=flat_VRC (T':=c'.T) (L':=c'.L) b o' e.cells h3 (h.free he ha hl hrm).2
      have hc':=VRC_le hf.le b (fun _=>by rw [hw];rfl) o' e.cells hc
      rcases hb with ⟨h6,_,q,h7⟩|⟨cap,h6,h7,h8⟩
      · subst h6
        refine .inr ⟨b,q,0,h7,Ydt _,by rw [hw];exact hlt,hno,?_⟩
        simp [sub,VRC]
      · exact .inr ⟨b,o'+off,cap,h6,h7,by rw [hw];exact hlt,hno,Zbn hc' _ _⟩
    · obtain ⟨h6,h7,h8⟩:=hb
      subst h8
      exact .inl ⟨by simp [sub],rfl,h6⟩
  case ref s g off =>
    obtain ⟨e,he,ha,hg,h1⟩:=H8 hr
    obtain ⟨h3,h4⟩:=G0 h1
    have k:=A7 h4
    simp only [Prod.mk.injEq] at k
    obtain ⟨rfl,rfl⟩:=k
    refine ⟨?_,by simp [J6]⟩
    obtain ⟨b,o',hl,h5,h6,h7⟩:=Zb8 h hv he ha hg
    have hlt:=h6.lt
    have hno:=hs b hlt ⟨s,by simp,o',hl⟩
    simp only [VR]
    refine ⟨h3,b,o',h5,by rw [hw];exact hlt,hno,VRC_le hf.le b (fun _=>by rw [hw];rfl) o' e.cells (flat_VRC b o' e.cells h3 h7)⟩
  case nils =>
    have k:=A7 hr
    simp only [Prod.mk.injEq] at k
    obtain ⟨rfl,rfl⟩:=k
    simp only [VR] at hv
    refine ⟨?_,by simp [J6]⟩
    subst hv
    simp [VR,flats]
  case clo f cap =>
    obtain ⟨h1,h2⟩:=G0 hr
    have k:=A7 h2
    simp only [Prod.mk.injEq] at k
    obtain ⟨rfl,rfl⟩:=k
    exact ⟨Zdx hf (by simpa [J6] using h1) hv,by simpa [J6] using h1⟩
  case ifc t x =>
    obtain ⟨h1,h2⟩:=G0 hr
    have k:=A7 h2
    simp only [Prod.mk.injEq] at k
    obtain ⟨rfl,rfl⟩:=k
    exact ⟨Zdx hf (by simpa [J6] using h1) hv,by simpa [J6] using h1⟩
  all_goals
    have k:=A7 hr
    simp only [Prod.mk.injEq] at k
    obtain ⟨rfl,rfl⟩:=k
    exact ⟨Zdx hf (by simp [J6]) hv,by simp [J6]⟩
theorem Zez (h:StoreOK σ L w) {c':Ctx} (hw:c'.w=w) (ho:∀ b,b<w.heap.size→c'.O b→(ctx σ L w).O b):∀ {xs ys:List AV} {vs:List Value} {ss:List Site},VRL (ctx σ L w) xs vs→(views xs).run σ=some (ys,ss) →
    (∀ b,b<w.heap.size→Zb1 L ss b→¬ c'.O b)→VRL c' ys vs∧flats ys=true:=by
  intro xs
  induction xs with
  | nil =>
    intro ys vs ss hv hr _
    simp only [views] at hr
    have k:=A7 hr
    simp only [Prod.mk.injEq] at k
    obtain ⟨rfl,rfl⟩:=k
    simp only [VRL] at hv ⊢
    exact ⟨hv,rfl⟩
  | cons x xs ih =>
    intro ys vs ss hv hr hs
    simp only [views] at hr
    obtain ⟨p,h1,h2⟩:=F5 hr
    obtain ⟨q,h3,h4⟩:=F5 h2
    have k:=A7 h4
    simp only [Prod.mk.injEq] at k
    obtain ⟨rfl,rfl⟩:=k
    simp only [VRL] at hv
    obtain ⟨v,r,rfl,h5,h6⟩:=hv
    obtain ⟨h7,h8⟩:=Zh6 h h5 (y:=p.1) (ss:=p.2) h1 hw ho (fun b hb ⟨s,hs1,hs2⟩=>hs b hb ⟨s,by simp [hs1],hs2⟩)
    obtain ⟨h9,h10⟩:=ih h6 (ys:=q.1) (ss:=q.2) h3 (fun b hb ⟨s,hs1,hs2⟩=>hs b hb ⟨s,by simp [hs1],hs2⟩)
    simp only [VRL,flats,Yd8]
    exact ⟨⟨v,r,rfl,h7,h9⟩,h8,h10⟩
theorem Z9r (h:StoreOK σ L w) {x y:AV} {v:Value} {ss:List Site} (hv:VR (ctx σ L w) x v) (hr:(Zag x).run σ=some (y,ss)) {c':Ctx} (hw:c'.w=w)
    (ho:∀ b,b<w.heap.size→c'.O b→(ctx σ L w).O b) (hs:∀ b,b<w.heap.size→Zb1 L ss b→¬ c'.O b):VR c' y v:=by
  have hf:CFl (ctx σ L w) c':=⟨ho,fun _ _ _=>by rw [hw];rfl,fun _ _ hh=>by rw [hw];exact hh,by rw [hw];exact Ydt _⟩
  cases x<;>simp only [Zag] at hr<;>try exact (Zh6 h hv hr hw ho hs).1
  case agg cs =>
    simp only [VR] at hv
    obtain ⟨vs,rfl,hv⟩:=hv
    by_cases hc:flats cs=true
    · rw [if_pos hc] at hr
      have k:=A7 hr
      simp only [Prod.mk.injEq] at k
      obtain ⟨rfl,rfl⟩:=k
      simp only [VR]
      exact ⟨vs,rfl,Z2x hf hc hv⟩
    · rw [if_neg hc] at hr
      obtain ⟨p,h1,h2⟩:=F5 hr
      have k:=A7 h2
      simp only [Prod.mk.injEq] at k
      obtain ⟨rfl,rfl⟩:=k
      simp only [VR]
      exact ⟨vs,rfl,(Zez h hw ho hv (ys:=p.1) (ss:=p.2) h1 hs).1⟩
  case clo f cs =>
    simp only [VR] at hv
    obtain ⟨vs,rfl,hv⟩:=hv
    obtain ⟨p,h1,h2⟩:=F5 hr
    have k:=A7 h2
    simp only [Prod.mk.injEq] at k
    obtain ⟨rfl,rfl⟩:=k
    simp only [VR]
    exact ⟨vs,rfl,(Zez h hw ho hv (ys:=p.1) (ss:=p.2) h1 hs).1⟩
def Sim (σ σ':A3):Prop:=∀ t,A6 σ' t=A6 σ t∨∃ e,A6 σ t=some e∧A6 σ' t=some { e with rw:=false }
theorem Sim.refl (σ:A3):Sim σ σ:=fun _=>.inl rfl
theorem Sim.back {σ':A3} (h:Sim σ σ') {t:Site} {e':Ent} (he:A6 σ' t=some e'):∃ e,A6 σ t=some e∧e.alive=e'.alive∧e.g=e'.g∧e.cells=e'.cells∧e.var=e'.var∧(e'.rw=true→e.rw=true):=by
  rcases h t with h1|⟨e,h1,h2⟩
  · rw [he] at h1;exact ⟨e',h1.symm,rfl,rfl,rfl,rfl,id⟩
  · rw [he] at h2;cases h2;exact ⟨e,h1,rfl,rfl,rfl,rfl,fun h=>by cases h⟩
theorem Zo6:∀ {ss:List Site} {u:Ups} {σ1:A3},(Zc1 ss).run σ=some u→Sim σ σ1→Rel E w0 O0 σ0 L0 σ1 L w →
    Rel E w0 O0 σ0 L0 (B2 σ1 u) L w∧CLe (ctx σ1 L w) (ctx (B2 σ1 u) L w)∧Sim σ (B2 σ1 u)∧(∀ s∈ss,∀ e,A6 (B2 σ1 u) s=some e→e.rw=false) ∧
    (∀ s e,A6 σ1 s=some e→e.rw=false→∀ e',A6 (B2 σ1 u) s=some e'→e'.rw=false)∧(∀ s,s∉ss→A6 (B2 σ1 u) s=A6 σ1 s):=by
  intro ss
  induction ss with
  | nil =>
    intro u σ1 hr hs h
    simp only [Zc1] at hr
    have k:=A7 hr
    subst k
    exact ⟨h,CLe.refl _,hs,by simp,fun s e h1 h2 e' h3=>by rw [show A6 (B2 σ1 []) s=A6 σ1 s from rfl,h1] at h3;cases h3;exact h2,fun _ _=>rfl⟩
  | cons s ss ih =>
    intro u σ1 hr hs h
    simp only [Zc1] at hr
    obtain ⟨u',h1,h2⟩:=F5 hr
    simp only [Acc.run] at h2
    cases hge:A6 σ s with
    | none=>rw [hge] at h2;simp only [Zhq] at h2;exact A9 h2
    | some e =>
      rw [hge] at h2
      simp only [Zhq] at h2
      have k:=A7 h2
      subst k
      have hg1:∃ e1,A6 σ1 s=some e1∧e1.g=e.g∧e1.alive=e.alive∧e1.cells=e.cells∧e1.var=e.var:=by
        rcases hs s with h3|⟨e',h3,h4⟩
        · exact ⟨e,h3.trans hge,rfl,rfl,rfl,rfl⟩
        · rw [hge] at h3;cases h3;exact ⟨_,h4,rfl,rfl,rfl,rfl⟩
      obtain ⟨e1,g1,g2,g3,g4,g5⟩:=hg1
      obtain ⟨r1,r2⟩:=h.less (e' := { e with rw:=false }) g1 g2.symm (fun h=>⟨g3.trans h,g4.symm,g5.symm⟩) (fun h=>by cases h)
      have hs1:Sim σ (G3 σ1 s { e with rw:=false }):=by
        intro t
        by_cases ht:s=t
        · subst ht;exact .inr ⟨e,hge,C0 _ _ _⟩
        · rw [C7 _ _ ht];exact hs t
      obtain ⟨k1,k2,k3,k4,k5,k6⟩:=ih h1 hs1 r1
      refine ⟨k1,r2.trans k2,k3,?_,?_,?_⟩
      · intro t ht e' he'
        rcases List.mem_cons.1 ht with rfl|ht
        · exact k5 _ _ (C0 _ _ _) rfl e' he'
        · exact k4 t ht e' he'
      · intro t e2 h3 h4 e3 h5
        by_cases ht:s=t
        · subst ht;exact k5 _ _ (C0 _ _ _) rfl e3 h5
        · exact k5 t e2 (by rw [C7 _ _ ht];exact h3) h4 e3 h5
      · intro t ht
        simp only [List.mem_cons,not_or] at ht
        show A6 (B2 (G3 σ1 s _) u') t=_
        rw [k6 t ht.2,C7 _ _ (Ne.symm ht.1)]
theorem Sim.not_own (h:StoreOK σ L w) {σ':A3} (hs:Sim σ σ') {ss:List Site} (hst:∀ s∈ss,∀ e,A6 σ' s=some e→e.rw=false) (hal:∀ s∈ss,∃ e,A6 σ s=some e∧e.alive=true) {b:Nat} (hb:Zb1 L ss b):¬ G7 σ' L b:=by
  intro ⟨t,e',o',h1,h2,h3,h4⟩
  obtain ⟨s,hs1,o,hs2⟩:=hb
  obtain ⟨e,he,ha⟩:=hal s hs1
  obtain ⟨e1,k1,k2,_⟩:=hs.back h1
  have:=h.apart t s e1 e b o' o k1 (k2.trans h2) he ha h4 hs2
  subst this
  rw [hst t hs1 e' h1] at h3
  cases h3
theorem Sim.own {σ':A3} (hs:Sim σ σ') {b:Nat} (hb:G7 σ' L b):G7 σ L b:=by
  obtain ⟨t,e',o',h1,h2,h3,h4⟩:=hb
  obtain ⟨e,k1,k2,_,_,_,k3⟩:=hs.back h1
  exact ⟨t,e,o',k1,k2.trans h2,k3 h3,h4⟩
theorem Zgt {x y:AV} {ss:List Site} (hr:(S0 x).run σ=some (y,ss)):∀ s∈ss,∃ e,A6 σ s=some e∧e.alive=true:=by
  cases x<;>simp only [S0,J6,if_true,Yea,if_false] at hr<;>try exact A9 hr
  case buf s g off n z =>
    obtain ⟨e,he,ha,hg,h1⟩:=H8 hr
    obtain ⟨_,h4⟩:=G0 h1
    have k:=A7 h4
    simp only [Prod.mk.injEq] at k
    obtain ⟨rfl,rfl⟩:=k
    intro t ht
    simp only [Yeb] at ht
    subst ht
    exact ⟨e,he,ha⟩
  case ref s g off =>
    obtain ⟨e,he,ha,hg,h1⟩:=H8 hr
    obtain ⟨_,h4⟩:=G0 h1
    have k:=A7 h4
    simp only [Prod.mk.injEq] at k
    obtain ⟨rfl,rfl⟩:=k
    intro t ht
    simp only [Yeb] at ht
    subst ht
    exact ⟨e,he,ha⟩
  case clo f cap =>
    obtain ⟨_,h2⟩:=G0 hr
    have k:=A7 h2
    simp only [Prod.mk.injEq] at k
    rw [k.2];simp
  case ifc t x =>
    obtain ⟨_,h2⟩:=G0 hr
    have k:=A7 h2
    simp only [Prod.mk.injEq] at k
    rw [k.2];simp
  all_goals
    have k:=A7 hr
    simp only [Prod.mk.injEq] at k
    rw [k.2];simp
theorem Zbp:∀ {xs ys:List AV} {ss:List Site},(views xs).run σ=some (ys,ss)→∀ s∈ss,∃ e,A6 σ s=some e∧e.alive=true:=by
  intro xs
  induction xs with
  | nil =>
    intro ys ss hr
    simp only [views] at hr
    have k:=A7 hr
    simp only [Prod.mk.injEq] at k
    rw [k.2];simp
  | cons x xs ih =>
    intro ys ss hr
    simp only [views] at hr
    obtain ⟨p,h1,h2⟩:=F5 hr
    obtain ⟨q,h3,h4⟩:=F5 h2
    have k:=A7 h4
    simp only [Prod.mk.injEq] at k
    obtain ⟨rfl,rfl⟩:=k
    intro s hs
    rcases List.mem_append.1 hs with hs|hs
    · exact Zgt (y:=p.1) (ss:=p.2) h1 s hs
    · exact ih (ys:=q.1) (ss:=q.2) h3 s hs
theorem Zk5 (h:Rel E w0 O0 σ0 L0 σ L w) {cs cs':List AV} {u:Ups} {ss:List Site} {vs:List Value} (hv:VRL (ctx σ L w) cs vs) (hr:(fix cs).run σ=some (cs',u,ss)) :
    Rel E w0 O0 σ0 L0 (B2 σ u) L w∧CLe (ctx σ L w) (ctx (B2 σ u) L w)∧VRL (ctx (B2 σ u) L w) cs' vs∧Sim σ (B2 σ u)∧flats cs'=true∧(∀ s,s∉ss→A6 (B2 σ u) s=A6 σ s):=by
  unfold fix at hr
  by_cases hc:flats cs=true
  · rw [if_pos hc] at hr
    have k:=A7 hr
    simp only [Prod.mk.injEq] at k
    obtain ⟨rfl,rfl,rfl⟩:=k
    exact ⟨h,CLe.refl _,hv,Sim.refl _,hc,fun _ _=>rfl⟩
  · rw [if_neg hc] at hr
    obtain ⟨p,h1,h2⟩:=F5 hr
    obtain ⟨u',h3,h4⟩:=F5 h2
    have k:=A7 h4
    simp only [Prod.mk.injEq] at k
    obtain ⟨rfl,hu,rfl⟩:=k
    subst hu
    obtain ⟨k1,k2,k3,k4,_,k6⟩:=Zo6 h3 (Sim.refl σ) h
    obtain ⟨h5,h6⟩:=Zez h.store (c':=ctx (B2 σ u) L w) rfl (fun b _ hb=>hb.imp k3.own id) hv (ys:=p.1) (ss:=p.2) h1
      (fun b _ hb hO=>hO.elim (k3.not_own h.store k4 (Zbp (ys:=p.1) (ss:=p.2) h1) hb) (h.notF (by
        obtain ⟨s,hs1,o,hs2⟩:=hb
        obtain ⟨e,he,ha⟩:=Zbp (ys:=p.1) (ss:=p.2) h1 s hs1
        exact ⟨s,e,o,he,ha,hs2⟩)))
    exact ⟨k1,k2,h5,k3,h6,k6⟩
end Cod

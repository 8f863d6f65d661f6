/- The lean form of Go code and its abstract run: values as plain trees, slices as lists. -/
import Derived.Calls
import Derived.Laws.Sem
import Derived.Laws.Entries
set_option linter.unusedSimpArgs false
set_option linter.unusedVariables false
open List renaming cons_append → Ydw
open Nat renaming le_max_left → Ydr, le_max_right → Yds, le_refl → Ydt, le_trans → Ydu, lt_of_lt_of_le → Ydv, lt_or_ge → Ydx
open Option renaming bind_some → Ydq, map_some → Ydy
namespace Cod
open Go
inductive Site
  | s (n k:Nat)
  | r (k:Nat)
  | up (x:Site)
  deriving DecidableEq,Repr
inductive AV
  | junk|und
  | int (k:IntKind) (n:Int)
  | bool (b:Bool)
  | str (s:List UInt8)
  | nilp|nils|nilf|nili|nilm
  | agg (cs:List AV)
  | tup (cs:List AV)
  | lst (cs:List AV) (len:Nat)
  | fp (cs:List AV) (off:Nat)
  | ref (s:Site) (g off:Nat)
  | buf (s:Site) (g off len sz:Nat)
  | clo (f:Nat) (cap:List AV)
  | ifc (t:Nat) (x:AV)
  | it (s:Site) (g:Nat)
  | itr (s:List UInt8) (pos:Nat)
  | mpr (s:Site) (g:Nat)
  | mp (ks vs:List AV)
  | any (k:Option IntKind)
structure Ent where
  g:Nat
  alive:Bool
  rw:Bool
  var:Bool
  cells:List AV
abbrev A3:=List (Site × Ent)
def A6:A3→Site→Option Ent
  | [],_=>none
  | (t,e) :: σ,s=>if t=s then some e else A6 σ s
def G3:A3→Site→Ent→A3
  | [],s,e=>[(s,e)]
  | (t,e') :: σ,s,e=>if t=s then (s,e) :: σ else (t,e')::G3 σ s e
def B2 (σ:A3):List (Site × Ent)→A3
  | [] => σ
  | (s,e)::r=>B2 (G3 σ s e) r
inductive Acc (α:Type) where
  | ret (a : α)
  | fail
  | get (s:Site) (k:Option Ent→Acc α)
namespace Acc
def bind {α β:Type}:Acc α→(α→Acc β)→Acc β
  | .ret a,f=>f a
  | .fail,_=>.fail
  | .get s k,f=>.get s fun e=>(k e).bind f
instance:Monad Acc where
  pure:=Acc.ret
  bind:=Acc.bind
def run {α:Type}:Acc α→A3→Option α
  | .ret a,_=>some a
  | .fail,_=>none
  | .get s k,σ=>(k (A6 σ s)).run σ
def reads {α:Type}:Acc α→A3→List Site
  | .ret _,_=>[]
  | .fail,_=>[]
  | .get s k,σ=>s::(k (A6 σ s)).reads σ
end Acc
abbrev Ups:=List (Site × Ent)
inductive LO
  | t (n:Nat)
  | k (v:AV)
  | g (n:Nat)
  | f (n:Nat)
inductive LOp
  | mv (x:LO)
  | nil (sz:Nat)                                  -- a nil slice laid in a variable
  | pick (c a b:LO)
  | new (cells:List AV)
  | box (x:LO)
  | build (zero:List AV) (parts:List (Nat × Nat × LO))
  | bslice (sz n:Nat) (zero:List AV) (parts:List (Nat × Nat × LO))
  | ld (n:Option Nat) (a:LO)
  | st (n:Nat) (a x:LO)
  | nilck (x:LO)
  | bin (op:BinOp) (x y:LO)
  | eqb (neg:Bool) (x y:LO)                      -- == and != on bools,on structs and arrays,on what may be nil
  | eqa (ks:List Nat) (neg:Bool) (x y:LO)
  | eqn (kd:Nat) (neg:Bool) (x y:LO)
  | un (op:UnOp) (x:LO)
  | cvi (k:IntKind) (x:LO)
  | s2s (x:LO)                                    -- string to string
  | s2b (x:LO)
  | b2s (x:LO)
  | b2b (x:LO)                                    -- []byte to []byte
  | mkif (t:Nat) (x:LO)
  | mkfn (f:Nat) (cap:List LO)
  | mks (sz bytes:Nat) (zero:List AV) (l c:LO)
  | sl (sz:Nat) (arr:Option Nat) (x:LO) (lo hi:Option LO)
  | sls (x:LO) (lo hi:Option LO)                -- of a string
  | fa (x:LO) (off:Nat)
  | fld (x:LO) (off:Nat) (n:Option Nat)
  | ia (sz:Nat) (arr:Option Nat) (x i:LO)
  | ix (sz:Nat) (arr:Option Nat) (agg:Bool) (x i:LO)
  | s2a (n sz:Nat) (x:LO)                       -- a slice to an array's pointer
  | ext (x:LO) (i:Nat)
  | call (f:LO) (args:List LO) (take:List Nat)
  | app (sz bytes:Nat) (s x:LO)
  | appz (sz bytes:Nat) (zero:List AV) (s n:LO)
  | len (arr:Option Nat) (x:LO)
  | lens (x:LO)                                   -- of a string
  | copy (sz:Nat) (d s:LO)
  | min (x y:LO)
  | max (x y:LO)
  | cap (x:LO)
  | r2s (x:LO)                                    -- a number to a string
  | rng (x:LO)                                    -- an iterator over a string
  | nxt (x:LO)
  | mkmap
  | mget (str:Bool) (zero:AV) (ok:Bool) (m k:LO)   -- a map with keys that are numbers (or strings)
  | mput (str:Bool) (m k x:LO)
  | mdel (str:Bool) (m k:LO)
  | mlen (x:LO)
  | stop
structure LOper where
  dst:Option Nat
  op:LOp
  guard:Option (Nat × Bool)
inductive LCode
  | skip
  | ret
  | exit (n:Nat)
  | reg (ops:List LOper) (keep:List Nat)
  | dreg (ops:List LOper) (pairs:List (Nat × Nat)) (keep:List Nat)
  | seq (a b:LCode)
  | cond (c:LO) (a b:LCode)
  | block (n:Nat) (a:LCode)
  | loop (live:List Nat) (a:LCode)
  | scope (a:LCode)
  | label (n:Nat)
  | goto (n:Nat)
inductive LRes
  | tmp (t:Nat)
  | cell (t:Nat) (n:Option Nat)
structure LFn where
  np:Nat
  results:List LRes
  code:LCode
mutual
def J6:AV→Bool
  | .ref ..|.buf ..|.junk|.und|.agg _|.tup _|.it ..|.itr ..|.mpr ..|.mp ..=>false
  | .clo _ cs=>flats cs
  | .ifc _ x=>J6 x
  | _=>true
def flats:List AV→Bool
  | []=>true
  | c::cs=>J6 c&&flats cs
end
def P9:AV→Bool
  | .junk|.und|.agg _|.tup _|.it ..|.itr ..|.mp ..=>false
  | _=>true
def N3:List AV→Bool
  | []=>true
  | c::cs=>P9 c&&N3 cs
mutual
def O1:AV→Bool
  | .lst ..|.fp ..|.junk=>true
  | .agg cs|.tup cs|.clo _ cs=>leadss cs
  | .mp ks vs=>leadss ks||leadss vs
  | .ifc _ x=>O1 x
  | _=>false
def leadss:List AV→Bool
  | []=>false
  | c::cs=>O1 c||leadss cs
end
mutual
def U7:AV→List (Site × Nat)
  | .ref s g _=>[(s,g)]
  | .buf s g _ _ _=>[(s,g)]
  | .it s g=>[(s,g)]
  | .mpr s g=>[(s,g)]
  | .agg cs|.tup cs|.clo _ cs=>refsOfs cs
  | .ifc _ x=>U7 x
  | _=>[]
def refsOfs:List AV→List (Site × Nat)
  | []=>[]
  | c::cs=>U7 c++refsOfs cs
end
mutual
def ren (f:Site→Nat→Option (Site × Nat)):AV→AV
  | .ref s g o=>match f s g with|some (s',g')=>.ref s' g' o|none=>.junk
  | .buf s g o n z=>match f s g with|some (s',g')=>.buf s' g' o n z|none=>.junk
  | .it s g=>match f s g with|some (s',g')=>.it s' g'|none=>.junk
  | .mpr s g=>match f s g with|some (s',g')=>.mpr s' g'|none=>.junk
  | .agg cs=>.agg (rens f cs)
  | .tup cs=>.tup (rens f cs)
  | .clo g cs=>.clo g (rens f cs)
  | .ifc t x=>.ifc t (ren f x)
  | x=>x
def rens (f:Site→Nat→Option (Site × Nat)):List AV→List AV
  | []=>[]
  | c::cs=>ren f c::rens f cs
end
def Zbk:AV→Bool
  | .agg cs=>flats cs
  | x=>J6 x
def N7:List AV→Bool
  | []=>true
  | c::cs=>Zbk c&&N7 cs
def H3:AV→Option (List AV)
  | .agg cs=>some cs
  | x=>if P9 x=true then some [x] else none
def sub {α:Type} (cs:List α) (off n:Nat):List α:=(cs.drop off).take n
def over (cs:List AV) (off:Nat) (xs:List AV):List AV:=cs.take off++xs++cs.drop (off+xs.length)
def bytesOf:List AV→Option (List UInt8)
  | []=>some []
  | .int .u8 n::cs=>(bytesOf cs).map (UInt8.ofNat n.toNat :: ·)
  | _::_=>none
def A1 (l:List UInt8):List AV:=l.map fun b=>.int .u8 b.toNat
def Zaf (l:List UInt8) (i:Nat):Nat × Nat:=Utf8.decode ⟨l.toArray⟩ i
def Zg8 (n:Int):List UInt8:=(Utf8.encode n).data.toList
def Zen:Bool→AV→AV→Option Bool
  | false,.int k a,.int k' b=>if k=k' then some (a==b) else none
  | true,.str a,.str b=>some (a==b)
  | _,_,_=>none
def U5 (str:Bool) (k:AV):List AV→Nat→Option (Option Nat)
  | [],_=>some none
  | x::xs,i=>match Zen str k x with
    | some true=>some (some i)
    | some false=>U5 str k xs (i+1)
    | none=>none
def okV (ok b:Bool) (v:AV):AV:=bif ok then .tup [v,.bool b] else v
def S3:AV→Bool
  | .agg _=>true
  | _=>false
def Zd6:Bool→List AV→AV
  | true,ys=>.agg ys
  | false,[y]=>y
  | false,_=>.junk
def G5:List Nat→List AV→List AV→Option Bool
  | [],[],[]=>some true
  | 0::ks,.int k a::xs,.int k' b::ys=>if k=k' then (G5 ks xs ys).map (a==b && ·) else none
  | 1::ks,.bool a::xs,.bool b::ys=>(G5 ks xs ys).map (a==b && ·)
  | 2::ks,.str a::xs,.str b::ys=>(G5 ks xs ys).map (a==b && ·)
  | _,_,_=>none
def Q9 (op:BinOp) (k:IntKind) (x y:Int):Option AV :=
  match op with
  | .add=>some (.int k (k.wrap (x+y)))
  | .sub=>some (.int k (k.wrap (x-y)))
  | .mul=>some (.int k (k.wrap (x*y)))
  | .quo=>if y=0 then none else some (.int k (k.wrap (x.tdiv y)))
  | .rem=>if y=0 then none else some (.int k (x.tmod y))
  | .and=>some (.int k (k.wrap (BitVec.ofInt k.bits x &&& BitVec.ofInt k.bits y).toNat))
  | .or=>some (.int k (k.wrap (BitVec.ofInt k.bits x ||| BitVec.ofInt k.bits y).toNat))
  | .xor=>some (.int k (k.wrap (BitVec.ofInt k.bits x ^^^ BitVec.ofInt k.bits y).toNat))
  | .andNot=>some (.int k (k.wrap (BitVec.ofInt k.bits x &&& ~~~ BitVec.ofInt k.bits y).toNat))
  | .eql=>some (.bool (x==y))
  | .neq=>some (.bool (x != y))
  | .lss=>some (.bool (decide (x<y)))
  | .leq=>some (.bool (decide (x≤y)))
  | .gtr=>some (.bool (decide (y<x)))
  | .geq=>some (.bool (decide (y≤x)))
  | _=>none
def Zc0 (op:BinOp) (k:IntKind) (x y:Int):Option AV :=
  if y<0 then none else
  match op with
  | .shl=>some (.int k (k.wrap (x*2^(Nat.min y.toNat k.bits))))
  | .shr=>some (.int k (x.fdiv (2^(Nat.min y.toNat k.bits))))
  | _=>none
def Zr1 (op:BinOp) (x y:List UInt8):Option AV :=
  match op with
  | .add=>if (x.length+y.length:Nat)≤9223372036854775807 then some (.str (x++y)) else none
  | .eql=>some (.bool (x==y))
  | .neq=>some (.bool (!(x==y)))
  | .lss=>some (.bool (Op.bytesLess x y))
  | .leq=>some (.bool (Op.bytesLess x y||x==y))
  | .gtr=>some (.bool (!(Op.bytesLess x y||x==y)))
  | .geq=>some (.bool (!(Op.bytesLess x y)))
  | _=>none
def G6 (op:BinOp) (x y:AV):Option AV :=
  match x,y with
  | .int k a,.int k' b =>
    match op with
    | .shl|.shr=>Zc0 op k a b
    | _=>if k=k' then Q9 op k a b else none
  | .str a,.str b=>Zr1 op a b
  | _,_=>none
def Zoh (neg:Bool):AV→AV→Option AV
  | .bool a,.bool b=>some (.bool (bif neg then !(a==b) else a==b))
  | _,_=>none
def Zkt (op:UnOp) (x:AV):Option AV :=
  match op,x with
  | .neg,.int k n=>some (.int k (k.wrap (0-n)))
  | .xor,.int k n=>some (.int k (k.wrap (BitVec.ofInt k.bits (if k.signed then -1 else k.max) ^^^ BitVec.ofInt k.bits n).toNat))
  | .not,.bool b=>some (.bool (!b))
  | _,_=>none
def zer (x:AV) (n:Nat):List AV:=List.replicate n x
def Zeo (a b:List AV):List AV:=a++b
def rep (z:List AV):Nat→List AV
  | 0=>[]
  | n+1=>z++rep z n
end Cod
namespace Cod
open Go
def Q5:List (Nat × AV)→Nat→AV
  | [],_=>.junk
  | (k,v)::r,t=>if k=t then v else Q5 r t
def Zg9:List (Nat × AV)→Nat→AV→List (Nat × AV)
  | [],t,v=>[(t,v)]
  | (k,u)::r,t,v=>if k=t then (t,v)::r else (k,u)::Zg9 r t v
structure Env where
  fn:Nat→Option LFn
  known:Nat→Option (List AV→A3→Option (AV × A3))
  glob:Nat→List AV
def Zd9:List AV→AV
  | []=>.junk
  | c::cs=>.fp (c::cs) 0
def ev (E:Env) (sl:List (Nat × AV)):LO→AV
  | .t n=>Q5 sl n
  | .k v=>v
  | .g n=>Zd9 (E.glob n)
  | .f n=>.clo n []
namespace Acc
def ent (s:Site):Acc (Option Ent):=.get s .ret
end Acc
def Zoi (g:Nat):Option Ent→Acc Ent
  | some e=>if e.alive=true∧e.g=g then .ret e else .fail
  | none=>.fail
def O4 (s:Site) (g:Nat):Acc Ent:=.get s (Zoi g)
def mkE (s:Site) (var:Bool) (cells:List AV):Option Ent→Acc (Nat × Ups)
  | some e=>.ret (e.g+1,[(s,⟨e.g+1,true,true,var,cells⟩)])
  | none=>.ret (0,[(s,⟨0,true,true,var,cells⟩)])
def mk (s:Site) (var:Bool) (cells:List AV):Acc (Nat × Ups):=.get s (mkE s var cells)
def Zgo (s:Site) (cells:List AV):Acc (AV × Ups):=(mk s true cells).bind fun p=>.ret (.ref s p.1 0,p.2)
def Zar (s:Site) (cells:List AV) (n sz:Nat) (u:Ups):Acc (AV × Ups):=(mk s false cells).bind fun p=>.ret (.buf s p.1 0 n sz,u++p.2)
def Z2e (off n z:Nat) (s:Site) (e:Ent):Acc (AV × List Site) :=
  if off+n*z≤e.cells.length∧flats e.cells=true then .ret (.lst (sub e.cells off (n*z)) n,[s]) else .fail
def Z2f (off:Nat) (s:Site) (e:Ent):Acc (AV × List Site):=if flats e.cells=true then .ret (.fp e.cells off,[s]) else .fail
def S0:AV→Acc (AV × List Site)
  | .buf s g off n z=>(O4 s g).bind (Z2e off n z s)
  | .ref s g off=>(O4 s g).bind (Z2f off s)
  | .nils=>.ret (.lst [] 0,[])
  | x=>if J6 x=true then .ret (x,[]) else .fail
def views:List AV→Acc (List AV × List Site)
  | []=>.ret ([],[])
  | c::cs=>(S0 c).bind fun p=>(views cs).bind fun q=>.ret (p.1::q.1,p.2++q.2)
def Zag:AV→Acc (AV × List Site)
  | .agg cs=>if flats cs=true then .ret (.agg cs,[]) else (views cs).bind fun p=>.ret (.agg p.1,p.2)
  | .clo f cs=>(views cs).bind fun p=>.ret (.clo f p.1,p.2)
  | x=>S0 x
def Zhq (s:Site) (u:Ups):Option Ent→Acc Ups
  | some e=>.ret ((s,{ e with rw:=false })::u)
  | none=>.fail
def Zc1:List Site→Acc Ups
  | []=>.ret []
  | s::ss=>(Zc1 ss).bind fun u=>.get s (Zhq s u)
def fix (cs:List AV):Acc (List AV × Ups × List Site) :=
  if flats cs=true then .ret (cs,[],[]) else (views cs).bind fun p=>(Zc1 p.2).bind fun u=>.ret (p.1,u,p.2)
def Z2g (sz:Nat) (off n z:Nat) (e:Ent):Acc (List AV × Nat):=if z=sz∧off+n*z≤e.cells.length then .ret (sub e.cells off (n*z),n) else .fail
def Zhr:Nat→List UInt8→Acc (List AV × Nat)
  | 1,l=>.ret (A1 l,l.length)
  | _,_=>.fail
def O5 (sz:Nat):AV→Acc (List AV × Nat)
  | .nils=>.ret ([],0)
  | .str l=>Zhr sz l
  | .lst cs n=>if cs.length=n*sz then .ret (cs,n) else .fail
  | .buf s g off n z=>(O4 s g).bind (Z2g sz off n z)
  | _=>.fail
def L7:Nat:=140737488355328
abbrev J2:=Nat→List AV→A3→Option (AV × A3)
def one (x:AV):Acc (AV × Ups):=.ret (x,[])
def X1:Nat→List (Site × Nat)→List Site→Acc (List (Site × Ent))
  | 0,_,_=>.fail
  | _+1,[],_=>.ret []
  | n+1,(s,g)::r,seen =>
    bif seen.contains s then X1 n r seen
    else (O4 s g).bind fun e=>(X1 n (r++refsOfs e.cells) (s::seen)).bind fun u=>.ret ((s,e)::u)
def V2 (es:List (Site × Ent)) (s:Site) (g:Nat):Option (Site × Nat) :=
  match A6 es s with
  | some e=>if e.g=g then some (.up s,g) else none
  | none=>none
def O6:Nat→List Nat→List AV→Acc (List AV × List (Site × Nat) × List Site)
  | _,_,[]=>.ret ([],[],[])
  | i,take,x::xs =>
    bif take.contains i then (O6 (i+1) take xs).bind fun p=>.ret (x::p.1,U7 x++p.2.1,p.2.2)
    else (Zag x).bind fun q=>(O6 (i+1) take xs).bind fun p=>.ret (q.1::p.1,p.2.1,q.2++p.2.2)
def F7 (d:Nat) (gs:List (Nat × Nat)) (s:Site) (g:Nat):Option (Site × Nat) :=
  match s with
  | .up s'=>some (s',g)
  | .r k=>match gs.lookup k with|some g'=>if g=0 then some (.s d k,g') else none|none=>none
  | .s _ _=>none
def genE (k:Nat) (l:List (Nat × Nat)):Option Ent→Acc (List (Nat × Nat))
  | some e=>.ret ((k,e.g+1)::l)
  | none=>.ret ((k,0)::l)
def N8 (d:Nat):A3→Acc (List (Nat × Nat))
  | []=>.ret []
  | (.r k,_)::r=>(N8 d r).bind fun l=>.get (.s d k) (genE k l)
  | _::r=>N8 d r
def B3 (d:Nat) (gs:List (Nat × Nat)):A3→Ups
  | []=>[]
  | (s,e)::r =>
    match F7 d gs s e.g with
    | some (s',g')=>(s',{ e with g:=g',cells:=rens (F7 d gs) e.cells })::B3 d gs r
    | none=>B3 d gs r
def U8 (back:Ups):List (Site × Ent)→Ups
  | []=>[]
  | (s,e)::r=>match A6 back s with|some _=>U8 back r|none=>(s,{ e with alive:=false,cells:=[] })::U8 back r
def K0 (es:List (Site × Ent)):List (Site × Ent)→A3
  | []=>[]
  | (s,e)::r=>(.up s,{ e with cells:=rens (V2 es) e.cells })::K0 es r
def X2:Ups→Bool
  | []=>false
  | (_,e)::r=>leadss e.cells||X2 r
def Zhs (es:List (Site × Ent)):List Site→Bool
  | []=>false
  | s::ss=>(A6 es s).isSome||Zhs es ss
def Zoj (σ:Ups) (s:Site):Bool:=(A6 σ s).isNone
def R5:Ups→Bool
  | []=>true
  | (s,_)::r=>Zoj r s&&R5 r
def Zok:Site→Ent→Bool
  | .up _,e=>e.alive
  | .r _,e=>e.alive&&e.g==0
  | .s _ _,_=>false
def tidy:A3→Bool
  | []=>true
  | (s,e)::r=>Zok s e&&Zoj r s&&tidy r
def Zv5 (ss:List Site) (es:List (Site × Ent)) (v:AV) (b:Ups):Acc (AV × Ups) :=
  bif O1 v||X2 b then (Zc1 ss).bind fun u=>.ret (v,u++(b++U8 b es)) else .ret (v,b++U8 b es)
def Zv6 (d:Nat) (ss:List Site) (es:List (Site × Ent)):Option (AV × A3)→Acc (AV × Ups)
  | none=>.fail
  | some (v,σ) =>
    bif tidy σ && !(Zhs es ss) then (N8 d σ).bind fun gs=>bif R5 (B3 d gs σ) then Zv5 ss es (ren (F7 d gs) v) (B3 d gs σ) else .fail
    else .fail
def Z4 (call:J2) (d:Nat) (f:Nat) (args:List AV) (take:List Nat):Acc (AV × Ups) :=
  (O6 0 take args).bind fun p =>
  (X1 64 p.2.1 []).bind fun es=>Zv6 d p.2.2 es (call f (rens (V2 es) p.1) (K0 es es))
def still1 (s:Site) (g:Nat) (x:AV):Acc (AV × Ups):=(O4 s g).bind fun _=>.ret (x,[])
def Zcw:Nat→AV→Acc Bool
  | 0,.nilp=>.ret true
  | 0,.fp _ _=>.ret false
  | 0,.ref s g _=>(O4 s g).bind fun _=>.ret false
  | 1,.nils=>.ret true
  | 1,.lst _ (_+1)=>.ret false
  | 1,.buf s g _ (_+1) _=>(O4 s g).bind fun _=>.ret false
  | 2,.nilm=>.ret true
  | 3,.nilf=>.ret true
  | 3,.clo _ _=>.ret false
  | 4,.nili=>.ret true
  | 4,.ifc _ _=>.ret false
  | _,_=>.fail
def eqnB (neg a b:Bool):Acc (AV × Ups):=bif a||b then .ret (.bool (bif neg then !(a&&b) else a&&b),[]) else .fail
def eqnV (kd:Nat) (neg:Bool) (x y:AV):Acc (AV × Ups):=(Zcw kd x).bind fun a=>(Zcw kd y).bind fun b=>eqnB neg a b
def Zol:AV→AV→AV→Acc (AV × Ups)
  | .bool t,a,b=>one (bif t then a else b)
  | _,_,_=>.fail
def optV:Option AV→Acc (AV × Ups)
  | some x=>one x
  | none=>.fail
def eqaV (ks:List Nat) (neg:Bool):AV→AV→Acc (AV × Ups)
  | .agg a,.agg b=>optV ((G5 ks a b).map fun e=>.bool (bif neg then !e else e))
  | _,_=>.fail
def aggV (cs:List AV) (off n:Nat):Acc (AV × Ups):=if off+n≤cs.length then one (.agg (sub cs off n)) else .fail
def Zi8 (cells:List AV) (off n:Nat):Option (List AV)→Option (List AV)
  | some ys=>if ys.length=n∧off+n≤cells.length then some (over cells off ys) else none
  | none=>none
def X3 (ρ:LO→AV):List (Nat × Nat × LO)→Option (List AV)→Option (List AV)
  | [],r=>r
  | _::_,none=>none
  | (off,n,x)::r,some cells=>X3 ρ r (Zi8 cells off n (H3 (ρ x)))
def Zku:Option (List AV)→Acc (AV × Ups)
  | some cs=>one (.agg cs)
  | none=>.fail
def Zep (s:Site) (n sz:Nat):Option (List AV)→Acc (AV × Ups)
  | some cs=>(fix cs).bind fun p=>Zar s p.1 n sz p.2.1
  | none=>.fail
def ldC:Option Nat→Nat→Ent→Acc (AV × Ups)
  | none,off,e=>optV e.cells[off]?
  | some n,off,e=>aggV e.cells off n
def ldV:Option Nat→AV→Acc (AV × Ups)
  | none,.fp cs off=>optV cs[off]?
  | some n,.fp cs off=>aggV cs off n
  | n,.ref s g off=>(O4 s g).bind (ldC n off)
  | _,_=>.fail
def stC (s:Site) (off n:Nat) (xs:List AV) (e:Ent):Acc (AV × Ups) :=
  if e.rw=true∧xs.length=n∧off+n≤e.cells.length∧N3 xs=true then
    (bif e.var then .ret (.und,[(s,{ e with cells:=over e.cells off xs })])
     else (fix xs).bind fun p=>bif p.2.2.contains s then .fail else .ret (.und,p.2.1++[(s,{ e with cells:=over e.cells off p.1 })]))
  else .fail
def stV (n:Nat):AV→Option (List AV)→Acc (AV × Ups)
  | .ref s g off,some xs=>(O4 s g).bind (stC s off n xs)
  | _,_=>.fail
def boxV (s:Site):Option (List AV)→Acc (AV × Ups)
  | some xs=>Zgo s xs
  | none=>.fail
def Zi9 (t:Nat):AV→Acc (AV × Ups)
  | .agg cs=>if flats cs=true then one (.ifc t (.agg cs)) else .fail
  | x=>if J6 x=true then one (.ifc t x) else .fail
def Zfw:AV→Acc (AV × Ups)
  | .ref s g o=>still1 s g (.ref s g o)
  | .fp cs o=>one (.fp cs o)
  | .clo f c=>one (.clo f c)
  | _=>.fail
def Zkv (k:IntKind):AV→Acc (AV × Ups)
  | .int _ n=>one (.int k (k.wrap n))
  | _=>.fail
def s2sV:AV→Acc (AV × Ups)
  | .str l=>one (.str l)
  | _=>.fail
def s2bV (s:Site):AV→Acc (AV × Ups)
  | .str l=>Zar s (A1 l) l.length 1 []
  | _=>.fail
def strV:Option (List UInt8)→Acc (AV × Ups)
  | some l=>one (.str l)
  | none=>.fail
def b2bV:AV→Acc (AV × Ups)
  | .buf s g off n z=>(O4 s g).bind fun e=>if e.rw=true∧e.cells.isEmpty=false then .ret (.buf s g off n z,[]) else .fail
  | _=>.fail
def mksV (s:Site) (sz bytes:Nat) (zero:List AV):AV→AV→Acc (AV × Ups)
  | .int .i64 l,.int .i64 c =>
    if 0≤l∧l≤c∧bytes*c≤281474976710656∧c≤281474976710656 then Zar s (rep zero l.toNat) l.toNat sz [] else .fail
  | _,_=>.fail
def loV:Option AV→AV
  | some x=>x
  | none=>.int .i64 0
def hiV (n:Nat):Option AV→AV
  | some x=>x
  | none=>.int .i64 n
def Zba:Option Nat→AV→Nat
  | some n,_=>n
  | none,.str l=>l.length
  | none,.lst _ n=>n
  | none,.buf _ _ _ n _=>n
  | none,_=>0
def slR (sz n l h:Nat) (s:Site) (g off:Nat) (e:Ent):Acc (AV × Ups):=if off+n*sz≤e.cells.length then .ret (.buf s g (off+l*sz) (h-l) sz,[]) else .fail
def slB (sz:Nat) (arr:Option Nat) (x:AV) (l h:Nat):Acc (AV × Ups) :=
  match arr,x with
  | some n,.ref s g off=>(O4 s g).bind (slR sz n l h s g off)
  | some n,.fp cs off=>if off+n*sz≤cs.length then one (.lst (sub cs (off+l*sz) ((h-l)*sz)) (h-l)) else .fail
  | none,.lst cs n=>if cs.length=n*sz then one (.lst (sub cs (l*sz) ((h-l)*sz)) (h-l)) else .fail
  | none,.buf s g off _ z=>if z=sz then still1 s g (.buf s g (off+l*sz) (h-l) sz) else .fail
  | none,.nils=>one .nils
  | _,_=>.fail
def slV (sz:Nat) (arr:Option Nat) (x:AV):AV→AV→Acc (AV × Ups)
  | .int _ l,.int _ h=>if 0≤l∧l≤h∧h≤Zba arr x then slB sz arr x l.toNat h.toNat else .fail
  | _,_=>.fail
def slsV:AV→AV→AV→Acc (AV × Ups)
  | .str t,.int _ l,.int _ h=>if 0≤l∧l≤h∧h≤t.length then one (.str (sub t l.toNat (h.toNat-l.toNat))) else .fail
  | _,_,_=>.fail
def faV (off:Nat):AV→Acc (AV × Ups)
  | .ref s g o=>still1 s g (.ref s g (o+off))
  | .fp cs o=>one (.fp cs (o+off))
  | _=>.fail
def Zom (off:Nat):Option Nat→AV→Acc (AV × Ups)
  | none,.agg cs=>optV cs[off]?
  | some n,.agg cs=>aggV cs off n
  | _,_=>.fail
def iaV (sz:Nat):Option Nat→AV→AV→Acc (AV × Ups)
  | some n,.ref s g o,.int _ i=>if 0≤i∧i<n then still1 s g (.ref s g (o+i.toNat*sz)) else .fail
  | some n,.fp cs o,.int _ i=>if 0≤i∧i<n then one (.fp cs (o+i.toNat*sz)) else .fail
  | none,.lst cs n,.int _ i=>if 0≤i∧i<n then one (.fp cs (i.toNat*sz)) else .fail
  | none,.buf s g o n z,.int _ i=>if 0≤i∧i<n∧z=sz then still1 s g (.ref s g (o+i.toNat*sz)) else .fail
  | _,_,_=>.fail
def Zv7:Option UInt8→Acc (AV × Ups)
  | some b=>one (.int .u8 b.toNat)
  | none=>.fail
def ixV (sz:Nat) (agg:Bool):Option Nat→AV→AV→Acc (AV × Ups)
  | some n,.agg cs,.int _ i=>if 0≤i∧i<n∧i.toNat*sz+sz≤cs.length then (bif agg then one (.agg (sub cs (i.toNat*sz) sz)) else optV cs[i.toNat*sz]?) else .fail
  | none,.str t,.int _ i=>if 0≤i then Zv7 t[i.toNat]? else .fail
  | _,_,_=>.fail
def s2aV (n sz:Nat):AV→Acc (AV × Ups)
  | .lst cs m=>if n≤m∧cs.length=m*sz∧0<n then one (.fp cs 0) else .fail
  | .buf s g o m z=>if n≤m∧z=sz∧0<n then still1 s g (.ref s g o) else .fail
  | _=>.fail
def extV (i:Nat):AV→Acc (AV × Ups)
  | .tup cs=>optV cs[i]?
  | _=>.fail
def Zeq (call:J2) (d:Nat) (take:List Nat) (args:List AV):AV→Acc (AV × Ups)
  | .clo f cap=>Z4 call d f (args++cap) take
  | _=>.fail
def Zbb (s t:Site) (u:Ups) (e:Ent):Ups:=bif decide (s=t) then u else u++[(s,{ e with alive:=false,cells:=[] })]
def appB (t:Site) (sz bytes m:Nat) (vs:List AV) (u:Ups) (ss:List Site) (s:Site) (o n z:Nat) (e:Ent):Acc (AV × Ups) :=
  if e.rw=true∧e.var=false∧z=sz∧o+n*sz≤e.cells.length∧(n+m)*bytes≤L7∧ss.contains s=false∧N3 vs=true then
    Zar t (sub e.cells o (n*sz)++vs) (n+m) sz (Zbb s t u e)
  else .fail
def Zer (t:Site) (sz bytes m:Nat) (vs:List AV) (u:Ups) (ss:List Site):AV→Acc (AV × Ups)
  | .nils=>if m*bytes≤L7 then Zar t vs m sz u else .fail
  | .buf s g o n z=>(O4 s g).bind (appB t sz bytes m vs u ss s o n z)
  | _=>.fail
def Zja (t:Site) (sz bytes:Nat) (zero:List AV) (s:AV):AV→Acc (AV × Ups)
  | .int .i64 m=>if 0≤m∧m≤L7 then Zer t sz bytes m.toNat (rep zero m.toNat) [] [] s else .fail
  | _=>.fail
def Zgp:Option Nat→AV→Acc (AV × Ups)
  | some n,_=>one (.int .i64 n)
  | none,.lst _ n=>one (.int .i64 n)
  | none,.buf s g _ n _=>still1 s g (.int .i64 n)
  | none,.nils=>one (.int .i64 0)
  | _,_=>.fail
def Zon:AV→Acc (AV × Ups)
  | .str l=>one (.int .i64 l.length)
  | _=>.fail
def Zr2:AV→Acc (AV × Ups)
  | .str _=>.fail
  | x=>(O5 1 x).bind fun p=>strV (bytesOf p.1)
def Zv8 (sz m:Nat) (ys:List AV) (s:Site) (o n z:Nat) (e:Ent):Acc (AV × Ups) :=
  if e.rw=true∧z=sz∧o+n*sz≤e.cells.length∧flats ys=true then
    .ret (.int .i64 (Nat.min m n),[(s,{ e with cells:=over e.cells o (ys.take (Nat.min m n*sz)) })])
  else .fail
def Zoo (sz m:Nat) (ys:List AV):AV→Acc (AV × Ups)
  | .buf s g o n z=>(O4 s g).bind (Zv8 sz m ys s o n z)
  | _=>.fail
def minV:AV→AV→Acc (AV × Ups)
  | .int k a,.int k' b=>if k=k' then one (.int k (if b<a then b else a)) else .fail
  | _,_=>.fail
def maxV:AV→AV→Acc (AV × Ups)
  | .int k a,.int k' b=>if k=k' then one (.int k (if a<b then b else a)) else .fail
  | _,_=>.fail
def capV:AV→Acc (AV × Ups)
  | .nils=>one (.int .i64 0)
  | _=>.fail
def r2sV:AV→Acc (AV × Ups)
  | .int _ n=>one (.str (Zg8 n))
  | _=>.fail
def Zht (s:Site) (c:AV) (f:Nat→AV):Acc (AV × Ups):=(mk s true [c]).bind fun p=>.ret (f p.1,p.2)
def rngV (s:Site):AV→Acc (AV × Ups)
  | .str l=>Zht s (.itr l 0) (.it s)
  | _=>.fail
def nxtC (s:Site) (e:Ent):Acc (AV × Ups) :=
  match e.cells with
  | [.itr l p]=>if e.rw=true then (if p<l.length then .ret (.tup [.bool true,.int .i64 p,.int .i32 (Zaf l p).1],[(s,{ e with cells:=[.itr l (p+(Zaf l p).2)] })]) else .ret (.tup [.bool false],[])) else .fail
  | _=>.fail
def nxtV:AV→Acc (AV × Ups)
  | .it s g=>(O4 s g).bind (nxtC s)
  | _=>.fail
def Zjb (zero:AV) (ok:Bool) (vs:List AV):Option (Option Nat)→Acc (AV × Ups)
  | some (some i)=>optV ((vs[i]?).map (okV ok true))
  | some none=>one (okV ok false zero)
  | none=>.fail
def Zv9 (str:Bool) (zero:AV) (ok:Bool) (k:AV) (e:Ent):Acc (AV × Ups) :=
  match e.cells with
  | [.mp ks vs]=>Zjb zero ok vs (U5 str k ks 0)
  | _=>.fail
def Zop (str:Bool) (zero:AV) (ok:Bool) (k:AV):AV→Acc (AV × Ups)
  | .mpr s g=>(O4 s g).bind (Zv9 str zero ok k)
  | .nilm=>one (okV ok false zero)
  | _=>.fail
def Zjc (s:Site) (k y:AV) (u:Ups) (e:Ent) (ks vs:List AV):Option (Option Nat)→Acc (AV × Ups)
  | some (some i)=>.ret (.und,u++[(s,{ e with cells:=[.mp (ks.set i k) (vs.set i y)] })])
  | some none=>.ret (.und,u++[(s,{ e with cells:=[.mp (ks++[k]) (vs++[y])] })])
  | none=>.fail
def Zwa (str:Bool) (s:Site) (k y:AV) (u:Ups) (ss:List Site) (e:Ent):Acc (AV × Ups) :=
  match e.cells with
  | [.mp ks vs]=>if e.rw=true∧Zbk k=true∧Zbk y=true∧ss.contains s=false then Zjc s k y u e ks vs (U5 str k ks 0) else .fail
  | _=>.fail
def Zoq (str agg:Bool) (k:AV) (xs:Option (List AV)):AV→Acc (AV × Ups)
  | .mpr s g=>match xs with
    | some xs=>(fix xs).bind fun p=>(O4 s g).bind (Zwa str s k (Zd6 agg p.1) p.2.1 p.2.2)
    | none=>.fail
  | _=>.fail
def Zjd (s:Site) (e:Ent) (ks vs:List AV):Option (Option Nat)→Acc (AV × Ups)
  | some (some i)=>.ret (.tup [],[(s,{ e with cells:=[.mp (ks.eraseIdx i) (vs.eraseIdx i)] })])
  | some none=>.ret (.tup [],[])
  | none=>.fail
def Zwb (str:Bool) (s:Site) (k:AV) (e:Ent):Acc (AV × Ups) :=
  match e.cells with
  | [.mp ks vs]=>if e.rw=true then Zjd s e ks vs (U5 str k ks 0) else .fail
  | _=>.fail
def Zor (str:Bool) (k:AV):AV→Acc (AV × Ups)
  | .mpr s g=>(O4 s g).bind (Zwb str s k)
  | .nilm=>one (.tup [])
  | _=>.fail
def Zwc (e:Ent):Acc (AV × Ups) :=
  match e.cells with
  | [.mp ks _]=>one (.int .i64 ks.length)
  | _=>.fail
def Zos:AV→Acc (AV × Ups)
  | .mpr s g=>(O4 s g).bind Zwc
  | .nilm=>one (.int .i64 0)
  | _=>.fail
def step (call:J2) (ρ:LO→AV) (d:Nat):LOp→Acc (AV × Ups)
  | .mv x=>one (ρ x)
  | .nil sz=>Zar (.s d 0) [] 0 sz []
  | .pick c a b=>Zol (ρ c) (ρ a) (ρ b)
  | .new cells=>Zgo (.s d 0) cells
  | .box x=>boxV (.s d 0) (H3 (ρ x))
  | .build zero ps=>Zku (X3 ρ ps (some zero))
  | .bslice sz n zero ps=>Zep (.s d 0) n sz (X3 ρ ps (some (rep zero n)))
  | .ld n a=>ldV n (ρ a)
  | .st n a x=>stV n (ρ a) (H3 (ρ x))
  | .nilck x=>Zfw (ρ x)
  | .bin op x y=>optV (G6 op (ρ x) (ρ y))
  | .eqb neg x y=>optV (Zoh neg (ρ x) (ρ y))
  | .eqa ks neg x y=>eqaV ks neg (ρ x) (ρ y)
  | .eqn kd neg x y=>eqnV kd neg (ρ x) (ρ y)
  | .un op x=>optV (Zkt op (ρ x))
  | .cvi k x=>Zkv k (ρ x)
  | .s2s x=>s2sV (ρ x)
  | .s2b x=>s2bV (.s d 0) (ρ x)
  | .b2s x=>Zr2 (ρ x)
  | .b2b x=>b2bV (ρ x)
  | .mkif t x=>Zi9 t (ρ x)
  | .mkfn f cap=>one (.clo f (cap.map ρ))
  | .mks sz bytes zero l c=>mksV (.s d 0) sz bytes zero (ρ l) (ρ c)
  | .sl sz arr x lo hi=>slV sz arr (ρ x) (loV (lo.map ρ)) (hiV (Zba arr (ρ x)) (hi.map ρ))
  | .sls x lo hi=>slsV (ρ x) (loV (lo.map ρ)) (hiV (Zba none (ρ x)) (hi.map ρ))
  | .fa x off=>faV off (ρ x)
  | .fld x off n=>Zom off n (ρ x)
  | .ia sz arr x i=>iaV sz arr (ρ x) (ρ i)
  | .ix sz arr agg x i=>ixV sz agg arr (ρ x) (ρ i)
  | .s2a n sz x=>s2aV n sz (ρ x)
  | .ext x i=>extV i (ρ x)
  | .call f args take=>Zeq call d take (args.map ρ) (ρ f)
  | .app sz bytes s x=>(O5 sz (ρ x)).bind fun p=>(fix p.1).bind fun q=>Zer (.s d 0) sz bytes p.2 q.1 q.2.1 q.2.2 (ρ s)
  | .appz sz bytes zero s n=>Zja (.s d 0) sz bytes zero (ρ s) (ρ n)
  | .len arr x=>Zgp arr (ρ x)
  | .lens x=>Zon (ρ x)
  | .copy sz dd s=>(O5 sz (ρ s)).bind fun p=>Zoo sz p.2 p.1 (ρ dd)
  | .min x y=>minV (ρ x) (ρ y)
  | .max x y=>maxV (ρ x) (ρ y)
  | .cap x=>capV (ρ x)
  | .r2s x=>r2sV (ρ x)
  | .rng x=>rngV (.s d 0) (ρ x)
  | .nxt x=>nxtV (ρ x)
  | .mkmap=>Zht (.s d 0) (.mp [] []) (.mpr (.s d 0))
  | .mget str zero ok m k=>Zop str zero ok (ρ k) (ρ m)
  | .mput str m k x=>Zoq str (S3 (ρ x)) (ρ k) (H3 (ρ x)) (ρ m)
  | .mdel str m k=>Zor str (ρ k) (ρ m)
  | .mlen x=>Zos (ρ x)
  | .stop=>.fail
structure RS where
  loc:List (Nat × AV)
  st:A3
def M2 (sl:List (Nat × AV)):List (Nat × AV)→Nat→AV
  | [],n=>Q5 sl n
  | (k,v)::r,n=>if k=n then v else M2 sl r n
def evR (E:Env) (sl loc:List (Nat × AV)):LO→AV
  | .t n=>M2 sl loc n
  | .k v=>v
  | .g n=>Zd9 (E.glob n)
  | .f n=>.clo n []
def R0:Option Nat→Nat
  | some d=>d
  | none=>0
def Y7 (r:RS) (d:Option Nat) (v:AV) (u:Ups):RS :=
  match d with
  | some d=>⟨(d,v)::r.loc,B2 r.st u⟩
  | none=>⟨r.loc,B2 r.st u⟩
def opR (E:Env) (call:J2) (sl:List (Nat × AV)) (o:LOper) (r:RS):Option RS :=
  match o.guard with
  | none=>match (step call (evR E sl r.loc) (R0 o.dst) o.op).run r.st with
    | some (v,u)=>some (Y7 r o.dst v u)
    | none=>none
  | some (g,want) =>
    match evR E sl r.loc (.t g) with
    | .bool b=>bif (b==want) then (match (step call (evR E sl r.loc) (R0 o.dst) o.op).run r.st with
        | some (v,u)=>some (Y7 r o.dst v u)
        | none=>none) else some (Y7 r o.dst .und [])
    | .und=>some (Y7 r o.dst .und [])
    | _=>none
def O2 (E:Env) (call:J2) (sl:List (Nat × AV)) (o:LOper) (r:RS):List Site × List Site :=
  let a:=step call (evR E sl r.loc) (R0 o.dst) o.op
  let t:=(a.reads r.st,match a.run r.st with|some (_,u)=>u.map (·.1)|none=>[])
  match o.guard with
  | none=>t
  | some (g,want) =>
    match evR E sl r.loc (.t g) with
    | .bool b=>bif b==want then t else ([],[])
    | _=>([],[])
def L9 (E:Env) (call:J2) (sl:List (Nat × AV)):List LOper→RS→Option RS
  | [],r=>some r
  | o::os,r=>match opR E call sl o r with|some r'=>L9 E call sl os r'|none=>none
def J4 (E:Env) (call:J2) (sl:List (Nat × AV)):List LOper→RS→List (List Site × List Site)
  | [],_=>[]
  | o::os,r=>O2 E call sl o r::(match opR E call sl o r with|some r'=>J4 E call sl os r'|none=>[])
def Zas:List Site→List Site→Bool
  | [],_=>false
  | s::ss,ts=>ts.contains s||Zas ss ts
def Zot (a b:List Site × List Site):Bool := !(Zas a.2 b.1) && !(Zas a.2 b.2) && !(Zas a.1 b.2)
def T9 (ts:List (List Site × List Site)) (pairs:List (Nat × Nat)):Bool :=
  pairs.all fun (i,j)=>Zot (ts.getD i ([],[])) (ts.getD j ([],[]))
end Cod
namespace Cod
open Go
structure St where
  sl:List (Nat × AV)
  st:A3
inductive It
  | c (x:LCode)
  | blk (n:Nat)
  | lp (live:List Nat) (x:LCode)
  | scp (x:LCode)
def Q0 (n:Nat):List It→Option (List It)
  | []=>none
  | .blk m::k=>if m=n then some k else Q0 n k
  | _::k=>Q0 n k
def N4:LCode→Nat→Option LCode
  | .seq a b,l=>match N4 a l with|some r=>some (.seq r b)|none=>N4 b l
  | .label m,l=>if m=l then some .skip else none
  | _,_=>none
def U6 (n:Nat):List It→Option (List It)
  | []=>none
  | .scp x::k=>match N4 x n with|some r=>some (.c r::.scp x::k)|none=>U6 n k
  | _::k=>U6 n k
def Y8 (loc:List (Nat × AV)) (sl0:List (Nat × AV)):List Nat→List (Nat × AV)→List (Nat × AV)
  | [],sl=>sl
  | t::ts,sl=>Y8 loc sl0 ts (Zg9 sl t (M2 sl0 loc t))
def J5 (σ:A3):Nat→List (Site × Nat)→List (Site × Nat)→List (Site × Nat)
  | 0,_,acc=>acc
  | _+1,[],acc=>acc
  | n+1,(s,g)::r,acc =>
    if acc.contains (s,g) then J5 σ n r acc
    else match A6 σ s with
      | some e=>if e.alive=true∧e.g=g then J5 σ n (r++refsOfs e.cells) (acc++[(s,g)]) else J5 σ n r acc
      | none=>J5 σ n r acc
def K8 (base:Nat→Site):Nat→List (Site × Nat)→Site→Nat→Option (Site × Nat)
  | _,[],_,_=>none
  | j,(s',g')::r,s,g =>
    if s'=s∧g'=g then some (match s with|.up _=>(s,g)|_=>(base j,0)) else K8 base (j+1) r s g
def ups:A3→List (Site × Nat)
  | []=>[]
  | (.up s,e)::r=>if e.alive=true then (.up s,e.g)::ups r else ups r
  | _::r=>ups r
def R1 (σ:A3) (f:Site→Nat→Option (Site × Nat)):List (Site × Nat)→A3
  | []=>[]
  | (s,g)::r =>
    match A6 σ s,f s g with
    | some e,some (s',g')=>(s',{ e with g:=g',cells:=rens f e.cells })::R1 σ f r
    | _,_=>R1 σ f r
def Zou (live:List Nat) (st:St):St :=
  let acc:=J5 st.st 64 (ups st.st++live.flatMap fun t=>U7 (Q5 st.sl t)) []
  let f:=K8 (Site.s 1000000) 0 acc
  ⟨live.map fun t=>(t,ren f (Q5 st.sl t)),R1 st.st f acc⟩
def Zgq (st:St):LRes→Option AV
  | .tmp t=>some (Q5 st.sl t)
  | .cell t n =>
    match Q5 st.sl t with
    | .ref s g off=>(O4 s g).run st.st |>.bind fun e=>(match n with
      | none=>e.cells[off]?
      | some n=>if off+n≤e.cells.length then some (.agg (sub e.cells off n)) else none)
    | _=>none
def Zaq (st:St):List LRes→Option (List AV)
  | []=>some []
  | r::rs=>match Zgq st r,Zaq st rs with|some v,some vs=>some (v::vs)|_,_=>none
def Zkw:List AV→AV
  | [v]=>v
  | vs=>.tup vs
def Zbc (res:List LRes) (st:St):Option (AV × A3) :=
  match Zaq st res with
  | some vs =>
    let acc:=J5 st.st 64 (ups st.st++refsOfs vs) []
    let f:=K8 Site.r 0 acc
    some (Zkw (rens f vs),R1 st.st f acc)
  | none=>none
def params:Nat→List AV→List (Nat × AV)
  | _,[]=>[]
  | i,v::vs=>(i,v)::params (i+1) vs
inductive Mv
  | go (k:List It) (st:St)
  | done
  | stuck
def move (E:Env) (call:J2) (st:St):List It→Mv
  | []=>.done
  | .blk _::k=>.go k st
  | .lp live x::k=>.go (.c x::.lp live x::k) (Zou live st)
  | .scp _::k=>.go k st
  | .c (.scope x)::k=>.go (.c x::.scp x::k) st
  | .c (.label _)::k=>.go k st
  | .c (.goto n)::k=>match U6 n k with|some k'=>.go k' st|none=>.stuck
  | .c .skip::k=>.go k st
  | .c .ret::_=>.done
  | .c (.exit n)::k=>match Q0 n k with|some k'=>.go k' st|none=>.stuck
  | .c (.seq a b)::k=>.go (.c a::.c b::k) st
  | .c (.cond c a b)::k =>
    match ev E st.sl c with
    | .bool t=>bif t then .go (.c a::k) st else .go (.c b::k) st
    | _=>.stuck
  | .c (.block n a)::k=>.go (.c a::.blk n::k) st
  | .c (.loop live a)::k=>.go (.c a::.lp live a::k) (Zou live st)
  | .c (.reg ops keep)::k =>
    match L9 E call st.sl ops ⟨[],st.st⟩ with
    | some r=>.go k ⟨Y8 r.loc st.sl keep st.sl,r.st⟩
    | none=>.stuck
  | .c (.dreg ops pairs keep)::k =>
    match L9 E call st.sl ops ⟨[],st.st⟩ with
    | some r=>if T9 (J4 E call st.sl ops ⟨[],st.st⟩) pairs=true then .go k ⟨Y8 r.loc st.sl keep st.sl,r.st⟩ else .stuck
    | none=>.stuck
mutual
def X4 (E:Env) (n:Nat) (fn:List LRes) (k:List It) (st:St):Option (AV × A3) :=
  match n with
  | 0=>none
  | n+1 =>
    match move E (acall E n) st k with
    | .go k' st'=>X4 E n fn k' st'
    | .done=>Zbc fn st
    | .stuck=>none
  termination_by structural n
def acall (E:Env) (n:Nat) (f:Nat) (args:List AV) (σ:A3):Option (AV × A3) :=
  match n with
  | 0=>none
  | n+1 =>
    match E.known f with
    | some h=>h args σ
    | none =>
      match E.fn f with
      | some fn=>bif args.length==fn.np then X4 E n fn.results [.c fn.code] ⟨params 0 args,σ⟩ else none
      | none=>none
  termination_by structural n
end
end Cod
namespace Cod
open Go
theorem Acc.run_bind {α β:Type} (x:Acc α) (f : α→Acc β) (σ:A3):(x.bind f).run σ=(x.run σ).bind fun a=>(f a).run σ:=by
  induction x with
  | ret a=>rfl
  | fail=>rfl
  | get s k ih=>exact ih _
def LeC (c c':J2):Prop:=∀ f a σ r,c f a σ=some r→c' f a σ=some r
theorem Zov {c c':J2} (h:LeC c c') {d f:Nat} {args:List AV} {take:List Nat} {σ:A3} {x:AV × Ups}
    (hx:(Z4 c d f args take).run σ=some x):(Z4 c' d f args take).run σ=some x:=by
  unfold Z4 at hx ⊢
  rw [Acc.run_bind] at hx ⊢
  cases h1:(O6 0 take args).run σ with
  | none=>rw [h1] at hx;cases hx
  | some p =>
    rw [h1] at hx
    simp only [Ydq] at hx ⊢
    rw [Acc.run_bind] at hx ⊢
    cases h2:(X1 64 p.2.1 []).run σ with
    | none=>rw [h2] at hx;cases hx
    | some es =>
      rw [h2] at hx
      simp only [Ydq] at hx ⊢
      cases h3:c f (rens (V2 es) p.1) (K0 es es) with
      | none=>rw [h3] at hx;cases hx
      | some r=>rw [h3] at hx;rw [h _ _ _ _ h3];exact hx
theorem Zje {c c':J2} (h:LeC c c') {ρ:LO→AV} {d:Nat} {op:LOp} {σ:A3} {x:AV × Ups}
    (hx:(step c ρ d op).run σ=some x):(step c' ρ d op).run σ=some x:=by
  cases op<;>try exact hx
  case call f args take =>
    simp only [step] at hx ⊢
    cases hf : ρ f<;>simp only [hf,Zeq] at hx ⊢<;>first|exact hx|exact Zov h hx
theorem Zhu {E:Env} {c c':J2} (h:LeC c c') {sl:List (Nat × AV)} {o:LOper} {r r':RS} (hx:opR E c sl o r=some r'):opR E c' sl o r=some r':=by
  have key:∀ z,(match (step c (evR E sl r.loc) (R0 o.dst) o.op).run r.st with|some (v,u)=>some (Y7 r o.dst v u)|none=>none)=some z →
      (match (step c' (evR E sl r.loc) (R0 o.dst) o.op).run r.st with|some (v,u)=>some (Y7 r o.dst v u)|none=>none)=some z:=by
    intro z hz
    cases h1:(step c (evR E sl r.loc) (R0 o.dst) o.op).run r.st with
    | none=>rw [h1] at hz;cases hz
    | some p=>rw [h1] at hz;rw [Zje h h1];exact hz
  unfold opR at hx ⊢
  cases hg:o.guard with
  | none=>simp only [hg] at hx ⊢;exact key _ hx
  | some p =>
    obtain ⟨g,want⟩:=p
    simp only [hg] at hx ⊢
    cases he:evR E sl r.loc (.t g)<;>simp only [he] at hx ⊢<;>try exact hx
    rename_i b
    cases hb:(b==want)<;>simp only [hb,cond_true,cond_false] at hx ⊢
    · exact hx
    · exact key _ hx
theorem Zfx {E:Env} {c c':J2} (h:LeC c c') {sl:List (Nat × AV)}:∀ {os:List LOper} {r r':RS},L9 E c sl os r=some r'→L9 E c' sl os r=some r':=by
  intro os
  induction os with
  | nil=>intro r r' hx;exact hx
  | cons o os ih =>
    intro r r' hx
    simp only [L9] at hx ⊢
    cases h1:opR E c sl o r with
    | none=>rw [h1] at hx;cases hx
    | some r1=>rw [h1] at hx;rw [Zhu h h1];exact ih hx
theorem Zkx {c c':J2} (h:LeC c c') {d f:Nat} {args:List AV} {take:List Nat} {σ:A3} {x:AV × Ups}
    (hx:(Z4 c d f args take).run σ=some x):(Z4 c' d f args take).reads σ=(Z4 c d f args take).reads σ:=by
  have rb:∀ {α β:Type} (x:Acc α) (f : α→Acc β),(x.bind f).reads σ=x.reads σ++(match x.run σ with|some a=>(f a).reads σ|none=>[]):=by
    intro α β x f
    induction x with
    | ret a=>rfl
    | fail=>rfl
    | get s k ih=>exact congrArg (s :: ·) (ih _)
  unfold Z4 at hx ⊢
  rw [Acc.run_bind] at hx
  rw [rb,rb]
  cases h1:(O6 0 take args).run σ with
  | none=>rw [h1] at hx<;>cases hx
  | some p =>
    rw [h1] at hx
    simp only [Ydq] at hx ⊢
    rw [Acc.run_bind] at hx
    rw [rb,rb]
    cases h2:(X1 64 p.2.1 []).run σ with
    | none=>rw [h2] at hx<;>cases hx
    | some es =>
      rw [h2] at hx
      simp only [Ydq] at hx ⊢
      cases h3:c f (rens (V2 es) p.1) (K0 es es) with
      | none=>rw [h3] at hx;cases hx
      | some r=>rw [h _ _ _ _ h3]
theorem Zr3 {c c':J2} (h:LeC c c') {ρ:LO→AV} {d:Nat} {op:LOp} {σ:A3} {x:AV × Ups}
    (hx:(step c ρ d op).run σ=some x):(step c' ρ d op).reads σ=(step c ρ d op).reads σ:=by
  cases op<;>try rfl
  case call f args take =>
    simp only [step] at hx ⊢
    cases hf : ρ f<;>simp only [hf,Zeq] at hx ⊢
    exact Zkx h hx
theorem Zow {E:Env} {c c':J2} (h:LeC c c') {sl:List (Nat × AV)} {o:LOper} {r r':RS} (hx:opR E c sl o r=some r'):O2 E c' sl o r=O2 E c sl o r:=by
  have key:∀ z,(match (step c (evR E sl r.loc) (R0 o.dst) o.op).run r.st with|some (v,u)=>some (Y7 r o.dst v u)|none=>none)=some z →
      (((step c' (evR E sl r.loc) (R0 o.dst) o.op).reads r.st,(match (step c' (evR E sl r.loc) (R0 o.dst) o.op).run r.st with|some (_,u)=>u.map (fun x=>x.1)|none=>[])):List Site × List Site) =
      ((step c (evR E sl r.loc) (R0 o.dst) o.op).reads r.st,(match (step c (evR E sl r.loc) (R0 o.dst) o.op).run r.st with|some (_,u)=>u.map (fun x=>x.1)|none=>[])):=by
    intro z hz
    cases h1:(step c (evR E sl r.loc) (R0 o.dst) o.op).run r.st with
    | none=>rw [h1] at hz;cases hz
    | some p=>rw [Zje h h1,Zr3 h h1]
  unfold opR at hx
  unfold O2
  cases hg:o.guard with
  | none=>simp only [hg] at hx ⊢;exact key _ hx
  | some p =>
    obtain ⟨g,want⟩:=p
    simp only [hg] at hx ⊢
    cases he:evR E sl r.loc (.t g)<;>simp only [he] at hx ⊢
    rename_i b
    cases hb:(b==want)<;>simp only [hb,cond_true,cond_false] at hx ⊢
    · exact key _ hx
theorem Zes {E:Env} {c c':J2} (h:LeC c c') {sl:List (Nat × AV)}:∀ {os:List LOper} {r r':RS},L9 E c sl os r=some r'→J4 E c' sl os r=J4 E c sl os r:=by
  intro os
  induction os with
  | nil=>intro r r' _;rfl
  | cons o os ih =>
    intro r r' hx
    simp only [L9] at hx
    simp only [J4]
    cases h1:opR E c sl o r with
    | none=>rw [h1] at hx;cases hx
    | some r1=>rw [h1] at hx;rw [Zhu h h1,Zow h h1];exact congrArg _ (ih hx)
theorem Z5 {E:Env} {c c':J2} (h:LeC c c') {st:St} {k:List It} {m:Mv} (hm:m≠.stuck) (hx:move E c st k=m):move E c' st k=m:=by
  cases k with
  | nil=>exact hx
  | cons i k =>
    cases i with
    | blk n=>exact hx
    | lp l x=>exact hx
    | scp x=>exact hx
    | c x =>
      cases x<;>try exact hx
      case reg ops keep =>
        simp only [move] at hx ⊢
        cases h1:L9 E c st.sl ops ⟨[],st.st⟩ with
        | none=>rw [h1] at hx;exact absurd hx.symm hm
        | some r=>rw [h1] at hx;rw [Zfx h h1];exact hx
      case dreg ops pairs keep =>
        simp only [move] at hx ⊢
        cases h1:L9 E c st.sl ops ⟨[],st.st⟩ with
        | none=>rw [h1] at hx;exact absurd hx.symm hm
        | some r=>rw [h1] at hx;rw [Zfx h h1,Zes h h1];exact hx
theorem Zjf (E:Env):∀ n,(∀ fn k st r,X4 E n fn k st=some r→X4 E (n+1) fn k st=some r)∧LeC (acall E n) (acall E (n+1)):=by
  intro n
  induction n with
  | zero=>exact ⟨fun fn k st r h=>by simp [X4] at h,fun f a σ r h=>by simp [acall] at h⟩
  | succ n ih =>
    obtain ⟨ih1,ih2⟩:=ih
    constructor
    · intro fn k st r h
      rw [X4] at h ⊢
      cases hm:move E (acall E n) st k with
      | go k' st'=>rw [hm] at h;rw [Z5 ih2 (by simp) hm];exact ih1 _ _ _ _ h
      | done=>rw [hm] at h;rw [Z5 ih2 (by simp) hm];exact h
      | stuck=>rw [hm] at h;cases h
    · intro f a σ r h
      rw [acall] at h ⊢
      cases hk:E.known f with
      | some g=>rw [hk] at h;exact h
      | none =>
        rw [hk] at h
        cases hf:E.fn f with
        | none=>rw [hf] at h;cases h
        | some fn =>
          rw [hf] at h;simp only [] at h ⊢
          cases hb:(a.length==fn.np)<;>rw [hb] at h<;>simp only [cond_true,cond_false] at h ⊢
          · cases h
          · exact ih1 _ _ _ _ h
theorem Zc2 {E:Env} {n m:Nat} (h:n≤m):LeC (acall E n) (acall E m):=by
  induction h with
  | refl=>exact fun _ _ _ _ h=>h
  | step _ ih=>exact fun f a σ r h=>(Zjf E _).2 f a σ r (ih f a σ r h)
theorem Zky {E:Env} {n m:Nat} (h:n≤m) {fn k st r} (hx:X4 E n fn k st=some r):X4 E m fn k st=some r:=by
  induction h with
  | refl=>exact hx
  | step _ ih=>exact (Zjf E _).1 _ _ _ _ ih
open Classical in
noncomputable def S (E:Env):J2:=fun f a σ=>if h:∃ r,∃ n,acall E n f a σ=some r then some h.choose else none
open Classical in
noncomputable def X (E:Env) (fn:List LRes) (k:List It) (st:St):Option (AV × A3):=if h:∃ r,∃ n,X4 E n fn k st=some r then some h.choose else none
theorem Zbw {E:Env} {f a σ r}:S E f a σ=some r↔∃ n,acall E n f a σ=some r:=by
  unfold S
  constructor
  · intro h
    split at h
    · rename_i hh;cases h;exact hh.choose_spec
    · cases h
  · rintro ⟨n,hn⟩
    have hh:∃ r,∃ n,acall E n f a σ=some r:=⟨r,n,hn⟩
    rw [dif_pos hh]
    obtain ⟨m,hm⟩:=hh.choose_spec
    have h1:=Zc2 (Ydr n m) _ _ _ _ hn
    have h2:=Zc2 (Yds n m) _ _ _ _ hm
    rw [h1] at h2
    exact h2.symm
theorem Zhv {E:Env} {fn k st r}:X E fn k st=some r↔∃ n,X4 E n fn k st=some r:=by
  unfold X
  constructor
  · intro h
    split at h
    · rename_i hh;cases h;exact hh.choose_spec
    · cases h
  · rintro ⟨n,hn⟩
    have hh:∃ r,∃ n,X4 E n fn k st=some r:=⟨r,n,hn⟩
    rw [dif_pos hh]
    obtain ⟨m,hm⟩:=hh.choose_spec
    have h1:=Zky (Ydr n m) hn
    have h2:=Zky (Yds n m) hm
    rw [h1] at h2
    exact h2.symm
theorem S_le (E:Env) (n:Nat):LeC (acall E n) (S E):=fun _ _ _ _ h=>Zbw.2 ⟨n,h⟩
theorem Zxt {E:Env} {ρ:LO→AV} {d:Nat} {op:LOp} {σ:A3} {x:AV × Ups}
    (hx:(step (S E) ρ d op).run σ=some x):∃ n,(step (acall E n) ρ d op).run σ=some x:=by
  cases op<;>try exact ⟨0,hx⟩
  case call f args take =>
    simp only [step] at hx ⊢
    cases hf : ρ f<;>simp only [hf,Zeq] at hx ⊢<;>try exact ⟨0,hx⟩
    rename_i g cap
    unfold Z4 at hx
    rw [Acc.run_bind] at hx
    cases h1:(O6 0 take (args.map ρ++cap)).run σ with
    | none=>rw [h1] at hx;cases hx
    | some p =>
      rw [h1] at hx
      simp only [Ydq] at hx ⊢
      rw [Acc.run_bind] at hx
      cases h2:(X1 64 p.2.1 []).run σ with
      | none=>rw [h2] at hx;cases hx
      | some es =>
        rw [h2] at hx
        simp only [Ydq] at hx
        cases h3:S E g (rens (V2 es) p.1) (K0 es es) with
        | none=>rw [h3] at hx;cases hx
        | some r =>
          rw [h3] at hx
          obtain ⟨n,hn⟩:=Zbw.1 h3
          refine ⟨n,?_⟩
          unfold Z4
          rw [Acc.run_bind,h1]
          simp only [Ydq]
          rw [Acc.run_bind,h2]
          simp only [Ydq]
          rw [hn];exact hx
theorem Z2h {E:Env} {sl:List (Nat × AV)} {o:LOper} {r r':RS} (hx:opR E (S E) sl o r=some r'):∃ n,opR E (acall E n) sl o r=some r':=by
  have key:∀ z,(match (step (S E) (evR E sl r.loc) (R0 o.dst) o.op).run r.st with|some (v,u)=>some (Y7 r o.dst v u)|none=>none)=some z →
      ∃ n,(match (step (acall E n) (evR E sl r.loc) (R0 o.dst) o.op).run r.st with|some (v,u)=>some (Y7 r o.dst v u)|none=>none)=some z:=by
    intro z hz
    cases h1:(step (S E) (evR E sl r.loc) (R0 o.dst) o.op).run r.st with
    | none=>rw [h1] at hz;cases hz
    | some p=>rw [h1] at hz;obtain ⟨n,hn⟩:=Zxt h1;exact ⟨n,by rw [hn];exact hz⟩
  unfold opR at hx ⊢
  cases hg:o.guard with
  | none=>simp only [hg] at hx ⊢;exact key _ hx
  | some p =>
    obtain ⟨g,want⟩:=p
    simp only [hg] at hx ⊢
    cases he:evR E sl r.loc (.t g)<;>simp only [he] at hx ⊢<;>try exact ⟨0,hx⟩
    rename_i b
    cases hb:(b==want)<;>simp only [hb,cond_true,cond_false] at hx ⊢
    · exact ⟨0,hx⟩
    · exact key _ hx
theorem Zjg {E:Env} {sl:List (Nat × AV)}:∀ {os:List LOper} {r r':RS},L9 E (S E) sl os r=some r'→∃ n,L9 E (acall E n) sl os r=some r':=by
  intro os
  induction os with
  | nil=>intro r r' hx;exact ⟨0,hx⟩
  | cons o os ih =>
    intro r r' hx
    simp only [L9] at hx ⊢
    cases h1:opR E (S E) sl o r with
    | none=>rw [h1] at hx;cases hx
    | some r1 =>
      rw [h1] at hx
      obtain ⟨n,hn⟩:=Z2h h1
      obtain ⟨m,hm⟩:=ih hx
      refine ⟨max n m,?_⟩
      rw [Zhu (Zc2 (Ydr n m)) hn]
      exact Zfx (Zc2 (Yds n m)) hm
theorem Zjh {E:Env} {st:St} {k:List It} {m:Mv} (hm:m≠.stuck) (hx:move E (S E) st k=m):∃ n,move E (acall E n) st k=m:=by
  cases k with
  | nil=>exact ⟨0,hx⟩
  | cons i k =>
    cases i with
    | blk n=>exact ⟨0,hx⟩
    | lp l x=>exact ⟨0,hx⟩
    | scp x=>exact ⟨0,hx⟩
    | c x =>
      cases x<;>try exact ⟨0,hx⟩
      case reg ops keep =>
        simp only [move] at hx ⊢
        cases h1:L9 E (S E) st.sl ops ⟨[],st.st⟩ with
        | none=>rw [h1] at hx;exact absurd hx.symm hm
        | some r=>rw [h1] at hx;obtain ⟨n,hn⟩:=Zjg h1;exact ⟨n,by rw [hn];exact hx⟩
      case dreg ops pairs keep =>
        simp only [move] at hx ⊢
        cases h1:L9 E (S E) st.sl ops ⟨[],st.st⟩ with
        | none=>rw [h1] at hx;exact absurd hx.symm hm
        | some r =>
          rw [h1] at hx
          obtain ⟨n,hn⟩:=Zjg h1
          refine ⟨n,?_⟩
          rw [hn,←Zes (S_le E n) hn];exact hx
theorem Zd4 (E:Env) (fn:List LRes) (k:List It) (st:St) :
    X E fn k st=match move E (S E) st k with|.go k' st'=>X E fn k' st'|.done=>Zbc fn st|.stuck=>none:=by
  apply Option.ext
  intro r
  constructor
  · intro h
    obtain ⟨n,hn⟩:=Zhv.1 h
    cases n with
    | zero=>simp [X4] at hn
    | succ n =>
      rw [X4] at hn
      cases hm:move E (acall E n) st k with
      | go k' st'=>rw [hm] at hn;rw [Z5 (S_le E n) (by simp) hm];exact Zhv.2 ⟨n,hn⟩
      | done=>rw [hm] at hn;rw [Z5 (S_le E n) (by simp) hm];exact hn
      | stuck=>rw [hm] at hn;cases hn
  · intro h
    cases hm:move E (S E) st k with
    | go k' st' =>
      rw [hm] at h
      obtain ⟨n,hn⟩:=Zjh (by simp) hm
      obtain ⟨m,hm'⟩:=Zhv.1 h
      refine Zhv.2 ⟨max n m+1,?_⟩
      rw [X4,Z5 (Zc2 (Ydr n m)) (by simp) hn]
      exact Zky (Yds n m) hm'
    | done =>
      rw [hm] at h
      obtain ⟨n,hn⟩:=Zjh (by simp) hm
      exact Zhv.2 ⟨n+1,by rw [X4,hn];exact h⟩
    | stuck=>rw [hm] at h;cases h
theorem S_eq (E:Env) (f:Nat) (args:List AV) (σ:A3) :
    S E f args σ=match E.known f with
      | some h=>h args σ
      | none=>match E.fn f with|some fn=>bif args.length==fn.np then X E fn.results [.c fn.code] ⟨params 0 args,σ⟩ else none|none=>none:=by
  apply Option.ext
  intro r
  constructor
  · intro h
    obtain ⟨n,hn⟩:=Zbw.1 h
    cases n with
    | zero=>simp [acall] at hn
    | succ n =>
      rw [acall] at hn
      cases hk:E.known f with
      | some g=>rw [hk] at hn;exact hn
      | none =>
        rw [hk] at hn
        cases hf:E.fn f with
        | none=>rw [hf] at hn;cases hn
        | some fn =>
          rw [hf] at hn;simp only [] at hn ⊢
          cases hb:(args.length==fn.np)<;>rw [hb] at hn<;>simp only [cond_true,cond_false] at hn ⊢
          · cases hn
          · exact Zhv.2 ⟨n,hn⟩
  · intro h
    cases hk:E.known f with
    | some g=>rw [hk] at h;exact Zbw.2 ⟨1,by rw [acall,hk];exact h⟩
    | none =>
      rw [hk] at h
      cases hf:E.fn f with
      | none=>rw [hf] at h;cases h
      | some fn =>
        rw [hf] at h
        simp only [] at h
        cases hb:(args.length==fn.np) with
        | false=>rw [hb] at h;cases h
        | true =>
          rw [hb] at h
          obtain ⟨n,hn⟩:=Zhv.1 h
          exact Zbw.2 ⟨n+1,by rw [acall,hk,hf];simp only [hb,cond_true];exact hn⟩
theorem S_fn {E:Env} {f:Nat} {fn:LFn} (hk:E.known f=none) (hf:E.fn f=some fn) {args:List AV} {σ:A3} (hn:args.length=fn.np):S E f args σ=X E fn.results [.c fn.code] ⟨params 0 args,σ⟩:=by
  rw [S_eq,hk,hf]
  simp only [hn,beq_self_eq_true,cond_true]
section
variable {E:Env} {fn:List LRes} {k:List It} {st:St}
theorem X_nil:X E fn [] st=Zbc fn st:=by rw [Zd4];rfl
theorem X_blk {n:Nat}:X E fn (.blk n::k) st=X E fn k st:=by rw [Zd4];rfl
theorem X_lp {l:List Nat} {x:LCode}:X E fn (.lp l x::k) st=X E fn (.c x::.lp l x::k) (Zou l st):=by rw [Zd4];rfl
theorem X_skip:X E fn (.c .skip::k) st=X E fn k st:=by rw [Zd4];rfl
theorem X_ret:X E fn (.c .ret::k) st=Zbc fn st:=by rw [Zd4];rfl
theorem X_exit {n:Nat}:X E fn (.c (.exit n)::k) st=match Q0 n k with|some k'=>X E fn k' st|none=>none:=by
  rw [Zd4];simp only [move];cases Q0 n k<;>rfl
theorem X_scp {x:LCode}:X E fn (.scp x::k) st=X E fn k st:=by rw [Zd4];rfl
theorem Z9j {x:LCode}:X E fn (.c (.scope x)::k) st=X E fn (.c x::.scp x::k) st:=by rw [Zd4];rfl
theorem Z9k {n:Nat}:X E fn (.c (.label n)::k) st=X E fn k st:=by rw [Zd4];rfl
theorem X_goto {n:Nat}:X E fn (.c (.goto n)::k) st=match U6 n k with|some k'=>X E fn k' st|none=>none:=by
  rw [Zd4];simp only [move];cases U6 n k<;>rfl
theorem X_seq {a b:LCode}:X E fn (.c (.seq a b)::k) st=X E fn (.c a::.c b::k) st:=by rw [Zd4];rfl
theorem Z9l {n:Nat} {a:LCode}:X E fn (.c (.block n a)::k) st=X E fn (.c a::.blk n::k) st:=by rw [Zd4];rfl
theorem X_loop {l:List Nat} {x:LCode}:X E fn (.c (.loop l x)::k) st=X E fn (.c x::.lp l x::k) (Zou l st):=by rw [Zd4];rfl
theorem X_cond {c:LO} {a b:LCode}:X E fn (.c (.cond c a b)::k) st=match ev E st.sl c with|.bool t=>bif t then X E fn (.c a::k) st else X E fn (.c b::k) st|_=>none:=by
  rw [Zd4];simp only [move]
  cases ev E st.sl c<;>try rfl
  rename_i t;cases t<;>rfl
theorem X_reg {ops:List LOper} {keep:List Nat}:X E fn (.c (.reg ops keep)::k) st =
    match L9 E (S E) st.sl ops ⟨[],st.st⟩ with|some r=>X E fn k ⟨Y8 r.loc st.sl keep st.sl,r.st⟩|none=>none:=by
  rw [Zd4];simp only [move];cases L9 E (S E) st.sl ops ⟨[],st.st⟩<;>rfl
theorem Z2i {ops:List LOper} {pairs:List (Nat × Nat)} {keep:List Nat}:X E fn (.c (.dreg ops pairs keep)::k) st =
    match L9 E (S E) st.sl ops ⟨[],st.st⟩ with
    | some r=>if T9 (J4 E (S E) st.sl ops ⟨[],st.st⟩) pairs=true then X E fn k ⟨Y8 r.loc st.sl keep st.sl,r.st⟩ else none
    | none=>none:=by
  rw [Zd4];simp only [move]
  cases L9 E (S E) st.sl ops ⟨[],st.st⟩ with
  | none=>rfl
  | some r =>
    simp only []
    by_cases h:T9 (J4 E (S E) st.sl ops ⟨[],st.st⟩) pairs=true
    · rw [if_pos h,if_pos h]
    · rw [if_neg h,if_neg h]
end
end Cod
namespace Cod
open Go
abbrev Tab:=Site→Option (Nat × Bool)
structure Lay where
  pos:Site→Option (Nat × Nat)
  F:Nat→Prop
instance:CoeFun Lay (fun _=>Site→Option (Nat × Nat)):=⟨Lay.pos⟩
structure Ctx where
  T:Tab
  L:Site→Option (Nat × Nat)
  O:Nat→Prop
  w:World
def X0 (w:World) (b k:Nat):Prop:=∃ cs el fr,w.heap[b]? = some (.cells cs el fr)∧k≤cs.size
theorem X0.zero {w:World} {b k:Nat} (h:X0 w b k):X0 w b 0:=by
  obtain ⟨cs,el,fr,h1,_⟩:=h
  exact ⟨cs,el,fr,h1,Nat.zero_le _⟩
def K1 (c:Ctx) (s:Site) (off n z:Nat) (y:Value):Prop :=
  match c.L s with
  | some (b,o)=>(n=0∧X0 c.w b 0∧∃ q,y=.slice (some ⟨b,q,none⟩) 0 0)∨∃ cap,y=.slice (some ⟨b,o+off,none⟩) n cap∧n≤cap∧X0 c.w b (o+off+cap*z)
  | none=>y=.slice none 0 0∧off=0∧n=0
def Z2j:Option IntKind→Value→Prop
  | some k,y=>∃ n,y=.int k n
  | none,y=>y=.nilIface∨∃ t v,y=.iface t v
mutual
def VR (c:Ctx):AV→Value→Prop
  | .junk,_=>True
  | .und,y=>y=undef
  | .int k n,y=>y=.int k n
  | .bool b,y=>y=.bool b
  | .str s,y=>y=.string ⟨s.toArray⟩
  | .nilp,y=>y=.pointer none
  | .nils,y=>y=.slice none 0 0
  | .nilf,y=>y=.nilFunc
  | .nili,y=>y=.nilIface
  | .nilm,y=>y=.map none
  | .any k,y=>Z2j k y
  | .agg cs,y=>∃ vs,y=.agg vs∧VRL c cs vs.toList
  | .tup cs,y=>∃ vs,y=.tuple vs∧VRL c cs vs.toList
  | .lst cs n,y=>flats cs=true∧((cs=[]∧n=0∧y=.slice none 0 0)∨(∃ b o cap,y=.slice (some ⟨b,o,none⟩) n cap∧n≤cap∧b<c.w.heap.size∧¬ c.O b∧VRC c b o cs))
  | .fp cs off,y=>flats cs=true∧∃ b o,y=.pointer (some ⟨b,o+off,none⟩)∧b<c.w.heap.size∧¬ c.O b∧VRC c b o cs
  | .ref s g off,y=>y.oneCell'=true∧∃ g0 al,c.T s=some (g0,al)∧g≤g0∧(al=true→g=g0→∃ b o,c.L s=some (b,o)∧y=.pointer (some ⟨b,o+off,none⟩)∧X0 c.w b 0)
  | .buf s g off n z,y=>y.oneCell'=true∧∃ g0 al,c.T s=some (g0,al)∧g≤g0∧(al=true→g=g0→K1 c s off n z y)
  | .clo f cap,y=>∃ vs,y=.func (.func f) #[] vs∧VRL c cap vs.toList
  | .ifc t x,y=>∃ v,y=.iface t v∧VR c x v
  | .it s g,y=>∃ g0 al,c.T s=some (g0,al)∧g≤g0∧(al=true→g=g0→∃ b,c.L s=some (b,0)∧y=.pointer (some ⟨b,0,none⟩))
  | .itr _ _,_=>False
  | .mpr s g,y=>y.oneCell'=true∧∃ g0 al,c.T s=some (g0,al)∧g≤g0∧(al=true→g=g0→∃ b,c.L s=some (b,0)∧y=.map (some b))
  | .mp _ _,_=>False
def VRL (c:Ctx):List AV→List Value→Prop
  | [],vs=>vs=[]
  | a::as,vs=>∃ v r,vs=v::r∧VR c a v∧VRL c as r
def VRC (c:Ctx) (b:Nat):Nat→List AV→Prop
  | _,[]=>True
  | o,a::as=>(∃ v,c.w.cell? ⟨b,o,none⟩=some v∧VR c a v)∧VRC c b (o+1) as
end
structure CLe (c c':Ctx):Prop where
  tab:∀ s g0 al,c.T s=some (g0,al)→∃ g1 al1,c'.T s=some (g1,al1)∧g0≤g1∧(g1=g0→al1=true→al=true∧c'.L s=c.L s)
  own:∀ b,b<c.w.heap.size→c'.O b→c.O b
  block:∀ b,b<c.w.heap.size→¬ c.O b→c'.w.heap[b]? = c.w.heap[b]?
  room:∀ b k,X0 c.w b k→X0 c'.w b k
  size:c.w.heap.size≤c'.w.heap.size
theorem CLe.refl (c:Ctx):CLe c c:=⟨fun s g0 al h=>⟨g0,al,h,Ydt _,fun _ h=>⟨h,rfl⟩⟩,fun _ _ h=>h,fun _ _ _=>rfl,fun _ _ h=>h,Ydt _⟩
theorem CLe.trans {a b c:Ctx} (h:CLe a b) (k:CLe b c):CLe a c where
  tab s g0 al h0:=by
    obtain ⟨g1,al1,h1,l1,e1⟩:=h.tab s g0 al h0
    obtain ⟨g2,al2,h2,l2,e2⟩:=k.tab s g1 al1 h1
    refine ⟨g2,al2,h2,Ydu l1 l2,fun hg ha=>?_⟩
    have hg1:g2=g1:=by omega
    have hg0:g1=g0:=by omega
    obtain ⟨a1,b1⟩:=e2 hg1 ha
    obtain ⟨a2,b2⟩:=e1 hg0 a1
    exact ⟨a2,b1.trans b2⟩
  own x hx ho:=h.own x hx (k.own x (Ydv hx h.size) ho)
  block x hx ho:=by
    rw [k.block x (Ydv hx h.size) (fun hb=>ho (h.own x hx hb)),h.block x hx ho]
  room b k' hr:=k.room b k' (h.room b k' hr)
  size:=Ydu h.size k.size
theorem CLe.cell {c c':Ctx} (h:CLe c c') {b:Nat} (hb:b<c.w.heap.size) (ho:¬ c.O b) (o:Nat):c'.w.cell? ⟨b,o,none⟩=c.w.cell? ⟨b,o,none⟩:=by
  simp only [World.cell?,h.block b hb ho]
theorem Z2k {c c':Ctx} (h:CLe c c') {s:Site} (hl:c'.L s=c.L s) {off n z:Nat} {y:Value} (hb:K1 c s off n z y):K1 c' s off n z y:=by
  unfold K1 at *
  rw [hl]
  split at hb
  · rcases hb with ⟨h1,h2,h3⟩|⟨cap,h1,h2,h3⟩
    · exact .inl ⟨h1,h.room _ _ h2,h3⟩
    · exact .inr ⟨cap,h1,h2,h.room _ _ h3⟩
  · exact hb
mutual
theorem V8 {c c':Ctx} (h:CLe c c'):∀ (x:AV) (v:Value),VR c x v→VR c' x v
  | .junk,_,_=>by simp [VR]
  | .und,_,hv=>by simpa [VR] using hv
  | .int _ _,_,hv=>by simpa [VR] using hv
  | .bool _,_,hv=>by simpa [VR] using hv
  | .str _,_,hv=>by simpa [VR] using hv
  | .nilp,_,hv=>by simpa [VR] using hv
  | .nils,_,hv=>by simpa [VR] using hv
  | .nilf,_,hv=>by simpa [VR] using hv
  | .nili,_,hv=>by simpa [VR] using hv
  | .nilm,_,hv=>by simpa [VR] using hv
  | .any _,_,hv=>by simpa [VR] using hv
  | .agg cs,v,hv=>by
    simp only [VR] at hv ⊢
    obtain ⟨vs,h1,h2⟩:=hv
    exact ⟨vs,h1,VRL_le h cs _ h2⟩
  | .tup cs,v,hv=>by
    simp only [VR] at hv ⊢
    obtain ⟨vs,h1,h2⟩:=hv
    exact ⟨vs,h1,VRL_le h cs _ h2⟩
  | .lst cs n,v,hv=>by
    simp only [VR] at hv ⊢
    obtain ⟨hfl,hv⟩:=hv
    refine ⟨hfl,?_⟩
    rcases hv with hv|⟨b,o,cap,h1,hn,h2,h3,h4⟩
    · exact .inl hv
    · exact .inr ⟨b,o,cap,h1,hn,Ydv h2 h.size,fun ho=>h3 (h.own b h2 ho),VRC_le h b (h.cell h2 h3) o cs h4⟩
  | .fp cs off,v,hv=>by
    simp only [VR] at hv ⊢
    obtain ⟨hfl,b,o,h1,h2,h3,h4⟩:=hv
    exact ⟨hfl,b,o,h1,Ydv h2 h.size,fun ho=>h3 (h.own b h2 ho),VRC_le h b (h.cell h2 h3) o cs h4⟩
  | .ref s g off,v,hv=>by
    simp only [VR] at hv ⊢
    obtain ⟨hone,g0,al,h1,h2,h3⟩:=hv
    obtain ⟨g1,al1,k1,k2,k3⟩:=h.tab s g0 al h1
    refine ⟨hone,g1,al1,k1,Ydu h2 k2,fun ha hg=>?_⟩
    have e:g1=g0:=by omega
    obtain ⟨a1,a2⟩:=k3 e ha
    obtain ⟨b,o,e1,e2,e3⟩:=h3 a1 (by omega)
    exact ⟨b,o,a2.trans e1,e2,h.room _ _ e3⟩
  | .buf s g off n z,v,hv=>by
    simp only [VR] at hv ⊢
    obtain ⟨hone,g0,al,h1,h2,h3⟩:=hv
    obtain ⟨g1,al1,k1,k2,k3⟩:=h.tab s g0 al h1
    refine ⟨hone,g1,al1,k1,Ydu h2 k2,fun ha hg=>?_⟩
    have e:g1=g0:=by omega
    obtain ⟨a1,a2⟩:=k3 e ha
    exact Z2k h a2 (h3 a1 (by omega))
  | .clo f cap,v,hv=>by
    simp only [VR] at hv ⊢
    obtain ⟨vs,h1,h2⟩:=hv
    exact ⟨vs,h1,VRL_le h cap _ h2⟩
  | .ifc t x,v,hv=>by
    simp only [VR] at hv ⊢
    obtain ⟨u,h1,h2⟩:=hv
    exact ⟨u,h1,V8 h x u h2⟩
  | .it s g,v,hv=>by
    simp only [VR] at hv ⊢
    obtain ⟨g0,al,h1,h2,h3⟩:=hv
    obtain ⟨g1,al1,k1,k2,k3⟩:=h.tab s g0 al h1
    refine ⟨g1,al1,k1,Ydu h2 k2,fun ha hg=>?_⟩
    have e:g1=g0:=by omega
    obtain ⟨a1,a2⟩:=k3 e ha
    obtain ⟨b,e1,e2⟩:=h3 a1 (by omega)
    exact ⟨b,a2.trans e1,e2⟩
  | .itr _ _,_,hv=>by simp [VR] at hv
  | .mpr s g,v,hv=>by
    simp only [VR] at hv ⊢
    obtain ⟨h0,g0,al,h1,h2,h3⟩:=hv
    obtain ⟨g1,al1,k1,k2,k3⟩:=h.tab s g0 al h1
    refine ⟨h0,g1,al1,k1,Ydu h2 k2,fun ha hg=>?_⟩
    have e:g1=g0:=by omega
    obtain ⟨a1,a2⟩:=k3 e ha
    obtain ⟨b,e1,e2⟩:=h3 a1 (by omega)
    exact ⟨b,a2.trans e1,e2⟩
  | .mp _ _,_,hv=>by simp [VR] at hv
theorem VRL_le {c c':Ctx} (h:CLe c c'):∀ (xs:List AV) (vs:List Value),VRL c xs vs→VRL c' xs vs
  | [],_,hv=>by simpa [VRL] using hv
  | a::as,vs,hv=>by
    simp only [VRL] at hv ⊢
    obtain ⟨v,r,h1,h2,h3⟩:=hv
    exact ⟨v,r,h1,V8 h a v h2,VRL_le h as r h3⟩
theorem VRC_le {c c':Ctx} (h:CLe c c') (b:Nat) (hc:∀ o,c'.w.cell? ⟨b,o,none⟩=c.w.cell? ⟨b,o,none⟩):∀ (o:Nat) (xs:List AV),VRC c b o xs→VRC c' b o xs
  | _,[],_=>by simp [VRC]
  | o,a::as,hv=>by
    simp only [VRC] at hv ⊢
    obtain ⟨⟨v,h1,h2⟩,h3⟩:=hv
    exact ⟨⟨v,(hc o).trans h1,V8 h a v h2⟩,VRC_le h b hc (o+1) as h3⟩
end
theorem Zet:∀ {xs ys:List AV},flats (xs++ys)=(flats xs&&flats ys):=by
  intro xs
  induction xs with
  | nil=>intro ys;simp [flats]
  | cons x xs ih=>intro ys;simp only [Ydw,flats,ih,Bool.and_assoc]
theorem Zji:∀ {xs:List AV},flats xs=true↔∀ x∈xs,J6 x=true:=by
  intro xs
  induction xs with
  | nil=>simp [flats]
  | cons x xs ih=>simp [flats,ih]
theorem Zfy {xs:List AV} (h:flats xs=true) (o n:Nat):flats (sub xs o n)=true :=
  Zji.2 fun x hx=>Zji.1 h x (List.mem_of_mem_drop (List.mem_of_mem_take hx))
theorem G4 {c:Ctx}:∀ {xs:List AV} {vs:List Value},VRL c xs vs→vs.length=xs.length:=by
  intro xs
  induction xs with
  | nil=>intro vs h;simp only [VRL] at h;subst h;rfl
  | cons a as ih=>intro vs h;simp only [VRL] at h;obtain ⟨v,r,rfl,_,h3⟩:=h;simp [ih h3]
theorem Zav {c:Ctx}:∀ {xs:List AV} {vs:List Value},VRL c xs vs→∀ {i:Nat} {x:AV},xs[i]? = some x→∃ v,vs[i]? = some v∧VR c x v:=by
  intro xs
  induction xs with
  | nil=>intro vs _ i x hx;simp at hx
  | cons a as ih =>
    intro vs h i x hx
    simp only [VRL] at h
    obtain ⟨v,r,rfl,h2,h3⟩:=h
    cases i with
    | zero=>simp only [List.getElem?_cons_zero,Option.some.injEq] at hx;subst hx;exact ⟨v,rfl,h2⟩
    | succ i=>exact ih h3 (by simpa using hx)
theorem S4 {c:Ctx} {xs ys:List AV} {vs us:List Value} (h:VRL c xs vs) (k:VRL c ys us):VRL c (xs++ys) (vs++us):=by
  induction xs generalizing vs with
  | nil=>simp only [VRL] at h;subst h;exact k
  | cons a as ih=>simp only [VRL] at h;obtain ⟨v,r,rfl,h2,h3⟩:=h;simp only [Ydw,VRL];exact ⟨v,r++us,rfl,h2,ih h3⟩
theorem Zhw {c:Ctx} {xs:List AV} {vs:List Value} (h:VRL c xs vs) (n:Nat):VRL c (xs.take n) (vs.take n):=by
  induction xs generalizing vs n with
  | nil=>simp only [VRL] at h;subst h;simp [VRL]
  | cons a as ih =>
    simp only [VRL] at h;obtain ⟨v,r,rfl,h2,h3⟩:=h
    cases n with
    | zero=>simp [VRL]
    | succ n=>simp only [List.take_succ_cons,VRL];exact ⟨v,_,rfl,h2,ih h3 n⟩
theorem Zox {c:Ctx} {xs:List AV} {vs:List Value} (h:VRL c xs vs) (n:Nat):VRL c (xs.drop n) (vs.drop n):=by
  induction xs generalizing vs n with
  | nil=>simp only [VRL] at h;subst h;simp [VRL]
  | cons a as ih =>
    simp only [VRL] at h;obtain ⟨v,r,rfl,h2,h3⟩:=h
    cases n with
    | zero=>simp only [List.drop_zero,VRL];exact ⟨v,r,rfl,h2,h3⟩
    | succ n=>simp only [List.drop_succ_cons];exact ih h3 n
theorem Z9m {c:Ctx} {xs:List AV} {vs:List Value} (h:VRL c xs vs) (o n:Nat):VRL c (sub xs o n) (sub vs o n):=Zhw (Zox h o) n
theorem Zbl {c:Ctx} {x:AV} {v:Value} (h:VR c x v):VRL c [x] [v]:=by simp only [VRL];exact ⟨v,[],rfl,h,rfl⟩
theorem Zbm {c:Ctx} {b:Nat}:∀ {o:Nat} {xs:List AV},VRC c b o xs→∀ {i:Nat} {x:AV},xs[i]? = some x→∃ v,c.w.cell? ⟨b,o+i,none⟩=some v∧VR c x v:=by
  intro o xs
  induction xs generalizing o with
  | nil=>intro _ i x hx;simp at hx
  | cons a as ih =>
    intro h i x hx
    simp only [VRC] at h
    obtain ⟨⟨v,h1,h2⟩,h3⟩:=h
    cases i with
    | zero=>simp only [List.getElem?_cons_zero,Option.some.injEq] at hx;subst hx;exact ⟨v,by simpa using h1,h2⟩
    | succ i =>
      obtain ⟨u,h4,h5⟩:=ih h3 (i:=i) (by simpa using hx)
      exact ⟨u,by rw [show o+(i+1)=o+1+i by omega];exact h4,h5⟩
theorem S5 {c:Ctx} {b:Nat}:∀ {o:Nat} {xs:List AV},(∀ i x,xs[i]? = some x→∃ v,c.w.cell? ⟨b,o+i,none⟩=some v∧VR c x v)→VRC c b o xs:=by
  intro o xs
  induction xs generalizing o with
  | nil=>intro _;simp [VRC]
  | cons a as ih =>
    intro h
    simp only [VRC]
    refine ⟨by simpa using h 0 a (by simp),ih fun i x hx=>?_⟩
    obtain ⟨v,h1,h2⟩:=h (i+1) x (by simpa using hx)
    exact ⟨v,by rw [show o+1+i=o+(i+1) by omega];exact h1,h2⟩
theorem Zbn {c:Ctx} {b o:Nat} {xs:List AV} (h:VRC c b o xs) (k n:Nat):VRC c b (o+k) (sub xs k n):=by
  refine S5 fun i x hx=>?_
  have h1:xs[k+i]? = some x:=by
    unfold sub at hx
    rw [List.getElem?_take] at hx
    split at hx
    · rw [List.getElem?_drop] at hx;exact hx
    · cases hx
  obtain ⟨v,h2,h3⟩:=Zbm h h1
  exact ⟨v,by rw [show o+k+i=o+(k+i) by omega];exact h2,h3⟩
theorem Zc3 {c:Ctx} {b:Nat}:∀ {o:Nat} {xs:List AV},VRC c b o xs→∃ vs:List Value,VRL c xs vs∧∀ i v,vs[i]? = some v→c.w.cell? ⟨b,o+i,none⟩=some v:=by
  intro o xs
  induction xs generalizing o with
  | nil=>intro _;exact ⟨[],by simp [VRL],by simp⟩
  | cons a as ih =>
    intro h
    simp only [VRC] at h
    obtain ⟨⟨v,h1,h2⟩,h3⟩:=h
    obtain ⟨vs,h4,h5⟩:=ih h3
    refine ⟨v::vs,by simp only [VRL];exact ⟨v,vs,rfl,h2,h4⟩,fun i u hu=>?_⟩
    cases i with
    | zero=>simp only [List.getElem?_cons_zero,Option.some.injEq] at hu;subst hu;simpa using h1
    | succ i=>rw [show o+(i+1)=o+1+i by omega];exact h5 i u (by simpa using hu)
def Zoy (σ:A3):Tab:=fun s=>(A6 σ s).map fun e=>(e.g,e.alive)
def G7 (σ:A3) (L:Lay):Nat→Prop:=fun b=>∃ s e o,A6 σ s=some e∧e.alive=true∧e.rw=true∧L s=some (b,o)
def inS (σ:A3) (L:Lay):Nat→Prop:=fun b=>∃ s e o,A6 σ s=some e∧e.alive=true∧L s=some (b,o)
def ctx (σ:A3) (L:Lay) (w:World):Ctx:=⟨Zoy σ,L.pos,fun b=>G7 σ L b∨L.F b,w⟩
def Zcx (w:World) (b n:Nat):Prop:=∃ cs el fr,w.heap[b]? = some (.cells cs el fr)∧n≤cs.size∧(fr.1=fr.2∨cs.size≤fr.1)
def V9 (c:Ctx) (b:Nat) (e:Ent):Prop :=
  (∃ s p,e.cells=[.itr s p]∧c.w.heap[b]? = some (.stringIter ⟨s.toArray⟩ p)) ∨
  ∃ ks vs es clock,e.cells=[.mp ks vs]∧N7 ks=true∧N7 vs=true∧c.w.heap[b]? = some (.map es clock)∧VRL c ks (es.toList.map (·.key))∧VRL c vs (es.toList.map (·.val))
def S1 (c:Ctx) (s:Site) (e:Ent):Prop :=
  match c.L s with
  | none=>e.cells=[]∧e.var=false
  | some (b,o)=>(Zcx c.w b (o+e.cells.length)∧VRC c b o e.cells)∨(o=0∧V9 c b e)
structure StoreOK (σ:A3) (L:Lay) (w:World):Prop where
  ent:∀ s e,A6 σ s=some e→e.alive=true→S1 (ctx σ L w) s e
  apart:∀ s s' e e' b o o',A6 σ s=some e→e.alive=true→A6 σ s'=some e'→e'.alive=true→L s=some (b,o)→L s'=some (b,o')→s=s'
structure Keep (O:Nat→Prop) (w w':World):Prop where
  os:w'.os=w.os
  tape:w'.tape=w.tape
  output:w'.output=w.output
  size:w.heap.size≤w'.heap.size
  block:∀ b,b<w.heap.size→¬ O b→w'.heap[b]? = w.heap[b]?
  room:∀ b k,X0 w b k→X0 w' b k
theorem Keep.refl (O:Nat→Prop) (w:World):Keep O w w:=⟨rfl,rfl,rfl,Ydt _,fun _ _ _=>rfl,fun _ _ h=>h⟩
theorem Keep.trans {O O':Nat→Prop} {a b c:World} (h:Keep O a b) (k:Keep O' b c) (ho:∀ x,x<a.heap.size→O' x→O x):Keep O a c :=
  ⟨k.os.trans h.os,k.tape.trans h.tape,k.output.trans h.output,Ydu h.size k.size,
   fun x hx hn=>by rw [k.block x (Ydv hx h.size) (fun q=>hn (ho x hx q)),h.block x hx hn],fun b n hr=>k.room b n (h.room b n hr)⟩
theorem Keep.mono {O O':Nat→Prop} {a b:World} (h:Keep O a b) (ho:∀ x,O x→O' x):Keep O' a b :=
  ⟨h.os,h.tape,h.output,h.size,fun x hx hn=>h.block x hx (fun q=>hn (ho x q)),h.room⟩
end Cod
namespace Cod
open Go
theorem Zjj (σ:A3) (s:Site) (e:Ent) (t:Site):A6 (G3 σ s e) t=if s=t then some e else A6 σ t:=by
  induction σ with
  | nil=>simp [G3,A6]
  | cons p σ ih =>
    obtain ⟨u,f⟩:=p
    simp only [G3]
    by_cases hu:u=s
    · subst hu
      simp only [if_pos,A6]
      by_cases ht:u=t
      · simp [ht]
      · simp [ht]
    · simp only [if_neg hu,A6,ih]
      by_cases ht:u=t
      · subst ht;simp [Ne.symm hu]
      · simp [ht]
theorem C0 (σ:A3) (s:Site) (e:Ent):A6 (G3 σ s e) s=some e:=by simp [Zjj]
theorem C7 (σ:A3) {s t:Site} (e:Ent) (h:s≠t):A6 (G3 σ s e) t=A6 σ t:=by simp [Zjj,h]
def F6 (L:Lay) (s:Site) (x:Option (Nat × Nat)):Lay:=⟨fun t=>if s=t then x else L t,L.F⟩
theorem F9 (L:Lay) (s:Site) (x:Option (Nat × Nat)):F6 L s x s=x:=by simp [F6]
theorem M0 (L:Lay) {s t:Site} (x:Option (Nat × Nat)) (h:s≠t):F6 L s x t=L t:=by simp [F6,h]
theorem Zc4 (L:Lay) (s:Site):F6 L s (L s)=L:=by
  cases L with|mk p F =>
  simp only [F6,Lay.mk.injEq,and_true]
  funext t;split
  · rename_i h;rw [h]
  · rfl
def GV (c:Ctx) (n:Nat) (l:List AV):Prop:=VR c (Zd9 l) (.pointer (some ⟨n,0,none⟩))∧(l=[]∨∃ cs el fr,c.w.heap[n]? = some (.cells cs el fr)∧cs.size=l.length)
theorem Zoz {c c':Ctx} (h:CLe c c') {n:Nat} {l:List AV} (hv:GV c n l):GV c' n l:=by
  refine ⟨V8 h _ _ hv.1,?_⟩
  rcases hv.2 with h0|⟨cs,el,fr,h1,h2⟩
  · exact .inl h0
  · cases l with
    | nil=>exact .inl rfl
    | cons x xs =>
      have hv1:=hv.1
      simp only [Zd9,VR] at hv1
      obtain ⟨_,b,o,h3,h4,h5,_⟩:=hv1
      simp only [Value.pointer.injEq,Option.some.injEq,Addr.mk.injEq] at h3
      obtain ⟨rfl,_,_⟩:=h3
      exact .inr ⟨cs,el,fr,(h.block _ h4 h5).trans h1,h2⟩
structure Rel (E:Env) (w0:World) (O0:Nat→Prop) (σ0:A3) (L0:Lay) (σ:A3) (L:Lay) (w:World):Prop where
  store:StoreOK σ L w
  keep:Keep O0 w0 w
  own:∀ b,G7 σ L b→O0 b∨w0.heap.size≤b
  glob:∀ n,GV (ctx σ L w) n (E.glob n)
  ups:∀ x e,A6 σ (.up x)=some e→e.alive=true→∃ e0,A6 σ0 (.up x)=some e0∧e0.alive=true∧e0.g=e.g∧L (.up x)=L0 (.up x)
  src:∀ b,inS σ L b→inS σ0 L0 b∨w0.heap.size≤b
  lf:L.F=L0.F
  f0:∀ b,L0.F b→b<w0.heap.size∧¬ inS σ0 L0 b
theorem Zcx.lt {w:World} {b n:Nat} (h:Zcx w b n):b<w.heap.size:=by
  obtain ⟨cs,el,fr,h1,_⟩:=h
  rcases Ydx b w.heap.size with h'|h'
  · exact h'
  · simp [Array.getElem?_eq_none h'] at h1
theorem Zcx.room {w:World} {b n:Nat} (h:Zcx w b n):X0 w b 0:=by
  obtain ⟨cs,el,fr,h1,_⟩:=h
  exact ⟨cs,el,fr,h1,Nat.zero_le _⟩
theorem StoreOK.lies {σ:A3} {L:Lay} {w:World} (h:StoreOK σ L w) {s:Site} {e:Ent} (he:A6 σ s=some e) (ha:e.alive=true) {b o:Nat} (hl:L s=some (b,o)) :
    (Zcx w b (o+e.cells.length)∧VRC (ctx σ L w) b o e.cells)∨(o=0∧V9 (ctx σ L w) b e):=by
  have:=h.ent s e he ha
  unfold S1 at this
  rw [show (ctx σ L w).L s=some (b,o) from hl] at this
  exact this
theorem V9.lt {c:Ctx} {b:Nat} {e:Ent} (h:V9 c b e):b<c.w.heap.size:=by
  rcases Ydx b c.w.heap.size with h'|h'
  · exact h'
  · rcases h with ⟨s,p,_,h1⟩|⟨ks,vs,es,cl,_,_,_,h1,_⟩<;>simp [Array.getElem?_eq_none h'] at h1
theorem V9.noRoom {c:Ctx} {b k:Nat} {e:Ent} (h:V9 c b e) (hr:X0 c.w b k):False:=by
  obtain ⟨cs,el,fr,h2,_⟩:=hr
  rcases h with ⟨s,p,_,h1⟩|⟨ks,vs,es,cl,_,_,_,h1,_⟩<;>(rw [h1] at h2;cases h2)
theorem V9.to {c c':Ctx} {b:Nat} {e:Ent} (h:V9 c b e) (hc:CLe c c') (hb:c'.w.heap[b]? = c.w.heap[b]?):V9 c' b e:=by
  rcases h with ⟨s,p,h0,h1⟩|⟨ks,vs,es,cl,h0,hk,hv,h1,h2,h3⟩
  · exact .inl ⟨s,p,h0,hb.trans h1⟩
  · exact .inr ⟨ks,vs,es,cl,h0,hk,hv,hb.trans h1,VRL_le hc _ _ h2,VRL_le hc _ _ h3⟩
theorem V9.cells {c:Ctx} {b:Nat} {e e':Ent} (h:V9 c b e) (he:e'.cells=e.cells):V9 c b e':=by
  rcases h with ⟨s,p,h0,h1⟩|⟨ks,vs,es,cl,h0,h1⟩
  · exact .inl ⟨s,p,he.trans h0,h1⟩
  · exact .inr ⟨ks,vs,es,cl,he.trans h0,h1⟩
theorem V9.one {c:Ctx} {b:Nat} {e:Ent} (h:V9 c b e):N3 e.cells=false:=by
  rcases h with ⟨s,p,h0,h1⟩|⟨ks,vs,es,cl,h0,h1⟩<;>simp [h0,N3,P9]
theorem StoreOK.free {σ:A3} {L:Lay} {w:World} (h:StoreOK σ L w) {s:Site} {e:Ent} (he:A6 σ s=some e) (ha:e.alive=true) {b o:Nat} (hl:L s=some (b,o)) (hr:X0 w b 0) :
    Zcx w b (o+e.cells.length)∧VRC (ctx σ L w) b o e.cells:=by
  rcases h.lies he ha hl with h1|⟨_,h1⟩
  · exact h1
  · exact (h1.noRoom hr).elim
theorem StoreOK.lt {σ:A3} {L:Lay} {w:World} (h:StoreOK σ L w) {s:Site} {e:Ent} (he:A6 σ s=some e) (ha:e.alive=true) {b o:Nat} (hl:L s=some (b,o)):b<w.heap.size:=by
  rcases h.lies he ha hl with ⟨h1,_⟩|⟨_,h1⟩
  · exact h1.lt
  · exact h1.lt
theorem StoreOK.own_lt {σ:A3} {L:Lay} {w:World} (h:StoreOK σ L w) {b:Nat} (hb:G7 σ L b):b<w.heap.size:=by
  obtain ⟨s,e,o,he,ha,_,hl⟩:=hb
  exact h.lt he ha hl
variable {E:Env} {w0:World} {O0:Nat→Prop} {σ0:A3} {L0:Lay} {σ:A3} {L:Lay} {w:World}
theorem Rel.step (h:Rel E w0 O0 σ0 L0 σ L w) {σ':A3} {L':Lay} {w':World} (hs:StoreOK σ' L' w') (hc:CLe (ctx σ L w) (ctx σ' L' w')) (hk:Keep (G7 σ L) w w')
    (ho:∀ b,G7 σ' L' b→G7 σ L b∨w.heap.size≤b)
    (hu:∀ x e,A6 σ' (.up x)=some e→e.alive=true→∃ e0,A6 σ (.up x)=some e0∧e0.alive=true∧e0.g=e.g∧L' (.up x)=L (.up x))
    (hsrc:∀ b,inS σ' L' b→inS σ L b∨w.heap.size≤b) (hF:L'.F=L.F):Rel E w0 O0 σ0 L0 σ' L' w' where
  store:=hs
  keep:=h.keep.trans hk fun x hx hox=>(h.own x hox).resolve_right (by omega)
  own b hb:=by
    rcases ho b hb with h1|h1
    · exact h.own b h1
    · exact .inr (Ydu h.keep.size h1)
  glob n:=Zoz hc (h.glob n)
  ups x e he ha:=by
    obtain ⟨e1,h1,h2,h3,h4⟩:=hu x e he ha
    obtain ⟨e0,k1,k2,k3,k4⟩:=h.ups x e1 h1 h2
    exact ⟨e0,k1,k2,k3.trans h3,h4.trans k4⟩
  src b hb:=by
    rcases hsrc b hb with h1|h1
    · exact h.src b h1
    · exact .inr (Ydu h.keep.size h1)
  lf:=hF.trans h.lf
  f0:=h.f0
theorem Zwd {c0:Ctx} (hL0:c0.L=L) (hw0:c0.w=w) {s:Site} (hent:∀ t e,t≠s→A6 σ t=some e→e.alive=true→S1 c0 t e)
    (hap:∀ t t' e e' b o o',t≠s→t'≠s→A6 σ t=some e→e.alive=true→A6 σ t'=some e'→e'.alive=true→L t=some (b,o)→L t'=some (b,o')→t=t')
    {e':Ent} {x:Option (Nat × Nat)} {w':World} (hc:CLe c0 (ctx (G3 σ s e') (F6 L s x) w'))
    (hb:∀ t e b o,t≠s→A6 σ t=some e→e.alive=true→L t=some (b,o)→w'.heap[b]? = w.heap[b]?)
    (he:e'.alive=true→S1 (ctx (G3 σ s e') (F6 L s x) w') s e')
    (hd:∀ b o,e'.alive=true→x=some (b,o)→∀ t e o',t≠s→A6 σ t=some e→e.alive=true→L t=some (b,o')→False):StoreOK (G3 σ s e') (F6 L s x) w' where
  ent t e ht ha:=by
    by_cases hst:s=t
    · subst hst
      rw [C0] at ht
      cases ht
      exact he ha
    · rw [C7 _ _ hst] at ht
      have h1:=hent t e (Ne.symm hst) ht ha
      unfold S1 at h1 ⊢
      have hl:(ctx (G3 σ s e') (F6 L s x) w').L t=c0.L t:=by rw [hL0];exact M0 L x hst
      rw [hl]
      cases hL:c0.L t with
      | none=>rw [hL] at h1;exact h1
      | some p =>
        obtain ⟨b,o⟩:=p
        rw [hL] at h1
        simp only [] at h1 ⊢
        have hbb:=hb t e b o (Ne.symm hst) ht ha (hL0▸hL)
        rcases h1.symm with ⟨h2,h3⟩|⟨h2,h3⟩
        · exact .inr ⟨h2,h3.to hc (by show w'.heap[b]? = _;rw [hbb,hw0])⟩
        refine .inl ⟨?_,VRC_le hc b (fun o=>by simp only [World.cell?];rw [show (ctx (G3 σ s e') (F6 L s x) w').w=w' from rfl,hbb,hw0]) o _ h3⟩
        obtain ⟨cs,el,fr,f1,f2,f3⟩:=h2
        rw [hw0] at f1
        exact ⟨cs,el,fr,hbb.trans f1,f2,f3⟩
  apart t t' e1 e2 b o o' h1 a1 h2 a2 l1 l2:=by
    by_cases hst:s=t
    · subst hst
      by_cases hst':s=t'
      · exact hst'
      · rw [C0] at h1
        cases h1
        rw [C7 _ _ hst'] at h2
        rw [F9] at l1
        rw [M0 _ _ hst'] at l2
        exact (hd b o a1 l1 t' e2 o' (Ne.symm hst') h2 a2 l2).elim
    · rw [C7 _ _ hst] at h1
      rw [M0 _ _ hst] at l1
      by_cases hst':s=t'
      · subst hst'
        rw [C0] at h2
        cases h2
        rw [F9] at l2
        exact (hd b o' a2 l2 t e1 o (Ne.symm hst) h1 a1 l1).elim
      · rw [C7 _ _ hst'] at h2
        rw [M0 _ _ hst'] at l2
        exact hap t t' e1 e2 b o o' (Ne.symm hst) (Ne.symm hst') h1 a1 h2 a2 l1 l2
theorem Zfz (h:StoreOK σ L w) {s:Site} {e':Ent} {x:Option (Nat × Nat)} {w':World} (hc:CLe (ctx σ L w) (ctx (G3 σ s e') (F6 L s x) w'))
    (hb:∀ t e b o,t≠s→A6 σ t=some e→e.alive=true→L t=some (b,o)→w'.heap[b]? = w.heap[b]?)
    (he:e'.alive=true→S1 (ctx (G3 σ s e') (F6 L s x) w') s e')
    (hd:∀ b o,e'.alive=true→x=some (b,o)→∀ t e o',t≠s→A6 σ t=some e→e.alive=true→L t=some (b,o')→False):StoreOK (G3 σ s e') (F6 L s x) w' :=
  Zwd (c0:=ctx σ L w) rfl rfl (fun t e _ h1 h2=>h.ent t e h1 h2) (fun t t' e e' b o o' _ _=>h.apart t t' e e' b o o') hc hb he hd
theorem Zf0 {s:Site} {e':Ent} {x:Option (Nat × Nat)} {w':World}
    (hg:∀ e,A6 σ s=some e→e.g<e'.g∨(e.g=e'.g∧(e'.alive=true→e.alive=true∧x=L s)))
    (ho:∀ b,b<w.heap.size→G7 (G3 σ s e') (F6 L s x) b→G7 σ L b)
    (hk:Keep (G7 σ L) w w'):CLe (ctx σ L w) (ctx (G3 σ s e') (F6 L s x) w') where
  tab t g0 al ht:=by
    have ht':(A6 σ t).map (fun e=>(e.g,e.alive))=some (g0,al):=ht
    cases hge:A6 σ t with
    | none=>rw [hge] at ht';cases ht'
    | some e =>
      rw [hge] at ht'
      simp only [Ydy,Option.some.injEq,Prod.mk.injEq] at ht'
      obtain ⟨rfl,rfl⟩:=ht'
      by_cases hst:s=t
      · subst hst
        refine ⟨e'.g,e'.alive,by show (A6 (G3 σ s e') s).map _=_;rw [C0];rfl,?_,?_⟩
        · rcases hg e hge with h1|⟨h1,_⟩<;>omega
        · intro h1 h2
          rcases hg e hge with h3|⟨_,h4⟩
          · omega
          · obtain ⟨h5,h6⟩:=h4 h2
            exact ⟨h5,by show F6 L s x s=L s;rw [F9,h6]⟩
      · exact ⟨e.g,e.alive,by show (A6 (G3 σ s e') t).map _=_;rw [C7 _ _ hst,hge];rfl,Ydt _,fun _ h2=>⟨h2,M0 L x hst⟩⟩
  own b hb h:=h.elim (fun h=>.inl (ho b hb h)) .inr
  block b hb hn:=hk.block b hb (fun h=>hn (.inl h))
  room:=hk.room
  size:=hk.size
theorem Zdt {s:Site} {e':Ent} {x:Option (Nat × Nat)} {b:Nat} (h:G7 (G3 σ s e') (F6 L s x) b) :
    G7 σ L b∨(e'.alive=true∧e'.rw=true∧∃ o,x=some (b,o)):=by
  obtain ⟨t,e,o,he,ha,hr,hl⟩:=h
  by_cases hst:s=t
  · subst hst
    rw [C0] at he
    cases he
    rw [F9] at hl
    exact .inr ⟨ha,hr,o,hl⟩
  · rw [C7 _ _ hst] at he
    rw [M0 _ _ hst] at hl
    exact .inl ⟨t,e,o,he,ha,hr,hl⟩
theorem Zf1 {s:Site} {e':Ent} {x:Option (Nat × Nat)} {b:Nat} (h:inS (G3 σ s e') (F6 L s x) b) :
    inS σ L b∨(e'.alive=true∧∃ o,x=some (b,o)):=by
  obtain ⟨t,e,o,he,ha,hl⟩:=h
  by_cases hst:s=t
  · subst hst
    rw [C0] at he
    cases he
    rw [F9] at hl
    exact .inr ⟨ha,o,hl⟩
  · rw [C7 _ _ hst] at he
    rw [M0 _ _ hst] at hl
    exact .inl ⟨t,e,o,he,ha,hl⟩
theorem in_own {b:Nat} (h:G7 σ L b):inS σ L b:=by
  obtain ⟨s,e,o,he,ha,_,hl⟩:=h
  exact ⟨s,e,o,he,ha,hl⟩
theorem Rel.notF (h:Rel E w0 O0 σ0 L0 σ L w) {b:Nat} (hb:inS σ L b):¬ L.F b:=by
  intro hf
  rw [h.lf] at hf
  obtain ⟨h1,h2⟩:=h.f0 b hf
  rcases h.src b hb with h3|h3
  · exact h2 h3
  · omega
theorem Keep.alloc (O:Nat→Prop) (w:World) (o:Obj):Keep O w (w.alloc o) :=
  ⟨rfl,rfl,rfl,by simp,fun b hb _=>by simp only [World.alloc,Array.getElem?_push];rw [if_neg (by omega)],
   fun b k ⟨cs,el,fr,h1,h2⟩=>⟨cs,el,fr,by
      have hb:b<w.heap.size:=by
        rcases Ydx b w.heap.size with h'|h'
        · exact h'
        · simp [Array.getElem?_eq_none h'] at h1
      simp only [World.alloc,Array.getElem?_push];rw [if_neg (by omega)];exact h1,h2⟩⟩
theorem Keep.drewN (O:Nat→Prop) (w:World) (n:Nat):Keep O w { w with drawn:=n }:=⟨rfl,rfl,rfl,Ydt _,fun _ _ _=>rfl,fun _ _ h=>h⟩
theorem Rel.drawn (h:Rel E w0 O0 σ0 L0 σ L w) (n:Nat):Rel E w0 O0 σ0 L0 σ L { w with drawn:=n }∧CLe (ctx σ L w) (ctx σ L { w with drawn:=n }):=by
  have hc:CLe (ctx σ L w) (ctx σ L { w with drawn:=n }):=⟨fun s g0 al h=>⟨g0,al,h,Ydt _,fun _ h=>⟨h,rfl⟩⟩,fun _ _ h=>h,fun _ _ _=>rfl,fun _ _ h=>h,Ydt _⟩
  refine ⟨h.step ⟨fun s e he ha=>?_,h.store.apart⟩ hc (Keep.drewN _ _ _) (fun b hb=>.inl hb) (fun x e he ha=>⟨e,he,ha,rfl,rfl⟩) (fun b hb=>.inl hb) rfl,hc⟩
  have:=h.store.ent s e he ha
  unfold S1 at this ⊢
  cases hl:(ctx σ L w).L s with
  | none=>rw [hl] at this;rw [show (ctx σ L { w with drawn:=n }).L s=none from hl];exact this
  | some p =>
    rw [hl] at this
    rw [show (ctx σ L { w with drawn:=n }).L s=some p from hl]
    rcases this with h1|⟨h1,h2⟩
    · exact .inl ⟨h1.1,VRC_le hc _ (fun _=>rfl) _ _ h1.2⟩
    · exact .inr ⟨h1,h2.to hc rfl⟩
theorem Rel.new (h:Rel E w0 O0 σ0 L0 σ L w) {d k:Nat} {g:Nat} (hg:∀ e,A6 σ (.s d k)=some e→e.g<g) (var:Bool) {cells:List AV} {vs:List Value} (hv:VRL (ctx σ L w) cells vs)
    (row:Array Value) (hrow:∀ (i:Nat) (v:Value),vs[i]? = some v→row[i]? = some v) (el:TypeId) (fr:Nat × Nat) (hfr:fr.1=fr.2∨row.size≤fr.1) :
    Rel E w0 O0 σ0 L0 (G3 σ (.s d k) ⟨g,true,true,var,cells⟩) (F6 L (.s d k) (some (w.heap.size,0))) (w.alloc (.cells row el fr)) ∧
    CLe (ctx σ L w) (ctx (G3 σ (.s d k) ⟨g,true,true,var,cells⟩) (F6 L (.s d k) (some (w.heap.size,0))) (w.alloc (.cells row el fr))):=by
  have hlen:=G4 hv
  have hk:=Keep.alloc (G7 σ L) w (.cells row el fr)
  have hown:∀ b,G7 (G3 σ (.s d k) ⟨g,true,true,var,cells⟩) (F6 L (.s d k) (some (w.heap.size,0))) b→G7 σ L b∨w.heap.size≤b:=by
    intro b hb
    rcases Zdt hb with h1|⟨_,_,o,h1⟩
    · exact .inl h1
    · simp only [Option.some.injEq,Prod.mk.injEq] at h1;exact .inr (by omega)
  have hc:CLe (ctx σ L w) (ctx (G3 σ (.s d k) ⟨g,true,true,var,cells⟩) (F6 L (.s d k) (some (w.heap.size,0))) (w.alloc (.cells row el fr))) :=
    Zf0 (fun e he=>.inl (hg e he)) (fun b hb ho=>(hown b ho).resolve_right (by omega)) hk
  have hget:(w.alloc (.cells row el fr)).heap[w.heap.size]? = some (.cells row el fr):=by simp only [World.alloc,Array.getElem?_push];rw [if_pos trivial]
  refine ⟨h.step (Zfz h.store hc ?_ ?_ ?_) hc hk hown ?_ (fun b hb=>(Zf1 hb).imp id fun ⟨_,o,h1⟩=>by simp only [Option.some.injEq,Prod.mk.injEq] at h1;omega) rfl,hc⟩
  · intro t e b o _ he ha hl
    have:=h.store.lt he ha hl
    simp only [World.alloc,Array.getElem?_push];rw [if_neg (by omega)]
  · intro _
    unfold S1
    rw [show (ctx (G3 σ (.s d k) ⟨g,true,true,var,cells⟩) (F6 L (.s d k) (some (w.heap.size,0))) (w.alloc (.cells row el fr))).L (.s d k)=some (w.heap.size,0) from F9 _ _ _]
    simp only [Nat.zero_add]
    refine .inl ⟨⟨row,el,fr,hget,?_,hfr⟩,S5 fun i x hx=>?_⟩
    · rw [←hlen]
      rcases Ydx row.size vs.length with hlt|hge
      · have:=hrow row.size vs[row.size] (by simp [hlt])
        simp at this
      · exact hge
    · obtain ⟨v,h1,h2⟩:=Zav hv hx
      refine ⟨v,?_,V8 hc _ _ h2⟩
      show (w.alloc (.cells row el fr)).cell? ⟨w.heap.size,0+i,none⟩=some v
      simp only [World.cell?,hget,Nat.zero_add]
      exact hrow i v h1
  · intro b o _ hx t e o' _ he ha hl
    simp only [Option.some.injEq,Prod.mk.injEq] at hx
    have:=h.store.lt he ha hl
    omega
  · intro x e he ha
    rw [C7 _ _ (by simp)] at he
    exact ⟨e,he,ha,rfl,M0 _ _ (by simp)⟩
theorem Rel.newNil (h:Rel E w0 O0 σ0 L0 σ L w) {d k:Nat} {g:Nat} (hg:∀ e,A6 σ (.s d k)=some e→e.g<g) :
    Rel E w0 O0 σ0 L0 (G3 σ (.s d k) ⟨g,true,true,false,[]⟩) (F6 L (.s d k) none) w∧CLe (ctx σ L w) (ctx (G3 σ (.s d k) ⟨g,true,true,false,[]⟩) (F6 L (.s d k) none) w):=by
  have hown:∀ b,G7 (G3 σ (.s d k) ⟨g,true,true,false,[]⟩) (F6 L (.s d k) none) b→G7 σ L b∨w.heap.size≤b:=by
    intro b hb
    rcases Zdt hb with h1|⟨_,_,o,h1⟩
    · exact .inl h1
    · cases h1
  have hc:CLe (ctx σ L w) (ctx (G3 σ (.s d k) ⟨g,true,true,false,[]⟩) (F6 L (.s d k) none) w) :=
    Zf0 (fun e he=>.inl (hg e he)) (fun b hb ho=>(hown b ho).resolve_right (by omega)) (Keep.refl _ _)
  refine ⟨h.step (Zfz h.store hc (fun _ _ _ _ _ _ _ _=>rfl) ?_ (fun _ _ _ hx=>by cases hx)) hc (Keep.refl _ _) hown ?_ (fun b hb=>(Zf1 hb).imp id fun ⟨_,o,h1⟩=>by cases h1) rfl,hc⟩
  · intro _
    unfold S1
    rw [show (ctx (G3 σ (.s d k) ⟨g,true,true,false,[]⟩) (F6 L (.s d k) none) w).L (.s d k)=none from F9 _ _ _]
    exact ⟨rfl,rfl⟩
  · intro x e he ha
    rw [C7 _ _ (by simp)] at he
    exact ⟨e,he,ha,rfl,M0 _ _ (by simp)⟩
theorem Rel.less (h:Rel E w0 O0 σ0 L0 σ L w) {s:Site} {e e':Ent} (he:A6 σ s=some e) (hg:e'.g=e.g) (ha:e'.alive=true→e.alive=true∧e'.cells=e.cells∧e'.var=e.var) (hr:e'.rw=true→e.rw=true) :
    Rel E w0 O0 σ0 L0 (G3 σ s e') L w∧CLe (ctx σ L w) (ctx (G3 σ s e') L w):=by
  have hL:=Zc4 L s
  have hown:∀ b,G7 (G3 σ s e') L b→G7 σ L b∨w.heap.size≤b:=by
    intro b hb
    rw [←hL] at hb
    rcases Zdt hb with h1|⟨h1,h2,o,h3⟩
    · exact .inl h1
    · exact .inl ⟨s,e,o,he,(ha h1).1,hr h2,h3⟩
  have hc:CLe (ctx σ L w) (ctx (G3 σ s e') L w):=by
    have:=Zf0 (σ := σ) (L:=L) (w:=w) (w':=w) (s:=s) (e':=e') (x:=L s)
      (fun e1 h1=>.inr ⟨by rw [he] at h1;cases h1;exact hg.symm,fun h2=>⟨by rw [he] at h1;cases h1;exact (ha h2).1,rfl⟩⟩)
      (fun b hb ho=>by rw [hL] at ho;exact (hown b ho).resolve_right (by omega)) (Keep.refl _ _)
    rwa [hL] at this
  have hin:∀ b,inS (G3 σ s e') L b→inS σ L b∨w.heap.size≤b:=by
    intro b hb
    rw [←hL] at hb
    rcases Zf1 hb with h1|⟨h1,o,h3⟩
    · exact .inl h1
    · exact .inl ⟨s,e,o,he,(ha h1).1,h3⟩
  refine ⟨h.step ?_ hc (Keep.refl _ _) hown ?_ hin rfl,hc⟩
  · have:=Zfz h.store (s:=s) (e':=e') (x:=L s) (w':=w) (by rw [hL];exact hc) (fun _ _ _ _ _ _ _ _=>rfl) ?_ ?_
    · rwa [hL] at this
    · intro h1
      rw [hL]
      obtain ⟨a1,a2,a3⟩:=ha h1
      have h2:=h.store.ent s e he a1
      unfold S1 at h2 ⊢
      rw [show (ctx (G3 σ s e') L w).L s=(ctx σ L w).L s from rfl]
      cases hl:(ctx σ L w).L s with
      | none=>rw [hl] at h2;exact ⟨a2.trans h2.1,a3.trans h2.2⟩
      | some p =>
        rw [hl] at h2
        rcases h2 with h2|⟨h2,h3⟩
        · exact .inl ⟨by rw [a2];exact h2.1,by rw [a2];exact VRC_le hc _ (fun _=>rfl) _ _ h2.2⟩
        · exact .inr ⟨h2,(h3.cells a2).to hc rfl⟩
    · intro b o h1 hx t e1 o' hne he1 ha1 hl1
      exact hne (h.store.apart t s e1 e b o' o he1 ha1 he (ha h1).1 hl1 hx)
  · intro x e1 he1 ha1
    by_cases hx:s=.up x
    · subst hx
      rw [C0] at he1
      cases he1
      exact ⟨e,he,(ha ha1).1,hg.symm,rfl⟩
    · rw [C7 _ _ hx] at he1
      exact ⟨e1,he1,ha1,rfl,rfl⟩
theorem Rel.upd (h:Rel E w0 O0 σ0 L0 σ L w) {s:Site} {e:Ent} (he:A6 σ s=some e) (ha:e.alive=true) (hr:e.rw=true) {b o:Nat} (hl:L s=some (b,o)) {w':World} {cells:List AV}
    (hk:Keep (fun x=>x=b) w w') (hf:Zcx w' b (o+cells.length))
    (hv:∀ c':Ctx,CLe (ctx σ L w) c'→c'.w=w'→VRC c' b o cells) :
    Rel E w0 O0 σ0 L0 (G3 σ s { e with cells:=cells }) L w'∧CLe (ctx σ L w) (ctx (G3 σ s { e with cells:=cells }) L w'):=by
  have hL:=Zc4 L s
  have hob:G7 σ L b:=⟨s,e,o,he,ha,hr,hl⟩
  have hk':Keep (G7 σ L) w w':=hk.mono fun x hx=>by rw [hx];exact hob
  have hown:∀ x,G7 (G3 σ s { e with cells:=cells }) L x→G7 σ L x∨w.heap.size≤x:=by
    intro x hx
    rw [←hL] at hx
    rcases Zdt hx with h1|⟨h1,h2,o,h3⟩
    · exact .inl h1
    · exact .inl ⟨s,e,o,he,h1,h2,h3⟩
  have hc:CLe (ctx σ L w) (ctx (G3 σ s { e with cells:=cells }) L w'):=by
    have:=Zf0 (σ := σ) (L:=L) (w:=w) (w':=w') (s:=s) (e' := { e with cells:=cells }) (x:=L s)
      (fun e1 h1=>.inr ⟨by rw [he] at h1;cases h1;rfl,fun h2=>⟨by rw [he] at h1;cases h1;exact h2,rfl⟩⟩)
      (fun b hb ho=>by rw [hL] at ho;exact (hown b ho).resolve_right (by omega)) hk'
    rwa [hL] at this
  have hin:∀ x,inS (G3 σ s { e with cells:=cells }) L x→inS σ L x∨w.heap.size≤x:=by
    intro x hx
    rw [←hL] at hx
    rcases Zf1 hx with h1|⟨h1,o,h3⟩
    · exact .inl h1
    · exact .inl ⟨s,e,o,he,h1,h3⟩
  refine ⟨h.step ?_ hc hk' hown ?_ hin rfl,hc⟩
  · have:=Zfz h.store (s:=s) (e' := { e with cells:=cells }) (x:=L s) (w':=w') (by rw [hL];exact hc) ?_ ?_ ?_
    · rwa [hL] at this
    · intro t e1 b1 o1 hne h1 a1 l1
      refine hk.block b1 (h.store.lt h1 a1 l1) fun hbb=>hne ?_
      subst hbb
      exact h.store.apart t s e1 e b1 o1 o h1 a1 he ha l1 hl
    · intro _
      rw [hL]
      unfold S1
      rw [show (ctx (G3 σ s { e with cells:=cells }) L w').L s=some (b,o) from hl]
      exact .inl ⟨hf,hv _ hc rfl⟩
    · intro b1 o1 _ hx t e1 o' hne he1 ha1 hl1
      exact hne (h.store.apart t s e1 e b1 o' o1 he1 ha1 he ha hl1 hx)
  · intro x e1 he1 ha1
    by_cases hx:s=.up x
    · subst hx
      rw [C0] at he1
      cases he1
      exact ⟨e,he,ha,rfl,rfl⟩
    · rw [C7 _ _ hx] at he1
      exact ⟨e1,he1,ha1,rfl,rfl⟩
theorem Rel.pass (h:Rel E w0 O0 σ0 L0 σ L w) {s:Site} {e:Ent} (he:A6 σ s=some e) (ha:e.alive=true) (hr:e.rw=true) {d k:Nat} {g:Nat} (hg:∀ e,A6 σ (.s d k)=some e→e.g<g)
    {b o0 o:Nat} (hl:L s=some (b,o0)) {w':World} {cells:List AV} (hk:Keep (fun x=>x=b) w w') (hf:Zcx w' b (o+cells.length))
    (hv:∀ c':Ctx,CLe (ctx σ L w) c'→c'.w=w'→VRC c' b o cells) {σ1:A3} (h1 : σ1=if s=.s d k then σ else G3 σ s { e with alive:=false,cells:=[] }) :
    Rel E w0 O0 σ0 L0 (G3 σ1 (.s d k) ⟨g,true,true,false,cells⟩) (F6 L (.s d k) (some (b,o))) w' ∧
    CLe (ctx σ L w) (ctx (G3 σ1 (.s d k) ⟨g,true,true,false,cells⟩) (F6 L (.s d k) (some (b,o))) w'):=by
  have hob:G7 σ L b:=⟨s,e,o0,he,ha,hr,hl⟩
  have hk':Keep (G7 σ L) w w':=hk.mono fun x hx=>by rw [hx];exact hob
  -- what the killed store holds
  have hget:∀ t f,t≠Site.s d k→A6 σ1 t=some f→f.alive=true→A6 σ t=some f∧t≠s:=by
    intro t f ht hf1 hf2
    subst h1
    by_cases hsd:s=.s d k
    · rw [if_pos hsd] at hf1
      exact ⟨hf1,fun hts=>ht (hts.trans hsd)⟩
    · rw [if_neg hsd] at hf1
      by_cases hts:s=t
      · subst hts;rw [C0] at hf1;cases hf1;cases hf2
      · rw [C7 _ _ hts] at hf1;exact ⟨hf1,Ne.symm hts⟩
  have hown:∀ x,G7 (G3 σ1 (.s d k) ⟨g,true,true,false,cells⟩) (F6 L (.s d k) (some (b,o))) x→G7 σ L x:=by
    intro x hx
    obtain ⟨t,f,o1,hf1,hf2,hf3,hf4⟩:=hx
    by_cases ht:Site.s d k=t
    · subst ht
      rw [F9] at hf4
      simp only [Option.some.injEq,Prod.mk.injEq] at hf4
      exact hf4.1▸hob
    · rw [C7 _ _ ht] at hf1
      rw [M0 _ _ ht] at hf4
      exact ⟨t,f,o1,(hget t f (Ne.symm ht) hf1 hf2).1,hf2,hf3,hf4⟩
  have hc:CLe (ctx σ L w) (ctx (G3 σ1 (.s d k) ⟨g,true,true,false,cells⟩) (F6 L (.s d k) (some (b,o))) w'):=by
    refine ⟨?_,fun x _ ho=>ho.elim (fun ho=>.inl (hown x ho)) .inr,fun x hx hn=>hk'.block x hx (fun h=>hn (.inl h)),hk'.room,hk'.size⟩
    intro t g0 al ht
    have ht':(A6 σ t).map (fun e=>(e.g,e.alive))=some (g0,al):=ht
    cases hge:A6 σ t with
    | none=>rw [hge] at ht';cases ht'
    | some f =>
      rw [hge] at ht'
      simp only [Ydy,Option.some.injEq,Prod.mk.injEq] at ht'
      obtain ⟨rfl,rfl⟩:=ht'
      by_cases htd:Site.s d k=t
      · subst htd
        have hlt:=hg f hge
        refine ⟨g,true,by show (A6 (G3 σ1 (.s d k) _) (.s d k)).map _=_;rw [C0];rfl,by omega,fun h1=>by omega⟩
      · by_cases hts:s=t
        · subst hts
          have hsd:s≠.s d k:=Ne.symm htd
          rw [he] at hge
          cases hge
          refine ⟨e.g,false,?_,Ydt _,fun _ h2=>by cases h2⟩
          show (A6 (G3 σ1 (.s d k) _) s).map _=_
          rw [C7 _ _ htd,h1,if_neg hsd,C0]
          rfl
        · refine ⟨f.g,f.alive,?_,Ydt _,fun _ h2=>⟨h2,M0 L _ htd⟩⟩
          show (A6 (G3 σ1 (.s d k) _) t).map _=_
          rw [C7 _ _ htd,h1]
          split
          · rw [hge];rfl
          · rw [C7 _ _ hts,hge];rfl
  refine ⟨h.step (Zwd (L:=L) (w:=w) (c0:=ctx σ L w) rfl rfl ?_ ?_ hc ?_ ?_ ?_) hc hk' (fun x hx=>.inl (hown x hx)) ?_ ?_ rfl,hc⟩
  · intro t f ht hf1 hf2
    exact h.store.ent t f (hget t f ht hf1 hf2).1 hf2
  · intro t t' f f' b1 o1 o2 ht ht' hf1 hf2 hf1' hf2' l1 l2
    exact h.store.apart t t' f f' b1 o1 o2 (hget t f ht hf1 hf2).1 hf2 (hget t' f' ht' hf1' hf2').1 hf2' l1 l2
  · intro t f b1 o1 ht hf1 hf2 l1
    obtain ⟨hf3,hts⟩:=hget t f ht hf1 hf2
    refine hk.block b1 (h.store.lt hf3 hf2 l1) fun hbb=>hts ?_
    subst hbb
    exact h.store.apart t s f e b1 o1 o0 hf3 hf2 he ha l1 hl
  · intro _
    unfold S1
    rw [show (ctx (G3 σ1 (.s d k) ⟨g,true,true,false,cells⟩) (F6 L (.s d k) (some (b,o))) w').L (.s d k)=some (b,o) from F9 _ _ _]
    exact .inl ⟨hf,hv _ hc rfl⟩
  · intro b1 o1 _ hx t f o2 ht hf1 hf2 l1
    simp only [Option.some.injEq,Prod.mk.injEq] at hx
    obtain ⟨hf3,hts⟩:=hget t f ht hf1 hf2
    obtain ⟨rfl,rfl⟩:=hx
    exact hts (h.store.apart t s f e b o2 o0 hf3 hf2 he ha l1 hl)
  · intro x f hf1 hf2
    rw [C7 _ _ (by simp)] at hf1
    exact ⟨f,(hget _ f (by simp) hf1 hf2).1,hf2,rfl,M0 _ _ (by simp)⟩
  · intro x ⟨t,f,o1,hf1,hf2,hf4⟩
    by_cases ht:Site.s d k=t
    · subst ht
      rw [F9] at hf4
      simp only [Option.some.injEq,Prod.mk.injEq] at hf4
      exact .inl (hf4.1▸in_own hob)
    · rw [C7 _ _ ht] at hf1
      rw [M0 _ _ ht] at hf4
      exact .inl ⟨t,f,o1,(hget t f (Ne.symm ht) hf1 hf2).1,hf2,hf4⟩
end Cod

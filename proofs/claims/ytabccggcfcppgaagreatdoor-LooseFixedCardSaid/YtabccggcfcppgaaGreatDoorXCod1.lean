/- The lean form of Go code and its abstract run: values as plain trees, slices as lists. -/
import Derived.Calls
import Derived.Laws.Sem
import Derived.Laws.Entries
set_option linter.unusedSimpArgs false
set_option linter.unusedVariables false
open List renaming cons_append → Yfm
open Nat renaming le_max_left → Yfh, le_max_right → Yfi, le_refl → Yfj, le_trans → Yfk, lt_of_lt_of_le → Yfl, lt_or_ge → Yfn
open Option renaming bind_some → Yfg, map_some → Yfo
namespace Cod
open Go
inductive Site
  | s (n k:Nat)
  | r (k:Nat)
  | up (x:Site)
  deriving DecidableEq,Repr
inductive AV
  | junk|und
  | int (k:IntKind) (n:Int)
  | bool (b:Bool)
  | str (s:List UInt8)
  | nilp|nils|nilf|nili|nilm
  | agg (cs:List AV)
  | tup (cs:List AV)
  | lst (cs:List AV) (len:Nat)
  | fp (cs:List AV) (off:Nat)
  | ref (s:Site) (g off:Nat)
  | buf (s:Site) (g off len sz:Nat)
  | clo (f:Nat) (cap:List AV)
  | ifc (t:Nat) (x:AV)
  | it (s:Site) (g:Nat)
  | itr (s:List UInt8) (pos:Nat)
  | mpr (s:Site) (g:Nat)
  | mp (ks vs:List AV)
  | any (k:Option IntKind)
structure Ent where
  g:Nat
  alive:Bool
  rw:Bool
  var:Bool
  cells:List AV
abbrev A2:=List (Site × Ent)
def A8:A2→Site→Option Ent
  | [],_=>none
  | (t,e) :: σ,s=>if t=s then some e else A8 σ s
def H9:A2→Site→Ent→A2
  | [],s,e=>[(s,e)]
  | (t,e') :: σ,s,e=>if t=s then (s,e) :: σ else (t,e')::H9 σ s e
def B5 (σ:A2):List (Site × Ent)→A2
  | [] => σ
  | (s,e)::r=>B5 (H9 σ s e) r
inductive Acc (α:Type) where
  | ret (a : α)
  | fail
  | get (s:Site) (k:Option Ent→Acc α)
namespace Acc
def bind {α β:Type}:Acc α→(α→Acc β)→Acc β
  | .ret a,f=>f a
  | .fail,_=>.fail
  | .get s k,f=>.get s fun e=>(k e).bind f
instance:Monad Acc where
  pure:=Acc.ret
  bind:=Acc.bind
def run {α:Type}:Acc α→A2→Option α
  | .ret a,_=>some a
  | .fail,_=>none
  | .get s k,σ=>(k (A8 σ s)).run σ
def reads {α:Type}:Acc α→A2→List Site
  | .ret _,_=>[]
  | .fail,_=>[]
  | .get s k,σ=>s::(k (A8 σ s)).reads σ
end Acc
abbrev Ups:=List (Site × Ent)
inductive LO
  | t (n:Nat)
  | k (v:AV)
  | g (n:Nat)
  | f (n:Nat)
inductive LOp
  | mv (x:LO)
  | nil (sz:Nat)                                  -- a nil slice laid in a variable
  | pick (c a b:LO)
  | new (cells:List AV)
  | box (x:LO)
  | build (zero:List AV) (parts:List (Nat × Nat × LO))
  | bslice (sz n:Nat) (zero:List AV) (parts:List (Nat × Nat × LO))
  | ld (n:Option Nat) (a:LO)
  | st (n:Nat) (a x:LO)
  | nilck (x:LO)
  | bin (op:BinOp) (x y:LO)
  | eqb (neg:Bool) (x y:LO)                      -- == and != on bools,on structs and arrays,on what may be nil
  | eqa (ks:List Nat) (neg:Bool) (x y:LO)
  | eqn (kd:Nat) (neg:Bool) (x y:LO)
  | un (op:UnOp) (x:LO)
  | cvi (k:IntKind) (x:LO)
  | s2s (x:LO)                                    -- string to string
  | s2b (x:LO)
  | b2s (x:LO)
  | b2b (x:LO)                                    -- []byte to []byte
  | mkif (t:Nat) (x:LO)
  | mkfn (f:Nat) (cap:List LO)
  | mks (sz bytes:Nat) (zero:List AV) (l c:LO)
  | sl (sz:Nat) (arr:Option Nat) (x:LO) (lo hi:Option LO)
  | sls (x:LO) (lo hi:Option LO)                -- of a string
  | fa (x:LO) (off:Nat)
  | fld (x:LO) (off:Nat) (n:Option Nat)
  | ia (sz:Nat) (arr:Option Nat) (x i:LO)
  | ix (sz:Nat) (arr:Option Nat) (agg:Bool) (x i:LO)
  | s2a (n sz:Nat) (x:LO)                       -- a slice to an array's pointer
  | ext (x:LO) (i:Nat)
  | call (f:LO) (args:List LO) (take:List Nat)
  | app (sz bytes:Nat) (s x:LO)
  | appz (sz bytes:Nat) (zero:List AV) (s n:LO)
  | len (arr:Option Nat) (x:LO)
  | lens (x:LO)                                   -- of a string
  | copy (sz:Nat) (d s:LO)
  | min (x y:LO)
  | max (x y:LO)
  | cap (x:LO)
  | r2s (x:LO)                                    -- a number to a string
  | rng (x:LO)                                    -- an iterator over a string
  | nxt (x:LO)
  | mkmap
  | mkmapn (x:LO)                                 -- with room told
  | slm (sz:Nat) (x:LO) (lo:Option LO) (hi mx:LO)  -- xs[i:j:k]
  | mget (str:Bool) (zero:AV) (ok:Bool) (m k:LO)   -- a map with keys that are numbers (or strings)
  | mput (str:Bool) (m k x:LO)
  | mdel (str:Bool) (m k:LO)
  | mlen (x:LO)
  | frz (x:LO)                                    -- a move behind which what it leads to is no longer written
  | appk (sz bytes:Nat) (s x:LO)                -- an append behind which the old slice may be read
  | stop
structure LOper where
  dst:Option Nat
  op:LOp
  guard:Option (Nat × Bool)
inductive LCode
  | skip
  | ret
  | exit (n:Nat)
  | reg (ops:List LOper) (keep:List Nat)
  | dreg (ops:List LOper) (pairs:List (Nat × Nat)) (keep:List Nat)
  | seq (a b:LCode)
  | cond (c:LO) (a b:LCode)
  | block (n:Nat) (a:LCode)
  | loop (live:List Nat) (a:LCode)
  | scope (a:LCode)
  | label (n:Nat)
  | goto (n:Nat)
inductive LRes
  | tmp (t:Nat)
  | cell (t:Nat) (n:Option Nat)
structure LFn where
  np:Nat
  results:List LRes
  code:LCode
mutual
def M1:AV→Bool
  | .ref ..|.buf ..|.junk|.und|.agg _|.tup _|.it ..|.itr ..|.mpr ..|.mp ..=>false
  | .clo _ cs=>flats cs
  | .ifc _ x=>M1 x
  | _=>true
def flats:List AV→Bool
  | []=>true
  | c::cs=>M1 c&&flats cs
end
def R1:AV→Bool
  | .junk|.und|.agg _|.tup _|.it ..|.itr ..|.mp ..=>false
  | _=>true
def T7:List AV→Bool
  | []=>true
  | c::cs=>R1 c&&T7 cs
mutual
def leads:AV→Bool
  | .lst ..|.fp ..|.junk=>true
  | .agg cs|.tup cs|.clo _ cs=>leadss cs
  | .mp ks vs=>leadss ks||leadss vs
  | .ifc _ x=>leads x
  | _=>false
def leadss:List AV→Bool
  | []=>false
  | c::cs=>leads c||leadss cs
end
mutual
def V6:AV→List (Site × Nat)
  | .ref s g _=>[(s,g)]
  | .buf s g _ _ _=>[(s,g)]
  | .it s g=>[(s,g)]
  | .mpr s g=>[(s,g)]
  | .agg cs|.tup cs|.clo _ cs=>refsOfs cs
  | .ifc _ x=>V6 x
  | _=>[]
def refsOfs:List AV→List (Site × Nat)
  | []=>[]
  | c::cs=>V6 c++refsOfs cs
end
mutual
def ren (f:Site→Nat→Option (Site × Nat)):AV→AV
  | .ref s g o=>match f s g with|some (s',g')=>.ref s' g' o|none=>.junk
  | .buf s g o n z=>match f s g with|some (s',g')=>.buf s' g' o n z|none=>.junk
  | .it s g=>match f s g with|some (s',g')=>.it s' g'|none=>.junk
  | .mpr s g=>match f s g with|some (s',g')=>.mpr s' g'|none=>.junk
  | .agg cs=>.agg (rens f cs)
  | .tup cs=>.tup (rens f cs)
  | .clo g cs=>.clo g (rens f cs)
  | .ifc t x=>.ifc t (ren f x)
  | x=>x
def rens (f:Site→Nat→Option (Site × Nat)):List AV→List AV
  | []=>[]
  | c::cs=>ren f c::rens f cs
end
def Zbt:AV→Bool
  | .agg cs=>flats cs
  | x=>M1 x
def Q3:List AV→Bool
  | []=>true
  | c::cs=>Zbt c&&Q3 cs
def J4:AV→Option (List AV)
  | .agg cs=>some cs
  | x=>if R1 x=true then some [x] else none
def sub {α:Type} (cs:List α) (off n:Nat):List α:=(cs.drop off).take n
def over (cs:List AV) (off:Nat) (xs:List AV):List AV:=cs.take off++xs++cs.drop (off+xs.length)
def bytesOf:List AV→Option (List UInt8)
  | []=>some []
  | .int .u8 n::cs=>(bytesOf cs).map (UInt8.ofNat n.toNat :: ·)
  | _::_=>none
def A0 (l:List UInt8):List AV:=l.map fun b=>.int .u8 b.toNat
def Zbb (l:List UInt8) (i:Nat):Nat × Nat:=Utf8.decode ⟨l.toArray⟩ i
def Zi7 (n:Int):List UInt8:=(Utf8.encode n).data.toList
def Zge:Bool→AV→AV→Option Bool
  | false,.int k a,.int k' b=>if k=k' then some (a==b) else none
  | true,.str a,.str b=>some (a==b)
  | _,_,_=>none
def Zah (str:Bool) (k:AV):List AV→Nat→Option (Option Nat)
  | [],_=>some none
  | x::xs,i=>match Zge str k x with
    | some true=>some (some i)
    | some false=>Zah str k xs (i+1)
    | none=>none
def okV (ok b:Bool) (v:AV):AV:=bif ok then .tup [v,.bool b] else v
def V7:AV→Bool
  | .agg _=>true
  | _=>false
def Zf2:Bool→List AV→AV
  | true,ys=>.agg ys
  | false,[y]=>y
  | false,_=>.junk
def M2:List Nat→List AV→List AV→Option Bool
  | [],[],[]=>some true
  | 0::ks,.int k a::xs,.int k' b::ys=>if k=k' then (M2 ks xs ys).map (a==b && ·) else none
  | 1::ks,.bool a::xs,.bool b::ys=>(M2 ks xs ys).map (a==b && ·)
  | 2::ks,.str a::xs,.str b::ys=>(M2 ks xs ys).map (a==b && ·)
  | _,_,_=>none
def U1 (op:BinOp) (k:IntKind) (x y:Int):Option AV :=
  match op with
  | .add=>some (.int k (k.wrap (x+y)))
  | .sub=>some (.int k (k.wrap (x-y)))
  | .mul=>some (.int k (k.wrap (x*y)))
  | .quo=>if y=0 then none else some (.int k (k.wrap (x.tdiv y)))
  | .rem=>if y=0 then none else some (.int k (x.tmod y))
  | .and=>some (.int k (k.wrap (BitVec.ofInt k.bits x &&& BitVec.ofInt k.bits y).toNat))
  | .or=>some (.int k (k.wrap (BitVec.ofInt k.bits x ||| BitVec.ofInt k.bits y).toNat))
  | .xor=>some (.int k (k.wrap (BitVec.ofInt k.bits x ^^^ BitVec.ofInt k.bits y).toNat))
  | .andNot=>some (.int k (k.wrap (BitVec.ofInt k.bits x &&& ~~~ BitVec.ofInt k.bits y).toNat))
  | .eql=>some (.bool (x==y))
  | .neq=>some (.bool (x != y))
  | .lss=>some (.bool (decide (x<y)))
  | .leq=>some (.bool (decide (x≤y)))
  | .gtr=>some (.bool (decide (y<x)))
  | .geq=>some (.bool (decide (y≤x)))
  | _=>none
def Zeq (op:BinOp) (k:IntKind) (x y:Int):Option AV :=
  if y<0 then none else
  match op with
  | .shl=>some (.int k (k.wrap (x*2^(Nat.min y.toNat k.bits))))
  | .shr=>some (.int k (x.fdiv (2^(Nat.min y.toNat k.bits))))
  | _=>none
def Ztg (op:BinOp) (x y:List UInt8):Option AV :=
  match op with
  | .add=>if (x.length+y.length:Nat)≤9223372036854775807 then some (.str (x++y)) else none
  | .eql=>some (.bool (x==y))
  | .neq=>some (.bool (!(x==y)))
  | .lss=>some (.bool (Op.bytesLess x y))
  | .leq=>some (.bool (Op.bytesLess x y||x==y))
  | .gtr=>some (.bool (!(Op.bytesLess x y||x==y)))
  | .geq=>some (.bool (!(Op.bytesLess x y)))
  | _=>none
def I4 (op:BinOp) (x y:AV):Option AV :=
  match x,y with
  | .int k a,.int k' b =>
    match op with
    | .shl|.shr=>Zeq op k a b
    | _=>if k=k' then U1 op k a b else none
  | .str a,.str b=>Ztg op a b
  | _,_=>none
def Zpy (neg:Bool):AV→AV→Option AV
  | .bool a,.bool b=>some (.bool (bif neg then !(a==b) else a==b))
  | _,_=>none
def Zmx (op:UnOp) (x:AV):Option AV :=
  match op,x with
  | .neg,.int k n=>some (.int k (k.wrap (0-n)))
  | .xor,.int k n=>some (.int k (k.wrap (BitVec.ofInt k.bits (if k.signed then -1 else k.max) ^^^ BitVec.ofInt k.bits n).toNat))
  | .not,.bool b=>some (.bool (!b))
  | _,_=>none
def zer (x:AV) (n:Nat):List AV:=List.replicate n x
def Zer (a b:List AV):List AV:=a++b
def rep (z:List AV):Nat→List AV
  | 0=>[]
  | n+1=>z++rep z n
end Cod
namespace Cod
open Go
def T8:List (Nat × AV)→Nat→AV
  | [],_=>.junk
  | (k,v)::r,t=>if k=t then v else T8 r t
def Zi8:List (Nat × AV)→Nat→AV→List (Nat × AV)
  | [],t,v=>[(t,v)]
  | (k,u)::r,t,v=>if k=t then (t,v)::r else (k,u)::Zi8 r t v
structure Env where
  fn:Nat→Option LFn
  known:Nat→Option (List AV→A2→Option (AV × A2))
  glob:Nat→List AV
def Zgf:List AV→AV
  | []=>.junk
  | c::cs=>.fp (c::cs) 0
def ev (E:Env) (sl:List (Nat × AV)):LO→AV
  | .t n=>T8 sl n
  | .k v=>v
  | .g n=>Zgf (E.glob n)
  | .f n=>.clo n []
namespace Acc
def ent (s:Site):Acc (Option Ent):=.get s .ret
end Acc
def Zpz (g:Nat):Option Ent→Acc Ent
  | some e=>if e.alive=true∧e.g=g then .ret e else .fail
  | none=>.fail
def Q9 (s:Site) (g:Nat):Acc Ent:=.get s (Zpz g)
def mkE (s:Site) (var:Bool) (cells:List AV):Option Ent→Acc (Nat × Ups)
  | some e=>.ret (e.g+1,[(s,⟨e.g+1,true,true,var,cells⟩)])
  | none=>.ret (0,[(s,⟨0,true,true,var,cells⟩)])
def mk (s:Site) (var:Bool) (cells:List AV):Acc (Nat × Ups):=.get s (mkE s var cells)
def Zik (s:Site) (cells:List AV):Acc (AV × Ups):=(mk s true cells).bind fun p=>.ret (.ref s p.1 0,p.2)
def Zbu (s:Site) (cells:List AV) (n sz:Nat) (u:Ups):Acc (AV × Ups):=(mk s false cells).bind fun p=>.ret (.buf s p.1 0 n sz,u++p.2)
def Z3t (off n z:Nat) (s:Site) (e:Ent):Acc (AV × List Site) :=
  if off+n*z≤e.cells.length∧flats e.cells=true then .ret (.lst (sub e.cells off (n*z)) n,[s]) else .fail
def Z3u (off:Nat) (s:Site) (e:Ent):Acc (AV × List Site):=if flats e.cells=true then .ret (.fp e.cells off,[s]) else .fail
def V4:AV→Acc (AV × List Site)
  | .buf s g off n z=>(Q9 s g).bind (Z3t off n z s)
  | .ref s g off=>(Q9 s g).bind (Z3u off s)
  | .nils=>.ret (.lst [] 0,[])
  | x=>if M1 x=true then .ret (x,[]) else .fail
def views:List AV→Acc (List AV × List Site)
  | []=>.ret ([],[])
  | c::cs=>(V4 c).bind fun p=>(views cs).bind fun q=>.ret (p.1::q.1,p.2++q.2)
def Zbc:AV→Acc (AV × List Site)
  | .agg cs=>if flats cs=true then .ret (.agg cs,[]) else (views cs).bind fun p=>.ret (.agg p.1,p.2)
  | .clo f cs=>(views cs).bind fun p=>.ret (.clo f p.1,p.2)
  | x=>V4 x
def Zjo (s:Site) (u:Ups):Option Ent→Acc Ups
  | some e=>.ret ((s,{ e with rw:=false })::u)
  | none=>.fail
def Zek:List Site→Acc Ups
  | []=>.ret []
  | s::ss=>(Zek ss).bind fun u=>.get s (Zjo s u)
def fix (cs:List AV):Acc (List AV × Ups × List Site) :=
  if flats cs=true then .ret (cs,[],[]) else (views cs).bind fun p=>(Zek p.2).bind fun u=>.ret (p.1,u,p.2)
def Z3v (sz:Nat) (off n z:Nat) (e:Ent):Acc (List AV × Nat):=if z=sz∧off+n*z≤e.cells.length then .ret (sub e.cells off (n*z),n) else .fail
def Zjp:Nat→List UInt8→Acc (List AV × Nat)
  | 1,l=>.ret (A0 l,l.length)
  | _,_=>.fail
def P6 (sz:Nat):AV→Acc (List AV × Nat)
  | .nils=>.ret ([],0)
  | .str l=>Zjp sz l
  | .lst cs n=>if cs.length=n*sz then .ret (cs,n) else .fail
  | .buf s g off n z=>(Q9 s g).bind (Z3v sz off n z)
  | _=>.fail
def N7:Nat:=140737488355328
abbrev M9:=Nat→List AV→A2→Option (AV × A2)
def one (x:AV):Acc (AV × Ups):=.ret (x,[])
def Zai:Nat→List (Site × Nat)→List Site→Acc (List (Site × Ent))
  | 0,_,_=>.fail
  | _+1,[],_=>.ret []
  | n+1,(s,g)::r,seen =>
    bif seen.contains s then Zai n r seen
    else (Q9 s g).bind fun e=>(Zai n (r++refsOfs e.cells) (s::seen)).bind fun u=>.ret ((s,e)::u)
def Z3 (es:List (Site × Ent)) (s:Site) (g:Nat):Option (Site × Nat) :=
  match A8 es s with
  | some e=>if e.g=g then some (.up s,g) else none
  | none=>none
def R2:Nat→List Nat→List AV→Acc (List AV × List (Site × Nat) × List Site)
  | _,_,[]=>.ret ([],[],[])
  | i,take,x::xs =>
    bif take.contains i then (R2 (i+1) take xs).bind fun p=>.ret (x::p.1,V6 x++p.2.1,p.2.2)
    else (Zbc x).bind fun q=>(R2 (i+1) take xs).bind fun p=>.ret (q.1::p.1,p.2.1,q.2++p.2.2)
def H1 (d:Nat) (gs:List (Nat × Nat)) (s:Site) (g:Nat):Option (Site × Nat) :=
  match s with
  | .up s'=>some (s',g)
  | .r k=>match gs.lookup k with|some g'=>if g=0 then some (.s d k,g') else none|none=>none
  | .s _ _=>none
def genE (k:Nat) (l:List (Nat × Nat)):Option Ent→Acc (List (Nat × Nat))
  | some e=>.ret ((k,e.g+1)::l)
  | none=>.ret ((k,0)::l)
def Q4 (d:Nat):A2→Acc (List (Nat × Nat))
  | []=>.ret []
  | (.r k,_)::r=>(Q4 d r).bind fun l=>.get (.s d k) (genE k l)
  | _::r=>Q4 d r
def B8 (d:Nat) (gs:List (Nat × Nat)):A2→Ups
  | []=>[]
  | (s,e)::r =>
    match H1 d gs s e.g with
    | some (s',g')=>(s',{ e with g:=g',cells:=rens (H1 d gs) e.cells })::B8 d gs r
    | none=>B8 d gs r
def Y7 (back:Ups):List (Site × Ent)→Ups
  | []=>[]
  | (s,e)::r=>match A8 back s with|some _=>Y7 back r|none=>(s,{ e with alive:=false,cells:=[] })::Y7 back r
def N2 (es:List (Site × Ent)):List (Site × Ent)→A2
  | []=>[]
  | (s,e)::r=>(.up s,{ e with cells:=rens (Z3 es) e.cells })::N2 es r
def Zaj:Ups→Bool
  | []=>false
  | (_,e)::r=>leadss e.cells||Zaj r
def Zjq (es:List (Site × Ent)):List Site→Bool
  | []=>false
  | s::ss=>(A8 es s).isSome||Zjq es ss
def Zp0 (σ:Ups) (s:Site):Bool:=(A8 σ s).isNone
def V0:Ups→Bool
  | []=>true
  | (s,_)::r=>Zp0 r s&&V0 r
def Zp1:Site→Ent→Bool
  | .up _,e=>e.alive
  | .r _,e=>e.alive&&e.g==0
  | .s _ _,_=>false
def tidy:A2→Bool
  | []=>true
  | (s,e)::r=>Zp1 s e&&Zp0 r s&&tidy r
def Zxd (ss:List Site) (es:List (Site × Ent)) (v:AV) (b:Ups):Acc (AV × Ups) :=
  bif leads v||Zaj b then (Zek ss).bind fun u=>.ret (v,u++(b++Y7 b es)) else .ret (v,b++Y7 b es)
def Zxe (d:Nat) (ss:List Site) (es:List (Site × Ent)):Option (AV × A2)→Acc (AV × Ups)
  | none=>.fail
  | some (v,σ) =>
    bif tidy σ && !(Zjq es ss) then (Q4 d σ).bind fun gs=>bif V0 (B8 d gs σ) then Zxd ss es (ren (H1 d gs) v) (B8 d gs σ) else .fail
    else .fail
def Za3 (call:M9) (d:Nat) (f:Nat) (args:List AV) (take:List Nat):Acc (AV × Ups) :=
  (R2 0 take args).bind fun p =>
  (Zai 64 p.2.1 []).bind fun es=>Zxe d p.2.2 es (call f (rens (Z3 es) p.1) (N2 es es))
def still1 (s:Site) (g:Nat) (x:AV):Acc (AV × Ups):=(Q9 s g).bind fun _=>.ret (x,[])
def Zem:Nat→AV→Acc Bool
  | 0,.nilp=>.ret true
  | 0,.fp _ _=>.ret false
  | 0,.ref s g _=>(Q9 s g).bind fun _=>.ret false
  | 1,.nils=>.ret true
  | 1,.lst _ (_+1)=>.ret false
  | 1,.buf s g _ (_+1) _=>(Q9 s g).bind fun _=>.ret false
  | 2,.nilm=>.ret true
  | 3,.nilf=>.ret true
  | 3,.clo _ _=>.ret false
  | 4,.nili=>.ret true
  | 4,.ifc _ _=>.ret false
  | _,_=>.fail
def eqnB (neg a b:Bool):Acc (AV × Ups):=bif a||b then .ret (.bool (bif neg then !(a&&b) else a&&b),[]) else .fail
def eqnV (kd:Nat) (neg:Bool) (x y:AV):Acc (AV × Ups):=(Zem kd x).bind fun a=>(Zem kd y).bind fun b=>eqnB neg a b
def Zp2:AV→AV→AV→Acc (AV × Ups)
  | .bool t,a,b=>one (bif t then a else b)
  | _,_,_=>.fail
def optV:Option AV→Acc (AV × Ups)
  | some x=>one x
  | none=>.fail
def eqaV (ks:List Nat) (neg:Bool):AV→AV→Acc (AV × Ups)
  | .agg a,.agg b=>optV ((M2 ks a b).map fun e=>.bool (bif neg then !e else e))
  | _,_=>.fail
def aggV (cs:List AV) (off n:Nat):Acc (AV × Ups):=if off+n≤cs.length then one (.agg (sub cs off n)) else .fail
def Zlm (cells:List AV) (off n:Nat):Option (List AV)→Option (List AV)
  | some ys=>if ys.length=n∧off+n≤cells.length then some (over cells off ys) else none
  | none=>none
def Zak (ρ:LO→AV):List (Nat × Nat × LO)→Option (List AV)→Option (List AV)
  | [],r=>r
  | _::_,none=>none
  | (off,n,x)::r,some cells=>Zak ρ r (Zlm cells off n (J4 (ρ x)))
def Zmy:Option (List AV)→Acc (AV × Ups)
  | some cs=>one (.agg cs)
  | none=>.fail
def Zgg (s:Site) (n sz:Nat):Option (List AV)→Acc (AV × Ups)
  | some cs=>(fix cs).bind fun p=>Zbu s p.1 n sz p.2.1
  | none=>.fail
def ldC:Option Nat→Nat→Ent→Acc (AV × Ups)
  | none,off,e=>optV e.cells[off]?
  | some n,off,e=>aggV e.cells off n
def ldV:Option Nat→AV→Acc (AV × Ups)
  | none,.fp cs off=>optV cs[off]?
  | some n,.fp cs off=>aggV cs off n
  | n,.ref s g off=>(Q9 s g).bind (ldC n off)
  | _,_=>.fail
def stC (s:Site) (off n:Nat) (xs:List AV) (e:Ent):Acc (AV × Ups) :=
  if e.rw=true∧xs.length=n∧off+n≤e.cells.length∧T7 xs=true then
    (bif e.var then .ret (.und,[(s,{ e with cells:=over e.cells off xs })])
     else (fix xs).bind fun p=>bif p.2.2.contains s then .fail else .ret (.und,p.2.1++[(s,{ e with cells:=over e.cells off p.1 })]))
  else .fail
def stV (n:Nat):AV→Option (List AV)→Acc (AV × Ups)
  | .ref s g off,some xs=>(Q9 s g).bind (stC s off n xs)
  | _,_=>.fail
def boxV (s:Site):Option (List AV)→Acc (AV × Ups)
  | some xs=>Zik s xs
  | none=>.fail
def Zln (t:Nat):AV→Acc (AV × Ups)
  | .agg cs=>if flats cs=true then one (.ifc t (.agg cs)) else .fail
  | x=>if M1 x=true then one (.ifc t x) else .fail
def Zhs:AV→Acc (AV × Ups)
  | .ref s g o=>still1 s g (.ref s g o)
  | .fp cs o=>one (.fp cs o)
  | .clo f c=>one (.clo f c)
  | _=>.fail
def Zmz (k:IntKind):AV→Acc (AV × Ups)
  | .int _ n=>one (.int k (k.wrap n))
  | _=>.fail
def s2sV:AV→Acc (AV × Ups)
  | .str l=>one (.str l)
  | _=>.fail
def s2bV (s:Site):AV→Acc (AV × Ups)
  | .str l=>Zbu s (A0 l) l.length 1 []
  | _=>.fail
def strV:Option (List UInt8)→Acc (AV × Ups)
  | some l=>one (.str l)
  | none=>.fail
def b2bV:AV→Acc (AV × Ups)
  | .buf s g off n z=>(Q9 s g).bind fun e=>if e.rw=true∧e.cells.isEmpty=false then .ret (.buf s g off n z,[]) else .fail
  | _=>.fail
def mksV (s:Site) (sz bytes:Nat) (zero:List AV):AV→AV→Acc (AV × Ups)
  | .int .i64 l,.int .i64 c =>
    if 0≤l∧l≤c∧bytes*c≤281474976710656∧c≤281474976710656 then Zbu s (rep zero l.toNat) l.toNat sz [] else .fail
  | _,_=>.fail
def loV:Option AV→AV
  | some x=>x
  | none=>.int .i64 0
def hiV (n:Nat):Option AV→AV
  | some x=>x
  | none=>.int .i64 n
def Zal:Option Nat→AV→Nat
  | some n,_=>n
  | none,.str l=>l.length
  | none,.lst _ n=>n
  | none,.buf _ _ _ n _=>n
  | none,_=>0
def slR (sz n l h:Nat) (s:Site) (g off:Nat) (e:Ent):Acc (AV × Ups):=if off+n*sz≤e.cells.length then .ret (.buf s g (off+l*sz) (h-l) sz,[]) else .fail
def slB (sz:Nat) (arr:Option Nat) (x:AV) (l h:Nat):Acc (AV × Ups) :=
  match arr,x with
  | some n,.ref s g off=>(Q9 s g).bind (slR sz n l h s g off)
  | some n,.fp cs off=>if off+n*sz≤cs.length then one (.lst (sub cs (off+l*sz) ((h-l)*sz)) (h-l)) else .fail
  | none,.lst cs n=>if cs.length=n*sz then one (.lst (sub cs (l*sz) ((h-l)*sz)) (h-l)) else .fail
  | none,.buf s g off _ z=>if z=sz then still1 s g (.buf s g (off+l*sz) (h-l) sz) else .fail
  | none,.nils=>one .nils
  | _,_=>.fail
def slV (sz:Nat) (arr:Option Nat) (x:AV):AV→AV→Acc (AV × Ups)
  | .int _ l,.int _ h=>if 0≤l∧l≤h∧h≤Zal arr x then slB sz arr x l.toNat h.toNat else .fail
  | _,_=>.fail
def Zm0 (sz:Nat) (x:AV):AV→AV→AV→Acc (AV × Ups)
  | .int _ l,.int _ h,.int _ m=>if 0≤l∧l≤h∧h≤m∧m≤Zal none x then slB sz none x l.toNat h.toNat else .fail
  | _,_,_=>.fail
def slsV:AV→AV→AV→Acc (AV × Ups)
  | .str t,.int _ l,.int _ h=>if 0≤l∧l≤h∧h≤t.length then one (.str (sub t l.toNat (h.toNat-l.toNat))) else .fail
  | _,_,_=>.fail
def faV (off:Nat):AV→Acc (AV × Ups)
  | .ref s g o=>still1 s g (.ref s g (o+off))
  | .fp cs o=>one (.fp cs (o+off))
  | _=>.fail
def Zp3 (off:Nat):Option Nat→AV→Acc (AV × Ups)
  | none,.agg cs=>optV cs[off]?
  | some n,.agg cs=>aggV cs off n
  | _,_=>.fail
def iaV (sz:Nat):Option Nat→AV→AV→Acc (AV × Ups)
  | some n,.ref s g o,.int _ i=>if 0≤i∧i<n then still1 s g (.ref s g (o+i.toNat*sz)) else .fail
  | some n,.fp cs o,.int _ i=>if 0≤i∧i<n then one (.fp cs (o+i.toNat*sz)) else .fail
  | none,.lst cs n,.int _ i=>if 0≤i∧i<n then one (.fp cs (i.toNat*sz)) else .fail
  | none,.buf s g o n z,.int _ i=>if 0≤i∧i<n∧z=sz then still1 s g (.ref s g (o+i.toNat*sz)) else .fail
  | _,_,_=>.fail
def Zxf:Option UInt8→Acc (AV × Ups)
  | some b=>one (.int .u8 b.toNat)
  | none=>.fail
def ixV (sz:Nat) (agg:Bool):Option Nat→AV→AV→Acc (AV × Ups)
  | some n,.agg cs,.int _ i=>if 0≤i∧i<n∧i.toNat*sz+sz≤cs.length then (bif agg then one (.agg (sub cs (i.toNat*sz) sz)) else optV cs[i.toNat*sz]?) else .fail
  | none,.str t,.int _ i=>if 0≤i then Zxf t[i.toNat]? else .fail
  | _,_,_=>.fail
def s2aV (n sz:Nat):AV→Acc (AV × Ups)
  | .lst cs m=>if n≤m∧cs.length=m*sz∧0<n then one (.fp cs 0) else .fail
  | .buf s g o m z=>if n≤m∧z=sz∧0<n then still1 s g (.ref s g o) else .fail
  | _=>.fail
def extV (i:Nat):AV→Acc (AV × Ups)
  | .tup cs=>optV cs[i]?
  | _=>.fail
def Zgh (call:M9) (d:Nat) (take:List Nat) (args:List AV):AV→Acc (AV × Ups)
  | .clo f cap=>Za3 call d f (args++cap) take
  | _=>.fail
def Zcl (s t:Site) (u:Ups) (e:Ent):Ups:=bif decide (s=t) then u else u++[(s,{ e with alive:=false,cells:=[] })]
def appB (t:Site) (sz bytes m:Nat) (vs:List AV) (u:Ups) (ss:List Site) (s:Site) (o n z:Nat) (e:Ent):Acc (AV × Ups) :=
  if e.rw=true∧e.var=false∧z=sz∧o+n*sz≤e.cells.length∧(n+m)*bytes≤N7∧ss.contains s=false∧T7 vs=true then
    Zbu t (sub e.cells o (n*sz)++vs) (n+m) sz (Zcl s t u e)
  else .fail
def Zgi (t:Site) (sz bytes m:Nat) (vs:List AV) (u:Ups) (ss:List Site):AV→Acc (AV × Ups)
  | .nils=>if m*bytes≤N7 then Zbu t vs m sz u else .fail
  | .buf s g o n z=>(Q9 s g).bind (appB t sz bytes m vs u ss s o n z)
  | _=>.fail
def Z3w (sz bytes m:Nat) (vs:List AV) (s:Site) (o n z:Nat) (e:Ent):Acc (AV × Ups) :=
  if e.rw=true∧e.var=false∧z=sz∧o+n*sz=e.cells.length∧(n+m)*bytes≤N7∧flats (sub e.cells o (n*sz)++vs)=true then
    .ret (.lst (sub e.cells o (n*sz)++vs) (n+m),[(s,e),(s,{ e with rw:=false })])
  else .fail
def Zp4 (sz bytes m:Nat) (vs:List AV):AV→Acc (AV × Ups)
  | .buf s g o n z=>(Q9 s g).bind (Z3w sz bytes m vs s o n z)
  | _=>.fail
def frzP:List AV × Ups × List Site→Acc (AV × Ups)
  | ([y],u,_)=>.ret (y,u)
  | _=>.fail
def Zlo (t:Site) (sz bytes:Nat) (zero:List AV) (s:AV):AV→Acc (AV × Ups)
  | .int .i64 m=>if 0≤m∧m≤N7 then Zgi t sz bytes m.toNat (rep zero m.toNat) [] [] s else .fail
  | _=>.fail
def Zil:Option Nat→AV→Acc (AV × Ups)
  | some n,_=>one (.int .i64 n)
  | none,.lst _ n=>one (.int .i64 n)
  | none,.buf s g _ n _=>still1 s g (.int .i64 n)
  | none,.nils=>one (.int .i64 0)
  | _,_=>.fail
def Zp5:AV→Acc (AV × Ups)
  | .str l=>one (.int .i64 l.length)
  | _=>.fail
def Zth:AV→Acc (AV × Ups)
  | .str _=>.fail
  | x=>(P6 1 x).bind fun p=>strV (bytesOf p.1)
def Zxg (sz m:Nat) (ys:List AV) (s:Site) (o n z:Nat) (e:Ent):Acc (AV × Ups) :=
  if e.rw=true∧z=sz∧o+n*sz≤e.cells.length∧flats ys=true then
    .ret (.int .i64 (Nat.min m n),[(s,{ e with cells:=over e.cells o (ys.take (Nat.min m n*sz)) })])
  else .fail
def Zp6 (sz m:Nat) (ys:List AV):AV→Acc (AV × Ups)
  | .buf s g o n z=>(Q9 s g).bind (Zxg sz m ys s o n z)
  | _=>.fail
def minV:AV→AV→Acc (AV × Ups)
  | .int k a,.int k' b=>if k=k' then one (.int k (if b<a then b else a)) else .fail
  | _,_=>.fail
def maxV:AV→AV→Acc (AV × Ups)
  | .int k a,.int k' b=>if k=k' then one (.int k (if a<b then b else a)) else .fail
  | _,_=>.fail
def capV:AV→Acc (AV × Ups)
  | .nils=>one (.int .i64 0)
  | _=>.fail
def r2sV:AV→Acc (AV × Ups)
  | .int _ n=>one (.str (Zi7 n))
  | _=>.fail
def Zf3 (s:Site) (c:AV) (f:Nat→AV):Acc (AV × Ups):=(mk s true [c]).bind fun p=>.ret (f p.1,p.2)
def Zjg (s:Site):AV→Acc (AV × Ups)
  | .int _ _=>Zf3 s (.mp [] []) (.mpr s)
  | _=>.fail
def rngV (s:Site):AV→Acc (AV × Ups)
  | .str l=>Zf3 s (.itr l 0) (.it s)
  | _=>.fail
def nxtC (s:Site) (e:Ent):Acc (AV × Ups) :=
  match e.cells with
  | [.itr l p]=>if e.rw=true then (if p<l.length then .ret (.tup [.bool true,.int .i64 p,.int .i32 (Zbb l p).1],[(s,{ e with cells:=[.itr l (p+(Zbb l p).2)] })]) else .ret (.tup [.bool false],[])) else .fail
  | _=>.fail
def nxtV:AV→Acc (AV × Ups)
  | .it s g=>(Q9 s g).bind (nxtC s)
  | _=>.fail
def Zim (zero:AV) (ok:Bool) (vs:List AV):Option (Option Nat)→Acc (AV × Ups)
  | some (some i)=>optV ((vs[i]?).map (okV ok true))
  | some none=>one (okV ok false zero)
  | none=>.fail
def Zxh (str:Bool) (zero:AV) (ok:Bool) (k:AV) (e:Ent):Acc (AV × Ups) :=
  match e.cells with
  | [.mp ks vs]=>Zim zero ok vs (Zah str k ks 0)
  | _=>.fail
def Zp7 (str:Bool) (zero:AV) (ok:Bool) (k:AV):AV→Acc (AV × Ups)
  | .mpr s g=>(Q9 s g).bind (Zxh str zero ok k)
  | .nilm=>one (okV ok false zero)
  | _=>.fail
def Zin (s:Site) (k y:AV) (u:Ups) (e:Ent) (ks vs:List AV):Option (Option Nat)→Acc (AV × Ups)
  | some (some i)=>.ret (.und,u++[(s,{ e with cells:=[.mp (ks.set i k) (vs.set i y)] })])
  | some none=>.ret (.und,u++[(s,{ e with cells:=[.mp (ks++[k]) (vs++[y])] })])
  | none=>.fail
def Zxi (str:Bool) (s:Site) (k y:AV) (u:Ups) (ss:List Site) (e:Ent):Acc (AV × Ups) :=
  match e.cells with
  | [.mp ks vs]=>if e.rw=true∧Zbt k=true∧Zbt y=true∧ss.contains s=false then Zin s k y u e ks vs (Zah str k ks 0) else .fail
  | _=>.fail
def Zp8 (str agg:Bool) (k:AV) (xs:Option (List AV)):AV→Acc (AV × Ups)
  | .mpr s g=>match xs with
    | some xs=>(fix xs).bind fun p=>(Q9 s g).bind (Zxi str s k (Zf2 agg p.1) p.2.1 p.2.2)
    | none=>.fail
  | _=>.fail
def Zlp (s:Site) (e:Ent) (ks vs:List AV):Option (Option Nat)→Acc (AV × Ups)
  | some (some i)=>.ret (.tup [],[(s,{ e with cells:=[.mp (ks.eraseIdx i) (vs.eraseIdx i)] })])
  | some none=>.ret (.tup [],[])
  | none=>.fail
def Zxj (str:Bool) (s:Site) (k:AV) (e:Ent):Acc (AV × Ups) :=
  match e.cells with
  | [.mp ks vs]=>if e.rw=true then Zlp s e ks vs (Zah str k ks 0) else .fail
  | _=>.fail
def Zp9 (str:Bool) (k:AV):AV→Acc (AV × Ups)
  | .mpr s g=>(Q9 s g).bind (Zxj str s k)
  | .nilm=>one (.tup [])
  | _=>.fail
def Zxk (e:Ent):Acc (AV × Ups) :=
  match e.cells with
  | [.mp ks _]=>one (.int .i64 ks.length)
  | _=>.fail
def Zqa:AV→Acc (AV × Ups)
  | .mpr s g=>(Q9 s g).bind Zxk
  | .nilm=>one (.int .i64 0)
  | _=>.fail
def step (call:M9) (ρ:LO→AV) (d:Nat):LOp→Acc (AV × Ups)
  | .mv x=>one (ρ x)
  | .nil sz=>Zbu (.s d 0) [] 0 sz []
  | .pick c a b=>Zp2 (ρ c) (ρ a) (ρ b)
  | .new cells=>Zik (.s d 0) cells
  | .box x=>boxV (.s d 0) (J4 (ρ x))
  | .build zero ps=>Zmy (Zak ρ ps (some zero))
  | .bslice sz n zero ps=>Zgg (.s d 0) n sz (Zak ρ ps (some (rep zero n)))
  | .ld n a=>ldV n (ρ a)
  | .st n a x=>stV n (ρ a) (J4 (ρ x))
  | .nilck x=>Zhs (ρ x)
  | .bin op x y=>optV (I4 op (ρ x) (ρ y))
  | .eqb neg x y=>optV (Zpy neg (ρ x) (ρ y))
  | .eqa ks neg x y=>eqaV ks neg (ρ x) (ρ y)
  | .eqn kd neg x y=>eqnV kd neg (ρ x) (ρ y)
  | .un op x=>optV (Zmx op (ρ x))
  | .cvi k x=>Zmz k (ρ x)
  | .s2s x=>s2sV (ρ x)
  | .s2b x=>s2bV (.s d 0) (ρ x)
  | .b2s x=>Zth (ρ x)
  | .b2b x=>b2bV (ρ x)
  | .mkif t x=>Zln t (ρ x)
  | .mkfn f cap=>one (.clo f (cap.map ρ))
  | .mks sz bytes zero l c=>mksV (.s d 0) sz bytes zero (ρ l) (ρ c)
  | .sl sz arr x lo hi=>slV sz arr (ρ x) (loV (lo.map ρ)) (hiV (Zal arr (ρ x)) (hi.map ρ))
  | .sls x lo hi=>slsV (ρ x) (loV (lo.map ρ)) (hiV (Zal none (ρ x)) (hi.map ρ))
  | .fa x off=>faV off (ρ x)
  | .fld x off n=>Zp3 off n (ρ x)
  | .ia sz arr x i=>iaV sz arr (ρ x) (ρ i)
  | .ix sz arr agg x i=>ixV sz agg arr (ρ x) (ρ i)
  | .s2a n sz x=>s2aV n sz (ρ x)
  | .ext x i=>extV i (ρ x)
  | .call f args take=>Zgh call d take (args.map ρ) (ρ f)
  | .app sz bytes s x=>(P6 sz (ρ x)).bind fun p=>(fix p.1).bind fun q=>Zgi (.s d 0) sz bytes p.2 q.1 q.2.1 q.2.2 (ρ s)
  | .appz sz bytes zero s n=>Zlo (.s d 0) sz bytes zero (ρ s) (ρ n)
  | .len arr x=>Zil arr (ρ x)
  | .lens x=>Zp5 (ρ x)
  | .copy sz dd s=>(P6 sz (ρ s)).bind fun p=>Zp6 sz p.2 p.1 (ρ dd)
  | .min x y=>minV (ρ x) (ρ y)
  | .max x y=>maxV (ρ x) (ρ y)
  | .cap x=>capV (ρ x)
  | .r2s x=>r2sV (ρ x)
  | .rng x=>rngV (.s d 0) (ρ x)
  | .nxt x=>nxtV (ρ x)
  | .mkmap=>Zf3 (.s d 0) (.mp [] []) (.mpr (.s d 0))
  | .mkmapn x=>Zjg (.s d 0) (ρ x)
  | .slm sz x lo hi mx=>Zm0 sz (ρ x) (loV (lo.map ρ)) (ρ hi) (ρ mx)
  | .mget str zero ok m k=>Zp7 str zero ok (ρ k) (ρ m)
  | .mput str m k x=>Zp8 str (V7 (ρ x)) (ρ k) (J4 (ρ x)) (ρ m)
  | .mdel str m k=>Zp9 str (ρ k) (ρ m)
  | .mlen x=>Zqa (ρ x)
  | .frz x=>(fix [ρ x]).bind frzP
  | .appk sz bytes s x=>(P6 sz (ρ x)).bind fun p=>Zp4 sz bytes p.2 p.1 (ρ s)
  | .stop=>.fail
structure RS where
  loc:List (Nat × AV)
  st:A2
def P2 (sl:List (Nat × AV)):List (Nat × AV)→Nat→AV
  | [],n=>T8 sl n
  | (k,v)::r,n=>if k=n then v else P2 sl r n
def evR (E:Env) (sl loc:List (Nat × AV)):LO→AV
  | .t n=>P2 sl loc n
  | .k v=>v
  | .g n=>Zgf (E.glob n)
  | .f n=>.clo n []
def U2:Option Nat→Nat
  | some d=>d
  | none=>0
def Za0 (r:RS) (d:Option Nat) (v:AV) (u:Ups):RS :=
  match d with
  | some d=>⟨(d,v)::r.loc,B5 r.st u⟩
  | none=>⟨r.loc,B5 r.st u⟩
def opR (E:Env) (call:M9) (sl:List (Nat × AV)) (o:LOper) (r:RS):Option RS :=
  match o.guard with
  | none=>match (step call (evR E sl r.loc) (U2 o.dst) o.op).run r.st with
    | some (v,u)=>some (Za0 r o.dst v u)
    | none=>none
  | some (g,want) =>
    match evR E sl r.loc (.t g) with
    | .bool b=>bif (b==want) then (match (step call (evR E sl r.loc) (U2 o.dst) o.op).run r.st with
        | some (v,u)=>some (Za0 r o.dst v u)
        | none=>none) else some (Za0 r o.dst .und [])
    | .und=>some (Za0 r o.dst .und [])
    | _=>none
def R0 (E:Env) (call:M9) (sl:List (Nat × AV)) (o:LOper) (r:RS):List Site × List Site :=
  let a:=step call (evR E sl r.loc) (U2 o.dst) o.op
  let t:=(a.reads r.st,match a.run r.st with|some (_,u)=>u.map (·.1)|none=>[])
  match o.guard with
  | none=>t
  | some (g,want) =>
    match evR E sl r.loc (.t g) with
    | .bool b=>bif b==want then t else ([],[])
    | _=>([],[])
def O8 (E:Env) (call:M9) (sl:List (Nat × AV)):List LOper→RS→Option RS
  | [],r=>some r
  | o::os,r=>match opR E call sl o r with|some r'=>O8 E call sl os r'|none=>none
def N0 (E:Env) (call:M9) (sl:List (Nat × AV)):List LOper→RS→List (List Site × List Site)
  | [],_=>[]
  | o::os,r=>R0 E call sl o r::(match opR E call sl o r with|some r'=>N0 E call sl os r'|none=>[])
def Zbv:List Site→List Site→Bool
  | [],_=>false
  | s::ss,ts=>ts.contains s||Zbv ss ts
def Zqb (a b:List Site × List Site):Bool := !(Zbv a.2 b.1) && !(Zbv a.2 b.2) && !(Zbv a.1 b.2)
def X0 (ts:List (List Site × List Site)) (pairs:List (Nat × Nat)):Bool :=
  pairs.all fun (i,j)=>Zqb (ts.getD i ([],[])) (ts.getD j ([],[]))
end Cod
namespace Cod
open Go
structure St where
  sl:List (Nat × AV)
  st:A2
inductive It
  | c (x:LCode)
  | blk (n:Nat)
  | lp (live:List Nat) (x:LCode)
  | scp (x:LCode)
def T1 (n:Nat):List It→Option (List It)
  | []=>none
  | .blk m::k=>if m=n then some k else T1 n k
  | _::k=>T1 n k
def P9:LCode→Nat→Option LCode
  | .seq a b,l=>match P9 a l with|some r=>some (.seq r b)|none=>P9 b l
  | .label m,l=>if m=l then some .skip else none
  | _,_=>none
def Y5 (n:Nat):List It→Option (List It)
  | []=>none
  | .scp x::k=>match P9 x n with|some r=>some (.c r::.scp x::k)|none=>Y5 n k
  | _::k=>Y5 n k
def Za1 (loc:List (Nat × AV)) (sl0:List (Nat × AV)):List Nat→List (Nat × AV)→List (Nat × AV)
  | [],sl=>sl
  | t::ts,sl=>Za1 loc sl0 ts (Zi8 sl t (P2 sl0 loc t))
def N1 (σ:A2):Nat→List (Site × Nat)→List (Site × Nat)→List (Site × Nat)
  | 0,_,acc=>acc
  | _+1,[],acc=>acc
  | n+1,(s,g)::r,acc =>
    if acc.contains (s,g) then N1 σ n r acc
    else match A8 σ s with
      | some e=>if e.alive=true∧e.g=g then N1 σ n (r++refsOfs e.cells) (acc++[(s,g)]) else N1 σ n r acc
      | none=>N1 σ n r acc
def N6 (base:Nat→Site):Nat→List (Site × Nat)→Site→Nat→Option (Site × Nat)
  | _,[],_,_=>none
  | j,(s',g')::r,s,g =>
    if s'=s∧g'=g then some (match s with|.up _=>(s,g)|_=>(base j,0)) else N6 base (j+1) r s g
def ups:A2→List (Site × Nat)
  | []=>[]
  | (.up s,e)::r=>if e.alive=true then (.up s,e.g)::ups r else ups r
  | _::r=>ups r
def U3 (σ:A2) (f:Site→Nat→Option (Site × Nat)):List (Site × Nat)→A2
  | []=>[]
  | (s,g)::r =>
    match A8 σ s,f s g with
    | some e,some (s',g')=>(s',{ e with g:=g',cells:=rens f e.cells })::U3 σ f r
    | _,_=>U3 σ f r
def Zqc (live:List Nat) (st:St):St :=
  let acc:=N1 st.st 64 (ups st.st++live.flatMap fun t=>V6 (T8 st.sl t)) []
  let f:=N6 (Site.s 1000000) 0 acc
  ⟨live.map fun t=>(t,ren f (T8 st.sl t)),U3 st.st f acc⟩
def Zio (st:St):LRes→Option AV
  | .tmp t=>some (T8 st.sl t)
  | .cell t n =>
    match T8 st.sl t with
    | .ref s g off=>(Q9 s g).run st.st |>.bind fun e=>(match n with
      | none=>e.cells[off]?
      | some n=>if off+n≤e.cells.length then some (.agg (sub e.cells off n)) else none)
    | _=>none
def Zbp (st:St):List LRes→Option (List AV)
  | []=>some []
  | r::rs=>match Zio st r,Zbp st rs with|some v,some vs=>some (v::vs)|_,_=>none
def Zlg:List AV→AV
  | [v]=>v
  | vs=>.tup vs
def Zcm (res:List LRes) (st:St):Option (AV × A2) :=
  match Zbp st res with
  | some vs =>
    let acc:=N1 st.st 64 (ups st.st++refsOfs vs) []
    let f:=N6 Site.r 0 acc
    some (Zlg (rens f vs),U3 st.st f acc)
  | none=>none
def params:Nat→List AV→List (Nat × AV)
  | _,[]=>[]
  | i,v::vs=>(i,v)::params (i+1) vs
inductive Mv
  | go (k:List It) (st:St)
  | done
  | stuck
def move (E:Env) (call:M9) (st:St):List It→Mv
  | []=>.done
  | .blk _::k=>.go k st
  | .lp live x::k=>.go (.c x::.lp live x::k) (Zqc live st)
  | .scp _::k=>.go k st
  | .c (.scope x)::k=>.go (.c x::.scp x::k) st
  | .c (.label _)::k=>.go k st
  | .c (.goto n)::k=>match Y5 n k with|some k'=>.go k' st|none=>.stuck
  | .c .skip::k=>.go k st
  | .c .ret::_=>.done
  | .c (.exit n)::k=>match T1 n k with|some k'=>.go k' st|none=>.stuck
  | .c (.seq a b)::k=>.go (.c a::.c b::k) st
  | .c (.cond c a b)::k =>
    match ev E st.sl c with
    | .bool t=>bif t then .go (.c a::k) st else .go (.c b::k) st
    | _=>.stuck
  | .c (.block n a)::k=>.go (.c a::.blk n::k) st
  | .c (.loop live a)::k=>.go (.c a::.lp live a::k) (Zqc live st)
  | .c (.reg ops keep)::k =>
    match O8 E call st.sl ops ⟨[],st.st⟩ with
    | some r=>.go k ⟨Za1 r.loc st.sl keep st.sl,r.st⟩
    | none=>.stuck
  | .c (.dreg ops pairs keep)::k =>
    match O8 E call st.sl ops ⟨[],st.st⟩ with
    | some r=>if X0 (N0 E call st.sl ops ⟨[],st.st⟩) pairs=true then .go k ⟨Za1 r.loc st.sl keep st.sl,r.st⟩ else .stuck
    | none=>.stuck
mutual
def Y8 (E:Env) (n:Nat) (fn:List LRes) (k:List It) (st:St):Option (AV × A2) :=
  match n with
  | 0=>none
  | n+1 =>
    match move E (acall E n) st k with
    | .go k' st'=>Y8 E n fn k' st'
    | .done=>Zcm fn st
    | .stuck=>none
  termination_by structural n
def acall (E:Env) (n:Nat) (f:Nat) (args:List AV) (σ:A2):Option (AV × A2) :=
  match n with
  | 0=>none
  | n+1 =>
    match E.known f with
    | some h=>h args σ
    | none =>
      match E.fn f with
      | some fn=>bif args.length==fn.np then Y8 E n fn.results [.c fn.code] ⟨params 0 args,σ⟩ else none
      | none=>none
  termination_by structural n
end
end Cod
namespace Cod
open Go
theorem Acc.run_bind {α β:Type} (x:Acc α) (f : α→Acc β) (σ:A2):(x.bind f).run σ=(x.run σ).bind fun a=>(f a).run σ:=by
  induction x with
  | ret a=>rfl
  | fail=>rfl
  | get s k ih=>exact ih _
def LeC (c c':M9):Prop:=∀ f a σ r,c f a σ=some r→c' f a σ=some r
theorem Zqd {c c':M9} (h:LeC c c') {d f:Nat} {args:List AV} {take:List Nat} {σ:A2} {x:AV × Ups}
    (hx:(Za3 c d f args take).run σ=some x):(Za3 c' d f args take).run σ=some x:=by
  unfold Za3 at hx ⊢
  rw [Acc.run_bind] at hx ⊢
  cases h1:(R2 0 take args).run σ with
  | none=>rw [h1] at hx;cases hx
  | some p =>
    rw [h1] at hx
    simp only [Yfg] at hx ⊢
    rw [Acc.run_bind] at hx ⊢
    cases h2:(Zai 64 p.2.1 []).run σ with
    | none=>rw [h2] at hx;cases hx
    | some es =>
      rw [h2] at hx
      simp only [Yfg] at hx ⊢
      cases h3:c f (rens (Z3 es) p.1) (N2 es es) with
      | none=>rw [h3] at hx;cases hx
      | some r=>rw [h3] at hx;rw [h _ _ _ _ h3];exact hx
theorem Zlq {c c':M9} (h:LeC c c') {ρ:LO→AV} {d:Nat} {op:LOp} {σ:A2} {x:AV × Ups}
    (hx:(step c ρ d op).run σ=some x):(step c' ρ d op).run σ=some x:=by
  cases op<;>try exact hx
  case call f args take =>
    simp only [step] at hx ⊢
    cases hf : ρ f<;>simp only [hf,Zgh] at hx ⊢<;>first|exact hx|exact Zqd h hx
theorem Zjr {E:Env} {c c':M9} (h:LeC c c') {sl:List (Nat × AV)} {o:LOper} {r r':RS} (hx:opR E c sl o r=some r'):opR E c' sl o r=some r':=by
  have key:∀ z,(match (step c (evR E sl r.loc) (U2 o.dst) o.op).run r.st with|some (v,u)=>some (Za0 r o.dst v u)|none=>none)=some z →
      (match (step c' (evR E sl r.loc) (U2 o.dst) o.op).run r.st with|some (v,u)=>some (Za0 r o.dst v u)|none=>none)=some z:=by
    intro z hz
    cases h1:(step c (evR E sl r.loc) (U2 o.dst) o.op).run r.st with
    | none=>rw [h1] at hz;cases hz
    | some p=>rw [h1] at hz;rw [Zlq h h1];exact hz
  unfold opR at hx ⊢
  cases hg:o.guard with
  | none=>simp only [hg] at hx ⊢;exact key _ hx
  | some p =>
    obtain ⟨g,want⟩:=p
    simp only [hg] at hx ⊢
    cases he:evR E sl r.loc (.t g)<;>simp only [he] at hx ⊢<;>try exact hx
    rename_i b
    cases hb:(b==want)<;>simp only [hb,cond_true,cond_false] at hx ⊢
    · exact hx
    · exact key _ hx
theorem Zht {E:Env} {c c':M9} (h:LeC c c') {sl:List (Nat × AV)}:∀ {os:List LOper} {r r':RS},O8 E c sl os r=some r'→O8 E c' sl os r=some r':=by
  intro os
  induction os with
  | nil=>intro r r' hx;exact hx
  | cons o os ih =>
    intro r r' hx
    simp only [O8] at hx ⊢
    cases h1:opR E c sl o r with
    | none=>rw [h1] at hx;cases hx
    | some r1=>rw [h1] at hx;rw [Zjr h h1];exact ih hx
theorem Zm1 {c c':M9} (h:LeC c c') {d f:Nat} {args:List AV} {take:List Nat} {σ:A2} {x:AV × Ups}
    (hx:(Za3 c d f args take).run σ=some x):(Za3 c' d f args take).reads σ=(Za3 c d f args take).reads σ:=by
  have rb:∀ {α β:Type} (x:Acc α) (f : α→Acc β),(x.bind f).reads σ=x.reads σ++(match x.run σ with|some a=>(f a).reads σ|none=>[]):=by
    intro α β x f
    induction x with
    | ret a=>rfl
    | fail=>rfl
    | get s k ih=>exact congrArg (s :: ·) (ih _)
  unfold Za3 at hx ⊢
  rw [Acc.run_bind] at hx
  rw [rb,rb]
  cases h1:(R2 0 take args).run σ with
  | none=>rw [h1] at hx<;>cases hx
  | some p =>
    rw [h1] at hx
    simp only [Yfg] at hx ⊢
    rw [Acc.run_bind] at hx
    rw [rb,rb]
    cases h2:(Zai 64 p.2.1 []).run σ with
    | none=>rw [h2] at hx<;>cases hx
    | some es =>
      rw [h2] at hx
      simp only [Yfg] at hx ⊢
      cases h3:c f (rens (Z3 es) p.1) (N2 es es) with
      | none=>rw [h3] at hx;cases hx
      | some r=>rw [h _ _ _ _ h3]
theorem Zti {c c':M9} (h:LeC c c') {ρ:LO→AV} {d:Nat} {op:LOp} {σ:A2} {x:AV × Ups}
    (hx:(step c ρ d op).run σ=some x):(step c' ρ d op).reads σ=(step c ρ d op).reads σ:=by
  cases op<;>try rfl
  case call f args take =>
    simp only [step] at hx ⊢
    cases hf : ρ f<;>simp only [hf,Zgh] at hx ⊢
    exact Zm1 h hx
theorem Zqe {E:Env} {c c':M9} (h:LeC c c') {sl:List (Nat × AV)} {o:LOper} {r r':RS} (hx:opR E c sl o r=some r'):R0 E c' sl o r=R0 E c sl o r:=by
  have key:∀ z,(match (step c (evR E sl r.loc) (U2 o.dst) o.op).run r.st with|some (v,u)=>some (Za0 r o.dst v u)|none=>none)=some z →
      (((step c' (evR E sl r.loc) (U2 o.dst) o.op).reads r.st,(match (step c' (evR E sl r.loc) (U2 o.dst) o.op).run r.st with|some (_,u)=>u.map (fun x=>x.1)|none=>[])):List Site × List Site) =
      ((step c (evR E sl r.loc) (U2 o.dst) o.op).reads r.st,(match (step c (evR E sl r.loc) (U2 o.dst) o.op).run r.st with|some (_,u)=>u.map (fun x=>x.1)|none=>[])):=by
    intro z hz
    cases h1:(step c (evR E sl r.loc) (U2 o.dst) o.op).run r.st with
    | none=>rw [h1] at hz;cases hz
    | some p=>rw [Zlq h h1,Zti h h1]
  unfold opR at hx
  unfold R0
  cases hg:o.guard with
  | none=>simp only [hg] at hx ⊢;exact key _ hx
  | some p =>
    obtain ⟨g,want⟩:=p
    simp only [hg] at hx ⊢
    cases he:evR E sl r.loc (.t g)<;>simp only [he] at hx ⊢
    rename_i b
    cases hb:(b==want)<;>simp only [hb,cond_true,cond_false] at hx ⊢
    · exact key _ hx
theorem Zgj {E:Env} {c c':M9} (h:LeC c c') {sl:List (Nat × AV)}:∀ {os:List LOper} {r r':RS},O8 E c sl os r=some r'→N0 E c' sl os r=N0 E c sl os r:=by
  intro os
  induction os with
  | nil=>intro r r' _;rfl
  | cons o os ih =>
    intro r r' hx
    simp only [O8] at hx
    simp only [N0]
    cases h1:opR E c sl o r with
    | none=>rw [h1] at hx;cases hx
    | some r1=>rw [h1] at hx;rw [Zjr h h1,Zqe h h1];exact congrArg _ (ih hx)
theorem V3 {E:Env} {c c':M9} (h:LeC c c') {st:St} {k:List It} {m:Mv} (hm:m≠.stuck) (hx:move E c st k=m):move E c' st k=m:=by
  cases k with
  | nil=>exact hx
  | cons i k =>
    cases i with
    | blk n=>exact hx
    | lp l x=>exact hx
    | scp x=>exact hx
    | c x =>
      cases x<;>try exact hx
      case reg ops keep =>
        simp only [move] at hx ⊢
        cases h1:O8 E c st.sl ops ⟨[],st.st⟩ with
        | none=>rw [h1] at hx;exact absurd hx.symm hm
        | some r=>rw [h1] at hx;rw [Zht h h1];exact hx
      case dreg ops pairs keep =>
        simp only [move] at hx ⊢
        cases h1:O8 E c st.sl ops ⟨[],st.st⟩ with
        | none=>rw [h1] at hx;exact absurd hx.symm hm
        | some r=>rw [h1] at hx;rw [Zht h h1,Zgj h h1];exact hx
theorem Zlr (E:Env):∀ n,(∀ fn k st r,Y8 E n fn k st=some r→Y8 E (n+1) fn k st=some r)∧LeC (acall E n) (acall E (n+1)):=by
  intro n
  induction n with
  | zero=>exact ⟨fun fn k st r h=>by simp [Y8] at h,fun f a σ r h=>by simp [acall] at h⟩
  | succ n ih =>
    obtain ⟨ih1,ih2⟩:=ih
    constructor
    · intro fn k st r h
      rw [Y8] at h ⊢
      cases hm:move E (acall E n) st k with
      | go k' st'=>rw [hm] at h;rw [V3 ih2 (by simp) hm];exact ih1 _ _ _ _ h
      | done=>rw [hm] at h;rw [V3 ih2 (by simp) hm];exact h
      | stuck=>rw [hm] at h;cases h
    · intro f a σ r h
      rw [acall] at h ⊢
      cases hk:E.known f with
      | some g=>rw [hk] at h;exact h
      | none =>
        rw [hk] at h
        cases hf:E.fn f with
        | none=>rw [hf] at h;cases h
        | some fn =>
          rw [hf] at h;simp only [] at h ⊢
          cases hb:(a.length==fn.np)<;>rw [hb] at h<;>simp only [cond_true,cond_false] at h ⊢
          · cases h
          · exact ih1 _ _ _ _ h
theorem Zes {E:Env} {n m:Nat} (h:n≤m):LeC (acall E n) (acall E m):=by
  induction h with
  | refl=>exact fun _ _ _ _ h=>h
  | step _ ih=>exact fun f a σ r h=>(Zlr E _).2 f a σ r (ih f a σ r h)
theorem Zm2 {E:Env} {n m:Nat} (h:n≤m) {fn k st r} (hx:Y8 E n fn k st=some r):Y8 E m fn k st=some r:=by
  induction h with
  | refl=>exact hx
  | step _ ih=>exact (Zlr E _).1 _ _ _ _ ih
open Classical in
noncomputable def S (E:Env):M9:=fun f a σ=>if h:∃ r,∃ n,acall E n f a σ=some r then some h.choose else none
open Classical in
noncomputable def X (E:Env) (fn:List LRes) (k:List It) (st:St):Option (AV × A2):=if h:∃ r,∃ n,Y8 E n fn k st=some r then some h.choose else none
theorem Zel {E:Env} {f a σ r}:S E f a σ=some r↔∃ n,acall E n f a σ=some r:=by
  unfold S
  constructor
  · intro h
    split at h
    · rename_i hh;cases h;exact hh.choose_spec
    · cases h
  · rintro ⟨n,hn⟩
    have hh:∃ r,∃ n,acall E n f a σ=some r:=⟨r,n,hn⟩
    rw [dif_pos hh]
    obtain ⟨m,hm⟩:=hh.choose_spec
    have h1:=Zes (Yfh n m) _ _ _ _ hn
    have h2:=Zes (Yfi n m) _ _ _ _ hm
    rw [h1] at h2
    exact h2.symm
theorem Zjs {E:Env} {fn k st r}:X E fn k st=some r↔∃ n,Y8 E n fn k st=some r:=by
  unfold X
  constructor
  · intro h
    split at h
    · rename_i hh;cases h;exact hh.choose_spec
    · cases h
  · rintro ⟨n,hn⟩
    have hh:∃ r,∃ n,Y8 E n fn k st=some r:=⟨r,n,hn⟩
    rw [dif_pos hh]
    obtain ⟨m,hm⟩:=hh.choose_spec
    have h1:=Zm2 (Yfh n m) hn
    have h2:=Zm2 (Yfi n m) hm
    rw [h1] at h2
    exact h2.symm
theorem S_le (E:Env) (n:Nat):LeC (acall E n) (S E):=fun _ _ _ _ h=>Zel.2 ⟨n,h⟩
theorem Zza {E:Env} {ρ:LO→AV} {d:Nat} {op:LOp} {σ:A2} {x:AV × Ups}
    (hx:(step (S E) ρ d op).run σ=some x):∃ n,(step (acall E n) ρ d op).run σ=some x:=by
  cases op<;>try exact ⟨0,hx⟩
  case call f args take =>
    simp only [step] at hx ⊢
    cases hf : ρ f<;>simp only [hf,Zgh] at hx ⊢<;>try exact ⟨0,hx⟩
    rename_i g cap
    unfold Za3 at hx
    rw [Acc.run_bind] at hx
    cases h1:(R2 0 take (args.map ρ++cap)).run σ with
    | none=>rw [h1] at hx;cases hx
    | some p =>
      rw [h1] at hx
      simp only [Yfg] at hx ⊢
      rw [Acc.run_bind] at hx
      cases h2:(Zai 64 p.2.1 []).run σ with
      | none=>rw [h2] at hx;cases hx
      | some es =>
        rw [h2] at hx
        simp only [Yfg] at hx
        cases h3:S E g (rens (Z3 es) p.1) (N2 es es) with
        | none=>rw [h3] at hx;cases hx
        | some r =>
          rw [h3] at hx
          obtain ⟨n,hn⟩:=Zel.1 h3
          refine ⟨n,?_⟩
          unfold Za3
          rw [Acc.run_bind,h1]
          simp only [Yfg]
          rw [Acc.run_bind,h2]
          simp only [Yfg]
          rw [hn];exact hx
theorem Z3x {E:Env} {sl:List (Nat × AV)} {o:LOper} {r r':RS} (hx:opR E (S E) sl o r=some r'):∃ n,opR E (acall E n) sl o r=some r':=by
  have key:∀ z,(match (step (S E) (evR E sl r.loc) (U2 o.dst) o.op).run r.st with|some (v,u)=>some (Za0 r o.dst v u)|none=>none)=some z →
      ∃ n,(match (step (acall E n) (evR E sl r.loc) (U2 o.dst) o.op).run r.st with|some (v,u)=>some (Za0 r o.dst v u)|none=>none)=some z:=by
    intro z hz
    cases h1:(step (S E) (evR E sl r.loc) (U2 o.dst) o.op).run r.st with
    | none=>rw [h1] at hz;cases hz
    | some p=>rw [h1] at hz;obtain ⟨n,hn⟩:=Zza h1;exact ⟨n,by rw [hn];exact hz⟩
  unfold opR at hx ⊢
  cases hg:o.guard with
  | none=>simp only [hg] at hx ⊢;exact key _ hx
  | some p =>
    obtain ⟨g,want⟩:=p
    simp only [hg] at hx ⊢
    cases he:evR E sl r.loc (.t g)<;>simp only [he] at hx ⊢<;>try exact ⟨0,hx⟩
    rename_i b
    cases hb:(b==want)<;>simp only [hb,cond_true,cond_false] at hx ⊢
    · exact ⟨0,hx⟩
    · exact key _ hx
theorem Zls {E:Env} {sl:List (Nat × AV)}:∀ {os:List LOper} {r r':RS},O8 E (S E) sl os r=some r'→∃ n,O8 E (acall E n) sl os r=some r':=by
  intro os
  induction os with
  | nil=>intro r r' hx;exact ⟨0,hx⟩
  | cons o os ih =>
    intro r r' hx
    simp only [O8] at hx ⊢
    cases h1:opR E (S E) sl o r with
    | none=>rw [h1] at hx;cases hx
    | some r1 =>
      rw [h1] at hx
      obtain ⟨n,hn⟩:=Z3x h1
      obtain ⟨m,hm⟩:=ih hx
      refine ⟨max n m,?_⟩
      rw [Zjr (Zes (Yfh n m)) hn]
      exact Zht (Zes (Yfi n m)) hm
theorem Zlt {E:Env} {st:St} {k:List It} {m:Mv} (hm:m≠.stuck) (hx:move E (S E) st k=m):∃ n,move E (acall E n) st k=m:=by
  cases k with
  | nil=>exact ⟨0,hx⟩
  | cons i k =>
    cases i with
    | blk n=>exact ⟨0,hx⟩
    | lp l x=>exact ⟨0,hx⟩
    | scp x=>exact ⟨0,hx⟩
    | c x =>
      cases x<;>try exact ⟨0,hx⟩
      case reg ops keep =>
        simp only [move] at hx ⊢
        cases h1:O8 E (S E) st.sl ops ⟨[],st.st⟩ with
        | none=>rw [h1] at hx;exact absurd hx.symm hm
        | some r=>rw [h1] at hx;obtain ⟨n,hn⟩:=Zls h1;exact ⟨n,by rw [hn];exact hx⟩
      case dreg ops pairs keep =>
        simp only [move] at hx ⊢
        cases h1:O8 E (S E) st.sl ops ⟨[],st.st⟩ with
        | none=>rw [h1] at hx;exact absurd hx.symm hm
        | some r =>
          rw [h1] at hx
          obtain ⟨n,hn⟩:=Zls h1
          refine ⟨n,?_⟩
          rw [hn,←Zgj (S_le E n) hn];exact hx
theorem Zen (E:Env) (fn:List LRes) (k:List It) (st:St) :
    X E fn k st=match move E (S E) st k with|.go k' st'=>X E fn k' st'|.done=>Zcm fn st|.stuck=>none:=by
  apply Option.ext
  intro r
  constructor
  · intro h
    obtain ⟨n,hn⟩:=Zjs.1 h
    cases n with
    | zero=>simp [Y8] at hn
    | succ n =>
      rw [Y8] at hn
      cases hm:move E (acall E n) st k with
      | go k' st'=>rw [hm] at hn;rw [V3 (S_le E n) (by simp) hm];exact Zjs.2 ⟨n,hn⟩
      | done=>rw [hm] at hn;rw [V3 (S_le E n) (by simp) hm];exact hn
      | stuck=>rw [hm] at hn;cases hn
  · intro h
    cases hm:move E (S E) st k with
    | go k' st' =>
      rw [hm] at h
      obtain ⟨n,hn⟩:=Zlt (by simp) hm
      obtain ⟨m,hm'⟩:=Zjs.1 h
      refine Zjs.2 ⟨max n m+1,?_⟩
      rw [Y8,V3 (Zes (Yfh n m)) (by simp) hn]
      exact Zm2 (Yfi n m) hm'
    | done =>
      rw [hm] at h
      obtain ⟨n,hn⟩:=Zlt (by simp) hm
      exact Zjs.2 ⟨n+1,by rw [Y8,hn];exact h⟩
    | stuck=>rw [hm] at h;cases h
theorem S_eq (E:Env) (f:Nat) (args:List AV) (σ:A2) :
    S E f args σ=match E.known f with
      | some h=>h args σ
      | none=>match E.fn f with|some fn=>bif args.length==fn.np then X E fn.results [.c fn.code] ⟨params 0 args,σ⟩ else none|none=>none:=by
  apply Option.ext
  intro r
  constructor
  · intro h
    obtain ⟨n,hn⟩:=Zel.1 h
    cases n with
    | zero=>simp [acall] at hn
    | succ n =>
      rw [acall] at hn
      cases hk:E.known f with
      | some g=>rw [hk] at hn;exact hn
      | none =>
        rw [hk] at hn
        cases hf:E.fn f with
        | none=>rw [hf] at hn;cases hn
        | some fn =>
          rw [hf] at hn;simp only [] at hn ⊢
          cases hb:(args.length==fn.np)<;>rw [hb] at hn<;>simp only [cond_true,cond_false] at hn ⊢
          · cases hn
          · exact Zjs.2 ⟨n,hn⟩
  · intro h
    cases hk:E.known f with
    | some g=>rw [hk] at h;exact Zel.2 ⟨1,by rw [acall,hk];exact h⟩
    | none =>
      rw [hk] at h
      cases hf:E.fn f with
      | none=>rw [hf] at h;cases h
      | some fn =>
        rw [hf] at h
        simp only [] at h
        cases hb:(args.length==fn.np) with
        | false=>rw [hb] at h;cases h
        | true =>
          rw [hb] at h
          obtain ⟨n,hn⟩:=Zjs.1 h
          exact Zel.2 ⟨n+1,by rw [acall,hk,hf];simp only [hb,cond_true];exact hn⟩
theorem S_fn {E:Env} {f:Nat} {fn:LFn} (hk:E.known f=none) (hf:E.fn f=some fn) {args:List AV} {σ:A2} (hn:args.length=fn.np):S E f args σ=X E fn.results [.c fn.code] ⟨params 0 args,σ⟩:=by
  rw [S_eq,hk,hf]
  simp only [hn,beq_self_eq_true,cond_true]
section
variable {E:Env} {fn:List LRes} {k:List It} {st:St}
theorem X_nil:X E fn [] st=Zcm fn st:=by rw [Zen];rfl
theorem X_blk {n:Nat}:X E fn (.blk n::k) st=X E fn k st:=by rw [Zen];rfl
theorem X_lp {l:List Nat} {x:LCode}:X E fn (.lp l x::k) st=X E fn (.c x::.lp l x::k) (Zqc l st):=by rw [Zen];rfl
theorem X_skip:X E fn (.c .skip::k) st=X E fn k st:=by rw [Zen];rfl
theorem X_ret:X E fn (.c .ret::k) st=Zcm fn st:=by rw [Zen];rfl
theorem X_exit {n:Nat}:X E fn (.c (.exit n)::k) st=match T1 n k with|some k'=>X E fn k' st|none=>none:=by
  rw [Zen];simp only [move];cases T1 n k<;>rfl
theorem X_scp {x:LCode}:X E fn (.scp x::k) st=X E fn k st:=by rw [Zen];rfl
theorem Ya5 {x:LCode}:X E fn (.c (.scope x)::k) st=X E fn (.c x::.scp x::k) st:=by rw [Zen];rfl
theorem Ya6 {n:Nat}:X E fn (.c (.label n)::k) st=X E fn k st:=by rw [Zen];rfl
theorem X_goto {n:Nat}:X E fn (.c (.goto n)::k) st=match Y5 n k with|some k'=>X E fn k' st|none=>none:=by
  rw [Zen];simp only [move];cases Y5 n k<;>rfl
theorem X_seq {a b:LCode}:X E fn (.c (.seq a b)::k) st=X E fn (.c a::.c b::k) st:=by rw [Zen];rfl
theorem Ya7 {n:Nat} {a:LCode}:X E fn (.c (.block n a)::k) st=X E fn (.c a::.blk n::k) st:=by rw [Zen];rfl
theorem X_loop {l:List Nat} {x:LCode}:X E fn (.c (.loop l x)::k) st=X E fn (.c x::.lp l x::k) (Zqc l st):=by rw [Zen];rfl
theorem X_cond {c:LO} {a b:LCode}:X E fn (.c (.cond c a b)::k) st=match ev E st.sl c with|.bool t=>bif t then X E fn (.c a::k) st else X E fn (.c b::k) st|_=>none:=by
  rw [Zen];simp only [move]
  cases ev E st.sl c<;>try rfl
  rename_i t;cases t<;>rfl
theorem X_reg {ops:List LOper} {keep:List Nat}:X E fn (.c (.reg ops keep)::k) st =
    match O8 E (S E) st.sl ops ⟨[],st.st⟩ with|some r=>X E fn k ⟨Za1 r.loc st.sl keep st.sl,r.st⟩|none=>none:=by
  rw [Zen];simp only [move];cases O8 E (S E) st.sl ops ⟨[],st.st⟩<;>rfl
theorem Z3y {ops:List LOper} {pairs:List (Nat × Nat)} {keep:List Nat}:X E fn (.c (.dreg ops pairs keep)::k) st =
    match O8 E (S E) st.sl ops ⟨[],st.st⟩ with
    | some r=>if X0 (N0 E (S E) st.sl ops ⟨[],st.st⟩) pairs=true then X E fn k ⟨Za1 r.loc st.sl keep st.sl,r.st⟩ else none
    | none=>none:=by
  rw [Zen];simp only [move]
  cases O8 E (S E) st.sl ops ⟨[],st.st⟩ with
  | none=>rfl
  | some r =>
    simp only []
    by_cases h:X0 (N0 E (S E) st.sl ops ⟨[],st.st⟩) pairs=true
    · rw [if_pos h,if_pos h]
    · rw [if_neg h,if_neg h]
end
end Cod
namespace Cod
open Go
abbrev Tab:=Site→Option (Nat × Bool)
structure Lay where
  pos:Site→Option (Nat × Nat)
  F:Nat→Prop
instance:CoeFun Lay (fun _=>Site→Option (Nat × Nat)):=⟨Lay.pos⟩
structure Ctx where
  T:Tab
  L:Site→Option (Nat × Nat)
  O:Nat→Prop
  w:World
def Zaf (w:World) (b k:Nat):Prop:=∃ cs el fr,w.heap[b]? = some (.cells cs el fr)∧k≤cs.size
theorem Zaf.zero {w:World} {b k:Nat} (h:Zaf w b k):Zaf w b 0:=by
  obtain ⟨cs,el,fr,h1,_⟩:=h
  exact ⟨cs,el,fr,h1,Nat.zero_le _⟩
def L5 (c:Ctx) (s:Site) (off n z:Nat) (y:Value):Prop :=
  match c.L s with
  | some (b,o)=>(n=0∧Zaf c.w b 0∧∃ q,y=.slice (some ⟨b,q,none⟩) 0 0)∨∃ cap,y=.slice (some ⟨b,o+off,none⟩) n cap∧n≤cap∧Zaf c.w b (o+off+cap*z)
  | none=>y=.slice none 0 0∧off=0∧n=0
def AnyOK:Option IntKind→Value→Prop
  | some k,y=>∃ n,y=.int k n
  | none,y=>y=.nilIface∨∃ t v,y=.iface t v
mutual
def VR (c:Ctx):AV→Value→Prop
  | .junk,_=>True
  | .und,y=>y=undef
  | .int k n,y=>y=.int k n
  | .bool b,y=>y=.bool b
  | .str s,y=>y=.string ⟨s.toArray⟩
  | .nilp,y=>y=.pointer none
  | .nils,y=>y=.slice none 0 0
  | .nilf,y=>y=.nilFunc
  | .nili,y=>y=.nilIface
  | .nilm,y=>y=.map none
  | .any k,y=>AnyOK k y
  | .agg cs,y=>∃ vs,y=.agg vs∧VRL c cs vs.toList
  | .tup cs,y=>∃ vs,y=.tuple vs∧VRL c cs vs.toList
  | .lst cs n,y=>flats cs=true∧((cs=[]∧n=0∧y=.slice none 0 0)∨(∃ b o cap,y=.slice (some ⟨b,o,none⟩) n cap∧n≤cap∧b<c.w.heap.size∧¬ c.O b∧VRC c b o cs))
  | .fp cs off,y=>flats cs=true∧∃ b o,y=.pointer (some ⟨b,o+off,none⟩)∧b<c.w.heap.size∧¬ c.O b∧VRC c b o cs
  | .ref s g off,y=>y.oneCell'=true∧∃ g0 al,c.T s=some (g0,al)∧g≤g0∧(al=true→g=g0→∃ b o,c.L s=some (b,o)∧y=.pointer (some ⟨b,o+off,none⟩)∧Zaf c.w b 0)
  | .buf s g off n z,y=>y.oneCell'=true∧∃ g0 al,c.T s=some (g0,al)∧g≤g0∧(al=true→g=g0→L5 c s off n z y)
  | .clo f cap,y=>∃ vs,y=.func (.func f) #[] vs∧VRL c cap vs.toList
  | .ifc t x,y=>∃ v,y=.iface t v∧VR c x v
  | .it s g,y=>∃ g0 al,c.T s=some (g0,al)∧g≤g0∧(al=true→g=g0→∃ b,c.L s=some (b,0)∧y=.pointer (some ⟨b,0,none⟩))
  | .itr _ _,_=>False
  | .mpr s g,y=>y.oneCell'=true∧∃ g0 al,c.T s=some (g0,al)∧g≤g0∧(al=true→g=g0→∃ b,c.L s=some (b,0)∧y=.map (some b))
  | .mp _ _,_=>False
def VRL (c:Ctx):List AV→List Value→Prop
  | [],vs=>vs=[]
  | a::as,vs=>∃ v r,vs=v::r∧VR c a v∧VRL c as r
def VRC (c:Ctx) (b:Nat):Nat→List AV→Prop
  | _,[]=>True
  | o,a::as=>(∃ v,c.w.cell? ⟨b,o,none⟩=some v∧VR c a v)∧VRC c b (o+1) as
end
structure CLe (c c':Ctx):Prop where
  tab:∀ s g0 al,c.T s=some (g0,al)→∃ g1 al1,c'.T s=some (g1,al1)∧g0≤g1∧(g1=g0→al1=true→al=true∧c'.L s=c.L s)
  own:∀ b,b<c.w.heap.size→c'.O b→c.O b
  block:∀ b,b<c.w.heap.size→¬ c.O b→c'.w.heap[b]? = c.w.heap[b]?
  room:∀ b k,Zaf c.w b k→Zaf c'.w b k
  size:c.w.heap.size≤c'.w.heap.size
theorem CLe.refl (c:Ctx):CLe c c:=⟨fun s g0 al h=>⟨g0,al,h,Yfj _,fun _ h=>⟨h,rfl⟩⟩,fun _ _ h=>h,fun _ _ _=>rfl,fun _ _ h=>h,Yfj _⟩
theorem CLe.trans {a b c:Ctx} (h:CLe a b) (k:CLe b c):CLe a c where
  tab s g0 al h0:=by
    obtain ⟨g1,al1,h1,l1,e1⟩:=h.tab s g0 al h0
    obtain ⟨g2,al2,h2,l2,e2⟩:=k.tab s g1 al1 h1
    refine ⟨g2,al2,h2,Yfk l1 l2,fun hg ha=>?_⟩
    have hg1:g2=g1:=by omega
    have hg0:g1=g0:=by omega
    obtain ⟨a1,b1⟩:=e2 hg1 ha
    obtain ⟨a2,b2⟩:=e1 hg0 a1
    exact ⟨a2,b1.trans b2⟩
  own x hx ho:=h.own x hx (k.own x (Yfl hx h.size) ho)
  block x hx ho:=by
    rw [k.block x (Yfl hx h.size) (fun hb=>ho (h.own x hx hb)),h.block x hx ho]
  room b k' hr:=k.room b k' (h.room b k' hr)
  size:=Yfk h.size k.size
theorem CLe.cell {c c':Ctx} (h:CLe c c') {b:Nat} (hb:b<c.w.heap.size) (ho:¬ c.O b) (o:Nat):c'.w.cell? ⟨b,o,none⟩=c.w.cell? ⟨b,o,none⟩:=by
  simp only [World.cell?,h.block b hb ho]
theorem Z3z {c c':Ctx} (h:CLe c c') {s:Site} (hl:c'.L s=c.L s) {off n z:Nat} {y:Value} (hb:L5 c s off n z y):L5 c' s off n z y:=by
  unfold L5 at *
  rw [hl]
  split at hb
  · rcases hb with ⟨h1,h2,h3⟩|⟨cap,h1,h2,h3⟩
    · exact .inl ⟨h1,h.room _ _ h2,h3⟩
    · exact .inr ⟨cap,h1,h2,h.room _ _ h3⟩
  · exact hb
mutual
theorem Y6 {c c':Ctx} (h:CLe c c'):∀ (x:AV) (v:Value),VR c x v→VR c' x v
  | .junk,_,_=>by simp [VR]
  | .und,_,hv=>by simpa [VR] using hv
  | .int _ _,_,hv=>by simpa [VR] using hv
  | .bool _,_,hv=>by simpa [VR] using hv
  | .str _,_,hv=>by simpa [VR] using hv
  | .nilp,_,hv=>by simpa [VR] using hv
  | .nils,_,hv=>by simpa [VR] using hv
  | .nilf,_,hv=>by simpa [VR] using hv
  | .nili,_,hv=>by simpa [VR] using hv
  | .nilm,_,hv=>by simpa [VR] using hv
  | .any _,_,hv=>by simpa [VR] using hv
  | .agg cs,v,hv=>by
    simp only [VR] at hv ⊢
    obtain ⟨vs,h1,h2⟩:=hv
    exact ⟨vs,h1,VRL_le h cs _ h2⟩
  | .tup cs,v,hv=>by
    simp only [VR] at hv ⊢
    obtain ⟨vs,h1,h2⟩:=hv
    exact ⟨vs,h1,VRL_le h cs _ h2⟩
  | .lst cs n,v,hv=>by
    simp only [VR] at hv ⊢
    obtain ⟨hfl,hv⟩:=hv
    refine ⟨hfl,?_⟩
    rcases hv with hv|⟨b,o,cap,h1,hn,h2,h3,h4⟩
    · exact .inl hv
    · exact .inr ⟨b,o,cap,h1,hn,Yfl h2 h.size,fun ho=>h3 (h.own b h2 ho),VRC_le h b (h.cell h2 h3) o cs h4⟩
  | .fp cs off,v,hv=>by
    simp only [VR] at hv ⊢
    obtain ⟨hfl,b,o,h1,h2,h3,h4⟩:=hv
    exact ⟨hfl,b,o,h1,Yfl h2 h.size,fun ho=>h3 (h.own b h2 ho),VRC_le h b (h.cell h2 h3) o cs h4⟩
  | .ref s g off,v,hv=>by
    simp only [VR] at hv ⊢
    obtain ⟨hone,g0,al,h1,h2,h3⟩:=hv
    obtain ⟨g1,al1,k1,k2,k3⟩:=h.tab s g0 al h1
    refine ⟨hone,g1,al1,k1,Yfk h2 k2,fun ha hg=>?_⟩
    have e:g1=g0:=by omega
    obtain ⟨a1,a2⟩:=k3 e ha
    obtain ⟨b,o,e1,e2,e3⟩:=h3 a1 (by omega)
    exact ⟨b,o,a2.trans e1,e2,h.room _ _ e3⟩
  | .buf s g off n z,v,hv=>by
    simp only [VR] at hv ⊢
    obtain ⟨hone,g0,al,h1,h2,h3⟩:=hv
    obtain ⟨g1,al1,k1,k2,k3⟩:=h.tab s g0 al h1
    refine ⟨hone,g1,al1,k1,Yfk h2 k2,fun ha hg=>?_⟩
    have e:g1=g0:=by omega
    obtain ⟨a1,a2⟩:=k3 e ha
    exact Z3z h a2 (h3 a1 (by omega))
  | .clo f cap,v,hv=>by
    simp only [VR] at hv ⊢
    obtain ⟨vs,h1,h2⟩:=hv
    exact ⟨vs,h1,VRL_le h cap _ h2⟩
  | .ifc t x,v,hv=>by
    simp only [VR] at hv ⊢
    obtain ⟨u,h1,h2⟩:=hv
    exact ⟨u,h1,Y6 h x u h2⟩
  | .it s g,v,hv=>by
    simp only [VR] at hv ⊢
    obtain ⟨g0,al,h1,h2,h3⟩:=hv
    obtain ⟨g1,al1,k1,k2,k3⟩:=h.tab s g0 al h1
    refine ⟨g1,al1,k1,Yfk h2 k2,fun ha hg=>?_⟩
    have e:g1=g0:=by omega
    obtain ⟨a1,a2⟩:=k3 e ha
    obtain ⟨b,e1,e2⟩:=h3 a1 (by omega)
    exact ⟨b,a2.trans e1,e2⟩
  | .itr _ _,_,hv=>by simp [VR] at hv
  | .mpr s g,v,hv=>by
    simp only [VR] at hv ⊢
    obtain ⟨h0,g0,al,h1,h2,h3⟩:=hv
    obtain ⟨g1,al1,k1,k2,k3⟩:=h.tab s g0 al h1
    refine ⟨h0,g1,al1,k1,Yfk h2 k2,fun ha hg=>?_⟩
    have e:g1=g0:=by omega
    obtain ⟨a1,a2⟩:=k3 e ha
    obtain ⟨b,e1,e2⟩:=h3 a1 (by omega)
    exact ⟨b,a2.trans e1,e2⟩
  | .mp _ _,_,hv=>by simp [VR] at hv
theorem VRL_le {c c':Ctx} (h:CLe c c'):∀ (xs:List AV) (vs:List Value),VRL c xs vs→VRL c' xs vs
  | [],_,hv=>by simpa [VRL] using hv
  | a::as,vs,hv=>by
    simp only [VRL] at hv ⊢
    obtain ⟨v,r,h1,h2,h3⟩:=hv
    exact ⟨v,r,h1,Y6 h a v h2,VRL_le h as r h3⟩
theorem VRC_le {c c':Ctx} (h:CLe c c') (b:Nat) (hc:∀ o,c'.w.cell? ⟨b,o,none⟩=c.w.cell? ⟨b,o,none⟩):∀ (o:Nat) (xs:List AV),VRC c b o xs→VRC c' b o xs
  | _,[],_=>by simp [VRC]
  | o,a::as,hv=>by
    simp only [VRC] at hv ⊢
    obtain ⟨⟨v,h1,h2⟩,h3⟩:=hv
    exact ⟨⟨v,(hc o).trans h1,Y6 h a v h2⟩,VRC_le h b hc (o+1) as h3⟩
end
theorem Zdu:∀ {xs ys:List AV},flats (xs++ys)=(flats xs&&flats ys):=by
  intro xs
  induction xs with
  | nil=>intro ys;simp [flats]
  | cons x xs ih=>intro ys;simp only [Yfm,flats,ih,Bool.and_assoc]
theorem Zlu:∀ {xs:List AV},flats xs=true↔∀ x∈xs,M1 x=true:=by
  intro xs
  induction xs with
  | nil=>simp [flats]
  | cons x xs ih=>simp [flats,ih]
theorem Zfk {xs:List AV} (h:flats xs=true) (o n:Nat):flats (sub xs o n)=true :=
  Zlu.2 fun x hx=>Zlu.1 h x (List.mem_of_mem_drop (List.mem_of_mem_take hx))
theorem H5 {c:Ctx}:∀ {xs:List AV} {vs:List Value},VRL c xs vs→vs.length=xs.length:=by
  intro xs
  induction xs with
  | nil=>intro vs h;simp only [VRL] at h;subst h;rfl
  | cons a as ih=>intro vs h;simp only [VRL] at h;obtain ⟨v,r,rfl,_,h3⟩:=h;simp [ih h3]
theorem Zam {c:Ctx}:∀ {xs:List AV} {vs:List Value},VRL c xs vs→∀ {i:Nat} {x:AV},xs[i]? = some x→∃ v,vs[i]? = some v∧VR c x v:=by
  intro xs
  induction xs with
  | nil=>intro vs _ i x hx;simp at hx
  | cons a as ih =>
    intro vs h i x hx
    simp only [VRL] at h
    obtain ⟨v,r,rfl,h2,h3⟩:=h
    cases i with
    | zero=>simp only [List.getElem?_cons_zero,Option.some.injEq] at hx;subst hx;exact ⟨v,rfl,h2⟩
    | succ i=>exact ih h3 (by simpa using hx)
theorem U4 {c:Ctx} {xs ys:List AV} {vs us:List Value} (h:VRL c xs vs) (k:VRL c ys us):VRL c (xs++ys) (vs++us):=by
  induction xs generalizing vs with
  | nil=>simp only [VRL] at h;subst h;exact k
  | cons a as ih=>simp only [VRL] at h;obtain ⟨v,r,rfl,h2,h3⟩:=h;simp only [Yfm,VRL];exact ⟨v,r++us,rfl,h2,ih h3⟩
theorem Zjt {c:Ctx} {xs:List AV} {vs:List Value} (h:VRL c xs vs) (n:Nat):VRL c (xs.take n) (vs.take n):=by
  induction xs generalizing vs n with
  | nil=>simp only [VRL] at h;subst h;simp [VRL]
  | cons a as ih =>
    simp only [VRL] at h;obtain ⟨v,r,rfl,h2,h3⟩:=h
    cases n with
    | zero=>simp [VRL]
    | succ n=>simp only [List.take_succ_cons,VRL];exact ⟨v,_,rfl,h2,ih h3 n⟩
theorem Zqf {c:Ctx} {xs:List AV} {vs:List Value} (h:VRL c xs vs) (n:Nat):VRL c (xs.drop n) (vs.drop n):=by
  induction xs generalizing vs n with
  | nil=>simp only [VRL] at h;subst h;simp [VRL]
  | cons a as ih =>
    simp only [VRL] at h;obtain ⟨v,r,rfl,h2,h3⟩:=h
    cases n with
    | zero=>simp only [List.drop_zero,VRL];exact ⟨v,r,rfl,h2,h3⟩
    | succ n=>simp only [List.drop_succ_cons];exact ih h3 n
theorem Ya8 {c:Ctx} {xs:List AV} {vs:List Value} (h:VRL c xs vs) (o n:Nat):VRL c (sub xs o n) (sub vs o n):=Zjt (Zqf h o) n
theorem Zc2 {c:Ctx} {x:AV} {v:Value} (h:VR c x v):VRL c [x] [v]:=by simp only [VRL];exact ⟨v,[],rfl,h,rfl⟩
theorem Za7 {c:Ctx} {b:Nat}:∀ {o:Nat} {xs:List AV},VRC c b o xs→∀ {i:Nat} {x:AV},xs[i]? = some x→∃ v,c.w.cell? ⟨b,o+i,none⟩=some v∧VR c x v:=by
  intro o xs
  induction xs generalizing o with
  | nil=>intro _ i x hx;simp at hx
  | cons a as ih =>
    intro h i x hx
    simp only [VRC] at h
    obtain ⟨⟨v,h1,h2⟩,h3⟩:=h
    cases i with
    | zero=>simp only [List.getElem?_cons_zero,Option.some.injEq] at hx;subst hx;exact ⟨v,by simpa using h1,h2⟩
    | succ i =>
      obtain ⟨u,h4,h5⟩:=ih h3 (i:=i) (by simpa using hx)
      exact ⟨u,by rw [show o+(i+1)=o+1+i by omega];exact h4,h5⟩
theorem Q5 {c:Ctx} {b:Nat}:∀ {o:Nat} {xs:List AV},(∀ i x,xs[i]? = some x→∃ v,c.w.cell? ⟨b,o+i,none⟩=some v∧VR c x v)→VRC c b o xs:=by
  intro o xs
  induction xs generalizing o with
  | nil=>intro _;simp [VRC]
  | cons a as ih =>
    intro h
    simp only [VRC]
    refine ⟨by simpa using h 0 a (by simp),ih fun i x hx=>?_⟩
    obtain ⟨v,h1,h2⟩:=h (i+1) x (by simpa using hx)
    exact ⟨v,by rw [show o+1+i=o+(i+1) by omega];exact h1,h2⟩
theorem Za8 {c:Ctx} {b o:Nat} {xs:List AV} (h:VRC c b o xs) (k n:Nat):VRC c b (o+k) (sub xs k n):=by
  refine Q5 fun i x hx=>?_
  have h1:xs[k+i]? = some x:=by
    unfold sub at hx
    rw [List.getElem?_take] at hx
    split at hx
    · rw [List.getElem?_drop] at hx;exact hx
    · cases hx
  obtain ⟨v,h2,h3⟩:=Za7 h h1
  exact ⟨v,by rw [show o+k+i=o+(k+i) by omega];exact h2,h3⟩
theorem Zet {c:Ctx} {b:Nat}:∀ {o:Nat} {xs:List AV},VRC c b o xs→∃ vs:List Value,VRL c xs vs∧∀ i v,vs[i]? = some v→c.w.cell? ⟨b,o+i,none⟩=some v:=by
  intro o xs
  induction xs generalizing o with
  | nil=>intro _;exact ⟨[],by simp [VRL],by simp⟩
  | cons a as ih =>
    intro h
    simp only [VRC] at h
    obtain ⟨⟨v,h1,h2⟩,h3⟩:=h
    obtain ⟨vs,h4,h5⟩:=ih h3
    refine ⟨v::vs,by simp only [VRL];exact ⟨v,vs,rfl,h2,h4⟩,fun i u hu=>?_⟩
    cases i with
    | zero=>simp only [List.getElem?_cons_zero,Option.some.injEq] at hu;subst hu;simpa using h1
    | succ i=>rw [show o+(i+1)=o+1+i by omega];exact h5 i u (by simpa using hu)
def Ztj (σ:A2):Tab:=fun s=>(A8 σ s).map fun e=>(e.g,e.alive)
def I6 (σ:A2) (L:Lay):Nat→Prop:=fun b=>∃ s e o,A8 σ s=some e∧e.alive=true∧e.rw=true∧L s=some (b,o)
def inS (σ:A2) (L:Lay):Nat→Prop:=fun b=>∃ s e o,A8 σ s=some e∧e.alive=true∧L s=some (b,o)
def ctx (σ:A2) (L:Lay) (w:World):Ctx:=⟨Ztj σ,L.pos,fun b=>I6 σ L b∨L.F b,w⟩
def Zeo (w:World) (b n:Nat):Prop:=∃ cs el fr,w.heap[b]? = some (.cells cs el fr)∧n≤cs.size∧(fr.1=fr.2∨cs.size≤fr.1)
def Z8 (c:Ctx) (b:Nat) (e:Ent):Prop :=
  (∃ s p,e.cells=[.itr s p]∧c.w.heap[b]? = some (.stringIter ⟨s.toArray⟩ p)) ∨
  ∃ ks vs es clock,e.cells=[.mp ks vs]∧Q3 ks=true∧Q3 vs=true∧c.w.heap[b]? = some (.map es clock)∧VRL c ks (es.toList.map (·.key))∧VRL c vs (es.toList.map (·.val))
def V1 (c:Ctx) (s:Site) (e:Ent):Prop :=
  match c.L s with
  | none=>e.cells=[]∧e.var=false
  | some (b,o)=>(Zeo c.w b (o+e.cells.length)∧VRC c b o e.cells)∨(o=0∧Z8 c b e)
structure StoreOK (σ:A2) (L:Lay) (w:World):Prop where
  ent:∀ s e,A8 σ s=some e→e.alive=true→V1 (ctx σ L w) s e
  apart:∀ s s' e e' b o o',A8 σ s=some e→e.alive=true→A8 σ s'=some e'→e'.alive=true→L s=some (b,o)→L s'=some (b,o')→s=s'
structure Keep (O:Nat→Prop) (w w':World):Prop where
  os:w'.os=w.os
  tape:w'.tape=w.tape
  output:w'.output=w.output
  size:w.heap.size≤w'.heap.size
  block:∀ b,b<w.heap.size→¬ O b→w'.heap[b]? = w.heap[b]?
  room:∀ b k,Zaf w b k→Zaf w' b k
theorem Keep.refl (O:Nat→Prop) (w:World):Keep O w w:=⟨rfl,rfl,rfl,Yfj _,fun _ _ _=>rfl,fun _ _ h=>h⟩
theorem Keep.trans {O O':Nat→Prop} {a b c:World} (h:Keep O a b) (k:Keep O' b c) (ho:∀ x,x<a.heap.size→O' x→O x):Keep O a c :=
  ⟨k.os.trans h.os,k.tape.trans h.tape,k.output.trans h.output,Yfk h.size k.size,
   fun x hx hn=>by rw [k.block x (Yfl hx h.size) (fun q=>hn (ho x hx q)),h.block x hx hn],fun b n hr=>k.room b n (h.room b n hr)⟩
theorem Keep.mono {O O':Nat→Prop} {a b:World} (h:Keep O a b) (ho:∀ x,O x→O' x):Keep O' a b :=
  ⟨h.os,h.tape,h.output,h.size,fun x hx hn=>h.block x hx (fun q=>hn (ho x q)),h.room⟩
end Cod
namespace Cod
open Go
theorem Zlv (σ:A2) (s:Site) (e:Ent) (t:Site):A8 (H9 σ s e) t=if s=t then some e else A8 σ t:=by
  induction σ with
  | nil=>simp [H9,A8]
  | cons p σ ih =>
    obtain ⟨u,f⟩:=p
    simp only [H9]
    by_cases hu:u=s
    · subst hu
      simp only [if_pos,A8]
      by_cases ht:u=t
      · simp [ht]
      · simp [ht]
    · simp only [if_neg hu,A8,ih]
      by_cases ht:u=t
      · subst ht;simp [Ne.symm hu]
      · simp [ht]
theorem C1 (σ:A2) (s:Site) (e:Ent):A8 (H9 σ s e) s=some e:=by simp [Zlv]
theorem C6 (σ:A2) {s t:Site} (e:Ent) (h:s≠t):A8 (H9 σ s e) t=A8 σ t:=by simp [Zlv,h]
def G4 (L:Lay) (s:Site) (x:Option (Nat × Nat)):Lay:=⟨fun t=>if s=t then x else L t,L.F⟩
theorem G8 (L:Lay) (s:Site) (x:Option (Nat × Nat)):G4 L s x s=x:=by simp [G4]
theorem O9 (L:Lay) {s t:Site} (x:Option (Nat × Nat)) (h:s≠t):G4 L s x t=L t:=by simp [G4,h]
theorem Zeu (L:Lay) (s:Site):G4 L s (L s)=L:=by
  cases L with|mk p F =>
  simp only [G4,Lay.mk.injEq,and_true]
  funext t;split
  · rename_i h;rw [h]
  · rfl
def GV (c:Ctx) (n:Nat) (l:List AV):Prop:=VR c (Zgf l) (.pointer (some ⟨n,0,none⟩))∧(l=[]∨∃ cs el fr,c.w.heap[n]? = some (.cells cs el fr)∧cs.size=l.length)
theorem Zqg {c c':Ctx} (h:CLe c c') {n:Nat} {l:List AV} (hv:GV c n l):GV c' n l:=by
  refine ⟨Y6 h _ _ hv.1,?_⟩
  rcases hv.2 with h0|⟨cs,el,fr,h1,h2⟩
  · exact .inl h0
  · cases l with
    | nil=>exact .inl rfl
    | cons x xs =>
      have hv1:=hv.1
      simp only [Zgf,VR] at hv1
      obtain ⟨_,b,o,h3,h4,h5,_⟩:=hv1
      simp only [Value.pointer.injEq,Option.some.injEq,Addr.mk.injEq] at h3
      obtain ⟨rfl,_,_⟩:=h3
      exact .inr ⟨cs,el,fr,(h.block _ h4 h5).trans h1,h2⟩
structure Rel (E:Env) (w0:World) (O0:Nat→Prop) (σ0:A2) (L0:Lay) (σ:A2) (L:Lay) (w:World):Prop where
  store:StoreOK σ L w
  keep:Keep O0 w0 w
  own:∀ b,I6 σ L b→O0 b∨w0.heap.size≤b
  glob:∀ n,GV (ctx σ L w) n (E.glob n)
  ups:∀ x e,A8 σ (.up x)=some e→e.alive=true→∃ e0,A8 σ0 (.up x)=some e0∧e0.alive=true∧e0.g=e.g∧L (.up x)=L0 (.up x)
  src:∀ b,inS σ L b→inS σ0 L0 b∨w0.heap.size≤b
  lf:L.F=L0.F
  f0:∀ b,L0.F b→b<w0.heap.size∧¬ inS σ0 L0 b
theorem Zeo.lt {w:World} {b n:Nat} (h:Zeo w b n):b<w.heap.size:=by
  obtain ⟨cs,el,fr,h1,_⟩:=h
  rcases Yfn b w.heap.size with h'|h'
  · exact h'
  · simp [Array.getElem?_eq_none h'] at h1
theorem Zeo.room {w:World} {b n:Nat} (h:Zeo w b n):Zaf w b 0:=by
  obtain ⟨cs,el,fr,h1,_⟩:=h
  exact ⟨cs,el,fr,h1,Nat.zero_le _⟩
theorem StoreOK.lies {σ:A2} {L:Lay} {w:World} (h:StoreOK σ L w) {s:Site} {e:Ent} (he:A8 σ s=some e) (ha:e.alive=true) {b o:Nat} (hl:L s=some (b,o)) :
    (Zeo w b (o+e.cells.length)∧VRC (ctx σ L w) b o e.cells)∨(o=0∧Z8 (ctx σ L w) b e):=by
  have:=h.ent s e he ha
  unfold V1 at this
  rw [show (ctx σ L w).L s=some (b,o) from hl] at this
  exact this
theorem Z8.lt {c:Ctx} {b:Nat} {e:Ent} (h:Z8 c b e):b<c.w.heap.size:=by
  rcases Yfn b c.w.heap.size with h'|h'
  · exact h'
  · rcases h with ⟨s,p,_,h1⟩|⟨ks,vs,es,cl,_,_,_,h1,_⟩<;>simp [Array.getElem?_eq_none h'] at h1
theorem Z8.noRoom {c:Ctx} {b k:Nat} {e:Ent} (h:Z8 c b e) (hr:Zaf c.w b k):False:=by
  obtain ⟨cs,el,fr,h2,_⟩:=hr
  rcases h with ⟨s,p,_,h1⟩|⟨ks,vs,es,cl,_,_,_,h1,_⟩<;>(rw [h1] at h2;cases h2)
theorem Z8.to {c c':Ctx} {b:Nat} {e:Ent} (h:Z8 c b e) (hc:CLe c c') (hb:c'.w.heap[b]? = c.w.heap[b]?):Z8 c' b e:=by
  rcases h with ⟨s,p,h0,h1⟩|⟨ks,vs,es,cl,h0,hk,hv,h1,h2,h3⟩
  · exact .inl ⟨s,p,h0,hb.trans h1⟩
  · exact .inr ⟨ks,vs,es,cl,h0,hk,hv,hb.trans h1,VRL_le hc _ _ h2,VRL_le hc _ _ h3⟩
theorem Z8.cells {c:Ctx} {b:Nat} {e e':Ent} (h:Z8 c b e) (he:e'.cells=e.cells):Z8 c b e':=by
  rcases h with ⟨s,p,h0,h1⟩|⟨ks,vs,es,cl,h0,h1⟩
  · exact .inl ⟨s,p,he.trans h0,h1⟩
  · exact .inr ⟨ks,vs,es,cl,he.trans h0,h1⟩
theorem Z8.one {c:Ctx} {b:Nat} {e:Ent} (h:Z8 c b e):T7 e.cells=false:=by
  rcases h with ⟨s,p,h0,h1⟩|⟨ks,vs,es,cl,h0,h1⟩<;>simp [h0,T7,R1]
theorem StoreOK.free {σ:A2} {L:Lay} {w:World} (h:StoreOK σ L w) {s:Site} {e:Ent} (he:A8 σ s=some e) (ha:e.alive=true) {b o:Nat} (hl:L s=some (b,o)) (hr:Zaf w b 0) :
    Zeo w b (o+e.cells.length)∧VRC (ctx σ L w) b o e.cells:=by
  rcases h.lies he ha hl with h1|⟨_,h1⟩
  · exact h1
  · exact (h1.noRoom hr).elim
theorem StoreOK.lt {σ:A2} {L:Lay} {w:World} (h:StoreOK σ L w) {s:Site} {e:Ent} (he:A8 σ s=some e) (ha:e.alive=true) {b o:Nat} (hl:L s=some (b,o)):b<w.heap.size:=by
  rcases h.lies he ha hl with ⟨h1,_⟩|⟨_,h1⟩
  · exact h1.lt
  · exact h1.lt
theorem StoreOK.own_lt {σ:A2} {L:Lay} {w:World} (h:StoreOK σ L w) {b:Nat} (hb:I6 σ L b):b<w.heap.size:=by
  obtain ⟨s,e,o,he,ha,_,hl⟩:=hb
  exact h.lt he ha hl
variable {E:Env} {w0:World} {O0:Nat→Prop} {σ0:A2} {L0:Lay} {σ:A2} {L:Lay} {w:World}
theorem Rel.step (h:Rel E w0 O0 σ0 L0 σ L w) {σ':A2} {L':Lay} {w':World} (hs:StoreOK σ' L' w') (hc:CLe (ctx σ L w) (ctx σ' L' w')) (hk:Keep (I6 σ L) w w')
    (ho:∀ b,I6 σ' L' b→I6 σ L b∨w.heap.size≤b)
    (hu:∀ x e,A8 σ' (.up x)=some e→e.alive=true→∃ e0,A8 σ (.up x)=some e0∧e0.alive=true∧e0.g=e.g∧L' (.up x)=L (.up x))
    (hsrc:∀ b,inS σ' L' b→inS σ L b∨w.heap.size≤b) (hF:L'.F=L.F):Rel E w0 O0 σ0 L0 σ' L' w' where
  store:=hs
  keep:=h.keep.trans hk fun x hx hox=>(h.own x hox).resolve_right (by omega)
  own b hb:=by
    rcases ho b hb with h1|h1
    · exact h.own b h1
    · exact .inr (Yfk h.keep.size h1)
  glob n:=Zqg hc (h.glob n)
  ups x e he ha:=by
    obtain ⟨e1,h1,h2,h3,h4⟩:=hu x e he ha
    obtain ⟨e0,k1,k2,k3,k4⟩:=h.ups x e1 h1 h2
    exact ⟨e0,k1,k2,k3.trans h3,h4.trans k4⟩
  src b hb:=by
    rcases hsrc b hb with h1|h1
    · exact h.src b h1
    · exact .inr (Yfk h.keep.size h1)
  lf:=hF.trans h.lf
  f0:=h.f0
theorem Zxl {c0:Ctx} (hL0:c0.L=L) (hw0:c0.w=w) {s:Site} (hent:∀ t e,t≠s→A8 σ t=some e→e.alive=true→V1 c0 t e)
    (hap:∀ t t' e e' b o o',t≠s→t'≠s→A8 σ t=some e→e.alive=true→A8 σ t'=some e'→e'.alive=true→L t=some (b,o)→L t'=some (b,o')→t=t')
    {e':Ent} {x:Option (Nat × Nat)} {w':World} (hc:CLe c0 (ctx (H9 σ s e') (G4 L s x) w'))
    (hb:∀ t e b o,t≠s→A8 σ t=some e→e.alive=true→L t=some (b,o)→w'.heap[b]? = w.heap[b]?)
    (he:e'.alive=true→V1 (ctx (H9 σ s e') (G4 L s x) w') s e')
    (hd:∀ b o,e'.alive=true→x=some (b,o)→∀ t e o',t≠s→A8 σ t=some e→e.alive=true→L t=some (b,o')→False):StoreOK (H9 σ s e') (G4 L s x) w' where
  ent t e ht ha:=by
    by_cases hst:s=t
    · subst hst
      rw [C1] at ht
      cases ht
      exact he ha
    · rw [C6 _ _ hst] at ht
      have h1:=hent t e (Ne.symm hst) ht ha
      unfold V1 at h1 ⊢
      have hl:(ctx (H9 σ s e') (G4 L s x) w').L t=c0.L t:=by rw [hL0];exact O9 L x hst
      rw [hl]
      cases hL:c0.L t with
      | none=>rw [hL] at h1;exact h1
      | some p =>
        obtain ⟨b,o⟩:=p
        rw [hL] at h1
        simp only [] at h1 ⊢
        have hbb:=hb t e b o (Ne.symm hst) ht ha (hL0▸hL)
        rcases h1.symm with ⟨h2,h3⟩|⟨h2,h3⟩
        · exact .inr ⟨h2,h3.to hc (by show w'.heap[b]? = _;rw [hbb,hw0])⟩
        refine .inl ⟨?_,VRC_le hc b (fun o=>by simp only [World.cell?];rw [show (ctx (H9 σ s e') (G4 L s x) w').w=w' from rfl,hbb,hw0]) o _ h3⟩
        obtain ⟨cs,el,fr,f1,f2,f3⟩:=h2
        rw [hw0] at f1
        exact ⟨cs,el,fr,hbb.trans f1,f2,f3⟩
  apart t t' e1 e2 b o o' h1 a1 h2 a2 l1 l2:=by
    by_cases hst:s=t
    · subst hst
      by_cases hst':s=t'
      · exact hst'
      · rw [C1] at h1
        cases h1
        rw [C6 _ _ hst'] at h2
        rw [G8] at l1
        rw [O9 _ _ hst'] at l2
        exact (hd b o a1 l1 t' e2 o' (Ne.symm hst') h2 a2 l2).elim
    · rw [C6 _ _ hst] at h1
      rw [O9 _ _ hst] at l1
      by_cases hst':s=t'
      · subst hst'
        rw [C1] at h2
        cases h2
        rw [G8] at l2
        exact (hd b o' a2 l2 t e1 o (Ne.symm hst) h1 a1 l1).elim
      · rw [C6 _ _ hst'] at h2
        rw [O9 _ _ hst'] at l2
        exact hap t t' e1 e2 b o o' (Ne.symm hst) (Ne.symm hst') h1 a1 h2 a2 l1 l2
theorem Zhu (h:StoreOK σ L w) {s:Site} {e':Ent} {x:Option (Nat × Nat)} {w':World} (hc:CLe (ctx σ L w) (ctx (H9 σ s e') (G4 L s x) w'))
    (hb:∀ t e b o,t≠s→A8 σ t=some e→e.alive=true→L t=some (b,o)→w'.heap[b]? = w.heap[b]?)
    (he:e'.alive=true→V1 (ctx (H9 σ s e') (G4 L s x) w') s e')
    (hd:∀ b o,e'.alive=true→x=some (b,o)→∀ t e o',t≠s→A8 σ t=some e→e.alive=true→L t=some (b,o')→False):StoreOK (H9 σ s e') (G4 L s x) w' :=
  Zxl (c0:=ctx σ L w) rfl rfl (fun t e _ h1 h2=>h.ent t e h1 h2) (fun t t' e e' b o o' _ _=>h.apart t t' e e' b o o') hc hb he hd
theorem Zhv {s:Site} {e':Ent} {x:Option (Nat × Nat)} {w':World}
    (hg:∀ e,A8 σ s=some e→e.g<e'.g∨(e.g=e'.g∧(e'.alive=true→e.alive=true∧x=L s)))
    (ho:∀ b,b<w.heap.size→I6 (H9 σ s e') (G4 L s x) b→I6 σ L b)
    (hk:Keep (I6 σ L) w w'):CLe (ctx σ L w) (ctx (H9 σ s e') (G4 L s x) w') where
  tab t g0 al ht:=by
    have ht':(A8 σ t).map (fun e=>(e.g,e.alive))=some (g0,al):=ht
    cases hge:A8 σ t with
    | none=>rw [hge] at ht';cases ht'
    | some e =>
      rw [hge] at ht'
      simp only [Yfo,Option.some.injEq,Prod.mk.injEq] at ht'
      obtain ⟨rfl,rfl⟩:=ht'
      by_cases hst:s=t
      · subst hst
        refine ⟨e'.g,e'.alive,by show (A8 (H9 σ s e') s).map _=_;rw [C1];rfl,?_,?_⟩
        · rcases hg e hge with h1|⟨h1,_⟩<;>omega
        · intro h1 h2
          rcases hg e hge with h3|⟨_,h4⟩
          · omega
          · obtain ⟨h5,h6⟩:=h4 h2
            exact ⟨h5,by show G4 L s x s=L s;rw [G8,h6]⟩
      · exact ⟨e.g,e.alive,by show (A8 (H9 σ s e') t).map _=_;rw [C6 _ _ hst,hge];rfl,Yfj _,fun _ h2=>⟨h2,O9 L x hst⟩⟩
  own b hb h:=h.elim (fun h=>.inl (ho b hb h)) .inr
  block b hb hn:=hk.block b hb (fun h=>hn (.inl h))
  room:=hk.room
  size:=hk.size
theorem Zfl {s:Site} {e':Ent} {x:Option (Nat × Nat)} {b:Nat} (h:I6 (H9 σ s e') (G4 L s x) b) :
    I6 σ L b∨(e'.alive=true∧e'.rw=true∧∃ o,x=some (b,o)):=by
  obtain ⟨t,e,o,he,ha,hr,hl⟩:=h
  by_cases hst:s=t
  · subst hst
    rw [C1] at he
    cases he
    rw [G8] at hl
    exact .inr ⟨ha,hr,o,hl⟩
  · rw [C6 _ _ hst] at he
    rw [O9 _ _ hst] at hl
    exact .inl ⟨t,e,o,he,ha,hr,hl⟩
theorem Zhw {s:Site} {e':Ent} {x:Option (Nat × Nat)} {b:Nat} (h:inS (H9 σ s e') (G4 L s x) b) :
    inS σ L b∨(e'.alive=true∧∃ o,x=some (b,o)):=by
  obtain ⟨t,e,o,he,ha,hl⟩:=h
  by_cases hst:s=t
  · subst hst
    rw [C1] at he
    cases he
    rw [G8] at hl
    exact .inr ⟨ha,o,hl⟩
  · rw [C6 _ _ hst] at he
    rw [O9 _ _ hst] at hl
    exact .inl ⟨t,e,o,he,ha,hl⟩
theorem in_own {b:Nat} (h:I6 σ L b):inS σ L b:=by
  obtain ⟨s,e,o,he,ha,_,hl⟩:=h
  exact ⟨s,e,o,he,ha,hl⟩
theorem Rel.notF (h:Rel E w0 O0 σ0 L0 σ L w) {b:Nat} (hb:inS σ L b):¬ L.F b:=by
  intro hf
  rw [h.lf] at hf
  obtain ⟨h1,h2⟩:=h.f0 b hf
  rcases h.src b hb with h3|h3
  · exact h2 h3
  · omega
theorem Keep.alloc (O:Nat→Prop) (w:World) (o:Obj):Keep O w (w.alloc o) :=
  ⟨rfl,rfl,rfl,by simp,fun b hb _=>by simp only [World.alloc,Array.getElem?_push];rw [if_neg (by omega)],
   fun b k ⟨cs,el,fr,h1,h2⟩=>⟨cs,el,fr,by
      have hb:b<w.heap.size:=by
        rcases Yfn b w.heap.size with h'|h'
        · exact h'
        · simp [Array.getElem?_eq_none h'] at h1
      simp only [World.alloc,Array.getElem?_push];rw [if_neg (by omega)];exact h1,h2⟩⟩
theorem Keep.drewN (O:Nat→Prop) (w:World) (n:Nat):Keep O w { w with drawn:=n }:=⟨rfl,rfl,rfl,Yfj _,fun _ _ _=>rfl,fun _ _ h=>h⟩
theorem Rel.drawn (h:Rel E w0 O0 σ0 L0 σ L w) (n:Nat):Rel E w0 O0 σ0 L0 σ L { w with drawn:=n }∧CLe (ctx σ L w) (ctx σ L { w with drawn:=n }):=by
  have hc:CLe (ctx σ L w) (ctx σ L { w with drawn:=n }):=⟨fun s g0 al h=>⟨g0,al,h,Yfj _,fun _ h=>⟨h,rfl⟩⟩,fun _ _ h=>h,fun _ _ _=>rfl,fun _ _ h=>h,Yfj _⟩
  refine ⟨h.step ⟨fun s e he ha=>?_,h.store.apart⟩ hc (Keep.drewN _ _ _) (fun b hb=>.inl hb) (fun x e he ha=>⟨e,he,ha,rfl,rfl⟩) (fun b hb=>.inl hb) rfl,hc⟩
  have:=h.store.ent s e he ha
  unfold V1 at this ⊢
  cases hl:(ctx σ L w).L s with
  | none=>rw [hl] at this;rw [show (ctx σ L { w with drawn:=n }).L s=none from hl];exact this
  | some p =>
    rw [hl] at this
    rw [show (ctx σ L { w with drawn:=n }).L s=some p from hl]
    rcases this with h1|⟨h1,h2⟩
    · exact .inl ⟨h1.1,VRC_le hc _ (fun _=>rfl) _ _ h1.2⟩
    · exact .inr ⟨h1,h2.to hc rfl⟩
theorem Rel.new (h:Rel E w0 O0 σ0 L0 σ L w) {d k:Nat} {g:Nat} (hg:∀ e,A8 σ (.s d k)=some e→e.g<g) (var:Bool) {cells:List AV} {vs:List Value} (hv:VRL (ctx σ L w) cells vs)
    (row:Array Value) (hrow:∀ (i:Nat) (v:Value),vs[i]? = some v→row[i]? = some v) (el:TypeId) (fr:Nat × Nat) (hfr:fr.1=fr.2∨row.size≤fr.1) :
    Rel E w0 O0 σ0 L0 (H9 σ (.s d k) ⟨g,true,true,var,cells⟩) (G4 L (.s d k) (some (w.heap.size,0))) (w.alloc (.cells row el fr)) ∧
    CLe (ctx σ L w) (ctx (H9 σ (.s d k) ⟨g,true,true,var,cells⟩) (G4 L (.s d k) (some (w.heap.size,0))) (w.alloc (.cells row el fr))):=by
  have hlen:=H5 hv
  have hk:=Keep.alloc (I6 σ L) w (.cells row el fr)
  have hown:∀ b,I6 (H9 σ (.s d k) ⟨g,true,true,var,cells⟩) (G4 L (.s d k) (some (w.heap.size,0))) b→I6 σ L b∨w.heap.size≤b:=by
    intro b hb
    rcases Zfl hb with h1|⟨_,_,o,h1⟩
    · exact .inl h1
    · simp only [Option.some.injEq,Prod.mk.injEq] at h1;exact .inr (by omega)
  have hc:CLe (ctx σ L w) (ctx (H9 σ (.s d k) ⟨g,true,true,var,cells⟩) (G4 L (.s d k) (some (w.heap.size,0))) (w.alloc (.cells row el fr))) :=
    Zhv (fun e he=>.inl (hg e he)) (fun b hb ho=>(hown b ho).resolve_right (by omega)) hk
  have hget:(w.alloc (.cells row el fr)).heap[w.heap.size]? = some (.cells row el fr):=by simp only [World.alloc,Array.getElem?_push];rw [if_pos trivial]
  refine ⟨h.step (Zhu h.store hc ?_ ?_ ?_) hc hk hown ?_ (fun b hb=>(Zhw hb).imp id fun ⟨_,o,h1⟩=>by simp only [Option.some.injEq,Prod.mk.injEq] at h1;omega) rfl,hc⟩
  · intro t e b o _ he ha hl
    have:=h.store.lt he ha hl
    simp only [World.alloc,Array.getElem?_push];rw [if_neg (by omega)]
  · intro _
    unfold V1
    rw [show (ctx (H9 σ (.s d k) ⟨g,true,true,var,cells⟩) (G4 L (.s d k) (some (w.heap.size,0))) (w.alloc (.cells row el fr))).L (.s d k)=some (w.heap.size,0) from G8 _ _ _]
    simp only [Nat.zero_add]
    refine .inl ⟨⟨row,el,fr,hget,?_,hfr⟩,Q5 fun i x hx=>?_⟩
    · rw [←hlen]
      rcases Yfn row.size vs.length with hlt|hge
      · have:=hrow row.size vs[row.size] (by simp [hlt])
        simp at this
      · exact hge
    · obtain ⟨v,h1,h2⟩:=Zam hv hx
      refine ⟨v,?_,Y6 hc _ _ h2⟩
      show (w.alloc (.cells row el fr)).cell? ⟨w.heap.size,0+i,none⟩=some v
      simp only [World.cell?,hget,Nat.zero_add]
      exact hrow i v h1
  · intro b o _ hx t e o' _ he ha hl
    simp only [Option.some.injEq,Prod.mk.injEq] at hx
    have:=h.store.lt he ha hl
    omega
  · intro x e he ha
    rw [C6 _ _ (by simp)] at he
    exact ⟨e,he,ha,rfl,O9 _ _ (by simp)⟩
theorem Rel.newNil (h:Rel E w0 O0 σ0 L0 σ L w) {d k:Nat} {g:Nat} (hg:∀ e,A8 σ (.s d k)=some e→e.g<g) :
    Rel E w0 O0 σ0 L0 (H9 σ (.s d k) ⟨g,true,true,false,[]⟩) (G4 L (.s d k) none) w∧CLe (ctx σ L w) (ctx (H9 σ (.s d k) ⟨g,true,true,false,[]⟩) (G4 L (.s d k) none) w):=by
  have hown:∀ b,I6 (H9 σ (.s d k) ⟨g,true,true,false,[]⟩) (G4 L (.s d k) none) b→I6 σ L b∨w.heap.size≤b:=by
    intro b hb
    rcases Zfl hb with h1|⟨_,_,o,h1⟩
    · exact .inl h1
    · cases h1
  have hc:CLe (ctx σ L w) (ctx (H9 σ (.s d k) ⟨g,true,true,false,[]⟩) (G4 L (.s d k) none) w) :=
    Zhv (fun e he=>.inl (hg e he)) (fun b hb ho=>(hown b ho).resolve_right (by omega)) (Keep.refl _ _)
  refine ⟨h.step (Zhu h.store hc (fun _ _ _ _ _ _ _ _=>rfl) ?_ (fun _ _ _ hx=>by cases hx)) hc (Keep.refl _ _) hown ?_ (fun b hb=>(Zhw hb).imp id fun ⟨_,o,h1⟩=>by cases h1) rfl,hc⟩
  · intro _
    unfold V1
    rw [show (ctx (H9 σ (.s d k) ⟨g,true,true,false,[]⟩) (G4 L (.s d k) none) w).L (.s d k)=none from G8 _ _ _]
    exact ⟨rfl,rfl⟩
  · intro x e he ha
    rw [C6 _ _ (by simp)] at he
    exact ⟨e,he,ha,rfl,O9 _ _ (by simp)⟩
theorem Rel.less (h:Rel E w0 O0 σ0 L0 σ L w) {s:Site} {e e':Ent} (he:A8 σ s=some e) (hg:e'.g=e.g) (ha:e'.alive=true→e.alive=true∧e'.cells=e.cells∧e'.var=e.var) (hr:e'.rw=true→e.rw=true) :
    Rel E w0 O0 σ0 L0 (H9 σ s e') L w∧CLe (ctx σ L w) (ctx (H9 σ s e') L w):=by
  have hL:=Zeu L s
  have hown:∀ b,I6 (H9 σ s e') L b→I6 σ L b∨w.heap.size≤b:=by
    intro b hb
    rw [←hL] at hb
    rcases Zfl hb with h1|⟨h1,h2,o,h3⟩
    · exact .inl h1
    · exact .inl ⟨s,e,o,he,(ha h1).1,hr h2,h3⟩
  have hc:CLe (ctx σ L w) (ctx (H9 σ s e') L w):=by
    have:=Zhv (σ := σ) (L:=L) (w:=w) (w':=w) (s:=s) (e':=e') (x:=L s)
      (fun e1 h1=>.inr ⟨by rw [he] at h1;cases h1;exact hg.symm,fun h2=>⟨by rw [he] at h1;cases h1;exact (ha h2).1,rfl⟩⟩)
      (fun b hb ho=>by rw [hL] at ho;exact (hown b ho).resolve_right (by omega)) (Keep.refl _ _)
    rwa [hL] at this
  have hin:∀ b,inS (H9 σ s e') L b→inS σ L b∨w.heap.size≤b:=by
    intro b hb
    rw [←hL] at hb
    rcases Zhw hb with h1|⟨h1,o,h3⟩
    · exact .inl h1
    · exact .inl ⟨s,e,o,he,(ha h1).1,h3⟩
  refine ⟨h.step ?_ hc (Keep.refl _ _) hown ?_ hin rfl,hc⟩
  · have:=Zhu h.store (s:=s) (e':=e') (x:=L s) (w':=w) (by rw [hL];exact hc) (fun _ _ _ _ _ _ _ _=>rfl) ?_ ?_
    · rwa [hL] at this
    · intro h1
      rw [hL]
      obtain ⟨a1,a2,a3⟩:=ha h1
      have h2:=h.store.ent s e he a1
      unfold V1 at h2 ⊢
      rw [show (ctx (H9 σ s e') L w).L s=(ctx σ L w).L s from rfl]
      cases hl:(ctx σ L w).L s with
      | none=>rw [hl] at h2;exact ⟨a2.trans h2.1,a3.trans h2.2⟩
      | some p =>
        rw [hl] at h2
        rcases h2 with h2|⟨h2,h3⟩
        · exact .inl ⟨by rw [a2];exact h2.1,by rw [a2];exact VRC_le hc _ (fun _=>rfl) _ _ h2.2⟩
        · exact .inr ⟨h2,(h3.cells a2).to hc rfl⟩
    · intro b o h1 hx t e1 o' hne he1 ha1 hl1
      exact hne (h.store.apart t s e1 e b o' o he1 ha1 he (ha h1).1 hl1 hx)
  · intro x e1 he1 ha1
    by_cases hx:s=.up x
    · subst hx
      rw [C1] at he1
      cases he1
      exact ⟨e,he,(ha ha1).1,hg.symm,rfl⟩
    · rw [C6 _ _ hx] at he1
      exact ⟨e1,he1,ha1,rfl,rfl⟩
theorem Rel.upd (h:Rel E w0 O0 σ0 L0 σ L w) {s:Site} {e:Ent} (he:A8 σ s=some e) (ha:e.alive=true) (hr:e.rw=true) {b o:Nat} (hl:L s=some (b,o)) {w':World} {cells:List AV}
    (hk:Keep (fun x=>x=b) w w') (hf:Zeo w' b (o+cells.length))
    (hv:∀ c':Ctx,CLe (ctx σ L w) c'→c'.w=w'→VRC c' b o cells) :
    Rel E w0 O0 σ0 L0 (H9 σ s { e with cells:=cells }) L w'∧CLe (ctx σ L w) (ctx (H9 σ s { e with cells:=cells }) L w'):=by
  have hL:=Zeu L s
  have hob:I6 σ L b:=⟨s,e,o,he,ha,hr,hl⟩
  have hk':Keep (I6 σ L) w w':=hk.mono fun x hx=>by rw [hx];exact hob
  have hown:∀ x,I6 (H9 σ s { e with cells:=cells }) L x→I6 σ L x∨w.heap.size≤x:=by
    intro x hx
    rw [←hL] at hx
    rcases Zfl hx with h1|⟨h1,h2,o,h3⟩
    · exact .inl h1
    · exact .inl ⟨s,e,o,he,h1,h2,h3⟩
  have hc:CLe (ctx σ L w) (ctx (H9 σ s { e with cells:=cells }) L w'):=by
    have:=Zhv (σ := σ) (L:=L) (w:=w) (w':=w') (s:=s) (e' := { e with cells:=cells }) (x:=L s)
      (fun e1 h1=>.inr ⟨by rw [he] at h1;cases h1;rfl,fun h2=>⟨by rw [he] at h1;cases h1;exact h2,rfl⟩⟩)
      (fun b hb ho=>by rw [hL] at ho;exact (hown b ho).resolve_right (by omega)) hk'
    rwa [hL] at this
  have hin:∀ x,inS (H9 σ s { e with cells:=cells }) L x→inS σ L x∨w.heap.size≤x:=by
    intro x hx
    rw [←hL] at hx
    rcases Zhw hx with h1|⟨h1,o,h3⟩
    · exact .inl h1
    · exact .inl ⟨s,e,o,he,h1,h3⟩
  refine ⟨h.step ?_ hc hk' hown ?_ hin rfl,hc⟩
  · have:=Zhu h.store (s:=s) (e' := { e with cells:=cells }) (x:=L s) (w':=w') (by rw [hL];exact hc) ?_ ?_ ?_
    · rwa [hL] at this
    · intro t e1 b1 o1 hne h1 a1 l1
      refine hk.block b1 (h.store.lt h1 a1 l1) fun hbb=>hne ?_
      subst hbb
      exact h.store.apart t s e1 e b1 o1 o h1 a1 he ha l1 hl
    · intro _
      rw [hL]
      unfold V1
      rw [show (ctx (H9 σ s { e with cells:=cells }) L w').L s=some (b,o) from hl]
      exact .inl ⟨hf,hv _ hc rfl⟩
    · intro b1 o1 _ hx t e1 o' hne he1 ha1 hl1
      exact hne (h.store.apart t s e1 e b1 o' o1 he1 ha1 he ha hl1 hx)
  · intro x e1 he1 ha1
    by_cases hx:s=.up x
    · subst hx
      rw [C1] at he1
      cases he1
      exact ⟨e,he,ha,rfl,rfl⟩
    · rw [C6 _ _ hx] at he1
      exact ⟨e1,he1,ha1,rfl,rfl⟩
theorem Rel.pass (h:Rel E w0 O0 σ0 L0 σ L w) {s:Site} {e:Ent} (he:A8 σ s=some e) (ha:e.alive=true) (hr:e.rw=true) {d k:Nat} {g:Nat} (hg:∀ e,A8 σ (.s d k)=some e→e.g<g)
    {b o0 o:Nat} (hl:L s=some (b,o0)) {w':World} {cells:List AV} (hk:Keep (fun x=>x=b) w w') (hf:Zeo w' b (o+cells.length))
    (hv:∀ c':Ctx,CLe (ctx σ L w) c'→c'.w=w'→VRC c' b o cells) {σ1:A2} (h1 : σ1=if s=.s d k then σ else H9 σ s { e with alive:=false,cells:=[] }) :
    Rel E w0 O0 σ0 L0 (H9 σ1 (.s d k) ⟨g,true,true,false,cells⟩) (G4 L (.s d k) (some (b,o))) w' ∧
    CLe (ctx σ L w) (ctx (H9 σ1 (.s d k) ⟨g,true,true,false,cells⟩) (G4 L (.s d k) (some (b,o))) w'):=by
  have hob:I6 σ L b:=⟨s,e,o0,he,ha,hr,hl⟩
  have hk':Keep (I6 σ L) w w':=hk.mono fun x hx=>by rw [hx];exact hob
  -- what the killed store holds
  have hget:∀ t f,t≠Site.s d k→A8 σ1 t=some f→f.alive=true→A8 σ t=some f∧t≠s:=by
    intro t f ht hf1 hf2
    subst h1
    by_cases hsd:s=.s d k
    · rw [if_pos hsd] at hf1
      exact ⟨hf1,fun hts=>ht (hts.trans hsd)⟩
    · rw [if_neg hsd] at hf1
      by_cases hts:s=t
      · subst hts;rw [C1] at hf1;cases hf1;cases hf2
      · rw [C6 _ _ hts] at hf1;exact ⟨hf1,Ne.symm hts⟩
  have hown:∀ x,I6 (H9 σ1 (.s d k) ⟨g,true,true,false,cells⟩) (G4 L (.s d k) (some (b,o))) x→I6 σ L x:=by
    intro x hx
    obtain ⟨t,f,o1,hf1,hf2,hf3,hf4⟩:=hx
    by_cases ht:Site.s d k=t
    · subst ht
      rw [G8] at hf4
      simp only [Option.some.injEq,Prod.mk.injEq] at hf4
      exact hf4.1▸hob
    · rw [C6 _ _ ht] at hf1
      rw [O9 _ _ ht] at hf4
      exact ⟨t,f,o1,(hget t f (Ne.symm ht) hf1 hf2).1,hf2,hf3,hf4⟩
  have hc:CLe (ctx σ L w) (ctx (H9 σ1 (.s d k) ⟨g,true,true,false,cells⟩) (G4 L (.s d k) (some (b,o))) w'):=by
    refine ⟨?_,fun x _ ho=>ho.elim (fun ho=>.inl (hown x ho)) .inr,fun x hx hn=>hk'.block x hx (fun h=>hn (.inl h)),hk'.room,hk'.size⟩
    intro t g0 al ht
    have ht':(A8 σ t).map (fun e=>(e.g,e.alive))=some (g0,al):=ht
    cases hge:A8 σ t with
    | none=>rw [hge] at ht';cases ht'
    | some f =>
      rw [hge] at ht'
      simp only [Yfo,Option.some.injEq,Prod.mk.injEq] at ht'
      obtain ⟨rfl,rfl⟩:=ht'
      by_cases htd:Site.s d k=t
      · subst htd
        have hlt:=hg f hge
        refine ⟨g,true,by show (A8 (H9 σ1 (.s d k) _) (.s d k)).map _=_;rw [C1];rfl,by omega,fun h1=>by omega⟩
      · by_cases hts:s=t
        · subst hts
          have hsd:s≠.s d k:=Ne.symm htd
          rw [he] at hge
          cases hge
          refine ⟨e.g,false,?_,Yfj _,fun _ h2=>by cases h2⟩
          show (A8 (H9 σ1 (.s d k) _) s).map _=_
          rw [C6 _ _ htd,h1,if_neg hsd,C1]
          rfl
        · refine ⟨f.g,f.alive,?_,Yfj _,fun _ h2=>⟨h2,O9 L _ htd⟩⟩
          show (A8 (H9 σ1 (.s d k) _) t).map _=_
          rw [C6 _ _ htd,h1]
          split
          · rw [hge];rfl
          · rw [C6 _ _ hts,hge];rfl
  refine ⟨h.step (Zxl (L:=L) (w:=w) (c0:=ctx σ L w) rfl rfl ?_ ?_ hc ?_ ?_ ?_) hc hk' (fun x hx=>.inl (hown x hx)) ?_ ?_ rfl,hc⟩
  · intro t f ht hf1 hf2
    exact h.store.ent t f (hget t f ht hf1 hf2).1 hf2
  · intro t t' f f' b1 o1 o2 ht ht' hf1 hf2 hf1' hf2' l1 l2
    exact h.store.apart t t' f f' b1 o1 o2 (hget t f ht hf1 hf2).1 hf2 (hget t' f' ht' hf1' hf2').1 hf2' l1 l2
  · intro t f b1 o1 ht hf1 hf2 l1
    obtain ⟨hf3,hts⟩:=hget t f ht hf1 hf2
    refine hk.block b1 (h.store.lt hf3 hf2 l1) fun hbb=>hts ?_
    subst hbb
    exact h.store.apart t s f e b1 o1 o0 hf3 hf2 he ha l1 hl
  · intro _
    unfold V1
    rw [show (ctx (H9 σ1 (.s d k) ⟨g,true,true,false,cells⟩) (G4 L (.s d k) (some (b,o))) w').L (.s d k)=some (b,o) from G8 _ _ _]
    exact .inl ⟨hf,hv _ hc rfl⟩
  · intro b1 o1 _ hx t f o2 ht hf1 hf2 l1
    simp only [Option.some.injEq,Prod.mk.injEq] at hx
    obtain ⟨hf3,hts⟩:=hget t f ht hf1 hf2
    obtain ⟨rfl,rfl⟩:=hx
    exact hts (h.store.apart t s f e b o2 o0 hf3 hf2 he ha l1 hl)
  · intro x f hf1 hf2
    rw [C6 _ _ (by simp)] at hf1
    exact ⟨f,(hget _ f (by simp) hf1 hf2).1,hf2,rfl,O9 _ _ (by simp)⟩
  · intro x ⟨t,f,o1,hf1,hf2,hf4⟩
    by_cases ht:Site.s d k=t
    · subst ht
      rw [G8] at hf4
      simp only [Option.some.injEq,Prod.mk.injEq] at hf4
      exact .inl (hf4.1▸in_own hob)
    · rw [C6 _ _ ht] at hf1
      rw [O9 _ _ ht] at hf4
      exact .inl ⟨t,f,o1,(hget t f (Ne.symm ht) hf1 hf2).1,hf2,hf4⟩
end Cod

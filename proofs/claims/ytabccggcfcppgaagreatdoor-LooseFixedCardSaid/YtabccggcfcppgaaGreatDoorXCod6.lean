/- Rules by which simp runs the abstract code. -/
import Derived.Attr
import Derived.Test.YtabccggcfcppgaaGreatDoorXCod5
set_option linter.unusedSimpArgs false
set_option linter.unusedVariables false
namespace Cod
open Go
section
variable {call:M9} {ρ:LO→AV} {d:Nat}
theorem Yb0 {x}:step call ρ d (.mv x)=one (ρ x):=rfl
theorem Z46 {sz}:step call ρ d (.nil sz)=Zbu (.s d 0) [] 0 sz []:=rfl
theorem Zz0 {c} {a} {b}:step call ρ d (.pick c a b)=Zp2 (ρ c) (ρ a) (ρ b):=rfl
theorem Z47 {cells}:step call ρ d (.new cells)=Zik (.s d 0) cells:=rfl
theorem Z48 {x}:step call ρ d (.box x)=boxV (.s d 0) (J4 (ρ x)):=rfl
theorem Zuc {zero} {ps}:step call ρ d (.build zero ps)=Zmy (Zak ρ ps (some zero)):=rfl
theorem Zq0 {sz} {n} {zero} {ps}:step call ρ d (.bslice sz n zero ps)=Zgg (.s d 0) n sz (Zak ρ ps (some (rep zero n))):=rfl
theorem Yb1 {n} {a}:step call ρ d (.ld n a)=ldV n (ρ a):=rfl
theorem Yb2 {n} {a} {x}:step call ρ d (.st n a x)=stV n (ρ a) (J4 (ρ x)):=rfl
theorem Zud {x}:step call ρ d (.nilck x)=Zhs (ρ x):=rfl
theorem Z49 {op} {x} {y}:step call ρ d (.bin op x y)=optV (I4 op (ρ x) (ρ y)):=rfl
theorem Z5a {neg} {x} {y}:step call ρ d (.eqb neg x y)=optV (Zpy neg (ρ x) (ρ y)):=rfl
theorem Z5b {ks} {neg} {x} {y}:step call ρ d (.eqa ks neg x y)=eqaV ks neg (ρ x) (ρ y):=rfl
theorem Z5c {kd} {neg} {x} {y}:step call ρ d (.eqn kd neg x y)=eqnV kd neg (ρ x) (ρ y):=rfl
theorem Yb3 {op} {x}:step call ρ d (.un op x)=optV (Zmx op (ρ x)):=rfl
theorem Z5d {k} {x}:step call ρ d (.cvi k x)=Zmz k (ρ x):=rfl
theorem Z5e {x}:step call ρ d (.s2s x)=s2sV (ρ x):=rfl
theorem Z5f {x}:step call ρ d (.s2b x)=s2bV (.s d 0) (ρ x):=rfl
theorem Z5g {x}:step call ρ d (.b2s x)=Zth (ρ x):=rfl
theorem Z5h {x} {lo} {hi}:step call ρ d (.sls x lo hi)=slsV (ρ x) (loV (lo.map ρ)) (hiV (Zal none (ρ x)) (hi.map ρ)):=rfl
theorem Zz1 {x}:step call ρ d (.lens x)=Zp5 (ρ x):=rfl
theorem Z5i {x}:step call ρ d (.b2b x)=b2bV (ρ x):=rfl
theorem Zz2 {t} {x}:step call ρ d (.mkif t x)=Zln t (ρ x):=rfl
theorem Zz3 {f} {cap}:step call ρ d (.mkfn f cap)=one (.clo f (cap.map ρ)):=rfl
theorem Z5j {sz} {bytes} {zero} {l} {c}:step call ρ d (.mks sz bytes zero l c)=mksV (.s d 0) sz bytes zero (ρ l) (ρ c):=rfl
theorem Yb4 {sz} {arr} {x} {lo} {hi}:step call ρ d (.sl sz arr x lo hi)=slV sz arr (ρ x) (loV (lo.map ρ)) (hiV (Zal arr (ρ x)) (hi.map ρ)):=rfl
theorem Yb5 {x} {off}:step call ρ d (.fa x off)=faV off (ρ x):=rfl
theorem Z5k {x} {off} {n}:step call ρ d (.fld x off n)=Zp3 off n (ρ x):=rfl
theorem Yb6 {sz} {arr} {x} {i}:step call ρ d (.ia sz arr x i)=iaV sz arr (ρ x) (ρ i):=rfl
theorem Yb7 {sz} {arr} {agg} {x} {i}:step call ρ d (.ix sz arr agg x i)=ixV sz agg arr (ρ x) (ρ i):=rfl
theorem Z5l {n} {sz} {x}:step call ρ d (.s2a n sz x)=s2aV n sz (ρ x):=rfl
theorem Z5m {x} {i}:step call ρ d (.ext x i)=extV i (ρ x):=rfl
theorem Zz4 {f} {args} {take}:step call ρ d (.call f args take)=Zgh call d take (args.map ρ) (ρ f):=rfl
theorem Z5n {sz} {bytes} {s} {x}:step call ρ d (.app sz bytes s x)=(P6 sz (ρ x)).bindW (fun p=>(fix p.1).bindW (fun q=>Zgi (.s d 0) sz bytes p.2 q.1 q.2.1 q.2.2 (ρ s)) ⟨⟩) ⟨⟩:=rfl
theorem Zz5 {sz} {bytes} {zero} {s} {n}:step call ρ d (.appz sz bytes zero s n)=Zlo (.s d 0) sz bytes zero (ρ s) (ρ n):=rfl
theorem Z5o {arr} {x}:step call ρ d (.len arr x)=Zil arr (ρ x):=rfl
theorem Zz6 {sz} {dd} {s}:step call ρ d (.copy sz dd s)=(P6 sz (ρ s)).bindW (fun p=>Zp6 sz p.2 p.1 (ρ dd)) ⟨⟩:=rfl
theorem Z5p {x} {y}:step call ρ d (.min x y)=minV (ρ x) (ρ y):=rfl
theorem Z5q {x} {y}:step call ρ d (.max x y)=maxV (ρ x) (ρ y):=rfl
theorem Z5r {x}:step call ρ d (.cap x)=capV (ρ x):=rfl
theorem Z5s {x}:step call ρ d (.r2s x)=r2sV (ρ x):=rfl
theorem Z5t {x}:step call ρ d (.rng x)=rngV (.s d 0) (ρ x):=rfl
theorem Z5u {x}:step call ρ d (.nxt x)=nxtV (ρ x):=rfl
theorem Zq1 {x}:step call ρ d (.mkmapn x)=Zjg (.s d 0) (ρ x):=rfl
theorem Z5v {sz} {x} {lo} {hi} {mx}:step call ρ d (.slm sz x lo hi mx)=Zm0 sz (ρ x) (loV (lo.map ρ)) (ρ hi) (ρ mx):=rfl
theorem Zue:step call ρ d .mkmap=Zf3 (.s d 0) (.mp [] []) (.mpr (.s d 0)):=rfl
theorem Zz7 {str zero ok m k}:step call ρ d (.mget str zero ok m k)=Zp7 str zero ok (ρ k) (ρ m):=rfl
theorem Zz8 {str m k x}:step call ρ d (.mput str m k x)=Zp8 str (V7 (ρ x)) (ρ k) (J4 (ρ x)) (ρ m):=rfl
theorem Zz9 {str m k}:step call ρ d (.mdel str m k)=Zp9 str (ρ k) (ρ m):=rfl
theorem Z0a {x}:step call ρ d (.mlen x)=Zqa (ρ x):=rfl
theorem Z0b:step call ρ d (.stop)=.fail:=rfl
end
section
variable {E:Env} {sl loc:List (Nat × AV)}
theorem evR_t {n:Nat}:evR E sl loc (.t n)=P2 sl loc n:=rfl
theorem evR_k {v:AV}:evR E sl loc (.k v)=v:=rfl
theorem evR_g {n:Nat}:evR E sl loc (.g n)=Zgf (E.glob n):=rfl
theorem evR_f {n:Nat}:evR E sl loc (.f n)=.clo n []:=rfl
theorem ev_t {n:Nat}:ev E sl (.t n)=T8 sl n:=rfl
theorem ev_k {v:AV}:ev E sl (.k v)=v:=rfl
theorem Z0c {n:Nat}:U2 (some n)=n:=rfl
theorem Z0d:U2 none=0:=rfl
end
theorem Z5w {b:Bool}:gdV (.bool b)=true:=rfl
theorem Yb8:gdV .und=true:=rfl
theorem Z5x {w b:Bool}:gdB w (.bool b)=(b==w):=rfl
theorem Yb9 {w:Bool}:gdB w .und=false:=rfl
theorem Z5y {b:Bool}:isB (.bool b)=true:=rfl
theorem Z0e {k:List It}:outO (some k)=k:=rfl
theorem Yca {α:Type} {a : α} {σ:A2}:(Acc.ret a).run σ=some a:=rfl
theorem Ycb {α:Type} {s:Site} {k:Option Ent→Acc α} {σ:A2}:(Acc.get s k).run σ=(k (A8 σ s)).run σ:=rfl
theorem Z5z {α β:Type} {a : α} {f : α→Acc β}:(Acc.ret a).bind f=f a:=rfl
theorem Z0f {α:Type} {a : α} {σ:A2}:(Acc.ret a).reads σ=[]:=rfl
theorem Z0g {α:Type} {s:Site} {k:Option Ent→Acc α} {σ:A2}:(Acc.get s k).reads σ=s::(k (A8 σ s)).reads σ:=rfl
theorem Z0h {α β:Type} {s:Site} {k:Option Ent→Acc α} {f : α→Acc β} {σ:A2}:((Acc.get s k).bind f).run σ=((k (A8 σ s)).bind f).run σ:=rfl
theorem Zq2 {α β:Type} {s:Site} {k:Option Ent→Acc α} {f : α→Acc β} {σ:A2}:((Acc.get s k).bind f).reads σ=s::((k (A8 σ s)).bind f).reads σ:=rfl
theorem Zl9 {α β γ:Type} (x:Acc α) (f : α→Acc β) (g : β→Acc γ):(x.bind f).bind g=x.bind fun a=>(f a).bind g:=by
  induction x with
  | ret a=>rfl
  | fail=>rfl
  | get s k ih=>exact congrArg (Acc.get s) (funext fun e=>ih e)
theorem Zuf {α β γ:Type} (x:Acc α) (f : α→Acc β) (g : β→Acc γ) (w:Wit g):(x.bind f).bindW g w=x.bindW (fun a=>(f a).bindW g ⟨⟩) ⟨⟩:=Zl9 x f g
theorem Zq3 {α β γ:Type} (x:Acc α) (f : α→Acc β) (v:Wit f) (g : β→Acc γ) (w:Wit g):(x.bindW f v).bindW g w=x.bindW (fun a=>(f a).bindW g ⟨⟩) ⟨⟩:=Zl9 x f g
theorem Z0i {α β:Type} {a : α} {f : α→Acc β} {w:Wit f}:(Acc.ret a).bindW f w=f a:=rfl
theorem Z0j {α β:Type} {s:Site} {k:Option Ent→Acc α} {f : α→Acc β} {w:Wit f} {σ:A2}:((Acc.get s k).bindW f w).run σ=((k (A8 σ s)).bindW f ⟨⟩).run σ:=rfl
theorem Zq4 {α β:Type} {s:Site} {k:Option Ent→Acc α} {f : α→Acc β} {w:Wit f} {σ:A2}:((Acc.get s k).bindW f w).reads σ=s::((k (A8 σ s)).bindW f ⟨⟩).reads σ:=rfl
theorem one_eq {x:AV}:one x=.ret (x,[]):=rfl
theorem Ycc {s:Site} {g:Nat}:Q9 s g=.get s (Zpz g):=rfl
theorem Zug {g:Nat} {e:Ent}:Zpz g (some e)=if e.alive=true∧e.g=g then .ret e else .fail:=rfl
theorem mk_eq {s:Site} {v:Bool} {cs:List AV}:mk s v cs=.get s (mkE s v cs):=rfl
theorem Z50 {s:Site} {v:Bool} {cs:List AV} {e:Ent}:mkE s v cs (some e)=.ret (e.g+1,[(s,⟨e.g+1,true,true,v,cs⟩)]):=rfl
theorem Z51 {s:Site} {v:Bool} {cs:List AV}:mkE s v cs none=.ret (0,[(s,⟨0,true,true,v,cs⟩)]):=rfl
theorem Z52 {s:Site} {cs:List AV}:Zik s cs=(mk s true cs).bindW (fun p=>.ret (.ref s p.1 0,p.2)) ⟨⟩:=rfl
theorem Z53 {s:Site} {cs:List AV} {n sz:Nat} {u:Ups}:Zbu s cs n sz u=(mk s false cs).bindW (fun p=>.ret (.buf s p.1 0 n sz,u++p.2)) ⟨⟩:=rfl
theorem Z0k {k:IntKind} {n:Int}:V4 (.int k n)=.ret (.int k n,[]):=rfl
theorem Zuh {b:Bool}:V4 (.bool b)=.ret (.bool b,[]):=rfl
theorem Z0l {l:List UInt8}:V4 (.str l)=.ret (.str l,[]):=rfl
theorem Z0m {cs:List AV} {n:Nat}:V4 (.lst cs n)=.ret (.lst cs n,[]):=rfl
theorem Z54 {cs:List AV} {n:Nat}:V4 (.fp cs n)=.ret (.fp cs n,[]):=rfl
theorem Zui:V4 .nilp=.ret (.nilp,[]):=rfl
theorem Zuj:V4 .nilf=.ret (.nilf,[]):=rfl
theorem Zuk:V4 .nili=.ret (.nili,[]):=rfl
theorem Zul:V4 .nilm=.ret (.nilm,[]):=rfl
theorem Z0n {f:Nat} {cs:List AV}:V4 (.clo f cs)=if flats cs=true then .ret (.clo f cs,[]) else .fail:=rfl
theorem Z0o {t:Nat} {x:AV}:V4 (.ifc t x)=if M1 x=true then .ret (.ifc t x,[]) else .fail:=rfl
theorem Z55 {k:IntKind} {n:Int}:Zbc (.int k n)=.ret (.int k n,[]):=rfl
theorem Z0p {b:Bool}:Zbc (.bool b)=.ret (.bool b,[]):=rfl
theorem Z56 {l:List UInt8}:Zbc (.str l)=.ret (.str l,[]):=rfl
theorem Z57 {cs:List AV} {n:Nat}:Zbc (.lst cs n)=.ret (.lst cs n,[]):=rfl
theorem Ycd {cs:List AV} {n:Nat}:Zbc (.fp cs n)=.ret (.fp cs n,[]):=rfl
theorem Z0q:Zbc .nils=.ret (.lst [] 0,[]):=rfl
theorem Z0r:Zbc .nilp=.ret (.nilp,[]):=rfl
theorem Z0s:Zbc .nilf=.ret (.nilf,[]):=rfl
theorem Z0t:Zbc .nili=.ret (.nili,[]):=rfl
theorem Z0u:Zbc .nilm=.ret (.nilm,[]):=rfl
theorem Z58 {t:Nat} {x:AV}:Zbc (.ifc t x)=if M1 x=true then .ret (.ifc t x,[]) else .fail:=rfl
theorem Z59 {s:Site} {g off n z:Nat}:Zbc (.buf s g off n z)=(Q9 s g).bindW (Z3t off n z s) ⟨⟩:=rfl
theorem Z6a {s:Site} {g off:Nat}:Zbc (.ref s g off)=(Q9 s g).bindW (Z3u off s) ⟨⟩:=rfl
theorem Z0v {f:Nat}:Zbc (.clo f [])=.ret (.clo f [],[]):=rfl
theorem Z6b {off n z:Nat} {s:Site} {e:Ent}:Z3t off n z s e=if off+n*z≤e.cells.length∧flats e.cells=true then .ret (.lst (sub e.cells off (n*z)) n,[s]) else .fail:=rfl
theorem Z6c {off:Nat} {s:Site} {e:Ent}:Z3u off s e=if flats e.cells=true then .ret (.fp e.cells off,[s]) else .fail:=rfl
theorem Zq5 {s:Site} {u:Ups} {e:Ent}:Zjo s u (some e)=.ret ((s,{ e with rw:=false })::u):=rfl
theorem Z0w {sz off n z:Nat} {e:Ent}:Z3v sz off n z e=if z=sz∧off+n*z≤e.cells.length then .ret (sub e.cells off (n*z),n) else .fail:=rfl
theorem Z0x {k:Nat} {l:List (Nat × Nat)} {e:Ent}:genE k l (some e)=.ret ((k,e.g+1)::l):=rfl
theorem Z0y {k:Nat} {l:List (Nat × Nat)}:genE k l none=.ret ((k,0)::l):=rfl
theorem Zq6 {i:Nat} {take:List Nat}:R2 i take []=.ret ([],[],[]):=rfl
theorem Znk {i:Nat} {take:List Nat} {x:AV} {xs:List AV}:R2 i take (x::xs) =
    W6 (take.contains i) ((R2 (i+1) take xs).bindW (fun p=>.ret (x::p.1,V6 x++p.2.1,p.2.2)) ⟨⟩)
      ((Zbc x).bindW (fun q=>(R2 (i+1) take xs).bindW (fun p=>.ret (q.1::p.1,p.2.1,q.2++p.2.2)) ⟨⟩) ⟨⟩) ⟨⟩ ⟨⟩:=rfl
theorem Z0z:views []=.ret ([],[]):=rfl
theorem Zum {c:AV} {cs:List AV}:views (c::cs)=(V4 c).bindW (fun p=>(views cs).bindW (fun q=>.ret (p.1::q.1,p.2++q.2)) ⟨⟩) ⟨⟩:=rfl
theorem Z00:Zek []=.ret []:=rfl
theorem Zun {s:Site} {ss:List Site}:Zek (s::ss)=(Zek ss).bindW (fun u=>.get s (Zjo s u)) ⟨⟩:=rfl
theorem Zuo {n:Nat} {seen:List Site}:Zai (n+1) [] seen=.ret []:=rfl
theorem Zq7 {n:Nat} {s:Site} {g:Nat} {r:List (Site × Nat)} {seen:List Site}:Zai (n+1) ((s,g)::r) seen =
    W6 (seen.contains s) (Zai n r seen)
      ((Q9 s g).bindW (fun e=>(Zai n (r++refsOfs e.cells) (s::seen)).bindW (fun u=>.ret ((s,e)::u)) ⟨⟩) ⟨⟩) ⟨⟩ ⟨⟩:=rfl
theorem Znl {d:Nat}:Q4 d []=.ret []:=rfl
theorem Zup {d k:Nat} {e:Ent} {r:A2}:Q4 d ((.r k,e)::r)=(Q4 d r).bindW (fun l=>.get (.s d k) (genE k l)) ⟨⟩:=rfl
theorem Zq8 {d:Nat} {x:Site} {e:Ent} {r:A2}:Q4 d ((.up x,e)::r)=Q4 d r:=rfl
theorem Z01 {call:M9} {d f:Nat} {args:List AV} {take:List Nat}:Za3 call d f args take =
  (R2 0 take args).bindW (fun p=>(Zai 64 p.2.1 []).bindW (fun es=>Zxe d p.2.2 es (call f (rens (Z3 es) p.1) (N2 es es))) ⟨⟩) ⟨⟩:=rfl
theorem Zuq {d:Nat} {ss:List Site} {es:List (Site × Ent)} {v:AV} {σ:A2}:Zxe d ss es (some (v,σ)) =
    W6 (tidy σ && !(Zjq es ss)) ((Q4 d σ).bindW (fun gs=>LetA (B8 d gs σ) (fun b=>W6 (V0 b) (Zxd ss es (ren (H1 d gs) v) b) .fail ⟨⟩ ⟨⟩) ⟨⟩) ⟨⟩) .fail ⟨⟩ ⟨⟩:=rfl
theorem Z6d {ss:List Site} {es:List (Site × Ent)} {v:AV} {b:Ups}:Zxd ss es v b =
    W6 (leads v||Zaj b) ((Zek ss).bindW (fun u=>.ret (v,u++(b++Y7 b es))) ⟨⟩) (.ret (v,b++Y7 b es)) ⟨⟩ ⟨⟩:=rfl
theorem Z6e {σ:Ups} {s:Site}:Zp0 σ s=(A8 σ s).isNone:=rfl
theorem Z02 {x:AV}:optV (some x)=.ret (x,[]):=rfl
theorem Zur {t:Bool} {a b:AV}:Zp2 (.bool t) a b=.ret (bif t then a else b,[]):=rfl
theorem Yce {cs:List AV} {off n:Nat}:aggV cs off n=if off+n≤cs.length then .ret (.agg (sub cs off n),[]) else .fail:=rfl
theorem Zq9 {cs:List AV}:Zmy (some cs)=.ret (.agg cs,[]):=rfl
theorem Znm {s:Site} {n sz:Nat} {cs:List AV}:Zgg s n sz (some cs)=(fix cs).bindW (fun p=>Zbu s p.1 n sz p.2.1) ⟨⟩:=rfl
theorem Z6f {off:Nat} {e:Ent}:ldC none off e=optV e.cells[off]? := rfl
theorem Z6g {n off:Nat} {e:Ent}:ldC (some n) off e=aggV e.cells off n:=rfl
theorem Ycf {cs:List AV} {off:Nat}:ldV none (.fp cs off)=optV cs[off]? := rfl
theorem Ycg {cs:List AV} {off n:Nat}:ldV (some n) (.fp cs off)=aggV cs off n:=rfl
theorem Z6h {s:Site} {g off:Nat}:ldV none (.ref s g off)=(Q9 s g).bindW (ldC none off) ⟨⟩:=rfl
theorem Z6i {s:Site} {g off n:Nat}:ldV (some n) (.ref s g off)=(Q9 s g).bindW (ldC (some n) off) ⟨⟩:=rfl
theorem stC_eq {s:Site} {off n:Nat} {xs:List AV} {e:Ent}:stC s off n xs e =
  if e.rw=true∧xs.length=n∧off+n≤e.cells.length∧T7 xs=true then
    (bif e.var then .ret (.und,[(s,{ e with cells:=over e.cells off xs })])
     else (fix xs).bindW (fun p=>bif p.2.2.contains s then .fail else .ret (.und,p.2.1++[(s,{ e with cells:=over e.cells off p.1 })])) ⟨⟩)
  else .fail:=rfl
theorem Ych {n:Nat} {s:Site} {g off:Nat} {xs:List AV}:stV n (.ref s g off) (some xs)=(Q9 s g).bindW (stC s off n xs) ⟨⟩:=rfl
theorem Z03 {s:Site} {xs:List AV}:boxV s (some xs)=Zik s xs:=rfl
theorem Zra {cells ys:List AV} {off n:Nat}:Zlm cells off n (some ys)=if ys.length=n∧off+n≤cells.length then some (over cells off ys) else none:=rfl
theorem Zus {s:Site} {g off:Nat}:Zhs (.ref s g off)=still1 s g (.ref s g off):=rfl
theorem Z04 {cs:List AV} {off:Nat}:Zhs (.fp cs off)=.ret (.fp cs off,[]):=rfl
theorem Zkf {k k':IntKind} {n:Int}:Zmz k (.int k' n)=.ret (.int k (k.wrap n),[]):=rfl
theorem Z6j {l:List UInt8}:s2sV (.str l)=.ret (.str l,[]):=rfl
theorem Z6k {s:Site} {l:List UInt8}:s2bV s (.str l)=Zbu s (A0 l) l.length 1 []:=rfl
theorem Z05 {l:List UInt8}:strV (some l)=.ret (.str l,[]):=rfl
theorem Z6l {s:Site} {g off n z:Nat}:b2bV (.buf s g off n z)=(Q9 s g).bindW (fun e=>if e.rw=true∧e.cells.isEmpty=false then .ret (.buf s g off n z,[]) else .fail) ⟨⟩:=rfl
theorem Z6m {s:Site} {sz bytes:Nat} {zero:List AV} {l c:Int}:mksV s sz bytes zero (.int .i64 l) (.int .i64 c) =
    if 0≤l∧l≤c∧bytes*c≤281474976710656∧c≤281474976710656 then Zbu s (rep zero l.toNat) l.toNat sz [] else .fail:=rfl
theorem Z6n {x:AV}:loV (some x)=x:=rfl
theorem Z6o:loV none=.int .i64 0:=rfl
theorem Z6p {n:Nat} {x:AV}:hiV n (some x)=x:=rfl
theorem Z6q {n:Nat}:hiV n none=.int .i64 n:=rfl
theorem Z6r {n:Nat} {x:AV}:Zal (some n) x=n:=rfl
theorem Z6s {l:List UInt8}:Zal none (.str l)=l.length:=rfl
theorem Z6t {cs:List AV} {n:Nat}:Zal none (.lst cs n)=n:=rfl
theorem Z6u {s:Site} {g off n z:Nat}:Zal none (.buf s g off n z)=n:=rfl
theorem Z06:Zal none .nils=0:=rfl
theorem Yci {sz n l h:Nat} {s:Site} {g off:Nat}:slB sz (some n) (.ref s g off) l h=(Q9 s g).bindW (slR sz n l h s g off) ⟨⟩:=rfl
theorem slR_eq {sz n l h:Nat} {s:Site} {g off:Nat} {e:Ent}:slR sz n l h s g off e=if off+n*sz≤e.cells.length then .ret (.buf s g (off+l*sz) (h-l) sz,[]) else .fail:=rfl
theorem slB_fp {sz n l h:Nat} {cs:List AV} {off:Nat}:slB sz (some n) (.fp cs off) l h=if off+n*sz≤cs.length then .ret (.lst (sub cs (off+l*sz) ((h-l)*sz)) (h-l),[]) else .fail:=rfl
theorem Z6v {k k':IntKind} {l h:Int} {t:List UInt8}:slsV (.str t) (.int k l) (.int k' h)=if 0≤l∧l≤h∧h≤t.length then .ret (.str (sub t l.toNat (h.toNat-l.toNat)),[]) else .fail:=rfl
theorem Z6w {cs:List AV} {n:Nat}:Zth (.lst cs n)=(P6 1 (.lst cs n)).bindW (fun p=>strV (bytesOf p.1)) ⟨⟩:=rfl
theorem Z6x {s:Site} {g o n z:Nat}:Zth (.buf s g o n z)=(P6 1 (.buf s g o n z)).bindW (fun p=>strV (bytesOf p.1)) ⟨⟩:=rfl
theorem Z07:Zth .nils=.ret (.str [],[]):=rfl
theorem Ycj {sz l h n:Nat} {cs:List AV}:slB sz none (.lst cs n) l h=if cs.length=n*sz then .ret (.lst (sub cs (l*sz) ((h-l)*sz)) (h-l),[]) else .fail:=rfl
theorem Yck {sz l h:Nat} {s:Site} {g off n z:Nat}:slB sz none (.buf s g off n z) l h=if z=sz then still1 s g (.buf s g (off+l*sz) (h-l) sz) else .fail:=rfl
theorem Z6y {sz l h:Nat}:slB sz none .nils l h=.ret (.nils,[]):=rfl
theorem Ycl {sz:Nat} {arr:Option Nat} {x:AV} {k k':IntKind} {l h:Int}:slV sz arr x (.int k l) (.int k' h)=if 0≤l∧l≤h∧h≤Zal arr x then slB sz arr x l.toNat h.toNat else .fail:=rfl
theorem Ycm {off:Nat} {s:Site} {g o:Nat}:faV off (.ref s g o)=still1 s g (.ref s g (o+off)):=rfl
theorem faV_fp {off:Nat} {cs:List AV} {o:Nat}:faV off (.fp cs o)=.ret (.fp cs (o+off),[]):=rfl
theorem Z08 {off:Nat} {cs:List AV}:Zp3 off none (.agg cs)=optV cs[off]? := rfl
theorem Z09 {off n:Nat} {cs:List AV}:Zp3 off (some n) (.agg cs)=aggV cs off n:=rfl
theorem Ycn {sz n:Nat} {s:Site} {g o:Nat} {k:IntKind} {i:Int}:iaV sz (some n) (.ref s g o) (.int k i)=if 0≤i∧i<n then still1 s g (.ref s g (o+i.toNat*sz)) else .fail:=rfl
theorem iaV_fp {sz n:Nat} {cs:List AV} {o:Nat} {k:IntKind} {i:Int}:iaV sz (some n) (.fp cs o) (.int k i)=if 0≤i∧i<n then .ret (.fp cs (o+i.toNat*sz),[]) else .fail:=rfl
theorem Yco {sz n:Nat} {cs:List AV} {k:IntKind} {i:Int}:iaV sz none (.lst cs n) (.int k i)=if 0≤i∧i<n then .ret (.fp cs (i.toNat*sz),[]) else .fail:=rfl
theorem Ycp {sz:Nat} {s:Site} {g o n z:Nat} {k:IntKind} {i:Int}:iaV sz none (.buf s g o n z) (.int k i)=if 0≤i∧i<n∧z=sz then still1 s g (.ref s g (o+i.toNat*sz)) else .fail:=rfl
theorem Zkg {b:UInt8}:Zxf (some b)=.ret (.int .u8 b.toNat,[]):=rfl
theorem Ycq {sz n:Nat} {agg:Bool} {cs:List AV} {k:IntKind} {i:Int}:ixV sz agg (some n) (.agg cs) (.int k i) =
  if 0≤i∧i<n∧i.toNat*sz+sz≤cs.length then (bif agg then one (.agg (sub cs (i.toNat*sz) sz)) else optV cs[i.toNat*sz]?) else .fail:=rfl
theorem Ycr {sz:Nat} {agg:Bool} {t:List UInt8} {k:IntKind} {i:Int}:ixV sz agg none (.str t) (.int k i)=if 0≤i then Zxf t[i.toNat]? else .fail:=rfl
theorem Z6z {n sz m:Nat} {cs:List AV}:s2aV n sz (.lst cs m)=if n≤m∧cs.length=m*sz∧0<n then .ret (.fp cs 0,[]) else .fail:=rfl
theorem Z60 {n sz m:Nat} {s:Site} {g o z:Nat}:s2aV n sz (.buf s g o m z)=if n≤m∧z=sz∧0<n then still1 s g (.ref s g o) else .fail:=rfl
theorem Z61 {i:Nat} {cs:List AV}:extV i (.tup cs)=optV cs[i]? := rfl
theorem Z1a {call:M9} {d:Nat} {take:List Nat} {args:List AV} {f:Nat} {cap:List AV}:Zgh call d take args (.clo f cap)=Za3 call d f (args++cap) take:=rfl
theorem Ycs {t:Site} {sz bytes m:Nat} {vs:List AV} {u:Ups} {ss:List Site} {s:Site} {o n z:Nat} {e:Ent}:appB t sz bytes m vs u ss s o n z e =
  if e.rw=true∧e.var=false∧z=sz∧o+n*sz≤e.cells.length∧(n+m)*bytes≤N7∧ss.contains s=false∧T7 vs=true then
    Zbu t (sub e.cells o (n*sz)++vs) (n+m) sz (Zcl s t u e)
  else .fail:=rfl
theorem Zrb {s t:Site} {u:Ups} {e:Ent}:Zcl s t u e=bif decide (s=t) then u else u++[(s,{ e with alive:=false,cells:=[] })]:=rfl
theorem Z1b {t:Site} {sz bytes m:Nat} {vs:List AV} {u:Ups} {ss:List Site}:Zgi t sz bytes m vs u ss .nils=if m*bytes≤N7 then Zbu t vs m sz u else .fail:=rfl
theorem Z62 {t:Site} {sz bytes m:Nat} {vs:List AV} {u:Ups} {ss:List Site} {s:Site} {g o n z:Nat}:Zgi t sz bytes m vs u ss (.buf s g o n z)=(Q9 s g).bindW (appB t sz bytes m vs u ss s o n z) ⟨⟩:=rfl
theorem Z1c {t:Site} {sz bytes:Nat} {zero:List AV} {s:AV} {m:Int}:Zlo t sz bytes zero s (.int .i64 m)=if 0≤m∧m≤N7 then Zgi t sz bytes m.toNat (rep zero m.toNat) [] [] s else .fail:=rfl
theorem Z1d {n:Nat} {x:AV}:Zil (some n) x=.ret (.int .i64 n,[]):=rfl
theorem Z1e {l:List UInt8}:Zp5 (.str l)=.ret (.int .i64 l.length,[]):=rfl
theorem Z1f {cs:List AV} {n:Nat}:Zil none (.lst cs n)=.ret (.int .i64 n,[]):=rfl
theorem Z1g {s:Site} {g off n z:Nat}:Zil none (.buf s g off n z)=still1 s g (.int .i64 n):=rfl
theorem Z1h {s:Site} {g:Nat} {x:AV}:still1 s g x=(Q9 s g).bindW (fun _=>.ret (x,[])) ⟨⟩:=rfl
theorem Zut:Zil none .nils=.ret (.int .i64 0,[]):=rfl
theorem Z63 {sz m:Nat} {ys:List AV} {s:Site} {o n z:Nat} {e:Ent}:Zxg sz m ys s o n z e =
  if e.rw=true∧z=sz∧o+n*sz≤e.cells.length∧flats ys=true then
    .ret (.int .i64 (Nat.min m n),[(s,{ e with cells:=over e.cells o (ys.take (Nat.min m n*sz)) })])
  else .fail:=rfl
theorem Z1i {sz m:Nat} {ys:List AV} {s:Site} {g o n z:Nat}:Zp6 sz m ys (.buf s g o n z)=(Q9 s g).bindW (Zxg sz m ys s o n z) ⟨⟩:=rfl
theorem Z64 {k:IntKind} {a b:Int}:minV (.int k a) (.int k b)=.ret (.int k (if b<a then b else a),[]):=by simp [minV,one]
theorem Z65 {k:IntKind} {a b:Int}:maxV (.int k a) (.int k b)=.ret (.int k (if a<b then b else a),[]):=by simp [maxV,one]
theorem Z66 {k:IntKind} {n:Int}:r2sV (.int k n)=.ret (.str (Zi7 n),[]):=rfl
theorem Z67 {s:Site} {c:AV} {f:Nat→AV}:Zf3 s c f=(mk s true [c]).bindW (fun p=>.ret (f p.1,p.2)) ⟨⟩:=rfl
theorem Zrc {s:Site} {k:IntKind} {n:Int}:Zjg s (.int k n)=Zf3 s (.mp [] []) (.mpr s):=rfl
theorem Z68 {sz:Nat} {x:AV} {k k' k'':IntKind} {l h m:Int}:Zm0 sz x (.int k l) (.int k' h) (.int k'' m)=if 0≤l∧l≤h∧h≤m∧m≤Zal none x then slB sz none x l.toNat h.toNat else .fail:=rfl
theorem Z69 {s:Site} {l:List UInt8}:rngV s (.str l)=Zf3 s (.itr l 0) (.it s):=rfl
theorem Yct {s:Site} {g:Nat}:nxtV (.it s g)=(Q9 s g).bindW (nxtC s) ⟨⟩:=rfl
theorem Z7a {s:Site} {g:Nat} {al rw var:Bool} {l:List UInt8} {p:Nat}:nxtC s ⟨g,al,rw,var,[.itr l p]⟩ =
  if rw=true then (if p<l.length then .ret (.tup [.bool true,.int .i64 p,.int .i32 (Zbb l p).1],[(s,⟨g,al,rw,var,[.itr l (p+(Zbb l p).2)]⟩)]) else .ret (.tup [.bool false],[])) else .fail:=rfl
theorem Z1j {str:Bool} {zero:AV} {ok:Bool} {k:AV} {s:Site} {g:Nat}:Zp7 str zero ok k (.mpr s g)=(Q9 s g).bindW (Zxh str zero ok k) ⟨⟩:=rfl
theorem Zuu {str:Bool} {zero:AV} {ok:Bool} {k:AV}:Zp7 str zero ok k .nilm=.ret (okV ok false zero,[]):=rfl
theorem Z7b {str:Bool} {zero:AV} {ok:Bool} {k:AV} {g:Nat} {al rw var:Bool} {ks vs:List AV}:Zxh str zero ok k ⟨g,al,rw,var,[.mp ks vs]⟩=Zim zero ok vs (Zah str k ks 0):=rfl
theorem Zuv {zero:AV} {ok:Bool} {vs:List AV} {i:Nat}:Zim zero ok vs (some (some i))=optV ((vs[i]?).map (okV ok true)):=rfl
theorem Zuw {zero:AV} {ok:Bool} {vs:List AV}:Zim zero ok vs (some none)=.ret (okV ok false zero,[]):=rfl
theorem Z7c {b:Bool} {v:AV}:okV true b v=.tup [v,.bool b]:=rfl
theorem Z1k {b:Bool} {v:AV}:okV false b v=v:=rfl
theorem Z1l {str agg:Bool} {k:AV} {xs:List AV} {s:Site} {g:Nat}:Zp8 str agg k (some xs) (.mpr s g)=(fix xs).bindW (fun p=>(Q9 s g).bindW (Zxi str s k (Zf2 agg p.1) p.2.1 p.2.2) ⟨⟩) ⟨⟩:=rfl
theorem Z7d {str:Bool} {s:Site} {k y:AV} {u:Ups} {ss:List Site} {g:Nat} {al rw var:Bool} {ks vs:List AV}:Zxi str s k y u ss ⟨g,al,rw,var,[.mp ks vs]⟩ =
  if rw=true∧Zbt k=true∧Zbt y=true∧ss.contains s=false then Zin s k y u ⟨g,al,rw,var,[.mp ks vs]⟩ ks vs (Zah str k ks 0) else .fail:=rfl
theorem Zux {s:Site} {k y:AV} {u:Ups} {e:Ent} {ks vs:List AV} {i:Nat}:Zin s k y u e ks vs (some (some i))=.ret (.und,u++[(s,{ e with cells:=[.mp (ks.set i k) (vs.set i y)] })]):=rfl
theorem Zuy {s:Site} {k y:AV} {u:Ups} {e:Ent} {ks vs:List AV}:Zin s k y u e ks vs (some none)=.ret (.und,u++[(s,{ e with cells:=[.mp (ks++[k]) (vs++[y])] })]):=rfl
theorem Zuz {cs:List AV}:V7 (.agg cs)=true:=rfl
theorem Zu0 {k:IntKind} {n:Int}:V7 (.int k n)=false:=rfl
theorem Zrd {b:Bool}:V7 (.bool b)=false:=rfl
theorem Zu1 {l:List UInt8}:V7 (.str l)=false:=rfl
theorem Zu2 {s:Site} {g o n z:Nat}:V7 (.buf s g o n z)=false:=rfl
theorem Zu3 {cs:List AV} {n:Nat}:V7 (.lst cs n)=false:=rfl
theorem Zre:V7 .nils=false:=rfl
theorem Zu4 {ys:List AV}:Zf2 true ys=.agg ys:=rfl
theorem Zrf {y:AV}:Zf2 false [y]=y:=rfl
theorem Z1m {cs:List AV}:Zbt (.agg cs)=flats cs:=rfl
theorem Z1n {k:IntKind} {n:Int}:Zbt (.int k n)=true:=rfl
theorem Zu5 {b:Bool}:Zbt (.bool b)=true:=rfl
theorem Z1o {l:List UInt8}:Zbt (.str l)=true:=rfl
theorem Z1p {cs:List AV} {n:Nat}:Zbt (.lst cs n)=true:=rfl
theorem Zu6:Zbt .nils=true:=rfl
theorem Z1q {str:Bool} {k:AV} {s:Site} {g:Nat}:Zp9 str k (.mpr s g)=(Q9 s g).bindW (Zxj str s k) ⟨⟩:=rfl
theorem Zu7 {str:Bool} {k:AV}:Zp9 str k .nilm=.ret (.tup [],[]):=rfl
theorem Z7e {str:Bool} {s:Site} {k:AV} {g:Nat} {al rw var:Bool} {ks vs:List AV}:Zxj str s k ⟨g,al,rw,var,[.mp ks vs]⟩ =
  if rw=true then Zlp s ⟨g,al,rw,var,[.mp ks vs]⟩ ks vs (Zah str k ks 0) else .fail:=rfl
theorem Zu8 {s:Site} {e:Ent} {ks vs:List AV} {i:Nat}:Zlp s e ks vs (some (some i))=.ret (.tup [],[(s,{ e with cells:=[.mp (ks.eraseIdx i) (vs.eraseIdx i)] })]):=rfl
theorem Zu9 {s:Site} {e:Ent} {ks vs:List AV}:Zlp s e ks vs (some none)=.ret (.tup [],[]):=rfl
theorem Z1r {s:Site} {g:Nat}:Zqa (.mpr s g)=(Q9 s g).bindW Zxk ⟨⟩:=rfl
theorem Zva:Zqa .nilm=.ret (.int .i64 0,[]):=rfl
theorem Z7f {g:Nat} {al rw var:Bool} {ks vs:List AV}:Zxk ⟨g,al,rw,var,[.mp ks vs]⟩=.ret (.int .i64 ks.length,[]):=rfl
theorem Z1s:capV .nils=.ret (.int .i64 0,[]):=rfl
section
variable {k:IntKind} {a b:Int}
def Zh5 (k:IntKind) (a b:Int):Int:=k.wrap (BitVec.ofInt k.bits a &&& BitVec.ofInt k.bits b).toNat
def ior (k:IntKind) (a b:Int):Int:=k.wrap (BitVec.ofInt k.bits a ||| BitVec.ofInt k.bits b).toNat
def ixor (k:IntKind) (a b:Int):Int:=k.wrap (BitVec.ofInt k.bits a ^^^ BitVec.ofInt k.bits b).toNat
def iandn (k:IntKind) (a b:Int):Int:=k.wrap (BitVec.ofInt k.bits a &&& ~~~ BitVec.ofInt k.bits b).toNat
def Zvb (k:IntKind) (n:Int):Int:=k.wrap (BitVec.ofInt k.bits (if k.signed then -1 else k.max) ^^^ BitVec.ofInt k.bits n).toNat
def Zcy (k:IntKind) (a b:Int):Int:=k.wrap (a*2^(Nat.min b.toNat k.bits))
def Zcq (k:IntKind) (a b:Int):Int:=a.fdiv (2^(Nat.min b.toNat k.bits))
theorem Zx5:I4 .add (.int k a) (.int k b)=some (.int k (k.wrap (a+b))):=by simp [I4,U1]
theorem Ycu:I4 .sub (.int k a) (.int k b)=some (.int k (k.wrap (a-b))):=by simp [I4,U1]
theorem Ycv:I4 .mul (.int k a) (.int k b)=some (.int k (k.wrap (a*b))):=by simp [I4,U1]
theorem Ycw:I4 .quo (.int k a) (.int k b)=if b=0 then none else some (.int k (k.wrap (a.tdiv b))):=by simp [I4,U1]
theorem Ycx:I4 .rem (.int k a) (.int k b)=if b=0 then none else some (.int k (a.tmod b)):=by simp [I4,U1]
theorem Zx6:I4 .and (.int k a) (.int k b)=some (.int k (Zh5 k a b)):=by simp [I4,U1,Zh5]
theorem Z7g:I4 .or (.int k a) (.int k b)=some (.int k (ior k a b)):=by simp [I4,U1,ior]
theorem Zx7:I4 .xor (.int k a) (.int k b)=some (.int k (ixor k a b)):=by simp [I4,U1,ixor]
theorem Zvc:I4 .andNot (.int k a) (.int k b)=some (.int k (iandn k a b)):=by simp [I4,U1,iandn]
theorem Ycy:I4 .eql (.int k a) (.int k b)=some (.bool (a==b)):=by simp [I4,U1]
theorem Ycz:I4 .neq (.int k a) (.int k b)=some (.bool (a != b)):=by simp [I4,U1]
theorem Yc0:I4 .lss (.int k a) (.int k b)=some (.bool (decide (a<b))):=by simp [I4,U1]
theorem Yc1:I4 .leq (.int k a) (.int k b)=some (.bool (decide (a≤b))):=by simp [I4,U1]
theorem Yc2:I4 .gtr (.int k a) (.int k b)=some (.bool (decide (b<a))):=by simp [I4,U1]
theorem Yc3:I4 .geq (.int k a) (.int k b)=some (.bool (decide (b≤a))):=by simp [I4,U1]
theorem Zx8 {k':IntKind} (h:0≤b):I4 .shl (.int k a) (.int k' b)=some (.int k (Zcy k a b)):=by
  have:¬ b<0:=by omega
  simp [I4,Zeq,Zcy,this]
theorem Zx9 {k':IntKind} (h:0≤b):I4 .shr (.int k a) (.int k' b)=some (.int k (Zcq k a b)):=by
  have:¬ b<0:=by omega
  simp [I4,Zeq,Zcq,this]
end
section
variable {x y:List UInt8}
theorem Z7h:I4 .add (.str x) (.str y)=if x.length+y.length≤9223372036854775807 then some (.str (x++y)) else none:=rfl
theorem Z7i:I4 .eql (.str x) (.str y)=some (.bool (x==y)):=rfl
theorem Z7j:I4 .neq (.str x) (.str y)=some (.bool (!(x==y))):=rfl
theorem Z7k:I4 .lss (.str x) (.str y)=some (.bool (Op.bytesLess x y)):=rfl
theorem Z7l:I4 .leq (.str x) (.str y)=some (.bool (Op.bytesLess x y||x==y)):=rfl
theorem Z7m:I4 .gtr (.str x) (.str y)=some (.bool (!(Op.bytesLess x y||x==y))):=rfl
theorem Z7n:I4 .geq (.str x) (.str y)=some (.bool (!(Op.bytesLess x y))):=rfl
end
theorem Z7o {neg a b:Bool}:Zpy neg (.bool a) (.bool b)=some (.bool (bif neg then !(a==b) else a==b)):=rfl
theorem Yc4 {ks:List Nat} {neg:Bool} {a b:List AV}:eqaV ks neg (.agg a) (.agg b)=optV ((M2 ks a b).map fun e=>.bool (bif neg then !e else e)):=rfl
theorem Yc5 {kd:Nat} {neg:Bool} {x y:AV}:eqnV kd neg x y=(Zem kd x).bindW (fun a=>(Zem kd y).bindW (fun b=>eqnB neg a b) ⟨⟩) ⟨⟩:=rfl
theorem Z1t:Zem 0 .nilp=.ret true:=rfl
theorem Yc6 {cs:List AV} {o:Nat}:Zem 0 (.fp cs o)=.ret false:=rfl
theorem Z7p {s:Site} {g o:Nat}:Zem 0 (.ref s g o)=(Q9 s g).bindW (fun _=>.ret false) ⟨⟩:=rfl
theorem Z1u:Zem 1 .nils=.ret true:=rfl
theorem Z1v:Zem 2 .nilm=.ret true:=rfl
theorem Z1w:Zem 3 .nilf=.ret true:=rfl
theorem Z7q {f:Nat} {cs:List AV}:Zem 3 (.clo f cs)=.ret false:=rfl
theorem Z1x:Zem 4 .nili=.ret true:=rfl
theorem Z7r {t:Nat} {x:AV}:Zem 4 (.ifc t x)=.ret false:=rfl
theorem Yc7 {neg a b:Bool}:eqnB neg a b=bif a||b then .ret (.bool (bif neg then !(a&&b) else a&&b),[]) else .fail:=rfl
theorem un_neg {k:IntKind} {n:Int}:Zmx .neg (.int k n)=some (.int k (k.wrap (0-n))):=rfl
theorem Z7s {k:IntKind} {n:Int}:Zmx .xor (.int k n)=some (.int k (Zvb k n)):=rfl
theorem un_not {b:Bool}:Zmx .not (.bool b)=some (.bool (!b)):=rfl
def Zrg {α β:Type} (x:Option α) (f : α→Option β) (_:Wit f):Option β:=x.bind f
theorem Zvd {α β:Type} {x : α} {f : α→Option β} {w:Wit f}:Zrg (some x) f w=f x:=rfl
theorem Z1y {res:List LRes} {sl:List (Nat × AV)} {σ:A2}:Zcm res ⟨sl,σ⟩=Zrg (Zbp ⟨sl,σ⟩ res) (fun vs=>LetA (N1 σ 64 (ups σ++refsOfs vs) []) (fun acc=>some (Zlg (rens (N6 Site.r 0 acc) vs),U3 σ (N6 Site.r 0 acc) acc)) ⟨⟩) ⟨⟩:=by
  unfold Zcm Zrg LetA
  cases Zbp ⟨sl,σ⟩ res<;>rfl
def Z7t {α:Type} (x:Option α) (y:Option (List α)):Option (List α):=match x,y with|some v,some vs=>some (v::vs)|_,_=>none
theorem Zve {α:Type} {v : α} {vs:List α}:Z7t (some v) (some vs)=some (v::vs):=rfl
theorem Zvf {st:St}:Zbp st []=some []:=rfl
theorem Zrh {st:St} {r:LRes} {rs:List LRes}:Zbp st (r::rs)=Z7t (Zio st r) (Zbp st rs):=by
  unfold Z7t;rw [Zbp];cases Zio st r<;>cases Zbp st rs<;>rfl
theorem Z1z {st:St} {t:Nat}:Zio st (.tmp t)=some (T8 st.sl t):=rfl
theorem Z7u {v:AV}:Zlg [v]=v:=rfl
theorem Z7v {v w:AV}:Zlg [v,w]=.tup [v,w]:=rfl
theorem Zvg {v w x:AV}:Zlg [v,w,x]=.tup [v,w,x]:=rfl
theorem Z10 {v w x y:AV}:Zlg [v,w,x,y]=.tup [v,w,x,y]:=rfl
theorem Yc8 {E:Env} {fn:List LRes} {k:List It} {st:St} {l:List Nat} {x:LCode}:X E fn (.c (.loop l x)::k) st=X E fn (.lp l x::k) st:=by rw [X_loop,X_lp]
theorem Z7w {sl:List (Nat × AV)} {n:Nat}:P2 sl [] n=T8 sl n:=rfl
theorem Z11 {sl:List (Nat × AV)} {k n:Nat} {v:AV} {r:List (Nat × AV)}:P2 sl ((k,v)::r) n=W6 (k==n) v (P2 sl r n) ⟨⟩ ⟨⟩:=by
  rw [P2,Zcp];rfl
theorem Z7x {n:Nat}:T8 [] n=.junk:=rfl
theorem Z12 {k n:Nat} {v:AV} {r:List (Nat × AV)}:T8 ((k,v)::r) n=W6 (k==n) v (T8 r n) ⟨⟩ ⟨⟩:=by
  rw [T8,Zcp];rfl
theorem Z7y {n:Nat} {v:AV}:Zi8 [] n v=[(n,v)]:=rfl
theorem Z13 {k n:Nat} {u v:AV} {r:List (Nat × AV)}:Zi8 ((k,u)::r) n v=W6 (k==n) ((n,v)::r) ((k,u)::Zi8 r n v) ⟨⟩ ⟨⟩:=by
  rw [Zi8,Zcp];rfl
theorem Z7z {s:Site}:A8 [] s=none:=rfl
theorem Z14 {t s:Site} {e:Ent} {σ:A2}:A8 ((t,e) :: σ) s=W6 (decide (t=s)) (some e) (A8 σ s) ⟨⟩ ⟨⟩:=by
  rw [A8,Zcp]
theorem Z70 {s:Site} {e:Ent}:H9 [] s e=[(s,e)]:=rfl
theorem Z15 {t s:Site} {e e':Ent} {σ:A2}:H9 ((t,e') :: σ) s e=W6 (decide (t=s)) ((s,e) :: σ) ((t,e')::H9 σ s e) ⟨⟩ ⟨⟩:=by
  rw [H9,Zcp]
def Zya (σ:A2) (n:Nat) (r acc:List (Site × Nat)) (s:Site) (g:Nat):Option Ent→List (Site × Nat)
  | some e=>W6 (e.alive&&e.g==g) (N1 σ n (r++refsOfs e.cells) (acc++[(s,g)])) (N1 σ n r acc) ⟨⟩ ⟨⟩
  | none=>N1 σ n r acc
theorem Zvh {σ:A2} {n:Nat} {r acc:List (Site × Nat)} {s:Site} {g:Nat} {e:Ent}:Zya σ n r acc s g (some e)=W6 (e.alive&&e.g==g) (N1 σ n (r++refsOfs e.cells) (acc++[(s,g)])) (N1 σ n r acc) ⟨⟩ ⟨⟩:=rfl
theorem Zvi {σ:A2} {n:Nat} {r acc:List (Site × Nat)} {s:Site} {g:Nat}:Zya σ n r acc s g none=N1 σ n r acc:=rfl
theorem Zri {σ:A2} {n:Nat} {acc:List (Site × Nat)}:N1 σ (n+1) [] acc=acc:=rfl
theorem Znn {σ:A2} {n:Nat} {s:Site} {g:Nat} {r acc:List (Site × Nat)}:N1 σ (n+1) ((s,g)::r) acc=W6 (acc.contains (s,g)) (N1 σ n r acc) (Zya σ n r acc s g (A8 σ s)) ⟨⟩ ⟨⟩:=by
  rw [N1]
  unfold W6
  cases acc.contains (s,g) with
  | true=>simp
  | false =>
    simp only [Bool.false_eq_true,if_false,cond_false]
    cases A8 σ s with
    | none=>rfl
    | some e =>
      simp only [Zya,W6]
      have hb:(e.g==g)=decide (e.g=g):=by by_cases h2:e.g=g<;>simp [h2]
      rw [hb]
      by_cases h1:e.alive=true<;>by_cases h2:e.g=g<;>simp [h1,h2]
def Zkh (b:Site) (g:Nat):Site→Site × Nat
  | .up x=>(.up x,g)
  | _=>(b,0)
theorem Z71 {b x:Site} {g:Nat}:Zkh b g (.up x)=(.up x,g):=rfl
theorem Yc9 {b:Site} {g n k:Nat}:Zkh b g (.s n k)=(b,0):=rfl
theorem Yda {b:Site} {g k:Nat}:Zkh b g (.r k)=(b,0):=rfl
theorem Zrj {base:Nat→Site} {j g:Nat} {s:Site}:N6 base j [] s g=none:=rfl
theorem Zno {base:Nat→Site} {j g g':Nat} {s s':Site} {r:List (Site × Nat)}:N6 base j ((s',g')::r) s g=W6 (decide (s'=s)&&g' == g) (some (Zkh (base j) g s)) (N6 base (j+1) r s g) ⟨⟩ ⟨⟩:=by
  have hb:(g' == g)=decide (g'=g):=by by_cases h2:g'=g<;>simp [h2]
  unfold W6
  rw [hb]
  by_cases h1:s'=s
  · by_cases h2:g'=g
    · cases s<;>simp [N6,Zkh,h1,h2]
    · cases s<;>simp [N6,Zkh,h1,h2]
  · cases s<;>simp [N6,Zkh,h1]
theorem Ydb:ups []=[]:=rfl
theorem ups_up {s:Site} {e:Ent} {r:A2}:ups ((.up s,e)::r)=W6 e.alive ((.up s,e.g)::ups r) (ups r) ⟨⟩ ⟨⟩:=by
  rw [ups];unfold W6;cases e.alive<;>rfl
theorem ups_s {n k:Nat} {e:Ent} {r:A2}:ups ((.s n k,e)::r)=ups r:=rfl
theorem ups_r {k:Nat} {e:Ent} {r:A2}:ups ((.r k,e)::r)=ups r:=rfl
def renE (f:Site→Nat→Option (Site × Nat)) (x:Option Ent) (y:Option (Site × Nat)) (r:A2):A2:=match x,y with
  | some e,some (s',g')=>(s',{ e with g:=g',cells:=rens f e.cells })::r
  | _,_=>r
theorem Z16 {f:Site→Nat→Option (Site × Nat)} {e:Ent} {s:Site} {g:Nat} {r:A2}:renE f (some e) (some (s,g)) r=(s,{ e with g:=g,cells:=rens f e.cells })::r:=rfl
theorem Zrk {σ:A2} {f:Site→Nat→Option (Site × Nat)}:U3 σ f []=[]:=rfl
theorem Znp {σ:A2} {f:Site→Nat→Option (Site × Nat)} {s:Site} {g:Nat} {r:List (Site × Nat)}:U3 σ f ((s,g)::r)=renE f (A8 σ s) (f s g) (U3 σ f r):=by
  rw [U3];unfold renE
  cases A8 σ s<;>cases f s g<;>rfl
def Zli (x:Option (Site × Nat)) (k:Site × Nat→AV):AV:=match x with|some p=>k p|none=>.junk
theorem Z17 {s:Site} {g:Nat} {k:Site × Nat→AV}:Zli (some (s,g)) k=k (s,g):=rfl
theorem Z18 {k:Site × Nat→AV}:Zli none k=.junk:=rfl
theorem Ydc {f:Site→Nat→Option (Site × Nat)} {s:Site} {g o:Nat}:ren f (.ref s g o)=Zli (f s g) (fun p=>.ref p.1 p.2 o):=by
  rw [ren];unfold Zli;cases f s g<;>rfl
theorem Ydd {f:Site→Nat→Option (Site × Nat)} {s:Site} {g o n z:Nat}:ren f (.buf s g o n z)=Zli (f s g) (fun p=>.buf p.1 p.2 o n z):=by
  rw [ren];unfold Zli;cases f s g<;>rfl
theorem ren_it {f:Site→Nat→Option (Site × Nat)} {s:Site} {g:Nat}:ren f (.it s g)=Zli (f s g) (fun p=>.it p.1 p.2):=by
  rw [ren];unfold Zli;cases f s g<;>rfl
theorem Yde {f:Site→Nat→Option (Site × Nat)} {s:Site} {g:Nat}:ren f (.mpr s g)=Zli (f s g) (fun p=>.mpr p.1 p.2):=by
  rw [ren];unfold Zli;cases f s g<;>rfl
theorem Ydf {f:Site→Nat→Option (Site × Nat)} {cs:List AV}:ren f (.agg cs)=.agg (rens f cs):=by rw [ren]
theorem Ydg {f:Site→Nat→Option (Site × Nat)} {cs:List AV}:ren f (.tup cs)=.tup (rens f cs):=by rw [ren]
theorem Ydh {f:Site→Nat→Option (Site × Nat)} {g:Nat} {cs:List AV}:ren f (.clo g cs)=.clo g (rens f cs):=by rw [ren]
theorem Ydi {f:Site→Nat→Option (Site × Nat)} {t:Nat} {x:AV}:ren f (.ifc t x)=.ifc t (ren f x):=by rw [ren]
section
variable {f:Site→Nat→Option (Site × Nat)}
theorem Ydj {k:IntKind} {n:Int}:ren f (.int k n)=.int k n:=rfl
theorem Z72 {b:Bool}:ren f (.bool b)=.bool b:=rfl
theorem Ydk {l:List UInt8}:ren f (.str l)=.str l:=rfl
theorem Ydl {cs:List AV} {n:Nat}:ren f (.lst cs n)=.lst cs n:=rfl
theorem ren_fp {cs:List AV} {n:Nat}:ren f (.fp cs n)=.fp cs n:=rfl
theorem Z73:ren f .nilp=.nilp:=rfl
theorem Z74:ren f .nils=.nils:=rfl
theorem Z75:ren f .nilf=.nilf:=rfl
theorem Z76:ren f .nili=.nili:=rfl
theorem Z77:ren f .nilm=.nilm:=rfl
theorem Z78:ren f .junk=.junk:=rfl
theorem Ydm:ren f .und=.und:=rfl
theorem Ydn {l:List UInt8} {p:Nat}:ren f (.itr l p)=.itr l p:=rfl
theorem ren_mp {ks vs:List AV}:ren f (.mp ks vs)=.mp ks vs:=rfl
theorem Z79:rens f []=[]:=rfl
theorem Z19 {c:AV} {cs:List AV}:rens f (c::cs)=ren f c::rens f cs:=rfl
end
theorem Z8a {b:Ups}:Y7 b []=[]:=rfl
def Z8b (s:Site) (e:Ent) (r:Ups):Option Ent→Ups
  | some _=>r
  | none=>(s,{ e with alive:=false,cells:=[] })::r
theorem Zvj {s:Site} {e x:Ent} {r:Ups}:Z8b s e r (some x)=r:=rfl
theorem Zvk {s:Site} {e:Ent} {r:Ups}:Z8b s e r none=(s,{ e with alive:=false,cells:=[] })::r:=rfl
theorem Z2a {b:Ups} {s:Site} {e:Ent} {r:List (Site × Ent)}:Y7 b ((s,e)::r)=Z8b s e (Y7 b r) (A8 b s):=by
  rw [Y7];cases A8 b s<;>rfl
theorem Zrl {d g:Nat} {gs:List (Nat × Nat)} {s:Site}:H1 d gs (.up s) g=some (s,g):=rfl
def Z8c (d k g:Nat):Option Nat→Option (Site × Nat)
  | some g'=>W6 (g==0) (some (.s d k,g')) none ⟨⟩ ⟨⟩
  | none=>none
theorem Zvl {d k g g':Nat}:Z8c d k g (some g')=W6 (g==0) (some (.s d k,g')) none ⟨⟩ ⟨⟩:=rfl
theorem Zvm {d g k:Nat} {gs:List (Nat × Nat)}:H1 d gs (.r k) g=Z8c d k g (gs.lookup k):=by
  rw [H1]
  cases gs.lookup k with
  | none=>rfl
  | some x =>
    have hb:(g==0)=decide (g=0):=by by_cases h2:g=0<;>simp [h2]
    simp only [Z8c,W6,hb];by_cases h:g=0<;>simp [h]
theorem Znq {d:Nat} {gs:List (Nat × Nat)}:B8 d gs []=[]:=rfl
def backE (f:Site→Nat→Option (Site × Nat)) (e:Ent) (r:Ups):Option (Site × Nat)→Ups
  | some p=>(p.1,{ e with g:=p.2,cells:=rens f e.cells })::r
  | none=>r
theorem Zvn {f:Site→Nat→Option (Site × Nat)} {e:Ent} {r:Ups} {s:Site} {g:Nat}:backE f e r (some (s,g))=(s,{ e with g:=g,cells:=rens f e.cells })::r:=rfl
theorem Znr {d:Nat} {gs:List (Nat × Nat)} {s:Site} {e:Ent} {r:A2}:B8 d gs ((s,e)::r)=backE (H1 d gs) e (B8 d gs r) (H1 d gs s e.g):=by
  rw [B8];cases H1 d gs s e.g<;>rfl
def upN (g:Nat) (s:Site):Option Ent→Option (Site × Nat)
  | some e=>W6 (e.g==g) (some (.up s,g)) none ⟨⟩ ⟨⟩
  | none=>none
theorem Z8d {g:Nat} {s:Site} {e:Ent}:upN g s (some e)=W6 (e.g==g) (some (.up s,g)) none ⟨⟩ ⟨⟩:=rfl
theorem Z2b {es:List (Site × Ent)} {s:Site} {g:Nat}:Z3 es s g=upN g s (A8 es s):=by
  unfold Z3 upN
  cases A8 es s with
  | none=>rfl
  | some e =>
    have hb:(e.g==g)=decide (e.g=g):=by by_cases h2:e.g=g<;>simp [h2]
    simp only [W6,hb];by_cases h:e.g=g<;>simp [h]
theorem Zvo {n m:Nat} {k:List It}:T1 n (.blk m::k)=W6 (m==n) (some k) (T1 n k) ⟨⟩ ⟨⟩:=by
  rw [T1,Zcp];rfl
theorem Z8e {n:Nat} {x:LCode} {k:List It}:T1 n (.c x::k)=T1 n k:=rfl
theorem Z2c {n:Nat} {l:List Nat} {x:LCode} {k:List It}:T1 n (.lp l x::k)=T1 n k:=rfl
theorem Zvp {n:Nat} {x:LCode} {k:List It}:T1 n (.scp x::k)=T1 n k:=rfl
theorem Ydo {n:Nat} {x:LCode} {k:List It}:Y5 n (.c x::k)=Y5 n k:=rfl
theorem Z8f {n:Nat} {l:List Nat} {x:LCode} {k:List It}:Y5 n (.lp l x::k)=Y5 n k:=rfl
theorem Z2d {n m:Nat} {k:List It}:Y5 n (.blk m::k)=Y5 n k:=rfl
def Z8g (n:Nat) (x:LCode) (k:List It):Option LCode→Option (List It)
  | some r=>some (.c r::.scp x::k)
  | none=>Y5 n k
theorem Z2e {n:Nat} {x:LCode} {k:List It}:Y5 n (.scp x::k)=Z8g n x k (P9 x n):=by
  rw [Y5];cases P9 x n<;>rfl
theorem Zvq {n:Nat} {x r:LCode} {k:List It}:Z8g n x k (some r)=some (.c r::.scp x::k):=rfl
theorem Zvr {n:Nat} {x:LCode} {k:List It}:Z8g n x k none=Y5 n k:=rfl
def Z8h (b:LCode) (l:Nat):Option LCode→Option LCode
  | some r=>some (.seq r b)
  | none=>P9 b l
theorem Z2f {a b:LCode} {l:Nat}:P9 (.seq a b) l=Z8h b l (P9 a l):=by
  rw [P9];cases P9 a l<;>rfl
theorem Zvs {b r:LCode} {l:Nat}:Z8h b l (some r)=some (.seq r b):=rfl
theorem Zvt {b:LCode} {l:Nat}:Z8h b l none=P9 b l:=rfl
theorem Zrm {m l:Nat}:P9 (.label m) l=W6 (m==l) (some .skip) none ⟨⟩ ⟨⟩:=by
  rw [P9,Zcp];rfl
theorem Zvu {l:Nat}:P9 .skip l=none:=rfl
theorem Z2g {l:Nat}:P9 .ret l=none:=rfl
theorem Zvv {l n:Nat}:P9 (.exit n) l=none:=rfl
theorem Z2h {l:Nat} {o:List LOper} {p:List Nat}:P9 (.reg o p) l=none:=rfl
theorem Zvw {l:Nat} {o:List LOper} {q:List (Nat × Nat)} {p:List Nat}:P9 (.dreg o q p) l=none:=rfl
theorem Zvx {l:Nat} {c:LO} {a b:LCode}:P9 (.cond c a b) l=none:=rfl
theorem Zrn {l n:Nat} {a:LCode}:P9 (.block n a) l=none:=rfl
theorem Zvy {l:Nat} {v:List Nat} {a:LCode}:P9 (.loop v a) l=none:=rfl
theorem Zro {l:Nat} {a:LCode}:P9 (.scope a) l=none:=rfl
theorem Zvz {l n:Nat}:P9 (.goto n) l=none:=rfl
theorem Z8i {k:IntKind} {n:Int}:R1 (.int k n)=true:=rfl
theorem Zv0 {k:IntKind} {n:Int}:J4 (.int k n)=some [.int k n]:=rfl
theorem Z2i {b:Bool}:R1 (.bool b)=true:=rfl
theorem Zrp {b:Bool}:J4 (.bool b)=some [.bool b]:=rfl
theorem Z8j {l:List UInt8}:R1 (.str l)=true:=rfl
theorem Zv1 {l:List UInt8}:J4 (.str l)=some [.str l]:=rfl
theorem Z2j  : R1 .nilp=true:=rfl
theorem Zrq  : J4 .nilp=some [.nilp]:=rfl
theorem Z2k  : R1 .nils=true:=rfl
theorem Zrr  : J4 .nils=some [.nils]:=rfl
theorem Z2l  : R1 .nilf=true:=rfl
theorem Zrs  : J4 .nilf=some [.nilf]:=rfl
theorem Z2m  : R1 .nili=true:=rfl
theorem Zrt  : J4 .nili=some [.nili]:=rfl
theorem Z2n  : R1 .nilm=true:=rfl
theorem Zru  : J4 .nilm=some [.nilm]:=rfl
theorem Z8k {cs:List AV} {n:Nat}:R1 (.lst cs n)=true:=rfl
theorem Zv2 {cs:List AV} {n:Nat}:J4 (.lst cs n)=some [.lst cs n]:=rfl
theorem Ydp {cs:List AV} {n:Nat}:R1 (.fp cs n)=true:=rfl
theorem Z2o {cs:List AV} {n:Nat}:J4 (.fp cs n)=some [.fp cs n]:=rfl
theorem Z8l {s:Site} {g o:Nat}:R1 (.ref s g o)=true:=rfl
theorem Zv3 {s:Site} {g o:Nat}:J4 (.ref s g o)=some [.ref s g o]:=rfl
theorem Z8m {s:Site} {g o n z:Nat}:R1 (.buf s g o n z)=true:=rfl
theorem Zv4 {s:Site} {g o n z:Nat}:J4 (.buf s g o n z)=some [.buf s g o n z]:=rfl
theorem Z8n {f:Nat} {cs:List AV}:R1 (.clo f cs)=true:=rfl
theorem Zv5 {f:Nat} {cs:List AV}:J4 (.clo f cs)=some [.clo f cs]:=rfl
theorem Z8o {t:Nat} {x:AV}:R1 (.ifc t x)=true:=rfl
theorem Zv6 {t:Nat} {x:AV}:J4 (.ifc t x)=some [.ifc t x]:=rfl
theorem Z8p {s:Site} {g:Nat}:R1 (.mpr s g)=true:=rfl
theorem Zv7 {s:Site} {g:Nat}:J4 (.mpr s g)=some [.mpr s g]:=rfl
theorem Zv8 {cs:List AV}:J4 (.agg cs)=some cs:=rfl
theorem Zrv {ts:List (List Site × List Site)}:X0 ts []=true:=rfl
theorem Zns {ts:List (List Site × List Site)} {i j:Nat} {r:List (Nat × Nat)}:X0 ts ((i,j)::r)=(Zqb (ts.getD i ([],[])) (ts.getD j ([],[]))&&X0 ts r):=rfl
theorem Ydq {a b c d:List Site}:Zqb (a,b) (c,d)=(!(Zbv b c) && !(Zbv b d) && !(Zbv a d)):=rfl
theorem Zv9 {t:List Site}:Zbv [] t=false:=rfl
theorem Zwa {s:Site} {ss t:List Site}:Zbv (s::ss) t=(t.contains s||Zbv ss t):=rfl
theorem Ydr {cs:List AV}:fix cs=W6 (flats cs) (.ret (cs,[],[])) ((views cs).bindW (fun p=>(Zek p.2).bindW (fun u=>.ret (p.1,u,p.2)) ⟨⟩) ⟨⟩) ⟨⟩ ⟨⟩:=by
  unfold fix W6
  cases flats cs<;>rfl
theorem Z2p {cs:List AV}:Zbc (.agg cs)=W6 (flats cs) (.ret (.agg cs,[])) ((views cs).bindW (fun p=>.ret (.agg p.1,p.2)) ⟨⟩) ⟨⟩ ⟨⟩:=by
  rw [Zbc];unfold W6
  cases flats cs<;>rfl
attribute [go_sem] Z5s Z66 Z5t Z5u Zue Zq1 Z5v Zrc Z68 Zz7 Zz8 Zz9 Z0a Z67 Z69 Yct Z7a Z1j Zuu Z7b Zuv Zuw Z7c Z1k Z1l Z7d Zux Zuy Zuz Zu0 Zrd Zu1 Zu2 Zu3 Zre Zu4 Zrf Z1m Z1n Zu5 Z1o Z1p Zu6 Z1q Zu7 Z7e Zu8 Zu9 Z1r Zva Z7f ren_it Yde Ydn ren_mp Z8p Zv7
  Yb0 Z46 Zz0 Z47 Z48 Zuc Zq0 Yb1 Yb2 Zud Z49 Yb3 Z5d Z5e Z5f Z5g Z5h Zz1 Z5i Zz2 Zz3 Z5j Yb4 Yb5 Z5k Yb6 Yb7 Z5l Z5m Zz4 Z5n Zz5 Z5o Zz6 Z5p Z5q Z5r Z0b
  evR_t evR_k evR_g evR_f ev_t ev_k Z0c Z0d Z5w Yb8 Z5x Yb9 Z5y Z0e Yca Ycb Z5z Z0f Z0g Z0h Zq2 Zuf Zq3 Z0i Z0j Zq4 one_eq Ycc Zug mk_eq Z50 Z51 Z52 Z53
  Z0k Zuh Z0l Z0m Z54 Z0n Z0o Zui Zuj Zuk Zul V4.eq_1 V4.eq_2 V4.eq_3 Z55 Z0p Z56 Z57 Ycd Z58 Z0q Z0r Z0s Z0t Z0u Z59 Z6a Z2p Z0v Z0z Zum Z6b Z6c Zq5 Z00 Zun Ydr Zjp.eq_1 P6.eq_1 P6.eq_2 P6.eq_3 P6.eq_4 Z0w Z0x Z0y Z01 Zuq Z02 Zur Yce Zq9 Znm Z6f Z6g Ycf Ycg Z6h Z6i
  stC_eq Ych Zus Z04 Zkf Z6j Z6k Z05 Z6l Z6m Z6n Z6o Z6p Z6q Z6r Z6s Z6t Z6u Z06 Yci slR_eq slB_fp Z6v Z6w Z6x Z07 Ycj Yck Z6y Ycl Ycm faV_fp Z08 Z09 Ycn iaV_fp Yco Ycp Zkg Ycq Ycr
  Z6z Z60 Z61 Z1a Ycs Zrb Z1b Z62 Z1c Z1d Z1e Z1f Z1g Zut Z1h Z63 Z1i Z64 Z65 Z1s
  Zx5 Ycu Ycv Ycw Ycx Zx6 Z7g Zx7 Zvc Ycy Ycz Yc0 Yc1 Yc2 Yc3 Zx8 Zx9 Z7h Z7i Z7j Z7k Z7l Z7m Z7n Z5a Z5b Z5c Z7o Yc4 Yc5 Z1t Yc6 Z7p Z1u Z1v Z1w Z7q Z1x Z7r Yc7 un_neg Z7s un_not
  Z1y Z1z Z7u Z7v Zvg Z10
  X_seq Ybx X_ret X_skip X_regY X_regZ Ybu Zrv Zns Ydq Zv9 Zwa List.getD_cons_zero List.getD_cons_succ Ya7 X_blk Yc8 Yby Zvo Z8e Z2c X_scp Ya5 Ya6 Ybz Zvp Ydo Z8f Z2d Z2e Zvq Zvr Z2f Zvs Zvt Zrm Zvu Z2g Zvv Z2h Zvw Zvx Zrn Zvy Zro Zvz Zzv Zt9 X_nil Y_nil Y_op Ybv Z_nil Z_op Ybw Ybr Ybs Z44 Br_not Zua Ybt Zvd Zve Zvf Zrh Z45 Zzw Zzx Zzy Zzz params Z7w Z11 Z7x Z12 Z7y Z13 B5 Z70 Z15 Z7z Z14 Za1 Zvh Zvi Zri Znn Ydb ups_up ups_s ups_r refsOfs V6 Z16 Zrk Znp Z71 Yc9 Yda Zrj Zno Z79 Z19 Z17 Z18 Ydc Ydd Ydf Ydg Ydh Ydi Ydj Z72 Ydk Ydl ren_fp Z73 Z74 Z75 Z76 Z77 Z78 Ydm M1 flats Z8i Zv0 Z2i Zrp Z8j Zv1 Z2j Zrq Z2k Zrr Z2l Zrs Z2m Zrt Z2n Zru Z8k Zv2 Ydp Z2o Z8l Zv3 Z8m Zv4 Z8n Zv5 Z8o Zv6 Zv8 T7 leads leadss  Zln Z03 Zra
  Zq6 Znk Zuo Zq7 Znl Zup Zq8 Zrl Zvl Zvm Znq Zvn Znr Z8a Zvj Zvk Z2a tidy Zp1 V0 Z6d Z6e N2 Z8d Z2b Zaj Zjq Zak rep bytesOf
  if_true if_false Nat.add_zero Nat.zero_add and_self and_true true_and cond_true cond_false Site.s.injEq Site.r.injEq Site.up.injEq List.append_nil List.nil_append List.cons_append List.contains_nil List.contains_cons List.map_nil List.map_cons List.length_nil List.length_cons List.lookup_cons Option.map_some Option.map_none Bool.or_false Bool.false_or Bool.or_true Bool.true_or Bool.not_true Bool.not_false beq_self_eq_true List.flatMap_nil List.flatMap_cons Option.isSome_some Option.isSome_none BEq.rfl eq_self Bool.and_true Bool.true_and Bool.and_false Bool.false_and Nat.le_refl decide_true decide_false beq_true beq_false List.getElem?_cons_zero List.getElem?_cons_succ List.getElem?_nil
end Cod

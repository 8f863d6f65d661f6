/- Rules by which simp runs the abstract code. -/
import Derived.Attr
import Derived.Test.YthlnjgdoodjgoaaGreatDoorXCod5
set_option linter.unusedSimpArgs false
set_option linter.unusedVariables false
namespace Cod
open Go
section
variable {call:N3} {ρ:LO→AV} {d:Nat}
theorem Ylu {x}:step call ρ d (.mv x)=one (ρ x):=rfl
theorem Ydr {sz}:step call ρ d (.nil sz)=Zdf (.s d 0) [] 0 sz []:=rfl
theorem Z7t {c} {a} {b}:step call ρ d (.pick c a b)=Zv4 (ρ c) (ρ a) (ρ b):=rfl
theorem Yds {cells}:step call ρ d (.new cells)=Zlr (.s d 0) cells:=rfl
theorem Ydt {x}:step call ρ d (.box x)=boxV (.s d 0) (J8 (ρ x)):=rfl
theorem Z07 {zero} {ps}:step call ρ d (.build zero ps)=Zq6 (Zb1 ρ ps (some zero)):=rfl
theorem Zw4 {sz} {n} {zero} {ps}:step call ρ d (.bslice sz n zero ps)=Zir (.s d 0) n sz (Zb1 ρ ps (some (rep zero n))):=rfl
theorem Ylv {n} {a}:step call ρ d (.ld n a)=ldV n (ρ a):=rfl
theorem Ylw {n} {a} {x}:step call ρ d (.st n a x)=stV n (ρ a) (J8 (ρ x)):=rfl
theorem Z08 {x}:step call ρ d (.nilck x)=Zkq (ρ x):=rfl
theorem Ydu {op} {x} {y}:step call ρ d (.bin op x y)=optV (J2 op (ρ x) (ρ y)):=rfl
theorem Ydv {neg} {x} {y}:step call ρ d (.eqb neg x y)=optV (Zv0 neg (ρ x) (ρ y)):=rfl
theorem Ydw {ks} {neg} {x} {y}:step call ρ d (.eqa ks neg x y)=eqaV ks neg (ρ x) (ρ y):=rfl
theorem Ydx {kd} {neg} {x} {y}:step call ρ d (.eqn kd neg x y)=eqnV kd neg (ρ x) (ρ y):=rfl
theorem Ylx {op} {x}:step call ρ d (.un op x)=optV (Zq5 op (ρ x)):=rfl
theorem Ydy {k} {x}:step call ρ d (.cvi k x)=Zq7 k (ρ x):=rfl
theorem Ydz {x}:step call ρ d (.s2s x)=s2sV (ρ x):=rfl
theorem Yd0 {x}:step call ρ d (.s2b x)=s2bV (.s d 0) (ρ x):=rfl
theorem Yd1 {x}:step call ρ d (.b2s x)=Z0c (ρ x):=rfl
theorem Yd2 {x} {lo} {hi}:step call ρ d (.sls x lo hi)=slsV (ρ x) (loV (lo.map ρ)) (hiV (Zd9 none (ρ x)) (hi.map ρ)):=rfl
theorem Z7u {x}:step call ρ d (.lens x)=Zv6 (ρ x):=rfl
theorem Yd3 {x}:step call ρ d (.b2b x)=b2bV (ρ x):=rfl
theorem Z7v {t} {x}:step call ρ d (.mkif t x)=Zoz t (ρ x):=rfl
theorem Z7w {f} {cap}:step call ρ d (.mkfn f cap)=one (.clo f (cap.map ρ)):=rfl
theorem Yd4 {sz} {bytes} {zero} {l} {c}:step call ρ d (.mks sz bytes zero l c)=mksV (.s d 0) sz bytes zero (ρ l) (ρ c):=rfl
theorem Yly {sz} {arr} {x} {lo} {hi}:step call ρ d (.sl sz arr x lo hi)=slV sz arr (ρ x) (loV (lo.map ρ)) (hiV (Zd9 arr (ρ x)) (hi.map ρ)):=rfl
theorem Ylz {x} {off}:step call ρ d (.fa x off)=faV off (ρ x):=rfl
theorem Yd5 {x} {off} {n}:step call ρ d (.fld x off n)=Zv5 off n (ρ x):=rfl
theorem Yl0 {sz} {arr} {x} {i}:step call ρ d (.ia sz arr x i)=iaV sz arr (ρ x) (ρ i):=rfl
theorem Yl1 {sz} {arr} {agg} {x} {i}:step call ρ d (.ix sz arr agg x i)=ixV sz agg arr (ρ x) (ρ i):=rfl
theorem Yd6 {n} {sz} {x}:step call ρ d (.s2a n sz x)=s2aV n sz (ρ x):=rfl
theorem Yd7 {x} {i}:step call ρ d (.ext x i)=extV i (ρ x):=rfl
theorem Z7x {f} {args} {take}:step call ρ d (.call f args take)=Zis call d take (args.map ρ) (ρ f):=rfl
theorem Yd8 {sz} {bytes} {s} {x}:step call ρ d (.app sz bytes s x)=(U6 sz (ρ x)).bindW (fun p=>(fix p.1).bindW (fun q=>Zit (.s d 0) sz bytes p.2 q.1 q.2.1 q.2.2 (ρ s)) ⟨⟩) ⟨⟩:=rfl
theorem Z7y {sz} {bytes} {zero} {s} {n}:step call ρ d (.appz sz bytes zero s n)=Zo0 (.s d 0) sz bytes zero (ρ s) (ρ n):=rfl
theorem Yd9 {arr} {x}:step call ρ d (.len arr x)=Zls arr (ρ x):=rfl
theorem Z7z {sz} {dd} {s}:step call ρ d (.copy sz dd s)=(U6 sz (ρ s)).bindW (fun p=>Zv7 sz p.2 p.1 (ρ dd)) ⟨⟩:=rfl
theorem Yea {x} {y}:step call ρ d (.min x y)=minV (ρ x) (ρ y):=rfl
theorem Yeb {x} {y}:step call ρ d (.max x y)=maxV (ρ x) (ρ y):=rfl
theorem Yec {x}:step call ρ d (.cap x)=capV (ρ x):=rfl
theorem Yed {x}:step call ρ d (.r2s x)=r2sV (ρ x):=rfl
theorem Yee {x}:step call ρ d (.rng x)=rngV (.s d 0) (ρ x):=rfl
theorem Yef {x}:step call ρ d (.nxt x)=nxtV (ρ x):=rfl
theorem Z09:step call ρ d .mkmap=Zm4 (.s d 0) (.mp [] []) (.mpr (.s d 0)):=rfl
theorem Z70 {str zero ok m k}:step call ρ d (.mget str zero ok m k)=Zv8 str zero ok (ρ k) (ρ m):=rfl
theorem Z71 {str m k x}:step call ρ d (.mput str m k x)=Zv9 str (Zah (ρ x)) (ρ k) (J8 (ρ x)) (ρ m):=rfl
theorem Z72 {str m k}:step call ρ d (.mdel str m k)=Zwa str (ρ k) (ρ m):=rfl
theorem Z73 {x}:step call ρ d (.mlen x)=Zwb (ρ x):=rfl
theorem Z74:step call ρ d (.stop)=.fail:=rfl
end
section
variable {E:Env} {sl loc:List (Nat × AV)}
theorem evR_t {n:Nat}:evR E sl loc (.t n)=R5 sl loc n:=rfl
theorem evR_k {v:AV}:evR E sl loc (.k v)=v:=rfl
theorem evR_g {n:Nat}:evR E sl loc (.g n)=Zh4 (E.glob n):=rfl
theorem evR_f {n:Nat}:evR E sl loc (.f n)=.clo n []:=rfl
theorem ev_t {n:Nat}:ev E sl (.t n)=Y1 sl n:=rfl
theorem ev_k {v:AV}:ev E sl (.k v)=v:=rfl
theorem Z75 {n:Nat}:Y8 (some n)=n:=rfl
theorem Z76:Y8 none=0:=rfl
end
theorem Yeg {b:Bool}:gdV (.bool b)=true:=rfl
theorem Yl2:gdV .und=true:=rfl
theorem Yeh {w b:Bool}:gdB w (.bool b)=(b==w):=rfl
theorem Yl3 {w:Bool}:gdB w .und=false:=rfl
theorem Yei {b:Bool}:isB (.bool b)=true:=rfl
theorem Z77 {k:List It}:outO (some k)=k:=rfl
theorem Yl4 {α:Type} {a : α} {σ:A6}:(Acc.ret a).run σ=some a:=rfl
theorem Yl5 {α:Type} {s:Site} {k:Option Ent→Acc α} {σ:A6}:(Acc.get s k).run σ=(k (A9 σ s)).run σ:=rfl
theorem Yej {α β:Type} {a : α} {f : α→Acc β}:(Acc.ret a).bind f=f a:=rfl
theorem Z78 {α:Type} {a : α} {σ:A6}:(Acc.ret a).reads σ=[]:=rfl
theorem Z79 {α:Type} {s:Site} {k:Option Ent→Acc α} {σ:A6}:(Acc.get s k).reads σ=s::(k (A9 σ s)).reads σ:=rfl
theorem Z8a {α β:Type} {s:Site} {k:Option Ent→Acc α} {f : α→Acc β} {σ:A6}:((Acc.get s k).bind f).run σ=((k (A9 σ s)).bind f).run σ:=rfl
theorem Zw5 {α β:Type} {s:Site} {k:Option Ent→Acc α} {f : α→Acc β} {σ:A6}:((Acc.get s k).bind f).reads σ=s::((k (A9 σ s)).bind f).reads σ:=rfl
theorem Zpo {α β γ:Type} (x:Acc α) (f : α→Acc β) (g : β→Acc γ):(x.bind f).bind g=x.bind fun a=>(f a).bind g:=by
  induction x with
  | ret a=>rfl
  | fail=>rfl
  | get s k ih=>exact congrArg (Acc.get s) (funext fun e=>ih e)
theorem Z1a {α β γ:Type} (x:Acc α) (f : α→Acc β) (g : β→Acc γ) (w:Wit g):(x.bind f).bindW g w=x.bindW (fun a=>(f a).bindW g ⟨⟩) ⟨⟩:=Zpo x f g
theorem Zgy {α β γ:Type} (x:Acc α) (f : α→Acc β) (v:Wit f) (g : β→Acc γ) (w:Wit g):(x.bindW f v).bindW g w=x.bindW (fun a=>(f a).bindW g ⟨⟩) ⟨⟩:=Zpo x f g
theorem Zpp {α β:Type} {a : α} {f : α→Acc β} {w:Wit f}:(Acc.ret a).bindW f w=f a:=rfl
theorem Z8b {α β:Type} {s:Site} {k:Option Ent→Acc α} {f : α→Acc β} {w:Wit f} {σ:A6}:((Acc.get s k).bindW f w).run σ=((k (A9 σ s)).bindW f ⟨⟩).run σ:=rfl
theorem Zw6 {α β:Type} {s:Site} {k:Option Ent→Acc α} {f : α→Acc β} {w:Wit f} {σ:A6}:((Acc.get s k).bindW f w).reads σ=s::((k (A9 σ s)).bindW f ⟨⟩).reads σ:=rfl
theorem one_eq {x:AV}:one x=.ret (x,[]):=rfl
theorem Yl6 {s:Site} {g:Nat}:U5 s g=.get s (Zv1 g):=rfl
theorem Z1b {g:Nat} {e:Ent}:Zv1 g (some e)=if e.alive=true∧e.g=g then .ret e else .fail:=rfl
theorem mk_eq {s:Site} {v:Bool} {cs:List AV}:mk s v cs=.get s (mkE s v cs):=rfl
theorem Yek {s:Site} {v:Bool} {cs:List AV} {e:Ent}:mkE s v cs (some e)=.ret (e.g+1,[(s,⟨e.g+1,true,true,v,cs⟩)]):=rfl
theorem Yel {s:Site} {v:Bool} {cs:List AV}:mkE s v cs none=.ret (0,[(s,⟨0,true,true,v,cs⟩)]):=rfl
theorem Yem {s:Site} {cs:List AV}:Zlr s cs=(mk s true cs).bindW (fun p=>.ret (.ref s p.1 0,p.2)) ⟨⟩:=rfl
theorem Yen {s:Site} {cs:List AV} {n sz:Nat} {u:Ups}:Zdf s cs n sz u=(mk s false cs).bindW (fun p=>.ret (.buf s p.1 0 n sz,u++p.2)) ⟨⟩:=rfl
theorem Zpq {k:IntKind} {n:Int}:Z7 (.int k n)=.ret (.int k n,[]):=rfl
theorem Z1c {b:Bool}:Z7 (.bool b)=.ret (.bool b,[]):=rfl
theorem Z8c {l:List UInt8}:Z7 (.str l)=.ret (.str l,[]):=rfl
theorem Z8d {cs:List AV} {n:Nat}:Z7 (.lst cs n)=.ret (.lst cs n,[]):=rfl
theorem Yeo {cs:List AV} {n:Nat}:Z7 (.fp cs n)=.ret (.fp cs n,[]):=rfl
theorem Z1d:Z7 .nilp=.ret (.nilp,[]):=rfl
theorem Z1e:Z7 .nilf=.ret (.nilf,[]):=rfl
theorem Z1f:Z7 .nili=.ret (.nili,[]):=rfl
theorem Z1g:Z7 .nilm=.ret (.nilm,[]):=rfl
theorem Z8e {f:Nat} {cs:List AV}:Z7 (.clo f cs)=if flats cs=true then .ret (.clo f cs,[]) else .fail:=rfl
theorem Z8f {t:Nat} {x:AV}:Z7 (.ifc t x)=if K1 x=true then .ret (.ifc t x,[]) else .fail:=rfl
theorem Yep {k:IntKind} {n:Int}:Zc1 (.int k n)=.ret (.int k n,[]):=rfl
theorem Z8g {b:Bool}:Zc1 (.bool b)=.ret (.bool b,[]):=rfl
theorem Yeq {l:List UInt8}:Zc1 (.str l)=.ret (.str l,[]):=rfl
theorem Yer {cs:List AV} {n:Nat}:Zc1 (.lst cs n)=.ret (.lst cs n,[]):=rfl
theorem Yl7 {cs:List AV} {n:Nat}:Zc1 (.fp cs n)=.ret (.fp cs n,[]):=rfl
theorem Z8h:Zc1 .nils=.ret (.lst [] 0,[]):=rfl
theorem Z8i:Zc1 .nilp=.ret (.nilp,[]):=rfl
theorem Z8j:Zc1 .nilf=.ret (.nilf,[]):=rfl
theorem Z8k:Zc1 .nili=.ret (.nili,[]):=rfl
theorem Z8l:Zc1 .nilm=.ret (.nilm,[]):=rfl
theorem Yes {t:Nat} {x:AV}:Zc1 (.ifc t x)=if K1 x=true then .ret (.ifc t x,[]) else .fail:=rfl
theorem Yet {s:Site} {g off n z:Nat}:Zc1 (.buf s g off n z)=(U5 s g).bindW (Ych off n z s) ⟨⟩:=rfl
theorem Yeu {s:Site} {g off:Nat}:Zc1 (.ref s g off)=(U5 s g).bindW (Yci off s) ⟨⟩:=rfl
theorem Z8m {f:Nat}:Zc1 (.clo f [])=.ret (.clo f [],[]):=rfl
theorem Yev {off n z:Nat} {s:Site} {e:Ent}:Ych off n z s e=if off+n*z≤e.cells.length∧flats e.cells=true then .ret (.lst (sub e.cells off (n*z)) n,[s]) else .fail:=rfl
theorem Yew {off:Nat} {s:Site} {e:Ent}:Yci off s e=if flats e.cells=true then .ret (.fp e.cells off,[s]) else .fail:=rfl
theorem Zw7 {s:Site} {u:Ups} {e:Ent}:Zm1 s u (some e)=.ret ((s,{ e with rw:=false })::u):=rfl
theorem Z8n {sz off n z:Nat} {e:Ent}:Ycj sz off n z e=if z=sz∧off+n*z≤e.cells.length then .ret (sub e.cells off (n*z),n) else .fail:=rfl
theorem Z8o {k:Nat} {l:List (Nat × Nat)} {e:Ent}:genE k l (some e)=.ret ((k,e.g+1)::l):=rfl
theorem Z8p {k:Nat} {l:List (Nat × Nat)}:genE k l none=.ret ((k,0)::l):=rfl
theorem Zw8 {i:Nat} {take:List Nat}:U7 i take []=.ret ([],[],[]):=rfl
theorem Zrr {i:Nat} {take:List Nat} {x:AV} {xs:List AV}:U7 i take (x::xs) =
    Zac (take.contains i) ((U7 (i+1) take xs).bindW (fun p=>.ret (x::p.1,X4 x++p.2.1,p.2.2)) ⟨⟩)
      ((Zc1 x).bindW (fun q=>(U7 (i+1) take xs).bindW (fun p=>.ret (q.1::p.1,p.2.1,q.2++p.2.2)) ⟨⟩) ⟨⟩) ⟨⟩ ⟨⟩:=rfl
theorem Z8q:views []=.ret ([],[]):=rfl
theorem Zic {c:AV} {cs:List AV}:views (c::cs)=(Z7 c).bindW (fun p=>(views cs).bindW (fun q=>.ret (p.1::q.1,p.2++q.2)) ⟨⟩) ⟨⟩:=rfl
theorem Z8r:Zgm []=.ret []:=rfl
theorem Z1h {s:Site} {ss:List Site}:Zgm (s::ss)=(Zgm ss).bindW (fun u=>.get s (Zm1 s u)) ⟨⟩:=rfl
theorem Z1i {n:Nat} {seen:List Site}:Zbz (n+1) [] seen=.ret []:=rfl
theorem Zw9 {n:Nat} {s:Site} {g:Nat} {r:List (Site × Nat)} {seen:List Site}:Zbz (n+1) ((s,g)::r) seen =
    Zac (seen.contains s) (Zbz n r seen)
      ((U5 s g).bindW (fun e=>(Zbz n (r++refsOfs e.cells) (s::seen)).bindW (fun u=>.ret ((s,e)::u)) ⟨⟩) ⟨⟩) ⟨⟩ ⟨⟩:=rfl
theorem Zrs {d:Nat}:T8 d []=.ret []:=rfl
theorem Z1j {d k:Nat} {e:Ent} {r:A6}:T8 d ((.r k,e)::r)=(T8 d r).bindW (fun l=>.get (.s d k) (genE k l)) ⟨⟩:=rfl
theorem Zxa {d:Nat} {x:Site} {e:Ent} {r:A6}:T8 d ((.up x,e)::r)=T8 d r:=rfl
theorem Z8s {call:N3} {d f:Nat} {args:List AV} {take:List Nat}:Zcm call d f args take =
  (U7 0 take args).bindW (fun p=>(Zbz 64 p.2.1 []).bindW (fun es=>Z46 d p.2.2 es (call f (rens (Zbk es) p.1) (O2 es es))) ⟨⟩) ⟨⟩:=rfl
theorem Z1k {d:Nat} {ss:List Site} {es:List (Site × Ent)} {v:AV} {σ:A6}:Z46 d ss es (some (v,σ)) =
    Zac (tidy σ && !(Zm3 es ss)) ((T8 d σ).bindW (fun gs=>LetA (E5 d gs σ) (fun b=>Zac (Z8 b) (Z45 ss es (ren (H8 d gs) v) b) .fail ⟨⟩ ⟨⟩) ⟨⟩) ⟨⟩) .fail ⟨⟩ ⟨⟩:=rfl
theorem Yex {ss:List Site} {es:List (Site × Ent)} {v:AV} {b:Ups}:Z45 ss es v b =
    Zac (T4 v||Zb0 b) ((Zgm ss).bindW (fun u=>.ret (v,u++(b++Za7 b es))) ⟨⟩) (.ret (v,b++Za7 b es)) ⟨⟩ ⟨⟩:=rfl
theorem Yey {σ:Ups} {s:Site}:Zv2 σ s=(A9 σ s).isNone:=rfl
theorem Z8t {x:AV}:optV (some x)=.ret (x,[]):=rfl
theorem Z1l {t:Bool} {a b:AV}:Zv4 (.bool t) a b=.ret (bif t then a else b,[]):=rfl
theorem Yl8 {cs:List AV} {off n:Nat}:aggV cs off n=if off+n≤cs.length then .ret (.agg (sub cs off n),[]) else .fail:=rfl
theorem Zxb {cs:List AV}:Zq6 (some cs)=.ret (.agg cs,[]):=rfl
theorem Zrt {s:Site} {n sz:Nat} {cs:List AV}:Zir s n sz (some cs)=(fix cs).bindW (fun p=>Zdf s p.1 n sz p.2.1) ⟨⟩:=rfl
theorem Yez {off:Nat} {e:Ent}:ldC none off e=optV e.cells[off]? := rfl
theorem Ye0 {n off:Nat} {e:Ent}:ldC (some n) off e=aggV e.cells off n:=rfl
theorem Yl9 {cs:List AV} {off:Nat}:ldV none (.fp cs off)=optV cs[off]? := rfl
theorem Yma {cs:List AV} {off n:Nat}:ldV (some n) (.fp cs off)=aggV cs off n:=rfl
theorem Ye1 {s:Site} {g off:Nat}:ldV none (.ref s g off)=(U5 s g).bindW (ldC none off) ⟨⟩:=rfl
theorem Ye2 {s:Site} {g off n:Nat}:ldV (some n) (.ref s g off)=(U5 s g).bindW (ldC (some n) off) ⟨⟩:=rfl
theorem stC_eq {s:Site} {off n:Nat} {xs:List AV} {e:Ent}:stC s off n xs e =
  if e.rw=true∧xs.length=n∧off+n≤e.cells.length∧J9 xs=true then
    (bif e.var then .ret (.und,[(s,{ e with cells:=over e.cells off xs })])
     else (fix xs).bindW (fun p=>bif p.2.2.contains s then .fail else .ret (.und,p.2.1++[(s,{ e with cells:=over e.cells off p.1 })])) ⟨⟩)
  else .fail:=rfl
theorem Ymb {n:Nat} {s:Site} {g off:Nat} {xs:List AV}:stV n (.ref s g off) (some xs)=(U5 s g).bindW (stC s off n xs) ⟨⟩:=rfl
theorem Z8u {s:Site} {xs:List AV}:boxV s (some xs)=Zlr s xs:=rfl
theorem Zxc {cells ys:List AV} {off n:Nat}:Zoy cells off n (some ys)=if ys.length=n∧off+n≤cells.length then some (over cells off ys) else none:=rfl
theorem Z1m {s:Site} {g off:Nat}:Zkq (.ref s g off)=still1 s g (.ref s g off):=rfl
theorem Z8v {cs:List AV} {off:Nat}:Zkq (.fp cs off)=.ret (.fp cs off,[]):=rfl
theorem Znr {k k':IntKind} {n:Int}:Zq7 k (.int k' n)=.ret (.int k (k.wrap n),[]):=rfl
theorem Ye3 {l:List UInt8}:s2sV (.str l)=.ret (.str l,[]):=rfl
theorem Ye4 {s:Site} {l:List UInt8}:s2bV s (.str l)=Zdf s (A1 l) l.length 1 []:=rfl
theorem Z8w {l:List UInt8}:strV (some l)=.ret (.str l,[]):=rfl
theorem Ye5 {s:Site} {g off n z:Nat}:b2bV (.buf s g off n z)=(U5 s g).bindW (fun e=>if e.rw=true∧e.cells.isEmpty=false then .ret (.buf s g off n z,[]) else .fail) ⟨⟩:=rfl
theorem Ye6 {s:Site} {sz bytes:Nat} {zero:List AV} {l c:Int}:mksV s sz bytes zero (.int .i64 l) (.int .i64 c) =
    if 0≤l∧l≤c∧bytes*c≤281474976710656∧c≤281474976710656 then Zdf s (rep zero l.toNat) l.toNat sz [] else .fail:=rfl
theorem Ye7 {x:AV}:loV (some x)=x:=rfl
theorem Ye8:loV none=.int .i64 0:=rfl
theorem Ye9 {n:Nat} {x:AV}:hiV n (some x)=x:=rfl
theorem Yfa {n:Nat}:hiV n none=.int .i64 n:=rfl
theorem Yfb {n:Nat} {x:AV}:Zd9 (some n) x=n:=rfl
theorem Yfc {l:List UInt8}:Zd9 none (.str l)=l.length:=rfl
theorem Yfd {cs:List AV} {n:Nat}:Zd9 none (.lst cs n)=n:=rfl
theorem Yfe {s:Site} {g off n z:Nat}:Zd9 none (.buf s g off n z)=n:=rfl
theorem Z8x:Zd9 none .nils=0:=rfl
theorem Ymc {sz n l h:Nat} {s:Site} {g off:Nat}:slB sz (some n) (.ref s g off) l h=(U5 s g).bindW (slR sz n l h s g off) ⟨⟩:=rfl
theorem slR_eq {sz n l h:Nat} {s:Site} {g off:Nat} {e:Ent}:slR sz n l h s g off e=if off+n*sz≤e.cells.length then .ret (.buf s g (off+l*sz) (h-l) sz,[]) else .fail:=rfl
theorem slB_fp {sz n l h:Nat} {cs:List AV} {off:Nat}:slB sz (some n) (.fp cs off) l h=if off+n*sz≤cs.length then .ret (.lst (sub cs (off+l*sz) ((h-l)*sz)) (h-l),[]) else .fail:=rfl
theorem Yff {k k':IntKind} {l h:Int} {t:List UInt8}:slsV (.str t) (.int k l) (.int k' h)=if 0≤l∧l≤h∧h≤t.length then .ret (.str (sub t l.toNat (h.toNat-l.toNat)),[]) else .fail:=rfl
theorem Yfg {cs:List AV} {n:Nat}:Z0c (.lst cs n)=(U6 1 (.lst cs n)).bindW (fun p=>strV (bytesOf p.1)) ⟨⟩:=rfl
theorem Yfh {s:Site} {g o n z:Nat}:Z0c (.buf s g o n z)=(U6 1 (.buf s g o n z)).bindW (fun p=>strV (bytesOf p.1)) ⟨⟩:=rfl
theorem Z8y:Z0c .nils=.ret (.str [],[]):=rfl
theorem Ymd {sz l h n:Nat} {cs:List AV}:slB sz none (.lst cs n) l h=if cs.length=n*sz then .ret (.lst (sub cs (l*sz) ((h-l)*sz)) (h-l),[]) else .fail:=rfl
theorem Yme {sz l h:Nat} {s:Site} {g off n z:Nat}:slB sz none (.buf s g off n z) l h=if z=sz then still1 s g (.buf s g (off+l*sz) (h-l) sz) else .fail:=rfl
theorem Yfi {sz l h:Nat}:slB sz none .nils l h=.ret (.nils,[]):=rfl
theorem Ymf {sz:Nat} {arr:Option Nat} {x:AV} {k k':IntKind} {l h:Int}:slV sz arr x (.int k l) (.int k' h)=if 0≤l∧l≤h∧h≤Zd9 arr x then slB sz arr x l.toNat h.toNat else .fail:=rfl
theorem Ymg {off:Nat} {s:Site} {g o:Nat}:faV off (.ref s g o)=still1 s g (.ref s g (o+off)):=rfl
theorem faV_fp {off:Nat} {cs:List AV} {o:Nat}:faV off (.fp cs o)=.ret (.fp cs (o+off),[]):=rfl
theorem Z8z {off:Nat} {cs:List AV}:Zv5 off none (.agg cs)=optV cs[off]? := rfl
theorem Z80 {off n:Nat} {cs:List AV}:Zv5 off (some n) (.agg cs)=aggV cs off n:=rfl
theorem Ymh {sz n:Nat} {s:Site} {g o:Nat} {k:IntKind} {i:Int}:iaV sz (some n) (.ref s g o) (.int k i)=if 0≤i∧i<n then still1 s g (.ref s g (o+i.toNat*sz)) else .fail:=rfl
theorem iaV_fp {sz n:Nat} {cs:List AV} {o:Nat} {k:IntKind} {i:Int}:iaV sz (some n) (.fp cs o) (.int k i)=if 0≤i∧i<n then .ret (.fp cs (o+i.toNat*sz),[]) else .fail:=rfl
theorem Ymi {sz n:Nat} {cs:List AV} {k:IntKind} {i:Int}:iaV sz none (.lst cs n) (.int k i)=if 0≤i∧i<n then .ret (.fp cs (i.toNat*sz),[]) else .fail:=rfl
theorem Ymj {sz:Nat} {s:Site} {g o n z:Nat} {k:IntKind} {i:Int}:iaV sz none (.buf s g o n z) (.int k i)=if 0≤i∧i<n∧z=sz then still1 s g (.ref s g (o+i.toNat*sz)) else .fail:=rfl
theorem Zns {b:UInt8}:Z47 (some b)=.ret (.int .u8 b.toNat,[]):=rfl
theorem Ymk {sz n:Nat} {agg:Bool} {cs:List AV} {k:IntKind} {i:Int}:ixV sz agg (some n) (.agg cs) (.int k i) =
  if 0≤i∧i<n∧i.toNat*sz+sz≤cs.length then (bif agg then one (.agg (sub cs (i.toNat*sz) sz)) else optV cs[i.toNat*sz]?) else .fail:=rfl
theorem Yml {sz:Nat} {agg:Bool} {t:List UInt8} {k:IntKind} {i:Int}:ixV sz agg none (.str t) (.int k i)=if 0≤i then Z47 t[i.toNat]? else .fail:=rfl
theorem Yfj {n sz m:Nat} {cs:List AV}:s2aV n sz (.lst cs m)=if n≤m∧cs.length=m*sz∧0<n then .ret (.fp cs 0,[]) else .fail:=rfl
theorem Yfk {n sz m:Nat} {s:Site} {g o z:Nat}:s2aV n sz (.buf s g o m z)=if n≤m∧z=sz∧0<n then still1 s g (.ref s g o) else .fail:=rfl
theorem Yfl {i:Nat} {cs:List AV}:extV i (.tup cs)=optV cs[i]? := rfl
theorem Z81 {call:N3} {d:Nat} {take:List Nat} {args:List AV} {f:Nat} {cap:List AV}:Zis call d take args (.clo f cap)=Zcm call d f (args++cap) take:=rfl
theorem Ymm {t:Site} {sz bytes m:Nat} {vs:List AV} {u:Ups} {ss:List Site} {s:Site} {o n z:Nat} {e:Ent}:appB t sz bytes m vs u ss s o n z e =
  if e.rw=true∧e.var=false∧z=sz∧o+n*sz≤e.cells.length∧(n+m)*bytes≤Q8∧ss.contains s=false∧J9 vs=true then
    Zdf t (sub e.cells o (n*sz)++vs) (n+m) sz (Zea s t u e)
  else .fail:=rfl
theorem Zxd {s t:Site} {u:Ups} {e:Ent}:Zea s t u e=bif decide (s=t) then u else u++[(s,{ e with alive:=false,cells:=[] })]:=rfl
theorem Z82 {t:Site} {sz bytes m:Nat} {vs:List AV} {u:Ups} {ss:List Site}:Zit t sz bytes m vs u ss .nils=if m*bytes≤Q8 then Zdf t vs m sz u else .fail:=rfl
theorem Yfm {t:Site} {sz bytes m:Nat} {vs:List AV} {u:Ups} {ss:List Site} {s:Site} {g o n z:Nat}:Zit t sz bytes m vs u ss (.buf s g o n z)=(U5 s g).bindW (appB t sz bytes m vs u ss s o n z) ⟨⟩:=rfl
theorem Z83 {t:Site} {sz bytes:Nat} {zero:List AV} {s:AV} {m:Int}:Zo0 t sz bytes zero s (.int .i64 m)=if 0≤m∧m≤Q8 then Zit t sz bytes m.toNat (rep zero m.toNat) [] [] s else .fail:=rfl
theorem Z84 {n:Nat} {x:AV}:Zls (some n) x=.ret (.int .i64 n,[]):=rfl
theorem Z85 {l:List UInt8}:Zv6 (.str l)=.ret (.int .i64 l.length,[]):=rfl
theorem Z86 {cs:List AV} {n:Nat}:Zls none (.lst cs n)=.ret (.int .i64 n,[]):=rfl
theorem Z87 {s:Site} {g off n z:Nat}:Zls none (.buf s g off n z)=still1 s g (.int .i64 n):=rfl
theorem Z88 {s:Site} {g:Nat} {x:AV}:still1 s g x=(U5 s g).bindW (fun _=>.ret (x,[])) ⟨⟩:=rfl
theorem Z1n:Zls none .nils=.ret (.int .i64 0,[]):=rfl
theorem Yfn {sz m:Nat} {ys:List AV} {s:Site} {o n z:Nat} {e:Ent}:Z48 sz m ys s o n z e =
  if e.rw=true∧z=sz∧o+n*sz≤e.cells.length∧flats ys=true then
    .ret (.int .i64 (Nat.min m n),[(s,{ e with cells:=over e.cells o (ys.take (Nat.min m n*sz)) })])
  else .fail:=rfl
theorem Z89 {sz m:Nat} {ys:List AV} {s:Site} {g o n z:Nat}:Zv7 sz m ys (.buf s g o n z)=(U5 s g).bindW (Z48 sz m ys s o n z) ⟨⟩:=rfl
theorem Yfo {k:IntKind} {a b:Int}:minV (.int k a) (.int k b)=.ret (.int k (if b<a then b else a),[]):=by simp [minV,one]
theorem Yfp {k:IntKind} {a b:Int}:maxV (.int k a) (.int k b)=.ret (.int k (if a<b then b else a),[]):=by simp [maxV,one]
theorem Yfq {k:IntKind} {n:Int}:r2sV (.int k n)=.ret (.str (Zbj n),[]):=rfl
theorem Yfr {s:Site} {c:AV} {f:Nat→AV}:Zm4 s c f=(mk s true [c]).bindW (fun p=>.ret (f p.1,p.2)) ⟨⟩:=rfl
theorem Yfs {s:Site} {l:List UInt8}:rngV s (.str l)=Zm4 s (.itr l 0) (.it s):=rfl
theorem Ymn {s:Site} {g:Nat}:nxtV (.it s g)=(U5 s g).bindW (nxtC s) ⟨⟩:=rfl
theorem Yft {s:Site} {g:Nat} {al rw var:Bool} {l:List UInt8} {p:Nat}:nxtC s ⟨g,al,rw,var,[.itr l p]⟩ =
  if rw=true then (if p<l.length then .ret (.tup [.bool true,.int .i64 p,.int .i32 (Zbi l p).1],[(s,⟨g,al,rw,var,[.itr l (p+(Zbi l p).2)]⟩)]) else .ret (.tup [.bool false],[])) else .fail:=rfl
theorem Z9a {str:Bool} {zero:AV} {ok:Bool} {k:AV} {s:Site} {g:Nat}:Zv8 str zero ok k (.mpr s g)=(U5 s g).bindW (Z49 str zero ok k) ⟨⟩:=rfl
theorem Z1o {str:Bool} {zero:AV} {ok:Bool} {k:AV}:Zv8 str zero ok k .nilm=.ret (okV ok false zero,[]):=rfl
theorem Yfu {str:Bool} {zero:AV} {ok:Bool} {k:AV} {g:Nat} {al rw var:Bool} {ks vs:List AV}:Z49 str zero ok k ⟨g,al,rw,var,[.mp ks vs]⟩=Zo1 zero ok vs (Za5 str k ks 0):=rfl
theorem Z1p {zero:AV} {ok:Bool} {vs:List AV} {i:Nat}:Zo1 zero ok vs (some (some i))=optV ((vs[i]?).map (okV ok true)):=rfl
theorem Z1q {zero:AV} {ok:Bool} {vs:List AV}:Zo1 zero ok vs (some none)=.ret (okV ok false zero,[]):=rfl
theorem Yfv {b:Bool} {v:AV}:okV true b v=.tup [v,.bool b]:=rfl
theorem Z9b {b:Bool} {v:AV}:okV false b v=v:=rfl
theorem Z9c {str agg:Bool} {k:AV} {xs:List AV} {s:Site} {g:Nat}:Zv9 str agg k (some xs) (.mpr s g)=(fix xs).bindW (fun p=>(U5 s g).bindW (Z5a str s k (Zh1 agg p.1) p.2.1 p.2.2) ⟨⟩) ⟨⟩:=rfl
theorem Yfw {str:Bool} {s:Site} {k y:AV} {u:Ups} {ss:List Site} {g:Nat} {al rw var:Bool} {ks vs:List AV}:Z5a str s k y u ss ⟨g,al,rw,var,[.mp ks vs]⟩ =
  if rw=true∧Zep k=true∧Zep y=true∧ss.contains s=false then Zo2 s k y u ⟨g,al,rw,var,[.mp ks vs]⟩ ks vs (Za5 str k ks 0) else .fail:=rfl
theorem Z1r {s:Site} {k y:AV} {u:Ups} {e:Ent} {ks vs:List AV} {i:Nat}:Zo2 s k y u e ks vs (some (some i))=.ret (.und,u++[(s,{ e with cells:=[.mp (ks.set i k) (vs.set i y)] })]):=rfl
theorem Z1s {s:Site} {k y:AV} {u:Ups} {e:Ent} {ks vs:List AV}:Zo2 s k y u e ks vs (some none)=.ret (.und,u++[(s,{ e with cells:=[.mp (ks++[k]) (vs++[y])] })]):=rfl
theorem Z1t {cs:List AV}:Zah (.agg cs)=true:=rfl
theorem Z1u {k:IntKind} {n:Int}:Zah (.int k n)=false:=rfl
theorem Zxe {b:Bool}:Zah (.bool b)=false:=rfl
theorem Z1v {l:List UInt8}:Zah (.str l)=false:=rfl
theorem Z1w {s:Site} {g o n z:Nat}:Zah (.buf s g o n z)=false:=rfl
theorem Z1x {cs:List AV} {n:Nat}:Zah (.lst cs n)=false:=rfl
theorem Zxf:Zah .nils=false:=rfl
theorem Z1y {ys:List AV}:Zh1 true ys=.agg ys:=rfl
theorem Zxg {y:AV}:Zh1 false [y]=y:=rfl
theorem Z9d {cs:List AV}:Zep (.agg cs)=flats cs:=rfl
theorem Z9e {k:IntKind} {n:Int}:Zep (.int k n)=true:=rfl
theorem Z1z {b:Bool}:Zep (.bool b)=true:=rfl
theorem Z9f {l:List UInt8}:Zep (.str l)=true:=rfl
theorem Z9g {cs:List AV} {n:Nat}:Zep (.lst cs n)=true:=rfl
theorem Z10:Zep .nils=true:=rfl
theorem Z9h {str:Bool} {k:AV} {s:Site} {g:Nat}:Zwa str k (.mpr s g)=(U5 s g).bindW (Z5b str s k) ⟨⟩:=rfl
theorem Z11 {str:Bool} {k:AV}:Zwa str k .nilm=.ret (.tup [],[]):=rfl
theorem Yfx {str:Bool} {s:Site} {k:AV} {g:Nat} {al rw var:Bool} {ks vs:List AV}:Z5b str s k ⟨g,al,rw,var,[.mp ks vs]⟩ =
  if rw=true then Zo3 s ⟨g,al,rw,var,[.mp ks vs]⟩ ks vs (Za5 str k ks 0) else .fail:=rfl
theorem Z12 {s:Site} {e:Ent} {ks vs:List AV} {i:Nat}:Zo3 s e ks vs (some (some i))=.ret (.tup [],[(s,{ e with cells:=[.mp (ks.eraseIdx i) (vs.eraseIdx i)] })]):=rfl
theorem Z13 {s:Site} {e:Ent} {ks vs:List AV}:Zo3 s e ks vs (some none)=.ret (.tup [],[]):=rfl
theorem Z9i {s:Site} {g:Nat}:Zwb (.mpr s g)=(U5 s g).bindW Z5c ⟨⟩:=rfl
theorem Z14:Zwb .nilm=.ret (.int .i64 0,[]):=rfl
theorem Yfy {g:Nat} {al rw var:Bool} {ks vs:List AV}:Z5c ⟨g,al,rw,var,[.mp ks vs]⟩=.ret (.int .i64 ks.length,[]):=rfl
theorem Z9j:capV .nils=.ret (.int .i64 0,[]):=rfl
section
variable {k:IntKind} {a b:Int}
def Z15 (k:IntKind) (a b:Int):Int:=k.wrap (BitVec.ofInt k.bits a &&& BitVec.ofInt k.bits b).toNat
def ior (k:IntKind) (a b:Int):Int:=k.wrap (BitVec.ofInt k.bits a ||| BitVec.ofInt k.bits b).toNat
def ixor (k:IntKind) (a b:Int):Int:=k.wrap (BitVec.ofInt k.bits a ^^^ BitVec.ofInt k.bits b).toNat
def iandn (k:IntKind) (a b:Int):Int:=k.wrap (BitVec.ofInt k.bits a &&& ~~~ BitVec.ofInt k.bits b).toNat
def inot (k:IntKind) (n:Int):Int:=k.wrap (BitVec.ofInt k.bits (if k.signed then -1 else k.max) ^^^ BitVec.ofInt k.bits n).toNat
def Z16 (k:IntKind) (a b:Int):Int:=k.wrap (a*2^(Nat.min b.toNat k.bits))
def Zxh (k:IntKind) (a b:Int):Int:=a.fdiv (2^(Nat.min b.toNat k.bits))
theorem Z5x:J2 .add (.int k a) (.int k b)=some (.int k (k.wrap (a+b))):=by simp [J2,Y7]
theorem Ymo:J2 .sub (.int k a) (.int k b)=some (.int k (k.wrap (a-b))):=by simp [J2,Y7]
theorem Ymp:J2 .mul (.int k a) (.int k b)=some (.int k (k.wrap (a*b))):=by simp [J2,Y7]
theorem Ymq:J2 .quo (.int k a) (.int k b)=if b=0 then none else some (.int k (k.wrap (a.tdiv b))):=by simp [J2,Y7]
theorem Ymr:J2 .rem (.int k a) (.int k b)=if b=0 then none else some (.int k (a.tmod b)):=by simp [J2,Y7]
theorem Z5y:J2 .and (.int k a) (.int k b)=some (.int k (Z15 k a b)):=by simp [J2,Y7,Z15]
theorem Yfz:J2 .or (.int k a) (.int k b)=some (.int k (ior k a b)):=by simp [J2,Y7,ior]
theorem Z5z:J2 .xor (.int k a) (.int k b)=some (.int k (ixor k a b)):=by simp [J2,Y7,ixor]
theorem Z17:J2 .andNot (.int k a) (.int k b)=some (.int k (iandn k a b)):=by simp [J2,Y7,iandn]
theorem Yms:J2 .eql (.int k a) (.int k b)=some (.bool (a==b)):=by simp [J2,Y7]
theorem Ymt:J2 .neq (.int k a) (.int k b)=some (.bool (a != b)):=by simp [J2,Y7]
theorem Ymu:J2 .lss (.int k a) (.int k b)=some (.bool (decide (a<b))):=by simp [J2,Y7]
theorem Ymv:J2 .leq (.int k a) (.int k b)=some (.bool (decide (a≤b))):=by simp [J2,Y7]
theorem Ymw:J2 .gtr (.int k a) (.int k b)=some (.bool (decide (b<a))):=by simp [J2,Y7]
theorem Ymx:J2 .geq (.int k a) (.int k b)=some (.bool (decide (b≤a))):=by simp [J2,Y7]
theorem Z50 {k':IntKind} (h:0≤b):J2 .shl (.int k a) (.int k' b)=some (.int k (Z16 k a b)):=by
  have:¬ b<0:=by omega
  simp [J2,Zgl,Z16,this]
theorem Z51 {k':IntKind} (h:0≤b):J2 .shr (.int k a) (.int k' b)=some (.int k (Zxh k a b)):=by
  have:¬ b<0:=by omega
  simp [J2,Zgl,Zxh,this]
end
section
variable {x y:List UInt8}
theorem Yf0:J2 .add (.str x) (.str y)=if x.length+y.length≤9223372036854775807 then some (.str (x++y)) else none:=rfl
theorem Yf1:J2 .eql (.str x) (.str y)=some (.bool (x==y)):=rfl
theorem Yf2:J2 .neq (.str x) (.str y)=some (.bool (!(x==y))):=rfl
theorem Yf3:J2 .lss (.str x) (.str y)=some (.bool (Op.bytesLess x y)):=rfl
theorem Yf4:J2 .leq (.str x) (.str y)=some (.bool (Op.bytesLess x y||x==y)):=rfl
theorem Yf5:J2 .gtr (.str x) (.str y)=some (.bool (!(Op.bytesLess x y||x==y))):=rfl
theorem Yf6:J2 .geq (.str x) (.str y)=some (.bool (!(Op.bytesLess x y))):=rfl
end
theorem Yf7 {neg a b:Bool}:Zv0 neg (.bool a) (.bool b)=some (.bool (bif neg then !(a==b) else a==b)):=rfl
theorem Ymy {ks:List Nat} {neg:Bool} {a b:List AV}:eqaV ks neg (.agg a) (.agg b)=optV ((I7 ks a b).map fun e=>.bool (bif neg then !e else e)):=rfl
theorem Ymz {kd:Nat} {neg:Bool} {x y:AV}:eqnV kd neg x y=(Zge kd x).bindW (fun a=>(Zge kd y).bindW (fun b=>eqnB neg a b) ⟨⟩) ⟨⟩:=rfl
theorem Z9k:Zge 0 .nilp=.ret true:=rfl
theorem Ym0 {cs:List AV} {o:Nat}:Zge 0 (.fp cs o)=.ret false:=rfl
theorem Yf8 {s:Site} {g o:Nat}:Zge 0 (.ref s g o)=(U5 s g).bindW (fun _=>.ret false) ⟨⟩:=rfl
theorem Z9l:Zge 1 .nils=.ret true:=rfl
theorem Z9m:Zge 2 .nilm=.ret true:=rfl
theorem Z9n:Zge 3 .nilf=.ret true:=rfl
theorem Yf9 {f:Nat} {cs:List AV}:Zge 3 (.clo f cs)=.ret false:=rfl
theorem Z9o:Zge 4 .nili=.ret true:=rfl
theorem Yga {t:Nat} {x:AV}:Zge 4 (.ifc t x)=.ret false:=rfl
theorem Ym1 {neg a b:Bool}:eqnB neg a b=bif a||b then .ret (.bool (bif neg then !(a&&b) else a&&b),[]) else .fail:=rfl
theorem un_neg {k:IntKind} {n:Int}:Zq5 .neg (.int k n)=some (.int k (k.wrap (0-n))):=rfl
theorem Ygb {k:IntKind} {n:Int}:Zq5 .xor (.int k n)=some (.int k (inot k n)):=rfl
theorem un_not {b:Bool}:Zq5 .not (.bool b)=some (.bool (!b)):=rfl
def Zxi {α β:Type} (x:Option α) (f : α→Option β) (_:Wit f):Option β:=x.bind f
theorem Z18 {α β:Type} {x : α} {f : α→Option β} {w:Wit f}:Zxi (some x) f w=f x:=rfl
theorem Z9p {res:List LRes} {sl:List (Nat × AV)} {σ:A6}:Zeb res ⟨sl,σ⟩=Zxi (Zde ⟨sl,σ⟩ res) (fun vs=>LetA (N6 σ 64 (ups σ++refsOfs vs) []) (fun acc=>some (Zq8 (rens (P5 Site.r 0 acc) vs),Y9 σ (P5 Site.r 0 acc) acc)) ⟨⟩) ⟨⟩:=by
  unfold Zeb Zxi LetA
  cases Zde ⟨sl,σ⟩ res<;>rfl
def Ygc {α:Type} (x:Option α) (y:Option (List α)):Option (List α):=match x,y with|some v,some vs=>some (v::vs)|_,_=>none
theorem Z19 {α:Type} {v : α} {vs:List α}:Ygc (some v) (some vs)=some (v::vs):=rfl
theorem Z2a {st:St}:Zde st []=some []:=rfl
theorem Zxj {st:St} {r:LRes} {rs:List LRes}:Zde st (r::rs)=Ygc (Zlt st r) (Zde st rs):=by
  unfold Ygc;rw [Zde];cases Zlt st r<;>cases Zde st rs<;>rfl
theorem Z9q {st:St} {t:Nat}:Zlt st (.tmp t)=some (Y1 st.sl t):=rfl
theorem Ygd {v:AV}:Zq8 [v]=v:=rfl
theorem Yge {v w:AV}:Zq8 [v,w]=.tup [v,w]:=rfl
theorem Z2b {v w x:AV}:Zq8 [v,w,x]=.tup [v,w,x]:=rfl
theorem Z9r {v w x y:AV}:Zq8 [v,w,x,y]=.tup [v,w,x,y]:=rfl
theorem Ym2 {E:Env} {fn:List LRes} {k:List It} {st:St} {l:List Nat} {x:LCode}:X E fn (.c (.loop l x)::k) st=X E fn (.lp l x::k) st:=by rw [X_loop,X_lp]
theorem Ygf {sl:List (Nat × AV)} {n:Nat}:R5 sl [] n=Y1 sl n:=rfl
theorem Z9s {sl:List (Nat × AV)} {k n:Nat} {v:AV} {r:List (Nat × AV)}:R5 sl ((k,v)::r) n=Zac (k==n) v (R5 sl r n) ⟨⟩ ⟨⟩:=by
  rw [R5,Zef];rfl
theorem Ygg {n:Nat}:Y1 [] n=.junk:=rfl
theorem Z9t {k n:Nat} {v:AV} {r:List (Nat × AV)}:Y1 ((k,v)::r) n=Zac (k==n) v (Y1 r n) ⟨⟩ ⟨⟩:=by
  rw [Y1,Zef];rfl
theorem Ygh {n:Nat} {v:AV}:Zmd [] n v=[(n,v)]:=rfl
theorem Z9u {k n:Nat} {u v:AV} {r:List (Nat × AV)}:Zmd ((k,u)::r) n v=Zac (k==n) ((n,v)::r) ((k,u)::Zmd r n v) ⟨⟩ ⟨⟩:=by
  rw [Zmd,Zef];rfl
theorem Ygi {s:Site}:A9 [] s=none:=rfl
theorem Zd6 {t s:Site} {e:Ent} {σ:A6}:A9 ((t,e) :: σ) s=Zac (decide (t=s)) (some e) (A9 σ s) ⟨⟩ ⟨⟩:=by
  rw [A9,Zef]
theorem Zxk {s:Site} {e:Ent}:I6 [] s e=[(s,e)]:=rfl
theorem Z9v {t s:Site} {e e':Ent} {σ:A6}:I6 ((t,e') :: σ) s e=Zac (decide (t=s)) ((s,e) :: σ) ((t,e')::I6 σ s e) ⟨⟩ ⟨⟩:=by
  rw [I6,Zef]
def Z52 (σ:A6) (n:Nat) (r acc:List (Site × Nat)) (s:Site) (g:Nat):Option Ent→List (Site × Nat)
  | some e=>Zac (e.alive&&e.g==g) (N6 σ n (r++refsOfs e.cells) (acc++[(s,g)])) (N6 σ n r acc) ⟨⟩ ⟨⟩
  | none=>N6 σ n r acc
theorem Z2c {σ:A6} {n:Nat} {r acc:List (Site × Nat)} {s:Site} {g:Nat} {e:Ent}:Z52 σ n r acc s g (some e)=Zac (e.alive&&e.g==g) (N6 σ n (r++refsOfs e.cells) (acc++[(s,g)])) (N6 σ n r acc) ⟨⟩ ⟨⟩:=rfl
theorem Z2d {σ:A6} {n:Nat} {r acc:List (Site × Nat)} {s:Site} {g:Nat}:Z52 σ n r acc s g none=N6 σ n r acc:=rfl
theorem Zxl {σ:A6} {n:Nat} {acc:List (Site × Nat)}:N6 σ (n+1) [] acc=acc:=rfl
theorem Zru {σ:A6} {n:Nat} {s:Site} {g:Nat} {r acc:List (Site × Nat)}:N6 σ (n+1) ((s,g)::r) acc=Zac (acc.contains (s,g)) (N6 σ n r acc) (Z52 σ n r acc s g (A9 σ s)) ⟨⟩ ⟨⟩:=by
  rw [N6]
  unfold Zac
  cases acc.contains (s,g) with
  | true=>simp
  | false =>
    simp only [Bool.false_eq_true,if_false,cond_false]
    cases A9 σ s with
    | none=>rfl
    | some e =>
      simp only [Z52,Zac]
      have hb:(e.g==g)=decide (e.g=g):=by by_cases h2:e.g=g<;>simp [h2]
      rw [hb]
      by_cases h1:e.alive=true<;>by_cases h2:e.g=g<;>simp [h1,h2]
def Znt (b:Site) (g:Nat):Site→Site × Nat
  | .up x=>(.up x,g)
  | _=>(b,0)
theorem Ygj {b x:Site} {g:Nat}:Znt b g (.up x)=(.up x,g):=rfl
theorem Ym3 {b:Site} {g n k:Nat}:Znt b g (.s n k)=(b,0):=rfl
theorem Ym4 {b:Site} {g k:Nat}:Znt b g (.r k)=(b,0):=rfl
theorem Zxm {base:Nat→Site} {j g:Nat} {s:Site}:P5 base j [] s g=none:=rfl
theorem Zrv {base:Nat→Site} {j g g':Nat} {s s':Site} {r:List (Site × Nat)}:P5 base j ((s',g')::r) s g=Zac (decide (s'=s)&&g' == g) (some (Znt (base j) g s)) (P5 base (j+1) r s g) ⟨⟩ ⟨⟩:=by
  have hb:(g' == g)=decide (g'=g):=by by_cases h2:g'=g<;>simp [h2]
  unfold Zac
  rw [hb]
  by_cases h1:s'=s
  · by_cases h2:g'=g
    · cases s<;>simp [P5,Znt,h1,h2]
    · cases s<;>simp [P5,Znt,h1,h2]
  · cases s<;>simp [P5,Znt,h1]
theorem Ym5:ups []=[]:=rfl
theorem ups_up {s:Site} {e:Ent} {r:A6}:ups ((.up s,e)::r)=Zac e.alive ((.up s,e.g)::ups r) (ups r) ⟨⟩ ⟨⟩:=by
  rw [ups];unfold Zac;cases e.alive<;>rfl
theorem ups_s {n k:Nat} {e:Ent} {r:A6}:ups ((.s n k,e)::r)=ups r:=rfl
theorem ups_r {k:Nat} {e:Ent} {r:A6}:ups ((.r k,e)::r)=ups r:=rfl
def renE (f:Site→Nat→Option (Site × Nat)) (x:Option Ent) (y:Option (Site × Nat)) (r:A6):A6:=match x,y with
  | some e,some (s',g')=>(s',{ e with g:=g',cells:=rens f e.cells })::r
  | _,_=>r
theorem Z9w {f:Site→Nat→Option (Site × Nat)} {e:Ent} {s:Site} {g:Nat} {r:A6}:renE f (some e) (some (s,g)) r=(s,{ e with g:=g,cells:=rens f e.cells })::r:=rfl
theorem Zxn {σ:A6} {f:Site→Nat→Option (Site × Nat)}:Y9 σ f []=[]:=rfl
theorem Zrw {σ:A6} {f:Site→Nat→Option (Site × Nat)} {s:Site} {g:Nat} {r:List (Site × Nat)}:Y9 σ f ((s,g)::r)=renE f (A9 σ s) (f s g) (Y9 σ f r):=by
  rw [Y9];unfold renE
  cases A9 σ s<;>cases f s g<;>rfl
def Zov (x:Option (Site × Nat)) (k:Site × Nat→AV):AV:=match x with|some p=>k p|none=>.junk
theorem Z9x {s:Site} {g:Nat} {k:Site × Nat→AV}:Zov (some (s,g)) k=k (s,g):=rfl
theorem Z9y {k:Site × Nat→AV}:Zov none k=.junk:=rfl
theorem Ym6 {f:Site→Nat→Option (Site × Nat)} {s:Site} {g o:Nat}:ren f (.ref s g o)=Zov (f s g) (fun p=>.ref p.1 p.2 o):=by
  rw [ren];unfold Zov;cases f s g<;>rfl
theorem Ym7 {f:Site→Nat→Option (Site × Nat)} {s:Site} {g o n z:Nat}:ren f (.buf s g o n z)=Zov (f s g) (fun p=>.buf p.1 p.2 o n z):=by
  rw [ren];unfold Zov;cases f s g<;>rfl
theorem ren_it {f:Site→Nat→Option (Site × Nat)} {s:Site} {g:Nat}:ren f (.it s g)=Zov (f s g) (fun p=>.it p.1 p.2):=by
  rw [ren];unfold Zov;cases f s g<;>rfl
theorem Ym8 {f:Site→Nat→Option (Site × Nat)} {s:Site} {g:Nat}:ren f (.mpr s g)=Zov (f s g) (fun p=>.mpr p.1 p.2):=by
  rw [ren];unfold Zov;cases f s g<;>rfl
theorem Ym9 {f:Site→Nat→Option (Site × Nat)} {cs:List AV}:ren f (.agg cs)=.agg (rens f cs):=by rw [ren]
theorem Yna {f:Site→Nat→Option (Site × Nat)} {cs:List AV}:ren f (.tup cs)=.tup (rens f cs):=by rw [ren]
theorem Ynb {f:Site→Nat→Option (Site × Nat)} {g:Nat} {cs:List AV}:ren f (.clo g cs)=.clo g (rens f cs):=by rw [ren]
theorem Ync {f:Site→Nat→Option (Site × Nat)} {t:Nat} {x:AV}:ren f (.ifc t x)=.ifc t (ren f x):=by rw [ren]
section
variable {f:Site→Nat→Option (Site × Nat)}
theorem Ynd {k:IntKind} {n:Int}:ren f (.int k n)=.int k n:=rfl
theorem Ygk {b:Bool}:ren f (.bool b)=.bool b:=rfl
theorem Yne {l:List UInt8}:ren f (.str l)=.str l:=rfl
theorem Ynf {cs:List AV} {n:Nat}:ren f (.lst cs n)=.lst cs n:=rfl
theorem ren_fp {cs:List AV} {n:Nat}:ren f (.fp cs n)=.fp cs n:=rfl
theorem Ygl:ren f .nilp=.nilp:=rfl
theorem Ygm:ren f .nils=.nils:=rfl
theorem Ygn:ren f .nilf=.nilf:=rfl
theorem Ygo:ren f .nili=.nili:=rfl
theorem Ygp:ren f .nilm=.nilm:=rfl
theorem Ygq:ren f .junk=.junk:=rfl
theorem Yng:ren f .und=.und:=rfl
theorem Ynh {l:List UInt8} {p:Nat}:ren f (.itr l p)=.itr l p:=rfl
theorem ren_mp {ks vs:List AV}:ren f (.mp ks vs)=.mp ks vs:=rfl
theorem Ygr:rens f []=[]:=rfl
theorem Z9z {c:AV} {cs:List AV}:rens f (c::cs)=ren f c::rens f cs:=rfl
end
theorem Ygs {b:Ups}:Za7 b []=[]:=rfl
def Ygt (s:Site) (e:Ent) (r:Ups):Option Ent→Ups
  | some _=>r
  | none=>(s,{ e with alive:=false,cells:=[] })::r
theorem Z2e {s:Site} {e x:Ent} {r:Ups}:Ygt s e r (some x)=r:=rfl
theorem Z2f {s:Site} {e:Ent} {r:Ups}:Ygt s e r none=(s,{ e with alive:=false,cells:=[] })::r:=rfl
theorem Z90 {b:Ups} {s:Site} {e:Ent} {r:List (Site × Ent)}:Za7 b ((s,e)::r)=Ygt s e (Za7 b r) (A9 b s):=by
  rw [Za7];cases A9 b s<;>rfl
theorem Zxo {d g:Nat} {gs:List (Nat × Nat)} {s:Site}:H8 d gs (.up s) g=some (s,g):=rfl
def Ygu (d k g:Nat):Option Nat→Option (Site × Nat)
  | some g'=>Zac (g==0) (some (.s d k,g')) none ⟨⟩ ⟨⟩
  | none=>none
theorem Z2g {d k g g':Nat}:Ygu d k g (some g')=Zac (g==0) (some (.s d k,g')) none ⟨⟩ ⟨⟩:=rfl
theorem Z2h {d g k:Nat} {gs:List (Nat × Nat)}:H8 d gs (.r k) g=Ygu d k g (gs.lookup k):=by
  rw [H8]
  cases gs.lookup k with
  | none=>rfl
  | some x =>
    have hb:(g==0)=decide (g=0):=by by_cases h2:g=0<;>simp [h2]
    simp only [Ygu,Zac,hb];by_cases h:g=0<;>simp [h]
theorem Zrx {d:Nat} {gs:List (Nat × Nat)}:E5 d gs []=[]:=rfl
def backE (f:Site→Nat→Option (Site × Nat)) (e:Ent) (r:Ups):Option (Site × Nat)→Ups
  | some p=>(p.1,{ e with g:=p.2,cells:=rens f e.cells })::r
  | none=>r
theorem Z2i {f:Site→Nat→Option (Site × Nat)} {e:Ent} {r:Ups} {s:Site} {g:Nat}:backE f e r (some (s,g))=(s,{ e with g:=g,cells:=rens f e.cells })::r:=rfl
theorem Zry {d:Nat} {gs:List (Nat × Nat)} {s:Site} {e:Ent} {r:A6}:E5 d gs ((s,e)::r)=backE (H8 d gs) e (E5 d gs r) (H8 d gs s e.g):=by
  rw [E5];cases H8 d gs s e.g<;>rfl
def upN (g:Nat) (s:Site):Option Ent→Option (Site × Nat)
  | some e=>Zac (e.g==g) (some (.up s,g)) none ⟨⟩ ⟨⟩
  | none=>none
theorem Ygv {g:Nat} {s:Site} {e:Ent}:upN g s (some e)=Zac (e.g==g) (some (.up s,g)) none ⟨⟩ ⟨⟩:=rfl
theorem Z91 {es:List (Site × Ent)} {s:Site} {g:Nat}:Zbk es s g=upN g s (A9 es s):=by
  unfold Zbk upN
  cases A9 es s with
  | none=>rfl
  | some e =>
    have hb:(e.g==g)=decide (e.g=g):=by by_cases h2:e.g=g<;>simp [h2]
    simp only [Zac,hb];by_cases h:e.g=g<;>simp [h]
theorem Z2j {n m:Nat} {k:List It}:X5 n (.blk m::k)=Zac (m==n) (some k) (X5 n k) ⟨⟩ ⟨⟩:=by
  rw [X5,Zef];rfl
theorem Ygw {n:Nat} {x:LCode} {k:List It}:X5 n (.c x::k)=X5 n k:=rfl
theorem Z92 {n:Nat} {l:List Nat} {x:LCode} {k:List It}:X5 n (.lp l x::k)=X5 n k:=rfl
theorem Z2k {n:Nat} {x:LCode} {k:List It}:X5 n (.scp x::k)=X5 n k:=rfl
theorem Yni {n:Nat} {x:LCode} {k:List It}:Za6 n (.c x::k)=Za6 n k:=rfl
theorem Ygx {n:Nat} {l:List Nat} {x:LCode} {k:List It}:Za6 n (.lp l x::k)=Za6 n k:=rfl
theorem Z93 {n m:Nat} {k:List It}:Za6 n (.blk m::k)=Za6 n k:=rfl
def Ygy (n:Nat) (x:LCode) (k:List It):Option LCode→Option (List It)
  | some r=>some (.c r::.scp x::k)
  | none=>Za6 n k
theorem Z94 {n:Nat} {x:LCode} {k:List It}:Za6 n (.scp x::k)=Ygy n x k (T5 x n):=by
  rw [Za6];cases T5 x n<;>rfl
theorem Z2l {n:Nat} {x r:LCode} {k:List It}:Ygy n x k (some r)=some (.c r::.scp x::k):=rfl
theorem Z2m {n:Nat} {x:LCode} {k:List It}:Ygy n x k none=Za6 n k:=rfl
def Ygz (b:LCode) (l:Nat):Option LCode→Option LCode
  | some r=>some (.seq r b)
  | none=>T5 b l
theorem Z95 {a b:LCode} {l:Nat}:T5 (.seq a b) l=Ygz b l (T5 a l):=by
  rw [T5];cases T5 a l<;>rfl
theorem Z2n {b r:LCode} {l:Nat}:Ygz b l (some r)=some (.seq r b):=rfl
theorem Z2o {b:LCode} {l:Nat}:Ygz b l none=T5 b l:=rfl
theorem Zxp {m l:Nat}:T5 (.label m) l=Zac (m==l) (some .skip) none ⟨⟩ ⟨⟩:=by
  rw [T5,Zef];rfl
theorem Z2p {l:Nat}:T5 .skip l=none:=rfl
theorem Z96 {l:Nat}:T5 .ret l=none:=rfl
theorem Z2q {l n:Nat}:T5 (.exit n) l=none:=rfl
theorem Z97 {l:Nat} {o:List LOper} {p:List Nat}:T5 (.reg o p) l=none:=rfl
theorem Z2r {l:Nat} {o:List LOper} {q:List (Nat × Nat)} {p:List Nat}:T5 (.dreg o q p) l=none:=rfl
theorem Z2s {l:Nat} {c:LO} {a b:LCode}:T5 (.cond c a b) l=none:=rfl
theorem Zxq {l n:Nat} {a:LCode}:T5 (.block n a) l=none:=rfl
theorem Z2t {l:Nat} {v:List Nat} {a:LCode}:T5 (.loop v a) l=none:=rfl
theorem Zxr {l:Nat} {a:LCode}:T5 (.scope a) l=none:=rfl
theorem Z2u {l n:Nat}:T5 (.goto n) l=none:=rfl
theorem Yg0 {k:IntKind} {n:Int}:U2 (.int k n)=true:=rfl
theorem Z2v {k:IntKind} {n:Int}:J8 (.int k n)=some [.int k n]:=rfl
theorem Z98 {b:Bool}:U2 (.bool b)=true:=rfl
theorem Zxs {b:Bool}:J8 (.bool b)=some [.bool b]:=rfl
theorem Yg1 {l:List UInt8}:U2 (.str l)=true:=rfl
theorem Z2w {l:List UInt8}:J8 (.str l)=some [.str l]:=rfl
theorem Z99  : U2 .nilp=true:=rfl
theorem Zxt  : J8 .nilp=some [.nilp]:=rfl
theorem Yaa  : U2 .nils=true:=rfl
theorem Zxu  : J8 .nils=some [.nils]:=rfl
theorem Yab  : U2 .nilf=true:=rfl
theorem Zxv  : J8 .nilf=some [.nilf]:=rfl
theorem Yac  : U2 .nili=true:=rfl
theorem Zxw  : J8 .nili=some [.nili]:=rfl
theorem Yad  : U2 .nilm=true:=rfl
theorem Zxx  : J8 .nilm=some [.nilm]:=rfl
theorem Yg2 {cs:List AV} {n:Nat}:U2 (.lst cs n)=true:=rfl
theorem Z2x {cs:List AV} {n:Nat}:J8 (.lst cs n)=some [.lst cs n]:=rfl
theorem Ynj {cs:List AV} {n:Nat}:U2 (.fp cs n)=true:=rfl
theorem Yae {cs:List AV} {n:Nat}:J8 (.fp cs n)=some [.fp cs n]:=rfl
theorem Yg3 {s:Site} {g o:Nat}:U2 (.ref s g o)=true:=rfl
theorem Z2y {s:Site} {g o:Nat}:J8 (.ref s g o)=some [.ref s g o]:=rfl
theorem Yg4 {s:Site} {g o n z:Nat}:U2 (.buf s g o n z)=true:=rfl
theorem Z2z {s:Site} {g o n z:Nat}:J8 (.buf s g o n z)=some [.buf s g o n z]:=rfl
theorem Yg5 {f:Nat} {cs:List AV}:U2 (.clo f cs)=true:=rfl
theorem Z20 {f:Nat} {cs:List AV}:J8 (.clo f cs)=some [.clo f cs]:=rfl
theorem Yg6 {t:Nat} {x:AV}:U2 (.ifc t x)=true:=rfl
theorem Z21 {t:Nat} {x:AV}:J8 (.ifc t x)=some [.ifc t x]:=rfl
theorem Yg7 {s:Site} {g:Nat}:U2 (.mpr s g)=true:=rfl
theorem Z22 {s:Site} {g:Nat}:J8 (.mpr s g)=some [.mpr s g]:=rfl
theorem Z23 {cs:List AV}:J8 (.agg cs)=some cs:=rfl
theorem Zxy {ts:List (List Site × List Site)}:Zax ts []=true:=rfl
theorem Zrz {ts:List (List Site × List Site)} {i j:Nat} {r:List (Nat × Nat)}:Zax ts ((i,j)::r)=(Zwc (ts.getD i ([],[])) (ts.getD j ([],[]))&&Zax ts r):=rfl
theorem Ynk {a b c d:List Site}:Zwc (a,b) (c,d)=(!(Zdg b c) && !(Zdg b d) && !(Zdg a d)):=rfl
theorem Z24 {t:List Site}:Zdg [] t=false:=rfl
theorem Z25 {s:Site} {ss t:List Site}:Zdg (s::ss) t=(t.contains s||Zdg ss t):=rfl
theorem Ynl {cs:List AV}:fix cs=Zac (flats cs) (.ret (cs,[],[])) ((views cs).bindW (fun p=>(Zgm p.2).bindW (fun u=>.ret (p.1,u,p.2)) ⟨⟩) ⟨⟩) ⟨⟩ ⟨⟩:=by
  unfold fix Zac
  cases flats cs<;>rfl
theorem Yaf {cs:List AV}:Zc1 (.agg cs)=Zac (flats cs) (.ret (.agg cs,[])) ((views cs).bindW (fun p=>.ret (.agg p.1,p.2)) ⟨⟩) ⟨⟩ ⟨⟩:=by
  rw [Zc1];unfold Zac
  cases flats cs<;>rfl
attribute [go_sem] Yed Yfq Yee Yef Z09 Z70 Z71 Z72 Z73 Yfr Yfs Ymn Yft Z9a Z1o Yfu Z1p Z1q Yfv Z9b Z9c Yfw Z1r Z1s Z1t Z1u Zxe Z1v Z1w Z1x Zxf Z1y Zxg Z9d Z9e Z1z Z9f Z9g Z10 Z9h Z11 Yfx Z12 Z13 Z9i Z14 Yfy ren_it Ym8 Ynh ren_mp Yg7 Z22
  Ylu Ydr Z7t Yds Ydt Z07 Zw4 Ylv Ylw Z08 Ydu Ylx Ydy Ydz Yd0 Yd1 Yd2 Z7u Yd3 Z7v Z7w Yd4 Yly Ylz Yd5 Yl0 Yl1 Yd6 Yd7 Z7x Yd8 Z7y Yd9 Z7z Yea Yeb Yec Z74
  evR_t evR_k evR_g evR_f ev_t ev_k Z75 Z76 Yeg Yl2 Yeh Yl3 Yei Z77 Yl4 Yl5 Yej Z78 Z79 Z8a Zw5 Z1a Zgy Zpp Z8b Zw6 one_eq Yl6 Z1b mk_eq Yek Yel Yem Yen
  Zpq Z1c Z8c Z8d Yeo Z8e Z8f Z1d Z1e Z1f Z1g Z7.eq_1 Z7.eq_2 Z7.eq_3 Yep Z8g Yeq Yer Yl7 Yes Z8h Z8i Z8j Z8k Z8l Yet Yeu Yaf Z8m Z8q Zic Yev Yew Zw7 Z8r Z1h Ynl Zm2.eq_1 U6.eq_1 U6.eq_2 U6.eq_3 U6.eq_4 Z8n Z8o Z8p Z8s Z1k Z8t Z1l Yl8 Zxb Zrt Yez Ye0 Yl9 Yma Ye1 Ye2
  stC_eq Ymb Z1m Z8v Znr Ye3 Ye4 Z8w Ye5 Ye6 Ye7 Ye8 Ye9 Yfa Yfb Yfc Yfd Yfe Z8x Ymc slR_eq slB_fp Yff Yfg Yfh Z8y Ymd Yme Yfi Ymf Ymg faV_fp Z8z Z80 Ymh iaV_fp Ymi Ymj Zns Ymk Yml
  Yfj Yfk Yfl Z81 Ymm Zxd Z82 Yfm Z83 Z84 Z85 Z86 Z87 Z1n Z88 Yfn Z89 Yfo Yfp Z9j
  Z5x Ymo Ymp Ymq Ymr Z5y Yfz Z5z Z17 Yms Ymt Ymu Ymv Ymw Ymx Z50 Z51 Yf0 Yf1 Yf2 Yf3 Yf4 Yf5 Yf6 Ydv Ydw Ydx Yf7 Ymy Ymz Z9k Ym0 Yf8 Z9l Z9m Z9n Yf9 Z9o Yga Ym1 un_neg Ygb un_not
  Z9p Z9q Ygd Yge Z2b Z9r
  X_seq Ylr X_ret X_skip X_regY X_regZ Ylo Zxy Zrz Ynk Z24 Z25 List.getD_cons_zero List.getD_cons_succ Yk1 X_blk Ym2 Yls Z2j Ygw Z92 X_scp Ykz Yk0 Ylt Z2k Yni Ygx Z93 Z94 Z2l Z2m Z95 Z2n Z2o Zxp Z2p Z96 Z2q Z97 Z2r Z2s Zxq Z2t Zxr Z2u Z7o Z04 X_nil Y_nil Y_op Ylp Z_nil Z_op Ylq Yll Ylm Ydp Br_not Z05 Yln Z18 Z19 Z2a Zxj Ydq Z7p Z7q Z7r Z7s params Ygf Z9s Ygg Z9t Ygh Z9u E3 Zxk Z9v Ygi Zd6 Zci Z2c Z2d Zxl Zru Ym5 ups_up ups_s ups_r refsOfs X4 Z9w Zxn Zrw Ygj Ym3 Ym4 Zxm Zrv Ygr Z9z Z9x Z9y Ym6 Ym7 Ym9 Yna Ynb Ync Ynd Ygk Yne Ynf ren_fp Ygl Ygm Ygn Ygo Ygp Ygq Yng K1 flats Yg0 Z2v Z98 Zxs Yg1 Z2w Z99 Zxt Yaa Zxu Yab Zxv Yac Zxw Yad Zxx Yg2 Z2x Ynj Yae Yg3 Z2y Yg4 Z2z Yg5 Z20 Yg6 Z21 Z23 J9 T4 leadss  Zoz Z8u Zxc
  Zw8 Zrr Z1i Zw9 Zrs Z1j Zxa Zxo Z2g Z2h Zrx Z2i Zry Ygs Z2e Z2f Z90 tidy Zv3 Z8 Yex Yey O2 Ygv Z91 Zb0 Zm3 Zb1 rep bytesOf
  if_true if_false Nat.add_zero Nat.zero_add and_self and_true true_and cond_true cond_false Site.s.injEq Site.r.injEq Site.up.injEq List.append_nil List.nil_append List.cons_append List.contains_nil List.contains_cons List.map_nil List.map_cons List.length_nil List.length_cons List.lookup_cons Option.map_some Option.map_none Bool.or_false Bool.false_or Bool.or_true Bool.true_or Bool.not_true Bool.not_false beq_self_eq_true List.flatMap_nil List.flatMap_cons Option.isSome_some Option.isSome_none BEq.rfl eq_self Bool.and_true Bool.true_and Bool.and_false Bool.false_and Nat.le_refl decide_true decide_false beq_true beq_false List.getElem?_cons_zero List.getElem?_cons_succ List.getElem?_nil
end Cod

/- Rules by which simp runs the abstract code. -/
import Derived.Attr
import Derived.Test.YthlnjgdoodjgoaaGreatDoorXCod5
set_option linter.unusedSimpArgs false
set_option linter.unusedVariables false
namespace Cod
open Go
section
variable {call:O2} {ρ:LO→AV} {d:Nat}
theorem Ynk {x}:step call ρ d (.mv x)=one (ρ x):=rfl
theorem Yfn {sz}:step call ρ d (.nil sz)=Zdu (.s d 0) [] 0 sz []:=rfl
theorem Z9g {c} {a} {b}:step call ρ d (.pick c a b)=Zxk (ρ c) (ρ a) (ρ b):=rfl
theorem Yfo {cells}:step call ρ d (.new cells)=Zmt (.s d 0) cells:=rfl
theorem Yfp {x}:step call ρ d (.box x)=boxV (.s d 0) (K1 (ρ x)):=rfl
theorem Z2u {zero} {ps}:step call ρ d (.build zero ps)=Zsh (Zce ρ ps (some zero)):=rfl
theorem Zyk {sz} {n} {zero} {ps}:step call ρ d (.bslice sz n zero ps)=Zju (.s d 0) n sz (Zce ρ ps (some (rep zero n))):=rfl
theorem Ynl {n} {a}:step call ρ d (.ld n a)=ldV n (ρ a):=rfl
theorem Ynm {n} {a} {x}:step call ρ d (.st n a x)=stV n (ρ a) (K1 (ρ x)):=rfl
theorem Z2v {x}:step call ρ d (.nilck x)=Zlr (ρ x):=rfl
theorem Yfq {op} {x} {y}:step call ρ d (.bin op x y)=optV (J4 op (ρ x) (ρ y)):=rfl
theorem Yfr {neg} {x} {y}:step call ρ d (.eqb neg x y)=optV (Zxg neg (ρ x) (ρ y)):=rfl
theorem Yfs {ks} {neg} {x} {y}:step call ρ d (.eqa ks neg x y)=eqaV ks neg (ρ x) (ρ y):=rfl
theorem Yft {kd} {neg} {x} {y}:step call ρ d (.eqn kd neg x y)=eqnV kd neg (ρ x) (ρ y):=rfl
theorem Ynn {op} {x}:step call ρ d (.un op x)=optV (Zsg op (ρ x)):=rfl
theorem Yfu {k} {x}:step call ρ d (.cvi k x)=Zsi k (ρ x):=rfl
theorem Yfv {x}:step call ρ d (.s2s x)=s2sV (ρ x):=rfl
theorem Yfw {x}:step call ρ d (.s2b x)=s2bV (.s d 0) (ρ x):=rfl
theorem Yfx {x}:step call ρ d (.b2s x)=Z1z (ρ x):=rfl
theorem Yfy {x} {lo} {hi}:step call ρ d (.sls x lo hi)=slsV (ρ x) (loV (lo.map ρ)) (hiV (Zer none (ρ x)) (hi.map ρ)):=rfl
theorem Z9h {x}:step call ρ d (.lens x)=Zxm (ρ x):=rfl
theorem Yfz {x}:step call ρ d (.b2b x)=b2bV (ρ x):=rfl
theorem Z9i {t} {x}:step call ρ d (.mkif t x)=Zp8 t (ρ x):=rfl
theorem Z9j {f} {cap}:step call ρ d (.mkfn f cap)=one (.clo f (cap.map ρ)):=rfl
theorem Yf0 {sz} {bytes} {zero} {l} {c}:step call ρ d (.mks sz bytes zero l c)=mksV (.s d 0) sz bytes zero (ρ l) (ρ c):=rfl
theorem Yno {sz} {arr} {x} {lo} {hi}:step call ρ d (.sl sz arr x lo hi)=slV sz arr (ρ x) (loV (lo.map ρ)) (hiV (Zer arr (ρ x)) (hi.map ρ)):=rfl
theorem Ynp {x} {off}:step call ρ d (.fa x off)=faV off (ρ x):=rfl
theorem Yf1 {x} {off} {n}:step call ρ d (.fld x off n)=Zxl off n (ρ x):=rfl
theorem Ynq {sz} {arr} {x} {i}:step call ρ d (.ia sz arr x i)=iaV sz arr (ρ x) (ρ i):=rfl
theorem Ynr {sz} {arr} {agg} {x} {i}:step call ρ d (.ix sz arr agg x i)=ixV sz agg arr (ρ x) (ρ i):=rfl
theorem Yf2 {n} {sz} {x}:step call ρ d (.s2a n sz x)=s2aV n sz (ρ x):=rfl
theorem Yf3 {x} {i}:step call ρ d (.ext x i)=extV i (ρ x):=rfl
theorem Z9k {f} {args} {take}:step call ρ d (.call f args take)=Zjv call d take (args.map ρ) (ρ f):=rfl
theorem Yf4 {sz} {bytes} {s} {x}:step call ρ d (.app sz bytes s x)=(V9 sz (ρ x)).bindW (fun p=>(fix p.1).bindW (fun q=>Zjw (.s d 0) sz bytes p.2 q.1 q.2.1 q.2.2 (ρ s)) ⟨⟩) ⟨⟩:=rfl
theorem Z9l {sz} {bytes} {zero} {s} {n}:step call ρ d (.appz sz bytes zero s n)=Zp9 (.s d 0) sz bytes zero (ρ s) (ρ n):=rfl
theorem Yf5 {arr} {x}:step call ρ d (.len arr x)=Zmu arr (ρ x):=rfl
theorem Z9m {sz} {dd} {s}:step call ρ d (.copy sz dd s)=(V9 sz (ρ s)).bindW (fun p=>Zxn sz p.2 p.1 (ρ dd)) ⟨⟩:=rfl
theorem Yf6 {x} {y}:step call ρ d (.min x y)=minV (ρ x) (ρ y):=rfl
theorem Yf7 {x} {y}:step call ρ d (.max x y)=maxV (ρ x) (ρ y):=rfl
theorem Yf8 {x}:step call ρ d (.cap x)=capV (ρ x):=rfl
theorem Yf9 {x}:step call ρ d (.r2s x)=r2sV (ρ x):=rfl
theorem Yga {x}:step call ρ d (.rng x)=rngV (.s d 0) (ρ x):=rfl
theorem Ygb {x}:step call ρ d (.nxt x)=nxtV (ρ x):=rfl
theorem Z2w:step call ρ d .mkmap=Zob (.s d 0) (.mp [] []) (.mpr (.s d 0)):=rfl
theorem Z9n {str zero ok m k}:step call ρ d (.mget str zero ok m k)=Zxo str zero ok (ρ k) (ρ m):=rfl
theorem Z9o {str m k x}:step call ρ d (.mput str m k x)=Zxp str (Zaw (ρ x)) (ρ k) (K1 (ρ x)) (ρ m):=rfl
theorem Z9p {str m k}:step call ρ d (.mdel str m k)=Zxq str (ρ k) (ρ m):=rfl
theorem Z9q {x}:step call ρ d (.mlen x)=Zxr (ρ x):=rfl
theorem Z9r:step call ρ d (.stop)=.fail:=rfl
end
section
variable {E:Env} {sl loc:List (Nat × AV)}
theorem evR_t {n:Nat}:evR E sl loc (.t n)=S2 sl loc n:=rfl
theorem evR_k {v:AV}:evR E sl loc (.k v)=v:=rfl
theorem evR_g {n:Nat}:evR E sl loc (.g n)=Zi5 (E.glob n):=rfl
theorem evR_f {n:Nat}:evR E sl loc (.f n)=.clo n []:=rfl
theorem ev_t {n:Nat}:ev E sl (.t n)=Z1 sl n:=rfl
theorem ev_k {v:AV}:ev E sl (.k v)=v:=rfl
theorem Z9s {n:Nat}:Z6 (some n)=n:=rfl
theorem Z9t:Z6 none=0:=rfl
end
theorem Ygc {b:Bool}:gdV (.bool b)=true:=rfl
theorem Yns:gdV .und=true:=rfl
theorem Ygd {w b:Bool}:gdB w (.bool b)=(b==w):=rfl
theorem Ynt {w:Bool}:gdB w .und=false:=rfl
theorem Yge {b:Bool}:isB (.bool b)=true:=rfl
theorem Z9u {k:List It}:outO (some k)=k:=rfl
theorem Ynu {α:Type} {a : α} {σ:A5}:(Acc.ret a).run σ=some a:=rfl
theorem Ynv {α:Type} {s:Site} {k:Option Ent→Acc α} {σ:A5}:(Acc.get s k).run σ=(k (C9 σ s)).run σ:=rfl
theorem Ygf {α β:Type} {a : α} {f : α→Acc β}:(Acc.ret a).bind f=f a:=rfl
theorem Z9v {α:Type} {a : α} {σ:A5}:(Acc.ret a).reads σ=[]:=rfl
theorem Z9w {α:Type} {s:Site} {k:Option Ent→Acc α} {σ:A5}:(Acc.get s k).reads σ=s::(k (C9 σ s)).reads σ:=rfl
theorem Z9x {α β:Type} {s:Site} {k:Option Ent→Acc α} {f : α→Acc β} {σ:A5}:((Acc.get s k).bind f).run σ=((k (C9 σ s)).bind f).run σ:=rfl
theorem Zyl {α β:Type} {s:Site} {k:Option Ent→Acc α} {f : α→Acc β} {σ:A5}:((Acc.get s k).bind f).reads σ=s::((k (C9 σ s)).bind f).reads σ:=rfl
theorem Zqx {α β γ:Type} (x:Acc α) (f : α→Acc β) (g : β→Acc γ):(x.bind f).bind g=x.bind fun a=>(f a).bind g:=by
  induction x with
  | ret a=>rfl
  | fail=>rfl
  | get s k ih=>exact congrArg (Acc.get s) (funext fun e=>ih e)
theorem Z2x {α β γ:Type} (x:Acc α) (f : α→Acc β) (g : β→Acc γ) (w:Wit g):(x.bind f).bindW g w=x.bindW (fun a=>(f a).bindW g ⟨⟩) ⟨⟩:=Zqx x f g
theorem Zhm {α β γ:Type} (x:Acc α) (f : α→Acc β) (v:Wit f) (g : β→Acc γ) (w:Wit g):(x.bindW f v).bindW g w=x.bindW (fun a=>(f a).bindW g ⟨⟩) ⟨⟩:=Zqx x f g
theorem Zqy {α β:Type} {a : α} {f : α→Acc β} {w:Wit f}:(Acc.ret a).bindW f w=f a:=rfl
theorem Z9y {α β:Type} {s:Site} {k:Option Ent→Acc α} {f : α→Acc β} {w:Wit f} {σ:A5}:((Acc.get s k).bindW f w).run σ=((k (C9 σ s)).bindW f ⟨⟩).run σ:=rfl
theorem Zym {α β:Type} {s:Site} {k:Option Ent→Acc α} {f : α→Acc β} {w:Wit f} {σ:A5}:((Acc.get s k).bindW f w).reads σ=s::((k (C9 σ s)).bindW f ⟨⟩).reads σ:=rfl
theorem one_eq {x:AV}:one x=.ret (x,[]):=rfl
theorem Ynw {s:Site} {g:Nat}:V8 s g=.get s (Zxh g):=rfl
theorem Z2y {g:Nat} {e:Ent}:Zxh g (some e)=if e.alive=true∧e.g=g then .ret e else .fail:=rfl
theorem mk_eq {s:Site} {v:Bool} {cs:List AV}:mk s v cs=.get s (mkE s v cs):=rfl
theorem Ygg {s:Site} {v:Bool} {cs:List AV} {e:Ent}:mkE s v cs (some e)=.ret (e.g+1,[(s,⟨e.g+1,true,true,v,cs⟩)]):=rfl
theorem Ygh {s:Site} {v:Bool} {cs:List AV}:mkE s v cs none=.ret (0,[(s,⟨0,true,true,v,cs⟩)]):=rfl
theorem Ygi {s:Site} {cs:List AV}:Zmt s cs=(mk s true cs).bindW (fun p=>.ret (.ref s p.1 0,p.2)) ⟨⟩:=rfl
theorem Ygj {s:Site} {cs:List AV} {n sz:Nat} {u:Ups}:Zdu s cs n sz u=(mk s false cs).bindW (fun p=>.ret (.buf s p.1 0 n sz,u++p.2)) ⟨⟩:=rfl
theorem Zqz {k:IntKind} {n:Int}:Zai (.int k n)=.ret (.int k n,[]):=rfl
theorem Z2z {b:Bool}:Zai (.bool b)=.ret (.bool b,[]):=rfl
theorem Z9z {l:List UInt8}:Zai (.str l)=.ret (.str l,[]):=rfl
theorem Z90 {cs:List AV} {n:Nat}:Zai (.lst cs n)=.ret (.lst cs n,[]):=rfl
theorem Ygk {cs:List AV} {n:Nat}:Zai (.fp cs n)=.ret (.fp cs n,[]):=rfl
theorem Z20:Zai .nilp=.ret (.nilp,[]):=rfl
theorem Z21:Zai .nilf=.ret (.nilf,[]):=rfl
theorem Z22:Zai .nili=.ret (.nili,[]):=rfl
theorem Z23:Zai .nilm=.ret (.nilm,[]):=rfl
theorem Z91 {f:Nat} {cs:List AV}:Zai (.clo f cs)=if flats cs=true then .ret (.clo f cs,[]) else .fail:=rfl
theorem Z92 {t:Nat} {x:AV}:Zai (.ifc t x)=if N9 x=true then .ret (.ifc t x,[]) else .fail:=rfl
theorem Ygl {k:IntKind} {n:Int}:Zdd (.int k n)=.ret (.int k n,[]):=rfl
theorem Z93 {b:Bool}:Zdd (.bool b)=.ret (.bool b,[]):=rfl
theorem Ygm {l:List UInt8}:Zdd (.str l)=.ret (.str l,[]):=rfl
theorem Ygn {cs:List AV} {n:Nat}:Zdd (.lst cs n)=.ret (.lst cs n,[]):=rfl
theorem Ynx {cs:List AV} {n:Nat}:Zdd (.fp cs n)=.ret (.fp cs n,[]):=rfl
theorem Z94:Zdd .nils=.ret (.lst [] 0,[]):=rfl
theorem Z95:Zdd .nilp=.ret (.nilp,[]):=rfl
theorem Z96:Zdd .nilf=.ret (.nilf,[]):=rfl
theorem Z97:Zdd .nili=.ret (.nili,[]):=rfl
theorem Z98:Zdd .nilm=.ret (.nilm,[]):=rfl
theorem Ygo {t:Nat} {x:AV}:Zdd (.ifc t x)=if N9 x=true then .ret (.ifc t x,[]) else .fail:=rfl
theorem Ygp {s:Site} {g off n z:Nat}:Zdd (.buf s g off n z)=(V8 s g).bindW (Yed off n z s) ⟨⟩:=rfl
theorem Ygq {s:Site} {g off:Nat}:Zdd (.ref s g off)=(V8 s g).bindW (Yee off s) ⟨⟩:=rfl
theorem Z99 {f:Nat}:Zdd (.clo f [])=.ret (.clo f [],[]):=rfl
theorem Ygr {off n z:Nat} {s:Site} {e:Ent}:Yed off n z s e=if off+n*z≤e.cells.length∧flats e.cells=true then .ret (.lst (sub e.cells off (n*z)) n,[s]) else .fail:=rfl
theorem Ygs {off:Nat} {s:Site} {e:Ent}:Yee off s e=if flats e.cells=true then .ret (.fp e.cells off,[s]) else .fail:=rfl
theorem Zyn {s:Site} {u:Ups} {e:Ent}:Zn8 s u (some e)=.ret ((s,{ e with rw:=false })::u):=rfl
theorem Yaa {sz off n z:Nat} {e:Ent}:Yef sz off n z e=if z=sz∧off+n*z≤e.cells.length then .ret (sub e.cells off (n*z),n) else .fail:=rfl
theorem Yab {k:Nat} {l:List (Nat × Nat)} {e:Ent}:genE k l (some e)=.ret ((k,e.g+1)::l):=rfl
theorem Yac {k:Nat} {l:List (Nat × Nat)}:genE k l none=.ret ((k,0)::l):=rfl
theorem Zyo {i:Nat} {take:List Nat}:X0 i take []=.ret ([],[],[]):=rfl
theorem Zs2 {i:Nat} {take:List Nat} {x:AV} {xs:List AV}:X0 i take (x::xs) =
    Za3 (take.contains i) ((X0 (i+1) take xs).bindW (fun p=>.ret (x::p.1,Zar x++p.2.1,p.2.2)) ⟨⟩)
      ((Zdd x).bindW (fun q=>(X0 (i+1) take xs).bindW (fun p=>.ret (q.1::p.1,p.2.1,q.2++p.2.2)) ⟨⟩) ⟨⟩) ⟨⟩ ⟨⟩:=rfl
theorem Yad:views []=.ret ([],[]):=rfl
theorem Zjd {c:AV} {cs:List AV}:views (c::cs)=(Zai c).bindW (fun p=>(views cs).bindW (fun q=>.ret (p.1::q.1,p.2++q.2)) ⟨⟩) ⟨⟩:=rfl
theorem Yae:Zg9 []=.ret []:=rfl
theorem Z24 {s:Site} {ss:List Site}:Zg9 (s::ss)=(Zg9 ss).bindW (fun u=>.get s (Zn8 s u)) ⟨⟩:=rfl
theorem Z25 {n:Nat} {seen:List Site}:Zcc (n+1) [] seen=.ret []:=rfl
theorem Zyp {n:Nat} {s:Site} {g:Nat} {r:List (Site × Nat)} {seen:List Site}:Zcc (n+1) ((s,g)::r) seen =
    Za3 (seen.contains s) (Zcc n r seen)
      ((V8 s g).bindW (fun e=>(Zcc n (r++refsOfs e.cells) (s::seen)).bindW (fun u=>.ret ((s,e)::u)) ⟨⟩) ⟨⟩) ⟨⟩ ⟨⟩:=rfl
theorem Zs3 {d:Nat}:U8 d []=.ret []:=rfl
theorem Z26 {d k:Nat} {e:Ent} {r:A5}:U8 d ((.r k,e)::r)=(U8 d r).bindW (fun l=>.get (.s d k) (genE k l)) ⟨⟩:=rfl
theorem Zyq {d:Nat} {x:Site} {e:Ent} {r:A5}:U8 d ((.up x,e)::r)=U8 d r:=rfl
theorem Yaf {call:O2} {d f:Nat} {args:List AV} {take:List Nat}:Zcz call d f args take =
  (X0 0 take args).bindW (fun p=>(Zcc 64 p.2.1 []).bindW (fun es=>Z6q d p.2.2 es (call f (rens (Zbv es) p.1) (P1 es es))) ⟨⟩) ⟨⟩:=rfl
theorem Z27 {d:Nat} {ss:List Site} {es:List (Site × Ent)} {v:AV} {σ:A5}:Z6q d ss es (some (v,σ)) =
    Za3 (tidy σ && !(Zoa es ss)) ((U8 d σ).bindW (fun gs=>LetA (E7 d gs σ) (fun b=>Za3 (Zaj b) (Z6p ss es (ren (H8 d gs) v) b) .fail ⟨⟩ ⟨⟩) ⟨⟩) ⟨⟩) .fail ⟨⟩ ⟨⟩:=rfl
theorem Ygt {ss:List Site} {es:List (Site × Ent)} {v:AV} {b:Ups}:Z6p ss es v b =
    Za3 (U3 v||Zcd b) ((Zg9 ss).bindW (fun u=>.ret (v,u++(b++Zbo b es))) ⟨⟩) (.ret (v,b++Zbo b es)) ⟨⟩ ⟨⟩:=rfl
theorem Ygu {σ:Ups} {s:Site}:Zxi σ s=(C9 σ s).isNone:=rfl
theorem Yag {x:AV}:optV (some x)=.ret (x,[]):=rfl
theorem Z28 {t:Bool} {a b:AV}:Zxk (.bool t) a b=.ret (bif t then a else b,[]):=rfl
theorem Yny {cs:List AV} {off n:Nat}:aggV cs off n=if off+n≤cs.length then .ret (.agg (sub cs off n),[]) else .fail:=rfl
theorem Zyr {cs:List AV}:Zsh (some cs)=.ret (.agg cs,[]):=rfl
theorem Zs4 {s:Site} {n sz:Nat} {cs:List AV}:Zju s n sz (some cs)=(fix cs).bindW (fun p=>Zdu s p.1 n sz p.2.1) ⟨⟩:=rfl
theorem Ygv {off:Nat} {e:Ent}:ldC none off e=optV e.cells[off]? := rfl
theorem Ygw {n off:Nat} {e:Ent}:ldC (some n) off e=aggV e.cells off n:=rfl
theorem Ynz {cs:List AV} {off:Nat}:ldV none (.fp cs off)=optV cs[off]? := rfl
theorem Yn0 {cs:List AV} {off n:Nat}:ldV (some n) (.fp cs off)=aggV cs off n:=rfl
theorem Ygx {s:Site} {g off:Nat}:ldV none (.ref s g off)=(V8 s g).bindW (ldC none off) ⟨⟩:=rfl
theorem Ygy {s:Site} {g off n:Nat}:ldV (some n) (.ref s g off)=(V8 s g).bindW (ldC (some n) off) ⟨⟩:=rfl
theorem stC_eq {s:Site} {off n:Nat} {xs:List AV} {e:Ent}:stC s off n xs e =
  if e.rw=true∧xs.length=n∧off+n≤e.cells.length∧K4 xs=true then
    (bif e.var then .ret (.und,[(s,{ e with cells:=over e.cells off xs })])
     else (fix xs).bindW (fun p=>bif p.2.2.contains s then .fail else .ret (.und,p.2.1++[(s,{ e with cells:=over e.cells off p.1 })])) ⟨⟩)
  else .fail:=rfl
theorem Yn1 {n:Nat} {s:Site} {g off:Nat} {xs:List AV}:stV n (.ref s g off) (some xs)=(V8 s g).bindW (stC s off n xs) ⟨⟩:=rfl
theorem Yah {s:Site} {xs:List AV}:boxV s (some xs)=Zmt s xs:=rfl
theorem Zys {cells ys:List AV} {off n:Nat}:Zp7 cells off n (some ys)=if ys.length=n∧off+n≤cells.length then some (over cells off ys) else none:=rfl
theorem Z29 {s:Site} {g off:Nat}:Zlr (.ref s g off)=still1 s g (.ref s g off):=rfl
theorem Yai {cs:List AV} {off:Nat}:Zlr (.fp cs off)=.ret (.fp cs off,[]):=rfl
theorem Zoy {k k':IntKind} {n:Int}:Zsi k (.int k' n)=.ret (.int k (k.wrap n),[]):=rfl
theorem Ygz {l:List UInt8}:s2sV (.str l)=.ret (.str l,[]):=rfl
theorem Yg0 {s:Site} {l:List UInt8}:s2bV s (.str l)=Zdu s (A0 l) l.length 1 []:=rfl
theorem Yaj {l:List UInt8}:strV (some l)=.ret (.str l,[]):=rfl
theorem Yg1 {s:Site} {g off n z:Nat}:b2bV (.buf s g off n z)=(V8 s g).bindW (fun e=>if e.rw=true∧e.cells.isEmpty=false then .ret (.buf s g off n z,[]) else .fail) ⟨⟩:=rfl
theorem Yg2 {s:Site} {sz bytes:Nat} {zero:List AV} {l c:Int}:mksV s sz bytes zero (.int .i64 l) (.int .i64 c) =
    if 0≤l∧l≤c∧bytes*c≤281474976710656∧c≤281474976710656 then Zdu s (rep zero l.toNat) l.toNat sz [] else .fail:=rfl
theorem Yg3 {x:AV}:loV (some x)=x:=rfl
theorem Yg4:loV none=.int .i64 0:=rfl
theorem Yg5 {n:Nat} {x:AV}:hiV n (some x)=x:=rfl
theorem Yg6 {n:Nat}:hiV n none=.int .i64 n:=rfl
theorem Yg7 {n:Nat} {x:AV}:Zer (some n) x=n:=rfl
theorem Yg8 {l:List UInt8}:Zer none (.str l)=l.length:=rfl
theorem Yg9 {cs:List AV} {n:Nat}:Zer none (.lst cs n)=n:=rfl
theorem Yha {s:Site} {g off n z:Nat}:Zer none (.buf s g off n z)=n:=rfl
theorem Yak:Zer none .nils=0:=rfl
theorem Yn2 {sz n l h:Nat} {s:Site} {g off:Nat}:slB sz (some n) (.ref s g off) l h=(V8 s g).bindW (slR sz n l h s g off) ⟨⟩:=rfl
theorem slR_eq {sz n l h:Nat} {s:Site} {g off:Nat} {e:Ent}:slR sz n l h s g off e=if off+n*sz≤e.cells.length then .ret (.buf s g (off+l*sz) (h-l) sz,[]) else .fail:=rfl
theorem slB_fp {sz n l h:Nat} {cs:List AV} {off:Nat}:slB sz (some n) (.fp cs off) l h=if off+n*sz≤cs.length then .ret (.lst (sub cs (off+l*sz) ((h-l)*sz)) (h-l),[]) else .fail:=rfl
theorem Yhb {k k':IntKind} {l h:Int} {t:List UInt8}:slsV (.str t) (.int k l) (.int k' h)=if 0≤l∧l≤h∧h≤t.length then .ret (.str (sub t l.toNat (h.toNat-l.toNat)),[]) else .fail:=rfl
theorem Yhc {cs:List AV} {n:Nat}:Z1z (.lst cs n)=(V9 1 (.lst cs n)).bindW (fun p=>strV (bytesOf p.1)) ⟨⟩:=rfl
theorem Yhd {s:Site} {g o n z:Nat}:Z1z (.buf s g o n z)=(V9 1 (.buf s g o n z)).bindW (fun p=>strV (bytesOf p.1)) ⟨⟩:=rfl
theorem Yal:Z1z .nils=.ret (.str [],[]):=rfl
theorem Yn3 {sz l h n:Nat} {cs:List AV}:slB sz none (.lst cs n) l h=if cs.length=n*sz then .ret (.lst (sub cs (l*sz) ((h-l)*sz)) (h-l),[]) else .fail:=rfl
theorem Yn4 {sz l h:Nat} {s:Site} {g off n z:Nat}:slB sz none (.buf s g off n z) l h=if z=sz then still1 s g (.buf s g (off+l*sz) (h-l) sz) else .fail:=rfl
theorem Yhe {sz l h:Nat}:slB sz none .nils l h=.ret (.nils,[]):=rfl
theorem Yn5 {sz:Nat} {arr:Option Nat} {x:AV} {k k':IntKind} {l h:Int}:slV sz arr x (.int k l) (.int k' h)=if 0≤l∧l≤h∧h≤Zer arr x then slB sz arr x l.toNat h.toNat else .fail:=rfl
theorem Yn6 {off:Nat} {s:Site} {g o:Nat}:faV off (.ref s g o)=still1 s g (.ref s g (o+off)):=rfl
theorem faV_fp {off:Nat} {cs:List AV} {o:Nat}:faV off (.fp cs o)=.ret (.fp cs (o+off),[]):=rfl
theorem Yam {off:Nat} {cs:List AV}:Zxl off none (.agg cs)=optV cs[off]? := rfl
theorem Yan {off n:Nat} {cs:List AV}:Zxl off (some n) (.agg cs)=aggV cs off n:=rfl
theorem Yn7 {sz n:Nat} {s:Site} {g o:Nat} {k:IntKind} {i:Int}:iaV sz (some n) (.ref s g o) (.int k i)=if 0≤i∧i<n then still1 s g (.ref s g (o+i.toNat*sz)) else .fail:=rfl
theorem iaV_fp {sz n:Nat} {cs:List AV} {o:Nat} {k:IntKind} {i:Int}:iaV sz (some n) (.fp cs o) (.int k i)=if 0≤i∧i<n then .ret (.fp cs (o+i.toNat*sz),[]) else .fail:=rfl
theorem Yn8 {sz n:Nat} {cs:List AV} {k:IntKind} {i:Int}:iaV sz none (.lst cs n) (.int k i)=if 0≤i∧i<n then .ret (.fp cs (i.toNat*sz),[]) else .fail:=rfl
theorem Yn9 {sz:Nat} {s:Site} {g o n z:Nat} {k:IntKind} {i:Int}:iaV sz none (.buf s g o n z) (.int k i)=if 0≤i∧i<n∧z=sz then still1 s g (.ref s g (o+i.toNat*sz)) else .fail:=rfl
theorem Zoz {b:UInt8}:Z6r (some b)=.ret (.int .u8 b.toNat,[]):=rfl
theorem Yoa {sz n:Nat} {agg:Bool} {cs:List AV} {k:IntKind} {i:Int}:ixV sz agg (some n) (.agg cs) (.int k i) =
  if 0≤i∧i<n∧i.toNat*sz+sz≤cs.length then (bif agg then one (.agg (sub cs (i.toNat*sz) sz)) else optV cs[i.toNat*sz]?) else .fail:=rfl
theorem Yob {sz:Nat} {agg:Bool} {t:List UInt8} {k:IntKind} {i:Int}:ixV sz agg none (.str t) (.int k i)=if 0≤i then Z6r t[i.toNat]? else .fail:=rfl
theorem Yhf {n sz m:Nat} {cs:List AV}:s2aV n sz (.lst cs m)=if n≤m∧cs.length=m*sz∧0<n then .ret (.fp cs 0,[]) else .fail:=rfl
theorem Yhg {n sz m:Nat} {s:Site} {g o z:Nat}:s2aV n sz (.buf s g o m z)=if n≤m∧z=sz∧0<n then still1 s g (.ref s g o) else .fail:=rfl
theorem Yhh {i:Nat} {cs:List AV}:extV i (.tup cs)=optV cs[i]? := rfl
theorem Yao {call:O2} {d:Nat} {take:List Nat} {args:List AV} {f:Nat} {cap:List AV}:Zjv call d take args (.clo f cap)=Zcz call d f (args++cap) take:=rfl
theorem Yoc {t:Site} {sz bytes m:Nat} {vs:List AV} {u:Ups} {ss:List Site} {s:Site} {o n z:Nat} {e:Ent}:appB t sz bytes m vs u ss s o n z e =
  if e.rw=true∧e.var=false∧z=sz∧o+n*sz≤e.cells.length∧(n+m)*bytes≤R5∧ss.contains s=false∧K4 vs=true then
    Zdu t (sub e.cells o (n*sz)++vs) (n+m) sz (Zes s t u e)
  else .fail:=rfl
theorem Zyt {s t:Site} {u:Ups} {e:Ent}:Zes s t u e=bif decide (s=t) then u else u++[(s,{ e with alive:=false,cells:=[] })]:=rfl
theorem Yap {t:Site} {sz bytes m:Nat} {vs:List AV} {u:Ups} {ss:List Site}:Zjw t sz bytes m vs u ss .nils=if m*bytes≤R5 then Zdu t vs m sz u else .fail:=rfl
theorem Yhi {t:Site} {sz bytes m:Nat} {vs:List AV} {u:Ups} {ss:List Site} {s:Site} {g o n z:Nat}:Zjw t sz bytes m vs u ss (.buf s g o n z)=(V8 s g).bindW (appB t sz bytes m vs u ss s o n z) ⟨⟩:=rfl
theorem Yaq {t:Site} {sz bytes:Nat} {zero:List AV} {s:AV} {m:Int}:Zp9 t sz bytes zero s (.int .i64 m)=if 0≤m∧m≤R5 then Zjw t sz bytes m.toNat (rep zero m.toNat) [] [] s else .fail:=rfl
theorem Yar {n:Nat} {x:AV}:Zmu (some n) x=.ret (.int .i64 n,[]):=rfl
theorem Yas {l:List UInt8}:Zxm (.str l)=.ret (.int .i64 l.length,[]):=rfl
theorem Yat {cs:List AV} {n:Nat}:Zmu none (.lst cs n)=.ret (.int .i64 n,[]):=rfl
theorem Yau {s:Site} {g off n z:Nat}:Zmu none (.buf s g off n z)=still1 s g (.int .i64 n):=rfl
theorem Yav {s:Site} {g:Nat} {x:AV}:still1 s g x=(V8 s g).bindW (fun _=>.ret (x,[])) ⟨⟩:=rfl
theorem Z3a:Zmu none .nils=.ret (.int .i64 0,[]):=rfl
theorem Yhj {sz m:Nat} {ys:List AV} {s:Site} {o n z:Nat} {e:Ent}:Z6s sz m ys s o n z e =
  if e.rw=true∧z=sz∧o+n*sz≤e.cells.length∧flats ys=true then
    .ret (.int .i64 (Nat.min m n),[(s,{ e with cells:=over e.cells o (ys.take (Nat.min m n*sz)) })])
  else .fail:=rfl
theorem Yaw {sz m:Nat} {ys:List AV} {s:Site} {g o n z:Nat}:Zxn sz m ys (.buf s g o n z)=(V8 s g).bindW (Z6s sz m ys s o n z) ⟨⟩:=rfl
theorem Yhk {k:IntKind} {a b:Int}:minV (.int k a) (.int k b)=.ret (.int k (if b<a then b else a),[]):=by simp [minV,one]
theorem Yhl {k:IntKind} {a b:Int}:maxV (.int k a) (.int k b)=.ret (.int k (if a<b then b else a),[]):=by simp [maxV,one]
theorem Yhm {k:IntKind} {n:Int}:r2sV (.int k n)=.ret (.str (Zav n),[]):=rfl
theorem Yhn {s:Site} {c:AV} {f:Nat→AV}:Zob s c f=(mk s true [c]).bindW (fun p=>.ret (f p.1,p.2)) ⟨⟩:=rfl
theorem Yho {s:Site} {l:List UInt8}:rngV s (.str l)=Zob s (.itr l 0) (.it s):=rfl
theorem Yod {s:Site} {g:Nat}:nxtV (.it s g)=(V8 s g).bindW (nxtC s) ⟨⟩:=rfl
theorem Yhp {s:Site} {g:Nat} {al rw var:Bool} {l:List UInt8} {p:Nat}:nxtC s ⟨g,al,rw,var,[.itr l p]⟩ =
  if rw=true then (if p<l.length then .ret (.tup [.bool true,.int .i64 p,.int .i32 (Zat l p).1],[(s,⟨g,al,rw,var,[.itr l (p+(Zat l p).2)]⟩)]) else .ret (.tup [.bool false],[])) else .fail:=rfl
theorem Yax {str:Bool} {zero:AV} {ok:Bool} {k:AV} {s:Site} {g:Nat}:Zxo str zero ok k (.mpr s g)=(V8 s g).bindW (Z6t str zero ok k) ⟨⟩:=rfl
theorem Z3b {str:Bool} {zero:AV} {ok:Bool} {k:AV}:Zxo str zero ok k .nilm=.ret (okV ok false zero,[]):=rfl
theorem Yhq {str:Bool} {zero:AV} {ok:Bool} {k:AV} {g:Nat} {al rw var:Bool} {ks vs:List AV}:Z6t str zero ok k ⟨g,al,rw,var,[.mp ks vs]⟩=Zqa zero ok vs (Zbl str k ks 0):=rfl
theorem Z3c {zero:AV} {ok:Bool} {vs:List AV} {i:Nat}:Zqa zero ok vs (some (some i))=optV ((vs[i]?).map (okV ok true)):=rfl
theorem Z3d {zero:AV} {ok:Bool} {vs:List AV}:Zqa zero ok vs (some none)=.ret (okV ok false zero,[]):=rfl
theorem Yhr {b:Bool} {v:AV}:okV true b v=.tup [v,.bool b]:=rfl
theorem Yay {b:Bool} {v:AV}:okV false b v=v:=rfl
theorem Yaz {str agg:Bool} {k:AV} {xs:List AV} {s:Site} {g:Nat}:Zxp str agg k (some xs) (.mpr s g)=(fix xs).bindW (fun p=>(V8 s g).bindW (Z6u str s k (Zi1 agg p.1) p.2.1 p.2.2) ⟨⟩) ⟨⟩:=rfl
theorem Yhs {str:Bool} {s:Site} {k y:AV} {u:Ups} {ss:List Site} {g:Nat} {al rw var:Bool} {ks vs:List AV}:Z6u str s k y u ss ⟨g,al,rw,var,[.mp ks vs]⟩ =
  if rw=true∧Ze7 k=true∧Ze7 y=true∧ss.contains s=false then Zqb s k y u ⟨g,al,rw,var,[.mp ks vs]⟩ ks vs (Zbl str k ks 0) else .fail:=rfl
theorem Z3e {s:Site} {k y:AV} {u:Ups} {e:Ent} {ks vs:List AV} {i:Nat}:Zqb s k y u e ks vs (some (some i))=.ret (.und,u++[(s,{ e with cells:=[.mp (ks.set i k) (vs.set i y)] })]):=rfl
theorem Z3f {s:Site} {k y:AV} {u:Ups} {e:Ent} {ks vs:List AV}:Zqb s k y u e ks vs (some none)=.ret (.und,u++[(s,{ e with cells:=[.mp (ks++[k]) (vs++[y])] })]):=rfl
theorem Z3g {cs:List AV}:Zaw (.agg cs)=true:=rfl
theorem Z3h {k:IntKind} {n:Int}:Zaw (.int k n)=false:=rfl
theorem Zyu {b:Bool}:Zaw (.bool b)=false:=rfl
theorem Z3i {l:List UInt8}:Zaw (.str l)=false:=rfl
theorem Z3j {s:Site} {g o n z:Nat}:Zaw (.buf s g o n z)=false:=rfl
theorem Z3k {cs:List AV} {n:Nat}:Zaw (.lst cs n)=false:=rfl
theorem Zyv:Zaw .nils=false:=rfl
theorem Z3l {ys:List AV}:Zi1 true ys=.agg ys:=rfl
theorem Zyw {y:AV}:Zi1 false [y]=y:=rfl
theorem Ya0 {cs:List AV}:Ze7 (.agg cs)=flats cs:=rfl
theorem Ya1 {k:IntKind} {n:Int}:Ze7 (.int k n)=true:=rfl
theorem Z3m {b:Bool}:Ze7 (.bool b)=true:=rfl
theorem Ya2 {l:List UInt8}:Ze7 (.str l)=true:=rfl
theorem Ya3 {cs:List AV} {n:Nat}:Ze7 (.lst cs n)=true:=rfl
theorem Z3n:Ze7 .nils=true:=rfl
theorem Ya4 {str:Bool} {k:AV} {s:Site} {g:Nat}:Zxq str k (.mpr s g)=(V8 s g).bindW (Z6v str s k) ⟨⟩:=rfl
theorem Z3o {str:Bool} {k:AV}:Zxq str k .nilm=.ret (.tup [],[]):=rfl
theorem Yht {str:Bool} {s:Site} {k:AV} {g:Nat} {al rw var:Bool} {ks vs:List AV}:Z6v str s k ⟨g,al,rw,var,[.mp ks vs]⟩ =
  if rw=true then Zqc s ⟨g,al,rw,var,[.mp ks vs]⟩ ks vs (Zbl str k ks 0) else .fail:=rfl
theorem Z3p {s:Site} {e:Ent} {ks vs:List AV} {i:Nat}:Zqc s e ks vs (some (some i))=.ret (.tup [],[(s,{ e with cells:=[.mp (ks.eraseIdx i) (vs.eraseIdx i)] })]):=rfl
theorem Z3q {s:Site} {e:Ent} {ks vs:List AV}:Zqc s e ks vs (some none)=.ret (.tup [],[]):=rfl
theorem Ya5 {s:Site} {g:Nat}:Zxr (.mpr s g)=(V8 s g).bindW Z6w ⟨⟩:=rfl
theorem Z3r:Zxr .nilm=.ret (.int .i64 0,[]):=rfl
theorem Yhu {g:Nat} {al rw var:Bool} {ks vs:List AV}:Z6w ⟨g,al,rw,var,[.mp ks vs]⟩=.ret (.int .i64 ks.length,[]):=rfl
theorem Ya6:capV .nils=.ret (.int .i64 0,[]):=rfl
section
variable {k:IntKind} {a b:Int}
def Z3s (k:IntKind) (a b:Int):Int:=k.wrap (BitVec.ofInt k.bits a &&& BitVec.ofInt k.bits b).toNat
def ior (k:IntKind) (a b:Int):Int:=k.wrap (BitVec.ofInt k.bits a ||| BitVec.ofInt k.bits b).toNat
def ixor (k:IntKind) (a b:Int):Int:=k.wrap (BitVec.ofInt k.bits a ^^^ BitVec.ofInt k.bits b).toNat
def iandn (k:IntKind) (a b:Int):Int:=k.wrap (BitVec.ofInt k.bits a &&& ~~~ BitVec.ofInt k.bits b).toNat
def inot (k:IntKind) (n:Int):Int:=k.wrap (BitVec.ofInt k.bits (if k.signed then -1 else k.max) ^^^ BitVec.ofInt k.bits n).toNat
def Z3t (k:IntKind) (a b:Int):Int:=k.wrap (a*2^(Nat.min b.toNat k.bits))
def Zyx (k:IntKind) (a b:Int):Int:=a.fdiv (2^(Nat.min b.toNat k.bits))
theorem Z7h:J4 .add (.int k a) (.int k b)=some (.int k (k.wrap (a+b))):=by simp [J4,Z5]
theorem Yoe:J4 .sub (.int k a) (.int k b)=some (.int k (k.wrap (a-b))):=by simp [J4,Z5]
theorem Yof:J4 .mul (.int k a) (.int k b)=some (.int k (k.wrap (a*b))):=by simp [J4,Z5]
theorem Yog:J4 .quo (.int k a) (.int k b)=if b=0 then none else some (.int k (k.wrap (a.tdiv b))):=by simp [J4,Z5]
theorem Yoh:J4 .rem (.int k a) (.int k b)=if b=0 then none else some (.int k (a.tmod b)):=by simp [J4,Z5]
theorem Z7i:J4 .and (.int k a) (.int k b)=some (.int k (Z3s k a b)):=by simp [J4,Z5,Z3s]
theorem Yhv:J4 .or (.int k a) (.int k b)=some (.int k (ior k a b)):=by simp [J4,Z5,ior]
theorem Z7j:J4 .xor (.int k a) (.int k b)=some (.int k (ixor k a b)):=by simp [J4,Z5,ixor]
theorem Z3u:J4 .andNot (.int k a) (.int k b)=some (.int k (iandn k a b)):=by simp [J4,Z5,iandn]
theorem Yoi:J4 .eql (.int k a) (.int k b)=some (.bool (a==b)):=by simp [J4,Z5]
theorem Yoj:J4 .neq (.int k a) (.int k b)=some (.bool (a != b)):=by simp [J4,Z5]
theorem Yok:J4 .lss (.int k a) (.int k b)=some (.bool (decide (a<b))):=by simp [J4,Z5]
theorem Yol:J4 .leq (.int k a) (.int k b)=some (.bool (decide (a≤b))):=by simp [J4,Z5]
theorem Yom:J4 .gtr (.int k a) (.int k b)=some (.bool (decide (b<a))):=by simp [J4,Z5]
theorem Yon:J4 .geq (.int k a) (.int k b)=some (.bool (decide (b≤a))):=by simp [J4,Z5]
theorem Z7k {k':IntKind} (h:0≤b):J4 .shl (.int k a) (.int k' b)=some (.int k (Z3t k a b)):=by
  have:¬ b<0:=by omega
  simp [J4,Zg8,Z3t,this]
theorem Z7l {k':IntKind} (h:0≤b):J4 .shr (.int k a) (.int k' b)=some (.int k (Zyx k a b)):=by
  have:¬ b<0:=by omega
  simp [J4,Zg8,Zyx,this]
end
section
variable {x y:List UInt8}
theorem Yhw:J4 .add (.str x) (.str y)=if x.length+y.length≤9223372036854775807 then some (.str (x++y)) else none:=rfl
theorem Yhx:J4 .eql (.str x) (.str y)=some (.bool (x==y)):=rfl
theorem Yhy:J4 .neq (.str x) (.str y)=some (.bool (!(x==y))):=rfl
theorem Yhz:J4 .lss (.str x) (.str y)=some (.bool (Op.bytesLess x y)):=rfl
theorem Yh0:J4 .leq (.str x) (.str y)=some (.bool (Op.bytesLess x y||x==y)):=rfl
theorem Yh1:J4 .gtr (.str x) (.str y)=some (.bool (!(Op.bytesLess x y||x==y))):=rfl
theorem Yh2:J4 .geq (.str x) (.str y)=some (.bool (!(Op.bytesLess x y))):=rfl
end
theorem Yh3 {neg a b:Bool}:Zxg neg (.bool a) (.bool b)=some (.bool (bif neg then !(a==b) else a==b)):=rfl
theorem Yoo {ks:List Nat} {neg:Bool} {a b:List AV}:eqaV ks neg (.agg a) (.agg b)=optV ((J3 ks a b).map fun e=>.bool (bif neg then !e else e)):=rfl
theorem Yop {kd:Nat} {neg:Bool} {x y:AV}:eqnV kd neg x y=(Zg1 kd x).bindW (fun a=>(Zg1 kd y).bindW (fun b=>eqnB neg a b) ⟨⟩) ⟨⟩:=rfl
theorem Ya7:Zg1 0 .nilp=.ret true:=rfl
theorem Yoq {cs:List AV} {o:Nat}:Zg1 0 (.fp cs o)=.ret false:=rfl
theorem Yh4 {s:Site} {g o:Nat}:Zg1 0 (.ref s g o)=(V8 s g).bindW (fun _=>.ret false) ⟨⟩:=rfl
theorem Ya8:Zg1 1 .nils=.ret true:=rfl
theorem Ya9:Zg1 2 .nilm=.ret true:=rfl
theorem Yba:Zg1 3 .nilf=.ret true:=rfl
theorem Yh5 {f:Nat} {cs:List AV}:Zg1 3 (.clo f cs)=.ret false:=rfl
theorem Ybb:Zg1 4 .nili=.ret true:=rfl
theorem Yh6 {t:Nat} {x:AV}:Zg1 4 (.ifc t x)=.ret false:=rfl
theorem Yor {neg a b:Bool}:eqnB neg a b=bif a||b then .ret (.bool (bif neg then !(a&&b) else a&&b),[]) else .fail:=rfl
theorem un_neg {k:IntKind} {n:Int}:Zsg .neg (.int k n)=some (.int k (k.wrap (0-n))):=rfl
theorem Yh7 {k:IntKind} {n:Int}:Zsg .xor (.int k n)=some (.int k (inot k n)):=rfl
theorem un_not {b:Bool}:Zsg .not (.bool b)=some (.bool (!b)):=rfl
def Zyy {α β:Type} (x:Option α) (f : α→Option β) (_:Wit f):Option β:=x.bind f
theorem Z3v {α β:Type} {x : α} {f : α→Option β} {w:Wit f}:Zyy (some x) f w=f x:=rfl
theorem Ybc {res:List LRes} {sl:List (Nat × AV)} {σ:A5}:Zet res ⟨sl,σ⟩=Zyy (Zdr ⟨sl,σ⟩ res) (fun vs=>LetA (O6 σ 64 (ups σ++refsOfs vs) []) (fun acc=>some (Zsj (rens (Q3 Site.r 0 acc) vs),Z7 σ (Q3 Site.r 0 acc) acc)) ⟨⟩) ⟨⟩:=by
  unfold Zet Zyy LetA
  cases Zdr ⟨sl,σ⟩ res<;>rfl
def Yh8 {α:Type} (x:Option α) (y:Option (List α)):Option (List α):=match x,y with|some v,some vs=>some (v::vs)|_,_=>none
theorem Z3w {α:Type} {v : α} {vs:List α}:Yh8 (some v) (some vs)=some (v::vs):=rfl
theorem Z3x {st:St}:Zdr st []=some []:=rfl
theorem Zyz {st:St} {r:LRes} {rs:List LRes}:Zdr st (r::rs)=Yh8 (Zmv st r) (Zdr st rs):=by
  unfold Yh8;rw [Zdr];cases Zmv st r<;>cases Zdr st rs<;>rfl
theorem Ybd {st:St} {t:Nat}:Zmv st (.tmp t)=some (Z1 st.sl t):=rfl
theorem Yh9 {v:AV}:Zsj [v]=v:=rfl
theorem Yia {v w:AV}:Zsj [v,w]=.tup [v,w]:=rfl
theorem Z3y {v w x:AV}:Zsj [v,w,x]=.tup [v,w,x]:=rfl
theorem Ybe {v w x y:AV}:Zsj [v,w,x,y]=.tup [v,w,x,y]:=rfl
theorem Yos {E:Env} {fn:List LRes} {k:List It} {st:St} {l:List Nat} {x:LCode}:X E fn (.c (.loop l x)::k) st=X E fn (.lp l x::k) st:=by rw [X_loop,X_lp]
theorem Yib {sl:List (Nat × AV)} {n:Nat}:S2 sl [] n=Z1 sl n:=rfl
theorem Ybf {sl:List (Nat × AV)} {k n:Nat} {v:AV} {r:List (Nat × AV)}:S2 sl ((k,v)::r) n=Za3 (k==n) v (S2 sl r n) ⟨⟩ ⟨⟩:=by
  rw [S2,Zew];rfl
theorem Yic {n:Nat}:Z1 [] n=.junk:=rfl
theorem Ybg {k n:Nat} {v:AV} {r:List (Nat × AV)}:Z1 ((k,v)::r) n=Za3 (k==n) v (Z1 r n) ⟨⟩ ⟨⟩:=by
  rw [Z1,Zew];rfl
theorem Yid {n:Nat} {v:AV}:Znh [] n v=[(n,v)]:=rfl
theorem Ybh {k n:Nat} {u v:AV} {r:List (Nat × AV)}:Znh ((k,u)::r) n v=Za3 (k==n) ((n,v)::r) ((k,u)::Znh r n v) ⟨⟩ ⟨⟩:=by
  rw [Znh,Zew];rfl
theorem Yie {s:Site}:C9 [] s=none:=rfl
theorem Ybi {t s:Site} {e:Ent} {σ:A5}:C9 ((t,e) :: σ) s=Za3 (decide (t=s)) (some e) (C9 σ s) ⟨⟩ ⟨⟩:=by
  rw [C9,Zew]
theorem Yif {s:Site} {e:Ent}:J0 [] s e=[(s,e)]:=rfl
theorem Ybj {t s:Site} {e e':Ent} {σ:A5}:J0 ((t,e') :: σ) s e=Za3 (decide (t=s)) ((s,e) :: σ) ((t,e')::J0 σ s e) ⟨⟩ ⟨⟩:=by
  rw [J0,Zew]
def Z7m (σ:A5) (n:Nat) (r acc:List (Site × Nat)) (s:Site) (g:Nat):Option Ent→List (Site × Nat)
  | some e=>Za3 (e.alive&&e.g==g) (O6 σ n (r++refsOfs e.cells) (acc++[(s,g)])) (O6 σ n r acc) ⟨⟩ ⟨⟩
  | none=>O6 σ n r acc
theorem Z3z {σ:A5} {n:Nat} {r acc:List (Site × Nat)} {s:Site} {g:Nat} {e:Ent}:Z7m σ n r acc s g (some e)=Za3 (e.alive&&e.g==g) (O6 σ n (r++refsOfs e.cells) (acc++[(s,g)])) (O6 σ n r acc) ⟨⟩ ⟨⟩:=rfl
theorem Z30 {σ:A5} {n:Nat} {r acc:List (Site × Nat)} {s:Site} {g:Nat}:Z7m σ n r acc s g none=O6 σ n r acc:=rfl
theorem Zy0 {σ:A5} {n:Nat} {acc:List (Site × Nat)}:O6 σ (n+1) [] acc=acc:=rfl
theorem Zs5 {σ:A5} {n:Nat} {s:Site} {g:Nat} {r acc:List (Site × Nat)}:O6 σ (n+1) ((s,g)::r) acc=Za3 (acc.contains (s,g)) (O6 σ n r acc) (Z7m σ n r acc s g (C9 σ s)) ⟨⟩ ⟨⟩:=by
  rw [O6]
  unfold Za3
  cases acc.contains (s,g) with
  | true=>simp
  | false =>
    simp only [Bool.false_eq_true,if_false,cond_false]
    cases C9 σ s with
    | none=>rfl
    | some e =>
      simp only [Z7m,Za3]
      have hb:(e.g==g)=decide (e.g=g):=by by_cases h2:e.g=g<;>simp [h2]
      rw [hb]
      by_cases h1:e.alive=true<;>by_cases h2:e.g=g<;>simp [h1,h2]
def Zo0 (b:Site) (g:Nat):Site→Site × Nat
  | .up x=>(.up x,g)
  | _=>(b,0)
theorem Yig {b x:Site} {g:Nat}:Zo0 b g (.up x)=(.up x,g):=rfl
theorem Yot {b:Site} {g n k:Nat}:Zo0 b g (.s n k)=(b,0):=rfl
theorem You {b:Site} {g k:Nat}:Zo0 b g (.r k)=(b,0):=rfl
theorem Zy1 {base:Nat→Site} {j g:Nat} {s:Site}:Q3 base j [] s g=none:=rfl
theorem Zs6 {base:Nat→Site} {j g g':Nat} {s s':Site} {r:List (Site × Nat)}:Q3 base j ((s',g')::r) s g=Za3 (decide (s'=s)&&g' == g) (some (Zo0 (base j) g s)) (Q3 base (j+1) r s g) ⟨⟩ ⟨⟩:=by
  have hb:(g' == g)=decide (g'=g):=by by_cases h2:g'=g<;>simp [h2]
  unfold Za3
  rw [hb]
  by_cases h1:s'=s
  · by_cases h2:g'=g
    · cases s<;>simp [Q3,Zo0,h1,h2]
    · cases s<;>simp [Q3,Zo0,h1,h2]
  · cases s<;>simp [Q3,Zo0,h1]
theorem Yov:ups []=[]:=rfl
theorem ups_up {s:Site} {e:Ent} {r:A5}:ups ((.up s,e)::r)=Za3 e.alive ((.up s,e.g)::ups r) (ups r) ⟨⟩ ⟨⟩:=by
  rw [ups];unfold Za3;cases e.alive<;>rfl
theorem ups_s {n k:Nat} {e:Ent} {r:A5}:ups ((.s n k,e)::r)=ups r:=rfl
theorem ups_r {k:Nat} {e:Ent} {r:A5}:ups ((.r k,e)::r)=ups r:=rfl
def renE (f:Site→Nat→Option (Site × Nat)) (x:Option Ent) (y:Option (Site × Nat)) (r:A5):A5:=match x,y with
  | some e,some (s',g')=>(s',{ e with g:=g',cells:=rens f e.cells })::r
  | _,_=>r
theorem Ybk {f:Site→Nat→Option (Site × Nat)} {e:Ent} {s:Site} {g:Nat} {r:A5}:renE f (some e) (some (s,g)) r=(s,{ e with g:=g,cells:=rens f e.cells })::r:=rfl
theorem Zy2 {σ:A5} {f:Site→Nat→Option (Site × Nat)}:Z7 σ f []=[]:=rfl
theorem Zs7 {σ:A5} {f:Site→Nat→Option (Site × Nat)} {s:Site} {g:Nat} {r:List (Site × Nat)}:Z7 σ f ((s,g)::r)=renE f (C9 σ s) (f s g) (Z7 σ f r):=by
  rw [Z7];unfold renE
  cases C9 σ s<;>cases f s g<;>rfl
def Zp5 (x:Option (Site × Nat)) (k:Site × Nat→AV):AV:=match x with|some p=>k p|none=>.junk
theorem Ybl {s:Site} {g:Nat} {k:Site × Nat→AV}:Zp5 (some (s,g)) k=k (s,g):=rfl
theorem Ybm {k:Site × Nat→AV}:Zp5 none k=.junk:=rfl
theorem Yow {f:Site→Nat→Option (Site × Nat)} {s:Site} {g o:Nat}:ren f (.ref s g o)=Zp5 (f s g) (fun p=>.ref p.1 p.2 o):=by
  rw [ren];unfold Zp5;cases f s g<;>rfl
theorem Yox {f:Site→Nat→Option (Site × Nat)} {s:Site} {g o n z:Nat}:ren f (.buf s g o n z)=Zp5 (f s g) (fun p=>.buf p.1 p.2 o n z):=by
  rw [ren];unfold Zp5;cases f s g<;>rfl
theorem ren_it {f:Site→Nat→Option (Site × Nat)} {s:Site} {g:Nat}:ren f (.it s g)=Zp5 (f s g) (fun p=>.it p.1 p.2):=by
  rw [ren];unfold Zp5;cases f s g<;>rfl
theorem Yoy {f:Site→Nat→Option (Site × Nat)} {s:Site} {g:Nat}:ren f (.mpr s g)=Zp5 (f s g) (fun p=>.mpr p.1 p.2):=by
  rw [ren];unfold Zp5;cases f s g<;>rfl
theorem Yoz {f:Site→Nat→Option (Site × Nat)} {cs:List AV}:ren f (.agg cs)=.agg (rens f cs):=by rw [ren]
theorem Yo0 {f:Site→Nat→Option (Site × Nat)} {cs:List AV}:ren f (.tup cs)=.tup (rens f cs):=by rw [ren]
theorem Yo1 {f:Site→Nat→Option (Site × Nat)} {g:Nat} {cs:List AV}:ren f (.clo g cs)=.clo g (rens f cs):=by rw [ren]
theorem Yo2 {f:Site→Nat→Option (Site × Nat)} {t:Nat} {x:AV}:ren f (.ifc t x)=.ifc t (ren f x):=by rw [ren]
section
variable {f:Site→Nat→Option (Site × Nat)}
theorem Yo3 {k:IntKind} {n:Int}:ren f (.int k n)=.int k n:=rfl
theorem Yih {b:Bool}:ren f (.bool b)=.bool b:=rfl
theorem Yo4 {l:List UInt8}:ren f (.str l)=.str l:=rfl
theorem Yo5 {cs:List AV} {n:Nat}:ren f (.lst cs n)=.lst cs n:=rfl
theorem ren_fp {cs:List AV} {n:Nat}:ren f (.fp cs n)=.fp cs n:=rfl
theorem Yii:ren f .nilp=.nilp:=rfl
theorem Yij:ren f .nils=.nils:=rfl
theorem Yik:ren f .nilf=.nilf:=rfl
theorem Yil:ren f .nili=.nili:=rfl
theorem Yim:ren f .nilm=.nilm:=rfl
theorem Yin:ren f .junk=.junk:=rfl
theorem Yo6:ren f .und=.und:=rfl
theorem Yo7 {l:List UInt8} {p:Nat}:ren f (.itr l p)=.itr l p:=rfl
theorem ren_mp {ks vs:List AV}:ren f (.mp ks vs)=.mp ks vs:=rfl
theorem Yio:rens f []=[]:=rfl
theorem Ybn {c:AV} {cs:List AV}:rens f (c::cs)=ren f c::rens f cs:=rfl
end
theorem Yip {b:Ups}:Zbo b []=[]:=rfl
def Yiq (s:Site) (e:Ent) (r:Ups):Option Ent→Ups
  | some _=>r
  | none=>(s,{ e with alive:=false,cells:=[] })::r
theorem Z31 {s:Site} {e x:Ent} {r:Ups}:Yiq s e r (some x)=r:=rfl
theorem Z32 {s:Site} {e:Ent} {r:Ups}:Yiq s e r none=(s,{ e with alive:=false,cells:=[] })::r:=rfl
theorem Ybo {b:Ups} {s:Site} {e:Ent} {r:List (Site × Ent)}:Zbo b ((s,e)::r)=Yiq s e (Zbo b r) (C9 b s):=by
  rw [Zbo];cases C9 b s<;>rfl
theorem Zy3 {d g:Nat} {gs:List (Nat × Nat)} {s:Site}:H8 d gs (.up s) g=some (s,g):=rfl
def Yir (d k g:Nat):Option Nat→Option (Site × Nat)
  | some g'=>Za3 (g==0) (some (.s d k,g')) none ⟨⟩ ⟨⟩
  | none=>none
theorem Z33 {d k g g':Nat}:Yir d k g (some g')=Za3 (g==0) (some (.s d k,g')) none ⟨⟩ ⟨⟩:=rfl
theorem Z34 {d g k:Nat} {gs:List (Nat × Nat)}:H8 d gs (.r k) g=Yir d k g (gs.lookup k):=by
  rw [H8]
  cases gs.lookup k with
  | none=>rfl
  | some x =>
    have hb:(g==0)=decide (g=0):=by by_cases h2:g=0<;>simp [h2]
    simp only [Yir,Za3,hb];by_cases h:g=0<;>simp [h]
theorem Zs8 {d:Nat} {gs:List (Nat × Nat)}:E7 d gs []=[]:=rfl
def backE (f:Site→Nat→Option (Site × Nat)) (e:Ent) (r:Ups):Option (Site × Nat)→Ups
  | some p=>(p.1,{ e with g:=p.2,cells:=rens f e.cells })::r
  | none=>r
theorem Z35 {f:Site→Nat→Option (Site × Nat)} {e:Ent} {r:Ups} {s:Site} {g:Nat}:backE f e r (some (s,g))=(s,{ e with g:=g,cells:=rens f e.cells })::r:=rfl
theorem Zs9 {d:Nat} {gs:List (Nat × Nat)} {s:Site} {e:Ent} {r:A5}:E7 d gs ((s,e)::r)=backE (H8 d gs) e (E7 d gs r) (H8 d gs s e.g):=by
  rw [E7];cases H8 d gs s e.g<;>rfl
def upN (g:Nat) (s:Site):Option Ent→Option (Site × Nat)
  | some e=>Za3 (e.g==g) (some (.up s,g)) none ⟨⟩ ⟨⟩
  | none=>none
theorem Yis {g:Nat} {s:Site} {e:Ent}:upN g s (some e)=Za3 (e.g==g) (some (.up s,g)) none ⟨⟩ ⟨⟩:=rfl
theorem Ybp {es:List (Site × Ent)} {s:Site} {g:Nat}:Zbv es s g=upN g s (C9 es s):=by
  unfold Zbv upN
  cases C9 es s with
  | none=>rfl
  | some e =>
    have hb:(e.g==g)=decide (e.g=g):=by by_cases h2:e.g=g<;>simp [h2]
    simp only [Za3,hb];by_cases h:e.g=g<;>simp [h]
theorem Z36 {n m:Nat} {k:List It}:Y4 n (.blk m::k)=Za3 (m==n) (some k) (Y4 n k) ⟨⟩ ⟨⟩:=by
  rw [Y4,Zew];rfl
theorem Yit {n:Nat} {x:LCode} {k:List It}:Y4 n (.c x::k)=Y4 n k:=rfl
theorem Ybq {n:Nat} {l:List Nat} {x:LCode} {k:List It}:Y4 n (.lp l x::k)=Y4 n k:=rfl
theorem Z37 {n:Nat} {x:LCode} {k:List It}:Y4 n (.scp x::k)=Y4 n k:=rfl
theorem Yo8 {n:Nat} {x:LCode} {k:List It}:Zbm n (.c x::k)=Zbm n k:=rfl
theorem Yiu {n:Nat} {l:List Nat} {x:LCode} {k:List It}:Zbm n (.lp l x::k)=Zbm n k:=rfl
theorem Ybr {n m:Nat} {k:List It}:Zbm n (.blk m::k)=Zbm n k:=rfl
def Yiv (n:Nat) (x:LCode) (k:List It):Option LCode→Option (List It)
  | some r=>some (.c r::.scp x::k)
  | none=>Zbm n k
theorem Ybs {n:Nat} {x:LCode} {k:List It}:Zbm n (.scp x::k)=Yiv n x k (U4 x n):=by
  rw [Zbm];cases U4 x n<;>rfl
theorem Z38 {n:Nat} {x r:LCode} {k:List It}:Yiv n x k (some r)=some (.c r::.scp x::k):=rfl
theorem Z39 {n:Nat} {x:LCode} {k:List It}:Yiv n x k none=Zbm n k:=rfl
def Yiw (b:LCode) (l:Nat):Option LCode→Option LCode
  | some r=>some (.seq r b)
  | none=>U4 b l
theorem Ybt {a b:LCode} {l:Nat}:U4 (.seq a b) l=Yiw b l (U4 a l):=by
  rw [U4];cases U4 a l<;>rfl
theorem Z4a {b r:LCode} {l:Nat}:Yiw b l (some r)=some (.seq r b):=rfl
theorem Z4b {b:LCode} {l:Nat}:Yiw b l none=U4 b l:=rfl
theorem Zy4 {m l:Nat}:U4 (.label m) l=Za3 (m==l) (some .skip) none ⟨⟩ ⟨⟩:=by
  rw [U4,Zew];rfl
theorem Z4c {l:Nat}:U4 .skip l=none:=rfl
theorem Ybu {l:Nat}:U4 .ret l=none:=rfl
theorem Z4d {l n:Nat}:U4 (.exit n) l=none:=rfl
theorem Ybv {l:Nat} {o:List LOper} {p:List Nat}:U4 (.reg o p) l=none:=rfl
theorem Z4e {l:Nat} {o:List LOper} {q:List (Nat × Nat)} {p:List Nat}:U4 (.dreg o q p) l=none:=rfl
theorem Z4f {l:Nat} {c:LO} {a b:LCode}:U4 (.cond c a b) l=none:=rfl
theorem Zy5 {l n:Nat} {a:LCode}:U4 (.block n a) l=none:=rfl
theorem Z4g {l:Nat} {v:List Nat} {a:LCode}:U4 (.loop v a) l=none:=rfl
theorem Zy6 {l:Nat} {a:LCode}:U4 (.scope a) l=none:=rfl
theorem Z4h {l n:Nat}:U4 (.goto n) l=none:=rfl
theorem Yix {k:IntKind} {n:Int}:V3 (.int k n)=true:=rfl
theorem Z4i {k:IntKind} {n:Int}:K1 (.int k n)=some [.int k n]:=rfl
theorem Ybw {b:Bool}:V3 (.bool b)=true:=rfl
theorem Zy7 {b:Bool}:K1 (.bool b)=some [.bool b]:=rfl
theorem Yiy {l:List UInt8}:V3 (.str l)=true:=rfl
theorem Z4j {l:List UInt8}:K1 (.str l)=some [.str l]:=rfl
theorem Ybx  : V3 .nilp=true:=rfl
theorem Zy8  : K1 .nilp=some [.nilp]:=rfl
theorem Yby  : V3 .nils=true:=rfl
theorem Zy9  : K1 .nils=some [.nils]:=rfl
theorem Ybz  : V3 .nilf=true:=rfl
theorem Zza  : K1 .nilf=some [.nilf]:=rfl
theorem Yb0  : V3 .nili=true:=rfl
theorem Zzb  : K1 .nili=some [.nili]:=rfl
theorem Yb1  : V3 .nilm=true:=rfl
theorem Zzc  : K1 .nilm=some [.nilm]:=rfl
theorem Yiz {cs:List AV} {n:Nat}:V3 (.lst cs n)=true:=rfl
theorem Z4k {cs:List AV} {n:Nat}:K1 (.lst cs n)=some [.lst cs n]:=rfl
theorem Yo9 {cs:List AV} {n:Nat}:V3 (.fp cs n)=true:=rfl
theorem Yb2 {cs:List AV} {n:Nat}:K1 (.fp cs n)=some [.fp cs n]:=rfl
theorem Yi0 {s:Site} {g o:Nat}:V3 (.ref s g o)=true:=rfl
theorem Z4l {s:Site} {g o:Nat}:K1 (.ref s g o)=some [.ref s g o]:=rfl
theorem Yi1 {s:Site} {g o n z:Nat}:V3 (.buf s g o n z)=true:=rfl
theorem Z4m {s:Site} {g o n z:Nat}:K1 (.buf s g o n z)=some [.buf s g o n z]:=rfl
theorem Yi2 {f:Nat} {cs:List AV}:V3 (.clo f cs)=true:=rfl
theorem Z4n {f:Nat} {cs:List AV}:K1 (.clo f cs)=some [.clo f cs]:=rfl
theorem Yi3 {t:Nat} {x:AV}:V3 (.ifc t x)=true:=rfl
theorem Z4o {t:Nat} {x:AV}:K1 (.ifc t x)=some [.ifc t x]:=rfl
theorem Yi4 {s:Site} {g:Nat}:V3 (.mpr s g)=true:=rfl
theorem Z4p {s:Site} {g:Nat}:K1 (.mpr s g)=some [.mpr s g]:=rfl
theorem Z4q {cs:List AV}:K1 (.agg cs)=some cs:=rfl
theorem Zzd {ts:List (List Site × List Site)}:Zba ts []=true:=rfl
theorem Zta {ts:List (List Site × List Site)} {i j:Nat} {r:List (Nat × Nat)}:Zba ts ((i,j)::r)=(Zxs (ts.getD i ([],[])) (ts.getD j ([],[]))&&Zba ts r):=rfl
theorem Ypa {a b c d:List Site}:Zxs (a,b) (c,d)=(!(Zdv b c) && !(Zdv b d) && !(Zdv a d)):=rfl
theorem Z4r {t:List Site}:Zdv [] t=false:=rfl
theorem Z4s {s:Site} {ss t:List Site}:Zdv (s::ss) t=(t.contains s||Zdv ss t):=rfl
theorem Ypb {cs:List AV}:fix cs=Za3 (flats cs) (.ret (cs,[],[])) ((views cs).bindW (fun p=>(Zg9 p.2).bindW (fun u=>.ret (p.1,u,p.2)) ⟨⟩) ⟨⟩) ⟨⟩ ⟨⟩:=by
  unfold fix Za3
  cases flats cs<;>rfl
theorem Yb3 {cs:List AV}:Zdd (.agg cs)=Za3 (flats cs) (.ret (.agg cs,[])) ((views cs).bindW (fun p=>.ret (.agg p.1,p.2)) ⟨⟩) ⟨⟩ ⟨⟩:=by
  rw [Zdd];unfold Za3
  cases flats cs<;>rfl
attribute [go_sem] Yf9 Yhm Yga Ygb Z2w Z9n Z9o Z9p Z9q Yhn Yho Yod Yhp Yax Z3b Yhq Z3c Z3d Yhr Yay Yaz Yhs Z3e Z3f Z3g Z3h Zyu Z3i Z3j Z3k Zyv Z3l Zyw Ya0 Ya1 Z3m Ya2 Ya3 Z3n Ya4 Z3o Yht Z3p Z3q Ya5 Z3r Yhu ren_it Yoy Yo7 ren_mp Yi4 Z4p
  Ynk Yfn Z9g Yfo Yfp Z2u Zyk Ynl Ynm Z2v Yfq Ynn Yfu Yfv Yfw Yfx Yfy Z9h Yfz Z9i Z9j Yf0 Yno Ynp Yf1 Ynq Ynr Yf2 Yf3 Z9k Yf4 Z9l Yf5 Z9m Yf6 Yf7 Yf8 Z9r
  evR_t evR_k evR_g evR_f ev_t ev_k Z9s Z9t Ygc Yns Ygd Ynt Yge Z9u Ynu Ynv Ygf Z9v Z9w Z9x Zyl Z2x Zhm Zqy Z9y Zym one_eq Ynw Z2y mk_eq Ygg Ygh Ygi Ygj
  Zqz Z2z Z9z Z90 Ygk Z91 Z92 Z20 Z21 Z22 Z23 Zai.eq_1 Zai.eq_2 Zai.eq_3 Ygl Z93 Ygm Ygn Ynx Ygo Z94 Z95 Z96 Z97 Z98 Ygp Ygq Yb3 Z99 Yad Zjd Ygr Ygs Zyn Yae Z24 Ypb Zn9.eq_1 V9.eq_1 V9.eq_2 V9.eq_3 V9.eq_4 Yaa Yab Yac Yaf Z27 Yag Z28 Yny Zyr Zs4 Ygv Ygw Ynz Yn0 Ygx Ygy
  stC_eq Yn1 Z29 Yai Zoy Ygz Yg0 Yaj Yg1 Yg2 Yg3 Yg4 Yg5 Yg6 Yg7 Yg8 Yg9 Yha Yak Yn2 slR_eq slB_fp Yhb Yhc Yhd Yal Yn3 Yn4 Yhe Yn5 Yn6 faV_fp Yam Yan Yn7 iaV_fp Yn8 Yn9 Zoz Yoa Yob
  Yhf Yhg Yhh Yao Yoc Zyt Yap Yhi Yaq Yar Yas Yat Yau Z3a Yav Yhj Yaw Yhk Yhl Ya6
  Z7h Yoe Yof Yog Yoh Z7i Yhv Z7j Z3u Yoi Yoj Yok Yol Yom Yon Z7k Z7l Yhw Yhx Yhy Yhz Yh0 Yh1 Yh2 Yfr Yfs Yft Yh3 Yoo Yop Ya7 Yoq Yh4 Ya8 Ya9 Yba Yh5 Ybb Yh6 Yor un_neg Yh7 un_not
  Ybc Ybd Yh9 Yia Z3y Ybe
  X_seq Ynh X_ret X_skip X_regY X_regZ Yne Zzd Zta Ypa Z4r Z4s List.getD_cons_zero List.getD_cons_succ Ymr X_blk Yos Yni Z36 Yit Ybq X_scp Ymp Ymq Ynj Z37 Yo8 Yiu Ybr Ybs Z38 Z39 Ybt Z4a Z4b Zy4 Z4c Ybu Z4d Ybv Z4e Z4f Zy5 Z4g Zy6 Z4h Z9b Z2r X_nil Y_nil Y_op Ynf Z_nil Z_op Yng Ynb Ync Yfl Br_not Z2s Ynd Z3v Z3w Z3x Zyz Yfm Z9c Z9d Z9e Z9f params Yib Ybf Yic Ybg Yid Ybh E5 Yif Ybj Yie Ybi Zcv Z3z Z30 Zy0 Zs5 Yov ups_up ups_s ups_r refsOfs Zar Ybk Zy2 Zs7 Yig Yot You Zy1 Zs6 Yio Ybn Ybl Ybm Yow Yox Yoz Yo0 Yo1 Yo2 Yo3 Yih Yo4 Yo5 ren_fp Yii Yij Yik Yil Yim Yin Yo6 N9 flats Yix Z4i Ybw Zy7 Yiy Z4j Ybx Zy8 Yby Zy9 Ybz Zza Yb0 Zzb Yb1 Zzc Yiz Z4k Yo9 Yb2 Yi0 Z4l Yi1 Z4m Yi2 Z4n Yi3 Z4o Z4q K4 U3 leadss  Zp8 Yah Zys
  Zyo Zs2 Z25 Zyp Zs3 Z26 Zyq Zy3 Z33 Z34 Zs8 Z35 Zs9 Yip Z31 Z32 Ybo tidy Zxj Zaj Ygt Ygu P1 Yis Ybp Zcd Zoa Zce rep bytesOf
  if_true if_false Nat.add_zero Nat.zero_add and_self and_true true_and cond_true cond_false Site.s.injEq Site.r.injEq Site.up.injEq List.append_nil List.nil_append List.cons_append List.contains_nil List.contains_cons List.map_nil List.map_cons List.length_nil List.length_cons List.lookup_cons Option.map_some Option.map_none Bool.or_false Bool.false_or Bool.or_true Bool.true_or Bool.not_true Bool.not_false beq_self_eq_true List.flatMap_nil List.flatMap_cons Option.isSome_some Option.isSome_none BEq.rfl eq_self Bool.and_true Bool.true_and Bool.and_false Bool.false_and Nat.le_refl decide_true decide_false beq_true beq_false List.getElem?_cons_zero List.getElem?_cons_succ List.getElem?_nil
end Cod

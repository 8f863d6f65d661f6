/- Rules by which simp runs the abstract code. -/
import Derived.Attr
import Derived.Test.YthlnjgdoodjgoaaGreatDoorXCod5
set_option linter.unusedSimpArgs false
set_option linter.unusedVariables false
namespace Cod
open Go
section
variable {call:L6} {ρ:LO→AV} {d:Nat}
theorem Yh4 {x}:step call ρ d (.mv x)=one (ρ x):=rfl
theorem Yag {sz}:step call ρ d (.nil sz)=Zcj (.s d 0) [] 0 sz []:=rfl
theorem Z4f {c} {a} {b}:step call ρ d (.pick c a b)=Ztk (ρ c) (ρ a) (ρ b):=rfl
theorem Yah {cells}:step call ρ d (.new cells)=Zkq (.s d 0) cells:=rfl
theorem Yai {x}:step call ρ d (.box x)=boxV (.s d 0) (H5 (ρ x)):=rfl
theorem Zyc {zero} {ps}:step call ρ d (.build zero ps)=Zps (Za5 ρ ps (some zero)):=rfl
theorem Zuj {sz} {n} {zero} {ps}:step call ρ d (.bslice sz n zero ps)=Zh2 (.s d 0) n sz (Za5 ρ ps (some (rep zero n))):=rfl
theorem Yh5 {n} {a}:step call ρ d (.ld n a)=ldV n (ρ a):=rfl
theorem Yh6 {n} {a} {x}:step call ρ d (.st n a x)=stV n (ρ a) (H5 (ρ x)):=rfl
theorem Zyd {x}:step call ρ d (.nilck x)=Zjw (ρ x):=rfl
theorem Yaj {op} {x} {y}:step call ρ d (.bin op x y)=optV (H0 op (ρ x) (ρ y)):=rfl
theorem Yak {neg} {x} {y}:step call ρ d (.eqb neg x y)=optV (Ztg neg (ρ x) (ρ y)):=rfl
theorem Yal {ks} {neg} {x} {y}:step call ρ d (.eqa ks neg x y)=eqaV ks neg (ρ x) (ρ y):=rfl
theorem Yam {kd} {neg} {x} {y}:step call ρ d (.eqn kd neg x y)=eqnV kd neg (ρ x) (ρ y):=rfl
theorem Yh7 {op} {x}:step call ρ d (.un op x)=optV (Zpr op (ρ x)):=rfl
theorem Yan {k} {x}:step call ρ d (.cvi k x)=Zpt k (ρ x):=rfl
theorem Yao {x}:step call ρ d (.s2s x)=s2sV (ρ x):=rfl
theorem Yap {x}:step call ρ d (.s2b x)=s2bV (.s d 0) (ρ x):=rfl
theorem Yaq {x}:step call ρ d (.b2s x)=Zxh (ρ x):=rfl
theorem Yar {x} {lo} {hi}:step call ρ d (.sls x lo hi)=slsV (ρ x) (loV (lo.map ρ)) (hiV (Zdi none (ρ x)) (hi.map ρ)):=rfl
theorem Z4g {x}:step call ρ d (.lens x)=Ztm (ρ x):=rfl
theorem Yas {x}:step call ρ d (.b2b x)=b2bV (ρ x):=rfl
theorem Z4h {t} {x}:step call ρ d (.mkif t x)=Znv t (ρ x):=rfl
theorem Z4i {f} {cap}:step call ρ d (.mkfn f cap)=one (.clo f (cap.map ρ)):=rfl
theorem Yat {sz} {bytes} {zero} {l} {c}:step call ρ d (.mks sz bytes zero l c)=mksV (.s d 0) sz bytes zero (ρ l) (ρ c):=rfl
theorem Yh8 {sz} {arr} {x} {lo} {hi}:step call ρ d (.sl sz arr x lo hi)=slV sz arr (ρ x) (loV (lo.map ρ)) (hiV (Zdi arr (ρ x)) (hi.map ρ)):=rfl
theorem Yh9 {x} {off}:step call ρ d (.fa x off)=faV off (ρ x):=rfl
theorem Yau {x} {off} {n}:step call ρ d (.fld x off n)=Ztl off n (ρ x):=rfl
theorem Yia {sz} {arr} {x} {i}:step call ρ d (.ia sz arr x i)=iaV sz arr (ρ x) (ρ i):=rfl
theorem Yib {sz} {arr} {agg} {x} {i}:step call ρ d (.ix sz arr agg x i)=ixV sz agg arr (ρ x) (ρ i):=rfl
theorem Yav {n} {sz} {x}:step call ρ d (.s2a n sz x)=s2aV n sz (ρ x):=rfl
theorem Yaw {x} {i}:step call ρ d (.ext x i)=extV i (ρ x):=rfl
theorem Z4j {f} {args} {take}:step call ρ d (.call f args take)=Zh3 call d take (args.map ρ) (ρ f):=rfl
theorem Yax {sz} {bytes} {s} {x}:step call ρ d (.app sz bytes s x)=(S0 sz (ρ x)).bindW (fun p=>(fix p.1).bindW (fun q=>Zh4 (.s d 0) sz bytes p.2 q.1 q.2.1 q.2.2 (ρ s)) ⟨⟩) ⟨⟩:=rfl
theorem Z4k {sz} {bytes} {zero} {s} {n}:step call ρ d (.appz sz bytes zero s n)=Znw (.s d 0) sz bytes zero (ρ s) (ρ n):=rfl
theorem Yay {arr} {x}:step call ρ d (.len arr x)=Zkr arr (ρ x):=rfl
theorem Z4l {sz} {dd} {s}:step call ρ d (.copy sz dd s)=(S0 sz (ρ s)).bindW (fun p=>Ztn sz p.2 p.1 (ρ dd)) ⟨⟩:=rfl
theorem Yaz {x} {y}:step call ρ d (.min x y)=minV (ρ x) (ρ y):=rfl
theorem Ya0 {x} {y}:step call ρ d (.max x y)=maxV (ρ x) (ρ y):=rfl
theorem Ya1 {x}:step call ρ d (.cap x)=capV (ρ x):=rfl
theorem Ya2 {x}:step call ρ d (.r2s x)=r2sV (ρ x):=rfl
theorem Ya3 {x}:step call ρ d (.rng x)=rngV (.s d 0) (ρ x):=rfl
theorem Ya4 {x}:step call ρ d (.nxt x)=nxtV (ρ x):=rfl
theorem Zye:step call ρ d .mkmap=Zl2 (.s d 0) (.mp [] []) (.mpr (.s d 0)):=rfl
theorem Z4m {str zero ok m k}:step call ρ d (.mget str zero ok m k)=Zto str zero ok (ρ k) (ρ m):=rfl
theorem Z4n {str m k x}:step call ρ d (.mput str m k x)=Ztp str (Y1 (ρ x)) (ρ k) (H5 (ρ x)) (ρ m):=rfl
theorem Z4o {str m k}:step call ρ d (.mdel str m k)=Ztq str (ρ k) (ρ m):=rfl
theorem Z4p {x}:step call ρ d (.mlen x)=Ztr (ρ x):=rfl
theorem Z4q:step call ρ d (.stop)=.fail:=rfl
end
section
variable {E:Env} {sl loc:List (Nat × AV)}
theorem evR_t {n:Nat}:evR E sl loc (.t n)=P2 sl loc n:=rfl
theorem evR_k {v:AV}:evR E sl loc (.k v)=v:=rfl
theorem evR_g {n:Nat}:evR E sl loc (.g n)=Zhk (E.glob n):=rfl
theorem evR_f {n:Nat}:evR E sl loc (.f n)=.clo n []:=rfl
theorem ev_t {n:Nat}:ev E sl (.t n)=U3 sl n:=rfl
theorem ev_k {v:AV}:ev E sl (.k v)=v:=rfl
theorem Z4r {n:Nat}:V1 (some n)=n:=rfl
theorem Z4s:V1 none=0:=rfl
end
theorem Ya5 {b:Bool}:gdV (.bool b)=true:=rfl
theorem Yic:gdV .und=true:=rfl
theorem Ya6 {w b:Bool}:gdB w (.bool b)=(b==w):=rfl
theorem Yid {w:Bool}:gdB w .und=false:=rfl
theorem Ya7 {b:Bool}:isB (.bool b)=true:=rfl
theorem Z4t {k:List It}:outO (some k)=k:=rfl
theorem Yie {α:Type} {a : α} {σ:A1}:(Acc.ret a).run σ=some a:=rfl
theorem Yif {α:Type} {s:Site} {k:Option Ent→Acc α} {σ:A1}:(Acc.get s k).run σ=(k (A6 σ s)).run σ:=rfl
theorem Ya8 {α β:Type} {a : α} {f : α→Acc β}:(Acc.ret a).bind f=f a:=rfl
theorem Z4u {α:Type} {a : α} {σ:A1}:(Acc.ret a).reads σ=[]:=rfl
theorem Z4v {α:Type} {s:Site} {k:Option Ent→Acc α} {σ:A1}:(Acc.get s k).reads σ=s::(k (A6 σ s)).reads σ:=rfl
theorem Z4w {α β:Type} {s:Site} {k:Option Ent→Acc α} {f : α→Acc β} {σ:A1}:((Acc.get s k).bind f).run σ=((k (A6 σ s)).bind f).run σ:=rfl
theorem Zuk {α β:Type} {s:Site} {k:Option Ent→Acc α} {f : α→Acc β} {σ:A1}:((Acc.get s k).bind f).reads σ=s::((k (A6 σ s)).bind f).reads σ:=rfl
theorem Zok {α β γ:Type} (x:Acc α) (f : α→Acc β) (g : β→Acc γ):(x.bind f).bind g=x.bind fun a=>(f a).bind g:=by
  induction x with
  | ret a=>rfl
  | fail=>rfl
  | get s k ih=>exact congrArg (Acc.get s) (funext fun e=>ih e)
theorem Zyf {α β γ:Type} (x:Acc α) (f : α→Acc β) (g : β→Acc γ) (w:Wit g):(x.bind f).bindW g w=x.bindW (fun a=>(f a).bindW g ⟨⟩) ⟨⟩:=Zok x f g
theorem Zf3 {α β γ:Type} (x:Acc α) (f : α→Acc β) (v:Wit f) (g : β→Acc γ) (w:Wit g):(x.bindW f v).bindW g w=x.bindW (fun a=>(f a).bindW g ⟨⟩) ⟨⟩:=Zok x f g
theorem Zol {α β:Type} {a : α} {f : α→Acc β} {w:Wit f}:(Acc.ret a).bindW f w=f a:=rfl
theorem Z4x {α β:Type} {s:Site} {k:Option Ent→Acc α} {f : α→Acc β} {w:Wit f} {σ:A1}:((Acc.get s k).bindW f w).run σ=((k (A6 σ s)).bindW f ⟨⟩).run σ:=rfl
theorem Zul {α β:Type} {s:Site} {k:Option Ent→Acc α} {f : α→Acc β} {w:Wit f} {σ:A1}:((Acc.get s k).bindW f w).reads σ=s::((k (A6 σ s)).bindW f ⟨⟩).reads σ:=rfl
theorem one_eq {x:AV}:one x=.ret (x,[]):=rfl
theorem Yig {s:Site} {g:Nat}:R9 s g=.get s (Zth g):=rfl
theorem Zyg {g:Nat} {e:Ent}:Zth g (some e)=if e.alive=true∧e.g=g then .ret e else .fail:=rfl
theorem mk_eq {s:Site} {v:Bool} {cs:List AV}:mk s v cs=.get s (mkE s v cs):=rfl
theorem Ya9 {s:Site} {v:Bool} {cs:List AV} {e:Ent}:mkE s v cs (some e)=.ret (e.g+1,[(s,⟨e.g+1,true,true,v,cs⟩)]):=rfl
theorem Yba {s:Site} {v:Bool} {cs:List AV}:mkE s v cs none=.ret (0,[(s,⟨0,true,true,v,cs⟩)]):=rfl
theorem Ybb {s:Site} {cs:List AV}:Zkq s cs=(mk s true cs).bindW (fun p=>.ret (.ref s p.1 0,p.2)) ⟨⟩:=rfl
theorem Ybc {s:Site} {cs:List AV} {n sz:Nat} {u:Ups}:Zcj s cs n sz u=(mk s false cs).bindW (fun p=>.ret (.buf s p.1 0 n sz,u++p.2)) ⟨⟩:=rfl
theorem Zom {k:IntKind} {n:Int}:X2 (.int k n)=.ret (.int k n,[]):=rfl
theorem Zyh {b:Bool}:X2 (.bool b)=.ret (.bool b,[]):=rfl
theorem Z4y {l:List UInt8}:X2 (.str l)=.ret (.str l,[]):=rfl
theorem Z4z {cs:List AV} {n:Nat}:X2 (.lst cs n)=.ret (.lst cs n,[]):=rfl
theorem Ybd {cs:List AV} {n:Nat}:X2 (.fp cs n)=.ret (.fp cs n,[]):=rfl
theorem Zyi:X2 .nilp=.ret (.nilp,[]):=rfl
theorem Zyj:X2 .nilf=.ret (.nilf,[]):=rfl
theorem Zyk:X2 .nili=.ret (.nili,[]):=rfl
theorem Zyl:X2 .nilm=.ret (.nilm,[]):=rfl
theorem Z40 {f:Nat} {cs:List AV}:X2 (.clo f cs)=if flats cs=true then .ret (.clo f cs,[]) else .fail:=rfl
theorem Z41 {t:Nat} {x:AV}:X2 (.ifc t x)=if L4 x=true then .ret (.ifc t x,[]) else .fail:=rfl
theorem Ybe {k:IntKind} {n:Int}:Zb5 (.int k n)=.ret (.int k n,[]):=rfl
theorem Z42 {b:Bool}:Zb5 (.bool b)=.ret (.bool b,[]):=rfl
theorem Ybf {l:List UInt8}:Zb5 (.str l)=.ret (.str l,[]):=rfl
theorem Ybg {cs:List AV} {n:Nat}:Zb5 (.lst cs n)=.ret (.lst cs n,[]):=rfl
theorem Yih {cs:List AV} {n:Nat}:Zb5 (.fp cs n)=.ret (.fp cs n,[]):=rfl
theorem Z43:Zb5 .nils=.ret (.lst [] 0,[]):=rfl
theorem Z44:Zb5 .nilp=.ret (.nilp,[]):=rfl
theorem Z45:Zb5 .nilf=.ret (.nilf,[]):=rfl
theorem Z46:Zb5 .nili=.ret (.nili,[]):=rfl
theorem Z47:Zb5 .nilm=.ret (.nilm,[]):=rfl
theorem Ybh {t:Nat} {x:AV}:Zb5 (.ifc t x)=if L4 x=true then .ret (.ifc t x,[]) else .fail:=rfl
theorem Ybi {s:Site} {g off n z:Nat}:Zb5 (.buf s g off n z)=(R9 s g).bindW (Z86 off n z s) ⟨⟩:=rfl
theorem Ybj {s:Site} {g off:Nat}:Zb5 (.ref s g off)=(R9 s g).bindW (Z87 off s) ⟨⟩:=rfl
theorem Z48 {f:Nat}:Zb5 (.clo f [])=.ret (.clo f [],[]):=rfl
theorem Ybk {off n z:Nat} {s:Site} {e:Ent}:Z86 off n z s e=if off+n*z≤e.cells.length∧flats e.cells=true then .ret (.lst (sub e.cells off (n*z)) n,[s]) else .fail:=rfl
theorem Ybl {off:Nat} {s:Site} {e:Ent}:Z87 off s e=if flats e.cells=true then .ret (.fp e.cells off,[s]) else .fail:=rfl
theorem Zum {s:Site} {u:Ups} {e:Ent}:Zlz s u (some e)=.ret ((s,{ e with rw:=false })::u):=rfl
theorem Z49 {sz off n z:Nat} {e:Ent}:Z88 sz off n z e=if z=sz∧off+n*z≤e.cells.length then .ret (sub e.cells off (n*z),n) else .fail:=rfl
theorem Z5a {k:Nat} {l:List (Nat × Nat)} {e:Ent}:genE k l (some e)=.ret ((k,e.g+1)::l):=rfl
theorem Z5b {k:Nat} {l:List (Nat × Nat)}:genE k l none=.ret ((k,0)::l):=rfl
theorem Zun {i:Nat} {take:List Nat}:S1 i take []=.ret ([],[],[]):=rfl
theorem Zqd {i:Nat} {take:List Nat} {x:AV} {xs:List AV}:S1 i take (x::xs) =
    X7 (take.contains i) ((S1 (i+1) take xs).bindW (fun p=>.ret (x::p.1,Y0 x++p.2.1,p.2.2)) ⟨⟩)
      ((Zb5 x).bindW (fun q=>(S1 (i+1) take xs).bindW (fun p=>.ret (q.1::p.1,p.2.1,q.2++p.2.2)) ⟨⟩) ⟨⟩) ⟨⟩ ⟨⟩:=rfl
theorem Z5c:views []=.ret ([],[]):=rfl
theorem Zhs {c:AV} {cs:List AV}:views (c::cs)=(X2 c).bindW (fun p=>(views cs).bindW (fun q=>.ret (p.1::q.1,p.2++q.2)) ⟨⟩) ⟨⟩:=rfl
theorem Z5d:Zfq []=.ret []:=rfl
theorem Zym {s:Site} {ss:List Site}:Zfq (s::ss)=(Zfq ss).bindW (fun u=>.get s (Zlz s u)) ⟨⟩:=rfl
theorem Zyn {n:Nat} {seen:List Site}:Za3 (n+1) [] seen=.ret []:=rfl
theorem Zuo {n:Nat} {s:Site} {g:Nat} {r:List (Site × Nat)} {seen:List Site}:Za3 (n+1) ((s,g)::r) seen =
    X7 (seen.contains s) (Za3 n r seen)
      ((R9 s g).bindW (fun e=>(Za3 n (r++refsOfs e.cells) (s::seen)).bindW (fun u=>.ret ((s,e)::u)) ⟨⟩) ⟨⟩) ⟨⟩ ⟨⟩:=rfl
theorem Zqe {d:Nat}:R2 d []=.ret []:=rfl
theorem Zyo {d k:Nat} {e:Ent} {r:A1}:R2 d ((.r k,e)::r)=(R2 d r).bindW (fun l=>.get (.s d k) (genE k l)) ⟨⟩:=rfl
theorem Zup {d:Nat} {x:Site} {e:Ent} {r:A1}:R2 d ((.up x,e)::r)=R2 d r:=rfl
theorem Z5e {call:L6} {d f:Nat} {args:List AV} {take:List Nat}:Zbq call d f args take =
  (S1 0 take args).bindW (fun p=>(Za3 64 p.2.1 []).bindW (fun es=>Z13 d p.2.2 es (call f (rens (Zam es) p.1) (M3 es es))) ⟨⟩) ⟨⟩:=rfl
theorem Zyp {d:Nat} {ss:List Site} {es:List (Site × Ent)} {v:AV} {σ:A1}:Z13 d ss es (some (v,σ)) =
    X7 (tidy σ && !(Zl1 es ss)) ((R2 d σ).bindW (fun gs=>LetA (C1 d gs σ) (fun b=>X7 (X3 b) (Z12 ss es (ren (F9 d gs) v) b) .fail ⟨⟩ ⟨⟩) ⟨⟩) ⟨⟩) .fail ⟨⟩ ⟨⟩:=rfl
theorem Ybm {ss:List Site} {es:List (Site × Ent)} {v:AV} {b:Ups}:Z12 ss es v b =
    X7 (Q9 v||Za4 b) ((Zfq ss).bindW (fun u=>.ret (v,u++(b++Zag b es))) ⟨⟩) (.ret (v,b++Zag b es)) ⟨⟩ ⟨⟩:=rfl
theorem Ybn {σ:Ups} {s:Site}:Zti σ s=(A6 σ s).isNone:=rfl
theorem Z5f {x:AV}:optV (some x)=.ret (x,[]):=rfl
theorem Zyq {t:Bool} {a b:AV}:Ztk (.bool t) a b=.ret (bif t then a else b,[]):=rfl
theorem Yii {cs:List AV} {off n:Nat}:aggV cs off n=if off+n≤cs.length then .ret (.agg (sub cs off n),[]) else .fail:=rfl
theorem Zuq {cs:List AV}:Zps (some cs)=.ret (.agg cs,[]):=rfl
theorem Zqf {s:Site} {n sz:Nat} {cs:List AV}:Zh2 s n sz (some cs)=(fix cs).bindW (fun p=>Zcj s p.1 n sz p.2.1) ⟨⟩:=rfl
theorem Ybo {off:Nat} {e:Ent}:ldC none off e=optV e.cells[off]? := rfl
theorem Ybp {n off:Nat} {e:Ent}:ldC (some n) off e=aggV e.cells off n:=rfl
theorem Yij {cs:List AV} {off:Nat}:ldV none (.fp cs off)=optV cs[off]? := rfl
theorem Yik {cs:List AV} {off n:Nat}:ldV (some n) (.fp cs off)=aggV cs off n:=rfl
theorem Ybq {s:Site} {g off:Nat}:ldV none (.ref s g off)=(R9 s g).bindW (ldC none off) ⟨⟩:=rfl
theorem Ybr {s:Site} {g off n:Nat}:ldV (some n) (.ref s g off)=(R9 s g).bindW (ldC (some n) off) ⟨⟩:=rfl
theorem stC_eq {s:Site} {off n:Nat} {xs:List AV} {e:Ent}:stC s off n xs e =
  if e.rw=true∧xs.length=n∧off+n≤e.cells.length∧H8 xs=true then
    (bif e.var then .ret (.und,[(s,{ e with cells:=over e.cells off xs })])
     else (fix xs).bindW (fun p=>bif p.2.2.contains s then .fail else .ret (.und,p.2.1++[(s,{ e with cells:=over e.cells off p.1 })])) ⟨⟩)
  else .fail:=rfl
theorem Yil {n:Nat} {s:Site} {g off:Nat} {xs:List AV}:stV n (.ref s g off) (some xs)=(R9 s g).bindW (stC s off n xs) ⟨⟩:=rfl
theorem Z5g {s:Site} {xs:List AV}:boxV s (some xs)=Zkq s xs:=rfl
theorem Zur {cells ys:List AV} {off n:Nat}:Znu cells off n (some ys)=if ys.length=n∧off+n≤cells.length then some (over cells off ys) else none:=rfl
theorem Zyr {s:Site} {g off:Nat}:Zjw (.ref s g off)=still1 s g (.ref s g off):=rfl
theorem Z5h {cs:List AV} {off:Nat}:Zjw (.fp cs off)=.ret (.fp cs off,[]):=rfl
theorem Zmp {k k':IntKind} {n:Int}:Zpt k (.int k' n)=.ret (.int k (k.wrap n),[]):=rfl
theorem Ybs {l:List UInt8}:s2sV (.str l)=.ret (.str l,[]):=rfl
theorem Ybt {s:Site} {l:List UInt8}:s2bV s (.str l)=Zcj s (A0 l) l.length 1 []:=rfl
theorem Z5i {l:List UInt8}:strV (some l)=.ret (.str l,[]):=rfl
theorem Ybu {s:Site} {g off n z:Nat}:b2bV (.buf s g off n z)=(R9 s g).bindW (fun e=>if e.rw=true∧e.cells.isEmpty=false then .ret (.buf s g off n z,[]) else .fail) ⟨⟩:=rfl
theorem Ybv {s:Site} {sz bytes:Nat} {zero:List AV} {l c:Int}:mksV s sz bytes zero (.int .i64 l) (.int .i64 c) =
    if 0≤l∧l≤c∧bytes*c≤281474976710656∧c≤281474976710656 then Zcj s (rep zero l.toNat) l.toNat sz [] else .fail:=rfl
theorem Ybw {x:AV}:loV (some x)=x:=rfl
theorem Ybx:loV none=.int .i64 0:=rfl
theorem Yby {n:Nat} {x:AV}:hiV n (some x)=x:=rfl
theorem Ybz {n:Nat}:hiV n none=.int .i64 n:=rfl
theorem Yb0 {n:Nat} {x:AV}:Zdi (some n) x=n:=rfl
theorem Yb1 {l:List UInt8}:Zdi none (.str l)=l.length:=rfl
theorem Yb2 {cs:List AV} {n:Nat}:Zdi none (.lst cs n)=n:=rfl
theorem Yb3 {s:Site} {g off n z:Nat}:Zdi none (.buf s g off n z)=n:=rfl
theorem Z5j:Zdi none .nils=0:=rfl
theorem Yim {sz n l h:Nat} {s:Site} {g off:Nat}:slB sz (some n) (.ref s g off) l h=(R9 s g).bindW (slR sz n l h s g off) ⟨⟩:=rfl
theorem slR_eq {sz n l h:Nat} {s:Site} {g off:Nat} {e:Ent}:slR sz n l h s g off e=if off+n*sz≤e.cells.length then .ret (.buf s g (off+l*sz) (h-l) sz,[]) else .fail:=rfl
theorem slB_fp {sz n l h:Nat} {cs:List AV} {off:Nat}:slB sz (some n) (.fp cs off) l h=if off+n*sz≤cs.length then .ret (.lst (sub cs (off+l*sz) ((h-l)*sz)) (h-l),[]) else .fail:=rfl
theorem Yb4 {k k':IntKind} {l h:Int} {t:List UInt8}:slsV (.str t) (.int k l) (.int k' h)=if 0≤l∧l≤h∧h≤t.length then .ret (.str (sub t l.toNat (h.toNat-l.toNat)),[]) else .fail:=rfl
theorem Yb5 {cs:List AV} {n:Nat}:Zxh (.lst cs n)=(S0 1 (.lst cs n)).bindW (fun p=>strV (bytesOf p.1)) ⟨⟩:=rfl
theorem Yb6 {s:Site} {g o n z:Nat}:Zxh (.buf s g o n z)=(S0 1 (.buf s g o n z)).bindW (fun p=>strV (bytesOf p.1)) ⟨⟩:=rfl
theorem Z5k:Zxh .nils=.ret (.str [],[]):=rfl
theorem Yin {sz l h n:Nat} {cs:List AV}:slB sz none (.lst cs n) l h=if cs.length=n*sz then .ret (.lst (sub cs (l*sz) ((h-l)*sz)) (h-l),[]) else .fail:=rfl
theorem Yio {sz l h:Nat} {s:Site} {g off n z:Nat}:slB sz none (.buf s g off n z) l h=if z=sz then still1 s g (.buf s g (off+l*sz) (h-l) sz) else .fail:=rfl
theorem Yb7 {sz l h:Nat}:slB sz none .nils l h=.ret (.nils,[]):=rfl
theorem Yip {sz:Nat} {arr:Option Nat} {x:AV} {k k':IntKind} {l h:Int}:slV sz arr x (.int k l) (.int k' h)=if 0≤l∧l≤h∧h≤Zdi arr x then slB sz arr x l.toNat h.toNat else .fail:=rfl
theorem Yiq {off:Nat} {s:Site} {g o:Nat}:faV off (.ref s g o)=still1 s g (.ref s g (o+off)):=rfl
theorem faV_fp {off:Nat} {cs:List AV} {o:Nat}:faV off (.fp cs o)=.ret (.fp cs (o+off),[]):=rfl
theorem Z5l {off:Nat} {cs:List AV}:Ztl off none (.agg cs)=optV cs[off]? := rfl
theorem Z5m {off n:Nat} {cs:List AV}:Ztl off (some n) (.agg cs)=aggV cs off n:=rfl
theorem Yir {sz n:Nat} {s:Site} {g o:Nat} {k:IntKind} {i:Int}:iaV sz (some n) (.ref s g o) (.int k i)=if 0≤i∧i<n then still1 s g (.ref s g (o+i.toNat*sz)) else .fail:=rfl
theorem iaV_fp {sz n:Nat} {cs:List AV} {o:Nat} {k:IntKind} {i:Int}:iaV sz (some n) (.fp cs o) (.int k i)=if 0≤i∧i<n then .ret (.fp cs (o+i.toNat*sz),[]) else .fail:=rfl
theorem Yis {sz n:Nat} {cs:List AV} {k:IntKind} {i:Int}:iaV sz none (.lst cs n) (.int k i)=if 0≤i∧i<n then .ret (.fp cs (i.toNat*sz),[]) else .fail:=rfl
theorem Yit {sz:Nat} {s:Site} {g o n z:Nat} {k:IntKind} {i:Int}:iaV sz none (.buf s g o n z) (.int k i)=if 0≤i∧i<n∧z=sz then still1 s g (.ref s g (o+i.toNat*sz)) else .fail:=rfl
theorem Zmq {b:UInt8}:Z14 (some b)=.ret (.int .u8 b.toNat,[]):=rfl
theorem Yiu {sz n:Nat} {agg:Bool} {cs:List AV} {k:IntKind} {i:Int}:ixV sz agg (some n) (.agg cs) (.int k i) =
  if 0≤i∧i<n∧i.toNat*sz+sz≤cs.length then (bif agg then one (.agg (sub cs (i.toNat*sz) sz)) else optV cs[i.toNat*sz]?) else .fail:=rfl
theorem Yiv {sz:Nat} {agg:Bool} {t:List UInt8} {k:IntKind} {i:Int}:ixV sz agg none (.str t) (.int k i)=if 0≤i then Z14 t[i.toNat]? else .fail:=rfl
theorem Yb8 {n sz m:Nat} {cs:List AV}:s2aV n sz (.lst cs m)=if n≤m∧cs.length=m*sz∧0<n then .ret (.fp cs 0,[]) else .fail:=rfl
theorem Yb9 {n sz m:Nat} {s:Site} {g o z:Nat}:s2aV n sz (.buf s g o m z)=if n≤m∧z=sz∧0<n then still1 s g (.ref s g o) else .fail:=rfl
theorem Yca {i:Nat} {cs:List AV}:extV i (.tup cs)=optV cs[i]? := rfl
theorem Z5n {call:L6} {d:Nat} {take:List Nat} {args:List AV} {f:Nat} {cap:List AV}:Zh3 call d take args (.clo f cap)=Zbq call d f (args++cap) take:=rfl
theorem Yiw {t:Site} {sz bytes m:Nat} {vs:List AV} {u:Ups} {ss:List Site} {s:Site} {o n z:Nat} {e:Ent}:appB t sz bytes m vs u ss s o n z e =
  if e.rw=true∧e.var=false∧z=sz∧o+n*sz≤e.cells.length∧(n+m)*bytes≤O6∧ss.contains s=false∧H8 vs=true then
    Zcj t (sub e.cells o (n*sz)++vs) (n+m) sz (Zdj s t u e)
  else .fail:=rfl
theorem Zus {s t:Site} {u:Ups} {e:Ent}:Zdj s t u e=bif decide (s=t) then u else u++[(s,{ e with alive:=false,cells:=[] })]:=rfl
theorem Z5o {t:Site} {sz bytes m:Nat} {vs:List AV} {u:Ups} {ss:List Site}:Zh4 t sz bytes m vs u ss .nils=if m*bytes≤O6 then Zcj t vs m sz u else .fail:=rfl
theorem Ycb {t:Site} {sz bytes m:Nat} {vs:List AV} {u:Ups} {ss:List Site} {s:Site} {g o n z:Nat}:Zh4 t sz bytes m vs u ss (.buf s g o n z)=(R9 s g).bindW (appB t sz bytes m vs u ss s o n z) ⟨⟩:=rfl
theorem Z5p {t:Site} {sz bytes:Nat} {zero:List AV} {s:AV} {m:Int}:Znw t sz bytes zero s (.int .i64 m)=if 0≤m∧m≤O6 then Zh4 t sz bytes m.toNat (rep zero m.toNat) [] [] s else .fail:=rfl
theorem Z5q {n:Nat} {x:AV}:Zkr (some n) x=.ret (.int .i64 n,[]):=rfl
theorem Z5r {l:List UInt8}:Ztm (.str l)=.ret (.int .i64 l.length,[]):=rfl
theorem Z5s {cs:List AV} {n:Nat}:Zkr none (.lst cs n)=.ret (.int .i64 n,[]):=rfl
theorem Z5t {s:Site} {g off n z:Nat}:Zkr none (.buf s g off n z)=still1 s g (.int .i64 n):=rfl
theorem Z5u {s:Site} {g:Nat} {x:AV}:still1 s g x=(R9 s g).bindW (fun _=>.ret (x,[])) ⟨⟩:=rfl
theorem Zys:Zkr none .nils=.ret (.int .i64 0,[]):=rfl
theorem Ycc {sz m:Nat} {ys:List AV} {s:Site} {o n z:Nat} {e:Ent}:Z15 sz m ys s o n z e =
  if e.rw=true∧z=sz∧o+n*sz≤e.cells.length∧flats ys=true then
    .ret (.int .i64 (Nat.min m n),[(s,{ e with cells:=over e.cells o (ys.take (Nat.min m n*sz)) })])
  else .fail:=rfl
theorem Z5v {sz m:Nat} {ys:List AV} {s:Site} {g o n z:Nat}:Ztn sz m ys (.buf s g o n z)=(R9 s g).bindW (Z15 sz m ys s o n z) ⟨⟩:=rfl
theorem Ycd {k:IntKind} {a b:Int}:minV (.int k a) (.int k b)=.ret (.int k (if b<a then b else a),[]):=by simp [minV,one]
theorem Yce {k:IntKind} {a b:Int}:maxV (.int k a) (.int k b)=.ret (.int k (if a<b then b else a),[]):=by simp [maxV,one]
theorem Ycf {k:IntKind} {n:Int}:r2sV (.int k n)=.ret (.str (Zal n),[]):=rfl
theorem Ycg {s:Site} {c:AV} {f:Nat→AV}:Zl2 s c f=(mk s true [c]).bindW (fun p=>.ret (f p.1,p.2)) ⟨⟩:=rfl
theorem Ych {s:Site} {l:List UInt8}:rngV s (.str l)=Zl2 s (.itr l 0) (.it s):=rfl
theorem Yix {s:Site} {g:Nat}:nxtV (.it s g)=(R9 s g).bindW (nxtC s) ⟨⟩:=rfl
theorem Yci {s:Site} {g:Nat} {al rw var:Bool} {l:List UInt8} {p:Nat}:nxtC s ⟨g,al,rw,var,[.itr l p]⟩ =
  if rw=true then (if p<l.length then .ret (.tup [.bool true,.int .i64 p,.int .i32 (Zak l p).1],[(s,⟨g,al,rw,var,[.itr l (p+(Zak l p).2)]⟩)]) else .ret (.tup [.bool false],[])) else .fail:=rfl
theorem Z5w {str:Bool} {zero:AV} {ok:Bool} {k:AV} {s:Site} {g:Nat}:Zto str zero ok k (.mpr s g)=(R9 s g).bindW (Z16 str zero ok k) ⟨⟩:=rfl
theorem Zyt {str:Bool} {zero:AV} {ok:Bool} {k:AV}:Zto str zero ok k .nilm=.ret (okV ok false zero,[]):=rfl
theorem Ycj {str:Bool} {zero:AV} {ok:Bool} {k:AV} {g:Nat} {al rw var:Bool} {ks vs:List AV}:Z16 str zero ok k ⟨g,al,rw,var,[.mp ks vs]⟩=Znx zero ok vs (Zae str k ks 0):=rfl
theorem Zyu {zero:AV} {ok:Bool} {vs:List AV} {i:Nat}:Znx zero ok vs (some (some i))=optV ((vs[i]?).map (okV ok true)):=rfl
theorem Zyv {zero:AV} {ok:Bool} {vs:List AV}:Znx zero ok vs (some none)=.ret (okV ok false zero,[]):=rfl
theorem Yck {b:Bool} {v:AV}:okV true b v=.tup [v,.bool b]:=rfl
theorem Z5x {b:Bool} {v:AV}:okV false b v=v:=rfl
theorem Z5y {str agg:Bool} {k:AV} {xs:List AV} {s:Site} {g:Nat}:Ztp str agg k (some xs) (.mpr s g)=(fix xs).bindW (fun p=>(R9 s g).bindW (Z17 str s k (Zhi agg p.1) p.2.1 p.2.2) ⟨⟩) ⟨⟩:=rfl
theorem Ycl {str:Bool} {s:Site} {k y:AV} {u:Ups} {ss:List Site} {g:Nat} {al rw var:Bool} {ks vs:List AV}:Z17 str s k y u ss ⟨g,al,rw,var,[.mp ks vs]⟩ =
  if rw=true∧Zdw k=true∧Zdw y=true∧ss.contains s=false then Zny s k y u ⟨g,al,rw,var,[.mp ks vs]⟩ ks vs (Zae str k ks 0) else .fail:=rfl
theorem Zyw {s:Site} {k y:AV} {u:Ups} {e:Ent} {ks vs:List AV} {i:Nat}:Zny s k y u e ks vs (some (some i))=.ret (.und,u++[(s,{ e with cells:=[.mp (ks.set i k) (vs.set i y)] })]):=rfl
theorem Zyx {s:Site} {k y:AV} {u:Ups} {e:Ent} {ks vs:List AV}:Zny s k y u e ks vs (some none)=.ret (.und,u++[(s,{ e with cells:=[.mp (ks++[k]) (vs++[y])] })]):=rfl
theorem Zyy {cs:List AV}:Y1 (.agg cs)=true:=rfl
theorem Zyz {k:IntKind} {n:Int}:Y1 (.int k n)=false:=rfl
theorem Zut {b:Bool}:Y1 (.bool b)=false:=rfl
theorem Zy0 {l:List UInt8}:Y1 (.str l)=false:=rfl
theorem Zy1 {s:Site} {g o n z:Nat}:Y1 (.buf s g o n z)=false:=rfl
theorem Zy2 {cs:List AV} {n:Nat}:Y1 (.lst cs n)=false:=rfl
theorem Zuu:Y1 .nils=false:=rfl
theorem Zy3 {ys:List AV}:Zhi true ys=.agg ys:=rfl
theorem Zuv {y:AV}:Zhi false [y]=y:=rfl
theorem Z5z {cs:List AV}:Zdw (.agg cs)=flats cs:=rfl
theorem Z50 {k:IntKind} {n:Int}:Zdw (.int k n)=true:=rfl
theorem Zy4 {b:Bool}:Zdw (.bool b)=true:=rfl
theorem Z51 {l:List UInt8}:Zdw (.str l)=true:=rfl
theorem Z52 {cs:List AV} {n:Nat}:Zdw (.lst cs n)=true:=rfl
theorem Zy5:Zdw .nils=true:=rfl
theorem Z53 {str:Bool} {k:AV} {s:Site} {g:Nat}:Ztq str k (.mpr s g)=(R9 s g).bindW (Z18 str s k) ⟨⟩:=rfl
theorem Zy6 {str:Bool} {k:AV}:Ztq str k .nilm=.ret (.tup [],[]):=rfl
theorem Ycm {str:Bool} {s:Site} {k:AV} {g:Nat} {al rw var:Bool} {ks vs:List AV}:Z18 str s k ⟨g,al,rw,var,[.mp ks vs]⟩ =
  if rw=true then Znz s ⟨g,al,rw,var,[.mp ks vs]⟩ ks vs (Zae str k ks 0) else .fail:=rfl
theorem Zy7 {s:Site} {e:Ent} {ks vs:List AV} {i:Nat}:Znz s e ks vs (some (some i))=.ret (.tup [],[(s,{ e with cells:=[.mp (ks.eraseIdx i) (vs.eraseIdx i)] })]):=rfl
theorem Zy8 {s:Site} {e:Ent} {ks vs:List AV}:Znz s e ks vs (some none)=.ret (.tup [],[]):=rfl
theorem Z54 {s:Site} {g:Nat}:Ztr (.mpr s g)=(R9 s g).bindW Z19 ⟨⟩:=rfl
theorem Zy9:Ztr .nilm=.ret (.int .i64 0,[]):=rfl
theorem Ycn {g:Nat} {al rw var:Bool} {ks vs:List AV}:Z19 ⟨g,al,rw,var,[.mp ks vs]⟩=.ret (.int .i64 ks.length,[]):=rfl
theorem Z55:capV .nils=.ret (.int .i64 0,[]):=rfl
section
variable {k:IntKind} {a b:Int}
def Zza (k:IntKind) (a b:Int):Int:=k.wrap (BitVec.ofInt k.bits a &&& BitVec.ofInt k.bits b).toNat
def ior (k:IntKind) (a b:Int):Int:=k.wrap (BitVec.ofInt k.bits a ||| BitVec.ofInt k.bits b).toNat
def ixor (k:IntKind) (a b:Int):Int:=k.wrap (BitVec.ofInt k.bits a ^^^ BitVec.ofInt k.bits b).toNat
def iandn (k:IntKind) (a b:Int):Int:=k.wrap (BitVec.ofInt k.bits a &&& ~~~ BitVec.ofInt k.bits b).toNat
def inot (k:IntKind) (n:Int):Int:=k.wrap (BitVec.ofInt k.bits (if k.signed then -1 else k.max) ^^^ BitVec.ofInt k.bits n).toNat
def Zzb (k:IntKind) (a b:Int):Int:=k.wrap (a*2^(Nat.min b.toNat k.bits))
def Zuw (k:IntKind) (a b:Int):Int:=a.fdiv (2^(Nat.min b.toNat k.bits))
theorem Z2u:H0 .add (.int k a) (.int k b)=some (.int k (k.wrap (a+b))):=by simp [H0,V0]
theorem Yiy:H0 .sub (.int k a) (.int k b)=some (.int k (k.wrap (a-b))):=by simp [H0,V0]
theorem Yiz:H0 .mul (.int k a) (.int k b)=some (.int k (k.wrap (a*b))):=by simp [H0,V0]
theorem Yi0:H0 .quo (.int k a) (.int k b)=if b=0 then none else some (.int k (k.wrap (a.tdiv b))):=by simp [H0,V0]
theorem Yi1:H0 .rem (.int k a) (.int k b)=if b=0 then none else some (.int k (a.tmod b)):=by simp [H0,V0]
theorem Z2v:H0 .and (.int k a) (.int k b)=some (.int k (Zza k a b)):=by simp [H0,V0,Zza]
theorem Yco:H0 .or (.int k a) (.int k b)=some (.int k (ior k a b)):=by simp [H0,V0,ior]
theorem Z2w:H0 .xor (.int k a) (.int k b)=some (.int k (ixor k a b)):=by simp [H0,V0,ixor]
theorem Zzc:H0 .andNot (.int k a) (.int k b)=some (.int k (iandn k a b)):=by simp [H0,V0,iandn]
theorem Yi2:H0 .eql (.int k a) (.int k b)=some (.bool (a==b)):=by simp [H0,V0]
theorem Yi3:H0 .neq (.int k a) (.int k b)=some (.bool (a != b)):=by simp [H0,V0]
theorem Yi4:H0 .lss (.int k a) (.int k b)=some (.bool (decide (a<b))):=by simp [H0,V0]
theorem Yi5:H0 .leq (.int k a) (.int k b)=some (.bool (decide (a≤b))):=by simp [H0,V0]
theorem Yi6:H0 .gtr (.int k a) (.int k b)=some (.bool (decide (b<a))):=by simp [H0,V0]
theorem Yi7:H0 .geq (.int k a) (.int k b)=some (.bool (decide (b≤a))):=by simp [H0,V0]
theorem Z2x {k':IntKind} (h:0≤b):H0 .shl (.int k a) (.int k' b)=some (.int k (Zzb k a b)):=by
  have:¬ b<0:=by omega
  simp [H0,Zfp,Zzb,this]
theorem Z2y {k':IntKind} (h:0≤b):H0 .shr (.int k a) (.int k' b)=some (.int k (Zuw k a b)):=by
  have:¬ b<0:=by omega
  simp [H0,Zfp,Zuw,this]
end
section
variable {x y:List UInt8}
theorem Ycp:H0 .add (.str x) (.str y)=if x.length+y.length≤9223372036854775807 then some (.str (x++y)) else none:=rfl
theorem Ycq:H0 .eql (.str x) (.str y)=some (.bool (x==y)):=rfl
theorem Ycr:H0 .neq (.str x) (.str y)=some (.bool (!(x==y))):=rfl
theorem Ycs:H0 .lss (.str x) (.str y)=some (.bool (Op.bytesLess x y)):=rfl
theorem Yct:H0 .leq (.str x) (.str y)=some (.bool (Op.bytesLess x y||x==y)):=rfl
theorem Ycu:H0 .gtr (.str x) (.str y)=some (.bool (!(Op.bytesLess x y||x==y))):=rfl
theorem Ycv:H0 .geq (.str x) (.str y)=some (.bool (!(Op.bytesLess x y))):=rfl
end
theorem Ycw {neg a b:Bool}:Ztg neg (.bool a) (.bool b)=some (.bool (bif neg then !(a==b) else a==b)):=rfl
theorem Yi8 {ks:List Nat} {neg:Bool} {a b:List AV}:eqaV ks neg (.agg a) (.agg b)=optV ((H6 ks a b).map fun e=>.bool (bif neg then !e else e)):=rfl
theorem Yi9 {kd:Nat} {neg:Bool} {x y:AV}:eqnV kd neg x y=(Zfk kd x).bindW (fun a=>(Zfk kd y).bindW (fun b=>eqnB neg a b) ⟨⟩) ⟨⟩:=rfl
theorem Z56:Zfk 0 .nilp=.ret true:=rfl
theorem Yja {cs:List AV} {o:Nat}:Zfk 0 (.fp cs o)=.ret false:=rfl
theorem Ycx {s:Site} {g o:Nat}:Zfk 0 (.ref s g o)=(R9 s g).bindW (fun _=>.ret false) ⟨⟩:=rfl
theorem Z57:Zfk 1 .nils=.ret true:=rfl
theorem Z58:Zfk 2 .nilm=.ret true:=rfl
theorem Z59:Zfk 3 .nilf=.ret true:=rfl
theorem Ycy {f:Nat} {cs:List AV}:Zfk 3 (.clo f cs)=.ret false:=rfl
theorem Z6a:Zfk 4 .nili=.ret true:=rfl
theorem Ycz {t:Nat} {x:AV}:Zfk 4 (.ifc t x)=.ret false:=rfl
theorem Yjb {neg a b:Bool}:eqnB neg a b=bif a||b then .ret (.bool (bif neg then !(a&&b) else a&&b),[]) else .fail:=rfl
theorem un_neg {k:IntKind} {n:Int}:Zpr .neg (.int k n)=some (.int k (k.wrap (0-n))):=rfl
theorem Yc0 {k:IntKind} {n:Int}:Zpr .xor (.int k n)=some (.int k (inot k n)):=rfl
theorem un_not {b:Bool}:Zpr .not (.bool b)=some (.bool (!b)):=rfl
def Zux {α β:Type} (x:Option α) (f : α→Option β) (_:Wit f):Option β:=x.bind f
theorem Zzd {α β:Type} {x : α} {f : α→Option β} {w:Wit f}:Zux (some x) f w=f x:=rfl
theorem Z6b {res:List LRes} {sl:List (Nat × AV)} {σ:A1}:Zdk res ⟨sl,σ⟩=Zux (Zch ⟨sl,σ⟩ res) (fun vs=>LetA (L9 σ 64 (ups σ++refsOfs vs) []) (fun acc=>some (Zpu (rens (N2 Site.r 0 acc) vs),V2 σ (N2 Site.r 0 acc) acc)) ⟨⟩) ⟨⟩:=by
  unfold Zdk Zux LetA
  cases Zch ⟨sl,σ⟩ res<;>rfl
def Yc1 {α:Type} (x:Option α) (y:Option (List α)):Option (List α):=match x,y with|some v,some vs=>some (v::vs)|_,_=>none
theorem Zze {α:Type} {v : α} {vs:List α}:Yc1 (some v) (some vs)=some (v::vs):=rfl
theorem Zzf {st:St}:Zch st []=some []:=rfl
theorem Zuy {st:St} {r:LRes} {rs:List LRes}:Zch st (r::rs)=Yc1 (Zks st r) (Zch st rs):=by
  unfold Yc1;rw [Zch];cases Zks st r<;>cases Zch st rs<;>rfl
theorem Z6c {st:St} {t:Nat}:Zks st (.tmp t)=some (U3 st.sl t):=rfl
theorem Yc2 {v:AV}:Zpu [v]=v:=rfl
theorem Yc3 {v w:AV}:Zpu [v,w]=.tup [v,w]:=rfl
theorem Zzg {v w x:AV}:Zpu [v,w,x]=.tup [v,w,x]:=rfl
theorem Z6d {v w x y:AV}:Zpu [v,w,x,y]=.tup [v,w,x,y]:=rfl
theorem Yjc {E:Env} {fn:List LRes} {k:List It} {st:St} {l:List Nat} {x:LCode}:X E fn (.c (.loop l x)::k) st=X E fn (.lp l x::k) st:=by rw [X_loop,X_lp]
theorem Yc4 {sl:List (Nat × AV)} {n:Nat}:P2 sl [] n=U3 sl n:=rfl
theorem Z6e {sl:List (Nat × AV)} {k n:Nat} {v:AV} {r:List (Nat × AV)}:P2 sl ((k,v)::r) n=X7 (k==n) v (P2 sl r n) ⟨⟩ ⟨⟩:=by
  rw [P2,Zdo];rfl
theorem Yc5 {n:Nat}:U3 [] n=.junk:=rfl
theorem Z6f {k n:Nat} {v:AV} {r:List (Nat × AV)}:U3 ((k,v)::r) n=X7 (k==n) v (U3 r n) ⟨⟩ ⟨⟩:=by
  rw [U3,Zdo];rfl
theorem Yc6 {n:Nat} {v:AV}:Zle [] n v=[(n,v)]:=rfl
theorem Z6g {k n:Nat} {u v:AV} {r:List (Nat × AV)}:Zle ((k,u)::r) n v=X7 (k==n) ((n,v)::r) ((k,u)::Zle r n v) ⟨⟩ ⟨⟩:=by
  rw [Zle,Zdo];rfl
theorem Yc7 {s:Site}:A6 [] s=none:=rfl
theorem Zdd {t s:Site} {e:Ent} {σ:A1}:A6 ((t,e) :: σ) s=X7 (decide (t=s)) (some e) (A6 σ s) ⟨⟩ ⟨⟩:=by
  rw [A6,Zdo]
theorem Zuz {s:Site} {e:Ent}:G6 [] s e=[(s,e)]:=rfl
theorem Z6h {t s:Site} {e e':Ent} {σ:A1}:G6 ((t,e') :: σ) s e=X7 (decide (t=s)) ((s,e) :: σ) ((t,e')::G6 σ s e) ⟨⟩ ⟨⟩:=by
  rw [G6,Zdo]
def Z2z (σ:A1) (n:Nat) (r acc:List (Site × Nat)) (s:Site) (g:Nat):Option Ent→List (Site × Nat)
  | some e=>X7 (e.alive&&e.g==g) (L9 σ n (r++refsOfs e.cells) (acc++[(s,g)])) (L9 σ n r acc) ⟨⟩ ⟨⟩
  | none=>L9 σ n r acc
theorem Zzh {σ:A1} {n:Nat} {r acc:List (Site × Nat)} {s:Site} {g:Nat} {e:Ent}:Z2z σ n r acc s g (some e)=X7 (e.alive&&e.g==g) (L9 σ n (r++refsOfs e.cells) (acc++[(s,g)])) (L9 σ n r acc) ⟨⟩ ⟨⟩:=rfl
theorem Zzi {σ:A1} {n:Nat} {r acc:List (Site × Nat)} {s:Site} {g:Nat}:Z2z σ n r acc s g none=L9 σ n r acc:=rfl
theorem Zu0 {σ:A1} {n:Nat} {acc:List (Site × Nat)}:L9 σ (n+1) [] acc=acc:=rfl
theorem Zqg {σ:A1} {n:Nat} {s:Site} {g:Nat} {r acc:List (Site × Nat)}:L9 σ (n+1) ((s,g)::r) acc=X7 (acc.contains (s,g)) (L9 σ n r acc) (Z2z σ n r acc s g (A6 σ s)) ⟨⟩ ⟨⟩:=by
  rw [L9]
  unfold X7
  cases acc.contains (s,g) with
  | true=>simp
  | false =>
    simp only [Bool.false_eq_true,if_false,cond_false]
    cases A6 σ s with
    | none=>rfl
    | some e =>
      simp only [Z2z,X7]
      have hb:(e.g==g)=decide (e.g=g):=by by_cases h2:e.g=g<;>simp [h2]
      rw [hb]
      by_cases h1:e.alive=true<;>by_cases h2:e.g=g<;>simp [h1,h2]
def Zmr (b:Site) (g:Nat):Site→Site × Nat
  | .up x=>(.up x,g)
  | _=>(b,0)
theorem Yc8 {b x:Site} {g:Nat}:Zmr b g (.up x)=(.up x,g):=rfl
theorem Yjd {b:Site} {g n k:Nat}:Zmr b g (.s n k)=(b,0):=rfl
theorem Yje {b:Site} {g k:Nat}:Zmr b g (.r k)=(b,0):=rfl
theorem Zu1 {base:Nat→Site} {j g:Nat} {s:Site}:N2 base j [] s g=none:=rfl
theorem Zqh {base:Nat→Site} {j g g':Nat} {s s':Site} {r:List (Site × Nat)}:N2 base j ((s',g')::r) s g=X7 (decide (s'=s)&&g' == g) (some (Zmr (base j) g s)) (N2 base (j+1) r s g) ⟨⟩ ⟨⟩:=by
  have hb:(g' == g)=decide (g'=g):=by by_cases h2:g'=g<;>simp [h2]
  unfold X7
  rw [hb]
  by_cases h1:s'=s
  · by_cases h2:g'=g
    · cases s<;>simp [N2,Zmr,h1,h2]
    · cases s<;>simp [N2,Zmr,h1,h2]
  · cases s<;>simp [N2,Zmr,h1]
theorem Yjf:ups []=[]:=rfl
theorem ups_up {s:Site} {e:Ent} {r:A1}:ups ((.up s,e)::r)=X7 e.alive ((.up s,e.g)::ups r) (ups r) ⟨⟩ ⟨⟩:=by
  rw [ups];unfold X7;cases e.alive<;>rfl
theorem ups_s {n k:Nat} {e:Ent} {r:A1}:ups ((.s n k,e)::r)=ups r:=rfl
theorem ups_r {k:Nat} {e:Ent} {r:A1}:ups ((.r k,e)::r)=ups r:=rfl
def renE (f:Site→Nat→Option (Site × Nat)) (x:Option Ent) (y:Option (Site × Nat)) (r:A1):A1:=match x,y with
  | some e,some (s',g')=>(s',{ e with g:=g',cells:=rens f e.cells })::r
  | _,_=>r
theorem Z6i {f:Site→Nat→Option (Site × Nat)} {e:Ent} {s:Site} {g:Nat} {r:A1}:renE f (some e) (some (s,g)) r=(s,{ e with g:=g,cells:=rens f e.cells })::r:=rfl
theorem Zu2 {σ:A1} {f:Site→Nat→Option (Site × Nat)}:V2 σ f []=[]:=rfl
theorem Zqi {σ:A1} {f:Site→Nat→Option (Site × Nat)} {s:Site} {g:Nat} {r:List (Site × Nat)}:V2 σ f ((s,g)::r)=renE f (A6 σ s) (f s g) (V2 σ f r):=by
  rw [V2];unfold renE
  cases A6 σ s<;>cases f s g<;>rfl
def Zns (x:Option (Site × Nat)) (k:Site × Nat→AV):AV:=match x with|some p=>k p|none=>.junk
theorem Z6j {s:Site} {g:Nat} {k:Site × Nat→AV}:Zns (some (s,g)) k=k (s,g):=rfl
theorem Z6k {k:Site × Nat→AV}:Zns none k=.junk:=rfl
theorem Yjg {f:Site→Nat→Option (Site × Nat)} {s:Site} {g o:Nat}:ren f (.ref s g o)=Zns (f s g) (fun p=>.ref p.1 p.2 o):=by
  rw [ren];unfold Zns;cases f s g<;>rfl
theorem Yjh {f:Site→Nat→Option (Site × Nat)} {s:Site} {g o n z:Nat}:ren f (.buf s g o n z)=Zns (f s g) (fun p=>.buf p.1 p.2 o n z):=by
  rw [ren];unfold Zns;cases f s g<;>rfl
theorem ren_it {f:Site→Nat→Option (Site × Nat)} {s:Site} {g:Nat}:ren f (.it s g)=Zns (f s g) (fun p=>.it p.1 p.2):=by
  rw [ren];unfold Zns;cases f s g<;>rfl
theorem Yji {f:Site→Nat→Option (Site × Nat)} {s:Site} {g:Nat}:ren f (.mpr s g)=Zns (f s g) (fun p=>.mpr p.1 p.2):=by
  rw [ren];unfold Zns;cases f s g<;>rfl
theorem Yjj {f:Site→Nat→Option (Site × Nat)} {cs:List AV}:ren f (.agg cs)=.agg (rens f cs):=by rw [ren]
theorem Yjk {f:Site→Nat→Option (Site × Nat)} {cs:List AV}:ren f (.tup cs)=.tup (rens f cs):=by rw [ren]
theorem Yjl {f:Site→Nat→Option (Site × Nat)} {g:Nat} {cs:List AV}:ren f (.clo g cs)=.clo g (rens f cs):=by rw [ren]
theorem Yjm {f:Site→Nat→Option (Site × Nat)} {t:Nat} {x:AV}:ren f (.ifc t x)=.ifc t (ren f x):=by rw [ren]
section
variable {f:Site→Nat→Option (Site × Nat)}
theorem Yjn {k:IntKind} {n:Int}:ren f (.int k n)=.int k n:=rfl
theorem Yc9 {b:Bool}:ren f (.bool b)=.bool b:=rfl
theorem Yjo {l:List UInt8}:ren f (.str l)=.str l:=rfl
theorem Yjp {cs:List AV} {n:Nat}:ren f (.lst cs n)=.lst cs n:=rfl
theorem ren_fp {cs:List AV} {n:Nat}:ren f (.fp cs n)=.fp cs n:=rfl
theorem Yda:ren f .nilp=.nilp:=rfl
theorem Ydb:ren f .nils=.nils:=rfl
theorem Ydc:ren f .nilf=.nilf:=rfl
theorem Ydd:ren f .nili=.nili:=rfl
theorem Yde:ren f .nilm=.nilm:=rfl
theorem Ydf:ren f .junk=.junk:=rfl
theorem Yjq:ren f .und=.und:=rfl
theorem Yjr {l:List UInt8} {p:Nat}:ren f (.itr l p)=.itr l p:=rfl
theorem ren_mp {ks vs:List AV}:ren f (.mp ks vs)=.mp ks vs:=rfl
theorem Ydg:rens f []=[]:=rfl
theorem Z6l {c:AV} {cs:List AV}:rens f (c::cs)=ren f c::rens f cs:=rfl
end
theorem Ydh {b:Ups}:Zag b []=[]:=rfl
def Ydi (s:Site) (e:Ent) (r:Ups):Option Ent→Ups
  | some _=>r
  | none=>(s,{ e with alive:=false,cells:=[] })::r
theorem Zzj {s:Site} {e x:Ent} {r:Ups}:Ydi s e r (some x)=r:=rfl
theorem Zzk {s:Site} {e:Ent} {r:Ups}:Ydi s e r none=(s,{ e with alive:=false,cells:=[] })::r:=rfl
theorem Z6m {b:Ups} {s:Site} {e:Ent} {r:List (Site × Ent)}:Zag b ((s,e)::r)=Ydi s e (Zag b r) (A6 b s):=by
  rw [Zag];cases A6 b s<;>rfl
theorem Zu3 {d g:Nat} {gs:List (Nat × Nat)} {s:Site}:F9 d gs (.up s) g=some (s,g):=rfl
def Ydj (d k g:Nat):Option Nat→Option (Site × Nat)
  | some g'=>X7 (g==0) (some (.s d k,g')) none ⟨⟩ ⟨⟩
  | none=>none
theorem Zzl {d k g g':Nat}:Ydj d k g (some g')=X7 (g==0) (some (.s d k,g')) none ⟨⟩ ⟨⟩:=rfl
theorem Zzm {d g k:Nat} {gs:List (Nat × Nat)}:F9 d gs (.r k) g=Ydj d k g (gs.lookup k):=by
  rw [F9]
  cases gs.lookup k with
  | none=>rfl
  | some x =>
    have hb:(g==0)=decide (g=0):=by by_cases h2:g=0<;>simp [h2]
    simp only [Ydj,X7,hb];by_cases h:g=0<;>simp [h]
theorem Zqj {d:Nat} {gs:List (Nat × Nat)}:C1 d gs []=[]:=rfl
def backE (f:Site→Nat→Option (Site × Nat)) (e:Ent) (r:Ups):Option (Site × Nat)→Ups
  | some p=>(p.1,{ e with g:=p.2,cells:=rens f e.cells })::r
  | none=>r
theorem Zzn {f:Site→Nat→Option (Site × Nat)} {e:Ent} {r:Ups} {s:Site} {g:Nat}:backE f e r (some (s,g))=(s,{ e with g:=g,cells:=rens f e.cells })::r:=rfl
theorem Zqk {d:Nat} {gs:List (Nat × Nat)} {s:Site} {e:Ent} {r:A1}:C1 d gs ((s,e)::r)=backE (F9 d gs) e (C1 d gs r) (F9 d gs s e.g):=by
  rw [C1];cases F9 d gs s e.g<;>rfl
def upN (g:Nat) (s:Site):Option Ent→Option (Site × Nat)
  | some e=>X7 (e.g==g) (some (.up s,g)) none ⟨⟩ ⟨⟩
  | none=>none
theorem Ydk {g:Nat} {s:Site} {e:Ent}:upN g s (some e)=X7 (e.g==g) (some (.up s,g)) none ⟨⟩ ⟨⟩:=rfl
theorem Z6n {es:List (Site × Ent)} {s:Site} {g:Nat}:Zam es s g=upN g s (A6 es s):=by
  unfold Zam upN
  cases A6 es s with
  | none=>rfl
  | some e =>
    have hb:(e.g==g)=decide (e.g=g):=by by_cases h2:e.g=g<;>simp [h2]
    simp only [X7,hb];by_cases h:e.g=g<;>simp [h]
theorem Zzo {n m:Nat} {k:List It}:T8 n (.blk m::k)=X7 (m==n) (some k) (T8 n k) ⟨⟩ ⟨⟩:=by
  rw [T8,Zdo];rfl
theorem Ydl {n:Nat} {x:LCode} {k:List It}:T8 n (.c x::k)=T8 n k:=rfl
theorem Z6o {n:Nat} {l:List Nat} {x:LCode} {k:List It}:T8 n (.lp l x::k)=T8 n k:=rfl
theorem Zzp {n:Nat} {x:LCode} {k:List It}:T8 n (.scp x::k)=T8 n k:=rfl
theorem Yjs {n:Nat} {x:LCode} {k:List It}:Zaf n (.c x::k)=Zaf n k:=rfl
theorem Ydm {n:Nat} {l:List Nat} {x:LCode} {k:List It}:Zaf n (.lp l x::k)=Zaf n k:=rfl
theorem Z6p {n m:Nat} {k:List It}:Zaf n (.blk m::k)=Zaf n k:=rfl
def Ydn (n:Nat) (x:LCode) (k:List It):Option LCode→Option (List It)
  | some r=>some (.c r::.scp x::k)
  | none=>Zaf n k
theorem Z6q {n:Nat} {x:LCode} {k:List It}:Zaf n (.scp x::k)=Ydn n x k (R0 x n):=by
  rw [Zaf];cases R0 x n<;>rfl
theorem Zzq {n:Nat} {x r:LCode} {k:List It}:Ydn n x k (some r)=some (.c r::.scp x::k):=rfl
theorem Zzr {n:Nat} {x:LCode} {k:List It}:Ydn n x k none=Zaf n k:=rfl
def Ydo (b:LCode) (l:Nat):Option LCode→Option LCode
  | some r=>some (.seq r b)
  | none=>R0 b l
theorem Z6r {a b:LCode} {l:Nat}:R0 (.seq a b) l=Ydo b l (R0 a l):=by
  rw [R0];cases R0 a l<;>rfl
theorem Zzs {b r:LCode} {l:Nat}:Ydo b l (some r)=some (.seq r b):=rfl
theorem Zzt {b:LCode} {l:Nat}:Ydo b l none=R0 b l:=rfl
theorem Zu4 {m l:Nat}:R0 (.label m) l=X7 (m==l) (some .skip) none ⟨⟩ ⟨⟩:=by
  rw [R0,Zdo];rfl
theorem Zzu {l:Nat}:R0 .skip l=none:=rfl
theorem Z6s {l:Nat}:R0 .ret l=none:=rfl
theorem Zzv {l n:Nat}:R0 (.exit n) l=none:=rfl
theorem Z6t {l:Nat} {o:List LOper} {p:List Nat}:R0 (.reg o p) l=none:=rfl
theorem Zzw {l:Nat} {o:List LOper} {q:List (Nat × Nat)} {p:List Nat}:R0 (.dreg o q p) l=none:=rfl
theorem Zzx {l:Nat} {c:LO} {a b:LCode}:R0 (.cond c a b) l=none:=rfl
theorem Zu5 {l n:Nat} {a:LCode}:R0 (.block n a) l=none:=rfl
theorem Zzy {l:Nat} {v:List Nat} {a:LCode}:R0 (.loop v a) l=none:=rfl
theorem Zu6 {l:Nat} {a:LCode}:R0 (.scope a) l=none:=rfl
theorem Zzz {l n:Nat}:R0 (.goto n) l=none:=rfl
theorem Ydp {k:IntKind} {n:Int}:R7 (.int k n)=true:=rfl
theorem Zz0 {k:IntKind} {n:Int}:H5 (.int k n)=some [.int k n]:=rfl
theorem Z6u {b:Bool}:R7 (.bool b)=true:=rfl
theorem Zu7 {b:Bool}:H5 (.bool b)=some [.bool b]:=rfl
theorem Ydq {l:List UInt8}:R7 (.str l)=true:=rfl
theorem Zz1 {l:List UInt8}:H5 (.str l)=some [.str l]:=rfl
theorem Z6v  : R7 .nilp=true:=rfl
theorem Zu8  : H5 .nilp=some [.nilp]:=rfl
theorem Z6w  : R7 .nils=true:=rfl
theorem Zu9  : H5 .nils=some [.nils]:=rfl
theorem Z6x  : R7 .nilf=true:=rfl
theorem Zva  : H5 .nilf=some [.nilf]:=rfl
theorem Z6y  : R7 .nili=true:=rfl
theorem Zvb  : H5 .nili=some [.nili]:=rfl
theorem Z6z  : R7 .nilm=true:=rfl
theorem Zvc  : H5 .nilm=some [.nilm]:=rfl
theorem Ydr {cs:List AV} {n:Nat}:R7 (.lst cs n)=true:=rfl
theorem Zz2 {cs:List AV} {n:Nat}:H5 (.lst cs n)=some [.lst cs n]:=rfl
theorem Yjt {cs:List AV} {n:Nat}:R7 (.fp cs n)=true:=rfl
theorem Z60 {cs:List AV} {n:Nat}:H5 (.fp cs n)=some [.fp cs n]:=rfl
theorem Yds {s:Site} {g o:Nat}:R7 (.ref s g o)=true:=rfl
theorem Zz3 {s:Site} {g o:Nat}:H5 (.ref s g o)=some [.ref s g o]:=rfl
theorem Ydt {s:Site} {g o n z:Nat}:R7 (.buf s g o n z)=true:=rfl
theorem Zz4 {s:Site} {g o n z:Nat}:H5 (.buf s g o n z)=some [.buf s g o n z]:=rfl
theorem Ydu {f:Nat} {cs:List AV}:R7 (.clo f cs)=true:=rfl
theorem Zz5 {f:Nat} {cs:List AV}:H5 (.clo f cs)=some [.clo f cs]:=rfl
theorem Ydv {t:Nat} {x:AV}:R7 (.ifc t x)=true:=rfl
theorem Zz6 {t:Nat} {x:AV}:H5 (.ifc t x)=some [.ifc t x]:=rfl
theorem Ydw {s:Site} {g:Nat}:R7 (.mpr s g)=true:=rfl
theorem Zz7 {s:Site} {g:Nat}:H5 (.mpr s g)=some [.mpr s g]:=rfl
theorem Zz8 {cs:List AV}:H5 (.agg cs)=some cs:=rfl
theorem Zvd {ts:List (List Site × List Site)}:Z7 ts []=true:=rfl
theorem Zql {ts:List (List Site × List Site)} {i j:Nat} {r:List (Nat × Nat)}:Z7 ts ((i,j)::r)=(Zts (ts.getD i ([],[])) (ts.getD j ([],[]))&&Z7 ts r):=rfl
theorem Yju {a b c d:List Site}:Zts (a,b) (c,d)=(!(Zck b c) && !(Zck b d) && !(Zck a d)):=rfl
theorem Zz9 {t:List Site}:Zck [] t=false:=rfl
theorem Z0a {s:Site} {ss t:List Site}:Zck (s::ss) t=(t.contains s||Zck ss t):=rfl
theorem Yjv {cs:List AV}:fix cs=X7 (flats cs) (.ret (cs,[],[])) ((views cs).bindW (fun p=>(Zfq p.2).bindW (fun u=>.ret (p.1,u,p.2)) ⟨⟩) ⟨⟩) ⟨⟩ ⟨⟩:=by
  unfold fix X7
  cases flats cs<;>rfl
theorem Z61 {cs:List AV}:Zb5 (.agg cs)=X7 (flats cs) (.ret (.agg cs,[])) ((views cs).bindW (fun p=>.ret (.agg p.1,p.2)) ⟨⟩) ⟨⟩ ⟨⟩:=by
  rw [Zb5];unfold X7
  cases flats cs<;>rfl
attribute [go_sem] Ya2 Ycf Ya3 Ya4 Zye Z4m Z4n Z4o Z4p Ycg Ych Yix Yci Z5w Zyt Ycj Zyu Zyv Yck Z5x Z5y Ycl Zyw Zyx Zyy Zyz Zut Zy0 Zy1 Zy2 Zuu Zy3 Zuv Z5z Z50 Zy4 Z51 Z52 Zy5 Z53 Zy6 Ycm Zy7 Zy8 Z54 Zy9 Ycn ren_it Yji Yjr ren_mp Ydw Zz7
  Yh4 Yag Z4f Yah Yai Zyc Zuj Yh5 Yh6 Zyd Yaj Yh7 Yan Yao Yap Yaq Yar Z4g Yas Z4h Z4i Yat Yh8 Yh9 Yau Yia Yib Yav Yaw Z4j Yax Z4k Yay Z4l Yaz Ya0 Ya1 Z4q
  evR_t evR_k evR_g evR_f ev_t ev_k Z4r Z4s Ya5 Yic Ya6 Yid Ya7 Z4t Yie Yif Ya8 Z4u Z4v Z4w Zuk Zyf Zf3 Zol Z4x Zul one_eq Yig Zyg mk_eq Ya9 Yba Ybb Ybc
  Zom Zyh Z4y Z4z Ybd Z40 Z41 Zyi Zyj Zyk Zyl X2.eq_1 X2.eq_2 X2.eq_3 Ybe Z42 Ybf Ybg Yih Ybh Z43 Z44 Z45 Z46 Z47 Ybi Ybj Z61 Z48 Z5c Zhs Ybk Ybl Zum Z5d Zym Yjv Zl0.eq_1 S0.eq_1 S0.eq_2 S0.eq_3 S0.eq_4 Z49 Z5a Z5b Z5e Zyp Z5f Zyq Yii Zuq Zqf Ybo Ybp Yij Yik Ybq Ybr
  stC_eq Yil Zyr Z5h Zmp Ybs Ybt Z5i Ybu Ybv Ybw Ybx Yby Ybz Yb0 Yb1 Yb2 Yb3 Z5j Yim slR_eq slB_fp Yb4 Yb5 Yb6 Z5k Yin Yio Yb7 Yip Yiq faV_fp Z5l Z5m Yir iaV_fp Yis Yit Zmq Yiu Yiv
  Yb8 Yb9 Yca Z5n Yiw Zus Z5o Ycb Z5p Z5q Z5r Z5s Z5t Zys Z5u Ycc Z5v Ycd Yce Z55
  Z2u Yiy Yiz Yi0 Yi1 Z2v Yco Z2w Zzc Yi2 Yi3 Yi4 Yi5 Yi6 Yi7 Z2x Z2y Ycp Ycq Ycr Ycs Yct Ycu Ycv Yak Yal Yam Ycw Yi8 Yi9 Z56 Yja Ycx Z57 Z58 Z59 Ycy Z6a Ycz Yjb un_neg Yc0 un_not
  Z6b Z6c Yc2 Yc3 Zzg Z6d
  X_seq Yh1 X_ret X_skip X_regY X_regZ Yhy Zvd Zql Yju Zz9 Z0a List.getD_cons_zero List.getD_cons_succ Yhb X_blk Yjc Yh2 Zzo Ydl Z6o X_scp Yg9 Yha Yh3 Zzp Yjs Ydm Z6p Z6q Zzq Zzr Z6r Zzs Zzt Zu4 Zzu Z6s Zzv Z6t Zzw Zzx Zu5 Zzy Zu6 Zzz Z4a Zx9 X_nil Y_nil Y_op Yhz Z_nil Z_op Yh0 Yhv Yhw Yae Br_not Zya Yhx Zzd Zze Zzf Zuy Yaf Z4b Z4c Z4d Z4e params Yc4 Z6e Yc5 Z6f Yc6 Z6g B7 Zuz Z6h Yc7 Zdd Zbo Zzh Zzi Zu0 Zqg Yjf ups_up ups_s ups_r refsOfs Y0 Z6i Zu2 Zqi Yc8 Yjd Yje Zu1 Zqh Ydg Z6l Z6j Z6k Yjg Yjh Yjj Yjk Yjl Yjm Yjn Yc9 Yjo Yjp ren_fp Yda Ydb Ydc Ydd Yde Ydf Yjq L4 flats Ydp Zz0 Z6u Zu7 Ydq Zz1 Z6v Zu8 Z6w Zu9 Z6x Zva Z6y Zvb Z6z Zvc Ydr Zz2 Yjt Z60 Yds Zz3 Ydt Zz4 Ydu Zz5 Ydv Zz6 Zz8 H8 Q9 leadss  Znv Z5g Zur
  Zun Zqd Zyn Zuo Zqe Zyo Zup Zu3 Zzl Zzm Zqj Zzn Zqk Ydh Zzj Zzk Z6m tidy Ztj X3 Ybm Ybn M3 Ydk Z6n Za4 Zl1 Za5 rep bytesOf
  if_true if_false Nat.add_zero Nat.zero_add and_self and_true true_and cond_true cond_false Site.s.injEq Site.r.injEq Site.up.injEq List.append_nil List.nil_append List.cons_append List.contains_nil List.contains_cons List.map_nil List.map_cons List.length_nil List.length_cons List.lookup_cons Option.map_some Option.map_none Bool.or_false Bool.false_or Bool.or_true Bool.true_or Bool.not_true Bool.not_false beq_self_eq_true List.flatMap_nil List.flatMap_cons Option.isSome_some Option.isSome_none BEq.rfl eq_self Bool.and_true Bool.true_and Bool.and_false Bool.false_and Nat.le_refl decide_true decide_false beq_true beq_false List.getElem?_cons_zero List.getElem?_cons_succ List.getElem?_nil
end Cod

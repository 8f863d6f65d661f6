/- Rules by which simp runs the abstract code. -/
import Derived.Attr
import Derived.Test.YthlnjgdoodjgoaaGreatDoorXCod5
set_option linter.unusedSimpArgs false
set_option linter.unusedVariables false
namespace Cod
open Go
section
variable {call:M0} {ρ:LO→AV} {d:Nat}
theorem Yix {x}:step call ρ d (.mv x)=one (ρ x):=rfl
theorem Ya8 {sz}:step call ρ d (.nil sz)=Zcb (.s d 0) [] 0 sz []:=rfl
theorem Z47 {c} {a} {b}:step call ρ d (.pick c a b)=Zt1 (ρ c) (ρ a) (ρ b):=rfl
theorem Ya9 {cells}:step call ρ d (.new cells)=Zko (.s d 0) cells:=rfl
theorem Yba {x}:step call ρ d (.box x)=boxV (.s d 0) (I6 (ρ x)):=rfl
theorem Zyy {zero} {ps}:step call ρ d (.build zero ps)=Zpy (Zay ρ ps (some zero)):=rfl
theorem Zu0 {sz} {n} {zero} {ps}:step call ρ d (.bslice sz n zero ps)=Zhw (.s d 0) n sz (Zay ρ ps (some (rep zero n))):=rfl
theorem Yiy {n} {a}:step call ρ d (.ld n a)=ldV n (ρ a):=rfl
theorem Yiz {n} {a} {x}:step call ρ d (.st n a x)=stV n (ρ a) (I6 (ρ x)):=rfl
theorem Zyz {x}:step call ρ d (.nilck x)=Zjp (ρ x):=rfl
theorem Ybb {op} {x} {y}:step call ρ d (.bin op x y)=optV (H8 op (ρ x) (ρ y)):=rfl
theorem Ybc {neg} {x} {y}:step call ρ d (.eqb neg x y)=optV (Ztx neg (ρ x) (ρ y)):=rfl
theorem Ybd {ks} {neg} {x} {y}:step call ρ d (.eqa ks neg x y)=eqaV ks neg (ρ x) (ρ y):=rfl
theorem Ybe {kd} {neg} {x} {y}:step call ρ d (.eqn kd neg x y)=eqnV kd neg (ρ x) (ρ y):=rfl
theorem Yi0 {op} {x}:step call ρ d (.un op x)=optV (Zpx op (ρ x)):=rfl
theorem Ybf {k} {x}:step call ρ d (.cvi k x)=Zpz k (ρ x):=rfl
theorem Ybg {x}:step call ρ d (.s2s x)=s2sV (ρ x):=rfl
theorem Ybh {x}:step call ρ d (.s2b x)=s2bV (.s d 0) (ρ x):=rfl
theorem Ybi {x}:step call ρ d (.b2s x)=Zx3 (ρ x):=rfl
theorem Ybj {x} {lo} {hi}:step call ρ d (.sls x lo hi)=slsV (ρ x) (loV (lo.map ρ)) (hiV (Zc7 none (ρ x)) (hi.map ρ)):=rfl
theorem Z48 {x}:step call ρ d (.lens x)=Zt3 (ρ x):=rfl
theorem Ybk {x}:step call ρ d (.b2b x)=b2bV (ρ x):=rfl
theorem Z49 {t} {x}:step call ρ d (.mkif t x)=Znz t (ρ x):=rfl
theorem Z5a {f} {cap}:step call ρ d (.mkfn f cap)=one (.clo f (cap.map ρ)):=rfl
theorem Ybl {sz} {bytes} {zero} {l} {c}:step call ρ d (.mks sz bytes zero l c)=mksV (.s d 0) sz bytes zero (ρ l) (ρ c):=rfl
theorem Yi1 {sz} {arr} {x} {lo} {hi}:step call ρ d (.sl sz arr x lo hi)=slV sz arr (ρ x) (loV (lo.map ρ)) (hiV (Zc7 arr (ρ x)) (hi.map ρ)):=rfl
theorem Yi2 {x} {off}:step call ρ d (.fa x off)=faV off (ρ x):=rfl
theorem Ybm {x} {off} {n}:step call ρ d (.fld x off n)=Zt2 off n (ρ x):=rfl
theorem Yi3 {sz} {arr} {x} {i}:step call ρ d (.ia sz arr x i)=iaV sz arr (ρ x) (ρ i):=rfl
theorem Yi4 {sz} {arr} {agg} {x} {i}:step call ρ d (.ix sz arr agg x i)=ixV sz agg arr (ρ x) (ρ i):=rfl
theorem Ybn {n} {sz} {x}:step call ρ d (.s2a n sz x)=s2aV n sz (ρ x):=rfl
theorem Ybo {x} {i}:step call ρ d (.ext x i)=extV i (ρ x):=rfl
theorem Z5b {f} {args} {take}:step call ρ d (.call f args take)=Zhx call d take (args.map ρ) (ρ f):=rfl
theorem Ybp {sz} {bytes} {s} {x}:step call ρ d (.app sz bytes s x)=(R4 sz (ρ x)).bindW (fun p=>(fix p.1).bindW (fun q=>Zhy (.s d 0) sz bytes p.2 q.1 q.2.1 q.2.2 (ρ s)) ⟨⟩) ⟨⟩:=rfl
theorem Z5c {sz} {bytes} {zero} {s} {n}:step call ρ d (.appz sz bytes zero s n)=Zn0 (.s d 0) sz bytes zero (ρ s) (ρ n):=rfl
theorem Ybq {arr} {x}:step call ρ d (.len arr x)=Zkp arr (ρ x):=rfl
theorem Z5d {sz} {dd} {s}:step call ρ d (.copy sz dd s)=(R4 sz (ρ s)).bindW (fun p=>Zt4 sz p.2 p.1 (ρ dd)) ⟨⟩:=rfl
theorem Ybr {x} {y}:step call ρ d (.min x y)=minV (ρ x) (ρ y):=rfl
theorem Ybs {x} {y}:step call ρ d (.max x y)=maxV (ρ x) (ρ y):=rfl
theorem Ybt {x}:step call ρ d (.cap x)=capV (ρ x):=rfl
theorem Ybu {x}:step call ρ d (.r2s x)=r2sV (ρ x):=rfl
theorem Ybv {x}:step call ρ d (.rng x)=rngV (.s d 0) (ρ x):=rfl
theorem Ybw {x}:step call ρ d (.nxt x)=nxtV (ρ x):=rfl
theorem Zy0:step call ρ d .mkmap=Zl1 (.s d 0) (.mp [] []) (.mpr (.s d 0)):=rfl
theorem Z5e {str zero ok m k}:step call ρ d (.mget str zero ok m k)=Zt5 str zero ok (ρ k) (ρ m):=rfl
theorem Z5f {str m k x}:step call ρ d (.mput str m k x)=Zt6 str (X5 (ρ x)) (ρ k) (I6 (ρ x)) (ρ m):=rfl
theorem Z5g {str m k}:step call ρ d (.mdel str m k)=Zt7 str (ρ k) (ρ m):=rfl
theorem Z5h {x}:step call ρ d (.mlen x)=Zt8 (ρ x):=rfl
theorem Z5i:step call ρ d (.stop)=.fail:=rfl
end
section
variable {E:Env} {sl loc:List (Nat × AV)}
theorem evR_t {n:Nat}:evR E sl loc (.t n)=P0 sl loc n:=rfl
theorem evR_k {v:AV}:evR E sl loc (.k v)=v:=rfl
theorem evR_g {n:Nat}:evR E sl loc (.g n)=Zhb (E.glob n):=rfl
theorem evR_f {n:Nat}:evR E sl loc (.f n)=.clo n []:=rfl
theorem ev_t {n:Nat}:ev E sl (.t n)=J5 sl n:=rfl
theorem ev_k {v:AV}:ev E sl (.k v)=v:=rfl
theorem Z5j {n:Nat}:U4 (some n)=n:=rfl
theorem Z5k:U4 none=0:=rfl
end
theorem Ybx {b:Bool}:gdV (.bool b)=true:=rfl
theorem Yi5:gdV .und=true:=rfl
theorem Yby {w b:Bool}:gdB w (.bool b)=(b==w):=rfl
theorem Yi6 {w:Bool}:gdB w .und=false:=rfl
theorem Ybz {b:Bool}:isB (.bool b)=true:=rfl
theorem Z5l {k:List It}:outO (some k)=k:=rfl
theorem Yi7 {α:Type} {a : α} {σ:A1}:(Acc.ret a).run σ=some a:=rfl
theorem Yi8 {α:Type} {s:Site} {k:Option Ent→Acc α} {σ:A1}:(Acc.get s k).run σ=(k (B0 σ s)).run σ:=rfl
theorem Yb0 {α β:Type} {a : α} {f : α→Acc β}:(Acc.ret a).bind f=f a:=rfl
theorem Z5m {α:Type} {a : α} {σ:A1}:(Acc.ret a).reads σ=[]:=rfl
theorem Z5n {α:Type} {s:Site} {k:Option Ent→Acc α} {σ:A1}:(Acc.get s k).reads σ=s::(k (B0 σ s)).reads σ:=rfl
theorem Z5o {α β:Type} {s:Site} {k:Option Ent→Acc α} {f : α→Acc β} {σ:A1}:((Acc.get s k).bind f).run σ=((k (B0 σ s)).bind f).run σ:=rfl
theorem Zu1 {α β:Type} {s:Site} {k:Option Ent→Acc α} {f : α→Acc β} {σ:A1}:((Acc.get s k).bind f).reads σ=s::((k (B0 σ s)).bind f).reads σ:=rfl
theorem Zoo {α β γ:Type} (x:Acc α) (f : α→Acc β) (g : β→Acc γ):(x.bind f).bind g=x.bind fun a=>(f a).bind g:=by
  induction x with
  | ret a=>rfl
  | fail=>rfl
  | get s k ih=>exact congrArg (Acc.get s) (funext fun e=>ih e)
theorem Zy1 {α β γ:Type} (x:Acc α) (f : α→Acc β) (g : β→Acc γ) (w:Wit g):(x.bind f).bindW g w=x.bindW (fun a=>(f a).bindW g ⟨⟩) ⟨⟩:=Zoo x f g
theorem Zfu {α β γ:Type} (x:Acc α) (f : α→Acc β) (v:Wit f) (g : β→Acc γ) (w:Wit g):(x.bindW f v).bindW g w=x.bindW (fun a=>(f a).bindW g ⟨⟩) ⟨⟩:=Zoo x f g
theorem Zop {α β:Type} {a : α} {f : α→Acc β} {w:Wit f}:(Acc.ret a).bindW f w=f a:=rfl
theorem Z5p {α β:Type} {s:Site} {k:Option Ent→Acc α} {f : α→Acc β} {w:Wit f} {σ:A1}:((Acc.get s k).bindW f w).run σ=((k (B0 σ s)).bindW f ⟨⟩).run σ:=rfl
theorem Zu2 {α β:Type} {s:Site} {k:Option Ent→Acc α} {f : α→Acc β} {w:Wit f} {σ:A1}:((Acc.get s k).bindW f w).reads σ=s::((k (B0 σ s)).bindW f ⟨⟩).reads σ:=rfl
theorem one_eq {x:AV}:one x=.ret (x,[]):=rfl
theorem Yi9 {s:Site} {g:Nat}:R3 s g=.get s (Zty g):=rfl
theorem Zy2 {g:Nat} {e:Ent}:Zty g (some e)=if e.alive=true∧e.g=g then .ret e else .fail:=rfl
theorem mk_eq {s:Site} {v:Bool} {cs:List AV}:mk s v cs=.get s (mkE s v cs):=rfl
theorem Yb1 {s:Site} {v:Bool} {cs:List AV} {e:Ent}:mkE s v cs (some e)=.ret (e.g+1,[(s,⟨e.g+1,true,true,v,cs⟩)]):=rfl
theorem Yb2 {s:Site} {v:Bool} {cs:List AV}:mkE s v cs none=.ret (0,[(s,⟨0,true,true,v,cs⟩)]):=rfl
theorem Yb3 {s:Site} {cs:List AV}:Zko s cs=(mk s true cs).bindW (fun p=>.ret (.ref s p.1 0,p.2)) ⟨⟩:=rfl
theorem Yb4 {s:Site} {cs:List AV} {n sz:Nat} {u:Ups}:Zcb s cs n sz u=(mk s false cs).bindW (fun p=>.ret (.buf s p.1 0 n sz,u++p.2)) ⟨⟩:=rfl
theorem Zoq {k:IntKind} {n:Int}:V4 (.int k n)=.ret (.int k n,[]):=rfl
theorem Zy3 {b:Bool}:V4 (.bool b)=.ret (.bool b,[]):=rfl
theorem Z5q {l:List UInt8}:V4 (.str l)=.ret (.str l,[]):=rfl
theorem Z5r {cs:List AV} {n:Nat}:V4 (.lst cs n)=.ret (.lst cs n,[]):=rfl
theorem Yb5 {cs:List AV} {n:Nat}:V4 (.fp cs n)=.ret (.fp cs n,[]):=rfl
theorem Zy4:V4 .nilp=.ret (.nilp,[]):=rfl
theorem Zy5:V4 .nilf=.ret (.nilf,[]):=rfl
theorem Zy6:V4 .nili=.ret (.nili,[]):=rfl
theorem Zy7:V4 .nilm=.ret (.nilm,[]):=rfl
theorem Z5s {f:Nat} {cs:List AV}:V4 (.clo f cs)=if flats cs=true then .ret (.clo f cs,[]) else .fail:=rfl
theorem Z5t {t:Nat} {x:AV}:V4 (.ifc t x)=if L9 x=true then .ret (.ifc t x,[]) else .fail:=rfl
theorem Yb6 {k:IntKind} {n:Int}:Zbx (.int k n)=.ret (.int k n,[]):=rfl
theorem Z5u {b:Bool}:Zbx (.bool b)=.ret (.bool b,[]):=rfl
theorem Yb7 {l:List UInt8}:Zbx (.str l)=.ret (.str l,[]):=rfl
theorem Yb8 {cs:List AV} {n:Nat}:Zbx (.lst cs n)=.ret (.lst cs n,[]):=rfl
theorem Yja {cs:List AV} {n:Nat}:Zbx (.fp cs n)=.ret (.fp cs n,[]):=rfl
theorem Z5v:Zbx .nils=.ret (.lst [] 0,[]):=rfl
theorem Z5w:Zbx .nilp=.ret (.nilp,[]):=rfl
theorem Z5x:Zbx .nilf=.ret (.nilf,[]):=rfl
theorem Z5y:Zbx .nili=.ret (.nili,[]):=rfl
theorem Z5z:Zbx .nilm=.ret (.nilm,[]):=rfl
theorem Yb9 {t:Nat} {x:AV}:Zbx (.ifc t x)=if L9 x=true then .ret (.ifc t x,[]) else .fail:=rfl
theorem Yca {s:Site} {g off n z:Nat}:Zbx (.buf s g off n z)=(R3 s g).bindW (Z9y off n z s) ⟨⟩:=rfl
theorem Ycb {s:Site} {g off:Nat}:Zbx (.ref s g off)=(R3 s g).bindW (Z9z off s) ⟨⟩:=rfl
theorem Z50 {f:Nat}:Zbx (.clo f [])=.ret (.clo f [],[]):=rfl
theorem Ycc {off n z:Nat} {s:Site} {e:Ent}:Z9y off n z s e=if off+n*z≤e.cells.length∧flats e.cells=true then .ret (.lst (sub e.cells off (n*z)) n,[s]) else .fail:=rfl
theorem Ycd {off:Nat} {s:Site} {e:Ent}:Z9z off s e=if flats e.cells=true then .ret (.fp e.cells off,[s]) else .fail:=rfl
theorem Zu3 {s:Site} {u:Ups} {e:Ent}:Zly s u (some e)=.ret ((s,{ e with rw:=false })::u):=rfl
theorem Z51 {sz off n z:Nat} {e:Ent}:Z90 sz off n z e=if z=sz∧off+n*z≤e.cells.length then .ret (sub e.cells off (n*z),n) else .fail:=rfl
theorem Z52 {k:Nat} {l:List (Nat × Nat)} {e:Ent}:genE k l (some e)=.ret ((k,e.g+1)::l):=rfl
theorem Z53 {k:Nat} {l:List (Nat × Nat)}:genE k l none=.ret ((k,0)::l):=rfl
theorem Zu4 {i:Nat} {take:List Nat}:R5 i take []=.ret ([],[],[]):=rfl
theorem Zqj {i:Nat} {take:List Nat} {x:AV} {xs:List AV}:R5 i take (x::xs) =
    T6 (take.contains i) ((R5 (i+1) take xs).bindW (fun p=>.ret (x::p.1,X1 x++p.2.1,p.2.2)) ⟨⟩)
      ((Zbx x).bindW (fun q=>(R5 (i+1) take xs).bindW (fun p=>.ret (q.1::p.1,p.2.1,q.2++p.2.2)) ⟨⟩) ⟨⟩) ⟨⟩ ⟨⟩:=rfl
theorem Z54:views []=.ret ([],[]):=rfl
theorem Zhj {c:AV} {cs:List AV}:views (c::cs)=(V4 c).bindW (fun p=>(views cs).bindW (fun q=>.ret (p.1::q.1,p.2++q.2)) ⟨⟩) ⟨⟩:=rfl
theorem Z55:Zfh []=.ret []:=rfl
theorem Zy8 {s:Site} {ss:List Site}:Zfh (s::ss)=(Zfh ss).bindW (fun u=>.get s (Zly s u)) ⟨⟩:=rfl
theorem Zy9 {n:Nat} {seen:List Site}:Zaw (n+1) [] seen=.ret []:=rfl
theorem Zu5 {n:Nat} {s:Site} {g:Nat} {r:List (Site × Nat)} {seen:List Site}:Zaw (n+1) ((s,g)::r) seen =
    T6 (seen.contains s) (Zaw n r seen)
      ((R3 s g).bindW (fun e=>(Zaw n (r++refsOfs e.cells) (s::seen)).bindW (fun u=>.ret ((s,e)::u)) ⟨⟩) ⟨⟩) ⟨⟩ ⟨⟩:=rfl
theorem Zqk {d:Nat}:Q6 d []=.ret []:=rfl
theorem Zza {d k:Nat} {e:Ent} {r:A1}:Q6 d ((.r k,e)::r)=(Q6 d r).bindW (fun l=>.get (.s d k) (genE k l)) ⟨⟩:=rfl
theorem Zu6 {d:Nat} {x:Site} {e:Ent} {r:A1}:Q6 d ((.up x,e)::r)=Q6 d r:=rfl
theorem Z56 {call:M0} {d f:Nat} {args:List AV} {take:List Nat}:Zbk call d f args take =
  (R5 0 take args).bindW (fun p=>(Zaw 64 p.2.1 []).bindW (fun es=>Z2s d p.2.2 es (call f (rens (Zaf es) p.1) (M7 es es))) ⟨⟩) ⟨⟩:=rfl
theorem Zzb {d:Nat} {ss:List Site} {es:List (Site × Ent)} {v:AV} {σ:A1}:Z2s d ss es (some (v,σ)) =
    T6 (tidy σ && !(Zl0 es ss)) ((Q6 d σ).bindW (fun gs=>LetA (E3 d gs σ) (fun b=>T6 (V5 b) (Z2r ss es (ren (G4 d gs) v) b) .fail ⟨⟩ ⟨⟩) ⟨⟩) ⟨⟩) .fail ⟨⟩ ⟨⟩:=rfl
theorem Yce {ss:List Site} {es:List (Site × Ent)} {v:AV} {b:Ups}:Z2r ss es v b =
    T6 (Q3 v||Zax b) ((Zfh ss).bindW (fun u=>.ret (v,u++(b++Zac b es))) ⟨⟩) (.ret (v,b++Zac b es)) ⟨⟩ ⟨⟩:=rfl
theorem Ycf {σ:Ups} {s:Site}:Ztz σ s=(B0 σ s).isNone:=rfl
theorem Z57 {x:AV}:optV (some x)=.ret (x,[]):=rfl
theorem Zzc {t:Bool} {a b:AV}:Zt1 (.bool t) a b=.ret (bif t then a else b,[]):=rfl
theorem Yjb {cs:List AV} {off n:Nat}:aggV cs off n=if off+n≤cs.length then .ret (.agg (sub cs off n),[]) else .fail:=rfl
theorem Zu7 {cs:List AV}:Zpy (some cs)=.ret (.agg cs,[]):=rfl
theorem Zql {s:Site} {n sz:Nat} {cs:List AV}:Zhw s n sz (some cs)=(fix cs).bindW (fun p=>Zcb s p.1 n sz p.2.1) ⟨⟩:=rfl
theorem Ycg {off:Nat} {e:Ent}:ldC none off e=optV e.cells[off]? := rfl
theorem Ych {n off:Nat} {e:Ent}:ldC (some n) off e=aggV e.cells off n:=rfl
theorem Yjc {cs:List AV} {off:Nat}:ldV none (.fp cs off)=optV cs[off]? := rfl
theorem Yjd {cs:List AV} {off n:Nat}:ldV (some n) (.fp cs off)=aggV cs off n:=rfl
theorem Yci {s:Site} {g off:Nat}:ldV none (.ref s g off)=(R3 s g).bindW (ldC none off) ⟨⟩:=rfl
theorem Ycj {s:Site} {g off n:Nat}:ldV (some n) (.ref s g off)=(R3 s g).bindW (ldC (some n) off) ⟨⟩:=rfl
theorem stC_eq {s:Site} {off n:Nat} {xs:List AV} {e:Ent}:stC s off n xs e =
  if e.rw=true∧xs.length=n∧off+n≤e.cells.length∧I7 xs=true then
    (bif e.var then .ret (.und,[(s,{ e with cells:=over e.cells off xs })])
     else (fix xs).bindW (fun p=>bif p.2.2.contains s then .fail else .ret (.und,p.2.1++[(s,{ e with cells:=over e.cells off p.1 })])) ⟨⟩)
  else .fail:=rfl
theorem Yje {n:Nat} {s:Site} {g off:Nat} {xs:List AV}:stV n (.ref s g off) (some xs)=(R3 s g).bindW (stC s off n xs) ⟨⟩:=rfl
theorem Z58 {s:Site} {xs:List AV}:boxV s (some xs)=Zko s xs:=rfl
theorem Zu8 {cells ys:List AV} {off n:Nat}:Zny cells off n (some ys)=if ys.length=n∧off+n≤cells.length then some (over cells off ys) else none:=rfl
theorem Zzd {s:Site} {g off:Nat}:Zjp (.ref s g off)=still1 s g (.ref s g off):=rfl
theorem Z59 {cs:List AV} {off:Nat}:Zjp (.fp cs off)=.ret (.fp cs off,[]):=rfl
theorem Zmo {k k':IntKind} {n:Int}:Zpz k (.int k' n)=.ret (.int k (k.wrap n),[]):=rfl
theorem Yck {l:List UInt8}:s2sV (.str l)=.ret (.str l,[]):=rfl
theorem Ycl {s:Site} {l:List UInt8}:s2bV s (.str l)=Zcb s (A0 l) l.length 1 []:=rfl
theorem Z6a {l:List UInt8}:strV (some l)=.ret (.str l,[]):=rfl
theorem Ycm {s:Site} {g off n z:Nat}:b2bV (.buf s g off n z)=(R3 s g).bindW (fun e=>if e.rw=true∧e.cells.isEmpty=false then .ret (.buf s g off n z,[]) else .fail) ⟨⟩:=rfl
theorem Ycn {s:Site} {sz bytes:Nat} {zero:List AV} {l c:Int}:mksV s sz bytes zero (.int .i64 l) (.int .i64 c) =
    if 0≤l∧l≤c∧bytes*c≤281474976710656∧c≤281474976710656 then Zcb s (rep zero l.toNat) l.toNat sz [] else .fail:=rfl
theorem Yco {x:AV}:loV (some x)=x:=rfl
theorem Ycp:loV none=.int .i64 0:=rfl
theorem Ycq {n:Nat} {x:AV}:hiV n (some x)=x:=rfl
theorem Ycr {n:Nat}:hiV n none=.int .i64 n:=rfl
theorem Ycs {n:Nat} {x:AV}:Zc7 (some n) x=n:=rfl
theorem Yct {l:List UInt8}:Zc7 none (.str l)=l.length:=rfl
theorem Ycu {cs:List AV} {n:Nat}:Zc7 none (.lst cs n)=n:=rfl
theorem Ycv {s:Site} {g off n z:Nat}:Zc7 none (.buf s g off n z)=n:=rfl
theorem Z6b:Zc7 none .nils=0:=rfl
theorem Yjf {sz n l h:Nat} {s:Site} {g off:Nat}:slB sz (some n) (.ref s g off) l h=(R3 s g).bindW (slR sz n l h s g off) ⟨⟩:=rfl
theorem slR_eq {sz n l h:Nat} {s:Site} {g off:Nat} {e:Ent}:slR sz n l h s g off e=if off+n*sz≤e.cells.length then .ret (.buf s g (off+l*sz) (h-l) sz,[]) else .fail:=rfl
theorem slB_fp {sz n l h:Nat} {cs:List AV} {off:Nat}:slB sz (some n) (.fp cs off) l h=if off+n*sz≤cs.length then .ret (.lst (sub cs (off+l*sz) ((h-l)*sz)) (h-l),[]) else .fail:=rfl
theorem Ycw {k k':IntKind} {l h:Int} {t:List UInt8}:slsV (.str t) (.int k l) (.int k' h)=if 0≤l∧l≤h∧h≤t.length then .ret (.str (sub t l.toNat (h.toNat-l.toNat)),[]) else .fail:=rfl
theorem Ycx {cs:List AV} {n:Nat}:Zx3 (.lst cs n)=(R4 1 (.lst cs n)).bindW (fun p=>strV (bytesOf p.1)) ⟨⟩:=rfl
theorem Ycy {s:Site} {g o n z:Nat}:Zx3 (.buf s g o n z)=(R4 1 (.buf s g o n z)).bindW (fun p=>strV (bytesOf p.1)) ⟨⟩:=rfl
theorem Z6c:Zx3 .nils=.ret (.str [],[]):=rfl
theorem Yjg {sz l h n:Nat} {cs:List AV}:slB sz none (.lst cs n) l h=if cs.length=n*sz then .ret (.lst (sub cs (l*sz) ((h-l)*sz)) (h-l),[]) else .fail:=rfl
theorem Yjh {sz l h:Nat} {s:Site} {g off n z:Nat}:slB sz none (.buf s g off n z) l h=if z=sz then still1 s g (.buf s g (off+l*sz) (h-l) sz) else .fail:=rfl
theorem Ycz {sz l h:Nat}:slB sz none .nils l h=.ret (.nils,[]):=rfl
theorem Yji {sz:Nat} {arr:Option Nat} {x:AV} {k k':IntKind} {l h:Int}:slV sz arr x (.int k l) (.int k' h)=if 0≤l∧l≤h∧h≤Zc7 arr x then slB sz arr x l.toNat h.toNat else .fail:=rfl
theorem Yjj {off:Nat} {s:Site} {g o:Nat}:faV off (.ref s g o)=still1 s g (.ref s g (o+off)):=rfl
theorem faV_fp {off:Nat} {cs:List AV} {o:Nat}:faV off (.fp cs o)=.ret (.fp cs (o+off),[]):=rfl
theorem Z6d {off:Nat} {cs:List AV}:Zt2 off none (.agg cs)=optV cs[off]? := rfl
theorem Z6e {off n:Nat} {cs:List AV}:Zt2 off (some n) (.agg cs)=aggV cs off n:=rfl
theorem Yjk {sz n:Nat} {s:Site} {g o:Nat} {k:IntKind} {i:Int}:iaV sz (some n) (.ref s g o) (.int k i)=if 0≤i∧i<n then still1 s g (.ref s g (o+i.toNat*sz)) else .fail:=rfl
theorem iaV_fp {sz n:Nat} {cs:List AV} {o:Nat} {k:IntKind} {i:Int}:iaV sz (some n) (.fp cs o) (.int k i)=if 0≤i∧i<n then .ret (.fp cs (o+i.toNat*sz),[]) else .fail:=rfl
theorem Yjl {sz n:Nat} {cs:List AV} {k:IntKind} {i:Int}:iaV sz none (.lst cs n) (.int k i)=if 0≤i∧i<n then .ret (.fp cs (i.toNat*sz),[]) else .fail:=rfl
theorem Yjm {sz:Nat} {s:Site} {g o n z:Nat} {k:IntKind} {i:Int}:iaV sz none (.buf s g o n z) (.int k i)=if 0≤i∧i<n∧z=sz then still1 s g (.ref s g (o+i.toNat*sz)) else .fail:=rfl
theorem Zmp {b:UInt8}:Z2t (some b)=.ret (.int .u8 b.toNat,[]):=rfl
theorem Yjn {sz n:Nat} {agg:Bool} {cs:List AV} {k:IntKind} {i:Int}:ixV sz agg (some n) (.agg cs) (.int k i) =
  if 0≤i∧i<n∧i.toNat*sz+sz≤cs.length then (bif agg then one (.agg (sub cs (i.toNat*sz) sz)) else optV cs[i.toNat*sz]?) else .fail:=rfl
theorem Yjo {sz:Nat} {agg:Bool} {t:List UInt8} {k:IntKind} {i:Int}:ixV sz agg none (.str t) (.int k i)=if 0≤i then Z2t t[i.toNat]? else .fail:=rfl
theorem Yc0 {n sz m:Nat} {cs:List AV}:s2aV n sz (.lst cs m)=if n≤m∧cs.length=m*sz∧0<n then .ret (.fp cs 0,[]) else .fail:=rfl
theorem Yc1 {n sz m:Nat} {s:Site} {g o z:Nat}:s2aV n sz (.buf s g o m z)=if n≤m∧z=sz∧0<n then still1 s g (.ref s g o) else .fail:=rfl
theorem Yc2 {i:Nat} {cs:List AV}:extV i (.tup cs)=optV cs[i]? := rfl
theorem Z6f {call:M0} {d:Nat} {take:List Nat} {args:List AV} {f:Nat} {cap:List AV}:Zhx call d take args (.clo f cap)=Zbk call d f (args++cap) take:=rfl
theorem Yjp {t:Site} {sz bytes m:Nat} {vs:List AV} {u:Ups} {ss:List Site} {s:Site} {o n z:Nat} {e:Ent}:appB t sz bytes m vs u ss s o n z e =
  if e.rw=true∧e.var=false∧z=sz∧o+n*sz≤e.cells.length∧(n+m)*bytes≤O5∧ss.contains s=false∧I7 vs=true then
    Zcb t (sub e.cells o (n*sz)++vs) (n+m) sz (Zc8 s t u e)
  else .fail:=rfl
theorem Zu9 {s t:Site} {u:Ups} {e:Ent}:Zc8 s t u e=bif decide (s=t) then u else u++[(s,{ e with alive:=false,cells:=[] })]:=rfl
theorem Z6g {t:Site} {sz bytes m:Nat} {vs:List AV} {u:Ups} {ss:List Site}:Zhy t sz bytes m vs u ss .nils=if m*bytes≤O5 then Zcb t vs m sz u else .fail:=rfl
theorem Yc3 {t:Site} {sz bytes m:Nat} {vs:List AV} {u:Ups} {ss:List Site} {s:Site} {g o n z:Nat}:Zhy t sz bytes m vs u ss (.buf s g o n z)=(R3 s g).bindW (appB t sz bytes m vs u ss s o n z) ⟨⟩:=rfl
theorem Z6h {t:Site} {sz bytes:Nat} {zero:List AV} {s:AV} {m:Int}:Zn0 t sz bytes zero s (.int .i64 m)=if 0≤m∧m≤O5 then Zhy t sz bytes m.toNat (rep zero m.toNat) [] [] s else .fail:=rfl
theorem Z6i {n:Nat} {x:AV}:Zkp (some n) x=.ret (.int .i64 n,[]):=rfl
theorem Z6j {l:List UInt8}:Zt3 (.str l)=.ret (.int .i64 l.length,[]):=rfl
theorem Z6k {cs:List AV} {n:Nat}:Zkp none (.lst cs n)=.ret (.int .i64 n,[]):=rfl
theorem Z6l {s:Site} {g off n z:Nat}:Zkp none (.buf s g off n z)=still1 s g (.int .i64 n):=rfl
theorem Z6m {s:Site} {g:Nat} {x:AV}:still1 s g x=(R3 s g).bindW (fun _=>.ret (x,[])) ⟨⟩:=rfl
theorem Zze:Zkp none .nils=.ret (.int .i64 0,[]):=rfl
theorem Yc4 {sz m:Nat} {ys:List AV} {s:Site} {o n z:Nat} {e:Ent}:Z2u sz m ys s o n z e =
  if e.rw=true∧z=sz∧o+n*sz≤e.cells.length∧flats ys=true then
    .ret (.int .i64 (Nat.min m n),[(s,{ e with cells:=over e.cells o (ys.take (Nat.min m n*sz)) })])
  else .fail:=rfl
theorem Z6n {sz m:Nat} {ys:List AV} {s:Site} {g o n z:Nat}:Zt4 sz m ys (.buf s g o n z)=(R3 s g).bindW (Z2u sz m ys s o n z) ⟨⟩:=rfl
theorem Yc5 {k:IntKind} {a b:Int}:minV (.int k a) (.int k b)=.ret (.int k (if b<a then b else a),[]):=by simp [minV,one]
theorem Yc6 {k:IntKind} {a b:Int}:maxV (.int k a) (.int k b)=.ret (.int k (if a<b then b else a),[]):=by simp [maxV,one]
theorem Yc7 {k:IntKind} {n:Int}:r2sV (.int k n)=.ret (.str (X4 n),[]):=rfl
theorem Yc8 {s:Site} {c:AV} {f:Nat→AV}:Zl1 s c f=(mk s true [c]).bindW (fun p=>.ret (f p.1,p.2)) ⟨⟩:=rfl
theorem Yc9 {s:Site} {l:List UInt8}:rngV s (.str l)=Zl1 s (.itr l 0) (.it s):=rfl
theorem Yjq {s:Site} {g:Nat}:nxtV (.it s g)=(R3 s g).bindW (nxtC s) ⟨⟩:=rfl
theorem Yda {s:Site} {g:Nat} {al rw var:Bool} {l:List UInt8} {p:Nat}:nxtC s ⟨g,al,rw,var,[.itr l p]⟩ =
  if rw=true then (if p<l.length then .ret (.tup [.bool true,.int .i64 p,.int .i32 (X3 l p).1],[(s,⟨g,al,rw,var,[.itr l (p+(X3 l p).2)]⟩)]) else .ret (.tup [.bool false],[])) else .fail:=rfl
theorem Z6o {str:Bool} {zero:AV} {ok:Bool} {k:AV} {s:Site} {g:Nat}:Zt5 str zero ok k (.mpr s g)=(R3 s g).bindW (Z2v str zero ok k) ⟨⟩:=rfl
theorem Zzf {str:Bool} {zero:AV} {ok:Bool} {k:AV}:Zt5 str zero ok k .nilm=.ret (okV ok false zero,[]):=rfl
theorem Ydb {str:Bool} {zero:AV} {ok:Bool} {k:AV} {g:Nat} {al rw var:Bool} {ks vs:List AV}:Z2v str zero ok k ⟨g,al,rw,var,[.mp ks vs]⟩=Zn1 zero ok vs (Z9 str k ks 0):=rfl
theorem Zzg {zero:AV} {ok:Bool} {vs:List AV} {i:Nat}:Zn1 zero ok vs (some (some i))=optV ((vs[i]?).map (okV ok true)):=rfl
theorem Zzh {zero:AV} {ok:Bool} {vs:List AV}:Zn1 zero ok vs (some none)=.ret (okV ok false zero,[]):=rfl
theorem Ydc {b:Bool} {v:AV}:okV true b v=.tup [v,.bool b]:=rfl
theorem Z6p {b:Bool} {v:AV}:okV false b v=v:=rfl
theorem Z6q {str agg:Bool} {k:AV} {xs:List AV} {s:Site} {g:Nat}:Zt6 str agg k (some xs) (.mpr s g)=(fix xs).bindW (fun p=>(R3 s g).bindW (Z2w str s k (Zg9 agg p.1) p.2.1 p.2.2) ⟨⟩) ⟨⟩:=rfl
theorem Ydd {str:Bool} {s:Site} {k y:AV} {u:Ups} {ss:List Site} {g:Nat} {al rw var:Bool} {ks vs:List AV}:Z2w str s k y u ss ⟨g,al,rw,var,[.mp ks vs]⟩ =
  if rw=true∧Zdl k=true∧Zdl y=true∧ss.contains s=false then Zn2 s k y u ⟨g,al,rw,var,[.mp ks vs]⟩ ks vs (Z9 str k ks 0) else .fail:=rfl
theorem Zzi {s:Site} {k y:AV} {u:Ups} {e:Ent} {ks vs:List AV} {i:Nat}:Zn2 s k y u e ks vs (some (some i))=.ret (.und,u++[(s,{ e with cells:=[.mp (ks.set i k) (vs.set i y)] })]):=rfl
theorem Zzj {s:Site} {k y:AV} {u:Ups} {e:Ent} {ks vs:List AV}:Zn2 s k y u e ks vs (some none)=.ret (.und,u++[(s,{ e with cells:=[.mp (ks++[k]) (vs++[y])] })]):=rfl
theorem Zzk {cs:List AV}:X5 (.agg cs)=true:=rfl
theorem Zzl {k:IntKind} {n:Int}:X5 (.int k n)=false:=rfl
theorem Zva {b:Bool}:X5 (.bool b)=false:=rfl
theorem Zzm {l:List UInt8}:X5 (.str l)=false:=rfl
theorem Zzn {s:Site} {g o n z:Nat}:X5 (.buf s g o n z)=false:=rfl
theorem Zzo {cs:List AV} {n:Nat}:X5 (.lst cs n)=false:=rfl
theorem Zvb:X5 .nils=false:=rfl
theorem Zzp {ys:List AV}:Zg9 true ys=.agg ys:=rfl
theorem Zvc {y:AV}:Zg9 false [y]=y:=rfl
theorem Z6r {cs:List AV}:Zdl (.agg cs)=flats cs:=rfl
theorem Z6s {k:IntKind} {n:Int}:Zdl (.int k n)=true:=rfl
theorem Zzq {b:Bool}:Zdl (.bool b)=true:=rfl
theorem Z6t {l:List UInt8}:Zdl (.str l)=true:=rfl
theorem Z6u {cs:List AV} {n:Nat}:Zdl (.lst cs n)=true:=rfl
theorem Zzr:Zdl .nils=true:=rfl
theorem Z6v {str:Bool} {k:AV} {s:Site} {g:Nat}:Zt7 str k (.mpr s g)=(R3 s g).bindW (Z2x str s k) ⟨⟩:=rfl
theorem Zzs {str:Bool} {k:AV}:Zt7 str k .nilm=.ret (.tup [],[]):=rfl
theorem Yde {str:Bool} {s:Site} {k:AV} {g:Nat} {al rw var:Bool} {ks vs:List AV}:Z2x str s k ⟨g,al,rw,var,[.mp ks vs]⟩ =
  if rw=true then Zn3 s ⟨g,al,rw,var,[.mp ks vs]⟩ ks vs (Z9 str k ks 0) else .fail:=rfl
theorem Zzt {s:Site} {e:Ent} {ks vs:List AV} {i:Nat}:Zn3 s e ks vs (some (some i))=.ret (.tup [],[(s,{ e with cells:=[.mp (ks.eraseIdx i) (vs.eraseIdx i)] })]):=rfl
theorem Zzu {s:Site} {e:Ent} {ks vs:List AV}:Zn3 s e ks vs (some none)=.ret (.tup [],[]):=rfl
theorem Z6w {s:Site} {g:Nat}:Zt8 (.mpr s g)=(R3 s g).bindW Z2y ⟨⟩:=rfl
theorem Zzv:Zt8 .nilm=.ret (.int .i64 0,[]):=rfl
theorem Ydf {g:Nat} {al rw var:Bool} {ks vs:List AV}:Z2y ⟨g,al,rw,var,[.mp ks vs]⟩=.ret (.int .i64 ks.length,[]):=rfl
theorem Z6x:capV .nils=.ret (.int .i64 0,[]):=rfl
section
variable {k:IntKind} {a b:Int}
def Zzw (k:IntKind) (a b:Int):Int:=k.wrap (BitVec.ofInt k.bits a &&& BitVec.ofInt k.bits b).toNat
def ior (k:IntKind) (a b:Int):Int:=k.wrap (BitVec.ofInt k.bits a ||| BitVec.ofInt k.bits b).toNat
def ixor (k:IntKind) (a b:Int):Int:=k.wrap (BitVec.ofInt k.bits a ^^^ BitVec.ofInt k.bits b).toNat
def iandn (k:IntKind) (a b:Int):Int:=k.wrap (BitVec.ofInt k.bits a &&& ~~~ BitVec.ofInt k.bits b).toNat
def inot (k:IntKind) (n:Int):Int:=k.wrap (BitVec.ofInt k.bits (if k.signed then -1 else k.max) ^^^ BitVec.ofInt k.bits n).toNat
def Zzx (k:IntKind) (a b:Int):Int:=k.wrap (a*2^(Nat.min b.toNat k.bits))
def Zvd (k:IntKind) (a b:Int):Int:=a.fdiv (2^(Nat.min b.toNat k.bits))
theorem Z3j:H8 .add (.int k a) (.int k b)=some (.int k (k.wrap (a+b))):=by simp [H8,U3]
theorem Yjr:H8 .sub (.int k a) (.int k b)=some (.int k (k.wrap (a-b))):=by simp [H8,U3]
theorem Yjs:H8 .mul (.int k a) (.int k b)=some (.int k (k.wrap (a*b))):=by simp [H8,U3]
theorem Yjt:H8 .quo (.int k a) (.int k b)=if b=0 then none else some (.int k (k.wrap (a.tdiv b))):=by simp [H8,U3]
theorem Yju:H8 .rem (.int k a) (.int k b)=if b=0 then none else some (.int k (a.tmod b)):=by simp [H8,U3]
theorem Z3k:H8 .and (.int k a) (.int k b)=some (.int k (Zzw k a b)):=by simp [H8,U3,Zzw]
theorem Ydg:H8 .or (.int k a) (.int k b)=some (.int k (ior k a b)):=by simp [H8,U3,ior]
theorem Z3l:H8 .xor (.int k a) (.int k b)=some (.int k (ixor k a b)):=by simp [H8,U3,ixor]
theorem Zzy:H8 .andNot (.int k a) (.int k b)=some (.int k (iandn k a b)):=by simp [H8,U3,iandn]
theorem Yjv:H8 .eql (.int k a) (.int k b)=some (.bool (a==b)):=by simp [H8,U3]
theorem Yjw:H8 .neq (.int k a) (.int k b)=some (.bool (a != b)):=by simp [H8,U3]
theorem Yjx:H8 .lss (.int k a) (.int k b)=some (.bool (decide (a<b))):=by simp [H8,U3]
theorem Yjy:H8 .leq (.int k a) (.int k b)=some (.bool (decide (a≤b))):=by simp [H8,U3]
theorem Yjz:H8 .gtr (.int k a) (.int k b)=some (.bool (decide (b<a))):=by simp [H8,U3]
theorem Yj0:H8 .geq (.int k a) (.int k b)=some (.bool (decide (b≤a))):=by simp [H8,U3]
theorem Z3m {k':IntKind} (h:0≤b):H8 .shl (.int k a) (.int k' b)=some (.int k (Zzx k a b)):=by
  have:¬ b<0:=by omega
  simp [H8,Zfg,Zzx,this]
theorem Z3n {k':IntKind} (h:0≤b):H8 .shr (.int k a) (.int k' b)=some (.int k (Zvd k a b)):=by
  have:¬ b<0:=by omega
  simp [H8,Zfg,Zvd,this]
end
section
variable {x y:List UInt8}
theorem Ydh:H8 .add (.str x) (.str y)=if x.length+y.length≤9223372036854775807 then some (.str (x++y)) else none:=rfl
theorem Ydi:H8 .eql (.str x) (.str y)=some (.bool (x==y)):=rfl
theorem Ydj:H8 .neq (.str x) (.str y)=some (.bool (!(x==y))):=rfl
theorem Ydk:H8 .lss (.str x) (.str y)=some (.bool (Op.bytesLess x y)):=rfl
theorem Ydl:H8 .leq (.str x) (.str y)=some (.bool (Op.bytesLess x y||x==y)):=rfl
theorem Ydm:H8 .gtr (.str x) (.str y)=some (.bool (!(Op.bytesLess x y||x==y))):=rfl
theorem Ydn:H8 .geq (.str x) (.str y)=some (.bool (!(Op.bytesLess x y))):=rfl
end
theorem Ydo {neg a b:Bool}:Ztx neg (.bool a) (.bool b)=some (.bool (bif neg then !(a==b) else a==b)):=rfl
theorem Yj1 {ks:List Nat} {neg:Bool} {a b:List AV}:eqaV ks neg (.agg a) (.agg b)=optV ((G3 ks a b).map fun e=>.bool (bif neg then !e else e)):=rfl
theorem Yj2 {kd:Nat} {neg:Bool} {x y:AV}:eqnV kd neg x y=(Zfa kd x).bindW (fun a=>(Zfa kd y).bindW (fun b=>eqnB neg a b) ⟨⟩) ⟨⟩:=rfl
theorem Z6y:Zfa 0 .nilp=.ret true:=rfl
theorem Yj3 {cs:List AV} {o:Nat}:Zfa 0 (.fp cs o)=.ret false:=rfl
theorem Ydp {s:Site} {g o:Nat}:Zfa 0 (.ref s g o)=(R3 s g).bindW (fun _=>.ret false) ⟨⟩:=rfl
theorem Z6z:Zfa 1 .nils=.ret true:=rfl
theorem Z60:Zfa 2 .nilm=.ret true:=rfl
theorem Z61:Zfa 3 .nilf=.ret true:=rfl
theorem Ydq {f:Nat} {cs:List AV}:Zfa 3 (.clo f cs)=.ret false:=rfl
theorem Z62:Zfa 4 .nili=.ret true:=rfl
theorem Ydr {t:Nat} {x:AV}:Zfa 4 (.ifc t x)=.ret false:=rfl
theorem Yj4 {neg a b:Bool}:eqnB neg a b=bif a||b then .ret (.bool (bif neg then !(a&&b) else a&&b),[]) else .fail:=rfl
theorem un_neg {k:IntKind} {n:Int}:Zpx .neg (.int k n)=some (.int k (k.wrap (0-n))):=rfl
theorem Yds {k:IntKind} {n:Int}:Zpx .xor (.int k n)=some (.int k (inot k n)):=rfl
theorem un_not {b:Bool}:Zpx .not (.bool b)=some (.bool (!b)):=rfl
def Zve {α β:Type} (x:Option α) (f : α→Option β) (_:Wit f):Option β:=x.bind f
theorem Zzz {α β:Type} {x : α} {f : α→Option β} {w:Wit f}:Zve (some x) f w=f x:=rfl
theorem Z63 {res:List LRes} {sl:List (Nat × AV)} {σ:A1}:Zc9 res ⟨sl,σ⟩=Zve (Zb9 ⟨sl,σ⟩ res) (fun vs=>LetA (M3 σ 64 (ups σ++refsOfs vs) []) (fun acc=>some (Zp0 (rens (N4 Site.r 0 acc) vs),U5 σ (N4 Site.r 0 acc) acc)) ⟨⟩) ⟨⟩:=by
  unfold Zc9 Zve LetA
  cases Zb9 ⟨sl,σ⟩ res<;>rfl
def Ydt {α:Type} (x:Option α) (y:Option (List α)):Option (List α):=match x,y with|some v,some vs=>some (v::vs)|_,_=>none
theorem Zz0 {α:Type} {v : α} {vs:List α}:Ydt (some v) (some vs)=some (v::vs):=rfl
theorem Zz1 {st:St}:Zb9 st []=some []:=rfl
theorem Zvf {st:St} {r:LRes} {rs:List LRes}:Zb9 st (r::rs)=Ydt (Zkq st r) (Zb9 st rs):=by
  unfold Ydt;rw [Zb9];cases Zkq st r<;>cases Zb9 st rs<;>rfl
theorem Z64 {st:St} {t:Nat}:Zkq st (.tmp t)=some (J5 st.sl t):=rfl
theorem Ydu {v:AV}:Zp0 [v]=v:=rfl
theorem Ydv {v w:AV}:Zp0 [v,w]=.tup [v,w]:=rfl
theorem Zz2 {v w x:AV}:Zp0 [v,w,x]=.tup [v,w,x]:=rfl
theorem Z65 {v w x y:AV}:Zp0 [v,w,x,y]=.tup [v,w,x,y]:=rfl
theorem Yj5 {E:Env} {fn:List LRes} {k:List It} {st:St} {l:List Nat} {x:LCode}:X E fn (.c (.loop l x)::k) st=X E fn (.lp l x::k) st:=by rw [X_loop,X_lp]
theorem Ydw {sl:List (Nat × AV)} {n:Nat}:P0 sl [] n=J5 sl n:=rfl
theorem Z66 {sl:List (Nat × AV)} {k n:Nat} {v:AV} {r:List (Nat × AV)}:P0 sl ((k,v)::r) n=T6 (k==n) v (P0 sl r n) ⟨⟩ ⟨⟩:=by
  rw [P0,Zdc];rfl
theorem Ydx {n:Nat}:J5 [] n=.junk:=rfl
theorem Zc2 {k n:Nat} {v:AV} {r:List (Nat × AV)}:J5 ((k,v)::r) n=T6 (k==n) v (J5 r n) ⟨⟩ ⟨⟩:=by
  rw [J5,Zdc];rfl
theorem Zvg {n:Nat} {v:AV}:Zhv [] n v=[(n,v)]:=rfl
theorem Z67 {k n:Nat} {u v:AV} {r:List (Nat × AV)}:Zhv ((k,u)::r) n v=T6 (k==n) ((n,v)::r) ((k,u)::Zhv r n v) ⟨⟩ ⟨⟩:=by
  rw [Zhv,Zdc];rfl
theorem Ydy {s:Site}:B0 [] s=none:=rfl
theorem X0 {t s:Site} {e:Ent} {σ:A1}:B0 ((t,e) :: σ) s=T6 (decide (t=s)) (some e) (B0 σ s) ⟨⟩ ⟨⟩:=by
  rw [B0,Zdc]
theorem Zvh {s:Site} {e:Ent}:H4 [] s e=[(s,e)]:=rfl
theorem Z68 {t s:Site} {e e':Ent} {σ:A1}:H4 ((t,e') :: σ) s e=T6 (decide (t=s)) ((s,e) :: σ) ((t,e')::H4 σ s e) ⟨⟩ ⟨⟩:=by
  rw [H4,Zdc]
def Z3o (σ:A1) (n:Nat) (r acc:List (Site × Nat)) (s:Site) (g:Nat):Option Ent→List (Site × Nat)
  | some e=>T6 (e.alive&&e.g==g) (M3 σ n (r++refsOfs e.cells) (acc++[(s,g)])) (M3 σ n r acc) ⟨⟩ ⟨⟩
  | none=>M3 σ n r acc
theorem Zz3 {σ:A1} {n:Nat} {r acc:List (Site × Nat)} {s:Site} {g:Nat} {e:Ent}:Z3o σ n r acc s g (some e)=T6 (e.alive&&e.g==g) (M3 σ n (r++refsOfs e.cells) (acc++[(s,g)])) (M3 σ n r acc) ⟨⟩ ⟨⟩:=rfl
theorem Zz4 {σ:A1} {n:Nat} {r acc:List (Site × Nat)} {s:Site} {g:Nat}:Z3o σ n r acc s g none=M3 σ n r acc:=rfl
theorem Zvi {σ:A1} {n:Nat} {acc:List (Site × Nat)}:M3 σ (n+1) [] acc=acc:=rfl
theorem Zqm {σ:A1} {n:Nat} {s:Site} {g:Nat} {r acc:List (Site × Nat)}:M3 σ (n+1) ((s,g)::r) acc=T6 (acc.contains (s,g)) (M3 σ n r acc) (Z3o σ n r acc s g (B0 σ s)) ⟨⟩ ⟨⟩:=by
  rw [M3]
  unfold T6
  cases acc.contains (s,g) with
  | true=>simp
  | false =>
    simp only [Bool.false_eq_true,if_false,cond_false]
    cases B0 σ s with
    | none=>rfl
    | some e =>
      simp only [Z3o,T6]
      have hb:(e.g==g)=decide (e.g=g):=by by_cases h2:e.g=g<;>simp [h2]
      rw [hb]
      by_cases h1:e.alive=true<;>by_cases h2:e.g=g<;>simp [h1,h2]
def Zmq (b:Site) (g:Nat):Site→Site × Nat
  | .up x=>(.up x,g)
  | _=>(b,0)
theorem Ydz {b x:Site} {g:Nat}:Zmq b g (.up x)=(.up x,g):=rfl
theorem Yj6 {b:Site} {g n k:Nat}:Zmq b g (.s n k)=(b,0):=rfl
theorem Yj7 {b:Site} {g k:Nat}:Zmq b g (.r k)=(b,0):=rfl
theorem Zvj {base:Nat→Site} {j g:Nat} {s:Site}:N4 base j [] s g=none:=rfl
theorem Zqn {base:Nat→Site} {j g g':Nat} {s s':Site} {r:List (Site × Nat)}:N4 base j ((s',g')::r) s g=T6 (decide (s'=s)&&g' == g) (some (Zmq (base j) g s)) (N4 base (j+1) r s g) ⟨⟩ ⟨⟩:=by
  have hb:(g' == g)=decide (g'=g):=by by_cases h2:g'=g<;>simp [h2]
  unfold T6
  rw [hb]
  by_cases h1:s'=s
  · by_cases h2:g'=g
    · cases s<;>simp [N4,Zmq,h1,h2]
    · cases s<;>simp [N4,Zmq,h1,h2]
  · cases s<;>simp [N4,Zmq,h1]
theorem Yj8:ups []=[]:=rfl
theorem ups_up {s:Site} {e:Ent} {r:A1}:ups ((.up s,e)::r)=T6 e.alive ((.up s,e.g)::ups r) (ups r) ⟨⟩ ⟨⟩:=by
  rw [ups];unfold T6;cases e.alive<;>rfl
theorem ups_s {n k:Nat} {e:Ent} {r:A1}:ups ((.s n k,e)::r)=ups r:=rfl
theorem ups_r {k:Nat} {e:Ent} {r:A1}:ups ((.r k,e)::r)=ups r:=rfl
def renE (f:Site→Nat→Option (Site × Nat)) (x:Option Ent) (y:Option (Site × Nat)) (r:A1):A1:=match x,y with
  | some e,some (s',g')=>(s',{ e with g:=g',cells:=rens f e.cells })::r
  | _,_=>r
theorem Z69 {f:Site→Nat→Option (Site × Nat)} {e:Ent} {s:Site} {g:Nat} {r:A1}:renE f (some e) (some (s,g)) r=(s,{ e with g:=g,cells:=rens f e.cells })::r:=rfl
theorem Zvk {σ:A1} {f:Site→Nat→Option (Site × Nat)}:U5 σ f []=[]:=rfl
theorem Zqo {σ:A1} {f:Site→Nat→Option (Site × Nat)} {s:Site} {g:Nat} {r:List (Site × Nat)}:U5 σ f ((s,g)::r)=renE f (B0 σ s) (f s g) (U5 σ f r):=by
  rw [U5];unfold renE
  cases B0 σ s<;>cases f s g<;>rfl
def Znv (x:Option (Site × Nat)) (k:Site × Nat→AV):AV:=match x with|some p=>k p|none=>.junk
theorem Z7a {s:Site} {g:Nat} {k:Site × Nat→AV}:Znv (some (s,g)) k=k (s,g):=rfl
theorem Z7b {k:Site × Nat→AV}:Znv none k=.junk:=rfl
theorem Yj9 {f:Site→Nat→Option (Site × Nat)} {s:Site} {g o:Nat}:ren f (.ref s g o)=Znv (f s g) (fun p=>.ref p.1 p.2 o):=by
  rw [ren];unfold Znv;cases f s g<;>rfl
theorem Yka {f:Site→Nat→Option (Site × Nat)} {s:Site} {g o n z:Nat}:ren f (.buf s g o n z)=Znv (f s g) (fun p=>.buf p.1 p.2 o n z):=by
  rw [ren];unfold Znv;cases f s g<;>rfl
theorem ren_it {f:Site→Nat→Option (Site × Nat)} {s:Site} {g:Nat}:ren f (.it s g)=Znv (f s g) (fun p=>.it p.1 p.2):=by
  rw [ren];unfold Znv;cases f s g<;>rfl
theorem Ykb {f:Site→Nat→Option (Site × Nat)} {s:Site} {g:Nat}:ren f (.mpr s g)=Znv (f s g) (fun p=>.mpr p.1 p.2):=by
  rw [ren];unfold Znv;cases f s g<;>rfl
theorem Ykc {f:Site→Nat→Option (Site × Nat)} {cs:List AV}:ren f (.agg cs)=.agg (rens f cs):=by rw [ren]
theorem Ykd {f:Site→Nat→Option (Site × Nat)} {cs:List AV}:ren f (.tup cs)=.tup (rens f cs):=by rw [ren]
theorem Yke {f:Site→Nat→Option (Site × Nat)} {g:Nat} {cs:List AV}:ren f (.clo g cs)=.clo g (rens f cs):=by rw [ren]
theorem Ykf {f:Site→Nat→Option (Site × Nat)} {t:Nat} {x:AV}:ren f (.ifc t x)=.ifc t (ren f x):=by rw [ren]
section
variable {f:Site→Nat→Option (Site × Nat)}
theorem Ykg {k:IntKind} {n:Int}:ren f (.int k n)=.int k n:=rfl
theorem Yd0 {b:Bool}:ren f (.bool b)=.bool b:=rfl
theorem Ykh {l:List UInt8}:ren f (.str l)=.str l:=rfl
theorem Yki {cs:List AV} {n:Nat}:ren f (.lst cs n)=.lst cs n:=rfl
theorem ren_fp {cs:List AV} {n:Nat}:ren f (.fp cs n)=.fp cs n:=rfl
theorem Yd1:ren f .nilp=.nilp:=rfl
theorem Yd2:ren f .nils=.nils:=rfl
theorem Yd3:ren f .nilf=.nilf:=rfl
theorem Yd4:ren f .nili=.nili:=rfl
theorem Yd5:ren f .nilm=.nilm:=rfl
theorem Yd6:ren f .junk=.junk:=rfl
theorem Ykj:ren f .und=.und:=rfl
theorem Ykk {l:List UInt8} {p:Nat}:ren f (.itr l p)=.itr l p:=rfl
theorem ren_mp {ks vs:List AV}:ren f (.mp ks vs)=.mp ks vs:=rfl
theorem Yd7:rens f []=[]:=rfl
theorem Z7c {c:AV} {cs:List AV}:rens f (c::cs)=ren f c::rens f cs:=rfl
end
theorem Yd8 {b:Ups}:Zac b []=[]:=rfl
def Yd9 (s:Site) (e:Ent) (r:Ups):Option Ent→Ups
  | some _=>r
  | none=>(s,{ e with alive:=false,cells:=[] })::r
theorem Zz5 {s:Site} {e x:Ent} {r:Ups}:Yd9 s e r (some x)=r:=rfl
theorem Zz6 {s:Site} {e:Ent} {r:Ups}:Yd9 s e r none=(s,{ e with alive:=false,cells:=[] })::r:=rfl
theorem Z7d {b:Ups} {s:Site} {e:Ent} {r:List (Site × Ent)}:Zac b ((s,e)::r)=Yd9 s e (Zac b r) (B0 b s):=by
  rw [Zac];cases B0 b s<;>rfl
theorem Zvl {d g:Nat} {gs:List (Nat × Nat)} {s:Site}:G4 d gs (.up s) g=some (s,g):=rfl
def Yea (d k g:Nat):Option Nat→Option (Site × Nat)
  | some g'=>T6 (g==0) (some (.s d k,g')) none ⟨⟩ ⟨⟩
  | none=>none
theorem Zz7 {d k g g':Nat}:Yea d k g (some g')=T6 (g==0) (some (.s d k,g')) none ⟨⟩ ⟨⟩:=rfl
theorem Zz8 {d g k:Nat} {gs:List (Nat × Nat)}:G4 d gs (.r k) g=Yea d k g (gs.lookup k):=by
  rw [G4]
  cases gs.lookup k with
  | none=>rfl
  | some x =>
    have hb:(g==0)=decide (g=0):=by by_cases h2:g=0<;>simp [h2]
    simp only [Yea,T6,hb];by_cases h:g=0<;>simp [h]
theorem Zqp {d:Nat} {gs:List (Nat × Nat)}:E3 d gs []=[]:=rfl
def backE (f:Site→Nat→Option (Site × Nat)) (e:Ent) (r:Ups):Option (Site × Nat)→Ups
  | some p=>(p.1,{ e with g:=p.2,cells:=rens f e.cells })::r
  | none=>r
theorem Zz9 {f:Site→Nat→Option (Site × Nat)} {e:Ent} {r:Ups} {s:Site} {g:Nat}:backE f e r (some (s,g))=(s,{ e with g:=g,cells:=rens f e.cells })::r:=rfl
theorem Zqq {d:Nat} {gs:List (Nat × Nat)} {s:Site} {e:Ent} {r:A1}:E3 d gs ((s,e)::r)=backE (G4 d gs) e (E3 d gs r) (G4 d gs s e.g):=by
  rw [E3];cases G4 d gs s e.g<;>rfl
def upN (g:Nat) (s:Site):Option Ent→Option (Site × Nat)
  | some e=>T6 (e.g==g) (some (.up s,g)) none ⟨⟩ ⟨⟩
  | none=>none
theorem Yeb {g:Nat} {s:Site} {e:Ent}:upN g s (some e)=T6 (e.g==g) (some (.up s,g)) none ⟨⟩ ⟨⟩:=rfl
theorem Z7e {es:List (Site × Ent)} {s:Site} {g:Nat}:Zaf es s g=upN g s (B0 es s):=by
  unfold Zaf upN
  cases B0 es s with
  | none=>rfl
  | some e =>
    have hb:(e.g==g)=decide (e.g=g):=by by_cases h2:e.g=g<;>simp [h2]
    simp only [T6,hb];by_cases h:e.g=g<;>simp [h]
theorem Z0a {n m:Nat} {k:List It}:S9 n (.blk m::k)=T6 (m==n) (some k) (S9 n k) ⟨⟩ ⟨⟩:=by
  rw [S9,Zdc];rfl
theorem Yec {n:Nat} {x:LCode} {k:List It}:S9 n (.c x::k)=S9 n k:=rfl
theorem Z7f {n:Nat} {l:List Nat} {x:LCode} {k:List It}:S9 n (.lp l x::k)=S9 n k:=rfl
theorem Z0b {n:Nat} {x:LCode} {k:List It}:S9 n (.scp x::k)=S9 n k:=rfl
theorem Ykl {n:Nat} {x:LCode} {k:List It}:Zaa n (.c x::k)=Zaa n k:=rfl
theorem Yed {n:Nat} {l:List Nat} {x:LCode} {k:List It}:Zaa n (.lp l x::k)=Zaa n k:=rfl
theorem Z7g {n m:Nat} {k:List It}:Zaa n (.blk m::k)=Zaa n k:=rfl
def Yee (n:Nat) (x:LCode) (k:List It):Option LCode→Option (List It)
  | some r=>some (.c r::.scp x::k)
  | none=>Zaa n k
theorem Z7h {n:Nat} {x:LCode} {k:List It}:Zaa n (.scp x::k)=Yee n x k (Q4 x n):=by
  rw [Zaa];cases Q4 x n<;>rfl
theorem Z0c {n:Nat} {x r:LCode} {k:List It}:Yee n x k (some r)=some (.c r::.scp x::k):=rfl
theorem Z0d {n:Nat} {x:LCode} {k:List It}:Yee n x k none=Zaa n k:=rfl
def Yef (b:LCode) (l:Nat):Option LCode→Option LCode
  | some r=>some (.seq r b)
  | none=>Q4 b l
theorem Z7i {a b:LCode} {l:Nat}:Q4 (.seq a b) l=Yef b l (Q4 a l):=by
  rw [Q4];cases Q4 a l<;>rfl
theorem Z0e {b r:LCode} {l:Nat}:Yef b l (some r)=some (.seq r b):=rfl
theorem Z0f {b:LCode} {l:Nat}:Yef b l none=Q4 b l:=rfl
theorem Zvm {m l:Nat}:Q4 (.label m) l=T6 (m==l) (some .skip) none ⟨⟩ ⟨⟩:=by
  rw [Q4,Zdc];rfl
theorem Z0g {l:Nat}:Q4 .skip l=none:=rfl
theorem Z7j {l:Nat}:Q4 .ret l=none:=rfl
theorem Z0h {l n:Nat}:Q4 (.exit n) l=none:=rfl
theorem Z7k {l:Nat} {o:List LOper} {p:List Nat}:Q4 (.reg o p) l=none:=rfl
theorem Z0i {l:Nat} {o:List LOper} {q:List (Nat × Nat)} {p:List Nat}:Q4 (.dreg o q p) l=none:=rfl
theorem Z0j {l:Nat} {c:LO} {a b:LCode}:Q4 (.cond c a b) l=none:=rfl
theorem Zvn {l n:Nat} {a:LCode}:Q4 (.block n a) l=none:=rfl
theorem Z0k {l:Nat} {v:List Nat} {a:LCode}:Q4 (.loop v a) l=none:=rfl
theorem Zvo {l:Nat} {a:LCode}:Q4 (.scope a) l=none:=rfl
theorem Z0l {l n:Nat}:Q4 (.goto n) l=none:=rfl
theorem Yeg {k:IntKind} {n:Int}:R1 (.int k n)=true:=rfl
theorem Z0m {k:IntKind} {n:Int}:I6 (.int k n)=some [.int k n]:=rfl
theorem Z7l {b:Bool}:R1 (.bool b)=true:=rfl
theorem Zvp {b:Bool}:I6 (.bool b)=some [.bool b]:=rfl
theorem Yeh {l:List UInt8}:R1 (.str l)=true:=rfl
theorem Z0n {l:List UInt8}:I6 (.str l)=some [.str l]:=rfl
theorem Z7m  : R1 .nilp=true:=rfl
theorem Zvq  : I6 .nilp=some [.nilp]:=rfl
theorem Z7n  : R1 .nils=true:=rfl
theorem Zvr  : I6 .nils=some [.nils]:=rfl
theorem Z7o  : R1 .nilf=true:=rfl
theorem Zvs  : I6 .nilf=some [.nilf]:=rfl
theorem Z7p  : R1 .nili=true:=rfl
theorem Zvt  : I6 .nili=some [.nili]:=rfl
theorem Z7q  : R1 .nilm=true:=rfl
theorem Zvu  : I6 .nilm=some [.nilm]:=rfl
theorem Yei {cs:List AV} {n:Nat}:R1 (.lst cs n)=true:=rfl
theorem Z0o {cs:List AV} {n:Nat}:I6 (.lst cs n)=some [.lst cs n]:=rfl
theorem Ykm {cs:List AV} {n:Nat}:R1 (.fp cs n)=true:=rfl
theorem Z7r {cs:List AV} {n:Nat}:I6 (.fp cs n)=some [.fp cs n]:=rfl
theorem Yej {s:Site} {g o:Nat}:R1 (.ref s g o)=true:=rfl
theorem Z0p {s:Site} {g o:Nat}:I6 (.ref s g o)=some [.ref s g o]:=rfl
theorem Yek {s:Site} {g o n z:Nat}:R1 (.buf s g o n z)=true:=rfl
theorem Z0q {s:Site} {g o n z:Nat}:I6 (.buf s g o n z)=some [.buf s g o n z]:=rfl
theorem Yel {f:Nat} {cs:List AV}:R1 (.clo f cs)=true:=rfl
theorem Z0r {f:Nat} {cs:List AV}:I6 (.clo f cs)=some [.clo f cs]:=rfl
theorem Yem {t:Nat} {x:AV}:R1 (.ifc t x)=true:=rfl
theorem Z0s {t:Nat} {x:AV}:I6 (.ifc t x)=some [.ifc t x]:=rfl
theorem Yen {s:Site} {g:Nat}:R1 (.mpr s g)=true:=rfl
theorem Z0t {s:Site} {g:Nat}:I6 (.mpr s g)=some [.mpr s g]:=rfl
theorem Z0u {cs:List AV}:I6 (.agg cs)=some cs:=rfl
theorem Zvv {ts:List (List Site × List Site)}:Y9 ts []=true:=rfl
theorem Zqr {ts:List (List Site × List Site)} {i j:Nat} {r:List (Nat × Nat)}:Y9 ts ((i,j)::r)=(Zt9 (ts.getD i ([],[])) (ts.getD j ([],[]))&&Y9 ts r):=rfl
theorem Ykn {a b c d:List Site}:Zt9 (a,b) (c,d)=(!(Zcc b c) && !(Zcc b d) && !(Zcc a d)):=rfl
theorem Z0v {t:List Site}:Zcc [] t=false:=rfl
theorem Z0w {s:Site} {ss t:List Site}:Zcc (s::ss) t=(t.contains s||Zcc ss t):=rfl
theorem Yko {cs:List AV}:fix cs=T6 (flats cs) (.ret (cs,[],[])) ((views cs).bindW (fun p=>(Zfh p.2).bindW (fun u=>.ret (p.1,u,p.2)) ⟨⟩) ⟨⟩) ⟨⟩ ⟨⟩:=by
  unfold fix T6
  cases flats cs<;>rfl
theorem Z7s {cs:List AV}:Zbx (.agg cs)=T6 (flats cs) (.ret (.agg cs,[])) ((views cs).bindW (fun p=>.ret (.agg p.1,p.2)) ⟨⟩) ⟨⟩ ⟨⟩:=by
  rw [Zbx];unfold T6
  cases flats cs<;>rfl
attribute [go_sem] Ybu Yc7 Ybv Ybw Zy0 Z5e Z5f Z5g Z5h Yc8 Yc9 Yjq Yda Z6o Zzf Ydb Zzg Zzh Ydc Z6p Z6q Ydd Zzi Zzj Zzk Zzl Zva Zzm Zzn Zzo Zvb Zzp Zvc Z6r Z6s Zzq Z6t Z6u Zzr Z6v Zzs Yde Zzt Zzu Z6w Zzv Ydf ren_it Ykb Ykk ren_mp Yen Z0t
  Yix Ya8 Z47 Ya9 Yba Zyy Zu0 Yiy Yiz Zyz Ybb Yi0 Ybf Ybg Ybh Ybi Ybj Z48 Ybk Z49 Z5a Ybl Yi1 Yi2 Ybm Yi3 Yi4 Ybn Ybo Z5b Ybp Z5c Ybq Z5d Ybr Ybs Ybt Z5i
  evR_t evR_k evR_g evR_f ev_t ev_k Z5j Z5k Ybx Yi5 Yby Yi6 Ybz Z5l Yi7 Yi8 Yb0 Z5m Z5n Z5o Zu1 Zy1 Zfu Zop Z5p Zu2 one_eq Yi9 Zy2 mk_eq Yb1 Yb2 Yb3 Yb4
  Zoq Zy3 Z5q Z5r Yb5 Z5s Z5t Zy4 Zy5 Zy6 Zy7 V4.eq_1 V4.eq_2 V4.eq_3 Yb6 Z5u Yb7 Yb8 Yja Yb9 Z5v Z5w Z5x Z5y Z5z Yca Ycb Z7s Z50 Z54 Zhj Ycc Ycd Zu3 Z55 Zy8 Yko Zlz.eq_1 R4.eq_1 R4.eq_2 R4.eq_3 R4.eq_4 Z51 Z52 Z53 Z56 Zzb Z57 Zzc Yjb Zu7 Zql Ycg Ych Yjc Yjd Yci Ycj
  stC_eq Yje Zzd Z59 Zmo Yck Ycl Z6a Ycm Ycn Yco Ycp Ycq Ycr Ycs Yct Ycu Ycv Z6b Yjf slR_eq slB_fp Ycw Ycx Ycy Z6c Yjg Yjh Ycz Yji Yjj faV_fp Z6d Z6e Yjk iaV_fp Yjl Yjm Zmp Yjn Yjo
  Yc0 Yc1 Yc2 Z6f Yjp Zu9 Z6g Yc3 Z6h Z6i Z6j Z6k Z6l Zze Z6m Yc4 Z6n Yc5 Yc6 Z6x
  Z3j Yjr Yjs Yjt Yju Z3k Ydg Z3l Zzy Yjv Yjw Yjx Yjy Yjz Yj0 Z3m Z3n Ydh Ydi Ydj Ydk Ydl Ydm Ydn Ybc Ybd Ybe Ydo Yj1 Yj2 Z6y Yj3 Ydp Z6z Z60 Z61 Ydq Z62 Ydr Yj4 un_neg Yds un_not
  Z63 Z64 Ydu Ydv Zz2 Z65
  X_seq Yiu X_ret X_skip X_regY X_regZ Yir Zvv Zqr Ykn Z0v Z0w List.getD_cons_zero List.getD_cons_succ Yh4 X_blk Yj5 Yiv Z0a Yec Z7f X_scp Yh2 Yh3 Yiw Z0b Ykl Yed Z7g Z7h Z0c Z0d Z7i Z0e Z0f Zvm Z0g Z7j Z0h Z7k Z0i Z0j Zvn Z0k Zvo Z0l Z42 Zyv X_nil Y_nil Y_op Yis Z_nil Z_op Yit Yio Yip Ya6 Br_not Zyw Yiq Zzz Zz0 Zz1 Zvf Ya7 Z43 Z44 Z45 Z46 params Ydw Z66 Ydx Zc2 Zvg Z67 B8 Zvh Z68 Ydy X0 Zbi Zz3 Zz4 Zvi Zqm Yj8 ups_up ups_s ups_r refsOfs X1 Z69 Zvk Zqo Ydz Yj6 Yj7 Zvj Zqn Yd7 Z7c Z7a Z7b Yj9 Yka Ykc Ykd Yke Ykf Ykg Yd0 Ykh Yki ren_fp Yd1 Yd2 Yd3 Yd4 Yd5 Yd6 Ykj L9 flats Yeg Z0m Z7l Zvp Yeh Z0n Z7m Zvq Z7n Zvr Z7o Zvs Z7p Zvt Z7q Zvu Yei Z0o Ykm Z7r Yej Z0p Yek Z0q Yel Z0r Yem Z0s Z0u I7 Q3 leadss  Znz Z58 Zu8
  Zu4 Zqj Zy9 Zu5 Zqk Zza Zu6 Zvl Zz7 Zz8 Zqp Zz9 Zqq Yd8 Zz5 Zz6 Z7d tidy Zt0 V5 Yce Ycf M7 Yeb Z7e Zax Zl0 Zay rep bytesOf
  if_true if_false Nat.add_zero Nat.zero_add and_self and_true true_and cond_true cond_false Site.s.injEq Site.r.injEq Site.up.injEq List.append_nil List.nil_append List.cons_append List.contains_nil List.contains_cons List.map_nil List.map_cons List.length_nil List.length_cons List.lookup_cons Option.map_some Option.map_none Bool.or_false Bool.false_or Bool.or_true Bool.true_or Bool.not_true Bool.not_false beq_self_eq_true List.flatMap_nil List.flatMap_cons Option.isSome_some Option.isSome_none BEq.rfl eq_self Bool.and_true Bool.true_and Bool.and_false Bool.false_and Nat.le_refl decide_true decide_false beq_true beq_false List.getElem?_cons_zero List.getElem?_cons_succ List.getElem?_nil
end Cod

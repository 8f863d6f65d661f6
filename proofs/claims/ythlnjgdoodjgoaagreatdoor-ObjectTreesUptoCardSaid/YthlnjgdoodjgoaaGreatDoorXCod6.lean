/- Rules by which simp runs the abstract code. -/
import Derived.Attr
import Derived.Test.YthlnjgdoodjgoaaGreatDoorXCod5
set_option linter.unusedSimpArgs false
set_option linter.unusedVariables false
namespace Cod
open Go
section
variable {call:J2} {ρ:LO→AV} {d:Nat}
theorem Yae {x}:step call ρ d (.mv x)=one (ρ x):=rfl
theorem Z3o {sz}:step call ρ d (.nil sz)=Zar (.s d 0) [] 0 sz []:=rfl
theorem Zyi {c} {a} {b}:step call ρ d (.pick c a b)=Zol (ρ c) (ρ a) (ρ b):=rfl
theorem Z3p {cells}:step call ρ d (.new cells)=Zgo (.s d 0) cells:=rfl
theorem Z3q {x}:step call ρ d (.box x)=boxV (.s d 0) (H3 (ρ x)):=rfl
theorem Zsx {zero} {ps}:step call ρ d (.build zero ps)=Zku (X3 ρ ps (some zero)):=rfl
theorem Zpl {sz} {n} {zero} {ps}:step call ρ d (.bslice sz n zero ps)=Zep (.s d 0) n sz (X3 ρ ps (some (rep zero n))):=rfl
theorem Yaf {n} {a}:step call ρ d (.ld n a)=ldV n (ρ a):=rfl
theorem Yag {n} {a} {x}:step call ρ d (.st n a x)=stV n (ρ a) (H3 (ρ x)):=rfl
theorem Zsy {x}:step call ρ d (.nilck x)=Zfw (ρ x):=rfl
theorem Z3r {op} {x} {y}:step call ρ d (.bin op x y)=optV (G6 op (ρ x) (ρ y)):=rfl
theorem Z3s {neg} {x} {y}:step call ρ d (.eqb neg x y)=optV (Zoh neg (ρ x) (ρ y)):=rfl
theorem Z3t {ks} {neg} {x} {y}:step call ρ d (.eqa ks neg x y)=eqaV ks neg (ρ x) (ρ y):=rfl
theorem Z3u {kd} {neg} {x} {y}:step call ρ d (.eqn kd neg x y)=eqnV kd neg (ρ x) (ρ y):=rfl
theorem Yah {op} {x}:step call ρ d (.un op x)=optV (Zkt op (ρ x)):=rfl
theorem Z3v {k} {x}:step call ρ d (.cvi k x)=Zkv k (ρ x):=rfl
theorem Z3w {x}:step call ρ d (.s2s x)=s2sV (ρ x):=rfl
theorem Z3x {x}:step call ρ d (.s2b x)=s2bV (.s d 0) (ρ x):=rfl
theorem Z3y {x}:step call ρ d (.b2s x)=Zr2 (ρ x):=rfl
theorem Z3z {x} {lo} {hi}:step call ρ d (.sls x lo hi)=slsV (ρ x) (loV (lo.map ρ)) (hiV (Zba none (ρ x)) (hi.map ρ)):=rfl
theorem Zyj {x}:step call ρ d (.lens x)=Zon (ρ x):=rfl
theorem Z30 {x}:step call ρ d (.b2b x)=b2bV (ρ x):=rfl
theorem Zyk {t} {x}:step call ρ d (.mkif t x)=Zi9 t (ρ x):=rfl
theorem Zyl {f} {cap}:step call ρ d (.mkfn f cap)=one (.clo f (cap.map ρ)):=rfl
theorem Z31 {sz} {bytes} {zero} {l} {c}:step call ρ d (.mks sz bytes zero l c)=mksV (.s d 0) sz bytes zero (ρ l) (ρ c):=rfl
theorem Yai {sz} {arr} {x} {lo} {hi}:step call ρ d (.sl sz arr x lo hi)=slV sz arr (ρ x) (loV (lo.map ρ)) (hiV (Zba arr (ρ x)) (hi.map ρ)):=rfl
theorem Yaj {x} {off}:step call ρ d (.fa x off)=faV off (ρ x):=rfl
theorem Z32 {x} {off} {n}:step call ρ d (.fld x off n)=Zom off n (ρ x):=rfl
theorem Yak {sz} {arr} {x} {i}:step call ρ d (.ia sz arr x i)=iaV sz arr (ρ x) (ρ i):=rfl
theorem Yal {sz} {arr} {agg} {x} {i}:step call ρ d (.ix sz arr agg x i)=ixV sz agg arr (ρ x) (ρ i):=rfl
theorem Z33 {n} {sz} {x}:step call ρ d (.s2a n sz x)=s2aV n sz (ρ x):=rfl
theorem Z34 {x} {i}:step call ρ d (.ext x i)=extV i (ρ x):=rfl
theorem Zym {f} {args} {take}:step call ρ d (.call f args take)=Zeq call d take (args.map ρ) (ρ f):=rfl
theorem Z35 {sz} {bytes} {s} {x}:step call ρ d (.app sz bytes s x)=(O5 sz (ρ x)).bindW (fun p=>(fix p.1).bindW (fun q=>Zer (.s d 0) sz bytes p.2 q.1 q.2.1 q.2.2 (ρ s)) ⟨⟩) ⟨⟩:=rfl
theorem Zyn {sz} {bytes} {zero} {s} {n}:step call ρ d (.appz sz bytes zero s n)=Zja (.s d 0) sz bytes zero (ρ s) (ρ n):=rfl
theorem Z36 {arr} {x}:step call ρ d (.len arr x)=Zgp arr (ρ x):=rfl
theorem Zyo {sz} {dd} {s}:step call ρ d (.copy sz dd s)=(O5 sz (ρ s)).bindW (fun p=>Zoo sz p.2 p.1 (ρ dd)) ⟨⟩:=rfl
theorem Z37 {x} {y}:step call ρ d (.min x y)=minV (ρ x) (ρ y):=rfl
theorem Z38 {x} {y}:step call ρ d (.max x y)=maxV (ρ x) (ρ y):=rfl
theorem Z39 {x}:step call ρ d (.cap x)=capV (ρ x):=rfl
theorem Z4a {x}:step call ρ d (.r2s x)=r2sV (ρ x):=rfl
theorem Z4b {x}:step call ρ d (.rng x)=rngV (.s d 0) (ρ x):=rfl
theorem Z4c {x}:step call ρ d (.nxt x)=nxtV (ρ x):=rfl
theorem Zsz:step call ρ d .mkmap=Zht (.s d 0) (.mp [] []) (.mpr (.s d 0)):=rfl
theorem Zyp {str zero ok m k}:step call ρ d (.mget str zero ok m k)=Zop str zero ok (ρ k) (ρ m):=rfl
theorem Zyq {str m k x}:step call ρ d (.mput str m k x)=Zoq str (S3 (ρ x)) (ρ k) (H3 (ρ x)) (ρ m):=rfl
theorem Zyr {str m k}:step call ρ d (.mdel str m k)=Zor str (ρ k) (ρ m):=rfl
theorem Zys {x}:step call ρ d (.mlen x)=Zos (ρ x):=rfl
theorem Zyt:step call ρ d (.stop)=.fail:=rfl
end
section
variable {E:Env} {sl loc:List (Nat × AV)}
theorem evR_t {n:Nat}:evR E sl loc (.t n)=M2 sl loc n:=rfl
theorem evR_k {v:AV}:evR E sl loc (.k v)=v:=rfl
theorem evR_g {n:Nat}:evR E sl loc (.g n)=Zd9 (E.glob n):=rfl
theorem evR_f {n:Nat}:evR E sl loc (.f n)=.clo n []:=rfl
theorem ev_t {n:Nat}:ev E sl (.t n)=Q5 sl n:=rfl
theorem ev_k {v:AV}:ev E sl (.k v)=v:=rfl
theorem Zyu {n:Nat}:R0 (some n)=n:=rfl
theorem Zyv:R0 none=0:=rfl
end
theorem Z4d {b:Bool}:gdV (.bool b)=true:=rfl
theorem Yam:gdV .und=true:=rfl
theorem Z4e {w b:Bool}:gdB w (.bool b)=(b==w):=rfl
theorem Yan {w:Bool}:gdB w .und=false:=rfl
theorem Z4f {b:Bool}:isB (.bool b)=true:=rfl
theorem Zyw {k:List It}:outO (some k)=k:=rfl
theorem Yao {α:Type} {a : α} {σ:A3}:(Acc.ret a).run σ=some a:=rfl
theorem Yap {α:Type} {s:Site} {k:Option Ent→Acc α} {σ:A3}:(Acc.get s k).run σ=(k (A6 σ s)).run σ:=rfl
theorem Z4g {α β:Type} {a : α} {f : α→Acc β}:(Acc.ret a).bind f=f a:=rfl
theorem Zyx {α:Type} {a : α} {σ:A3}:(Acc.ret a).reads σ=[]:=rfl
theorem Zyy {α:Type} {s:Site} {k:Option Ent→Acc α} {σ:A3}:(Acc.get s k).reads σ=s::(k (A6 σ s)).reads σ:=rfl
theorem Zyz {α β:Type} {s:Site} {k:Option Ent→Acc α} {f : α→Acc β} {σ:A3}:((Acc.get s k).bind f).run σ=((k (A6 σ s)).bind f).run σ:=rfl
theorem Zpm {α β:Type} {s:Site} {k:Option Ent→Acc α} {f : α→Acc β} {σ:A3}:((Acc.get s k).bind f).reads σ=s::((k (A6 σ s)).bind f).reads σ:=rfl
theorem Zjy {α β γ:Type} (x:Acc α) (f : α→Acc β) (g : β→Acc γ):(x.bind f).bind g=x.bind fun a=>(f a).bind g:=by
  induction x with
  | ret a=>rfl
  | fail=>rfl
  | get s k ih=>exact congrArg (Acc.get s) (funext fun e=>ih e)
theorem Zs0 {α β γ:Type} (x:Acc α) (f : α→Acc β) (g : β→Acc γ) (w:Wit g):(x.bind f).bindW g w=x.bindW (fun a=>(f a).bindW g ⟨⟩) ⟨⟩:=Zjy x f g
theorem Zpn {α β γ:Type} (x:Acc α) (f : α→Acc β) (v:Wit f) (g : β→Acc γ) (w:Wit g):(x.bindW f v).bindW g w=x.bindW (fun a=>(f a).bindW g ⟨⟩) ⟨⟩:=Zjy x f g
theorem Zy0 {α β:Type} {a : α} {f : α→Acc β} {w:Wit f}:(Acc.ret a).bindW f w=f a:=rfl
theorem Zy1 {α β:Type} {s:Site} {k:Option Ent→Acc α} {f : α→Acc β} {w:Wit f} {σ:A3}:((Acc.get s k).bindW f w).run σ=((k (A6 σ s)).bindW f ⟨⟩).run σ:=rfl
theorem Zpo {α β:Type} {s:Site} {k:Option Ent→Acc α} {f : α→Acc β} {w:Wit f} {σ:A3}:((Acc.get s k).bindW f w).reads σ=s::((k (A6 σ s)).bindW f ⟨⟩).reads σ:=rfl
theorem one_eq {x:AV}:one x=.ret (x,[]):=rfl
theorem Yaq {s:Site} {g:Nat}:O4 s g=.get s (Zoi g):=rfl
theorem Zs1 {g:Nat} {e:Ent}:Zoi g (some e)=if e.alive=true∧e.g=g then .ret e else .fail:=rfl
theorem mk_eq {s:Site} {v:Bool} {cs:List AV}:mk s v cs=.get s (mkE s v cs):=rfl
theorem Z4h {s:Site} {v:Bool} {cs:List AV} {e:Ent}:mkE s v cs (some e)=.ret (e.g+1,[(s,⟨e.g+1,true,true,v,cs⟩)]):=rfl
theorem Z4i {s:Site} {v:Bool} {cs:List AV}:mkE s v cs none=.ret (0,[(s,⟨0,true,true,v,cs⟩)]):=rfl
theorem Z4j {s:Site} {cs:List AV}:Zgo s cs=(mk s true cs).bindW (fun p=>.ret (.ref s p.1 0,p.2)) ⟨⟩:=rfl
theorem Z4k {s:Site} {cs:List AV} {n sz:Nat} {u:Ups}:Zar s cs n sz u=(mk s false cs).bindW (fun p=>.ret (.buf s p.1 0 n sz,u++p.2)) ⟨⟩:=rfl
theorem Zy2 {k:IntKind} {n:Int}:S0 (.int k n)=.ret (.int k n,[]):=rfl
theorem Zs2 {b:Bool}:S0 (.bool b)=.ret (.bool b,[]):=rfl
theorem Zy3 {l:List UInt8}:S0 (.str l)=.ret (.str l,[]):=rfl
theorem Zy4 {cs:List AV} {n:Nat}:S0 (.lst cs n)=.ret (.lst cs n,[]):=rfl
theorem Z4l {cs:List AV} {n:Nat}:S0 (.fp cs n)=.ret (.fp cs n,[]):=rfl
theorem Zs3:S0 .nilp=.ret (.nilp,[]):=rfl
theorem Zs4:S0 .nilf=.ret (.nilf,[]):=rfl
theorem Zs5:S0 .nili=.ret (.nili,[]):=rfl
theorem Zs6:S0 .nilm=.ret (.nilm,[]):=rfl
theorem Zy5 {f:Nat} {cs:List AV}:S0 (.clo f cs)=if flats cs=true then .ret (.clo f cs,[]) else .fail:=rfl
theorem Zy6 {t:Nat} {x:AV}:S0 (.ifc t x)=if J6 x=true then .ret (.ifc t x,[]) else .fail:=rfl
theorem Z4m {k:IntKind} {n:Int}:Zag (.int k n)=.ret (.int k n,[]):=rfl
theorem Zy7 {b:Bool}:Zag (.bool b)=.ret (.bool b,[]):=rfl
theorem Z4n {l:List UInt8}:Zag (.str l)=.ret (.str l,[]):=rfl
theorem Z4o {cs:List AV} {n:Nat}:Zag (.lst cs n)=.ret (.lst cs n,[]):=rfl
theorem Yar {cs:List AV} {n:Nat}:Zag (.fp cs n)=.ret (.fp cs n,[]):=rfl
theorem Zy8:Zag .nils=.ret (.lst [] 0,[]):=rfl
theorem Zy9:Zag .nilp=.ret (.nilp,[]):=rfl
theorem Zza:Zag .nilf=.ret (.nilf,[]):=rfl
theorem Zzb:Zag .nili=.ret (.nili,[]):=rfl
theorem Zzc:Zag .nilm=.ret (.nilm,[]):=rfl
theorem Z4p {t:Nat} {x:AV}:Zag (.ifc t x)=if J6 x=true then .ret (.ifc t x,[]) else .fail:=rfl
theorem Z4q {s:Site} {g off n z:Nat}:Zag (.buf s g off n z)=(O4 s g).bindW (Z2e off n z s) ⟨⟩:=rfl
theorem Z4r {s:Site} {g off:Nat}:Zag (.ref s g off)=(O4 s g).bindW (Z2f off s) ⟨⟩:=rfl
theorem Zzd {f:Nat}:Zag (.clo f [])=.ret (.clo f [],[]):=rfl
theorem Z4s {off n z:Nat} {s:Site} {e:Ent}:Z2e off n z s e=if off+n*z≤e.cells.length∧flats e.cells=true then .ret (.lst (sub e.cells off (n*z)) n,[s]) else .fail:=rfl
theorem Z4t {off:Nat} {s:Site} {e:Ent}:Z2f off s e=if flats e.cells=true then .ret (.fp e.cells off,[s]) else .fail:=rfl
theorem Zpp {s:Site} {u:Ups} {e:Ent}:Zhq s u (some e)=.ret ((s,{ e with rw:=false })::u):=rfl
theorem Zze {sz off n z:Nat} {e:Ent}:Z2g sz off n z e=if z=sz∧off+n*z≤e.cells.length then .ret (sub e.cells off (n*z),n) else .fail:=rfl
theorem Zzf {k:Nat} {l:List (Nat × Nat)} {e:Ent}:genE k l (some e)=.ret ((k,e.g+1)::l):=rfl
theorem Zzg {k:Nat} {l:List (Nat × Nat)}:genE k l none=.ret ((k,0)::l):=rfl
theorem Zpq {i:Nat} {take:List Nat}:O6 i take []=.ret ([],[],[]):=rfl
theorem Zlf {i:Nat} {take:List Nat} {x:AV} {xs:List AV}:O6 i take (x::xs) =
    T3 (take.contains i) ((O6 (i+1) take xs).bindW (fun p=>.ret (x::p.1,U7 x++p.2.1,p.2.2)) ⟨⟩)
      ((Zag x).bindW (fun q=>(O6 (i+1) take xs).bindW (fun p=>.ret (q.1::p.1,p.2.1,q.2++p.2.2)) ⟨⟩) ⟨⟩) ⟨⟩ ⟨⟩:=rfl
theorem Zzh:views []=.ret ([],[]):=rfl
theorem Zs7 {c:AV} {cs:List AV}:views (c::cs)=(S0 c).bindW (fun p=>(views cs).bindW (fun q=>.ret (p.1::q.1,p.2++q.2)) ⟨⟩) ⟨⟩:=rfl
theorem Zzi:Zc1 []=.ret []:=rfl
theorem Zs8 {s:Site} {ss:List Site}:Zc1 (s::ss)=(Zc1 ss).bindW (fun u=>.get s (Zhq s u)) ⟨⟩:=rfl
theorem Zs9 {n:Nat} {seen:List Site}:X1 (n+1) [] seen=.ret []:=rfl
theorem Zpr {n:Nat} {s:Site} {g:Nat} {r:List (Site × Nat)} {seen:List Site}:X1 (n+1) ((s,g)::r) seen =
    T3 (seen.contains s) (X1 n r seen)
      ((O4 s g).bindW (fun e=>(X1 n (r++refsOfs e.cells) (s::seen)).bindW (fun u=>.ret ((s,e)::u)) ⟨⟩) ⟨⟩) ⟨⟩ ⟨⟩:=rfl
theorem Zlg {d:Nat}:N8 d []=.ret []:=rfl
theorem Zta {d k:Nat} {e:Ent} {r:A3}:N8 d ((.r k,e)::r)=(N8 d r).bindW (fun l=>.get (.s d k) (genE k l)) ⟨⟩:=rfl
theorem Zps {d:Nat} {x:Site} {e:Ent} {r:A3}:N8 d ((.up x,e)::r)=N8 d r:=rfl
theorem Zzj {call:J2} {d f:Nat} {args:List AV} {take:List Nat}:Z4 call d f args take =
  (O6 0 take args).bindW (fun p=>(X1 64 p.2.1 []).bindW (fun es=>Zv6 d p.2.2 es (call f (rens (V2 es) p.1) (K0 es es))) ⟨⟩) ⟨⟩:=rfl
theorem Ztb {d:Nat} {ss:List Site} {es:List (Site × Ent)} {v:AV} {σ:A3}:Zv6 d ss es (some (v,σ)) =
    T3 (tidy σ && !(Zhs es ss)) ((N8 d σ).bindW (fun gs=>LetA (B3 d gs σ) (fun b=>T3 (R5 b) (Zv5 ss es (ren (F7 d gs) v) b) .fail ⟨⟩ ⟨⟩) ⟨⟩) ⟨⟩) .fail ⟨⟩ ⟨⟩:=rfl
theorem Z4u {ss:List Site} {es:List (Site × Ent)} {v:AV} {b:Ups}:Zv5 ss es v b =
    T3 (O1 v||X2 b) ((Zc1 ss).bindW (fun u=>.ret (v,u++(b++U8 b es))) ⟨⟩) (.ret (v,b++U8 b es)) ⟨⟩ ⟨⟩:=rfl
theorem Z4v {σ:Ups} {s:Site}:Zoj σ s=(A6 σ s).isNone:=rfl
theorem Zzk {x:AV}:optV (some x)=.ret (x,[]):=rfl
theorem Ztc {t:Bool} {a b:AV}:Zol (.bool t) a b=.ret (bif t then a else b,[]):=rfl
theorem Yas {cs:List AV} {off n:Nat}:aggV cs off n=if off+n≤cs.length then .ret (.agg (sub cs off n),[]) else .fail:=rfl
theorem Zpt {cs:List AV}:Zku (some cs)=.ret (.agg cs,[]):=rfl
theorem Zlh {s:Site} {n sz:Nat} {cs:List AV}:Zep s n sz (some cs)=(fix cs).bindW (fun p=>Zar s p.1 n sz p.2.1) ⟨⟩:=rfl
theorem Z4w {off:Nat} {e:Ent}:ldC none off e=optV e.cells[off]? := rfl
theorem Z4x {n off:Nat} {e:Ent}:ldC (some n) off e=aggV e.cells off n:=rfl
theorem Yat {cs:List AV} {off:Nat}:ldV none (.fp cs off)=optV cs[off]? := rfl
theorem Yau {cs:List AV} {off n:Nat}:ldV (some n) (.fp cs off)=aggV cs off n:=rfl
theorem Z4y {s:Site} {g off:Nat}:ldV none (.ref s g off)=(O4 s g).bindW (ldC none off) ⟨⟩:=rfl
theorem Z4z {s:Site} {g off n:Nat}:ldV (some n) (.ref s g off)=(O4 s g).bindW (ldC (some n) off) ⟨⟩:=rfl
theorem stC_eq {s:Site} {off n:Nat} {xs:List AV} {e:Ent}:stC s off n xs e =
  if e.rw=true∧xs.length=n∧off+n≤e.cells.length∧N3 xs=true then
    (bif e.var then .ret (.und,[(s,{ e with cells:=over e.cells off xs })])
     else (fix xs).bindW (fun p=>bif p.2.2.contains s then .fail else .ret (.und,p.2.1++[(s,{ e with cells:=over e.cells off p.1 })])) ⟨⟩)
  else .fail:=rfl
theorem Yav {n:Nat} {s:Site} {g off:Nat} {xs:List AV}:stV n (.ref s g off) (some xs)=(O4 s g).bindW (stC s off n xs) ⟨⟩:=rfl
theorem Zzl {s:Site} {xs:List AV}:boxV s (some xs)=Zgo s xs:=rfl
theorem Zpu {cells ys:List AV} {off n:Nat}:Zi8 cells off n (some ys)=if ys.length=n∧off+n≤cells.length then some (over cells off ys) else none:=rfl
theorem Ztd {s:Site} {g off:Nat}:Zfw (.ref s g off)=still1 s g (.ref s g off):=rfl
theorem Zzm {cs:List AV} {off:Nat}:Zfw (.fp cs off)=.ret (.fp cs off,[]):=rfl
theorem Zig {k k':IntKind} {n:Int}:Zkv k (.int k' n)=.ret (.int k (k.wrap n),[]):=rfl
theorem Z40 {l:List UInt8}:s2sV (.str l)=.ret (.str l,[]):=rfl
theorem Z41 {s:Site} {l:List UInt8}:s2bV s (.str l)=Zar s (A1 l) l.length 1 []:=rfl
theorem Zzn {l:List UInt8}:strV (some l)=.ret (.str l,[]):=rfl
theorem Z42 {s:Site} {g off n z:Nat}:b2bV (.buf s g off n z)=(O4 s g).bindW (fun e=>if e.rw=true∧e.cells.isEmpty=false then .ret (.buf s g off n z,[]) else .fail) ⟨⟩:=rfl
theorem Z43 {s:Site} {sz bytes:Nat} {zero:List AV} {l c:Int}:mksV s sz bytes zero (.int .i64 l) (.int .i64 c) =
    if 0≤l∧l≤c∧bytes*c≤281474976710656∧c≤281474976710656 then Zar s (rep zero l.toNat) l.toNat sz [] else .fail:=rfl
theorem Z44 {x:AV}:loV (some x)=x:=rfl
theorem Z45:loV none=.int .i64 0:=rfl
theorem Z46 {n:Nat} {x:AV}:hiV n (some x)=x:=rfl
theorem Z47 {n:Nat}:hiV n none=.int .i64 n:=rfl
theorem Z48 {n:Nat} {x:AV}:Zba (some n) x=n:=rfl
theorem Z49 {l:List UInt8}:Zba none (.str l)=l.length:=rfl
theorem Z5a {cs:List AV} {n:Nat}:Zba none (.lst cs n)=n:=rfl
theorem Z5b {s:Site} {g off n z:Nat}:Zba none (.buf s g off n z)=n:=rfl
theorem Zzo:Zba none .nils=0:=rfl
theorem Yaw {sz n l h:Nat} {s:Site} {g off:Nat}:slB sz (some n) (.ref s g off) l h=(O4 s g).bindW (slR sz n l h s g off) ⟨⟩:=rfl
theorem slR_eq {sz n l h:Nat} {s:Site} {g off:Nat} {e:Ent}:slR sz n l h s g off e=if off+n*sz≤e.cells.length then .ret (.buf s g (off+l*sz) (h-l) sz,[]) else .fail:=rfl
theorem slB_fp {sz n l h:Nat} {cs:List AV} {off:Nat}:slB sz (some n) (.fp cs off) l h=if off+n*sz≤cs.length then .ret (.lst (sub cs (off+l*sz) ((h-l)*sz)) (h-l),[]) else .fail:=rfl
theorem Z5c {k k':IntKind} {l h:Int} {t:List UInt8}:slsV (.str t) (.int k l) (.int k' h)=if 0≤l∧l≤h∧h≤t.length then .ret (.str (sub t l.toNat (h.toNat-l.toNat)),[]) else .fail:=rfl
theorem Z5d {cs:List AV} {n:Nat}:Zr2 (.lst cs n)=(O5 1 (.lst cs n)).bindW (fun p=>strV (bytesOf p.1)) ⟨⟩:=rfl
theorem Z5e {s:Site} {g o n z:Nat}:Zr2 (.buf s g o n z)=(O5 1 (.buf s g o n z)).bindW (fun p=>strV (bytesOf p.1)) ⟨⟩:=rfl
theorem Zzp:Zr2 .nils=.ret (.str [],[]):=rfl
theorem Yax {sz l h n:Nat} {cs:List AV}:slB sz none (.lst cs n) l h=if cs.length=n*sz then .ret (.lst (sub cs (l*sz) ((h-l)*sz)) (h-l),[]) else .fail:=rfl
theorem Yay {sz l h:Nat} {s:Site} {g off n z:Nat}:slB sz none (.buf s g off n z) l h=if z=sz then still1 s g (.buf s g (off+l*sz) (h-l) sz) else .fail:=rfl
theorem Z5f {sz l h:Nat}:slB sz none .nils l h=.ret (.nils,[]):=rfl
theorem Yaz {sz:Nat} {arr:Option Nat} {x:AV} {k k':IntKind} {l h:Int}:slV sz arr x (.int k l) (.int k' h)=if 0≤l∧l≤h∧h≤Zba arr x then slB sz arr x l.toNat h.toNat else .fail:=rfl
theorem Ya0 {off:Nat} {s:Site} {g o:Nat}:faV off (.ref s g o)=still1 s g (.ref s g (o+off)):=rfl
theorem faV_fp {off:Nat} {cs:List AV} {o:Nat}:faV off (.fp cs o)=.ret (.fp cs (o+off),[]):=rfl
theorem Zzq {off:Nat} {cs:List AV}:Zom off none (.agg cs)=optV cs[off]? := rfl
theorem Zzr {off n:Nat} {cs:List AV}:Zom off (some n) (.agg cs)=aggV cs off n:=rfl
theorem Ya1 {sz n:Nat} {s:Site} {g o:Nat} {k:IntKind} {i:Int}:iaV sz (some n) (.ref s g o) (.int k i)=if 0≤i∧i<n then still1 s g (.ref s g (o+i.toNat*sz)) else .fail:=rfl
theorem iaV_fp {sz n:Nat} {cs:List AV} {o:Nat} {k:IntKind} {i:Int}:iaV sz (some n) (.fp cs o) (.int k i)=if 0≤i∧i<n then .ret (.fp cs (o+i.toNat*sz),[]) else .fail:=rfl
theorem Ya2 {sz n:Nat} {cs:List AV} {k:IntKind} {i:Int}:iaV sz none (.lst cs n) (.int k i)=if 0≤i∧i<n then .ret (.fp cs (i.toNat*sz),[]) else .fail:=rfl
theorem Ya3 {sz:Nat} {s:Site} {g o n z:Nat} {k:IntKind} {i:Int}:iaV sz none (.buf s g o n z) (.int k i)=if 0≤i∧i<n∧z=sz then still1 s g (.ref s g (o+i.toNat*sz)) else .fail:=rfl
theorem Zih {b:UInt8}:Zv7 (some b)=.ret (.int .u8 b.toNat,[]):=rfl
theorem Ya4 {sz n:Nat} {agg:Bool} {cs:List AV} {k:IntKind} {i:Int}:ixV sz agg (some n) (.agg cs) (.int k i) =
  if 0≤i∧i<n∧i.toNat*sz+sz≤cs.length then (bif agg then one (.agg (sub cs (i.toNat*sz) sz)) else optV cs[i.toNat*sz]?) else .fail:=rfl
theorem Ya5 {sz:Nat} {agg:Bool} {t:List UInt8} {k:IntKind} {i:Int}:ixV sz agg none (.str t) (.int k i)=if 0≤i then Zv7 t[i.toNat]? else .fail:=rfl
theorem Z5g {n sz m:Nat} {cs:List AV}:s2aV n sz (.lst cs m)=if n≤m∧cs.length=m*sz∧0<n then .ret (.fp cs 0,[]) else .fail:=rfl
theorem Z5h {n sz m:Nat} {s:Site} {g o z:Nat}:s2aV n sz (.buf s g o m z)=if n≤m∧z=sz∧0<n then still1 s g (.ref s g o) else .fail:=rfl
theorem Z5i {i:Nat} {cs:List AV}:extV i (.tup cs)=optV cs[i]? := rfl
theorem Zzs {call:J2} {d:Nat} {take:List Nat} {args:List AV} {f:Nat} {cap:List AV}:Zeq call d take args (.clo f cap)=Z4 call d f (args++cap) take:=rfl
theorem Ya6 {t:Site} {sz bytes m:Nat} {vs:List AV} {u:Ups} {ss:List Site} {s:Site} {o n z:Nat} {e:Ent}:appB t sz bytes m vs u ss s o n z e =
  if e.rw=true∧e.var=false∧z=sz∧o+n*sz≤e.cells.length∧(n+m)*bytes≤L7∧ss.contains s=false∧N3 vs=true then
    Zar t (sub e.cells o (n*sz)++vs) (n+m) sz (Zbb s t u e)
  else .fail:=rfl
theorem Zpv {s t:Site} {u:Ups} {e:Ent}:Zbb s t u e=bif decide (s=t) then u else u++[(s,{ e with alive:=false,cells:=[] })]:=rfl
theorem Zzt {t:Site} {sz bytes m:Nat} {vs:List AV} {u:Ups} {ss:List Site}:Zer t sz bytes m vs u ss .nils=if m*bytes≤L7 then Zar t vs m sz u else .fail:=rfl
theorem Z5j {t:Site} {sz bytes m:Nat} {vs:List AV} {u:Ups} {ss:List Site} {s:Site} {g o n z:Nat}:Zer t sz bytes m vs u ss (.buf s g o n z)=(O4 s g).bindW (appB t sz bytes m vs u ss s o n z) ⟨⟩:=rfl
theorem Zzu {t:Site} {sz bytes:Nat} {zero:List AV} {s:AV} {m:Int}:Zja t sz bytes zero s (.int .i64 m)=if 0≤m∧m≤L7 then Zer t sz bytes m.toNat (rep zero m.toNat) [] [] s else .fail:=rfl
theorem Zzv {n:Nat} {x:AV}:Zgp (some n) x=.ret (.int .i64 n,[]):=rfl
theorem Zzw {l:List UInt8}:Zon (.str l)=.ret (.int .i64 l.length,[]):=rfl
theorem Zzx {cs:List AV} {n:Nat}:Zgp none (.lst cs n)=.ret (.int .i64 n,[]):=rfl
theorem Zzy {s:Site} {g off n z:Nat}:Zgp none (.buf s g off n z)=still1 s g (.int .i64 n):=rfl
theorem Zzz {s:Site} {g:Nat} {x:AV}:still1 s g x=(O4 s g).bindW (fun _=>.ret (x,[])) ⟨⟩:=rfl
theorem Zte:Zgp none .nils=.ret (.int .i64 0,[]):=rfl
theorem Z5k {sz m:Nat} {ys:List AV} {s:Site} {o n z:Nat} {e:Ent}:Zv8 sz m ys s o n z e =
  if e.rw=true∧z=sz∧o+n*sz≤e.cells.length∧flats ys=true then
    .ret (.int .i64 (Nat.min m n),[(s,{ e with cells:=over e.cells o (ys.take (Nat.min m n*sz)) })])
  else .fail:=rfl
theorem Zz0 {sz m:Nat} {ys:List AV} {s:Site} {g o n z:Nat}:Zoo sz m ys (.buf s g o n z)=(O4 s g).bindW (Zv8 sz m ys s o n z) ⟨⟩:=rfl
theorem Z5l {k:IntKind} {a b:Int}:minV (.int k a) (.int k b)=.ret (.int k (if b<a then b else a),[]):=by simp [minV,one]
theorem Z5m {k:IntKind} {a b:Int}:maxV (.int k a) (.int k b)=.ret (.int k (if a<b then b else a),[]):=by simp [maxV,one]
theorem Z5n {k:IntKind} {n:Int}:r2sV (.int k n)=.ret (.str (Zg8 n),[]):=rfl
theorem Z5o {s:Site} {c:AV} {f:Nat→AV}:Zht s c f=(mk s true [c]).bindW (fun p=>.ret (f p.1,p.2)) ⟨⟩:=rfl
theorem Z5p {s:Site} {l:List UInt8}:rngV s (.str l)=Zht s (.itr l 0) (.it s):=rfl
theorem Ya7 {s:Site} {g:Nat}:nxtV (.it s g)=(O4 s g).bindW (nxtC s) ⟨⟩:=rfl
theorem Z5q {s:Site} {g:Nat} {al rw var:Bool} {l:List UInt8} {p:Nat}:nxtC s ⟨g,al,rw,var,[.itr l p]⟩ =
  if rw=true then (if p<l.length then .ret (.tup [.bool true,.int .i64 p,.int .i32 (Zaf l p).1],[(s,⟨g,al,rw,var,[.itr l (p+(Zaf l p).2)]⟩)]) else .ret (.tup [.bool false],[])) else .fail:=rfl
theorem Zz1 {str:Bool} {zero:AV} {ok:Bool} {k:AV} {s:Site} {g:Nat}:Zop str zero ok k (.mpr s g)=(O4 s g).bindW (Zv9 str zero ok k) ⟨⟩:=rfl
theorem Ztf {str:Bool} {zero:AV} {ok:Bool} {k:AV}:Zop str zero ok k .nilm=.ret (okV ok false zero,[]):=rfl
theorem Z5r {str:Bool} {zero:AV} {ok:Bool} {k:AV} {g:Nat} {al rw var:Bool} {ks vs:List AV}:Zv9 str zero ok k ⟨g,al,rw,var,[.mp ks vs]⟩=Zjb zero ok vs (U5 str k ks 0):=rfl
theorem Ztg {zero:AV} {ok:Bool} {vs:List AV} {i:Nat}:Zjb zero ok vs (some (some i))=optV ((vs[i]?).map (okV ok true)):=rfl
theorem Zth {zero:AV} {ok:Bool} {vs:List AV}:Zjb zero ok vs (some none)=.ret (okV ok false zero,[]):=rfl
theorem Z5s {b:Bool} {v:AV}:okV true b v=.tup [v,.bool b]:=rfl
theorem Zz2 {b:Bool} {v:AV}:okV false b v=v:=rfl
theorem Zz3 {str agg:Bool} {k:AV} {xs:List AV} {s:Site} {g:Nat}:Zoq str agg k (some xs) (.mpr s g)=(fix xs).bindW (fun p=>(O4 s g).bindW (Zwa str s k (Zd6 agg p.1) p.2.1 p.2.2) ⟨⟩) ⟨⟩:=rfl
theorem Z5t {str:Bool} {s:Site} {k y:AV} {u:Ups} {ss:List Site} {g:Nat} {al rw var:Bool} {ks vs:List AV}:Zwa str s k y u ss ⟨g,al,rw,var,[.mp ks vs]⟩ =
  if rw=true∧Zbk k=true∧Zbk y=true∧ss.contains s=false then Zjc s k y u ⟨g,al,rw,var,[.mp ks vs]⟩ ks vs (U5 str k ks 0) else .fail:=rfl
theorem Zti {s:Site} {k y:AV} {u:Ups} {e:Ent} {ks vs:List AV} {i:Nat}:Zjc s k y u e ks vs (some (some i))=.ret (.und,u++[(s,{ e with cells:=[.mp (ks.set i k) (vs.set i y)] })]):=rfl
theorem Ztj {s:Site} {k y:AV} {u:Ups} {e:Ent} {ks vs:List AV}:Zjc s k y u e ks vs (some none)=.ret (.und,u++[(s,{ e with cells:=[.mp (ks++[k]) (vs++[y])] })]):=rfl
theorem Ztk {cs:List AV}:S3 (.agg cs)=true:=rfl
theorem Ztl {k:IntKind} {n:Int}:S3 (.int k n)=false:=rfl
theorem Zpw {b:Bool}:S3 (.bool b)=false:=rfl
theorem Ztm {l:List UInt8}:S3 (.str l)=false:=rfl
theorem Ztn {s:Site} {g o n z:Nat}:S3 (.buf s g o n z)=false:=rfl
theorem Zto {cs:List AV} {n:Nat}:S3 (.lst cs n)=false:=rfl
theorem Zpx:S3 .nils=false:=rfl
theorem Ztp {ys:List AV}:Zd6 true ys=.agg ys:=rfl
theorem Zpy {y:AV}:Zd6 false [y]=y:=rfl
theorem Zz4 {cs:List AV}:Zbk (.agg cs)=flats cs:=rfl
theorem Zz5 {k:IntKind} {n:Int}:Zbk (.int k n)=true:=rfl
theorem Ztq {b:Bool}:Zbk (.bool b)=true:=rfl
theorem Zz6 {l:List UInt8}:Zbk (.str l)=true:=rfl
theorem Zz7 {cs:List AV} {n:Nat}:Zbk (.lst cs n)=true:=rfl
theorem Ztr:Zbk .nils=true:=rfl
theorem Zz8 {str:Bool} {k:AV} {s:Site} {g:Nat}:Zor str k (.mpr s g)=(O4 s g).bindW (Zwb str s k) ⟨⟩:=rfl
theorem Zts {str:Bool} {k:AV}:Zor str k .nilm=.ret (.tup [],[]):=rfl
theorem Z5u {str:Bool} {s:Site} {k:AV} {g:Nat} {al rw var:Bool} {ks vs:List AV}:Zwb str s k ⟨g,al,rw,var,[.mp ks vs]⟩ =
  if rw=true then Zjd s ⟨g,al,rw,var,[.mp ks vs]⟩ ks vs (U5 str k ks 0) else .fail:=rfl
theorem Ztt {s:Site} {e:Ent} {ks vs:List AV} {i:Nat}:Zjd s e ks vs (some (some i))=.ret (.tup [],[(s,{ e with cells:=[.mp (ks.eraseIdx i) (vs.eraseIdx i)] })]):=rfl
theorem Ztu {s:Site} {e:Ent} {ks vs:List AV}:Zjd s e ks vs (some none)=.ret (.tup [],[]):=rfl
theorem Zz9 {s:Site} {g:Nat}:Zos (.mpr s g)=(O4 s g).bindW Zwc ⟨⟩:=rfl
theorem Ztv:Zos .nilm=.ret (.int .i64 0,[]):=rfl
theorem Z5v {g:Nat} {al rw var:Bool} {ks vs:List AV}:Zwc ⟨g,al,rw,var,[.mp ks vs]⟩=.ret (.int .i64 ks.length,[]):=rfl
theorem Z0a:capV .nils=.ret (.int .i64 0,[]):=rfl
section
variable {k:IntKind} {a b:Int}
def Ztw (k:IntKind) (a b:Int):Int:=k.wrap (BitVec.ofInt k.bits a &&& BitVec.ofInt k.bits b).toNat
def ior (k:IntKind) (a b:Int):Int:=k.wrap (BitVec.ofInt k.bits a ||| BitVec.ofInt k.bits b).toNat
def ixor (k:IntKind) (a b:Int):Int:=k.wrap (BitVec.ofInt k.bits a ^^^ BitVec.ofInt k.bits b).toNat
def iandn (k:IntKind) (a b:Int):Int:=k.wrap (BitVec.ofInt k.bits a &&& ~~~ BitVec.ofInt k.bits b).toNat
def inot (k:IntKind) (n:Int):Int:=k.wrap (BitVec.ofInt k.bits (if k.signed then -1 else k.max) ^^^ BitVec.ofInt k.bits n).toNat
def ishl (k:IntKind) (a b:Int):Int:=k.wrap (a*2^(Nat.min b.toNat k.bits))
def Zpz (k:IntKind) (a b:Int):Int:=a.fdiv (2^(Nat.min b.toNat k.bits))
theorem Zwx:G6 .add (.int k a) (.int k b)=some (.int k (k.wrap (a+b))):=by simp [G6,Q9]
theorem Ya8:G6 .sub (.int k a) (.int k b)=some (.int k (k.wrap (a-b))):=by simp [G6,Q9]
theorem Ya9:G6 .mul (.int k a) (.int k b)=some (.int k (k.wrap (a*b))):=by simp [G6,Q9]
theorem Yba:G6 .quo (.int k a) (.int k b)=if b=0 then none else some (.int k (k.wrap (a.tdiv b))):=by simp [G6,Q9]
theorem Ybb:G6 .rem (.int k a) (.int k b)=if b=0 then none else some (.int k (a.tmod b)):=by simp [G6,Q9]
theorem Zwy:G6 .and (.int k a) (.int k b)=some (.int k (Ztw k a b)):=by simp [G6,Q9,Ztw]
theorem Z5w:G6 .or (.int k a) (.int k b)=some (.int k (ior k a b)):=by simp [G6,Q9,ior]
theorem Zwz:G6 .xor (.int k a) (.int k b)=some (.int k (ixor k a b)):=by simp [G6,Q9,ixor]
theorem Ztx:G6 .andNot (.int k a) (.int k b)=some (.int k (iandn k a b)):=by simp [G6,Q9,iandn]
theorem Ybc:G6 .eql (.int k a) (.int k b)=some (.bool (a==b)):=by simp [G6,Q9]
theorem Ybd:G6 .neq (.int k a) (.int k b)=some (.bool (a != b)):=by simp [G6,Q9]
theorem Ybe:G6 .lss (.int k a) (.int k b)=some (.bool (decide (a<b))):=by simp [G6,Q9]
theorem Ybf:G6 .leq (.int k a) (.int k b)=some (.bool (decide (a≤b))):=by simp [G6,Q9]
theorem Ybg:G6 .gtr (.int k a) (.int k b)=some (.bool (decide (b<a))):=by simp [G6,Q9]
theorem Ybh:G6 .geq (.int k a) (.int k b)=some (.bool (decide (b≤a))):=by simp [G6,Q9]
theorem Zw0 {k':IntKind} (h:0≤b):G6 .shl (.int k a) (.int k' b)=some (.int k (ishl k a b)):=by
  have:¬ b<0:=by omega
  simp [G6,Zc0,ishl,this]
theorem Zw1 {k':IntKind} (h:0≤b):G6 .shr (.int k a) (.int k' b)=some (.int k (Zpz k a b)):=by
  have:¬ b<0:=by omega
  simp [G6,Zc0,Zpz,this]
end
section
variable {x y:List UInt8}
theorem Z5x:G6 .add (.str x) (.str y)=if x.length+y.length≤9223372036854775807 then some (.str (x++y)) else none:=rfl
theorem Z5y:G6 .eql (.str x) (.str y)=some (.bool (x==y)):=rfl
theorem Z5z:G6 .neq (.str x) (.str y)=some (.bool (!(x==y))):=rfl
theorem Z50:G6 .lss (.str x) (.str y)=some (.bool (Op.bytesLess x y)):=rfl
theorem Z51:G6 .leq (.str x) (.str y)=some (.bool (Op.bytesLess x y||x==y)):=rfl
theorem Z52:G6 .gtr (.str x) (.str y)=some (.bool (!(Op.bytesLess x y||x==y))):=rfl
theorem Z53:G6 .geq (.str x) (.str y)=some (.bool (!(Op.bytesLess x y))):=rfl
end
theorem Z54 {neg a b:Bool}:Zoh neg (.bool a) (.bool b)=some (.bool (bif neg then !(a==b) else a==b)):=rfl
theorem Ybi {ks:List Nat} {neg:Bool} {a b:List AV}:eqaV ks neg (.agg a) (.agg b)=optV ((G5 ks a b).map fun e=>.bool (bif neg then !e else e)):=rfl
theorem Ybj {kd:Nat} {neg:Bool} {x y:AV}:eqnV kd neg x y=(Zcw kd x).bindW (fun a=>(Zcw kd y).bindW (fun b=>eqnB neg a b) ⟨⟩) ⟨⟩:=rfl
theorem Z0b:Zcw 0 .nilp=.ret true:=rfl
theorem Ybk {cs:List AV} {o:Nat}:Zcw 0 (.fp cs o)=.ret false:=rfl
theorem Z55 {s:Site} {g o:Nat}:Zcw 0 (.ref s g o)=(O4 s g).bindW (fun _=>.ret false) ⟨⟩:=rfl
theorem Z0c:Zcw 1 .nils=.ret true:=rfl
theorem Z0d:Zcw 2 .nilm=.ret true:=rfl
theorem Z0e:Zcw 3 .nilf=.ret true:=rfl
theorem Z56 {f:Nat} {cs:List AV}:Zcw 3 (.clo f cs)=.ret false:=rfl
theorem Z0f:Zcw 4 .nili=.ret true:=rfl
theorem Z57 {t:Nat} {x:AV}:Zcw 4 (.ifc t x)=.ret false:=rfl
theorem Ybl {neg a b:Bool}:eqnB neg a b=bif a||b then .ret (.bool (bif neg then !(a&&b) else a&&b),[]) else .fail:=rfl
theorem un_neg {k:IntKind} {n:Int}:Zkt .neg (.int k n)=some (.int k (k.wrap (0-n))):=rfl
theorem Z58 {k:IntKind} {n:Int}:Zkt .xor (.int k n)=some (.int k (inot k n)):=rfl
theorem un_not {b:Bool}:Zkt .not (.bool b)=some (.bool (!b)):=rfl
def Zp0 {α β:Type} (x:Option α) (f : α→Option β) (_:Wit f):Option β:=x.bind f
theorem Zty {α β:Type} {x : α} {f : α→Option β} {w:Wit f}:Zp0 (some x) f w=f x:=rfl
theorem Z0g {res:List LRes} {sl:List (Nat × AV)} {σ:A3}:Zbc res ⟨sl,σ⟩=Zp0 (Zaq ⟨sl,σ⟩ res) (fun vs=>LetA (J5 σ 64 (ups σ++refsOfs vs) []) (fun acc=>some (Zkw (rens (K8 Site.r 0 acc) vs),R1 σ (K8 Site.r 0 acc) acc)) ⟨⟩) ⟨⟩:=by
  unfold Zbc Zp0 LetA
  cases Zaq ⟨sl,σ⟩ res<;>rfl
def Z59 {α:Type} (x:Option α) (y:Option (List α)):Option (List α):=match x,y with|some v,some vs=>some (v::vs)|_,_=>none
theorem Ztz {α:Type} {v : α} {vs:List α}:Z59 (some v) (some vs)=some (v::vs):=rfl
theorem Zt0 {st:St}:Zaq st []=some []:=rfl
theorem Zp1 {st:St} {r:LRes} {rs:List LRes}:Zaq st (r::rs)=Z59 (Zgq st r) (Zaq st rs):=by
  unfold Z59;rw [Zaq];cases Zgq st r<;>cases Zaq st rs<;>rfl
theorem Z0h {st:St} {t:Nat}:Zgq st (.tmp t)=some (Q5 st.sl t):=rfl
theorem Z6a {v:AV}:Zkw [v]=v:=rfl
theorem Z6b {v w:AV}:Zkw [v,w]=.tup [v,w]:=rfl
theorem Zt1 {v w x:AV}:Zkw [v,w,x]=.tup [v,w,x]:=rfl
theorem Z0i {v w x y:AV}:Zkw [v,w,x,y]=.tup [v,w,x,y]:=rfl
theorem Ybm {E:Env} {fn:List LRes} {k:List It} {st:St} {l:List Nat} {x:LCode}:X E fn (.c (.loop l x)::k) st=X E fn (.lp l x::k) st:=by rw [X_loop,X_lp]
theorem Z6c {sl:List (Nat × AV)} {n:Nat}:M2 sl [] n=Q5 sl n:=rfl
theorem Z0j {sl:List (Nat × AV)} {k n:Nat} {v:AV} {r:List (Nat × AV)}:M2 sl ((k,v)::r) n=T3 (k==n) v (M2 sl r n) ⟨⟩ ⟨⟩:=by
  rw [M2,Zbf];rfl
theorem Z6d {n:Nat}:Q5 [] n=.junk:=rfl
theorem Z0k {k n:Nat} {v:AV} {r:List (Nat × AV)}:Q5 ((k,v)::r) n=T3 (k==n) v (Q5 r n) ⟨⟩ ⟨⟩:=by
  rw [Q5,Zbf];rfl
theorem Z6e {n:Nat} {v:AV}:Zg9 [] n v=[(n,v)]:=rfl
theorem Z0l {k n:Nat} {u v:AV} {r:List (Nat × AV)}:Zg9 ((k,u)::r) n v=T3 (k==n) ((n,v)::r) ((k,u)::Zg9 r n v) ⟨⟩ ⟨⟩:=by
  rw [Zg9,Zbf];rfl
theorem Z6f {s:Site}:A6 [] s=none:=rfl
theorem Z0m {t s:Site} {e:Ent} {σ:A3}:A6 ((t,e) :: σ) s=T3 (decide (t=s)) (some e) (A6 σ s) ⟨⟩ ⟨⟩:=by
  rw [A6,Zbf]
theorem Z6g {s:Site} {e:Ent}:G3 [] s e=[(s,e)]:=rfl
theorem Z0n {t s:Site} {e e':Ent} {σ:A3}:G3 ((t,e') :: σ) s e=T3 (decide (t=s)) ((s,e) :: σ) ((t,e')::G3 σ s e) ⟨⟩ ⟨⟩:=by
  rw [G3,Zbf]
def Zw2 (σ:A3) (n:Nat) (r acc:List (Site × Nat)) (s:Site) (g:Nat):Option Ent→List (Site × Nat)
  | some e=>T3 (e.alive&&e.g==g) (J5 σ n (r++refsOfs e.cells) (acc++[(s,g)])) (J5 σ n r acc) ⟨⟩ ⟨⟩
  | none=>J5 σ n r acc
theorem Zt2 {σ:A3} {n:Nat} {r acc:List (Site × Nat)} {s:Site} {g:Nat} {e:Ent}:Zw2 σ n r acc s g (some e)=T3 (e.alive&&e.g==g) (J5 σ n (r++refsOfs e.cells) (acc++[(s,g)])) (J5 σ n r acc) ⟨⟩ ⟨⟩:=rfl
theorem Zt3 {σ:A3} {n:Nat} {r acc:List (Site × Nat)} {s:Site} {g:Nat}:Zw2 σ n r acc s g none=J5 σ n r acc:=rfl
theorem Zp2 {σ:A3} {n:Nat} {acc:List (Site × Nat)}:J5 σ (n+1) [] acc=acc:=rfl
theorem Zli {σ:A3} {n:Nat} {s:Site} {g:Nat} {r acc:List (Site × Nat)}:J5 σ (n+1) ((s,g)::r) acc=T3 (acc.contains (s,g)) (J5 σ n r acc) (Zw2 σ n r acc s g (A6 σ s)) ⟨⟩ ⟨⟩:=by
  rw [J5]
  unfold T3
  cases acc.contains (s,g) with
  | true=>simp
  | false =>
    simp only [Bool.false_eq_true,if_false,cond_false]
    cases A6 σ s with
    | none=>rfl
    | some e =>
      simp only [Zw2,T3]
      have hb:(e.g==g)=decide (e.g=g):=by by_cases h2:e.g=g<;>simp [h2]
      rw [hb]
      by_cases h1:e.alive=true<;>by_cases h2:e.g=g<;>simp [h1,h2]
def Zii (b:Site) (g:Nat):Site→Site × Nat
  | .up x=>(.up x,g)
  | _=>(b,0)
theorem Z6h {b x:Site} {g:Nat}:Zii b g (.up x)=(.up x,g):=rfl
theorem Ybn {b:Site} {g n k:Nat}:Zii b g (.s n k)=(b,0):=rfl
theorem Ybo {b:Site} {g k:Nat}:Zii b g (.r k)=(b,0):=rfl
theorem Zp3 {base:Nat→Site} {j g:Nat} {s:Site}:K8 base j [] s g=none:=rfl
theorem Zlj {base:Nat→Site} {j g g':Nat} {s s':Site} {r:List (Site × Nat)}:K8 base j ((s',g')::r) s g=T3 (decide (s'=s)&&g' == g) (some (Zii (base j) g s)) (K8 base (j+1) r s g) ⟨⟩ ⟨⟩:=by
  have hb:(g' == g)=decide (g'=g):=by by_cases h2:g'=g<;>simp [h2]
  unfold T3
  rw [hb]
  by_cases h1:s'=s
  · by_cases h2:g'=g
    · cases s<;>simp [K8,Zii,h1,h2]
    · cases s<;>simp [K8,Zii,h1,h2]
  · cases s<;>simp [K8,Zii,h1]
theorem Ybp:ups []=[]:=rfl
theorem ups_up {s:Site} {e:Ent} {r:A3}:ups ((.up s,e)::r)=T3 e.alive ((.up s,e.g)::ups r) (ups r) ⟨⟩ ⟨⟩:=by
  rw [ups];unfold T3;cases e.alive<;>rfl
theorem ups_s {n k:Nat} {e:Ent} {r:A3}:ups ((.s n k,e)::r)=ups r:=rfl
theorem ups_r {k:Nat} {e:Ent} {r:A3}:ups ((.r k,e)::r)=ups r:=rfl
def renE (f:Site→Nat→Option (Site × Nat)) (x:Option Ent) (y:Option (Site × Nat)) (r:A3):A3:=match x,y with
  | some e,some (s',g')=>(s',{ e with g:=g',cells:=rens f e.cells })::r
  | _,_=>r
theorem Z0o {f:Site→Nat→Option (Site × Nat)} {e:Ent} {s:Site} {g:Nat} {r:A3}:renE f (some e) (some (s,g)) r=(s,{ e with g:=g,cells:=rens f e.cells })::r:=rfl
theorem Zp4 {σ:A3} {f:Site→Nat→Option (Site × Nat)}:R1 σ f []=[]:=rfl
theorem Zlk {σ:A3} {f:Site→Nat→Option (Site × Nat)} {s:Site} {g:Nat} {r:List (Site × Nat)}:R1 σ f ((s,g)::r)=renE f (A6 σ s) (f s g) (R1 σ f r):=by
  rw [R1];unfold renE
  cases A6 σ s<;>cases f s g<;>rfl
def Zi5 (x:Option (Site × Nat)) (k:Site × Nat→AV):AV:=match x with|some p=>k p|none=>.junk
theorem Z0p {s:Site} {g:Nat} {k:Site × Nat→AV}:Zi5 (some (s,g)) k=k (s,g):=rfl
theorem Z0q {k:Site × Nat→AV}:Zi5 none k=.junk:=rfl
theorem Ybq {f:Site→Nat→Option (Site × Nat)} {s:Site} {g o:Nat}:ren f (.ref s g o)=Zi5 (f s g) (fun p=>.ref p.1 p.2 o):=by
  rw [ren];unfold Zi5;cases f s g<;>rfl
theorem Ybr {f:Site→Nat→Option (Site × Nat)} {s:Site} {g o n z:Nat}:ren f (.buf s g o n z)=Zi5 (f s g) (fun p=>.buf p.1 p.2 o n z):=by
  rw [ren];unfold Zi5;cases f s g<;>rfl
theorem ren_it {f:Site→Nat→Option (Site × Nat)} {s:Site} {g:Nat}:ren f (.it s g)=Zi5 (f s g) (fun p=>.it p.1 p.2):=by
  rw [ren];unfold Zi5;cases f s g<;>rfl
theorem Ybs {f:Site→Nat→Option (Site × Nat)} {s:Site} {g:Nat}:ren f (.mpr s g)=Zi5 (f s g) (fun p=>.mpr p.1 p.2):=by
  rw [ren];unfold Zi5;cases f s g<;>rfl
theorem Ybt {f:Site→Nat→Option (Site × Nat)} {cs:List AV}:ren f (.agg cs)=.agg (rens f cs):=by rw [ren]
theorem Ybu {f:Site→Nat→Option (Site × Nat)} {cs:List AV}:ren f (.tup cs)=.tup (rens f cs):=by rw [ren]
theorem Ybv {f:Site→Nat→Option (Site × Nat)} {g:Nat} {cs:List AV}:ren f (.clo g cs)=.clo g (rens f cs):=by rw [ren]
theorem Ybw {f:Site→Nat→Option (Site × Nat)} {t:Nat} {x:AV}:ren f (.ifc t x)=.ifc t (ren f x):=by rw [ren]
section
variable {f:Site→Nat→Option (Site × Nat)}
theorem Ybx {k:IntKind} {n:Int}:ren f (.int k n)=.int k n:=rfl
theorem Z6i {b:Bool}:ren f (.bool b)=.bool b:=rfl
theorem Yby {l:List UInt8}:ren f (.str l)=.str l:=rfl
theorem Ybz {cs:List AV} {n:Nat}:ren f (.lst cs n)=.lst cs n:=rfl
theorem ren_fp {cs:List AV} {n:Nat}:ren f (.fp cs n)=.fp cs n:=rfl
theorem Z6j:ren f .nilp=.nilp:=rfl
theorem Z6k:ren f .nils=.nils:=rfl
theorem Z6l:ren f .nilf=.nilf:=rfl
theorem Z6m:ren f .nili=.nili:=rfl
theorem Z6n:ren f .nilm=.nilm:=rfl
theorem Z6o:ren f .junk=.junk:=rfl
theorem Yb0:ren f .und=.und:=rfl
theorem Yb1 {l:List UInt8} {p:Nat}:ren f (.itr l p)=.itr l p:=rfl
theorem ren_mp {ks vs:List AV}:ren f (.mp ks vs)=.mp ks vs:=rfl
theorem Z6p:rens f []=[]:=rfl
theorem Z0r {c:AV} {cs:List AV}:rens f (c::cs)=ren f c::rens f cs:=rfl
end
theorem Z6q {b:Ups}:U8 b []=[]:=rfl
def Z6r (s:Site) (e:Ent) (r:Ups):Option Ent→Ups
  | some _=>r
  | none=>(s,{ e with alive:=false,cells:=[] })::r
theorem Zt4 {s:Site} {e x:Ent} {r:Ups}:Z6r s e r (some x)=r:=rfl
theorem Zt5 {s:Site} {e:Ent} {r:Ups}:Z6r s e r none=(s,{ e with alive:=false,cells:=[] })::r:=rfl
theorem Z0s {b:Ups} {s:Site} {e:Ent} {r:List (Site × Ent)}:U8 b ((s,e)::r)=Z6r s e (U8 b r) (A6 b s):=by
  rw [U8];cases A6 b s<;>rfl
theorem Zp5 {d g:Nat} {gs:List (Nat × Nat)} {s:Site}:F7 d gs (.up s) g=some (s,g):=rfl
def Z6s (d k g:Nat):Option Nat→Option (Site × Nat)
  | some g'=>T3 (g==0) (some (.s d k,g')) none ⟨⟩ ⟨⟩
  | none=>none
theorem Zt6 {d k g g':Nat}:Z6s d k g (some g')=T3 (g==0) (some (.s d k,g')) none ⟨⟩ ⟨⟩:=rfl
theorem Zt7 {d g k:Nat} {gs:List (Nat × Nat)}:F7 d gs (.r k) g=Z6s d k g (gs.lookup k):=by
  rw [F7]
  cases gs.lookup k with
  | none=>rfl
  | some x =>
    have hb:(g==0)=decide (g=0):=by by_cases h2:g=0<;>simp [h2]
    simp only [Z6s,T3,hb];by_cases h:g=0<;>simp [h]
theorem Zll {d:Nat} {gs:List (Nat × Nat)}:B3 d gs []=[]:=rfl
def backE (f:Site→Nat→Option (Site × Nat)) (e:Ent) (r:Ups):Option (Site × Nat)→Ups
  | some p=>(p.1,{ e with g:=p.2,cells:=rens f e.cells })::r
  | none=>r
theorem Zt8 {f:Site→Nat→Option (Site × Nat)} {e:Ent} {r:Ups} {s:Site} {g:Nat}:backE f e r (some (s,g))=(s,{ e with g:=g,cells:=rens f e.cells })::r:=rfl
theorem Zlm {d:Nat} {gs:List (Nat × Nat)} {s:Site} {e:Ent} {r:A3}:B3 d gs ((s,e)::r)=backE (F7 d gs) e (B3 d gs r) (F7 d gs s e.g):=by
  rw [B3];cases F7 d gs s e.g<;>rfl
def upN (g:Nat) (s:Site):Option Ent→Option (Site × Nat)
  | some e=>T3 (e.g==g) (some (.up s,g)) none ⟨⟩ ⟨⟩
  | none=>none
theorem Z6t {g:Nat} {s:Site} {e:Ent}:upN g s (some e)=T3 (e.g==g) (some (.up s,g)) none ⟨⟩ ⟨⟩:=rfl
theorem Z0t {es:List (Site × Ent)} {s:Site} {g:Nat}:V2 es s g=upN g s (A6 es s):=by
  unfold V2 upN
  cases A6 es s with
  | none=>rfl
  | some e =>
    have hb:(e.g==g)=decide (e.g=g):=by by_cases h2:e.g=g<;>simp [h2]
    simp only [T3,hb];by_cases h:e.g=g<;>simp [h]
theorem Zt9 {n m:Nat} {k:List It}:Q0 n (.blk m::k)=T3 (m==n) (some k) (Q0 n k) ⟨⟩ ⟨⟩:=by
  rw [Q0,Zbf];rfl
theorem Z6u {n:Nat} {x:LCode} {k:List It}:Q0 n (.c x::k)=Q0 n k:=rfl
theorem Z0u {n:Nat} {l:List Nat} {x:LCode} {k:List It}:Q0 n (.lp l x::k)=Q0 n k:=rfl
theorem Zua {n:Nat} {x:LCode} {k:List It}:Q0 n (.scp x::k)=Q0 n k:=rfl
theorem Yb2 {n:Nat} {x:LCode} {k:List It}:U6 n (.c x::k)=U6 n k:=rfl
theorem Z6v {n:Nat} {l:List Nat} {x:LCode} {k:List It}:U6 n (.lp l x::k)=U6 n k:=rfl
theorem Z0v {n m:Nat} {k:List It}:U6 n (.blk m::k)=U6 n k:=rfl
def Z6w (n:Nat) (x:LCode) (k:List It):Option LCode→Option (List It)
  | some r=>some (.c r::.scp x::k)
  | none=>U6 n k
theorem Z0w {n:Nat} {x:LCode} {k:List It}:U6 n (.scp x::k)=Z6w n x k (N4 x n):=by
  rw [U6];cases N4 x n<;>rfl
theorem Zub {n:Nat} {x r:LCode} {k:List It}:Z6w n x k (some r)=some (.c r::.scp x::k):=rfl
theorem Zuc {n:Nat} {x:LCode} {k:List It}:Z6w n x k none=U6 n k:=rfl
def Z6x (b:LCode) (l:Nat):Option LCode→Option LCode
  | some r=>some (.seq r b)
  | none=>N4 b l
theorem Z0x {a b:LCode} {l:Nat}:N4 (.seq a b) l=Z6x b l (N4 a l):=by
  rw [N4];cases N4 a l<;>rfl
theorem Zud {b r:LCode} {l:Nat}:Z6x b l (some r)=some (.seq r b):=rfl
theorem Zue {b:LCode} {l:Nat}:Z6x b l none=N4 b l:=rfl
theorem Zp6 {m l:Nat}:N4 (.label m) l=T3 (m==l) (some .skip) none ⟨⟩ ⟨⟩:=by
  rw [N4,Zbf];rfl
theorem Zuf {l:Nat}:N4 .skip l=none:=rfl
theorem Z0y {l:Nat}:N4 .ret l=none:=rfl
theorem Zug {l n:Nat}:N4 (.exit n) l=none:=rfl
theorem Z0z {l:Nat} {o:List LOper} {p:List Nat}:N4 (.reg o p) l=none:=rfl
theorem Zuh {l:Nat} {o:List LOper} {q:List (Nat × Nat)} {p:List Nat}:N4 (.dreg o q p) l=none:=rfl
theorem Zui {l:Nat} {c:LO} {a b:LCode}:N4 (.cond c a b) l=none:=rfl
theorem Zp7 {l n:Nat} {a:LCode}:N4 (.block n a) l=none:=rfl
theorem Zuj {l:Nat} {v:List Nat} {a:LCode}:N4 (.loop v a) l=none:=rfl
theorem Zp8 {l:Nat} {a:LCode}:N4 (.scope a) l=none:=rfl
theorem Zuk {l n:Nat}:N4 (.goto n) l=none:=rfl
theorem Z6y {k:IntKind} {n:Int}:P9 (.int k n)=true:=rfl
theorem Zul {k:IntKind} {n:Int}:H3 (.int k n)=some [.int k n]:=rfl
theorem Z00 {b:Bool}:P9 (.bool b)=true:=rfl
theorem Zp9 {b:Bool}:H3 (.bool b)=some [.bool b]:=rfl
theorem Z6z {l:List UInt8}:P9 (.str l)=true:=rfl
theorem Zum {l:List UInt8}:H3 (.str l)=some [.str l]:=rfl
theorem Z01  : P9 .nilp=true:=rfl
theorem Zqa  : H3 .nilp=some [.nilp]:=rfl
theorem Z02  : P9 .nils=true:=rfl
theorem Zqb  : H3 .nils=some [.nils]:=rfl
theorem Z03  : P9 .nilf=true:=rfl
theorem Zqc  : H3 .nilf=some [.nilf]:=rfl
theorem Z04  : P9 .nili=true:=rfl
theorem Zqd  : H3 .nili=some [.nili]:=rfl
theorem Z05  : P9 .nilm=true:=rfl
theorem Zqe  : H3 .nilm=some [.nilm]:=rfl
theorem Z60 {cs:List AV} {n:Nat}:P9 (.lst cs n)=true:=rfl
theorem Zun {cs:List AV} {n:Nat}:H3 (.lst cs n)=some [.lst cs n]:=rfl
theorem Yb3 {cs:List AV} {n:Nat}:P9 (.fp cs n)=true:=rfl
theorem Z06 {cs:List AV} {n:Nat}:H3 (.fp cs n)=some [.fp cs n]:=rfl
theorem Z61 {s:Site} {g o:Nat}:P9 (.ref s g o)=true:=rfl
theorem Zuo {s:Site} {g o:Nat}:H3 (.ref s g o)=some [.ref s g o]:=rfl
theorem Z62 {s:Site} {g o n z:Nat}:P9 (.buf s g o n z)=true:=rfl
theorem Zup {s:Site} {g o n z:Nat}:H3 (.buf s g o n z)=some [.buf s g o n z]:=rfl
theorem Z63 {f:Nat} {cs:List AV}:P9 (.clo f cs)=true:=rfl
theorem Zuq {f:Nat} {cs:List AV}:H3 (.clo f cs)=some [.clo f cs]:=rfl
theorem Z64 {t:Nat} {x:AV}:P9 (.ifc t x)=true:=rfl
theorem Zur {t:Nat} {x:AV}:H3 (.ifc t x)=some [.ifc t x]:=rfl
theorem Z65 {s:Site} {g:Nat}:P9 (.mpr s g)=true:=rfl
theorem Zus {s:Site} {g:Nat}:H3 (.mpr s g)=some [.mpr s g]:=rfl
theorem Zut {cs:List AV}:H3 (.agg cs)=some cs:=rfl
theorem Zqf {ts:List (List Site × List Site)}:T9 ts []=true:=rfl
theorem Zln {ts:List (List Site × List Site)} {i j:Nat} {r:List (Nat × Nat)}:T9 ts ((i,j)::r)=(Zot (ts.getD i ([],[])) (ts.getD j ([],[]))&&T9 ts r):=rfl
theorem Yb4 {a b c d:List Site}:Zot (a,b) (c,d)=(!(Zas b c) && !(Zas b d) && !(Zas a d)):=rfl
theorem Zuu {t:List Site}:Zas [] t=false:=rfl
theorem Zuv {s:Site} {ss t:List Site}:Zas (s::ss) t=(t.contains s||Zas ss t):=rfl
theorem Yb5 {cs:List AV}:fix cs=T3 (flats cs) (.ret (cs,[],[])) ((views cs).bindW (fun p=>(Zc1 p.2).bindW (fun u=>.ret (p.1,u,p.2)) ⟨⟩) ⟨⟩) ⟨⟩ ⟨⟩:=by
  unfold fix T3
  cases flats cs<;>rfl
theorem Z07 {cs:List AV}:Zag (.agg cs)=T3 (flats cs) (.ret (.agg cs,[])) ((views cs).bindW (fun p=>.ret (.agg p.1,p.2)) ⟨⟩) ⟨⟩ ⟨⟩:=by
  rw [Zag];unfold T3
  cases flats cs<;>rfl
attribute [go_sem] Z4a Z5n Z4b Z4c Zsz Zyp Zyq Zyr Zys Z5o Z5p Ya7 Z5q Zz1 Ztf Z5r Ztg Zth Z5s Zz2 Zz3 Z5t Zti Ztj Ztk Ztl Zpw Ztm Ztn Zto Zpx Ztp Zpy Zz4 Zz5 Ztq Zz6 Zz7 Ztr Zz8 Zts Z5u Ztt Ztu Zz9 Ztv Z5v ren_it Ybs Yb1 ren_mp Z65 Zus
  Yae Z3o Zyi Z3p Z3q Zsx Zpl Yaf Yag Zsy Z3r Yah Z3v Z3w Z3x Z3y Z3z Zyj Z30 Zyk Zyl Z31 Yai Yaj Z32 Yak Yal Z33 Z34 Zym Z35 Zyn Z36 Zyo Z37 Z38 Z39 Zyt
  evR_t evR_k evR_g evR_f ev_t ev_k Zyu Zyv Z4d Yam Z4e Yan Z4f Zyw Yao Yap Z4g Zyx Zyy Zyz Zpm Zs0 Zpn Zy0 Zy1 Zpo one_eq Yaq Zs1 mk_eq Z4h Z4i Z4j Z4k
  Zy2 Zs2 Zy3 Zy4 Z4l Zy5 Zy6 Zs3 Zs4 Zs5 Zs6 S0.eq_1 S0.eq_2 S0.eq_3 Z4m Zy7 Z4n Z4o Yar Z4p Zy8 Zy9 Zza Zzb Zzc Z4q Z4r Z07 Zzd Zzh Zs7 Z4s Z4t Zpp Zzi Zs8 Yb5 Zhr.eq_1 O5.eq_1 O5.eq_2 O5.eq_3 O5.eq_4 Zze Zzf Zzg Zzj Ztb Zzk Ztc Yas Zpt Zlh Z4w Z4x Yat Yau Z4y Z4z
  stC_eq Yav Ztd Zzm Zig Z40 Z41 Zzn Z42 Z43 Z44 Z45 Z46 Z47 Z48 Z49 Z5a Z5b Zzo Yaw slR_eq slB_fp Z5c Z5d Z5e Zzp Yax Yay Z5f Yaz Ya0 faV_fp Zzq Zzr Ya1 iaV_fp Ya2 Ya3 Zih Ya4 Ya5
  Z5g Z5h Z5i Zzs Ya6 Zpv Zzt Z5j Zzu Zzv Zzw Zzx Zzy Zte Zzz Z5k Zz0 Z5l Z5m Z0a
  Zwx Ya8 Ya9 Yba Ybb Zwy Z5w Zwz Ztx Ybc Ybd Ybe Ybf Ybg Ybh Zw0 Zw1 Z5x Z5y Z5z Z50 Z51 Z52 Z53 Z3s Z3t Z3u Z54 Ybi Ybj Z0b Ybk Z55 Z0c Z0d Z0e Z56 Z0f Z57 Ybl un_neg Z58 un_not
  Z0g Z0h Z6a Z6b Zt1 Z0i
  X_seq Yab X_ret X_skip X_regY X_regZ Z98 Zqf Zln Yb4 Zuu Zuv List.getD_cons_zero List.getD_cons_succ Z9l X_blk Ybm Yac Zt9 Z6u Z0u X_scp Z9j Z9k Yad Zua Yb2 Z6v Z0v Z0w Zub Zuc Z0x Zud Zue Zp6 Zuf Z0y Zug Z0z Zuh Zui Zp7 Zuj Zp8 Zuk Zyd Zsu X_nil Y_nil Y_op Z99 Z_nil Z_op Yaa Z95 Z96 Z3m Br_not Zsv Z97 Zty Ztz Zt0 Zp1 Z3n Zye Zyf Zyg Zyh params Z6c Z0j Z6d Z0k Z6e Z0l B2 Z6g Z0n Z6f Z0m Y8 Zt2 Zt3 Zp2 Zli Ybp ups_up ups_s ups_r refsOfs U7 Z0o Zp4 Zlk Z6h Ybn Ybo Zp3 Zlj Z6p Z0r Z0p Z0q Ybq Ybr Ybt Ybu Ybv Ybw Ybx Z6i Yby Ybz ren_fp Z6j Z6k Z6l Z6m Z6n Z6o Yb0 J6 flats Z6y Zul Z00 Zp9 Z6z Zum Z01 Zqa Z02 Zqb Z03 Zqc Z04 Zqd Z05 Zqe Z60 Zun Yb3 Z06 Z61 Zuo Z62 Zup Z63 Zuq Z64 Zur Zut N3 O1 leadss  Zi9 Zzl Zpu
  Zpq Zlf Zs9 Zpr Zlg Zta Zps Zp5 Zt6 Zt7 Zll Zt8 Zlm Z6q Zt4 Zt5 Z0s tidy Zok R5 Z4u Z4v K0 Z6t Z0t X2 Zhs X3 rep bytesOf
  if_true if_false Nat.add_zero Nat.zero_add and_self and_true true_and cond_true cond_false Site.s.injEq Site.r.injEq Site.up.injEq List.append_nil List.nil_append List.cons_append List.contains_nil List.contains_cons List.map_nil List.map_cons List.length_nil List.length_cons List.lookup_cons Option.map_some Option.map_none Bool.or_false Bool.false_or Bool.or_true Bool.true_or Bool.not_true Bool.not_false beq_self_eq_true List.flatMap_nil List.flatMap_cons Option.isSome_some Option.isSome_none BEq.rfl eq_self Bool.and_true Bool.true_and Bool.and_false Bool.false_and Nat.le_refl decide_true decide_false beq_true beq_false List.getElem?_cons_zero List.getElem?_cons_succ List.getElem?_nil
end Cod

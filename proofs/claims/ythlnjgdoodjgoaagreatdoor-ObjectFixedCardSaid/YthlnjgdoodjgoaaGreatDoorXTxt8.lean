/- Links and checks. -/
import Derived.Test.YthlnjgdoodjgoaaGreatDoorXTxt7
import Derived.Test.YthlnjgdoodjgoaaGreatDoorXTxt6
import Derived.Test.YthlnjgdoodjgoaaGreatDoorXTxt2
set_option linter.unusedSimpArgs false
set_option linter.unusedVariables false
open List renaming append_nil → Yo4, length_cons → Ymo, length_nil → Ynl, length_replicate → Yo5, nil_append → Yn0, replicate_succ → Ypi
open Int renaming cast_ofNat_Int → Yoj
open Nat renaming reduceEqDiff → C9, reduceAdd → D0, reduceSub → D1, reduceMul → D2, reduceDiv → D3, reduceMod → D4, reduceBEq → D5, reduceLeDiff → D6, reduceLT → D7
open Int renaming reduceEq → D8, reduceNe → D9, reduceLT → E2, reduceLE → E3, reduceBEq → E4, reduceBNe → E5, reduceToNat → E6, reduceAdd → E7, reduceSub → E8, reduceMul → E9, reduceNeg → A2
namespace Cod
open Go
theorem Yg6:Zgn []=[]:=rfl
def linV (a:List Lnk) (e:Int):AV × A1:=(.tup [.buf (.r 0) 0 0 a.length 33,.int .i64 e],[(.r 0,⟨0,true,true,false,Zgn a⟩)])
theorem Zjv (e:Int):linV [] e=(.tup [.buf (.r 0) 0 0 0 33,.int .i64 e],[(.r 0,⟨0,true,true,false,[]⟩)]):=rfl
end Cod
namespace Cod
open Go
end Cod
namespace Cod
open Go
theorem Z84:∀ {σ:A1} {t s:Site} {e:Ent},A6 (G6 σ t e) s=X7 (decide (t=s)) (some e) (A6 σ s) ⟨⟩ ⟨⟩:=by
  intro σ
  induction σ with
  | nil=>intro t s e;rw [Zuz,Zdd]
  | cons x σ ih =>
    obtain ⟨k,u⟩:=x
    intro t s e
    unfold G6
    by_cases h:k=t
    · subst h
      rw [if_pos rfl,Zdd,Zdd]
      unfold X7
      cases decide (k=s)<;>rfl
    · rw [if_neg h,Zdd,Zdd,ih]
      unfold X7
      by_cases h2:k=s
      · subst h2
        have:decide (t=k)=false:=by simp;exact fun h3=>h h3.symm
        rw [this];simp
      · have:decide (k=s)=false:=by simp [h2]
        rw [this];rfl
theorem Yg7:∀ {σ:A1} {n k:Nat} {e:Ent},ups (G6 σ (.s n k) e)=ups σ:=by
  intro σ
  induction σ with
  | nil=>intro n k e;rfl
  | cons x σ ih =>
    obtain ⟨s,u⟩:=x
    intro n k e
    unfold G6
    by_cases h:s=.s n k
    · subst h;rw [if_pos rfl];rfl
    · rw [if_neg h]
      cases s with
      | s a b=>exact ih
      | r a=>exact ih
      | up a=>simp only [ups];rw [ih]
structure FrB (σ:A1) (d m:Nat):Prop where
  ups:ups σ=[]
  free:∀ n k,d≤n→A6 σ (.s n k)=none
  mid:∀ n k,m≤n→n≤28→A6 σ (.s n k)=none
theorem FrB.put {σ:A1} {d m a b:Nat} {e:Ent} (h:FrB σ d m) (ha:a<d∧(a<m∨28<a)):FrB (G6 σ (.s a b) e) d m:=by
  have key:∀ n k,n≠a→A6 (G6 σ (.s a b) e) (.s n k)=A6 σ (.s n k):=by
    intro n k hn
    rw [Z84,show decide ((Site.s a b)=Site.s n k)=false by simp;intro h;omega]
    rfl
  refine ⟨by rw [Yg7];exact h.ups,fun n k hn=>?_,fun n k h1 h2=>?_⟩
  · rw [key n k (by omega)];exact h.free n k hn
  · rw [key n k (by omega)];exact h.mid n k h1 h2
theorem FrB.mono {σ:A1} {d m d' m':Nat} (h:FrB σ d m) (hd:d≤d') (hm:m≤m'):FrB σ d' m':=⟨h.ups,fun n k hn=>h.free n k (by omega),fun n k h1 h2=>h.mid n k (by omega) h2⟩
end Cod
namespace Cod
open Go
theorem Z11:Zdt []:=⟨fun i=>by simp [eat,List.getD];decide,fun i=>by simp [eat,List.getD];decide,by simp⟩
theorem Zxc:Zcg []=0:=by decide
theorem Zxd (p:List UInt8) (hp:p.length≤1048576):(S EE F.B3 [.lst (A0 p) p.length] []=some (noC 4))∨∃ g:Snap,g.par.length≤16∧Z3i p g∧S EE F.B3 [.lst (A0 p) p.length] []=some (yesC g):=by
  obtain ⟨g,b,s1,y1⟩:=Zs4 envC (p:=p) rfl hp
  unfold cmV at s1
  by_cases h:(decide (b=0)&&isC g p)=true
  · rw [if_pos h] at s1
    have hc:=Yli.1 (Bool.and_eq_true .. ▸ h).2
    exact .inr ⟨g,(Zlx hc.1).1,hc,s1⟩
  · rw [if_neg h] at s1
    exact .inl s1
end Cod
namespace Cod
open Go
end Cod
namespace Cod
open Go
def fE (n:List UInt8):Ety:=⟨33188,n,List.replicate 32 0,by simp⟩
def dE:Ety:=⟨16384,[97],List.replicate 32 0,by simp⟩
theorem oe0 (e:Ety) (m:Int):over e.cells 0 [.int .i64 m]=(⟨m,e.name,e.id,e.hid⟩:Ety).cells:=rfl
theorem oe1 (e:Ety) (n:List UInt8):over e.cells 1 [.str n]=(⟨e.mode,n,e.id,e.hid⟩:Ety).cells:=rfl
theorem wf (n:List UInt8) (h):Ety.cells ⟨33188,n,(default:Ety).id,h⟩=(fE n).cells:=rfl
theorem wd (h):Ety.cells ⟨16384,[97],(default:Ety).id,h⟩=dE.cells:=rfl
theorem Ztd {n:List UInt8}:S E F.P3 [.str n] []=some (.agg (fE n).cells,[]):=by
  rw [S_of Zqu rfl rfl]
  simp -dsimp (disch:=first|omega|(simp only [A4,A9,J8]<;>omega)|fail) only [L.P3,go_sem,reduceIte,reduceCtorEq,C9,D0,D1,D2,D3,D4,D5,D6,D7,D8,D9,E2,E3,E4,E5,E6,E7,E8,E9,A2,BYs,oe0,oe1,wf,Zm1,R6]
  rfl
theorem Zgo (a b:Ety):a.cells++b.cells=O8 [a,b]:=by simp [O8]
theorem Yl1 (a b c:Ety):over (O8 [a,b]) 0 c.cells=O8 [c,b]:=by
  rw [←Zgo,←Zgo]
  unfold over
  rw [List.take_zero,Yn0,Nat.zero_add,R6,List.drop_left' (R6 a)]
theorem Yl2 (a b c:Ety):over (O8 [a,b]) 34 c.cells=O8 [a,c]:=by
  rw [←Zgo,←Zgo]
  unfold over
  rw [List.take_left' (R6 a),List.drop_of_length_le (by rw [List.length_append,R6,R6,R6];omega),Yo4]
theorem Zxe (n:Nat):rep (default:Ety).cells n=O8 (List.replicate n default):=by
  induction n with
  | zero=>rfl
  | succ n ih=>rw [rep,ih,Ypi];rfl
theorem Z3p (n:Nat):rep (A0 (List.replicate 32 0)) n=ids (List.replicate n default):=by
  induction n with
  | zero=>rfl
  | succ n ih=>rw [rep,ih,Ypi];rfl
theorem Zfi (a b:Ety) (ha:a.name.length≤1000000000 ∧ -9223372036854775808≤a.mode∧a.mode≤9223372036854775807) (hb:b.name.length≤1000000000 ∧ -9223372036854775808≤b.mode∧b.mode≤9223372036854775807):Zdt [a,b]:=by
  have key:∀ i,(eat [a,b] i).name.length≤1000000000 ∧ -9223372036854775808≤(eat [a,b] i).mode∧(eat [a,b] i).mode≤9223372036854775807:=by
    intro i
    match i with
    | 0=>exact ha
    | 1=>exact hb
    | i+2=>exact ⟨by show (default:Ety).name.length≤_;decide,by show _≤(default:Ety).mode;decide,by show (default:Ety).mode≤_;decide⟩
  exact ⟨fun i=>(key i).1,fun i=>(key i).2,by simp⟩
theorem Zxf (n:Nat) (h:n≤100000):Zdt (List.replicate n default):=by
  have key:∀ i,eat (List.replicate n default) i=default:=by
    intro i
    unfold eat
    rw [List.getD_eq_getElem?_getD,List.getElem?_replicate]
    split<;>rfl
  refine ⟨fun i=>?_,fun i=>?_,by rw [Yo5];omega⟩<;>rw [key]<;>decide
theorem ent_ba:Zcg [fE [98],fE [97]]=4:=by decide +kernel
theorem ent_ad:Zcg [fE [97],dE]=8:=by decide +kernel
theorem ent_db:Zcg [dE,fE [97,46,98]]=4:=by decide +kernel
theorem ent_bd:Zcg [fE [97,46,98],dE]=0:=by decide +kernel
theorem Yg8 (n:Nat) (h:4096<n):Zcg (List.replicate n default)=2:=by
  unfold Zcg
  rw [if_pos (by rw [Yo5];omega)]
def s17 (n:Nat) (z:Int):Snap:=⟨Zfj,List.replicate n default,⟨[],[],0,z⟩,J9,[],Zb0⟩
theorem cmt_17:Zeu (s17 17 9999)=2:=by decide +kernel
theorem cmt_16:Zeu (s17 16 0)=0:=by decide +kernel
theorem Z85:S EE F.B3 [.lst [] 0] []=some (noC 4):=by
  rcases Zxd [] (by simp) with h|⟨g,_,hc,_⟩
  · exact h
  · have:=hc.2
    rw [Zwx] at this
    cases this
theorem Zpq {k:Int}:S E F.M7 [.agg [.int .i64 k,.nils]] []=some (.int .i64 (Zjl k 0),[]):=by
  have w1:S E F.C0 [.bool false,.int .i64 2] []=some (.int .i64 0,[]):=Q8
  have w2:S E F.C0 [.bool (Zjk k == []),.int .i64 9] []=some (.int .i64 (Zgh k),[]):=Q8
  have hd:S E F.C4 [.lst [.int .i64 0,.int .i64 (Zgh k)] 2] []=some (.int .i64 (Zjl k 0),[]):=by rw [Z3c];exact Zg9
  rw [S_of Ziy rfl rfl]
  simp -dsimp (disch:=first|omega|(simp only [A4,A9,J8]<;>omega)|fail) only [L.M7,go_sem,reduceIte,reduceCtorEq,C9,D0,D1,D2,D3,D4,D5,D6,D7,D8,D9,E2,E3,E4,E5,E6,E7,E8,E9,A2,BYs,Zg8,w1,w2,hd]
theorem Yl3:S EE F.M5 [.agg [.int .i64 5,.nils]] []=some (.int .i64 9,[]):=by
  have a1:=U5 Zhh (Zpq (k:=5))
  rw [show Zjl 5 0=9 by decide] at a1
  have s1:S EE F.F8 [.agg [.int .i64 5,.nils]] []=some (linV [] 9):=by
    rw [Znq Zir rfl rfl,Zjv]
    simp -dsimp (disch:=first|omega|(simp only [A4,A9,J8]<;>omega)|fail) only [L.F8,go_sem,reduceIte,reduceCtorEq,C9,D0,D1,D2,D3,D4,D5,D6,D7,D8,D9,E2,E3,E4,E5,E6,E7,E8,E9,A2,BYs,a1]
  rw [Zjv] at s1
  rw [Znq Zis rfl rfl]
  simp -dsimp (disch:=first|omega|(simp only [A4,A9,J8]<;>omega)|fail) only [L.M5,go_sem,reduceIte,reduceCtorEq,C9,D0,D1,D2,D3,D4,D5,D6,D7,D8,D9,E2,E3,E4,E5,E6,E7,E8,E9,A2,BYs,s1]
theorem Yl4:S EE F.M5 [.agg [.int .i64 2,.nils]] []=some (.int .i64 0,[]):=by
  have a1:=U5 Zhh (Zpq (k:=2))
  rw [show Zjl 2 0=0 by decide] at a1
  have a4:=Zta (p:=[]) (n:=0) rfl (by simp)
  rw [Yg2 (p:=[]) (l:=[]) ⟨Zxc,rfl⟩ (by simp)] at a4
  unfold okTr at a4
  have q1:=fun k=>lk_ent (E:=EE) (l:=[]) (by simp) k 0 0 [] rfl (by simp)
  simp only [List.drop_nil,Yn0,Ynl,Yg6,Yoj,List.cons_append,show A0 []=[] from rfl,Zm0,Zxa,List.map_nil,Yo4] at q1 a4
  have s1:S EE F.F8 [.agg [.int .i64 2,.nils]] []=some (linV [] 0):=by
    rw [Znq Zir rfl rfl,Zjv]
    simp -dsimp (disch:=first|omega|(simp only [A4,A9,J8]<;>omega)|fail) only [L.F8,L.F8.r0,go_sem,reduceIte,reduceCtorEq,C9,D0,D1,D2,D3,D4,D5,D6,D7,D8,D9,E2,E3,E4,E5,E6,E7,E8,E9,A2,BYs,a1,a4,q1,Yoj,Zm0]
  rw [Zjv] at s1
  rw [Znq Zis rfl rfl]
  simp -dsimp (disch:=first|omega|(simp only [A4,A9,J8]<;>omega)|fail) only [L.M5,go_sem,reduceIte,reduceCtorEq,C9,D0,D1,D2,D3,D4,D5,D6,D7,D8,D9,E2,E3,E4,E5,E6,E7,E8,E9,A2,BYs,s1]
theorem Zte:S EE F.B0 [] []=some (.bool true,[]):=by
  have hz0:=Zb0
  have hh:=U5 Zhh (Zkh (k:=3) (n:=3) (by omega) (by omega))
  have hh2:=U5 Zhh (Zkh (k:=9) (n := -1) (by omega) (by omega))
  have e1:Z05 3 3=.tup [.str [98,108,111,98,32,51,0],.int .i64 0]:=by unfold Z05;rw [if_pos (by decide),hdr_w]
  have e2:Z05 9 (-1)=.tup [.str [],.int .i64 1]:=by unfold Z05;rw [if_neg (by decide)];rfl
  rw [e1] at hh
  rw [e2] at hh2
  have f1:=U5 Zhh (Ztd (n:=[97]))
  have f2:=U5 Zhh (Ztd (n:=[98]))
  have f3:=U5 Zhh (Ztd (n:=[97,46,98]))
  have p0:=Zgm Z11
  have p1:=Zgm (Zfi (fE [98]) (fE [97]) (by decide) (by decide))
  have p2:=Zgm (Zfi (fE [97]) dE (by decide) (by decide))
  have p3:=Zgm (Zfi dE (fE [97,46,98]) (by decide) (by decide))
  have p4:=Zgm (Zfi (fE [97,46,98]) dE (by decide) (by decide))
  obtain ⟨M,hM⟩:∃ M:Nat,M=4097:=⟨_,rfl⟩
  obtain ⟨N,hN⟩:∃ N:Nat,N=17:=⟨_,rfl⟩
  obtain ⟨K,hK⟩:∃ K:Nat,K=16:=⟨_,rfl⟩
  have p5:=Zgm (Zxf M (by omega))
  have c1:=envC.put (s:=s17 N 9999) (v:=.lst (ids (List.replicate N default)) N) (.inl (by simp [s17])) ⟨by simp [s17];omega,by simp [s17]⟩
  have c2:=envC.put (s:=s17 K 0) (v:=.lst (ids (List.replicate K default)) K) (.inl (by simp [s17])) ⟨by simp [s17];omega,by simp [s17]⟩
  unfold Zlb at p0 p1 p2 p3 p4 p5
  unfold Zs3 at c1 c2
  rw [if_pos Zxc] at p0
  rw [ent_ba,if_neg (by decide)] at p1
  rw [ent_ad,if_neg (by decide)] at p2
  rw [ent_db,if_neg (by decide)] at p3
  rw [ent_bd,if_pos rfl] at p4
  rw [Yg8 M (by omega),if_neg (by decide),Yo5] at p5
  have k1:Zeu (s17 N 9999)=2:=by rw [hN];exact cmt_17
  have k2:Zeu (s17 K 0)=0:=by rw [hK];exact cmt_16
  rw [k1,if_neg (by decide)] at c1
  rw [k2,if_pos rfl] at c2
  unfold putA at c2
  generalize Zci (s17 K 0)=B at c2
  generalize H3 [fE [97,46,98],dE]=B4 at p4
  simp only [show H3 []=[] from rfl,show A0 []=[] from rfl,show O8 []=[] from rfl,Ynl] at p0
  simp only [Ymo,Ynl,Nat.zero_add,Nat.reduceAdd] at p1 p2 p3 p4
  simp only [s17] at c1 c2
  rw [show (⟨[],[],0,0⟩:Idt)=J9 from rfl] at c2
  have pn:=Z85
  unfold noC at pn
  have r2:rep (default:Ety).cells 2=O8 [default,default]:=Zxe 2
  have q1:rep (default:Ety).cells (Int.toNat 4097)=O8 (List.replicate M default):=by
    rw [hM];exact (congrArg (rep _) (show Int.toNat 4097=4097 from rfl)).trans (Zxe 4097)
  have q2:Int.toNat 4097=M:=by rw [hM];rfl
  have q3:rep (A0 (List.replicate 32 0)) (Int.toNat 17)=ids (List.replicate N default):=by
    rw [hN];exact (congrArg (rep _) (show Int.toNat 17=17 from rfl)).trans (Z3p 17)
  have q4:Int.toNat 17=N:=by rw [hN];rfl
  have q5:rep (A0 (List.replicate 32 0)) (Int.toNat 16)=ids (List.replicate K default):=by
    rw [hK];exact (congrArg (rep _) (show Int.toNat 16=16 from rfl)).trans (Z3p 16)
  have q6:Int.toNat 16=K:=by rw [hK];rfl
  have w1:[AV.str [],.str [],.int .i64 0,.int .i64 9999]=(⟨[],[],0,9999⟩:Idt).cells:=rfl
  have w2:J9=⟨[],[],0,0⟩:=rfl
  have l1:(List.replicate M (default:Ety)).length=M:=Yo5
  have l2:(List.replicate N (default:Id32)).length=N:=Yo5
  have l3:(List.replicate K (default:Id32)).length=K:=Yo5
  have u1:∀ l:List Ety,sub (O8 l) 0 (l.length*34)=O8 l:=fun l=>X8 (by rw [A9];omega)
  have u2:sub (O8 (List.replicate M default)) 0 (M*34)=O8 (List.replicate M default):=X8 (by rw [A9,l1];omega)
  have u3:sub (ids (List.replicate N default)) 0 (N*32)=ids (List.replicate N default):=X8 (by rw [J8,l2];omega)
  have u4:sub (ids (List.replicate K default)) 0 (K*32)=ids (List.replicate K default):=X8 (by rw [J8,l3];omega)
  have u5:∀ a b:Ety,sub (O8 [a,b]) 0 68=O8 [a,b]:=fun a b=>X8 (by rw [A9];simp)
  rw [Znq Zqp rfl rfl]
  simp -dsimp (disch:=first|omega|(simp only [A4,A9,J8]<;>omega)|fail) only [L.B0,L.B0.t0,L.B0.t1,L.B0.t2,L.B0.t3,L.B0.t4,L.B0.t5,L.B0.t6,L.B0.t7,L.B0.t8,go_sem,reduceIte,reduceCtorEq,C9,D0,D1,D2,D3,D4,D5,D6,D7,D8,D9,E2,E3,E4,E5,E6,E7,E8,E9,A2,BYs,Ygt,hh,p0,oe0,oe1,wd,wf,Zm1,R6,f1,f2,f3,r2,Zgo,Yl1,Yl2,u5,p1,p2,p3,p4,pn,A9,Ymo,Ynl,Z3h]
  simp -dsimp (disch:=first|omega|(simp only [A4,A9,J8]<;>omega)|fail) only [L.B0.t9,L.B0.t10,L.B0.t11,L.B0.t12,L.B0.t13,go_sem,reduceIte,reduceCtorEq,C9,D0,D1,D2,D3,D4,D5,D6,D7,D8,D9,E2,E3,E4,E5,E6,E7,E8,E9,A2,BYs,R6,↓q1,↓q2,↓q3,↓q4,↓q5,↓q6,u2,u3,u4,l1,l2,l3,p5,w1,Yfx,Yfy,c1,c2,hh2,Yl3,Yl4]
end Cod
namespace Cod
open Go
theorem Ztf {xs:List AV} (h:Zmt [] xs):∃ σr,S EE 9 xs []=some (.bool true,σr):=by
  obtain rfl:xs=[]:=h
  exact ⟨[],Zte⟩
end Cod

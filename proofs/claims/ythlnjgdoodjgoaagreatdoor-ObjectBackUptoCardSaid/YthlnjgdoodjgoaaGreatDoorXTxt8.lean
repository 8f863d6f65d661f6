/- Links and checks. -/
import Derived.Test.YthlnjgdoodjgoaaGreatDoorXTxt7
import Derived.Test.YthlnjgdoodjgoaaGreatDoorXTxt6
import Derived.Test.YthlnjgdoodjgoaaGreatDoorXTxt2
set_option linter.unusedSimpArgs false
set_option linter.unusedVariables false
open List renaming cons_append → Yna, flatten_cons → Yop, getElem_mem → Yp1, length_nil → Yok, mem_cons_of_mem → Yob, nil_append → Yoz
open Int renaming cast_ofNat_Int → Ypi
open Bool renaming and_eq_true → Ynm
open Nat renaming reduceEqDiff → B9, reduceAdd → C0, reduceSub → C1, reduceMul → C2, reduceDiv → C3, reduceMod → C4, reduceBEq → C5, reduceLeDiff → C6, reduceLT → C7
open Int renaming reduceEq → C8, reduceNe → C9, reduceLT → D0, reduceLE → D1, reduceBEq → D2, reduceBNe → D3, reduceToNat → D4, reduceAdd → D5, reduceSub → D6, reduceMul → D7, reduceNeg → A3
namespace Cod
open Go
theorem Yhv:Zgg []=[]:=rfl
def linV (a:List Lnk) (e:Int):AV × A1:=(.tup [.buf (.r 0) 0 0 a.length 33,.int .i64 e],[(.r 0,⟨0,true,true,false,Zgg a⟩)])
end Cod
namespace Cod
open Go
theorem F7:∀ {l:List (Nat × AV)} {t n:Nat} {v:AV},J5 (Zhv l t v) n=T6 (t==n) v (J5 l n) ⟨⟩ ⟨⟩:=by
  intro l
  induction l with
  | nil=>intro t n v;rw [Zvg,Zc2]
  | cons x l ih =>
    obtain ⟨k,u⟩:=x
    intro t n v
    unfold Zhv
    by_cases h:k=t
    · subst h
      rw [if_pos rfl,Zc2,Zc2]
      unfold T6
      cases (k==n)<;>rfl
    · rw [if_neg h,Zc2,Zc2,ih]
      unfold T6
      by_cases h2:k=n
      · subst h2
        have:(t==k)=false:=by simp;omega
        rw [this];simp
      · have:(k==n)=false:=by simp [h2]
        rw [this];rfl
theorem F6:∀ {σ:A1} {t s:Site} {e:Ent},B0 (H4 σ t e) s=T6 (decide (t=s)) (some e) (B0 σ s) ⟨⟩ ⟨⟩:=by
  intro σ
  induction σ with
  | nil=>intro t s e;rw [Zvh,X0]
  | cons x σ ih =>
    obtain ⟨k,u⟩:=x
    intro t s e
    unfold H4
    by_cases h:k=t
    · subst h
      rw [if_pos rfl,X0,X0]
      unfold T6
      cases decide (k=s)<;>rfl
    · rw [if_neg h,X0,X0,ih]
      unfold T6
      by_cases h2:k=s
      · subst h2
        have:decide (t=k)=false:=by simp;exact fun h3=>h h3.symm
        rw [this];simp
      · have:decide (k=s)=false:=by simp [h2]
        rw [this];rfl
theorem G2:∀ {σ:A1} {n k:Nat} {e:Ent},ups (H4 σ (.s n k) e)=ups σ:=by
  intro σ
  induction σ with
  | nil=>intro n k e;rfl
  | cons x σ ih =>
    obtain ⟨s,u⟩:=x
    intro n k e
    unfold H4
    by_cases h:s=.s n k
    · subst h;rw [if_pos rfl];rfl
    · rw [if_neg h]
      cases s with
      | s a b=>exact ih
      | r a=>exact ih
      | up a=>simp only [ups];rw [ih]
structure FrB (σ:A1) (d m:Nat):Prop where
  ups:ups σ=[]
  free:∀ n k,d≤n→B0 σ (.s n k)=none
  mid:∀ n k,m≤n→n≤28→B0 σ (.s n k)=none
theorem tl8 {sl:List (Nat × AV)} {σ:A1} {e f:Int} {p:List UInt8} {q:AV} (hu:ups σ=[]) (hp:p.length≤20000) (h4:J5 sl 4=.lst (A0 p) p.length) (h24:J5 sl 24=.int .i64 e) (h25:J5 sl 25=.int .i64 f) (h23:J5 sl 23=q)
    (h:e≠0∨(f=0∧∃ d k g,q=.buf (.s d k) g 0 p.length 1∧B0 σ (.s d k)=some ⟨g,true,true,false,A0 p⟩)):X EE [.tmp 10] [.c L.A6.t8] ⟨sl,σ⟩=some (.bool true,[]):=by
  by_cases he:e=0
  · subst he
    obtain ⟨rfl,d,k,g,rfl,hs⟩:=h.resolve_left (fun h=>h rfl)
    have a7:=K5 Zgf (Ymh (a:=p) (b:=p) (n:=p.length) (m:=p.length) rfl rfl)
    have b7:(p==p)=true:=by simp
    rw [b7] at a7
    simp -dsimp (disch:=first|omega|(simp only [A4]<;>omega)|fail) only [L.A6.t8,go_sem,reduceIte,reduceCtorEq,B9,C0,C1,C2,C3,C4,C5,C6,C7,C8,C9,D0,D1,D2,D3,D4,D5,D6,D7,A3,BYs,F7,F6,G2,hu,h4,h24,h25,h23,hs,a7]
  · simp -dsimp (disch:=first|omega|(simp only [A4]<;>omega)|fail) only [L.A6.t8,go_sem,reduceIte,reduceCtorEq,B9,C0,C1,C2,C3,C4,C5,C6,C7,C8,C9,D0,D1,D2,D3,D4,D5,D6,D7,A3,BYs,F7,F6,G2,hu,h4,h24,h25,h23,he]
theorem FrB.put {σ:A1} {d m a b:Nat} {e:Ent} (h:FrB σ d m) (ha:a<d∧(a<m∨28<a)):FrB (H4 σ (.s a b) e) d m:=by
  have key:∀ n k,n≠a→B0 (H4 σ (.s a b) e) (.s n k)=B0 σ (.s n k):=by
    intro n k hn
    rw [F6,show decide ((Site.s a b)=Site.s n k)=false by simp;intro h;omega]
    rfl
  refine ⟨by rw [G2];exact h.ups,fun n k hn=>?_,fun n k h1 h2=>?_⟩
  · rw [key n k (by omega)];exact h.free n k hn
  · rw [key n k (by omega)];exact h.mid n k h1 h2
theorem FrB.mono {σ:A1} {d m d' m':Nat} (h:FrB σ d m) (hd:d≤d') (hm:m≤m'):FrB σ d' m':=⟨h.ups,fun n k hn=>h.free n k (by omega),fun n k h1 h2=>h.mid n k (by omega) h2⟩
end Cod
namespace Cod
open Go
theorem Z2m:Zbs []:=⟨fun i=>by simp [eat,List.getD];decide,fun i=>by simp [eat,List.getD];decide,by simp⟩
theorem Yhw {s:List UInt8} (h:Q7 s=true):s.length≤100:=by
  unfold Q7 at h
  simp only [Ynm,decide_eq_true_eq] at h
  omega
theorem Ym0 {l:List Ety} (h:Zdk l=0):Zbs l:=by
  obtain ⟨h1,h2⟩:=Zjo h
  have key:∀ i,(eat l i).name.length≤1000000000 ∧ -9223372036854775808≤(eat l i).mode∧(eat l i).mode≤9223372036854775807:=by
    intro i
    by_cases hi:i<l.length
    · have e:eat l i=l[i]:=by simp [eat,List.getD,hi]
      obtain ⟨a,b⟩:=h2 l[i] (Yp1 hi)
      rw [←e] at a b
      have:=Yhw a
      unfold Zdi at b
      simp only [Bool.or_eq_true,decide_eq_true_eq] at b
      omega
    · have:eat l i=default:=by unfold eat;rw [List.getD,List.getElem?_eq_none (by omega)];rfl
      rw [this]
      exact ⟨by decide,by decide,by decide⟩
  exact ⟨fun i=>(key i).1,fun i=>(key i).2,by omega⟩
theorem Z2n (p:List UInt8) (hp:p.length≤1048576):∃ l e,Z2i p=parX l e∧l.length≤4096∧Zbs l∧((e=0∧Zkm p l)∨(e≠0∧l=[])):=by
  by_cases h:∃ l,Zkm p l
  · obtain ⟨l,h⟩:=h
    exact ⟨l,0,Znt h hp,(Zjo h.1).1,Ym0 h.1,.inl ⟨rfl,h⟩⟩
  · exact ⟨[],4,Ymy (fun l hl=>h ⟨l,hl⟩) hp,by simp,Z2m,.inr ⟨by decide,rfl⟩⟩
theorem Yhx:Zdk []=0:=by decide
theorem tl7a {sl:List (Nat × AV)} {σ:A1} {k:Int} {p:List UInt8} (hF:FrB σ 104 24) (hp:p.length≤20000) (h3:J5 sl 3=.int .i64 k) (h4:J5 sl 4=.lst (A0 p) p.length) (c:k.tmod 3=0):X EE [.tmp 10] [.c L.A6.t7] ⟨sl,σ⟩=some (.bool true,[]):=by
  obtain ⟨l,e,p1,hl,hok,hc⟩:=Z2n p (by omega)
  have a3:=K5 Zgf (Zs4 (a:=p) rfl (by omega))
  have a4:=Ze9 (p:=p) (n:=p.length) rfl (by omega)
  rw [p1] at a4
  unfold parX at a4
  have a1:=Ztn hok
  unfold Zjm at a1
  have hf:=hF.free
  have hm:=hF.mid
  have hu:=hF.ups
  rcases hc with ⟨rfl,hc⟩|⟨he,rfl⟩
  · rw [if_pos hc.1,hc.2] at a1
    simp -dsimp (disch:=first|omega|(simp only [A4,A2,D9]<;>omega)|fail) only [L.A6.t7,go_sem,reduceIte,reduceCtorEq,B9,C0,C1,C2,C3,C4,C5,C6,C7,C8,C9,D0,D1,D2,D3,D4,D5,D6,D7,A3,BYs,F7,F6,G2,h3,h4,c,a1,a3,a4,hf,hm]
    refine tl8 (p:=p) (e:=0) (f:=0) ?_ hp ?_ ?_ ?_ ?_ (.inr ⟨rfl,127,0,0,rfl,?_⟩)<;>simp -dsimp (disch:=first|omega|(simp only [A4,A2,D9]<;>omega)|fail) only [go_sem,reduceIte,reduceCtorEq,B9,C0,C1,C2,C3,C4,C5,C6,C7,C8,C9,D0,D1,D2,D3,D4,D5,D6,D7,A3,F7,F6,G2,hu,h4,hf]
  · rw [if_pos Yhx] at a1
    simp only [show I1 []=[] from rfl,show A0 []=[] from rfl,show Q9 []=[] from rfl,Yok] at a1 a4
    simp -dsimp (disch:=first|omega|(simp only [A4,A2,D9]<;>omega)|fail) only [L.A6.t7,go_sem,reduceIte,reduceCtorEq,B9,C0,C1,C2,C3,C4,C5,C6,C7,C8,C9,D0,D1,D2,D3,D4,D5,D6,D7,A3,BYs,F7,F6,G2,h3,h4,c,a1,a3,a4,hf,hm]
    refine tl8 (p:=p) (e:=e) (f:=0) ?_ hp ?_ ?_ ?_ rfl (.inl he)<;>simp -dsimp (disch:=first|omega|(simp only [A4,A2,D9]<;>omega)|fail) only [go_sem,reduceIte,reduceCtorEq,B9,C0,C1,C2,C3,C4,C5,C6,C7,C8,C9,D0,D1,D2,D3,D4,D5,D6,D7,A3,F7,F6,G2,hu,h4,hf]
theorem Zx0 (p:List UInt8) (hp:p.length≤1048576):(S EE F.B3 [.lst (A0 p) p.length] []=some (noC 4))∨∃ g:Snap,g.par.length≤16∧Z37 p g∧S EE F.B3 [.lst (A0 p) p.length] []=some (yesC g):=by
  obtain ⟨g,b,s1,y1⟩:=Zjj envC (p:=p) rfl hp
  unfold cmV at s1
  by_cases h:(decide (b=0)&&isC g p)=true
  · rw [if_pos h] at s1
    have hc:=Z4d.1 (Ynm .. ▸ h).2
    exact .inr ⟨g,(Zg0 hc.1).1,hc,s1⟩
  · rw [if_neg h] at s1
    exact .inl s1
theorem Yhy (p:List UInt8) (hp:p.length≤1048576):(S EE F.E4 [.lst (A0 p) p.length] []=some (.tup [.agg Zbg.cells,.int .i64 4],[]))∨∃ g:Lbl,Z34 p g∧S EE F.E4 [.lst (A0 p) p.length] []=some (.tup [.agg g.cells,.int .i64 0],[]):=by
  obtain ⟨g,b,_,_,s1,y1⟩:=Zk7 envP (p:=p) rfl hp
  unfold lblV at s1
  by_cases h:(decide (b=0)&&isL g p)=true
  · rw [if_pos h] at s1
    exact .inr ⟨g,Z4g.1 (Ynm .. ▸ h).2,s1⟩
  · rw [if_neg h] at s1
    exact .inl s1
theorem Ym1 {g:Snap} (h:Zfe g=0):Ze8 g:=by
  obtain ⟨a,b,_,_⟩:=Zg0 h
  exact ⟨by omega,by omega⟩
def Yhz:Snap:=mkS Zeh [] J9 J9 [] Zau
theorem tl7b {sl:List (Nat × AV)} {σ:A1} {k:Int} {p:List UInt8} (hF:FrB σ 104 24) (hp:p.length≤20000) (h3:J5 sl 3=.int .i64 k) (h4:J5 sl 4=.lst (A0 p) p.length) (c0:k.tmod 3≠0) (c:k.tmod 3=1):X EE [.tmp 10] [.c L.A6.t7] ⟨sl,σ⟩=some (.bool true,[]):=by
  have a3:=K5 Zgf (Zs4 (a:=p) rfl (by omega))
  have hf:=hF.free
  have hm:=hF.mid
  have hu:=hF.ups
  have hz0:=Zau
  rcases Zx0 p (by omega) with a4|⟨g,hg,hc,a4⟩
  · unfold noC at a4
    have a1:=envC.put (s:=Yhz) (v:=.nils) (.inr ⟨rfl,rfl⟩) ⟨by simp [Yhz,mkS],by simp [Yhz,mkS]⟩
    obtain ⟨q,f,σ1,a1,hq⟩:∃ q f σ1,S EE F.N7 [.agg (snR Zeh .nils J9 J9 [])] []=some (.tup [q,.int .i64 f],σ1)∧((q=.nils ∧ σ1=[])∨∃ b,q=.buf (.r 0) 0 0 b.length 1 ∧ σ1=[(.r 0,⟨0,true,true,false,A0 b⟩)]):=by
      unfold Zni Zd1 at a1
      split at a1
      · exact ⟨_,_,_,a1,.inr ⟨_,rfl,rfl⟩⟩
      · exact ⟨_,_,_,a1,.inl ⟨rfl,rfl⟩⟩
    rcases hq with ⟨rfl,rfl⟩|⟨b,rfl,rfl⟩
    · simp -dsimp (disch:=first|omega|(simp only [A4,A2,D9]<;>omega)|fail) only [L.A6.t7,go_sem,reduceIte,reduceCtorEq,B9,C0,C1,C2,C3,C4,C5,C6,C7,C8,C9,D0,D1,D2,D3,D4,D5,D6,D7,A3,BYs,F7,F6,G2,h3,h4,c0,c,a1,a3,a4,hf,hm]
      refine tl8 (p:=p) (e:=4) (f:=f) ?_ hp ?_ ?_ ?_ rfl (.inl (by decide))<;>simp -dsimp (disch:=first|omega|(simp only [A4,A2,D9]<;>omega)|fail) only [go_sem,reduceIte,reduceCtorEq,B9,C0,C1,C2,C3,C4,C5,C6,C7,C8,C9,D0,D1,D2,D3,D4,D5,D6,D7,A3,F7,F6,G2,hu,h4,hf]
    · simp -dsimp (disch:=first|omega|(simp only [A4,A2,D9]<;>omega)|fail) only [L.A6.t7,go_sem,reduceIte,reduceCtorEq,B9,C0,C1,C2,C3,C4,C5,C6,C7,C8,C9,D0,D1,D2,D3,D4,D5,D6,D7,A3,BYs,F7,F6,G2,h3,h4,c0,c,a1,a3,a4,hf,hm]
      refine tl8 (p:=p) (e:=4) (f:=f) ?_ hp ?_ ?_ ?_ rfl (.inl (by decide))<;>simp -dsimp (disch:=first|omega|(simp only [A4,A2,D9]<;>omega)|fail) only [go_sem,reduceIte,reduceCtorEq,B9,C0,C1,C2,C3,C4,C5,C6,C7,C8,C9,D0,D1,D2,D3,D4,D5,D6,D7,A3,F7,F6,G2,hu,h4,hf]
  · have hgt:=g.ht
    have a1:∀ v,PV v g.par→S EE F.N7 [.agg (snR g.tree v g.aut g.com g.msg)] []=some (Zd1 (Zbr g) 0):=fun v hv=>by
      have:=envC.put (s:=g) hv (Ym1 hc.1)
      rw [this];unfold Zni;rw [if_pos hc.1]
    unfold yesC at a4
    rw [hc.2] at a1
    unfold Zd1 at a1
    by_cases hpar:g.par=[]
    · rw [if_pos hpar] at a4
      have a1:=a1 .nils (.inr ⟨hpar,rfl⟩)
      simp -dsimp (disch:=first|omega|(simp only [A4,A2,D9]<;>omega)|fail) only [L.A6.t7,go_sem,reduceIte,reduceCtorEq,B9,C0,C1,C2,C3,C4,C5,C6,C7,C8,C9,D0,D1,D2,D3,D4,D5,D6,D7,A3,BYs,F7,F6,G2,h3,h4,c0,c,a1,a3,a4,hf,hm]
      refine tl8 (p:=p) (e:=0) (f:=0) ?_ hp ?_ ?_ ?_ ?_ (.inr ⟨rfl,140,0,0,rfl,?_⟩)<;>simp -dsimp (disch:=first|omega|(simp only [A4,A2,D9]<;>omega)|fail) only [go_sem,reduceIte,reduceCtorEq,B9,C0,C1,C2,C3,C4,C5,C6,C7,C8,C9,D0,D1,D2,D3,D4,D5,D6,D7,A3,F7,F6,G2,hu,h4,hf]
    · rw [if_neg hpar] at a4
      have a1:=a1 _ (.inl rfl)
      simp -dsimp (disch:=first|omega|(simp only [A4,A2,D9]<;>omega)|fail) only [L.A6.t7,go_sem,reduceIte,reduceCtorEq,B9,C0,C1,C2,C3,C4,C5,C6,C7,C8,C9,D0,D1,D2,D3,D4,D5,D6,D7,A3,BYs,F7,F6,G2,h3,h4,c0,c,a1,a3,a4,hf,hm]
      refine tl8 (p:=p) (e:=0) (f:=0) ?_ hp ?_ ?_ ?_ ?_ (.inr ⟨rfl,140,0,0,rfl,?_⟩)<;>simp -dsimp (disch:=first|omega|(simp only [A4,A2,D9]<;>omega)|fail) only [go_sem,reduceIte,reduceCtorEq,B9,C0,C1,C2,C3,C4,C5,C6,C7,C8,C9,D0,D1,D2,D3,D4,D5,D6,D7,A3,F7,F6,G2,hu,h4,hf]
theorem tl7c {sl:List (Nat × AV)} {σ:A1} {k:Int} {p:List UInt8} (hF:FrB σ 104 24) (hp:p.length≤20000) (h3:J5 sl 3=.int .i64 k) (h4:J5 sl 4=.lst (A0 p) p.length) (c0:k.tmod 3≠0) (c:k.tmod 3≠1):X EE [.tmp 10] [.c L.A6.t7] ⟨sl,σ⟩=some (.bool true,[]):=by
  have a3:=K5 Zgf (Zs4 (a:=p) rfl (by omega))
  have hf:=hF.free
  have hm:=hF.mid
  have hu:=hF.ups
  rcases Yhy p (by omega) with a4|⟨g,hc,a4⟩
  · have ho:over Zbg.cells 0 Zbg.cells=Zbg.cells:=Zji _ _
    have a1:=Zg1 envP (l:=Zbg) (by decide) (by decide)
    unfold Zki Zd1 at a1
    generalize tagO Zbg=b at a1
    generalize Zd0 Zbg=f at a1
    simp -dsimp (disch:=first|omega|(simp only [A4,A2,D9]<;>omega)|fail) only [L.A6.t7,go_sem,reduceIte,reduceCtorEq,B9,C0,C1,C2,C3,C4,C5,C6,C7,C8,C9,D0,D1,D2,D3,D4,D5,D6,D7,A3,BYs,F7,F6,G2,h3,h4,c0,c,a1,a3,a4,ho,hf,hm]
    refine tl8 (p:=p) (e:=4) (f:=f) ?_ hp ?_ ?_ ?_ rfl (.inl (by decide))<;>simp -dsimp (disch:=first|omega|(simp only [A4,A2,D9]<;>omega)|fail) only [go_sem,reduceIte,reduceCtorEq,B9,C0,C1,C2,C3,C4,C5,C6,C7,C8,C9,D0,D1,D2,D3,D4,D5,D6,D7,A3,F7,F6,G2,hu,h4,hf]
  · have ho:over Zbg.cells 0 g.cells=g.cells:=Zji _ _
    obtain ⟨_,b2,_,b4,_,_⟩:=Zls hc.1
    have a1:=Zg1 envP (l:=g) (by omega) (by omega)
    rw [Zlv hc.1,hc.2] at a1
    unfold Zd1 at a1
    simp -dsimp (disch:=first|omega|(simp only [A4,A2,D9]<;>omega)|fail) only [L.A6.t7,go_sem,reduceIte,reduceCtorEq,B9,C0,C1,C2,C3,C4,C5,C6,C7,C8,C9,D0,D1,D2,D3,D4,D5,D6,D7,A3,BYs,F7,F6,G2,h3,h4,c0,c,a1,a3,a4,ho,hf,hm]
    refine tl8 (p:=p) (e:=0) (f:=0) ?_ hp ?_ ?_ ?_ ?_ (.inr ⟨rfl,114,0,0,rfl,?_⟩)<;>simp -dsimp (disch:=first|omega|(simp only [A4,A2,D9]<;>omega)|fail) only [go_sem,reduceIte,reduceCtorEq,B9,C0,C1,C2,C3,C4,C5,C6,C7,C8,C9,D0,D1,D2,D3,D4,D5,D6,D7,A3,F7,F6,G2,hu,h4,hf]
theorem tl5 {sl:List (Nat × AV)} {σ:A1} {k:Int} {p:List UInt8} (hF:FrB σ 104 23) (hp:p.length≤20000) (h3:J5 sl 3=.int .i64 k) (h4:J5 sl 4=.lst (A0 p) p.length):X EE [.tmp 10] [.c L.A6.t5] ⟨sl,σ⟩=some (.bool true,[]):=by
  have hf:=hF.free
  have hm:=hF.mid
  have hu:=hF.ups
  simp -dsimp (disch:=first|omega|(simp only [A4,A2,D9]<;>omega)|fail) only [L.A6.t5,L.A6.t6,go_sem,reduceIte,reduceCtorEq,B9,C0,C1,C2,C3,C4,C5,C6,C7,C8,C9,D0,D1,D2,D3,D4,D5,D6,D7,A3,BYs,F7,F6,G2,h3,h4,hf,hm]
  have key:∀ {sl':List (Nat × AV)} {σ':A1},FrB σ' 104 24→J5 sl' 3=.int .i64 k→J5 sl' 4=.lst (A0 p) p.length→X EE [.tmp 10] [.c L.A6.t7] ⟨sl',σ'⟩=some (.bool true,[]):=by
    intro sl' σ' g1 g3 g4
    by_cases c0:k.tmod 3=0
    · exact tl7a g1 hp g3 g4 c0
    · by_cases c1:k.tmod 3=1
      · exact tl7b g1 hp g3 g4 c0 c1
      · exact tl7c g1 hp g3 g4 c0 c1
  refine key ((hF.mono (Nat.le_refl _) (by omega)).put (by omega)) ?_ ?_<;>simp -dsimp (disch:=first|omega|(simp only [A4,A2,D9]<;>omega)|fail) only [go_sem,reduceIte,reduceCtorEq,B9,C0,C1,C2,C3,C4,C5,C6,C7,C8,C9,D0,D1,D2,D3,D4,D5,D6,D7,A3,F7,F6,G2,h3,h4]
end Cod
namespace Cod
open Go
theorem tl4 {sl:List (Nat × AV)} {σ:A1} {k:Int} {p:List UInt8} {l:Lbl} (hF:FrB σ 86 19) (hp:p.length≤20000) (h3:J5 sl 3=.int .i64 k) (h4:J5 sl 4=.lst (A0 p) p.length) (h7:J5 sl 7=.ref (.s 7 0) 0 0) (s7:B0 σ (.s 7 0)=some ⟨0,true,true,true,l.cells⟩) (ln:l.name.length≤1000000000) (lm:l.msg.length≤1000000000):X EE [.tmp 10] [.c L.A6.t4] ⟨sl,σ⟩=some (.bool true,[]):=by
  have hf:=hF.free
  have hm:=hF.mid
  have a1:=Zg1 envP (l:=l) ln lm
  have hfr:FrB σ 104 23:=hF.mono (by omega) (by omega)
  by_cases ht:Zd0 l=0
  · rw [Zlv ht] at a1
    unfold Zd1 at a1
    have hlen:=Zxb ht
    obtain ⟨g,b,_,_,s1,y1⟩:=Zk7 envP (p:=Zg8 l) rfl (by omega)
    obtain ⟨rfl,rfl⟩:=y1 l ⟨ht,rfl⟩
    have hi:isL g (Zg8 g)=true:=Z4g.2 ⟨ht,rfl⟩
    unfold lblV at s1
    rw [if_pos (by rw [hi];rfl)] at s1
    have ho:over Zbg.cells 0 g.cells=g.cells:=Zji _ _
    have q:=Zxv g
    simp -dsimp (disch:=first|omega|(simp only [A4,A2,D9]<;>omega)|fail) only [L.A6.t4,go_sem,reduceIte,reduceCtorEq,B9,C0,C1,C2,C3,C4,C5,C6,C7,C8,C9,D0,D1,D2,D3,D4,D5,D6,D7,A3,BYs,F7,F6,G2,h3,h4,h7,s7,a1,s1,ho,q,hf,hm]
    refine tl5 (p:=p) (k:=k) ?_ hp ?_ ?_
    · repeat first|exact hfr|refine FrB.put ?_ (by omega)
    all_goals simp -dsimp (disch:=first|omega|(simp only [A4,A2,D9]<;>omega)|fail) only [go_sem,reduceIte,reduceCtorEq,B9,C0,C1,C2,C3,C4,C5,C6,C7,C8,C9,D0,D1,D2,D3,D4,D5,D6,D7,A3,F7,F6,G2,h3,h4]
  · unfold Zki Zd1 at a1
    generalize tagO l=b at a1
    simp -dsimp (disch:=first|omega|(simp only [A4,A2,D9]<;>omega)|fail) only [L.A6.t4,go_sem,reduceIte,reduceCtorEq,B9,C0,C1,C2,C3,C4,C5,C6,C7,C8,C9,D0,D1,D2,D3,D4,D5,D6,D7,A3,BYs,F7,F6,G2,h3,h4,h7,s7,a1,ht,hf,hm]
    refine tl5 (p:=p) (k:=k) ?_ hp ?_ ?_
    · repeat first|exact hfr|refine FrB.put ?_ (by omega)
    all_goals simp -dsimp (disch:=first|omega|(simp only [A4,A2,D9]<;>omega)|fail) only [go_sem,reduceIte,reduceCtorEq,B9,C0,C1,C2,C3,C4,C5,C6,C7,C8,C9,D0,D1,D2,D3,D4,D5,D6,D7,A3,F7,F6,G2,h3,h4]
theorem Ztt {t m:List UInt8} {a c:Idt} (ht:t.length=32):S E F.M9 [.agg (snR t .nils a c m),.agg (snR t (.lst [] 0) a c m)] []=some (.bool true,[]):=by
  have q1:=Zhs ht
  have q2:=Zdw a
  have q3:=Zdw c
  have q4:(m==m)=true:=by simp
  have s2:=Znk
  rw [S_of Zil rfl rfl]
  simp -dsimp (disch:=first|omega|(simp only [A4,A2,D9]<;>omega)|fail) only [L.M9,go_sem,reduceIte,reduceCtorEq,B9,C0,C1,C2,C3,C4,C5,C6,C7,C8,C9,D0,D1,D2,D3,D4,D5,D6,D7,A3,BYs,q1,q2,q3,q4,s2]
theorem tl3 {sl:List (Nat × AV)} {σ:A1} {k:Int} {p:List UInt8} {l:Lbl} (hF:FrB σ 66 17) (hp:p.length≤20000) (h3:J5 sl 3=.int .i64 k) (h4:J5 sl 4=.lst (A0 p) p.length) (h7:J5 sl 7=.ref (.s 7 0) 0 0) (s7:B0 σ (.s 7 0)=some ⟨0,true,true,true,l.cells⟩) (ln:l.name.length≤1000000000) (lm:l.msg.length≤1000000000) {s:Snap} (h6:J5 sl 6=.ref (.s 6 0) 0 0) (s6:B0 σ (.s 6 0)=some ⟨0,true,true,true,s.cells⟩) (ss:Ze8 s):X EE [.tmp 10] [.c L.A6.t3] ⟨sl,σ⟩=some (.bool true,[]):=by
  have hf:=hF.free
  have hm:=hF.mid
  have hz0:=Zau
  have hst:=s.ht
  have a1:=envC.put (s:=s) (v:=.lst (ids s.par) s.par.length) (.inl rfl) ss
  unfold Zni at a1
  rw [Zgc] at s6
  have hfr:FrB σ 86 19:=hF.mono (by omega) (by omega)
  by_cases ht:Zfe s=0
  · rw [if_pos ht] at a1
    unfold Zd1 at a1
    have hlen:=Zxh ht
    have hpl:=(Zg0 ht).1
    obtain ⟨g,b,s1,y1⟩:=Zjj envC (p:=Zbr s) rfl (by omega)
    obtain ⟨rfl,rfl⟩:=y1 s ⟨ht,rfl⟩
    have hi:isC g (Zbr g)=true:=Z4d.2 ⟨ht,rfl⟩
    unfold cmV at s1
    rw [if_pos (by rw [hi];rfl)] at s1
    unfold yesC at s1
    by_cases hpar:g.par=[]
    · rw [if_pos hpar] at s1
      rw [hpar] at a1 s6
      have a6:=K5 Zgf (Ztt (t:=g.tree) (m:=g.msg) (a:=g.aut) (c:=g.com) g.ht)
      simp only [Z35,Yok] at a1 s6
      simp -dsimp (disch:=first|omega|(simp only [A4,A2,D9]<;>omega)|fail) only [L.A6.t3,go_sem,reduceIte,reduceCtorEq,B9,C0,C1,C2,C3,C4,C5,C6,C7,C8,C9,D0,D1,D2,D3,D4,D5,D6,D7,A3,BYs,F7,F6,G2,h3,h4,h6,s6,a1,s1,a6,hf,hm]
      refine tl4 (p:=p) (k:=k) (l:=l) ?_ hp ?_ ?_ ?_ ?_ ln lm
      · repeat first|exact hfr|refine FrB.put ?_ (by omega)
      all_goals simp -dsimp (disch:=first|omega|(simp only [A4,A2,D9]<;>omega)|fail) only [go_sem,reduceIte,reduceCtorEq,B9,C0,C1,C2,C3,C4,C5,C6,C7,C8,C9,D0,D1,D2,D3,D4,D5,D6,D7,A3,F7,F6,G2,h3,h4,h7,s7]
    · rw [if_neg hpar] at s1
      have a6:=K5 Zgf (Ztk (t:=g.tree) (m:=g.msg) (a:=g.aut) (c:=g.com) (ps:=g.par) g.ht (by omega) (.inl rfl))
      simp -dsimp (disch:=first|omega|(simp only [A4,A2,D9]<;>omega)|fail) only [L.A6.t3,go_sem,reduceIte,reduceCtorEq,B9,C0,C1,C2,C3,C4,C5,C6,C7,C8,C9,D0,D1,D2,D3,D4,D5,D6,D7,A3,BYs,F7,F6,G2,h3,h4,h6,s6,a1,s1,a6,hf,hm]
      refine tl4 (p:=p) (k:=k) (l:=l) ?_ hp ?_ ?_ ?_ ?_ ln lm
      · repeat first|exact hfr|refine FrB.put ?_ (by omega)
      all_goals simp -dsimp (disch:=first|omega|(simp only [A4,A2,D9]<;>omega)|fail) only [go_sem,reduceIte,reduceCtorEq,B9,C0,C1,C2,C3,C4,C5,C6,C7,C8,C9,D0,D1,D2,D3,D4,D5,D6,D7,A3,F7,F6,G2,h3,h4,h7,s7]
  · rw [if_neg ht] at a1
    simp -dsimp (disch:=first|omega|(simp only [A4,A2,D9]<;>omega)|fail) only [L.A6.t3,go_sem,reduceIte,reduceCtorEq,B9,C0,C1,C2,C3,C4,C5,C6,C7,C8,C9,D0,D1,D2,D3,D4,D5,D6,D7,A3,BYs,F7,F6,G2,h3,h4,h6,s6,a1,ht,hf,hm]
    refine tl4 (p:=p) (k:=k) (l:=l) ?_ hp ?_ ?_ ?_ ?_ ln lm
    · repeat first|exact hfr|refine FrB.put ?_ (by omega)
    all_goals simp -dsimp (disch:=first|omega|(simp only [A4,A2,D9]<;>omega)|fail) only [go_sem,reduceIte,reduceCtorEq,B9,C0,C1,C2,C3,C4,C5,C6,C7,C8,C9,D0,D1,D2,D3,D4,D5,D6,D7,A3,F7,F6,G2,h3,h4,h7,s7]
theorem Ztu {p:List UInt8} {l:List Ety} (h:Zkm p l) (hp:p.length≤1048576):S EE F.R7 [.agg [.int .i64 2,.lst (A0 p) p.length]] []=some (.int .i64 0,[]):=by
  have hl:=(Zjo h.1).1
  have a1:=K5 Zgf (Zw3 (k:=2) (p:=p) rfl (by omega))
  have h0:Zm6 2 p.length=0:=by
    rw [Z30]
    have h1:Zb6 2=0:=by decide
    have h2:Zo4 p.length=0:=by unfold Zo4;rw [if_neg (by simp;omega)]
    rw [h1,h2];decide
  rw [h0] at a1
  have a4:=Ze9 (p:=p) (n:=p.length) rfl (by omega)
  rw [Znt h hp] at a4
  unfold okTr at a4
  have q1:=fun k=>lk_ent (E:=EE) (l:=l) (by omega) k l.length 0 [] (by omega) (by simp)
  simp only [List.drop_zero,Yoz,Yok,Yhv,Ypi,Yna] at q1
  have hen:(Znx l).length=l.length:=by simp [Znx]
  have s1:S EE F.H0 [.agg [.int .i64 2,.lst (A0 p) p.length]] []=some (linV (Znx l) 0):=by
    rw [Zxs Zq5 rfl rfl]
    unfold linV
    simp -dsimp (disch:=first|omega|(simp only [A4,A2,D9]<;>omega)|fail) only [L.H0,L.H0.r0,go_sem,reduceIte,reduceCtorEq,B9,C0,C1,C2,C3,C4,C5,C6,C7,C8,C9,D0,D1,D2,D3,D4,D5,D6,D7,A3,BYs,a1,a4,q1,Ypi]
  unfold linV at s1
  rw [Zxs Zq6 rfl rfl]
  simp -dsimp (disch:=first|omega|(simp only [A4,A2,D9]<;>omega)|fail) only [L.R7,go_sem,reduceIte,reduceCtorEq,B9,C0,C1,C2,C3,C4,C5,C6,C7,C8,C9,D0,D1,D2,D3,D4,D5,D6,D7,A3,BYs,s1]
theorem tl2 {sl:List (Nat × AV)} {σ:A1} {k:Int} {p:List UInt8} {l:Lbl} (hF:FrB σ 40 13) (hp:p.length≤20000) (h3:J5 sl 3=.int .i64 k) (h4:J5 sl 4=.lst (A0 p) p.length) (h7:J5 sl 7=.ref (.s 7 0) 0 0) (s7:B0 σ (.s 7 0)=some ⟨0,true,true,true,l.cells⟩) (ln:l.name.length≤1000000000) (lm:l.msg.length≤1000000000) {s:Snap} (h6:J5 sl 6=.ref (.s 6 0) 0 0) (s6:B0 σ (.s 6 0)=some ⟨0,true,true,true,s.cells⟩) (ss:Ze8 s) {t:List Ety} (h0:J5 sl 0=.lst (Q9 t) t.length) (st:Zbs t):X EE [.tmp 10] [.c L.A6.t2] ⟨sl,σ⟩=some (.bool true,[]):=by
  have hf:=hF.free
  have hm:=hF.mid
  have a1:=Ztn st
  unfold Zjm at a1
  have hfr:FrB σ 66 17:=hF.mono (by omega) (by omega)
  by_cases ht:Zdk t=0
  · rw [if_pos ht] at a1
    have hlen:=Zge ht
    have hl:=(Zjo ht).1
    have a4:=Ze9 (p:=I1 t) (n:=(I1 t).length) rfl (by omega)
    rw [Znt ⟨ht,rfl⟩ hlen] at a4
    unfold okTr at a4
    have a6:=K5 Zgf (Ztq (l:=t) rfl rfl hl)
    have a8:=Ztu (p:=I1 t) ⟨ht,rfl⟩ hlen
    generalize I1 t=B at *
    simp -dsimp (disch:=first|omega|(simp only [A4,A2,D9]<;>omega)|fail) only [L.A6.t2,go_sem,reduceIte,reduceCtorEq,B9,C0,C1,C2,C3,C4,C5,C6,C7,C8,C9,D0,D1,D2,D3,D4,D5,D6,D7,A3,BYs,F7,F6,G2,h0,a1,a4,a6,a8,hf,hm]
    refine tl3 (p:=p) (k:=k) (l:=l) (s:=s) ?_ hp ?_ ?_ ?_ ?_ ln lm ?_ ?_ ss
    · repeat first|exact hfr|refine FrB.put ?_ (by omega)
    all_goals simp -dsimp (disch:=first|omega|(simp only [A4,A2,D9]<;>omega)|fail) only [go_sem,reduceIte,reduceCtorEq,B9,C0,C1,C2,C3,C4,C5,C6,C7,C8,C9,D0,D1,D2,D3,D4,D5,D6,D7,A3,F7,F6,G2,h3,h4,h7,s7,h6,s6]
  · rw [if_neg ht] at a1
    simp -dsimp (disch:=first|omega|(simp only [A4,A2,D9]<;>omega)|fail) only [L.A6.t2,go_sem,reduceIte,reduceCtorEq,B9,C0,C1,C2,C3,C4,C5,C6,C7,C8,C9,D0,D1,D2,D3,D4,D5,D6,D7,A3,BYs,F7,F6,G2,h0,a1,ht,hf,hm]
    refine tl3 (p:=p) (k:=k) (l:=l) (s:=s) ?_ hp ?_ ?_ ?_ ?_ ln lm ?_ ?_ ss
    · repeat first|exact hfr|refine FrB.put ?_ (by omega)
    all_goals simp -dsimp (disch:=first|omega|(simp only [A4,A2,D9]<;>omega)|fail) only [go_sem,reduceIte,reduceCtorEq,B9,C0,C1,C2,C3,C4,C5,C6,C7,C8,C9,D0,D1,D2,D3,D4,D5,D6,D7,A3,F7,F6,G2,h3,h4,h7,s7,h6,s6]
theorem Ztv {t:List Ety} {s:Snap} {l:Lbl} {k:Int} {p:List UInt8} (st:Zbs t) (ss:Ze8 s) (ln:l.name.length≤1000000000) (lm:l.msg.length≤1000000000) (hp:p.length≤1000000000000) :
    S EE F.A6 [.lst (Q9 t) t.length,.agg s.cells,.agg l.cells,.int .i64 k,.lst (A0 p) p.length] []=some (.bool true,[]):=by
  have htl:=st.2.2
  have hst:=s.ht
  rw [Zxs Zqv rfl rfl]
  by_cases q1:300<t.length
  · simp -dsimp (disch:=first|omega|(simp only [A4,A2,D9]<;>omega)|fail) only [L.A6,L.A6.t0,L.A6.t1,go_sem,reduceIte,reduceCtorEq,B9,C0,C1,C2,C3,C4,C5,C6,C7,C8,C9,D0,D1,D2,D3,D4,D5,D6,D7,A3,BYs,Zns,q1,Zgc]
  · by_cases q2:20000<p.length
    · simp -dsimp (disch:=first|omega|(simp only [A4,A2,D9]<;>omega)|fail) only [L.A6,L.A6.t0,L.A6.t1,go_sem,reduceIte,reduceCtorEq,B9,C0,C1,C2,C3,C4,C5,C6,C7,C8,C9,D0,D1,D2,D3,D4,D5,D6,D7,A3,BYs,Zns,q1,q2,Zgc]
    · simp -dsimp (disch:=first|omega|(simp only [A4,A2,D9]<;>omega)|fail) only [L.A6,L.A6.t0,L.A6.t1,go_sem,reduceIte,reduceCtorEq,B9,C0,C1,C2,C3,C4,C5,C6,C7,C8,C9,D0,D1,D2,D3,D4,D5,D6,D7,A3,BYs,Zns,q1,q2,Zgc]
      refine tl2 (p:=p) (k:=k) (l:=l) (s:=s) (t:=t) ⟨rfl,fun n j hn=>?_,fun n j hn hn'=>?_⟩ (by omega) rfl rfl rfl rfl ln lm rfl (by rw [Zgc];rfl) ss rfl st
      · rw [X0,X0,show decide (Site.s 6 0=Site.s n j)=false by simp;omega,show decide (Site.s 7 0=Site.s n j)=false by simp;omega];rfl
      · rw [X0,X0,show decide (Site.s 6 0=Site.s n j)=false by simp;omega,show decide (Site.s 7 0=Site.s n j)=false by simp;omega];rfl
end Cod
namespace Cod
open Go
def Z4h:Ty:=.cat .str (.cat .str (.cat (.int .i64) (.cat (.int .i64) .nil)))
def Z2o:Ty:=.cat (.rep 32 (.int .u8)) (.cat (.sl (.rep 32 (.int .u8))) (.cat Z4h (.cat Z4h (.cat .str .nil))))
theorem Z2p {x:List AV} (h:Wf Z4h x):∃ i:Idt,x=i.cells∧i.name.length≤abulks x∧i.email.length≤abulks x:=by
  obtain ⟨a1,b1,rfl,⟨p,rfl,hp⟩,a2,b2,rfl,⟨q,rfl,hq⟩,a3,b3,rfl,⟨t,rfl,ht⟩,a4,b4,rfl,⟨z,rfl,hz⟩,rfl⟩:=h
  refine ⟨⟨p,q,t,z⟩,rfl,?_,?_⟩<;>simp only [Yna,Yoz,abulks,Zdd]<;>omega
theorem wf_id {x:List AV} (h:Wf (.rep 32 (.int .u8)) x):∃ d:Id32,x=d.cells:=by
  obtain ⟨r,rfl,hr,hw⟩:=h
  obtain ⟨l,h1,h2⟩:=Zf2 hw
  exact ⟨⟨l,by rw [h2,hr]⟩,h1⟩
theorem wf_ids:∀ {r:List (List AV)},(∀ x∈r,Wf (.rep 32 (.int .u8)) x)→∃ l:List Id32,r.flatten=ids l∧l.length=r.length:=by
  intro r
  induction r with
  | nil=>intro _;exact ⟨[],rfl,rfl⟩
  | cons x r ih =>
    intro h
    obtain ⟨l,h1,h2⟩:=ih fun y hy=>h y (Yob _ hy)
    obtain ⟨d,rfl⟩:=wf_id (h x (by simp))
    exact ⟨d::l,by rw [Yop,h1];rfl,by simp [h2]⟩
theorem Ym2 {x:List AV} (h:Wf Z2o x):∃ s:Snap,x=s.cells∧s.par.length≤abulks x∧s.msg.length≤abulks x∧s.aut.name.length≤abulks x∧s.aut.email.length≤abulks x∧s.com.name.length≤abulks x∧s.com.email.length≤abulks x:=by
  obtain ⟨a0,b0,rfl,⟨r,rfl,hr,hw⟩,a1,b1,rfl,⟨q,rfl,_,hq⟩,a2,b2,rfl,hi,a3,b3,rfl,hj,a4,b4,rfl,⟨m,rfl,hm⟩,rfl⟩:=h
  obtain ⟨d,h1,h2⟩:=Zf2 hw
  obtain ⟨l,h3,h4⟩:=wf_ids hq
  obtain ⟨i,rfl,i1,i2⟩:=Z2p hi
  obtain ⟨j,rfl,j1,j2⟩:=Z2p hj
  rw [h1,h3,←h4]
  refine ⟨⟨d,l,i,j,m,by rw [h2,hr]⟩,?_,?_,?_,?_,?_,?_,?_⟩
  · simp [Snap.cells,snR,Idt.cells]
  all_goals
    simp only [Za9,abulks,Zdd]
    first
      | (show l.length≤_;omega)
      | (show m.length≤_;omega)
      | (show i.name.length≤_;omega)
      | (show i.email.length≤_;omega)
      | (show j.name.length≤_;omega)
      | (show j.email.length≤_;omega)
def Zx1:Ty:=.cat (.int .i64) (.cat .str (.cat (.rep 32 (.int .u8)) .nil))
theorem wf_ety {x:List AV} (h:Wf Zx1 x):∃ e:Ety,x=e.cells∧e.name.length≤abulks x ∧ -9223372036854775808≤e.mode∧e.mode≤9223372036854775807:=by
  obtain ⟨a1,b1,rfl,⟨m,rfl,hm⟩,a2,b2,rfl,⟨p,rfl,hp⟩,a3,b3,rfl,⟨r,rfl,hr,hw⟩,rfl⟩:=h
  obtain ⟨l,h1,h2⟩:=Zf2 hw
  simp [Lit.wf,IntKind.min,IntKind.max,IntKind.signed,IntKind.bits] at hm
  refine ⟨⟨m,p,l,by rw [h2,hr]⟩,?_,?_,?_,?_⟩
  · rw [h1];simp [Ety.cells]
  · simp only [Yna,Yoz,abulks,Zdd];omega
  · show -9223372036854775808≤m;omega
  · show m≤9223372036854775807;omega
theorem Ym3:∀ {r:List (List AV)},(∀ x∈r,Wf Zx1 x)→∃ l:List Ety,r.flatten=Q9 l∧l.length=r.length∧(∀ e∈l,e.name.length≤abulks r.flatten ∧ -9223372036854775808≤e.mode∧e.mode≤9223372036854775807):=by
  intro r
  induction r with
  | nil=>intro _;exact ⟨[],rfl,rfl,fun e he=>by simp at he⟩
  | cons x r ih =>
    intro h
    obtain ⟨l,h1,h2,h3⟩:=ih fun y hy=>h y (Yob _ hy)
    obtain ⟨e,rfl,he,hm⟩:=wf_ety (h x (by simp))
    refine ⟨e::l,by rw [Yop,h1];rfl,by simp [h2],fun y hy=>?_⟩
    rw [Yop,Za9]
    rcases List.mem_cons.1 hy with rfl|hy
    · exact ⟨by omega,hm⟩
    · have:=h3 y hy;exact ⟨by omega,this.2⟩
theorem Yh0 {x:List AV} (h:Wf (.sl Zx1) x) (hb:abulks x≤1048576):∃ l:List Ety,x=[.lst (Q9 l) l.length]∧l.length≤1048576∧(∀ i,(eat l i).name.length≤1048576)∧∀ i,-9223372036854775808≤(eat l i).mode∧(eat l i).mode≤9223372036854775807:=by
  obtain ⟨r,rfl,_,h2⟩:=h
  obtain ⟨l,h3,h4,h5⟩:=Ym3 h2
  rw [h3] at h5
  rw [h3,←h4] at hb ⊢
  simp only [abulks,Zdd] at hb
  have key:∀ i,(eat l i).name.length≤1048576 ∧ -9223372036854775808≤(eat l i).mode∧(eat l i).mode≤9223372036854775807:=by
    intro i
    unfold eat
    by_cases hi:i<l.length
    · have:=h5 l[i] (Yp1 hi)
      rw [show l.getD i default=l[i] by simp [List.getD,hi]]
      exact ⟨by omega,this.2⟩
    · rw [List.getD,List.getElem?_eq_none (by omega)]
      exact ⟨by decide,by decide,by decide⟩
  exact ⟨l,rfl,by omega,fun i=>(key i).1,fun i=>(key i).2⟩
theorem Z2q {x:List AV} (h:Wf (.sl (.int .u8)) x) (hb:abulks x≤1048576):∃ p:List UInt8,x=[.lst (A0 p) p.length]∧p.length≤1048576:=by
  obtain ⟨r,rfl,_,hw⟩:=h
  obtain ⟨l,h1,h2⟩:=Zf2 hw
  rw [h1,←h2] at hb ⊢
  simp only [abulks,Zdd] at hb
  exact ⟨l,rfl,by omega⟩
end Cod
namespace Cod
open Go
def Yh1:Ty:=.cat (.rep 32 (.int .u8)) (.cat (.int .i64) (.cat .str (.cat Z4h (.cat .str .nil))))
theorem wf_lbl {x:List AV} (h:Wf Yh1 x):∃ l:Lbl,x=l.cells∧l.name.length≤abulks x∧l.msg.length≤abulks x∧l.who.name.length≤abulks x∧l.who.email.length≤abulks x:=by
  obtain ⟨a0,b0,rfl,⟨r,rfl,hr,hw⟩,a1,b1,rfl,⟨k,rfl,hk⟩,a2,b2,rfl,⟨n,rfl,hn⟩,a3,b3,rfl,hi,a4,b4,rfl,⟨m,rfl,hm⟩,rfl⟩:=h
  obtain ⟨d,h1,h2⟩:=Zf2 hw
  obtain ⟨i,rfl,i1,i2⟩:=Z2p hi
  refine ⟨⟨d,k,n,i,m,by rw [h2,hr]⟩,?_,?_,?_,?_,?_⟩
  · rw [h1];simp [Lbl.cells,Idt.cells]
  all_goals
    simp only [Za9,abulks,Zdd]
    first
      | (show n.length≤_;omega)
      | (show m.length≤_;omega)
      | (show i.name.length≤_;omega)
      | (show i.email.length≤_;omega)
theorem Ztw {xs:List AV} (h:Zms [(false,.sl Zx1),(true,Z2o),(true,Yh1),(false,.int .i64),(false,.sl (.int .u8))] xs) (hb:abulks xs≤1048576):∃ σr,S EE 8 xs []=some (.bool true,σr):=by
  obtain ⟨a1,b1,rfl,h1,a2,b2,rfl,⟨y,rfl,hw⟩,a3,b3,rfl,⟨z,rfl,hv⟩,a4,b4,rfl,⟨k,hk,_⟩,a5,b5,rfl,h5,rfl⟩:=h
  have hs:abulks [a1]+abulks [a5]≤1048576∧abulks y≤1048576∧abulks z≤1048576:=by
    simp only [abulks,Zdd] at hb ⊢;omega
  obtain ⟨t,hl,l1,l2,l3⟩:=Yh0 h1 (by omega)
  obtain ⟨p,hp,p1⟩:=Z2q h5 (by omega)
  obtain ⟨s,rfl,s1,s2,_⟩:=Ym2 hw
  obtain ⟨g,rfl,g1,g2,_⟩:=wf_lbl hv
  simp only [List.cons.injEq,and_true] at hl hp hk
  subst hl hp hk
  exact ⟨[],Ztv ⟨fun i=>Nat.le_trans (l2 i) (by omega),l3,by omega⟩ ⟨by omega,by omega⟩ (by omega) (by omega) (by omega)⟩
end Cod

/- Links and checks. -/
import Derived.Test.YthlnjgdoodjgoaaGreatDoorXTxt2
import Derived.Test.YthlnjgdoodjgoaaGreatDoorXTxt6
import Derived.Test.YthlnjgdoodjgoaaGreatDoorXTxt7
set_option linter.unusedSimpArgs false
set_option linter.unusedVariables false
open List renaming cons_append → Yr7, drop_zero → Ytn, length_nil → Yth, length_singleton → Yue, nil_append → Ytw
open Int renaming cast_ofNat_Int → Yuk, natCast_add → Yuj
open Nat renaming reduceEqDiff → A9, reduceAdd → B0, reduceSub → B1, reduceMul → B2, reduceDiv → B3, reduceMod → B4, reduceBEq → B5, reduceLeDiff → B6, reduceLT → B7
open Int renaming reduceEq → B8, reduceNe → B9, reduceLT → C0, reduceLE → C1, reduceBEq → C2, reduceBNe → C3, reduceToNat → C4, reduceAdd → C5, reduceSub → C6, reduceMul → C7, reduceNeg → A2
namespace Cod
open Go
theorem Zia (x:Lnk):Zau [x]=x.cells:=by simp [Zau]
theorem Z1v:Zau []=[]:=rfl
def Znp (a:List Lnk) (e:Int):AV × A5:=(.tup [.buf (.r 0) 0 0 a.length 33,.int .i64 e],[(.r 0,⟨0,true,true,false,Zau a⟩)])
theorem Zbu (e:Int):Znp [] e=(.tup [.buf (.r 0) 0 0 0 33,.int .i64 e],[(.r 0,⟨0,true,true,false,[]⟩)]):=rfl
theorem kl_l0 {l:List Lnk} (hl:l.length≤1000000):∀ (m i:Nat),i+m=l.length →
    X E [.tmp 2] (.c L.J7.x0::.lp [3,6,7,8] L.J7.x0::.blk 0::[.c L.J7.r0]) ⟨[(3,.buf (.s 1000000 0) 0 0 ((l.take i)).length 33),(6,.lst (Zau l) l.length),(7,.int .i64 l.length),(8,.int .i64 (i:Int))],[(.s 1000000 0,⟨0,true,true,false,Zau (l.take i)⟩)]⟩=some (.buf (.r 0) 0 0 l.length 33,[(.r 0,⟨0,true,true,false,Zau l⟩)]):=by
  intro m
  induction m with
  | zero =>
    intro i hi
    obtain rfl:i=l.length:=by omega
    rw [G8 L.J7.x0.eq_1,List.take_length]
    simp -dsimp (disch:=first|omega|(simp only [A3]<;>omega)|fail) only [go_sem,reduceIte,reduceCtorEq,A9,B0,B1,B2,B3,B4,B5,B6,B7,B8,B9,C0,C1,C2,C3,C4,C5,C6,C7,A2,BYs,L.J7.r0]
  | succ m ih =>
    intro i hi
    have hlt:i<l.length:=by omega
    have h1:=ih (i+1) (by omega)
    have ht:l.take (i+1)=l.take i++[lat l i]:=by
      rw [List.take_succ_eq_append_getElem hlt];simp [lat,List.getD,hlt]
    have hln:(l.take i).length=i:=by rw [List.length_take];omega
    have hln2:(l.take i++[lat l i]).length=i+1:=by rw [List.length_append,hln];rfl
    rw [ht] at h1
    simp only [hln2,Yuj,Yuk] at h1
    rw [G8 L.J7.x0.eq_1,←h1]
    simp only [hln]
    have e0:∀ d:Id32,over (Lnk.mk 0 default).cells 0 [.int .i64 (lat l i).kind]=(Lnk.mk (lat l i).kind default).cells:=fun _=>rfl
    have e1:over (Lnk.mk (lat l i).kind default).cells 1 (A0 (lat l i).id.b)=(lat l i).cells:=Zmb _ _ _
    have hs:sub (Zau (l.take i)) 0 (i*33)=Zau (l.take i):=by
      have:=Zlb (l:=l.take i)
      rwa [hln] at this
    simp -dsimp (disch:=first|omega|(simp only [A3]<;>omega)|fail) only [go_sem,reduceIte,reduceCtorEq,A9,B0,B1,B2,B3,B4,B5,B6,B7,B8,B9,C0,C1,C2,C3,C4,C5,C6,C7,A2,BYs,e1,hs,(lat l i).id.h]
theorem Z1w {l:List Lnk} (hl:l.length≤1000000):S E F.J7 [.lst (Zau l) l.length] []=some (.buf (.r 0) 0 0 l.length 33,[(.r 0,⟨0,true,true,false,Zau l⟩)]):=by
  have h:=kl_l0 hl l.length 0 (by omega)
  simp only [Yuk,List.take_zero,Yth,Z1v] at h
  rw [S_of Ztl rfl rfl]
  simp -dsimp (disch:=first|omega|(simp only [A3]<;>omega)|fail) only [L.J7,go_sem,reduceIte,reduceCtorEq,A9,B0,B1,B2,B3,B4,B5,B6,B7,B8,B9,C0,C1,C2,C3,C4,C5,C6,C7,A2,h]
theorem Z1x (x:Lnk):J3 [0,0,0,0,0,0,0,0,0,0,0,0,0,0,0,0,0,0,0,0,0,0,0,0,0,0,0,0,0,0,0,0,0] x.cells x.cells=some true:=by
  show J3 (0::[0,0,0,0,0,0,0,0,0,0,0,0,0,0,0,0,0,0,0,0,0,0,0,0,0,0,0,0,0,0,0,0]) (.int .i64 x.kind::A0 x.id.b) (.int .i64 x.kind::A0 x.id.b)=_
  rw [J3,if_pos rfl,Z6d x.id.h]
  simp
theorem sl_l0 {l:List Lnk} (hl:l.length≤1000000):∀ (m i:Nat),i+m=l.length →
    X E [.tmp 4] (.c L.I9.x0::.lp [0,1,12,13] L.I9.x0::.blk 0::[.c L.I9.r0]) ⟨[(0,.lst (Zau l) l.length),(1,.lst (Zau l) l.length),(12,.int .i64 l.length),(13,.int .i64 i)],[]⟩=some (.bool true,[]):=by
  intro m
  induction m with
  | zero =>
    intro i h
    obtain rfl:i=l.length:=by omega
    rw [G8 L.I9.x0.eq_1]
    simp -dsimp (disch:=first|omega|(simp only [A3]<;>omega)|fail) only [go_sem,reduceIte,reduceCtorEq,A9,B0,B1,B2,B3,B4,B5,B6,B7,B8,B9,C0,C1,C2,C3,C4,C5,C6,C7,A2,L.I9.r0]
  | succ m ih =>
    intro i h
    have h1:=ih (i+1) (by omega)
    simp only [Yuj,Yuk] at h1
    have hq:=Z1x (lat l i)
    rw [G8 L.I9.x0.eq_1]
    simp -dsimp (disch:=first|omega|(simp only [A3]<;>omega)|fail) only [go_sem,reduceIte,reduceCtorEq,A9,B0,B1,B2,B3,B4,B5,B6,B7,B8,B9,C0,C1,C2,C3,C4,C5,C6,C7,A2,hq,h1,Option.map_some,Bool.not_true]
theorem Zxd {l:List Lnk} (hl:l.length≤1000000):S E F.I9 [.lst (Zau l) l.length,.lst (Zau l) l.length] []=some (.bool true,[]):=by
  have h:=sl_l0 hl l.length 0 (by omega)
  simp only [Yuk] at h
  rw [S_of Ztk rfl rfl]
  simp -dsimp (disch:=first|omega|(simp only [A3]<;>omega)|fail) only [L.I9,go_sem,reduceIte,reduceCtorEq,A9,B0,B1,B2,B3,B4,B5,B6,B7,B8,B9,C0,C1,C2,C3,C4,C5,C6,C7,A2,h]
theorem lk_nil {E:Env} (k:List It) (n:Nat) (σ:Ent):X E [.tmp 2,.tmp 3] (.c L.D4.x0::.lp [5,42,43,44] L.D4.x0::.blk 1::k) ⟨[(5,.buf (.s 1000000 0) 0 0 n 33),(42,.nils),(43,.int .i64 0),(44,.int .i64 0)],[(.s 1000000 0,σ)]⟩=X E [.tmp 2,.tmp 3] k ⟨[(5,.buf (.s 1000000 0) 0 0 n 33),(42,.nils),(43,.int .i64 0),(44,.int .i64 0),(45,.bool false)],[(.s 1000000 0,σ)]⟩:=by
  rw [G8 L.D4.x0.eq_1]
  simp -dsimp (disch:=first|omega|(simp only [A3]<;>omega)|fail) only [go_sem,reduceIte,reduceCtorEq,A9,B0,B1,B2,B3,B4,B5,B6,B7,B8,B9,C0,C1,C2,C3,C4,C5,C6,C7,A2]
theorem Yry {E:Env} (k:List It) (n:Nat) (σ:Ent):X E [.tmp 2,.tmp 3] (.c L.D6.x0::.lp [5,39,40,41] L.D6.x0::.blk 1::k) ⟨[(5,.buf (.s 1000000 0) 0 0 n 33),(39,.nils),(40,.int .i64 0),(41,.int .i64 0)],[(.s 1000000 0,σ)]⟩=X E [.tmp 2,.tmp 3] k ⟨[(5,.buf (.s 1000000 0) 0 0 n 33),(39,.nils),(40,.int .i64 0),(41,.int .i64 0),(42,.bool false)],[(.s 1000000 0,σ)]⟩:=by
  rw [G8 L.D6.x0.eq_1]
  simp -dsimp (disch:=first|omega|(simp only [A3]<;>omega)|fail) only [go_sem,reduceIte,reduceCtorEq,A9,B0,B1,B2,B3,B4,B5,B6,B7,B8,B9,C0,C1,C2,C3,C4,C5,C6,C7,A2]
end Cod
namespace Cod
open Go
theorem Zf6 {k:Int} {n:Nat} (h:Zds k n=0):(k=1∨k=2∨k=3∨k=4)∧n≤1048576:=by
  have h1:=Zep h (Y3 k) (by simp)
  have h2:=Zep h (if (decide (1048576<n))=true then 2 else 0) (by simp)
  refine ⟨Zwr fun hc=>?_,?_⟩
  · unfold Y3 at h1
    rw [hc] at h1
    simp at h1
  · by_cases hn:1048576<n
    · rw [if_pos (by simpa using hn)] at h2;omega
    · omega
theorem Yea {k:Int} {p:List UInt8}:S E F.P6 [.agg [.int .i64 k,.lst (A0 p) p.length]] []=some (.int .i64 (Zds k p.length),[]):=by
  have w1:S E F.E4 [.bool (decide (1048576<(p.length:Int))),.int .i64 2] []=some (.int .i64 (Zi3 p.length),[]):=R4
  have w2:S E F.E4 [.bool (M1 k == []),.int .i64 9] []=some (.int .i64 (Y3 k),[]):=R4
  have hd:S E F.F2 [.lst [.int .i64 (Zi3 p.length),.int .i64 (Y3 k)] 2] []=some (.int .i64 (Zds k p.length),[]):=by rw [Zn0];exact Zir
  rw [S_of Zkr rfl rfl]
  simp -dsimp (disch:=first|omega|(simp only [A3]<;>omega)|fail) only [L.P6,go_sem,reduceIte,reduceCtorEq,A9,B0,B1,B2,B3,B4,B5,B6,B7,B8,B9,C0,C1,C2,C3,C4,C5,C6,C7,A2,BYs,Zfg,w1,w2,hd]
theorem Yeb {k:Int} {p:List UInt8}:S E F.U5 [.agg [.int .i64 k,.lst (A0 p) p.length]] []=some (.int .i64 (Zds k p.length),[]):=by
  have w1:S E F.I8 [.bool (decide (1048576<(p.length:Int))),.int .i64 2] []=some (.int .i64 (Zi3 p.length),[]):=Zhz
  have w2:S E F.I8 [.bool (M1 k == []),.int .i64 9] []=some (.int .i64 (Y3 k),[]):=Zhz
  have hd:S E F.G4 [.lst [.int .i64 (Y3 k),.int .i64 (Zi3 p.length)] 2] []=some (.int .i64 (Zds k p.length),[]):=by rw [Zn0,Z71];exact Zjm
  rw [S_of Zks rfl rfl]
  simp -dsimp (disch:=first|omega|(simp only [A3]<;>omega)|fail) only [L.U5,go_sem,reduceIte,reduceCtorEq,A9,B0,B1,B2,B3,B4,B5,B6,B7,B8,B9,C0,C1,C2,C3,C4,C5,C6,C7,A2,BYs,Zhy,w1,w2,hd]
def All3 (k:Int) (p:List UInt8):Prop:=∃ (a:List Lnk) (e:Int),a.length≤5000∧S EE F.D4 [.agg [.int .i64 k,.lst (A0 p) p.length]] []=some (Znp a e)∧S E F.H2 [.agg [.int .i64 k,.lst (A0 p) p.length]] []=some (.int .i64 e,[])∧S E F.D6 [.agg [.int .i64 k,.lst (A0 p) p.length]] []=some (Znp a e)
theorem Yrz {k:Int} {p:List UInt8} (h:Zds k p.length≠0):All3 k p:=by
  have a1:=M5 Zg7 (Yea (k:=k) (p:=p))
  have a2:=Yeb (k:=k) (p:=p)
  have h2:S E F.H2 [.agg [.int .i64 k,.lst (A0 p) p.length]] []=some (.int .i64 (Zds k p.length),[]):=by
    rw [S_of Zad rfl rfl]
    simp -dsimp (disch:=first|omega|(simp only [A3]<;>omega)|fail) only [L.H2,go_sem,reduceIte,reduceCtorEq,A9,B0,B1,B2,B3,B4,B5,B6,B7,B8,B9,C0,C1,C2,C3,C4,C5,C6,C7,A2,BYs,a2,h]
  refine ⟨[],Zds k p.length,by simp,?_,h2,?_⟩
  · rw [Zf5 U0 rfl rfl,Zbu]
    simp -dsimp (disch:=first|omega|(simp only [A3]<;>omega)|fail) only [L.D4,go_sem,reduceIte,reduceCtorEq,A9,B0,B1,B2,B3,B4,B5,B6,B7,B8,B9,C0,C1,C2,C3,C4,C5,C6,C7,A2,BYs,a1,h]
  · rw [S_of U1 rfl rfl,Zbu]
    simp -dsimp (disch:=first|omega|(simp only [A3]<;>omega)|fail) only [L.D6,go_sem,reduceIte,reduceCtorEq,A9,B0,B1,B2,B3,B4,B5,B6,B7,B8,B9,C0,C1,C2,C3,C4,C5,C6,C7,A2,BYs,h2,h]
theorem Ymn {p:List UInt8} (h:Zds 3 p.length=0):All3 3 p:=by
  have hp:=(Zf6 h).2
  have a1:=M5 Zg7 (Zh0 (k:=3) (p:=p) rfl (by omega))
  have a2:=Zlg (k:=3) (p:=p) rfl (by omega)
  rw [h] at a1 a2
  have h2:S E F.H2 [.agg [.int .i64 3,.lst (A0 p) p.length]] []=some (.int .i64 0,[]):=by
    rw [S_of Zad rfl rfl]
    simp -dsimp (disch:=first|omega|(simp only [A3]<;>omega)|fail) only [L.H2,go_sem,reduceIte,reduceCtorEq,A9,B0,B1,B2,B3,B4,B5,B6,B7,B8,B9,C0,C1,C2,C3,C4,C5,C6,C7,A2,BYs,a2]
  refine ⟨[],0,by simp,?_,h2,?_⟩
  · rw [Zf5 U0 rfl rfl,Zbu]
    simp -dsimp (disch:=first|omega|(simp only [A3]<;>omega)|fail) only [L.D4,L.D4.r0,go_sem,reduceIte,reduceCtorEq,A9,B0,B1,B2,B3,B4,B5,B6,B7,B8,B9,C0,C1,C2,C3,C4,C5,C6,C7,A2,BYs,a1]
  · rw [S_of U1 rfl rfl,Zbu]
    simp -dsimp (disch:=first|omega|(simp only [A3]<;>omega)|fail) only [L.D6,L.D6.r0,go_sem,reduceIte,reduceCtorEq,A9,B0,B1,B2,B3,B4,B5,B6,B7,B8,B9,C0,C1,C2,C3,C4,C5,C6,C7,A2,BYs,h2]
theorem Yr0 {p:List UInt8} (h:Zds 4 p.length=0):All3 4 p:=by
  have hp:=(Zf6 h).2
  have a1:=M5 Zg7 (Zh0 (k:=4) (p:=p) rfl (by omega))
  have a2:=Zlg (k:=4) (p:=p) rfl (by omega)
  rw [h] at a1 a2
  obtain ⟨g,e,a4,a5⟩:=Yd1 envP p (by omega)
  have hgt:=g.htgt
  have h2:S E F.H2 [.agg [.int .i64 4,.lst (A0 p) p.length]] []=some (.int .i64 e,[]):=by
    rw [S_of Zad rfl rfl]
    simp -dsimp (disch:=first|omega|(simp only [A3]<;>omega)|fail) only [L.H2,go_sem,reduceIte,reduceCtorEq,A9,B0,B1,B2,B3,B4,B5,B6,B7,B8,B9,C0,C1,C2,C3,C4,C5,C6,C7,A2,BYs,a2,a5]
  have ol:over Zdz.cells 0 g.cells=g.cells:=Z1b _ _
  have od:∀ k (d:Id32),over (Lnk.mk k d).cells 1 (A0 g.tgt)=(Lnk.mk k ⟨g.tgt,hgt⟩).cells:=fun k d=>Zmb k d ⟨g.tgt,hgt⟩
  by_cases he:e=0
  · subst he
    refine ⟨[⟨g.kind,⟨g.tgt,hgt⟩⟩],0,by simp,?_,h2,?_⟩
    · rw [Zf5 U0 rfl rfl]
      unfold Znp
      rw [Zia]
      simp -dsimp (disch:=first|omega|(simp only [A3]<;>omega)|fail) only [L.D4,L.D4.r0,go_sem,reduceIte,reduceCtorEq,A9,B0,B1,B2,B3,B4,B5,B6,B7,B8,B9,C0,C1,C2,C3,C4,C5,C6,C7,A2,BYs,a1,a4,ol,od,Yue]
    · rw [S_of U1 rfl rfl]
      unfold Znp
      rw [Zia]
      simp -dsimp (disch:=first|omega|(simp only [A3]<;>omega)|fail) only [L.D6,L.D6.r0,go_sem,reduceIte,reduceCtorEq,A9,B0,B1,B2,B3,B4,B5,B6,B7,B8,B9,C0,C1,C2,C3,C4,C5,C6,C7,A2,BYs,h2,a5,ol,od,Yue]
  · refine ⟨[],e,by simp,?_,h2,?_⟩
    · rw [Zf5 U0 rfl rfl,Zbu]
      simp -dsimp (disch:=first|omega|(simp only [A3]<;>omega)|fail) only [L.D4,L.D4.r0,go_sem,reduceIte,reduceCtorEq,A9,B0,B1,B2,B3,B4,B5,B6,B7,B8,B9,C0,C1,C2,C3,C4,C5,C6,C7,A2,BYs,a1,a4,ol,he]
    · rw [S_of U1 rfl rfl,Zbu]
      simp -dsimp (disch:=first|omega|(simp only [A3]<;>omega)|fail) only [L.D6,L.D6.r0,go_sem,reduceIte,reduceCtorEq,A9,B0,B1,B2,B3,B4,B5,B6,B7,B8,B9,C0,C1,C2,C3,C4,C5,C6,C7,A2,BYs,h2,he]
theorem Ymo {p:List UInt8} (h:Zds 2 p.length=0):All3 2 p:=by
  have hp:=(Zf6 h).2
  have a1:=M5 Zg7 (Zh0 (k:=2) (p:=p) rfl (by omega))
  have a2:=Zlg (k:=2) (p:=p) rfl (by omega)
  rw [h] at a1 a2
  obtain ⟨l,e,hl,p1,p2⟩:=Z6n p
  have a4:=Zxa (p:=p) (n:=p.length) rfl (by omega)
  have a5:=Zxb (p:=p) (n:=p.length) rfl (by omega)
  rw [p1] at a4
  rw [p2] at a5
  unfold parX at a4 a5
  have h2:S E F.H2 [.agg [.int .i64 2,.lst (A0 p) p.length]] []=some (.int .i64 e,[]):=by
    rw [S_of Zad rfl rfl]
    simp -dsimp (disch:=first|omega|(simp only [A3]<;>omega)|fail) only [L.H2,go_sem,reduceIte,reduceCtorEq,A9,B0,B1,B2,B3,B4,B5,B6,B7,B8,B9,C0,C1,C2,C3,C4,C5,C6,C7,A2,BYs,a2,a5]
  by_cases he:e=0
  · subst he
    have q1:=fun k=>lk_ent (E:=EE) (l:=l) (by omega) k l.length 0 [] (by omega) (by simp)
    have q2:=fun k=>Yp8 (E:=E) (l:=l) (by omega) k l.length 0 [] (by omega) (by simp)
    simp only [Ytn,Ytw,Yth,Z1v,Yuk,Yr7] at q1 q2
    have hen:(Zjh l).length=l.length:=by simp [Zjh]
    refine ⟨Zjh l,0,by omega,?_,h2,?_⟩
    · rw [Zf5 U0 rfl rfl]
      unfold Znp
      simp -dsimp (disch:=first|omega|(simp only [A3]<;>omega)|fail) only [L.D4,L.D4.r0,go_sem,reduceIte,reduceCtorEq,A9,B0,B1,B2,B3,B4,B5,B6,B7,B8,B9,C0,C1,C2,C3,C4,C5,C6,C7,A2,BYs,a1,a4,q1,Yuk]
    · rw [S_of U1 rfl rfl]
      unfold Znp
      simp -dsimp (disch:=first|omega|(simp only [A3]<;>omega)|fail) only [L.D6,L.D6.r0,go_sem,reduceIte,reduceCtorEq,A9,B0,B1,B2,B3,B4,B5,B6,B7,B8,B9,C0,C1,C2,C3,C4,C5,C6,C7,A2,BYs,h2,a5,q2,Yuk]
  · refine ⟨[],e,by simp,?_,h2,?_⟩
    · rw [Zf5 U0 rfl rfl,Zbu]
      simp -dsimp (disch:=first|omega|(simp only [A3]<;>omega)|fail) only [L.D4,L.D4.r0,go_sem,reduceIte,reduceCtorEq,A9,B0,B1,B2,B3,B4,B5,B6,B7,B8,B9,C0,C1,C2,C3,C4,C5,C6,C7,A2,BYs,a1,a4,he]
    · rw [S_of U1 rfl rfl,Zbu]
      simp -dsimp (disch:=first|omega|(simp only [A3]<;>omega)|fail) only [L.D6,L.D6.r0,go_sem,reduceIte,reduceCtorEq,A9,B0,B1,B2,B3,B4,B5,B6,B7,B8,B9,C0,C1,C2,C3,C4,C5,C6,C7,A2,BYs,h2,he]
theorem Z6o {p:List UInt8} (h:Zds 1 p.length=0):All3 1 p:=by
  have hp:=(Zf6 h).2
  have hz0:=S1
  have a1:=M5 Zg7 (Zh0 (k:=1) (p:=p) rfl (by omega))
  have a2:=Zlg (k:=1) (p:=p) rfl (by omega)
  rw [h] at a1 a2
  rcases Zw3 envC p (by omega) with ⟨e,he,a4,a5⟩|⟨g,hg,a4,a5⟩
  · unfold noC at a4 a5
    have h2:S E F.H2 [.agg [.int .i64 1,.lst (A0 p) p.length]] []=some (.int .i64 e,[]):=by
      rw [S_of Zad rfl rfl]
      simp -dsimp (disch:=first|omega|(simp only [A3]<;>omega)|fail) only [L.H2,go_sem,reduceIte,reduceCtorEq,A9,B0,B1,B2,B3,B4,B5,B6,B7,B8,B9,C0,C1,C2,C3,C4,C5,C6,C7,A2,BYs,a2,a5]
    refine ⟨[],e,by simp,?_,h2,?_⟩
    · rw [Zf5 U0 rfl rfl,Zbu]
      simp -dsimp (disch:=first|omega|(simp only [A3]<;>omega)|fail) only [L.D4,L.D4.r0,go_sem,reduceIte,reduceCtorEq,A9,B0,B1,B2,B3,B4,B5,B6,B7,B8,B9,C0,C1,C2,C3,C4,C5,C6,C7,A2,BYs,a1,a4,he]
    · rw [S_of U1 rfl rfl,Zbu]
      simp -dsimp (disch:=first|omega|(simp only [A3]<;>omega)|fail) only [L.D6,L.D6.r0,go_sem,reduceIte,reduceCtorEq,A9,B0,B1,B2,B3,B4,B5,B6,B7,B8,B9,C0,C1,C2,C3,C4,C5,C6,C7,A2,BYs,h2,he]
  · have hgt:=g.ht
    have od:∀ k (d:Id32),over (Lnk.mk k d).cells 1 (A0 g.tree)=(Lnk.mk k ⟨g.tree,hgt⟩).cells:=fun k d=>Zmb k d ⟨g.tree,hgt⟩
    unfold yesC at a4 a5
    by_cases hpar:g.par=[]
    · rw [if_pos hpar] at a4 a5
      have h2:S E F.H2 [.agg [.int .i64 1,.lst (A0 p) p.length]] []=some (.int .i64 0,[]):=by
        rw [S_of Zad rfl rfl]
        simp -dsimp (disch:=first|omega|(simp only [A3]<;>omega)|fail) only [L.H2,go_sem,reduceIte,reduceCtorEq,A9,B0,B1,B2,B3,B4,B5,B6,B7,B8,B9,C0,C1,C2,C3,C4,C5,C6,C7,A2,BYs,a2,a5]
      refine ⟨[⟨2,⟨g.tree,hgt⟩⟩],0,by simp,?_,h2,?_⟩
      · rw [Zf5 U0 rfl rfl]
        unfold Znp
        rw [Zia]
        simp -dsimp (disch:=first|omega|(simp only [A3]<;>omega)|fail) only [L.D4,L.D4.r0,go_sem,reduceIte,reduceCtorEq,A9,B0,B1,B2,B3,B4,B5,B6,B7,B8,B9,C0,C1,C2,C3,C4,C5,C6,C7,A2,BYs,a1,a4,od,lk_nil,Yue,Yuk]
      · rw [S_of U1 rfl rfl]
        unfold Znp
        rw [Zia]
        simp -dsimp (disch:=first|omega|(simp only [A3]<;>omega)|fail) only [L.D6,L.D6.r0,go_sem,reduceIte,reduceCtorEq,A9,B0,B1,B2,B3,B4,B5,B6,B7,B8,B9,C0,C1,C2,C3,C4,C5,C6,C7,A2,BYs,h2,a5,od,Yry,Yue,Yuk]
    · rw [if_neg hpar] at a4 a5
      have h2:S E F.H2 [.agg [.int .i64 1,.lst (A0 p) p.length]] []=some (.int .i64 0,[]):=by
        rw [S_of Zad rfl rfl]
        simp -dsimp (disch:=first|omega|(simp only [A3]<;>omega)|fail) only [L.H2,go_sem,reduceIte,reduceCtorEq,A9,B0,B1,B2,B3,B4,B5,B6,B7,B8,B9,C0,C1,C2,C3,C4,C5,C6,C7,A2,BYs,a2,a5]
      have q1:=fun k=>lk_par (E:=EE) (ps:=g.par) (by omega) k g.par.length 0 [⟨2,⟨g.tree,hgt⟩⟩] (by omega) (by simp)
      have q2:=fun k=>Yp7 (E:=E) (ps:=g.par) (by omega) k g.par.length 0 [⟨2,⟨g.tree,hgt⟩⟩] (by omega) (by simp)
      simp only [Ytn,Zia,Yue,Yuk,Yr7,Ytw] at q1 q2
      have hen:((⟨2,⟨g.tree,hgt⟩⟩:Lnk)::Zjg g.par).length=g.par.length+1:=by simp [Zjg]
      refine ⟨⟨2,⟨g.tree,hgt⟩⟩::Zjg g.par,0,by omega,?_,h2,?_⟩
      · rw [Zf5 U0 rfl rfl]
        unfold Znp
        simp -dsimp (disch:=first|omega|(simp only [A3]<;>omega)|fail) only [L.D4,L.D4.r0,go_sem,reduceIte,reduceCtorEq,A9,B0,B1,B2,B3,B4,B5,B6,B7,B8,B9,C0,C1,C2,C3,C4,C5,C6,C7,A2,BYs,a1,a4,od,q1,Yuk]
      · rw [S_of U1 rfl rfl]
        unfold Znp
        simp -dsimp (disch:=first|omega|(simp only [A3]<;>omega)|fail) only [L.D6,L.D6.r0,go_sem,reduceIte,reduceCtorEq,A9,B0,B1,B2,B3,B4,B5,B6,B7,B8,B9,C0,C1,C2,C3,C4,C5,C6,C7,A2,BYs,h2,a5,od,q2,Yuk]
theorem Yec {k:Int} {p:List UInt8}:All3 k p:=by
  by_cases h:Zds k p.length=0
  · rcases (Zf6 h).1 with rfl|rfl|rfl|rfl
    · exact Z6o h
    · exact Ymo h
    · exact Ymn h
    · exact Yr0 h
  · exact Yrz h
end Cod
namespace Cod
open Go
theorem Zxe {k:Int} {p:List UInt8}:S EE F.S7 [.int .i64 k,.lst (A0 p) p.length] []=some (.bool true,[]):=by
  obtain ⟨a,e,ha,s1,s2,s3⟩:=Yec (k:=k) (p:=p)
  have s2:=M5 Zg7 s2
  have s3:=M5 Zg7 s3
  unfold Znp at s1 s3
  have hc:S EE F.X2 [.agg [.int .i64 k,.lst (A0 p) p.length]] []=some (.int .i64 e,[]):=by
    rw [Zf5 Ztj rfl rfl]
    simp -dsimp (disch:=first|omega|(simp only [A3]<;>omega)|fail) only [L.X2,go_sem,reduceIte,reduceCtorEq,A9,B0,B1,B2,B3,B4,B5,B6,B7,B8,B9,C0,C1,C2,C3,C4,C5,C6,C7,A2,BYs,s1]
  have a1:=M5 Zg7 (Z1w (l:=a) (by omega))
  have a2:=M5 Zg7 (Zxd (l:=a) (by omega))
  rw [Zf5 Zte rfl rfl]
  by_cases q1:20000<p.length
  · by_cases q2:p.length≤1048576
    · simp -dsimp (disch:=first|omega|(simp only [A3]<;>omega)|fail) only [L.S7,go_sem,reduceIte,reduceCtorEq,A9,B0,B1,B2,B3,B4,B5,B6,B7,B8,B9,C0,C1,C2,C3,C4,C5,C6,C7,A2,BYs,Zp2,q1,q2]
    · simp -dsimp (disch:=first|omega|(simp only [A3]<;>omega)|fail) only [L.S7,go_sem,reduceIte,reduceCtorEq,A9,B0,B1,B2,B3,B4,B5,B6,B7,B8,B9,C0,C1,C2,C3,C4,C5,C6,C7,A2,BYs,Zp2,q1,q2,s1,s2,s3,hc,a1,a2]
  · simp -dsimp (disch:=first|omega|(simp only [A3]<;>omega)|fail) only [L.S7,go_sem,reduceIte,reduceCtorEq,A9,B0,B1,B2,B3,B4,B5,B6,B7,B8,B9,C0,C1,C2,C3,C4,C5,C6,C7,A2,BYs,Zp2,q1,s1,s2,s3,hc,a1,a2]
end Cod
namespace Cod
open Go
theorem Zxf {xs:List AV} (h:Zo2 [(false,.int .i64),(false,.sl (.int .u8))] xs):∃ σr,S EE 7 xs []=some (.bool true,σr):=by
  obtain ⟨a,b,rfl,⟨k,hk,_⟩,c,d,rfl,⟨r,hr,_,h2⟩,rfl⟩:=h
  obtain ⟨l,h3,h4⟩:=Yjj h2
  simp only [List.cons.injEq,and_true] at hk hr
  subst hk hr
  rw [h3,←h4]
  exact ⟨[],Zxe⟩
end Cod

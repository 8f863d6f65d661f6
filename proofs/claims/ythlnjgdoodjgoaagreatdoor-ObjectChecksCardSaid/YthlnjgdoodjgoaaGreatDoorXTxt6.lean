/- object.ParseCommit: the whole loop. -/
import Derived.Lib.BufferKept
import Derived.Lib.BufferWrite
import Derived.Lib.VarintMem
import Derived.Laws.BitsLemmas
import Derived.Laws.RangeAny
import Derived.Deep.MidRow
import Derived.Laws.IdiomCopy
import Derived.Deep.Cut
import Derived.Deep.RegionWith
import Derived.Lib.BufferOld
import Derived.Shelf.Strings.BuilderK
import Derived.WalkKit
import Derived.BigCall
import Derived.BigGuard
import Derived.Lib.ConvBytes
import Derived.Test.YthlnjgdoodjgoaaGreatDoorXTxt5
import Derived.Test.YthlnjgdoodjgoaaGreatDoorXTxt3
import Derived.Test.YthlnjgdoodjgoaaGreatDoorXTxt2
import Derived.Test.YthlnjgdoodjgoaaGreatDoorXShelf1
import Derived.Test.YthlnjgdoodjgoaaGreatDoorXTxt1
set_option linter.unusedSimpArgs false
set_option linter.unusedVariables false
open List renaming append_assoc → Ysw, append_nil → Yuh, cons_append → Yr7, flatMap_append → Yvg, length_append → Ysv, length_cons → Ysk, length_map → Yts, length_nil → Yth, length_replicate → Yul, length_take → Ysb, map_cons → Yso, map_nil → Yvc, nil_append → Ytw, size_toArray → Ysd, take_length → Yvi, take_succ_eq_append_getElem → Yvd
open Nat renaming le_refl → Yr4, le_trans → Yr5, lt_of_lt_of_le → Yr6, zero_add → Ysy
open Int renaming cast_ofNat_Int → Yuk, natCast_add → Yuj
open Bool renaming and_eq_true → Ysj, and_false → Yuv, false_and → Yuq, not_eq_true → Yvb, not_false → Yug, not_true → Yuf, true_and → Yuo
open Array renaming all_eq_true_iff_forall_mem → Yve, size_push → Yvf, toList_append → Yvh
open Nat renaming reduceEqDiff → A9, reduceAdd → B0, reduceSub → B1, reduceMul → B2, reduceDiv → B3, reduceMod → B4, reduceBEq → B5, reduceLeDiff → B6, reduceLT → B7
open Int renaming reduceEq → B8, reduceNe → B9, reduceLT → C0, reduceLE → C1, reduceBEq → C2, reduceBNe → C3, reduceToNat → C4, reduceAdd → C5, reduceSub → C6, reduceMul → C7, reduceNeg → A2
namespace Cod
open Go
section
variable {EE:Env} (hE:EnvC EE)
include hE
theorem Yra {p d:List UInt8} (hd:d.length=32) (hp:p.length≤1048576):∀ (m:Nat) (r:List UInt8) (ps:List Id32) (b:Nat) (v:AV) (σ:A5),r.length≤m→r.length≤1048576→ps.length+r.length≤1048576→b≤2→((ps=[]∧v=.nils ∧ σ=[])∨(ps≠[]∧v=.buf (.s 1000000 3) 0 0 (ps).length 32 ∧ σ=[(.s 1000000 3,⟨0,true,true,false,ids (ps)⟩)])) →
    ∃ (g:Snap) (bad:Nat),X EE [.cell 2 (some 42),.tmp 3] (.c L.D3.x0::.lp [0,2,4,5] L.D3.x0::.blk 0::[.c L.D3.r0]) ⟨[(0,.lst (A0 p) p.length),(2,.ref (.s 1000000 0) 0 0),(4,.ref (.s 1000000 1) 0 0),(5,.ref (.s 1000000 2) 0 0)],[(.s 1000000 0,⟨0,true,true,true,snR Zca .nils G2 G2 []⟩),(.s 1000000 1,⟨0,true,true,true,[.str r,.int .i64 (b:Int)]⟩),(.s 1000000 2,⟨0,true,true,true,snR d (v) G2 G2 []⟩)] ++ σ⟩=some (cmV g (decide (bad=0)&&isC g p))∧∀ qs a c m,D7 a=true→D7 c=true→b=0→r=Zc7 qs++(Zgx++32::(H1 a++10::(Zg5++32::(H1 c++10::(10::m)))))→g=mkS d (ps++qs) a c m hd∧bad=0:=by
  intro m
  induction m with
  | zero =>
    intro r ps b v σ hm hr hpr hb hv
    obtain rfl:r=[]:=List.eq_nil_of_length_eq_zero (by omega)
    obtain ⟨g,bad,h1,h2,h3⟩:=Ylo hE (p:=p) (d:=d) (r:=[]) (ps:=ps) (b:=b) hd hp hr (by omega) (by omega) hv
    refine ⟨g,bad,?_,fun qs a c m ha hc hb0 e=>?_⟩
    · rw [Z6c hE hr hv (.inl rfl) hd];exact h1
    · have:=congrArg List.length e
      simp only [Ysv,Ysk,Yth] at this
      omega
  | succ m ih =>
    intro r ps b v σ hm hr hpr hb hv
    by_cases hex:Zdp r [112,97,114,101,110,116,32]=false∨b≠0
    · obtain ⟨g,bad,h1,h2,h3⟩:=Ylo hE (p:=p) (d:=d) (r:=r) (ps:=ps) (b:=b) hd hp hr (by omega) (by omega) hv
      refine ⟨g,bad,?_,fun qs a c m ha hc hb0 e=>?_⟩
      · rw [Z6c hE hr hv hex hd];exact h1
      · have hpf:=hex.resolve_right (fun h=>h hb0)
        cases qs with
        | nil =>
          rw [Ze3,Ytw] at e
          obtain ⟨k1,k2⟩:=h3 a c m ha hc e
          rw [Yuh]
          exact ⟨k1,by omega⟩
        | cons q qs =>
          rw [e,Ydn] at hpf
          cases hpf
    · have hpt:Zdp r [112,97,114,101,110,116,32]=true:=by
        cases hq:Zdp r [112,97,114,101,110,116,32] with
        | false=>exact absurd (.inl hq) hex
        | true=>rfl
      obtain rfl:b=0:=by
        apply Classical.byContradiction
        intro hn
        exact hex (.inr hn)
      have hlen:7≤r.length:=by
        unfold Zdp at hpt
        simp only [Ysj,decide_eq_true_eq] at hpt
        exact hpt.1
      obtain ⟨e,r',b',he,q1,u1,v1,s1,pr,y1⟩:=Z56 (rest:=r) (w:=Z04) (bad:=0) (by omega) (by decide) (by decide) (by omega)
      have hin:=pc_in hE (p:=p) (d:=d) (r:=r) (r':=r') (e:=e) (ps:=ps) (b':=b') hr (by omega) hv hpt hd he s1
      have hv':((ps++[mkI e])=[]∧(AV.buf (.s 1000000 3) 0 0 (ps++[mkI e]).length 32)=.nils∧([(.s 1000000 3,⟨0,true,true,false,ids (ps++[mkI e])⟩)]:A5)=[])∨((ps++[mkI e])≠[]∧(AV.buf (.s 1000000 3) 0 0 (ps++[mkI e]).length 32)=.buf (.s 1000000 3) 0 0 ((ps++[mkI e])).length 32∧([(.s 1000000 3,⟨0,true,true,false,ids (ps++[mkI e])⟩)]:A5)=[(.s 1000000 3,⟨0,true,true,false,ids ((ps++[mkI e]))⟩)]):=.inr ⟨by simp,rfl,rfl⟩
      have hl1:(ps++[mkI e]).length=ps.length+1:=by simp
      by_cases hb':b'=0
      · obtain ⟨g,bad,h1,h2⟩:=ih r' (ps++[mkI e]) b' _ _ (by have:=pr hb';omega) (by omega) (by have:=pr hb';omega) (by omega) hv'
        refine ⟨g,bad,hin.trans h1,fun qs a c m ha hc hb0 e0=>?_⟩
        cases qs with
        | nil =>
          rw [e0,Ze3,Ytw,Zmo] at hpt
          cases hpt
        | cons q qs =>
          rw [Zc8,Ysw,Yr7,Ysw,Yr7] at e0
          obtain ⟨k1,k2,k3⟩:=y1 _ _ q.h e0
          obtain ⟨j1,j2⟩:=h2 qs a c m ha hc k3 k2
          refine ⟨?_,j2⟩
          rw [j1,k1,Z0b,Ysw]
          rfl
      · obtain ⟨g,bad,h1,h2,h3⟩:=Ylo hE (p:=p) (d:=d) (r:=r') (ps:=ps++[mkI e]) (b:=b') hd hp (by omega) (by omega) (by omega) hv'
        refine ⟨g,bad,?_,fun qs a c m ha hc hb0 e0=>?_⟩
        · exact hin.trans ((Z6c hE (by omega) hv' (.inr hb') hd).trans h1)
        · cases qs with
          | nil =>
            rw [e0,Ze3,Ytw,Zmo] at hpt
            cases hpt
          | cons q qs =>
            rw [Zc8,Ysw,Yr7,Ysw,Yr7] at e0
            exact absurd (y1 _ _ q.h e0).2.2 hb'
theorem Zwz {p:List UInt8} {n:Nat} (hn:n=p.length) (hp:p.length≤1048576):∃ (g:Snap) (bad:Nat),S EE F.D3 [.lst (A0 p) n] []=some (cmV g (decide (bad=0)&&isC g p))∧∀ s,Zr2 p s→g=s∧bad=0:=by
  subst hn
  obtain ⟨d,r,b,hd,q1,u1,v1,s1,_,y1⟩:=Z56 (rest:=p) (w:=Znn) (bad:=0) (by omega) (by decide) (by decide) (by omega)
  obtain ⟨g,bad,h1,h2⟩:=Yra hE (p:=p) (d:=d) hd hp r.length r [] b _ _ (Yr4 _) (by omega) (by simp only [Yth];omega) (by omega) (.inl ⟨rfl,rfl,rfl⟩)
  refine ⟨g,bad,?_,fun s hs=>?_⟩
  · rw [←h1]
    have s1:=fun x=>M5 hE.ext (s1 x)
    unfold Znn at s1
    have hz0:=S1
    rw [hE.S_of Zkl rfl rfl]
    simp only [Yuh,Yuk] at s1 ⊢
    simp -dsimp (disch:=first|omega|(simp only [A3]<;>omega)|fail) only [L.D3,go_sem,reduceIte,reduceCtorEq,A9,B0,B1,B2,B3,B4,B5,B6,B7,B8,B9,C0,C1,C2,C3,C4,C5,C6,C7,A2,BYs,s1]
  · obtain ⟨e1,e2⟩:=hs
    obtain ⟨w1,w2,w3,w4⟩:=Zgy e1
    rw [Z07] at e2
    obtain ⟨k1,k2,k3⟩:=y1 _ _ s.ht e2.symm
    obtain ⟨j1,j2⟩:=h2 s.par s.aut s.com s.msg w3 w4 k3 k2
    refine ⟨?_,j2⟩
    rw [j1]
    subst k1
    rfl
theorem Zw0 {p:List UInt8} {n:Nat} (hn:n=p.length) (hp:1048576<p.length) (hb:p.length≤1000000000000):S EE F.D3 [.lst (A0 p) n] []=some (noC 2):=by
  subst hn
  have hz0:=S1
  rw [hE.S_of Zkl rfl rfl]
  unfold noC
  simp -dsimp (disch:=first|omega|(simp only [A3]<;>omega)|fail) only [L.D3,go_sem,reduceIte,reduceCtorEq,A9,B0,B1,B2,B3,B4,B5,B6,B7,B8,B9,C0,C1,C2,C3,C4,C5,C6,C7,A2,BYs]
end
end Cod
namespace Cod
open Go
theorem rq_r0 {p d t:List UInt8} {ps:List Id32} {i:Nat} {v:AV} {σ:A5} {ex:List (Nat × AV)} (hex:(ex=[(37,.bool false)]∨∃ v r,ex=[(37,.bool true),(9,.str v),(10,.str r),(11,.bool false),(47,.bool true)])) (hd:d.length=32) (hp:p.length≤1048576) (ht:t.length≤1048576) (hps:ps.length≤17) (hv:(ps=[]∧v=.nils ∧ σ=[])∨(ps≠[]∧v=.buf (.s 1000000 2) 0 0 (ps).length 32 ∧ σ=[(.s 1000000 2,⟨0,true,true,false,ids (ps)⟩)])) :
    ∃ (g:Snap) (ok:Bool),X E [.cell 2 (some 42),.tmp 3] [.c L.C8.r0] ⟨[(0,.lst (A0 p) p.length),(2,.ref (.s 1000000 0) 0 0),(4,.ref (.s 1000000 1) 0 0),(6,.str t),(8,.int .i64 (i:Int))]++ex,[(.s 1000000 0,⟨0,true,true,true,snR Zca .nils G2 G2 []⟩),(.s 1000000 1,⟨0,true,true,true,snR d (v) G2 G2 []⟩)] ++ σ⟩=some (cmV g (ok&&isC g p)) ∧
    ∀ a c m,D7 a=true→D7 c=true→t=Zgx++32::(H1 a++10::(Zg5++32::(H1 c++10::(10::m))))→ok=true∧g=mkS d ps a c m hd:=by
  obtain ⟨v1,r1,o1,a1,c1,s1,_,y1⟩:=Zdq (t:=t) (w:=Zgx) (by omega) (by decide)
  obtain ⟨v2,r2,o2,a2,c2,s2,_,y2⟩:=Zdq (t:=r1) (w:=Zg5) (by omega) (by decide)
  have hz0:=S1
  have yes:∀ a c m,D7 a=true→D7 c=true→t=Zgx++32::(H1 a++10::(Zg5++32::(H1 c++10::(10::m))))→v1=H1 a∧v2=H1 c∧r2=10::m∧o1=true∧o2=true:=by
    intro a c m ha hc e
    obtain ⟨g1,g2,g3⟩:=y1 _ _ e (Zh3 ha)
    subst g2
    obtain ⟨f1,f2,f3⟩:=y2 _ _ rfl (Zh3 hc)
    exact ⟨g1,f1,f2,g3,f3⟩
  unfold Zgx at s1
  unfold Zg5 at s2
  clear y1 y2
  by_cases hbad:o1=true∧o2=true∧r2≠[]
  · obtain ⟨rfl,rfl,hne⟩:=hbad
    obtain ⟨i1,e1,n1,n1',s5,y5⟩:=Zww (v:=v1) (by omega)
    obtain ⟨i2,e2,n2,n2',s6,y6⟩:=Zww (v:=v2) (by omega)
    have hpos:1≤r2.length:=by cases r2 with|nil=>exact absurd rfl hne|cons=>simp
    have hm:(r2.drop 1).length≤t.length:=by rw [List.length_drop];omega
    refine ⟨mkS d ps i1 i2 (r2.drop 1) hd,true,?_,fun a c m ha hc e=>?_⟩
    · have hne':(r2 == [])=false:=by cases r2 with|nil=>exact absurd rfl hne|cons=>rfl
      have hsb:sub r2 1 (r2.length-1)=r2.drop 1:=D5 (by omega)
      have b1:∀ v,PV v ps→S E F.P5 [.agg (snR d v i1 i2 (r2.drop 1))] []=some (.int .i64 (Zfn (mkS d ps i1 i2 (r2.drop 1) hd)),[]):=fun v h=>Z6b (s:=mkS d ps i1 i2 (r2.drop 1) hd) h (by show ps.length≤_;omega) (by show (r2.drop 1).length≤_;omega) (by show i1.name.length≤_;omega) (by show i1.email.length≤_;omega) (by show i2.name.length≤_;omega) (by show i2.email.length≤_;omega)
      have b2:Zfn (mkS d ps i1 i2 (r2.drop 1) hd)=0→(∀ v,PV v ps→S E F.H7 [.agg (snR d v i1 i2 (r2.drop 1))] []=some (.buf (.r 0) 0 0 (Zbt (mkS d ps i1 i2 (r2.drop 1) hd)).length 1,[(.r 0,⟨0,true,true,false,A0 (Zbt (mkS d ps i1 i2 (r2.drop 1) hd))⟩)]))∧(Zbt (mkS d ps i1 i2 (r2.drop 1) hd)).length≤80000:=fun h=>⟨fun v hv=>Z6a (s:=mkS d ps i1 i2 (r2.drop 1) hd) hv (by show ps.length≤_;omega) (by show (r2.drop 1).length≤_;omega) (Zgy h).2.2.1 (Zgy h).2.2.2,Z08 h⟩
      have hy:yesC (mkS d ps i1 i2 (r2.drop 1) hd)=if ps=[] then (.tup [.agg (snR d .nils i1 i2 (r2.drop 1)),.int .i64 0],[]) else (.tup [.agg (snR d (.buf (.r 0) 0 0 ps.length 32) i1 i2 (r2.drop 1)),.int .i64 0],[(.r 0,⟨0,true,true,false,ids ps⟩)]):=rfl
      unfold isC cmV noC
      rw [hy]
      clear hy yes y5 y6
      generalize Zbt (mkS d ps i1 i2 (r2.drop 1) hd)=tb at *
      generalize Zfn (mkS d ps i1 i2 (r2.drop 1) hd)=te at *
      simp only [Yuo]
      have hbe:=Z8h (a:=tb) (b:=p) (n:=tb.length) (m:=p.length) rfl rfl
      rcases hv with ⟨rfl,rfl,rfl⟩|⟨hne2,rfl,rfl⟩
      · rw [if_pos rfl]
        have b1:=b1 _ (.inr ⟨rfl,rfl⟩)
        simp only [Yuh]
        by_cases hte:te=0
        · obtain ⟨b3,b4⟩:=b2 hte
          have b3:=b3 _ (.inr ⟨rfl,rfl⟩)
          subst hte
          simp only [decide_true,Yuo]
          cases hq:(tb==p)
          · rw [hq] at hbe
            rw [if_neg (by simp)]
            rcases hex with rfl|⟨_,_,rfl⟩
            · simp only [Yr7,Ytw]
              simp -dsimp (disch:=first|omega|(simp only [A3]<;>omega)|fail) only [L.C8.r0,go_sem,reduceIte,reduceCtorEq,A9,B0,B1,B2,B3,B4,B5,B6,B7,B8,B9,C0,C1,C2,C3,C4,C5,C6,C7,A2,BYs,s1,s2,s5,s6,hne',hsb,b1,b3,hbe]
            · simp only [Yr7,Ytw]
              simp -dsimp (disch:=first|omega|(simp only [A3]<;>omega)|fail) only [L.C8.r0,go_sem,reduceIte,reduceCtorEq,A9,B0,B1,B2,B3,B4,B5,B6,B7,B8,B9,C0,C1,C2,C3,C4,C5,C6,C7,A2,BYs,s1,s2,s5,s6,hne',hsb,b1,b3,hbe]
          · rw [hq] at hbe
            rw [if_pos rfl]
            rcases hex with rfl|⟨_,_,rfl⟩
            · simp only [Yr7,Ytw]
              simp -dsimp (disch:=first|omega|(simp only [A3]<;>omega)|fail) only [L.C8.r0,go_sem,reduceIte,reduceCtorEq,A9,B0,B1,B2,B3,B4,B5,B6,B7,B8,B9,C0,C1,C2,C3,C4,C5,C6,C7,A2,BYs,s1,s2,s5,s6,hne',hsb,b1,b3,hbe]
            · simp only [Yr7,Ytw]
              simp -dsimp (disch:=first|omega|(simp only [A3]<;>omega)|fail) only [L.C8.r0,go_sem,reduceIte,reduceCtorEq,A9,B0,B1,B2,B3,B4,B5,B6,B7,B8,B9,C0,C1,C2,C3,C4,C5,C6,C7,A2,BYs,s1,s2,s5,s6,hne',hsb,b1,b3,hbe]
        · have hd5:decide (te=0)=false:=decide_eq_false hte
          rw [hd5,Yuq,if_neg (by simp)]
          rcases hex with rfl|⟨_,_,rfl⟩
          · simp only [Yr7,Ytw]
            simp -dsimp (disch:=first|omega|(simp only [A3]<;>omega)|fail) only [L.C8.r0,go_sem,reduceIte,reduceCtorEq,A9,B0,B1,B2,B3,B4,B5,B6,B7,B8,B9,C0,C1,C2,C3,C4,C5,C6,C7,A2,BYs,s1,s2,s5,s6,hne',hsb,b1,hte]
          · simp only [Yr7,Ytw]
            simp -dsimp (disch:=first|omega|(simp only [A3]<;>omega)|fail) only [L.C8.r0,go_sem,reduceIte,reduceCtorEq,A9,B0,B1,B2,B3,B4,B5,B6,B7,B8,B9,C0,C1,C2,C3,C4,C5,C6,C7,A2,BYs,s1,s2,s5,s6,hne',hsb,b1,hte]
      · rw [if_neg hne2]
        have b1:=b1 _ (.inl rfl)
        by_cases hte:te=0
        · obtain ⟨b3,b4⟩:=b2 hte
          have b3:=b3 _ (.inl rfl)
          subst hte
          simp only [decide_true,Yuo]
          cases hq:(tb==p)
          · rw [hq] at hbe
            rw [if_neg (by simp)]
            rcases hex with rfl|⟨_,_,rfl⟩
            · simp only [Yr7,Ytw]
              simp -dsimp (disch:=first|omega|(simp only [A3]<;>omega)|fail) only [L.C8.r0,go_sem,reduceIte,reduceCtorEq,A9,B0,B1,B2,B3,B4,B5,B6,B7,B8,B9,C0,C1,C2,C3,C4,C5,C6,C7,A2,BYs,s1,s2,s5,s6,hne',hsb,b1,b3,hbe]
            · simp only [Yr7,Ytw]
              simp -dsimp (disch:=first|omega|(simp only [A3]<;>omega)|fail) only [L.C8.r0,go_sem,reduceIte,reduceCtorEq,A9,B0,B1,B2,B3,B4,B5,B6,B7,B8,B9,C0,C1,C2,C3,C4,C5,C6,C7,A2,BYs,s1,s2,s5,s6,hne',hsb,b1,b3,hbe]
          · rw [hq] at hbe
            rw [if_pos rfl]
            rcases hex with rfl|⟨_,_,rfl⟩
            · simp only [Yr7,Ytw]
              simp -dsimp (disch:=first|omega|(simp only [A3]<;>omega)|fail) only [L.C8.r0,go_sem,reduceIte,reduceCtorEq,A9,B0,B1,B2,B3,B4,B5,B6,B7,B8,B9,C0,C1,C2,C3,C4,C5,C6,C7,A2,BYs,s1,s2,s5,s6,hne',hsb,b1,b3,hbe]
            · simp only [Yr7,Ytw]
              simp -dsimp (disch:=first|omega|(simp only [A3]<;>omega)|fail) only [L.C8.r0,go_sem,reduceIte,reduceCtorEq,A9,B0,B1,B2,B3,B4,B5,B6,B7,B8,B9,C0,C1,C2,C3,C4,C5,C6,C7,A2,BYs,s1,s2,s5,s6,hne',hsb,b1,b3,hbe]
        · have hd5:decide (te=0)=false:=decide_eq_false hte
          rw [hd5,Yuq,if_neg (by simp)]
          rcases hex with rfl|⟨_,_,rfl⟩
          · simp only [Yr7,Ytw]
            simp -dsimp (disch:=first|omega|(simp only [A3]<;>omega)|fail) only [L.C8.r0,go_sem,reduceIte,reduceCtorEq,A9,B0,B1,B2,B3,B4,B5,B6,B7,B8,B9,C0,C1,C2,C3,C4,C5,C6,C7,A2,BYs,s1,s2,s5,s6,hne',hsb,b1,hte]
          · simp only [Yr7,Ytw]
            simp -dsimp (disch:=first|omega|(simp only [A3]<;>omega)|fail) only [L.C8.r0,go_sem,reduceIte,reduceCtorEq,A9,B0,B1,B2,B3,B4,B5,B6,B7,B8,B9,C0,C1,C2,C3,C4,C5,C6,C7,A2,BYs,s1,s2,s5,s6,hne',hsb,b1,hte]
    · obtain ⟨g1,g2,g3,_⟩:=yes a c m ha hc e
      have z1:=y5 _ ha g1
      have z2:=y6 _ hc g2
      subst z1 z2
      rw [g3]
      exact ⟨rfl,rfl⟩
  · refine ⟨mkS d ps G2 G2 [] hd,false,?_,fun a c m ha hc e=>?_⟩
    · unfold cmV noC
      rw [Yuq,if_neg (by simp)]
      have hr:o1=true→o2=true→(r2 == [])=true:=by
        intro h1 h2
        cases r2 with
        | nil=>rfl
        | cons a t=>exact absurd ⟨h1,h2,by simp⟩ hbad
      rcases hv with ⟨rfl,rfl,rfl⟩|⟨hne2,rfl,rfl⟩<;>rcases hex with rfl|⟨_,_,rfl⟩<;>simp only [Yr7,Ytw,Yuh]<;>cases o1
      all_goals first|(simp -dsimp (disch:=first|omega|(simp only [A3]<;>omega)|fail) only [L.C8.r0,go_sem,reduceIte,reduceCtorEq,A9,B0,B1,B2,B3,B4,B5,B6,B7,B8,B9,C0,C1,C2,C3,C4,C5,C6,C7,A2,BYs,s1,s2,Yug,Yuf];done)|skip
      all_goals cases o2
      all_goals first|(simp -dsimp (disch:=first|omega|(simp only [A3]<;>omega)|fail) only [L.C8.r0,go_sem,reduceIte,reduceCtorEq,A9,B0,B1,B2,B3,B4,B5,B6,B7,B8,B9,C0,C1,C2,C3,C4,C5,C6,C7,A2,BYs,s1,s2,Yug,Yuf];done)|skip
      all_goals
        have hr:=hr rfl rfl
        simp -dsimp (disch:=first|omega|(simp only [A3]<;>omega)|fail) only [L.C8.r0,go_sem,reduceIte,reduceCtorEq,A9,B0,B1,B2,B3,B4,B5,B6,B7,B8,B9,C0,C1,C2,C3,C4,C5,C6,C7,A2,BYs,s1,s2,Yug,Yuf,hr]
    · obtain ⟨g1,g2,g3,g4,g5⟩:=yes a c m ha hc e
      exact absurd ⟨g4,g5,by rw [g3];simp⟩ hbad
end Cod
namespace Cod
open Go
theorem rq_end {p d t:List UInt8} {ps:List Id32} {v:AV} {σ:A5} (hv:(ps=[]∧v=.nils ∧ σ=[])∨(ps≠[]∧v=.buf (.s 1000000 2) 0 0 (ps).length 32 ∧ σ=[(.s 1000000 2,⟨0,true,true,false,ids (ps)⟩)])) (hd:d.length=32) :
    X E [.cell 2 (some 42),.tmp 3] (.c L.C8.x0::.lp [0,2,4,6,8] L.C8.x0::.blk 0::[.c L.C8.r0]) ⟨[(0,.lst (A0 p) p.length),(2,.ref (.s 1000000 0) 0 0),(4,.ref (.s 1000000 1) 0 0),(6,.str t),(8,.int .i64 17)],[(.s 1000000 0,⟨0,true,true,true,snR Zca .nils G2 G2 []⟩),(.s 1000000 1,⟨0,true,true,true,snR d (v) G2 G2 []⟩)] ++ σ⟩=X E [.cell 2 (some 42),.tmp 3] [.c L.C8.r0] ⟨[(0,.lst (A0 p) p.length),(2,.ref (.s 1000000 0) 0 0),(4,.ref (.s 1000000 1) 0 0),(6,.str t),(8,.int .i64 17)]++[(37,.bool false)],[(.s 1000000 0,⟨0,true,true,true,snR Zca .nils G2 G2 []⟩),(.s 1000000 1,⟨0,true,true,true,snR d (v) G2 G2 []⟩)] ++ σ⟩:=by
  have hz0:=S1
  rw [G8 L.C8.x0.eq_1]
  rcases hv with ⟨rfl,rfl,rfl⟩|⟨hne,rfl,rfl⟩
  · simp only [Yuh,Yr7,Ytw]
    simp -dsimp (disch:=first|omega|(simp only [A3]<;>omega)|fail) only [go_sem,reduceIte,reduceCtorEq,A9,B0,B1,B2,B3,B4,B5,B6,B7,B8,B9,C0,C1,C2,C3,C4,C5,C6,C7,A2,BYs]
  · simp only [Yr7,Ytw]
    simp -dsimp (disch:=first|omega|(simp only [A3]<;>omega)|fail) only [go_sem,reduceIte,reduceCtorEq,A9,B0,B1,B2,B3,B4,B5,B6,B7,B8,B9,C0,C1,C2,C3,C4,C5,C6,C7,A2,BYs]
theorem rq_out {p d t v1 r1:List UInt8} {ps:List Id32} {i:Nat} {v:AV} {σ:A5} (hv:(ps=[]∧v=.nils ∧ σ=[])∨(ps≠[]∧v=.buf (.s 1000000 2) 0 0 (ps).length 32 ∧ σ=[(.s 1000000 2,⟨0,true,true,false,ids (ps)⟩)])) (hd:d.length=32) (hi:i≤16) (h:S E F.G6 [.str t,.str [112,97,114,101,110,116]] []=some (.tup [.str v1,.str r1,.bool false],[])) :
    X E [.cell 2 (some 42),.tmp 3] (.c L.C8.x0::.lp [0,2,4,6,8] L.C8.x0::.blk 0::[.c L.C8.r0]) ⟨[(0,.lst (A0 p) p.length),(2,.ref (.s 1000000 0) 0 0),(4,.ref (.s 1000000 1) 0 0),(6,.str t),(8,.int .i64 (i:Int))],[(.s 1000000 0,⟨0,true,true,true,snR Zca .nils G2 G2 []⟩),(.s 1000000 1,⟨0,true,true,true,snR d (v) G2 G2 []⟩)] ++ σ⟩=X E [.cell 2 (some 42),.tmp 3] [.c L.C8.r0] ⟨[(0,.lst (A0 p) p.length),(2,.ref (.s 1000000 0) 0 0),(4,.ref (.s 1000000 1) 0 0),(6,.str t),(8,.int .i64 (i:Int))]++[(37,.bool true),(9,.str v1),(10,.str r1),(11,.bool false),(47,.bool true)],[(.s 1000000 0,⟨0,true,true,true,snR Zca .nils G2 G2 []⟩),(.s 1000000 1,⟨0,true,true,true,snR d (v) G2 G2 []⟩)] ++ σ⟩:=by
  have hz0:=S1
  rw [G8 L.C8.x0.eq_1]
  rcases hv with ⟨rfl,rfl,rfl⟩|⟨hne,rfl,rfl⟩
  · simp only [Yuh,Yr7,Ytw]
    simp -dsimp (disch:=first|omega|(simp only [A3]<;>omega)|fail) only [go_sem,reduceIte,reduceCtorEq,A9,B0,B1,B2,B3,B4,B5,B6,B7,B8,B9,C0,C1,C2,C3,C4,C5,C6,C7,A2,BYs,h,Yug]
  · simp only [Yr7,Ytw]
    simp -dsimp (disch:=first|omega|(simp only [A3]<;>omega)|fail) only [go_sem,reduceIte,reduceCtorEq,A9,B0,B1,B2,B3,B4,B5,B6,B7,B8,B9,C0,C1,C2,C3,C4,C5,C6,C7,A2,BYs,h,Yug]
theorem rq_in {p d t v1 r1 e:List UInt8} {ps:List Id32} {i:Nat} {x:Int} {v:AV} {σ:A5} (hps:ps.length≤17) (hv:(ps=[]∧v=.nils ∧ σ=[])∨(ps≠[]∧v=.buf (.s 1000000 2) 0 0 (ps).length 32 ∧ σ=[(.s 1000000 2,⟨0,true,true,false,ids (ps)⟩)])) (hd:d.length=32) (he:e.length=32) (hi:i≤16) (h:S E F.G6 [.str t,.str [112,97,114,101,110,116]] []=some (.tup [.str v1,.str r1,.bool true],[])) (h2:S E F.H3 [.str v1] []=some (.tup [.agg (A0 e),.int .i64 x],[])) :
    X E [.cell 2 (some 42),.tmp 3] (.c L.C8.x0::.lp [0,2,4,6,8] L.C8.x0::.blk 0::[.c L.C8.r0]) ⟨[(0,.lst (A0 p) p.length),(2,.ref (.s 1000000 0) 0 0),(4,.ref (.s 1000000 1) 0 0),(6,.str t),(8,.int .i64 (i:Int))],[(.s 1000000 0,⟨0,true,true,true,snR Zca .nils G2 G2 []⟩),(.s 1000000 1,⟨0,true,true,true,snR d (v) G2 G2 []⟩)] ++ σ⟩=X E [.cell 2 (some 42),.tmp 3] (.c L.C8.x0::.lp [0,2,4,6,8] L.C8.x0::.blk 0::[.c L.C8.r0]) ⟨[(0,.lst (A0 p) p.length),(2,.ref (.s 1000000 0) 0 0),(4,.ref (.s 1000000 1) 0 0),(6,.str r1),(8,.int .i64 ((i+1:Nat):Int))],[(.s 1000000 0,⟨0,true,true,true,snR Zca .nils G2 G2 []⟩),(.s 1000000 1,⟨0,true,true,true,snR d (.buf (.s 1000000 2) 0 0 (ps++[mkI e]).length 32) G2 G2 []⟩)]++[(.s 1000000 2,⟨0,true,true,false,ids (ps++[mkI e])⟩)]⟩:=by
  have hz0:=S1
  have ho:over (A0 (List.replicate 32 0)) 0 (A0 e)=A0 e:=R3 (by rw [he];simp)
  have hsn:ids ps++A0 e=ids (ps++[mkI e]):=by
    have:=Zz8 ps (mkI e)
    rw [mkI_b he] at this
    exact this
  have hln:(ps++[mkI e]).length=ps.length+1:=by simp
  conv=>lhs;rw [G8 L.C8.x0.eq_1]
  rcases hv with ⟨rfl,rfl,rfl⟩|⟨hne,rfl,rfl⟩
  · rw [Z7t,Ytw,Ytw] at hsn
    simp only [Yuh,Yr7,Ytw,←hsn,Yuj,Yuk]
    simp -dsimp (disch:=first|omega|(simp only [A3]<;>omega)|fail) only [go_sem,reduceIte,reduceCtorEq,A9,B0,B1,B2,B3,B4,B5,B6,B7,B8,B9,C0,C1,C2,C3,C4,C5,C6,C7,A2,BYs,h,h2,ho,he,Yul,Yuf]
  · simp only [Yr7,Ytw,hln,Yuj,Yuk]
    simp -dsimp (disch:=first|omega|(simp only [A3]<;>omega)|fail) only [go_sem,reduceIte,reduceCtorEq,A9,B0,B1,B2,B3,B4,B5,B6,B7,B8,B9,C0,C1,C2,C3,C4,C5,C6,C7,A2,BYs,h,h2,ho,he,hsn,Yul,Yuf]
theorem Yrb {p d:List UInt8} (hd:d.length=32) (hp:p.length≤1048576):∀ (m i:Nat) (t:List UInt8) (ps:List Id32) (v:AV) (σ:A5),i+m=17→ps.length=i→t.length≤1048576→((ps=[]∧v=.nils ∧ σ=[])∨(ps≠[]∧v=.buf (.s 1000000 2) 0 0 (ps).length 32 ∧ σ=[(.s 1000000 2,⟨0,true,true,false,ids (ps)⟩)])) →
    ∃ (g:Snap) (ok:Bool),X E [.cell 2 (some 42),.tmp 3] (.c L.C8.x0::.lp [0,2,4,6,8] L.C8.x0::.blk 0::[.c L.C8.r0]) ⟨[(0,.lst (A0 p) p.length),(2,.ref (.s 1000000 0) 0 0),(4,.ref (.s 1000000 1) 0 0),(6,.str t),(8,.int .i64 (i:Int))],[(.s 1000000 0,⟨0,true,true,true,snR Zca .nils G2 G2 []⟩),(.s 1000000 1,⟨0,true,true,true,snR d (v) G2 G2 []⟩)] ++ σ⟩=some (cmV g (ok&&isC g p)) ∧
    ∀ qs a c m',D7 a=true→D7 c=true→ps.length+qs.length≤16→t=Zc7 qs++(Zgx++32::(H1 a++10::(Zg5++32::(H1 c++10::(10::m')))))→ok=true∧g=mkS d (ps++qs) a c m' hd:=by
  intro m
  induction m with
  | zero =>
    intro i t ps v σ hi hl ht hv
    obtain rfl:i=17:=by omega
    obtain ⟨g,ok,h1,_⟩:=rq_r0 (p:=p) (d:=d) (t:=t) (ps:=ps) (i:=17) (v:=v) (σ := σ) (ex:=[(37,.bool false)]) (.inl rfl) hd hp ht (by omega) hv
    exact ⟨g,ok,(rq_end hv hd).trans h1,fun qs a c m' _ _ hq _=>by omega⟩
  | succ m ih =>
    intro i t ps v σ hi hl ht hv
    obtain ⟨v1,r1,o1,a1,c1,s1,k1,y1⟩:=Zdq (t:=t) (w:=Z04) (by omega) (by decide)
    cases o1 with
    | false =>
      obtain ⟨g,ok,h1,h2⟩:=rq_r0 (p:=p) (d:=d) (t:=t) (ps:=ps) (i:=i) (v:=v) (σ := σ) (ex:=[(37,.bool true),(9,.str v1),(10,.str r1),(11,.bool false),(47,.bool true)]) (.inr ⟨v1,r1,rfl⟩) hd hp ht (by omega) hv
      refine ⟨g,ok,(rq_out hv hd (by omega) s1).trans h1,fun qs a c m' ha hc hq e=>?_⟩
      cases qs with
      | nil =>
        rw [Ze3,Ytw] at e
        rw [Yuh]
        exact h2 a c m' ha hc e
      | cons q qs =>
        rw [Zc8,Ysw,Yr7,Ysw,Yr7] at e
        have:=(y1 _ _ e (Zeo _)).2.2
        cases this
    | true =>
      obtain ⟨e0,x,he,_,s5,y5⟩:=Zjq (s:=v1) (by omega)
      have hv':((ps++[mkI e0])=[]∧(AV.buf (.s 1000000 2) 0 0 (ps++[mkI e0]).length 32)=.nils∧([(.s 1000000 2,⟨0,true,true,false,ids (ps++[mkI e0])⟩)]:A5)=[])∨((ps++[mkI e0])≠[]∧(AV.buf (.s 1000000 2) 0 0 (ps++[mkI e0]).length 32)=.buf (.s 1000000 2) 0 0 ((ps++[mkI e0])).length 32∧([(.s 1000000 2,⟨0,true,true,false,ids (ps++[mkI e0])⟩)]:A5)=[(.s 1000000 2,⟨0,true,true,false,ids ((ps++[mkI e0]))⟩)]):=.inr ⟨by simp,rfl,rfl⟩
      obtain ⟨g,ok,h1,h2⟩:=ih (i+1) r1 (ps++[mkI e0]) _ _ (by omega) (by simp;omega) (by omega) hv'
      refine ⟨g,ok,(rq_in (by omega) hv hd he (by omega) s1 s5).trans h1,fun qs a c m' ha hc hq e=>?_⟩
      cases qs with
      | nil =>
        have hpt:=(k1 rfl).1
        rw [e,Ze3,Ytw] at hpt
        have hno:=Zmo (r:=H1 a++10::(Zg5++32::(H1 c++10::(10::m'))))
        rw [show Z04++[32]=[112,97,114,101,110,116,32] from rfl,hno] at hpt
        cases hpt
      | cons q qs =>
        rw [Zc8,Ysw,Yr7,Ysw,Yr7] at e
        obtain ⟨z1,z2,_⟩:=y1 _ _ e (Zeo _)
        have z3:=(y5 _ q.h z1).1
        obtain ⟨j1,j2⟩:=h2 qs a c m' ha hc (by simp only [Ysv,Ysk,Yth] at hq ⊢;omega) z2
        refine ⟨j1,?_⟩
        rw [j2,z3,Z0b,Ysw]
        rfl
theorem Zw1 {p:List UInt8} {n:Nat} (hn:n=p.length) (hp:p.length≤1048576):∃ (g:Snap) (ok:Bool),S E F.C8 [.lst (A0 p) n] []=some (cmV g (ok&&isC g p))∧∀ s,Zr2 p s→g=s∧ok=true:=by
  subst hn
  obtain ⟨v1,r1,o1,a1,c1,s1,_,y1⟩:=Zdq (t:=p) (w:=Znn) (by omega) (by decide)
  have hz0:=S1
  have yes:∀ s,Zr2 p s→v1=M0 s.tree∧r1=Zc7 s.par++(Zgx++32::(H1 s.aut++10::(Zg5++32::(H1 s.com++10::(10::s.msg)))))∧o1=true:=by
    rintro s ⟨e1,e2⟩
    rw [Z07] at e2
    exact y1 _ _ e2.symm (Zeo _)
  unfold Znn at s1
  cases o1 with
  | false =>
    refine ⟨mkS Zca [] G2 G2 [] S1,false,?_,fun s hs=>by have:=(yes s hs).2.2;cases this⟩
    rw [S_of Zgh rfl rfl]
    unfold cmV noC
    rw [Yuq,if_neg (by simp)]
    simp -dsimp (disch:=first|omega|(simp only [A3]<;>omega)|fail) only [L.C8,go_sem,reduceIte,reduceCtorEq,A9,B0,B1,B2,B3,B4,B5,B6,B7,B8,B9,C0,C1,C2,C3,C4,C5,C6,C7,A2,BYs,s1,Yug]
  | true =>
    obtain ⟨d,x,hd,_,s5,y5⟩:=Zjq (s:=v1) (by omega)
    obtain ⟨g,ok,h1,h2⟩:=Yrb (p:=p) (d:=d) hd hp 17 0 r1 [] _ _ (by omega) rfl (by omega) (.inl ⟨rfl,rfl,rfl⟩)
    refine ⟨g,ok,?_,fun s hs=>?_⟩
    · rw [←h1]
      rw [S_of Zgh rfl rfl]
      simp only [Yuh,Yuk]
      simp -dsimp (disch:=first|omega|(simp only [A3]<;>omega)|fail) only [L.C8,go_sem,reduceIte,reduceCtorEq,A9,B0,B1,B2,B3,B4,B5,B6,B7,B8,B9,C0,C1,C2,C3,C4,C5,C6,C7,A2,BYs,s1,s5,Yuf]
    · obtain ⟨z1,z2,_⟩:=yes s hs
      obtain ⟨w1,w2,w3,w4⟩:=Zgy hs.1
      have z3:=(y5 _ s.ht z1).1
      obtain ⟨j1,j2⟩:=h2 s.par s.aut s.com s.msg w3 w4 (by simpa using w1) z2
      refine ⟨?_,j1⟩
      rw [j2]
      subst z3
      rfl
theorem Zw2 {p:List UInt8} {n:Nat} (hn:n=p.length) (hp:1048576<p.length) (hb:p.length≤1000000000000):S E F.C8 [.lst (A0 p) n] []=some (noC 2):=by
  subst hn
  have hz0:=S1
  rw [S_of Zgh rfl rfl]
  unfold noC
  simp -dsimp (disch:=first|omega|(simp only [A3]<;>omega)|fail) only [L.C8,go_sem,reduceIte,reduceCtorEq,A9,B0,B1,B2,B3,B4,B5,B6,B7,B8,B9,C0,C1,C2,C3,C4,C5,C6,C7,A2,BYs]
end Cod
namespace Cod
open Go
theorem Z6d {d:List UInt8} (h:d.length=32):J3 [0,0,0,0,0,0,0,0,0,0,0,0,0,0,0,0,0,0,0,0,0,0,0,0,0,0,0,0,0,0,0,0] (A0 d) (A0 d)=some true:=by
  rw [Zpa h h];simp
theorem Zw3 {EE:Env} (hE:EnvC EE) (p:List UInt8) (hb:p.length≤1000000000000):(∃ e:Int,e≠0∧S EE F.D3 [.lst (A0 p) p.length] []=some (noC e)∧S E F.C8 [.lst (A0 p) p.length] []=some (noC e))∨(∃ g:Snap,g.par.length≤16∧S EE F.D3 [.lst (A0 p) p.length] []=some (yesC g)∧S E F.C8 [.lst (A0 p) p.length] []=some (yesC g)):=by
  by_cases hp:1048576<p.length
  · exact .inl ⟨2,by decide,Zw0 hE rfl hp hb,Zw2 rfl hp hb⟩
  · obtain ⟨g1,b1,s1,y1⟩:=Zwz hE (p:=p) rfl (by omega)
    obtain ⟨g2,o2,s2,y2⟩:=Zw1 (p:=p) rfl (by omega)
    rw [s1,s2]
    by_cases h:∃ l,Zr2 p l
    · obtain ⟨l,hl⟩:=h
      obtain ⟨rfl,rfl⟩:=y1 l hl
      obtain ⟨rfl,rfl⟩:=y2 _ hl
      have hi:=Z8i.2 hl
      unfold cmV
      rw [hi]
      exact .inr ⟨g2,(Zgy hl.1).1,rfl,rfl⟩
    · have no:∀ g,isC g p=false:=fun g=>by
        cases hi:isC g p with
        | false=>rfl
        | true=>exact absurd ⟨g,Z8i.1 hi⟩ h
      unfold cmV
      rw [no,no,Yuv,Yuv]
      exact .inl ⟨4,by decide,rfl,rfl⟩
end Cod
namespace Cod
open Go
def Zb1 (m:Int):Bool:=decide (m=16384)||(decide (m=33188)||(decide (m=33261)||decide (m=40960)))
theorem Yrc {m:Int}:S E F.S4 [.int .i64 m] []=some (.bool (Zb1 m),[]):=by
  rw [S_of Zub rfl rfl]
  unfold Zb1
  by_cases a:m=16384
  · simp -dsimp (disch:=first|omega|(simp only [A3,A4,A1]<;>omega)|fail) only [L.S4,go_sem,reduceIte,reduceCtorEq,A9,B0,B1,B2,B3,B4,B5,B6,B7,B8,B9,C0,C1,C2,C3,C4,C5,C6,C7,A2,a]
  · by_cases b:m=33188
    · simp -dsimp (disch:=first|omega|(simp only [A3,A4,A1]<;>omega)|fail) only [L.S4,go_sem,reduceIte,reduceCtorEq,A9,B0,B1,B2,B3,B4,B5,B6,B7,B8,B9,C0,C1,C2,C3,C4,C5,C6,C7,A2,a,b]
    · by_cases c:m=33261
      · simp -dsimp (disch:=first|omega|(simp only [A3,A4,A1]<;>omega)|fail) only [L.S4,go_sem,reduceIte,reduceCtorEq,A9,B0,B1,B2,B3,B4,B5,B6,B7,B8,B9,C0,C1,C2,C3,C4,C5,C6,C7,A2,a,b,c]
      · by_cases d:m=40960
        · simp -dsimp (disch:=first|omega|(simp only [A3,A4,A1]<;>omega)|fail) only [L.S4,go_sem,reduceIte,reduceCtorEq,A9,B0,B1,B2,B3,B4,B5,B6,B7,B8,B9,C0,C1,C2,C3,C4,C5,C6,C7,A2,a,b,c,d]
        · simp -dsimp (disch:=first|omega|(simp only [A3,A4,A1]<;>omega)|fail) only [L.S4,go_sem,reduceIte,reduceCtorEq,A9,B0,B1,B2,B3,B4,B5,B6,B7,B8,B9,C0,C1,C2,C3,C4,C5,C6,C7,A2,a,b,c,d]
theorem Z6e {s:List UInt8} (h:Q1 s=true):s.length≤100:=by
  unfold Q1 at h
  simp only [Ysj,decide_eq_true_eq] at h
  exact h.1.1.1.1.1.2
theorem Yrd {s:List UInt8}:S E F.M3 [.str s] []=some (.bool (Q1 s),[]):=by
  by_cases h:s.length≤1000000
  · exact M5 ext0 (Yqd h)
  · have e:Q1 s=false:=by
      cases hn:Q1 s with
      | false=>rfl
      | true=>have:=Z6e hn;omega
    rw [e,S_of Zkt rfl rfl]
    have e1:(s == [])=false:=by
      cases s with
      | nil=>simp at h
      | cons a t=>rfl
    have e2:(s == [46])=false:=by
      rw [←Yvb,beq_iff_eq];intro he;rw [he] at h;simp at h
    have e3:(s == [46,46])=false:=by
      rw [←Yvb,beq_iff_eq];intro he;rw [he] at h;simp at h
    simp -dsimp (disch:=first|omega|(simp only [A3,A4,A1]<;>omega)|fail) only [L.M3,go_sem,reduceIte,reduceCtorEq,A9,B0,B1,B2,B3,B4,B5,B6,B7,B8,B9,C0,C1,C2,C3,C4,C5,C6,C7,A2,e1,e2,e3]
theorem Z1h {ks:List (List UInt8)} {n:List UInt8} (h:n∈ks):(Zc3 ks).set (ks.idxOf n) (.str n)=Zc3 ks:=by
  apply List.ext_getElem?
  intro j
  rw [List.getElem?_set]
  split
  · rename_i hj
    subst hj
    have hi:=List.idxOf_lt_length_of_mem h
    rw [if_pos (by simpa [Zc3] using hi)]
    unfold Zc3
    rw [List.getElem?_map,List.getElem?_eq_getElem hi]
    simp [List.getElem_idxOf]
  · rfl
theorem Z1i (vs:List Int) (j:Nat) (v:Int):(O8 vs).set j (.int .i64 v)=O8 (vs.set j v):=by simp [O8,List.map_set]
theorem Zr7 (vs:List Int) (v:Int):O8 vs++[.int .i64 v]=O8 (vs++[v]):=by simp [O8]
theorem Zw4 {vs:List Int} {j:Nat} {v:Int} (h:vs[j]? = some v):(O8 vs)[j]? = some (.int .i64 v):=by simp [O8,h]
def Zpv (e:Ety):Int:=if !Q1 e.name then 3 else 0
def Zpw (e:Ety):Int:=if !Zb1 e.mode then 4 else 0
def Zg6 (l:List Ety) (i:Nat):Int:=if decide (0<i)&&decide (0≤Zo5 (Zfl (eat l (i-1))) (Zfl (eat l i))) then 4 else 0
def Zno (l:List Ety) (i:Nat):Int:=if decide ((eat l i).name∈(l.take i).map (·.name)) then 8 else 0
def Zh5 (l:List Ety):Nat→Nat→Int→Nat→Int × Nat
  | 0,_,w,z=>(w,z)
  | m+1,i,w,z=>Zh5 l m (i+1) (Y7 [w,Zpv (eat l i),Zpw (eat l i),Zg6 l i,Zno l i]) (z+((Q2 (eat l i).mode).length+(eat l i).name.length+34))
theorem ent_l0 {l:List Ety} (hl:l.length≤4096) (hn:∀ i,(eat l i).name.length≤1000000000) (hm:∀ i,-9223372036854775808≤(eat l i).mode∧(eat l i).mode≤9223372036854775807):∀ (m i z:Nat) (w:Int) (ks:List (List UInt8)) (vs:List Int),i+m=l.length→z≤i*2000000000→MapOK ((l.take i).map (·.name)) ks vs →
    ∃ ks' vs',X E [.tmp 2] (.c L.I4.x0::.lp [0,3,4,5,12,13,14] L.I4.x0::.blk 0::[.c L.I4.r0]) ⟨[(0,.lst (P8 l) l.length),(3,.int .i64 w),(4,.int .i64 z),(5,.mpr (.s 1000000 0) 0),(12,.lst (P8 l) l.length),(13,.int .i64 l.length),(14,.int .i64 i)],[(.s 1000000 0,⟨0,true,true,true,[.mp (Zc3 ks) (O8 vs)]⟩)]⟩ =
    X E [.tmp 2] [.c L.I4.r0] ⟨[(0,.lst (P8 l) l.length),(3,.int .i64 (Zh5 l m i w z).1),(4,.int .i64 (Zh5 l m i w z).2),(5,.mpr (.s 1000000 0) 0),(12,.lst (P8 l) l.length),(13,.int .i64 l.length),(14,.int .i64 l.length),(15,.bool false)],[(.s 1000000 0,⟨0,true,true,true,[.mp (Zc3 ks') (O8 vs')]⟩)]⟩:=by
  intro m
  induction m with
  | zero =>
    intro i z w ks vs h hz hM
    obtain rfl:i=l.length:=by omega
    refine ⟨ks,vs,?_⟩
    rw [G8 L.I4.x0.eq_1,Zh5]
    simp -dsimp (disch:=first|omega|(simp only [A3,A4,A1]<;>omega)|fail) only [go_sem,reduceIte,reduceCtorEq,A9,B0,B1,B2,B3,B4,B5,B6,B7,B8,B9,C0,C1,C2,C3,C4,C5,C6,C7,A2,Zb5,Zey,Zez,Zdm,Zcr,Zfy,Zfz,Zht]
  | succ m ih =>
    intro i z w ks vs h hz hM
    have hlt:i<l.length:=by omega
    have hf:=Zjk (hm i).1 (hm i).2
    have hol:=Zhu (eat l i).mode
    have hnl:=hn i
    have hnm:=Yrd (s:=(eat l i).name)
    have hmd:=Yrc (m:=(eat l i).mode)
    have w1:S E F.E4 [.bool (!Q1 (eat l i).name),.int .i64 3] []=some (.int .i64 (Zpv (eat l i)),[]):=R4
    have w2:S E F.E4 [.bool (!Zb1 (eat l i).mode),.int .i64 4] []=some (.int .i64 (Zpw (eat l i)),[]):=R4
    have wl:=Zld (l:=[w,Zpv (eat l i),Zpw (eat l i),Zg6 l i,Zno l i]) (by simp)
    simp only [O8,Yso,Yvc,Ysk,Yth] at wl
    have htake:(l.take (i+1)).map (·.name)=(l.take i).map (·.name)++[(eat l i).name]:=by
      rw [Yvd hlt,List.map_append]
      simp [eat,List.getD,hlt]
    have hseen:((l.take i).map (·.name)).length≤4096:=by rw [Yts,Ysb];omega
    rw [G8 L.I4.x0.eq_1,Zh5]
    by_cases hin:(eat l i).name∈ks
    · obtain ⟨v,hv,v1,v2,hM2⟩:=hM.old hin
      rw [←htake] at hM2
      have hv2:=Zw4 hv
      have hw:IntKind.i64.wrap (v+1)=v+1:=wrap_i64 (by omega) (by omega)
      have hv3:(O8 (vs.set (ks.idxOf (eat l i).name) (v+1)))[ks.idxOf (eat l i).name]? = some (.int .i64 (v+1)):=Zw4 (by
        rw [List.getElem?_set,if_pos rfl,if_pos (List.getElem?_eq_some_iff.1 hv).1])
      have hfk:Zbl true (.str (eat l i).name) (Zc3 ks) 0=some (some (ks.idxOf (eat l i).name)):=by rw [Zjj,if_pos hin,Ysy]
      have w4:S E F.E4 [.bool true,.int .i64 8] []=some (.int .i64 (Zno l i),[]):=by
        have e:Zno l i=8:=by unfold Zno;rw [decide_eq_true ((hM.mem _).1 hin)];rfl
        rw [e];exact R4 (b:=true)
      obtain ⟨ks',vs',ih2⟩:=ih (i+1) (z+((Q2 (eat l i).mode).length+(eat l i).name.length+34)) (Y7 [w,Zpv (eat l i),Zpw (eat l i),Zg6 l i,Zno l i]) ks _ (by omega) (by omega) hM2
      simp only [Yuj,Yuk] at ih2
      refine ⟨ks',vs',?_⟩
      by_cases hi0:0<i
      · have o1:=Zrb (a:=eat l (i-1)) (b:=eat l i) (by have:=hn (i-1);omega) (by omega)
        have w3:S E F.E4 [.bool (decide (0≤Zo5 (Zfl (eat l (i-1))) (Zfl (eat l i)))),.int .i64 4] []=some (.int .i64 (Zg6 l i),[]):=by
          have e:Zg6 l i=if decide (0≤Zo5 (Zfl (eat l (i-1))) (Zfl (eat l i)))=true then 4 else 0:=by unfold Zg6;rw [decide_eq_true hi0,Yuo]
          rw [e];exact R4
        have e1:(if (i:Int)-1<0 then (0:Int) else (i:Int)-1)=((i-1:Nat):Int):=by rw [if_neg (by omega)];omega
        simp -dsimp (disch:=first|omega|(simp only [A3,A4,A1]<;>omega)|fail) only [go_sem,reduceIte,reduceCtorEq,A9,B0,B1,B2,B3,B4,B5,B6,B7,B8,B9,C0,C1,C2,C3,C4,C5,C6,C7,A2,Zb5,Zey,Zez,Zdm,Zcr,Zfy,Zfz,Zht,hf,hnm,hmd,hv2,hv3,hw,hfk,Z1h hin,Z1i,w1,w2,w3,w4,hi0,o1,wl,e1,Za4,ih2]
      · have w3:S E F.E4 [.bool false,.int .i64 4] []=some (.int .i64 (Zg6 l i),[]):=by
          have e:Zg6 l i=0:=by unfold Zg6;rw [decide_eq_false hi0];rfl
          rw [e];exact R4 (b:=false)
        simp -dsimp (disch:=first|omega|(simp only [A3,A4,A1]<;>omega)|fail) only [go_sem,reduceIte,reduceCtorEq,A9,B0,B1,B2,B3,B4,B5,B6,B7,B8,B9,C0,C1,C2,C3,C4,C5,C6,C7,A2,Zb5,Zey,Zez,Zdm,Zcr,Zfy,Zfz,Zht,hf,hnm,hmd,hv2,hv3,hw,hfk,Z1h hin,Z1i,w1,w2,w3,w4,hi0,wl,ih2]
    · have hM2:=hM.new hin
      rw [←htake] at hM2
      have hfk:Zbl true (.str (eat l i).name) (Zc3 ks) 0=some none:=by rw [Zjj,if_neg hin]
      have hfk2:Zbl true (.str (eat l i).name) (Zc3 (ks++[(eat l i).name])) 0=some (some ks.length):=by
        rw [Zjj,if_pos (by simp),List.idxOf_append,if_neg hin]
        simp
      have hv3:(O8 (vs++[1]))[ks.length]? = some (.int .i64 1):=Zw4 (by rw [←hM.len,List.getElem?_append_right (Yr4 _),Nat.sub_self];rfl)
      have w4:S E F.E4 [.bool false,.int .i64 8] []=some (.int .i64 (Zno l i),[]):=by
        have e:Zno l i=0:=by unfold Zno;rw [decide_eq_false (fun x=>hin ((hM.mem _).2 x))];rfl
        rw [e];exact R4 (b:=false)
      obtain ⟨ks',vs',ih2⟩:=ih (i+1) (z+((Q2 (eat l i).mode).length+(eat l i).name.length+34)) (Y7 [w,Zpv (eat l i),Zpw (eat l i),Zg6 l i,Zno l i]) _ _ (by omega) (by omega) hM2
      simp only [Yuj,Yuk] at ih2
      refine ⟨ks',vs',?_⟩
      by_cases hi0:0<i
      · have o1:=Zrb (a:=eat l (i-1)) (b:=eat l i) (by have:=hn (i-1);omega) (by omega)
        have w3:S E F.E4 [.bool (decide (0≤Zo5 (Zfl (eat l (i-1))) (Zfl (eat l i)))),.int .i64 4] []=some (.int .i64 (Zg6 l i),[]):=by
          have e:Zg6 l i=if decide (0≤Zo5 (Zfl (eat l (i-1))) (Zfl (eat l i)))=true then 4 else 0:=by unfold Zg6;rw [decide_eq_true hi0,Yuo]
          rw [e];exact R4
        have e1:(if (i:Int)-1<0 then (0:Int) else (i:Int)-1)=((i-1:Nat):Int):=by rw [if_neg (by omega)];omega
        simp -dsimp (disch:=first|omega|(simp only [A3,A4,A1]<;>omega)|fail) only [go_sem,reduceIte,reduceCtorEq,A9,B0,B1,B2,B3,B4,B5,B6,B7,B8,B9,C0,C1,C2,C3,C4,C5,C6,C7,A2,Zb5,Zey,Zez,Zdm,Zcr,Zfy,Zfz,Zht,hf,hnm,hmd,hv3,hfk,hfk2,Zr7,w1,w2,w3,w4,hi0,o1,wl,e1,Za4,ih2]
      · have w3:S E F.E4 [.bool false,.int .i64 4] []=some (.int .i64 (Zg6 l i),[]):=by
          have e:Zg6 l i=0:=by unfold Zg6;rw [decide_eq_false hi0];rfl
          rw [e];exact R4 (b:=false)
        simp -dsimp (disch:=first|omega|(simp only [A3,A4,A1]<;>omega)|fail) only [go_sem,reduceIte,reduceCtorEq,A9,B0,B1,B2,B3,B4,B5,B6,B7,B8,B9,C0,C1,C2,C3,C4,C5,C6,C7,A2,Zb5,Zey,Zez,Zdm,Zcr,Zfy,Zfz,Zht,hf,hnm,hmd,hv3,hfk,hfk2,Zr7,w1,w2,w3,w4,hi0,wl,ih2]
def Zel (l:List Ety):Int:=if 4096<l.length then 2 else Y7 [(Zh5 l l.length 0 0 0).1,if decide (1048576<(Zh5 l l.length 0 0 0).2) then 2 else 0]
theorem entI_z (l:List Ety) (hn:∀ i,(eat l i).name.length≤1000000000):∀ (m i z:Nat) (w:Int),z≤i*2000000000→(Zh5 l m i w z).2≤(i+m)*2000000000:=by
  intro m
  induction m with
  | zero=>intro i z w h;exact h
  | succ m ih =>
    intro i z w h
    rw [Zh5]
    have:=ih (i+1) (z+((Q2 (eat l i).mode).length+(eat l i).name.length+34)) (Y7 [w,Zpv (eat l i),Zpw (eat l i),Zg6 l i,Zno l i]) (by have:=hn i;have:=Zhu (eat l i).mode;omega)
    rw [show i+(m+1)=i+1+m by omega]
    exact this
theorem Z6f {l:List Ety} (hn:∀ i,(eat l i).name.length≤1000000000) (hm:∀ i,-9223372036854775808≤(eat l i).mode∧(eat l i).mode≤9223372036854775807) (hl:l.length≤1000000000):S E F.I4 [.lst (P8 l) l.length] []=some (.int .i64 (Zel l),[]):=by
  rw [S_of Zto rfl rfl]
  unfold Zel
  by_cases hlen:4096<l.length
  · rw [if_pos hlen]
    simp -dsimp (disch:=first|omega|(simp only [A3,A4,A1]<;>omega)|fail) only [L.I4,go_sem,reduceIte,reduceCtorEq,A9,B0,B1,B2,B3,B4,B5,B6,B7,B8,B9,C0,C1,C2,C3,C4,C5,C6,C7,A2,hlen]
  · rw [if_neg hlen]
    obtain ⟨ks,vs,h⟩:=ent_l0 (l:=l) (by omega) hn hm l.length 0 0 0 [] [] (by omega) (by omega) (by simpa using MapOK.nil)
    have hz:=entI_z l hn l.length 0 0 0 (by omega)
    simp only [Yuk,show Zc3 []=[] from rfl,show O8 []=[] from rfl] at h
    simp -dsimp (disch:=first|omega|(simp only [A3,A4,A1]<;>omega)|fail) only [L.I4,go_sem,reduceIte,reduceCtorEq,A9,B0,B1,B2,B3,B4,B5,B6,B7,B8,B9,C0,C1,C2,C3,C4,C5,C6,C7,A2,hlen]
    rw [h]
    generalize (Zh5 l l.length 0 0 0).1=w at *
    generalize (Zh5 l l.length 0 0 0).2=z at *
    have w1:S E F.E4 [.bool (decide (1048576<(z:Int))),.int .i64 2] []=some (.int .i64 (if decide (1048576<z) then 2 else 0),[]):=by
      rw [show decide (1048576<(z:Int))=decide (1048576<z) from decide_eq_decide.2 (by omega)];exact R4
    have wl:=Zld (l:=[w,if decide (1048576<z) then 2 else 0]) (by simp)
    simp only [O8,Yso,Yvc,Ysk,Yth] at wl
    simp -dsimp (disch:=first|omega|(simp only [A3,A4,A1]<;>omega)|fail) only [L.I4.r0,go_sem,reduceIte,reduceCtorEq,A9,B0,B1,B2,B3,B4,B5,B6,B7,B8,B9,C0,C1,C2,C3,C4,C5,C6,C7,A2,w1,wl]
end Cod
namespace Cod
open Go Go.RowKit Go.Proofs Go.Shelf
set_option maxRecDepth 1000000
def Zjr (e:Ety):List UInt8:=Q2 e.mode++[32]++e.name++[0]++e.id
def G9 (l:List Ety):List UInt8:=l.flatMap Zjr
def Zh6 (l:List Ety):Prop:=(∀ i,(eat l i).name.length≤1000000000)∧(∀ i,-9223372036854775808≤(eat l i).mode∧(eat l i).mode≤9223372036854775807)∧l.length≤1000000000
theorem Zr8 {l:List Ety} (hl:Zh6 l) {a:Option Addr} {cap:Nat} {w:World} (hW:Za5 w) (hv:VR (ctx [] LaE w) (.lst (P8 l) l.length) (.slice a l.length cap)) :
    Calls Tryz.prog 41 #[.slice a l.length cap] w fun e w'=>e=.returned (.int .i64 (Zel l))∧Below w.heap.size w w' :=
  Zin Tryz.func41 (by rfl) (by kernel_rfl) (Z6f hl.1 hl.2.1 hl.2.2) hW (vs:=[.slice a l.length cap]) (by simp only [VRL];exact ⟨_,_,rfl,hv,rfl⟩) (fun c z hz=>by simpa [VR] using hz)
theorem Ydo {m:Int} (h0 : -9223372036854775808≤m) (h1:m≤9223372036854775807) {w:World} (hW:Za5 w) :
    Calls Tryz.prog 43 #[.int .i64 m,.int .i64 8] w fun e w'=>e=.returned (.string ⟨(Q2 m).toArray⟩)∧Below w.heap.size w w' :=
  Zin Tryz.func43 (by rfl) (by kernel_rfl) (Zjk h0 h1) hW (vs:=[.int .i64 m,.int .i64 8]) (by simp [VRL,VR]) (fun c z hz=>by simpa [VR] using hz)
def Zf4 (e:Ety):List Value:=.int .i64 e.mode::.string ⟨e.name.toArray⟩::Lib.byteCells e.id
theorem Zeq (e:Ety):(Zf4 e).length=34:=by simp [Zf4,Lib.byteCells_length,e.hid]
theorem Ylp (e:Ety):(Zf4 e).toArray.all (·.oneCell')=true:=by
  rw [Yve]
  intro v hv
  simp only [List.mem_toArray,Zf4,List.mem_cons] at hv
  rcases hv with rfl|rfl|hv
  · rfl
  · rfl
  · unfold Lib.byteCells at hv
    obtain ⟨b,_,rfl⟩:=List.mem_map.1 hv
    rfl
theorem Ydp {c:Ctx}:∀ {l:List UInt8} {vs:List Value},VRL c (A0 l) vs→vs=Lib.byteCells l:=by
  intro l
  induction l with
  | nil=>intro vs h;simp only [A0,Yvc,VRL] at h;rw [h];rfl
  | cons a l ih =>
    intro vs h
    simp only [A0,Yso,VRL] at h
    obtain ⟨v,r,rfl,h1,h2⟩:=h
    rw [ih h2]
    simp only [VR] at h1
    rw [h1];rfl
theorem Ydq {c:Ctx} {b o:Nat} {e:Ety} (h:VRC c b o e.cells):c.w.rangeAt b o (Zf4 e):=by
  obtain ⟨vs,h1,h2⟩:=Zfo h
  unfold Ety.cells at h1
  simp only [VRL,VR] at h1
  obtain ⟨v0,r0,rfl,rfl,v1,r1,rfl,rfl,h3⟩:=h1
  rw [Ydp h3] at h2
  exact h2
theorem Z6g {B b:Nat} (hb:B≤b):∀ (vs:List Value) (o:Nat) {W w:World},Below B W w→Below B W (w.setCells b o vs):=by
  intro vs
  induction vs with
  | nil=>intro o W w h;exact h
  | cons v r ih=>intro o W w h;exact ih (o+1) (h.setCell (p:=⟨b,o,none⟩) hb v)
theorem Ydr (b:Nat):∀ (vs:List Value) (o:Nat) (w:World),(w.setCells b o vs).heap.size=w.heap.size:=by
  intro vs
  induction vs with
  | nil=>intro o w;rfl
  | cons v r ih=>intro o w;show ((w.setCell _ v).setCells b (o+1) r).heap.size=_;rw [ih];simp [World.setCell]
theorem Ylq {b:Nat} {T:TypeId}:∀ (vs:List Value) (o:Nat) (w:World),(∃ cs fr,w.heap[b]? = some (.cells cs T fr))→∃ cs fr,(w.setCells b o vs).heap[b]? = some (.cells cs T fr):=by
  intro vs
  induction vs with
  | nil=>intro o w h;exact h
  | cons v r ih =>
    intro o w h
    refine ih (o+1) _ ?_
    obtain ⟨cs,fr,h⟩:=h
    refine ⟨cs.setIfInBounds o v,fr,?_⟩
    simp only [World.setCell,Array.getElem?_modify,if_true,h]
    rfl
theorem Yds {w:World} {B B':Nat} {e sz n:Nat} {v:Value} {xs:List Value} (h:w.ownsRow B e sz v n xs) (hB:B'≤B):w.ownsRow B' e sz v n xs:=by
  obtain ⟨h1,h2⟩:=h
  refine ⟨h1,?_⟩
  rcases h2 with h2|⟨g,cap,cur,q1,q2,q3⟩
  · exact .inl h2
  · exact .inr ⟨g,cap,cur,q1,Yr5 hB q2,q3⟩
structure VarAt (wr W3:World) (T:TypeId) (vals:List Value):Prop where
  below:Below wr.heap.size wr W3
  size:W3.heap.size=wr.heap.size+1
  cell:∀ j v,vals[j]? = some v→W3.cell? ⟨wr.heap.size,j,none⟩=some v
  row:∃ cs fr,W3.heap[wr.heap.size]? = some (.cells cs T fr)
theorem Ydt (wr:World) (z:Array Value) (T:TypeId) (vals:List Value) (hz:z.size=vals.length):VarAt wr ((wr.alloc (.cells z T)).setCells wr.heap.size 0 vals) T vals:=by
  have hc:∀ j,j<vals.length→((wr.alloc (.cells z T)).cell? ⟨wr.heap.size,0+j,none⟩).isSome=true:=by
    intro j hj
    simp only [World.cell?,heap_alloc_new]
    rw [if_neg (by simp),Ysy,Array.getElem?_eq_getElem (by omega)]
    rfl
  refine ⟨Z6g (Yr4 _) _ _ ((Below.refl _ wr).alloc (Yr4 _) _),?_,?_,Ylq _ _ _ ⟨_,_,heap_alloc_new wr _⟩⟩
  · rw [Ydr];exact Yvf _
  · intro j v hv
    have hj:=(List.getElem?_eq_some_iff.1 hv).1
    have:=World.cell?_setCells_in wr.heap.size vals 0 _ hc j hj
    rw [Ysy] at this
    rw [this]
    rw [List.getElem?_eq_getElem hj] at hv
    exact hv
theorem Z1j {wr:World} {z:Array Value} {T:TypeId} {vals:List Value} (hz:z.size=vals.length) {p:World→Prop} (h:∀ W3,VarAt wr W3 T vals→p W3):p ((wr.alloc (.cells z T)).setCells wr.heap.size 0 vals):=h _ (Ydt wr z T vals hz)
theorem Zlp (e:Ety):(Zjr e).length=(Q2 e.mode).length+e.name.length+34:=by
  unfold Zjr;simp [e.hid];omega
theorem Z6h (l:List Ety) (k:Nat):(G9 (l.take k)).length≤(G9 l).length:=by
  have h:G9 l=G9 (l.take k)++G9 (l.drop k):=by unfold G9;rw [←Yvg,List.take_append_drop]
  rw [h,Ysv];omega
theorem Z6i {l:List Ety} {k:Nat} (h:k<l.length):G9 (l.take (k+1))=G9 (l.take k)++Zjr (eat l k):=by
  rw [Yvd h]
  unfold G9
  rw [Yvg]
  simp [eat,List.getD,h]
theorem Z1k (l:List Ety):∀ (m i z:Nat) (w:Int),i+m=l.length→(Zh5 l m i w z).2=z+(G9 (l.drop i)).length:=by
  intro m
  induction m with
  | zero =>
    intro i z w h
    rw [List.drop_eq_nil_of_le (by omega)]
    simp [Zh5,G9]
  | succ m ih =>
    intro i z w h
    have hlt:i<l.length:=by omega
    rw [Zh5,ih (i+1) _ _ (by omega),List.drop_eq_getElem_cons hlt]
    have he:eat l i=l[i]:=by simp [eat,List.getD,hlt]
    have e2:G9 (l[i]::l.drop (i+1))=Zjr l[i]++G9 (l.drop (i+1)):=by unfold G9;rw [List.flatMap_cons]
    rw [e2,Ysv,Zlp,he]
    omega
theorem lst2_0 (w:Int):Ze4 0 w=w:=by
  unfold Ze4
  by_cases h:w=0
  · rw [h];simp
  · rw [if_pos ⟨h,.inl rfl⟩]
theorem minE2 {w e:Int} (h:Y7 [w,e]=0):e=0:=by
  have h1:Ze4 (Ze4 0 w) e=0:=h
  rw [lst2_0] at h1
  unfold Ze4 at h1
  by_cases he:e=0
  · exact he
  · split at h1
    · exact h1
    · rename_i h2
      exact absurd ⟨he,.inl h1⟩ h2
theorem Zh7 {l:List Ety} (h:Zel l=0):(G9 l).length≤1048576:=by
  unfold Zel at h
  split at h
  · omega
  · have h2:=minE2 h
    rw [Z1k l l.length 0 0 0 (by omega),List.drop_zero] at h2
    split at h2
    · omega
    · rename_i h3
      simp at h3
      omega
theorem Ziw:∀ (l:List UInt8),∀ v∈Lib.byteCells l,v.oneCell'=true:=by
  intro l v hv
  unfold Lib.byteCells at hv
  obtain ⟨b,_,rfl⟩:=List.mem_map.1 hv
  rfl
theorem src_id {wr W3 W4 W5:World} {e:Ety} {T:TypeId} {b:Nat} (hva:VarAt wr W3 T (Zf4 e)) (hT:T≠5) (hb:b<wr.heap.size) (hk4:∀ j,j<W3.heap.size→W4.heap[j]? = W3.heap[j]?) (hk5:Lib.OthersKept 5 (some b) W4 W5) :
    ∀ j v,(Lib.byteCells e.id)[j]? = some v→W5.cell? ((⟨wr.heap.size,2,none⟩:Addr).add j)=some v:=by
  intro j v hj
  obtain ⟨cs,fr,hr⟩:=hva.row
  have hn1:wr.heap.size<W3.heap.size:=by rw [hva.size];omega
  have h4:W4.heap[wr.heap.size]? = some (.cells cs T fr):=(hk4 _ hn1).trans hr
  have h5:=hk5 _ _ h4 (by simp;omega) (fun c fz h=>by cases h;exact hT rfl)
  have hc:=hva.cell (j+2) v (by simpa [Zf4] using hj)
  rw [Addr.add_mid]
  simp only [World.cell?,hr,h5] at hc ⊢
  rw [Nat.add_comm];exact hc
theorem Z1l {T1 T2:ByteArray} {m:Int} {n:List UInt8} (d1:T1.data.toList=Q2 m) (d2:T2.data.toList=n):(T1++⟨#[32]⟩++T2++⟨#[0]⟩).data.toList=Q2 m++[32]++n++[0]:=by
  simp only [ByteArray.data_append,Yvh,d1,d2]
theorem Zmp (a b:List UInt8):Lib.byteCells a++Lib.byteCells b=Lib.byteCells (a++b):=by simp [Lib.byteCells]
theorem Ylr {T1 T2:ByteArray} {l:List Ety} {k:Nat} (hk:k<l.length) (d1:T1.data.toList=Q2 (eat l k).mode) (d2:T2.data.toList=(eat l k).name) :
    Lib.byteCells (G9 (l.take k))++Lib.byteCells (T1++⟨#[32]⟩++T2++⟨#[0]⟩).data.toList++Lib.byteCells (eat l k).id=Lib.byteCells (G9 (l.take (k+1))):=by
  rw [Z1l d1 d2,Zmp,Zmp,Z6i hk]
  congr 1
  simp [Zjr]
theorem L5 {B B':Nat} {a w:World} (h:Below B a w) (hB:B'≤B):Below B' a w:=⟨h.os,h.tape,h.output,h.size,fun k hk=>h.block k (Yr6 hk hB)⟩
theorem Zfj {k:Nat} (h:k≤1000000000):wrap64 ((k:Int)+1)=((k+1:Nat):Int):=by
  unfold wrap64;omega
end Cod
namespace Cod
open Go Go.RowKit Go.Proofs Go.Shelf
set_option maxRecDepth 1000000
set_option maxHeartbeats 6400000 in
theorem Yls {l:List Ety} (hl:Zh6 l) {p:Option Addr} {b0 o0 cap:Nat} {w:World} (hW:Za5 w) (hv:VR (ctx [] LaE w) (.lst (P8 l) l.length) (.slice p l.length cap)) (hp:0<l.length→p=some ⟨b0,o0,none⟩) (hrow:∀ k,k<l.length→w.rangeAt b0 (o0+k*34) (Zf4 (eat l k))) (hb0:0<l.length→b0<w.heap.size) :
    Calls Tryz.prog 11 #[.slice p l.length cap] w fun e w'=>Below w.heap.size w w'∧((Zel l≠0∧e=.returned (.tuple #[.slice none 0 0,.int .i64 (Zel l)]))∨(Zel l=0∧∃ v,e=.returned (.tuple #[v,.int .i64 0])∧w'.ownsRow w.heap.size 5 1 v (G9 l).length ((G9 l).map fun b=>Value.int .u8 b.toNat))):=by
  have hi39:(Tryz.prog.info? 58).map (·.size)=some 34:=by kernel_rfl
  by_cases he:Zel l=0
  · go_enter Tryz.func11,Tryz.ntmps11
    go_wp2_with (go_at_call 41;refine (Zr8 hl hW hv).mono ?_;rw [he];rintro e W1 ⟨rfl,hb1⟩)
    go_loopw [15] (fun i wr=>∃ k:Nat,i=.int .i64 k∧k≤l.length∧Lib.IsBuffer 83 5 W1.heap.size W1.heap.size (Lib.byteCells (G9 (l.take k))) wr∧Below W1.heap.size W1 wr) (fun i _=>l.length-(intOf i).toNat)
    case atStart =>
      exact ⟨0,rfl,Nat.zero_le _,⟨Yr4 _,.slice none 0 0,0,heap_alloc_new W1 _,World.ownsRow_nil _ _ _ _,by simp [Value.ownBlock]⟩,(Below.refl _ W1).alloc (Yr4 _) _⟩
    case round =>
      obtain ⟨k,rfl,hk,hI,hbw⟩:=hrel
      have hbel:Below w.heap.size w wr:=hb1.trans ⟨hbw.os,hbw.tape,hbw.output,hbw.size,fun j hj=>hbw.block j (Yr6 hj hb1.size)⟩
      by_cases hlt:k<l.length
      · obtain rfl:=hp (by omega)
        have hb0:=hb0 (by omega)
        have hrange:wr.rangeAt b0 (o0+k*34) (Zf4 (eat l k)):=fun j v hj=>(hbel.cell (p:=⟨b0,o0+k*34+j,none⟩) hb0).trans (hrow k hlt j v hj)
        go_upto_region 8 with (first|(refine wpList_load_mid rfl 58 _ rfl b0 (o0+k*34) (by first|rfl|simp [Addr.add_mid]) (Zf4 (eat l k)) _ hrange Tryz.underlying58 rfl (by rw [Zeq];exact hi39) ?_)|(refine wpList_store_mid rfl 58 _ _ rfl wr.heap.size 0 (Zf4 (eat l k)).toArray (by rfl) (by rfl) ?_ ?_ (Ylp _) ?_))
        · intro j hj
          first|rw [Ysd,Zeq] at hj|rw [Zeq] at hj
          refine ⟨?_,?_⟩
          · simp only [World.cell?,heap_alloc_new]
            rw [if_neg (by simp),Ysy,Array.getElem?_eq_getElem (by simpa using hj)];rfl
          · simp only [World.frozen?,heap_alloc_new]
            simp
        · first|(rw [Ysd,Zeq];exact hi39)|rw [Zeq]
        · refine Z1j (p:=Code.wp _ _ _ _) (T:=58) (vals:=Zf4 (eat l k)) (by rw [Zeq];rfl) ?_
          intro W3 hva
          have hn1:wr.heap.size<W3.heap.size:=by rw [hva.size];omega
          have c0:W3.cell? ⟨wr.heap.size,0,none⟩=some (.int .i64 (eat l k).mode):=hva.cell 0 _ rfl
          have c1:W3.cell? ⟨wr.heap.size,1,none⟩=some (.string ⟨(eat l k).name.toArray⟩):=hva.cell 1 _ rfl
          have hI3:=hI.old hva.below
          have hb3:Below w.heap.size w W3:=hbel.trans ⟨hva.below.os,hva.below.tape,hva.below.output,hva.below.size,fun j hj=>hva.below.block j (Yr6 hj hbel.size)⟩
          have hS3:Za5 W3:=hW.below hb3
          have hm:=hl.2.1 k
          have hF:Calls Tryz.prog 43 #[.int .i64 (eat l k).mode,.int .i64 8] W3.drew fun e W4=>e=.returned (.string ⟨(Q2 (eat l k).mode).toArray⟩)∧W4.cell? ⟨wr.heap.size,1,none⟩=some (.string ⟨(eat l k).name.toArray⟩)∧Below wr.heap.size wr W4∧W3.heap.size≤W4.heap.size∧(∀ j,j<W3.heap.size→W4.heap[j]? = W3.heap[j]?):=by
            have hSd:Za5 W3.drew:=hS3.below ⟨rfl,rfl,rfl,Yr4 _,fun _ _=>rfl⟩
            refine (Ydo hm.1 hm.2 hSd).mono ?_
            rintro e W4 ⟨rfl,hb4x⟩
            have hb4:Below W3.heap.size W3 W4:=⟨hb4x.os,hb4x.tape,hb4x.output,hb4x.size,hb4x.block⟩
            exact ⟨rfl,(hb4.cell (p:=⟨wr.heap.size,1,none⟩) hn1).trans c1,hva.below.trans ⟨hb4.os,hb4.tape,hb4.output,hb4.size,fun j hj=>hb4.block j (by omega)⟩,hb4.size,hb4.block⟩
          have hts:=Zh7 he
          have htk:=Z6h l k
          have hol:=Zhu (eat l k).mode
          have hnl:=hl.1 k
          obtain ⟨T1,hT1⟩:∃ T1:ByteArray,T1=⟨(Q2 (eat l k).mode).toArray⟩:=⟨_,rfl⟩
          obtain ⟨T2,hT2⟩:∃ T2:ByteArray,T2=⟨(eat l k).name.toArray⟩:=⟨_,rfl⟩
          have z1:T1.size≤23:=by rw [hT1];simpa [ByteArray.size] using hol
          have z2:T2.size≤1000000000:=by rw [hT2];simpa [ByteArray.size] using hnl
          rw [←hT1,←hT2] at hF
          rw [←hT2] at c1
          have d1:T1.data.toList=Q2 (eat l k).mode:=by rw [hT1]
          have d2:T2.data.toList=(eat l k).name:=by rw [hT2]
          clear hT1 hT2
          have g1:¬ 9223372036854775807<T1.size+1:=by omega
          have g2:¬ 9223372036854775807<T1.size+1+T2.size:=by omega
          have g3:¬ 9223372036854775807<T1.size+1+T2.size+1:=by omega
          have g4:¬ 9223372036854775807≤T1.size:=by omega
          have g5:¬ 9223372036854775807≤T1.size+1+T2.size:=by omega
          go_region_with (first|(go_at_call 43;refine hF.mono ?_;rintro e W4 ⟨rfl,c1',hb4,hz4,hk4⟩;have hI4:=hI.old hb4)|(go_at_call 42;refine Calls.mono (Tryz.Buffer_WriteString_kept W1.heap.size W1.heap.size _ _ W4 hI4 (by have:=hbw.size;have:=hb4.size;omega) (Ziw _) (by rw [Lib.byteCells_length];simp only [ByteArray.size_append];have e1:(⟨#[32]⟩:ByteArray).size=1:=rfl;have e2:(⟨#[0]⟩:ByteArray).size=1:=rfl;omega)) ?_;rintro e W5 ⟨rfl,hI5,hb5,hk5⟩))
          all_goals have hsrc:=src_id hva (by decide) hI.lt hk4 hk5
          all_goals go_wp2_with (go_at_call 44;refine Calls.mono (Tryz.Buffer_Write_any W1.heap.size W1.heap.size _ (Lib.byteCells (eat l k).id) ⟨wr.heap.size,2,none⟩ 32 32 W5 hI5 (by have:=hbw.size;have:=hb4.size;have:=hb5.size;omega) (by rw [Zmp];exact Ziw _) (by rw [Lib.byteCells_length];exact (eat l k).hid) (by have:=hI.lt;show wr.heap.size≠W1.heap.size;omega) hsrc (Ziw _) (by rw [Ysv,Lib.byteCells_length,Lib.byteCells_length,Z1l d1 d2];simp only [Ysv,Ysk,Yth];omega)) ?_;rintro e W6 ⟨rfl,hI6,hb6,hk6⟩)
          all_goals rw [Ylr hlt d1 d2] at hI6
          all_goals go_roundw
          all_goals first
            | exact ⟨k+1,by rw [Zfj (by have:=hl.2.2;omega)],by omega,hI6,hbw.trans ((L5 hb4 hbw.size).trans (hb5.trans hb6))⟩
            | (rw [Zfj (by have:=hl.2.2;omega)];simp only [intOf];omega)
      · obtain rfl:k=l.length:=by omega
        rw [Yvi] at hI
        go_wp2_with (go_at_call 45;refine (Tryz.Buffer_Bytes W1.heap.size W1.heap.size _ wr hI).mono ?_;rintro e W2 ⟨v,rfl,hown,n,rfl⟩)
        go_ret2
        refine ⟨hbel.trans ⟨rfl,rfl,rfl,Yr4 _,fun _ _=>rfl⟩,.inr ⟨he,v,rfl,?_⟩⟩
        have e1:Lib.byteCells (G9 l)=(G9 l).map fun b=>Value.int .u8 b.toNat:=rfl
        rw [e1,Yts] at hown
        exact Yds hown hb1.size
  · go_enter Tryz.func11,Tryz.ntmps11
    go_wp2_with (go_at_call 41;refine (Zr8 hl hW hv).mono ?_;rintro e W1 ⟨rfl,hb1⟩)
    go_ret2
    exact ⟨hb1,.inl ⟨he,rfl⟩⟩
end Cod
namespace Cod
open Go Go.RowKit Go.Proofs Go.Shelf
set_option maxRecDepth 1000000
set_option maxHeartbeats 2000000 in
theorem Ylt (b:Nat) (w:World) (h0:w.cell? ⟨b,0,none⟩=some (.pointer none)) (hsh:w.shape? b=some (123,2)) (hfz:w.frozen? ⟨b,0,none⟩=false) :
    Calls Tryz.prog 114 #[.pointer (some ⟨b,0,none⟩)] w fun e w'=>e=.returned (.tuple #[])∧w'=w.setCell ⟨b,0,none⟩ (.pointer (some ⟨b,0,none⟩)):=by
  obtain ⟨j,hj,hjs⟩:=Option.map_eq_some_iff.1 Tryz.Builder_Extra_169.sizeBuilder
  go_enter Tryz.func114,Tryz.ntmps114
  go_wp2
  rw [Lib.run_to_unsafe w ⟨b,0,none⟩ Tryz.underlying121 Tryz.underlying190 hj (by rw [hjs];decide) hsh (Nat.zero_lt_succ 1)]
  simp only [Result.andThen]
  rw [Oper.upon_value]
  go_wp2
  rw [run_callFunc_extern Tryz.func152 (by kernel_rfl) (by kernel_rfl) (by kernel_rfl) (e:=Extern.AbiNoEscape.same) (by kernel_rfl)]
  rw [Lib.run_noEscape]
  simp only [Result.andThen]
  rw [Oper.upon_value]
  go_wp2
  rw [Lib.run_from_unsafe w ⟨b,0,none⟩ Tryz.underlying190 Tryz.underlying121 hj hsh Tryz.Builder_Extra_169.liesBuilder]
  simp only [Result.andThen]
  rw [Oper.upon_value]
  go_wp2
  go_end0
  exact ⟨rfl,rfl⟩
set_option maxHeartbeats 2000000 in
theorem Yre (b:Nat) (w:World) (h0:w.cell? ⟨b,0,none⟩=some (.pointer (some ⟨b,0,none⟩))) :
    Calls Tryz.prog 114 #[.pointer (some ⟨b,0,none⟩)] w fun e w'=>e=.returned (.tuple #[])∧w'=w:=by
  obtain ⟨j,hj,_⟩:=Option.map_eq_some_iff.1 Tryz.Builder_Extra_169.sizeBuilder
  go_enter Tryz.func114,Tryz.ntmps114
  go_wp2
  rw [Lib.run_neq_ptr_same w _ Tryz.underlying121 hj]
  go_wp2
  go_end0
  exact ⟨rfl,rfl⟩
theorem bc_k (B b:Nat) (bs:List Value) (w:World) (h:Lib.IsBuilderF 123 5 B b bs w) :
    Calls Tryz.prog 114 #[.pointer (some ⟨b,0,none⟩)] w fun e w'=>e=.returned (.tuple #[])∧(Lib.BuilderAtF 123 5 B b (.pointer (some ⟨b,0,none⟩)) bs w'∧Below B w w'∧Lib.OthersKept 5 (some b) w w'):=by
  rcases h with h|h
  · refine (Ylt b w h.cell0 h.shape h.frozen0).mono ?_
    rintro e w' ⟨rfl,rfl⟩
    exact ⟨rfl,h.used _,(Below.refl B w).setCell (p:=⟨b,0,none⟩) h.1 _,(Lib.OthersKept.refl _ _ w).setCell ⟨b,0,none⟩ rfl _⟩
  · refine (Yre b w h.cell0).mono ?_
    rintro e w' ⟨rfl,rfl⟩
    exact ⟨rfl,h,Below.refl B _,Lib.OthersKept.refl _ _ _⟩
set_option maxHeartbeats 2000000 in
theorem Ylu (B b:Nat) (bs:List Value) (c:Int) (w:World) (h:Lib.IsBuilderF 123 5 B b bs w) (hlen:bs.length+1≤140737488355328) (hBw:B≤w.heap.size) :
    Calls Tryz.prog 102 #[.pointer (some ⟨b,0,none⟩),.int .u8 c] w fun e w'=>e=.returned .nilIface∧(Lib.BuilderAtF 123 5 B b (.pointer (some ⟨b,0,none⟩)) (bs++[.int .u8 c]) w'∧Below B w w'∧Lib.OthersKept 5 (some b) w w'):=by
  obtain ⟨i0,hi,hz0,hz1,hz2⟩:=info_parts Tryz.Builder_Extra_169.infoByte
  go_enter Tryz.func102,Tryz.ntmps102
  go_wp2_with (go_at_call 114;refine (bc_k B b bs _ h).mono ?_)
  rintro e w1 ⟨rfl,h1,hb1,hk1⟩
  obtain ⟨hB,v,hbk,hown,hne⟩:=h1
  have c0:w1.cell? ⟨b,0,none⟩=some (.pointer (some ⟨b,0,none⟩)):=by rw [Lib.cell_of_heap hbk];rfl
  have c1:w1.cell? ⟨b,1,none⟩=some v:=by rw [Lib.cell_of_heap hbk];rfl
  go_wp2_with (at_builtin;refine wpList_append_ownF _ rfl _ _ 23 rfl B 5 i0 (.int .u8 0) 1 1 Tryz.underlying23 hi hz0 hz1 hz2 rfl (by decide) _ _ _ rfl (hown.alloc _) ⟨w1.heap.size,0,none⟩ 1 1 [.int .u8 c] rfl rfl ?c1 ?c2 ?c3 ?c4 ?c5 ?_)
  case c1 =>
    intro j u hj
    match j,hj with
    | 0,hj=>simp at hj;subst hj;simp [Addr.add]
  case c2=>intro u hu;simp at hu;subst hu;rfl
  case c3=>unfold maxLen;omega
  case c4=>omega
  case c5=>have:=hb1.size;simp;omega
  intro v' w2 hown' hgrow _
  have hlt:b<w1.heap.size:=by
    rcases Nat.lt_or_ge b w1.heap.size with h'|h'
    · exact h'
    · simp [Array.getElem?_eq_none h'] at hbk
  have hb2:w2.heap[b]? = some (.cells #[.pointer (some ⟨b,0,none⟩),v] 123 (0,0)):=by
    rw [hgrow.block b (by simp;omega) (fun e=>hne e.symm),Lib.alloc_old w1 _ b hlt]
    exact hbk
  have d0:w2.cell? ⟨b,0,none⟩=some (.pointer (some ⟨b,0,none⟩)):=by rw [Lib.cell_of_heap hb2];rfl
  have d1:w2.cell? ⟨b,1,none⟩=some v:=by rw [Lib.cell_of_heap hb2];rfl
  have f1:w2.frozen? ⟨b,1,none⟩=false:=Lib.frozen_of_heap hb2 1
  obtain ⟨g,cap,rfl⟩:∃ g cap,v'=.slice (some ⟨g,0,none⟩) (bs.length+1) cap:=by
    rcases hown'.2 with ⟨_,h0⟩|⟨g,cap,cur,fz,hv,_⟩
    · omega
    · exact ⟨g,cap,hv⟩
  go_wp2
  go_ret
  refine ⟨rfl,?_,?_,((hk1.alloc _).grown hgrow (Lib.ownsRowF_kind (hown.alloc _))).setCell ⟨b,1,none⟩ rfl _⟩
  · exact Lib.BuilderAtF.put (T:=123) (e:=5) hB hb2 (bs':=bs++[.int .u8 c]) (by simpa using hown') Tryz.Builder_Extra_169.neB5
  · exact ((hb1.alloc (by have:=hb1.size;omega) _).grown hgrow (by have:=hb1.size;simp;omega) (fun k hk=>(hown.lt k hk).1)).setCell (p:=⟨b,1,none⟩) hB _
set_option maxHeartbeats 2000000 in
theorem Zpx (B b:Nat) (bs:List Value) (s:ByteArray) (w:World) (h:Lib.IsBuilderF 123 5 B b bs w) (hlen:bs.length+s.size≤140737488355328) (hBw:B≤w.heap.size) :
    Calls Tryz.prog 70 #[.pointer (some ⟨b,0,none⟩),.string s] w fun e w'=>e=.returned (.tuple #[.int .i64 s.size,.nilIface])∧(Lib.BuilderAtF 123 5 B b (.pointer (some ⟨b,0,none⟩)) (bs++Lib.strCells s) w'∧Below B w w'∧Lib.OthersKept 5 (some b) w w'):=by
  obtain ⟨i0,hi,hz0,hz1,hz2⟩:=info_parts Tryz.Builder_Extra_169.infoByte
  go_enter Tryz.func70,Tryz.ntmps70
  go_wp2_with (go_at_call 114;refine (bc_k B b bs _ h).mono ?_)
  rintro e w1 ⟨rfl,h1,hb1,hk1⟩
  obtain ⟨hB,v,hbk,hown,hne⟩:=h1
  have c0:w1.cell? ⟨b,0,none⟩=some (.pointer (some ⟨b,0,none⟩)):=by rw [Lib.cell_of_heap hbk];rfl
  have c1:w1.cell? ⟨b,1,none⟩=some v:=by rw [Lib.cell_of_heap hbk];rfl
  go_wp2_with (at_builtin;refine Lib.wpList_append_own_stringF _ rfl _ _ 23 9 rfl B 5 i0 Tryz.underlying23 Tryz.underlying9 hi hz0 hz1 hz2 _ _ _ rfl hown s rfl ?c3 ?c4 ?c5 ?_)
  case c3=>unfold maxLen;omega
  case c4=>omega
  case c5=>have:=hb1.size;omega
  intro v' w2 hown' hgrow _
  have hlt:b<w1.heap.size:=by
    rcases Nat.lt_or_ge b w1.heap.size with h'|h'
    · exact h'
    · simp [Array.getElem?_eq_none h'] at hbk
  have hb2:w2.heap[b]? = some (.cells #[.pointer (some ⟨b,0,none⟩),v] 123 (0,0)):=by
    rw [hgrow.block b hlt (fun e=>hne e.symm)]
    exact hbk
  have d0:w2.cell? ⟨b,0,none⟩=some (.pointer (some ⟨b,0,none⟩)):=by rw [Lib.cell_of_heap hb2];rfl
  have d1:w2.cell? ⟨b,1,none⟩=some v:=by rw [Lib.cell_of_heap hb2];rfl
  have f1:w2.frozen? ⟨b,1,none⟩=false:=Lib.frozen_of_heap hb2 1
  obtain ⟨ao,n',cap,rfl⟩:∃ ao n' cap,v'=.slice ao n' cap:=by
    rcases hown'.2 with ⟨hv,_⟩|⟨g,cap,cur,fz,hv,_⟩
    · exact ⟨_,_,_,hv⟩
    · exact ⟨_,_,_,hv⟩
  go_wp2
  go_ret2
  refine ⟨rfl,?_,?_,(hk1.grown hgrow (Lib.ownsRowF_kind hown)).setCell ⟨b,1,none⟩ rfl _⟩
  · exact Lib.BuilderAtF.put (T:=123) (e:=5) hB hb2 (bs':=bs++Lib.strCells s) (by simpa [Lib.strCells_length] using hown') Tryz.Builder_Extra_169.neB5
  · exact (hb1.grown hgrow (by have:=hb1.size;omega) (fun k hk=>(hown.lt k hk).1)).setCell (p:=⟨b,1,none⟩) hB _
end Cod
namespace Cod
open Go Go.RowKit Go.Proofs Go.Shelf
set_option maxRecDepth 1000000
theorem Z1m (i:Nat) (h:i<16):∀ W,(Instr.index 9 (.string ⟨#[48,49,50,51,52,53,54,55,56,57,97,98,99,100,101,102]⟩) (.int .u8 (i:Int))).run Tryz.prog W=.ok (.int .u8 (Zgv i).toNat) W:=by
  intro W
  rw [run_index_string W 9 _ .u8 _ Tryz.underlying9,dif_pos ⟨by omega,by show (i:Int)<16;omega⟩]
  have:∀ j:Fin 16,∀ h,((⟨#[48,49,50,51,52,53,54,55,56,57,97,98,99,100,101,102]⟩:ByteArray)[((j.val:Nat):Int).toNat]'h)=Zgv j.val:=by decide
  rw [this ⟨i,h⟩]
theorem and15 (x:UInt8):bits .and .u8 (x.toNat:Int) 15=((x.toNat%16:Nat):Int):=by
  have key:∀ n:Nat,n<256→bits .and .u8 (n:Int) 15=((n%16:Nat):Int):=by decide +kernel
  exact key _ x.toNat_lt
set_option maxHeartbeats 4000000 in
theorem Zmq {id:List UInt8} (hid:id.length=32) {w:World} :
    Calls Tryz.prog 59 #[.agg (Lib.byteCells id).toArray] w fun e w'=>e=.returned (.string ⟨(M0 id).toArray⟩)∧Below w.heap.size w w':=by
  have hi35:(Tryz.prog.info? 35).map (·.size)=some (Lib.byteCells id).length:=by rw [Lib.byteCells_length,hid];kernel_rfl
  go_enter Tryz.func59,Tryz.ntmps59
  go_upto_region 3 with (refine wpList_load_mid rfl 35 _ rfl w.heap.size 0 (by rfl) (Lib.byteCells id) _ ?_ Tryz.underlying35 rfl hi35 ?_)
  · intro j v hj
    have hh:((w.alloc (Obj.cells (Lib.byteCells id).toArray 35)).alloc (Obj.cells #[Value.pointer none,Value.slice none 0 0] 123)).heap[w.heap.size]? = some (.cells (Lib.byteCells id).toArray 35):=(Lib.alloc_old _ _ _ (by simp)).trans (heap_alloc_new _ _)
    rw [Lib.cell_of_heap hh]
    simpa using hj
  · have hb0:Lib.BuilderAtF 123 5 w.heap.size (w.heap.size+1) (.pointer none) [] ((w.alloc (Obj.cells (Lib.byteCells id).toArray 35)).alloc (Obj.cells #[Value.pointer none,Value.slice none 0 0] 123)):=by
      refine ⟨by omega,.slice none 0 0,?_,World.ownsRowF_nil _ _ _ _,by simp [Value.ownBlock]⟩
      have:=heap_alloc_new (w.alloc (Obj.cells (Lib.byteCells id).toArray 35)) (Obj.cells #[Value.pointer none,Value.slice none 0 0] 123)
      simpa using this
    have hbel:Below w.heap.size w ((w.alloc (Obj.cells (Lib.byteCells id).toArray 35)).alloc (Obj.cells #[Value.pointer none,Value.slice none 0 0] 123)):=((Below.refl _ w).alloc (Yr4 _) _).alloc (by simp) _
    have hsz:w.heap.size≤((w.alloc (Obj.cells (Lib.byteCells id).toArray 35)).alloc (Obj.cells #[Value.pointer none,Value.slice none 0 0] 123)).heap.size:=hbel.size
    generalize ((w.alloc (Obj.cells (Lib.byteCells id).toArray 35)).alloc (Obj.cells #[Value.pointer none,Value.slice none 0 0] 123))=W1 at *
    go_loopw [7] (fun i wr=>∃ k:Nat,i=.int .i64 k∧k≤32∧Lib.IsBuilderF 123 5 w.heap.size (w.heap.size+1) (Lib.byteCells (M0 (id.take k))) wr∧Below w.heap.size w wr) (fun i _=>32-(intOf i).toNat)
    case atStart=>exact ⟨0,rfl,by omega,.inl hb0,hbel⟩
    case round =>
      obtain ⟨k,rfl,hk,hI,hbw⟩:=hrel
      by_cases hlt:k<32
      · have hx:(Lib.byteCells id)[k]? = some (.int .u8 (id.getD k 0).toNat):=by
          rw [Lib.byteCells,List.getElem?_map,List.getElem?_eq_getElem (by omega)]
          simp [List.getD,show k<id.length by omega]
        have hT:id.take (k+1)=id.take k++[id.getD k 0]:=by
          rw [Yvd (by omega)]
          simp [List.getD,show k<id.length by omega]
        generalize id.getD k 0=x at hx hT
        have hix:∀ W,(Instr.index 35 (.agg (Lib.byteCells id).toArray) (.int .i64 (k:Int))).run Tryz.prog W=.ok (.int .u8 x.toNat) W:=fun W=>by
          simp [Instr.index,run_underlying Tryz.underlying35,asIntOf,hlt,hx,go_sem]
        have hd1:=Z1m (x.toNat/16) (by have:=x.toNat_lt;omega)
        have hd2:=Z1m (x.toNat%16) (by omega)
        rw [←and15] at hd2
        simp only [Int.natCast_ediv,Yuk] at hd1
        have hl:(M0 (id.take k)).length=2*k:=by
          rw [V1,Ysb];omega
        have hl1:(Lib.byteCells (M0 (id.take k))).length+1≤140737488355328:=by rw [Lib.byteCells_length];omega
        go_wp2_with (go_at_call 102;refine (Ylu _ _ _ _ _ hI hl1 hbw.size).mono ?_)
        rintro e W2 ⟨rfl,hA,hb2,_⟩
        have hl2:(Lib.byteCells (M0 (id.take k))++[Value.int .u8 (Zgv (x.toNat/16)).toNat]).length+1≤140737488355328:=by rw [Ysv,Lib.byteCells_length,List.length_singleton];omega
        go_wp2_with (go_at_call 102;refine (Ylu _ _ _ _ _ (.inr hA) hl2 (Yr5 hbw.size hb2.size)).mono ?_)
        rintro e W3 ⟨rfl,hA3,hb3,_⟩
        go_wp2
        refine ⟨⟨k+1,rfl,by omega,.inr ?_,(hbw.trans hb2).trans hb3⟩,by simp [intOf];omega⟩
        rw [hT]
        unfold M0 at hA3 ⊢
        rw [Yvg]
        simpa [hexB,Lib.byteCells] using hA3
      · obtain rfl:k=32:=by omega
        have hne:M0 (id.take 32)=M0 id:=by rw [List.take_of_length_le (by omega)]
        rw [hne] at hI
        go_wp2_with (go_at_call 71;refine (Tryz.Builder_String_any_k _ _ _ _ hI hbw.size).mono ?_)
        rintro e W2 ⟨rfl,_,hb2,_⟩
        go_wp2
        go_ret
        exact ⟨rfl,hbw.trans hb2⟩
end Cod
namespace Cod
open Go Go.RowKit Go.Proofs Go.Shelf
set_option maxRecDepth 1000000
def whoT (i:Idt):List UInt8:=if D7 i=true then H1 i else []
theorem Yrf {i:Idt}:S E F.Zaa [.agg i.cells] []=some (.tup [.str (whoT i),.int .i64 (idE i)],[]):=by
  rw [Yli]
  unfold Z0w whoT idE
  cases D7 i<;>rfl
def Zpy (i:Idt):List Value:=[.string ⟨i.name.toArray⟩,.string ⟨i.email.toArray⟩,.int .i64 i.time,.int .i64 i.zone]
theorem Zr9 {i:Idt} {w:World} (hW:Za5 w) :
    Calls Tryz.prog 53 #[.agg (Zpy i).toArray] w fun e w'=>e=.returned (.tuple #[.string ⟨(whoT i).toArray⟩,.int .i64 (idE i)])∧Below w.heap.size w w' :=
  Zin Tryz.func53 (by rfl) (by kernel_rfl) (Yrf (i:=i)) hW (vs:=[.agg (Zpy i).toArray]) (by simp [VRL,VR,Idt.cells,Zpy]) (fun c z hz=>by
    simp only [VR,VRL] at hz
    obtain ⟨vs,rfl,_,_,h1,rfl,_,_,h2,rfl,h3⟩:=hz
    have:vs = #[.string ⟨(whoT i).toArray⟩,.int .i64 (idE i)]:=by
      apply Array.ext'
      rw [h1,h2,h3]
    rw [this])
theorem Ydu {m:List UInt8} (hm:m.length≤1000000000) {w:World} (hW:Za5 w) :
    Calls Tryz.prog 58 #[.string ⟨m.toArray⟩] w fun e w'=>e=.returned (.int .i64 (Ze6 m))∧Below w.heap.size w w' :=
  Zin Tryz.func58 (by rfl) (by kernel_rfl) (Zpp hm) hW (vs:=[.string ⟨m.toArray⟩]) (by simp [VRL,VR]) (fun c z hz=>by simpa [VR] using hz)
theorem Z6j {b:Bool} {n:Int} {w:World} (hW:Za5 w) :
    Calls Tryz.prog 56 #[.bool b,.int .i64 n] w fun e w'=>e=.returned (.int .i64 (if b=true then n else 0))∧Below w.heap.size w w' :=
  Zin Tryz.func56 (by rfl) (by kernel_rfl) (R4 (b:=b) (e:=n)) hW (vs:=[.bool b,.int .i64 n]) (by simp [VRL,VR]) (fun c z hz=>by simpa [VR] using hz)
theorem Z1n {a b c d:Int} {g:Nat} {w:World} (hW:Za5 w) (hg:g<w.heap.size) (h0:w.cell? ⟨g,0,none⟩=some (.int .i64 a)) (h1:w.cell? ⟨g,1,none⟩=some (.int .i64 b)) (h2:w.cell? ⟨g,2,none⟩=some (.int .i64 c)) (h3:w.cell? ⟨g,3,none⟩=some (.int .i64 d)) :
    Calls Tryz.prog 55 #[.slice (some ⟨g,0,none⟩) 4 4] w fun e w'=>e=.returned (.int .i64 (Y7 [a,b,c,d]))∧Below w.heap.size w w' :=
  Zin Tryz.func55 (by rfl) (by kernel_rfl) (Zr6 (a:=a) (b:=b) (c:=c) (d:=d)) hW (vs:=[.slice (some ⟨g,0,none⟩) 4 4]) (by
    simp only [VRL]
    refine ⟨_,_,rfl,?_,rfl⟩
    simp only [VR]
    refine ⟨rfl,.inr ⟨g,0,4,rfl,Yr4 _,hg,?_,?_⟩⟩
    · rintro (⟨s,e,o,he,_⟩|h)
      · simp [C9] at he
      · exact h.elim
    · simp only [VRC,VR]
      exact ⟨⟨_,h0,rfl⟩,⟨_,h1,rfl⟩,⟨_,h2,rfl⟩,⟨_,h3,rfl⟩,trivial⟩) (fun c z hz=>by simpa [VR] using hz)
def Zlq (s:Snap) (x:Value):List Value:=Lib.byteCells s.tree++([x]++Zpy s.aut++Zpy s.com++[.string ⟨s.msg.toArray⟩])
theorem Ydv (s:Snap) (x:Value):(Zlq s x).length=42:=by
  unfold Zlq
  rw [Ysv,Lib.byteCells_length,s.ht];rfl
theorem Ydw (s:Snap) (x:Value) (i:Nat):(Zlq s x)[32+i]? = ([x]++Zpy s.aut++Zpy s.com++[Value.string ⟨s.msg.toArray⟩])[i]? := by
  unfold Zlq
  rw [List.getElem?_append_right (by rw [Lib.byteCells_length,s.ht];omega),Lib.byteCells_length,s.ht,Nat.add_sub_cancel_left]
end Cod
namespace Cod
open Go Go.RowKit Go.Proofs Go.Shelf
set_option maxRecDepth 1000000
theorem Ydx (l:List UInt8):(Lib.byteCells l).toArray.all (·.oneCell')=true:=by
  rw [Yve]
  intro v hv
  exact Ziw l v (by simpa using hv)
def Z6k (w:World) (B:Nat) (v:Value) (n:Nat) (xs:List Value):Prop:=∃ g cap cur el fr,v=.slice (some ⟨g,0,none⟩) n cap∧B≤g∧w.heap[g]? = some (.cells cur el fr)∧(fr.1=fr.2∨cur.size≤fr.1)∧n≤cap∧cur.size=cap∧cur.toList.take n=xs
theorem Ylv {w:World} {B:Nat} (hB:B≤w.heap.size) (e:TypeId) (l:List UInt8):Z6k (Lib.bytesWorld w e ⟨l.toArray⟩) B (.slice (some ⟨w.heap.size,0,none⟩) (⟨l.toArray⟩:ByteArray).size (grownCap w (⟨l.toArray⟩:ByteArray).size 0 e)) l.length (l.map fun b=>Value.int .u8 b.toNat)∧Below w.heap.size w (Lib.bytesWorld w e ⟨l.toArray⟩):=by
  have hz:(⟨l.toArray⟩:ByteArray).size=l.length:=by simp [ByteArray.size]
  have hcap:=grownCap_ge w l.length 0 e
  rw [hz]
  have hsz:(Lib.bytesCells w e ⟨l.toArray⟩).size=grownCap w l.length 0 e:=by
    unfold Lib.bytesCells
    rw [hz,Array.size_append,Array.size_map,Array.size_replicate,Ysd]
    omega
  refine ⟨⟨w.heap.size,grownCap w l.length 0 e,_,e,_,rfl,hB,Lib.bytesWorld_at_new w e _,.inr (Yr4 _),hcap,hsz,?_⟩,?_⟩
  · unfold Lib.bytesCells
    rw [Yvh,Array.toList_map]
    exact List.take_left' (by simp)
  · exact ⟨rfl,rfl,rfl,by rw [Lib.bytesWorld_size];omega,fun k hk=>Lib.bytesWorld_at_old w e _ k hk⟩
theorem Zpz {T e:TypeId} {B b:Nat} {bs:List Value} {W W':World} (h:Lib.IsBuilderF T e B b bs W) (hb:Below W.heap.size W W'):Lib.IsBuilderF T e B b bs W':=by
  have lt:∀ {k o},W.heap[k]? = some o→k<W.heap.size:=fun h=>(Array.getElem?_eq_some_iff.1 h).1
  have key:∀ p,Lib.BuilderAtF T e B b p bs W→Lib.BuilderAtF T e B b p bs W':=by
    rintro p ⟨hB,v,hv,⟨hl,hr⟩,hne⟩
    refine ⟨hB,v,(hb.block b (lt hv)).trans hv,⟨hl,?_⟩,hne⟩
    rcases hr with hr|⟨g,cap,cur,fz,q1,q2,q3,q4⟩
    · exact .inl hr
    · exact .inr ⟨g,cap,cur,fz,q1,q2,(hb.block g (lt q3)).trans q3,q4⟩
  exact h.elim (fun x=>.inl (key _ x)) fun x=>.inr (key _ x)
set_option maxHeartbeats 6400000 in
theorem Z6l {s:Snap} (hs:Zpu s) {p:Option Addr} {b0 o0 cap:Nat} {w:World} (hW:Za5 w) (hp:0<s.par.length→p=some ⟨b0,o0,none⟩) (hrow:∀ k,k<s.par.length→w.rangeAt b0 (o0+k*32) (Lib.byteCells (iat s.par k).b)) (hb0:0<s.par.length→b0<w.heap.size) :
    Calls Tryz.prog 22 #[.agg (Zlq s (.slice p s.par.length cap)).toArray] w fun e w'=>Below w.heap.size w w'∧((Zfn s≠0∧e=.returned (.tuple #[.slice none 0 0,.int .i64 (Zfn s)]))∨(Zfn s=0∧∃ v,e=.returned (.tuple #[v,.int .i64 0])∧Z6k w' w.heap.size v (Zbt s).length ((Zbt s).map fun b=>Value.int .u8 b.toNat))):=by
  have hi42:(Tryz.prog.info? 47).map (·.size)=some 42:=by kernel_rfl
  have hg:=Ydw s (.slice p s.par.length cap)
  have hl:=Ydv s (.slice p s.par.length cap)
  have hg0:∀ (j:Nat) v,(Lib.byteCells s.tree)[j]? = some v→(Zlq s (.slice p s.par.length cap))[j]? = some v:=by
    intro j v hj
    unfold Zlq
    rw [List.getElem?_append_left (List.getElem?_eq_some_iff.1 hj).1]
    exact hj
  generalize Zlq s (.slice p s.par.length cap)=vals at *
  go_enter Tryz.func22,Tryz.ntmps22
  go_upto_region 1 with fail
  have hcell:∀ (j:Nat) v,vals[j]? = some v→(w.alloc (Obj.cells vals.toArray 47)).cell? ⟨w.heap.size,j,none⟩=some v:=by
    intro j v hj
    rw [Lib.cell_of_heap (heap_alloc_new w _)]
    simpa using hj
  have hb0w:Below w.heap.size w (w.alloc (Obj.cells vals.toArray 47)):=(Below.refl _ w).alloc (Yr4 _) _
  have hn0:w.heap.size<(w.alloc (Obj.cells vals.toArray 47)).heap.size:=by
    show w.heap.size<(w.heap.push _).size
    rw [Yvf];omega
  generalize (w.alloc (Obj.cells vals.toArray 47))=W0 at *
  have hS0:Za5 W0:=hW.below hb0w
  have c32:=hcell 32 _ (hg 0)
  have c33:=hcell 33 _ (hg 1)
  have c34:=hcell 34 _ (hg 2)
  have c35:=hcell 35 _ (hg 3)
  have c36:=hcell 36 _ (hg 4)
  have c37:=hcell 37 _ (hg 5)
  have c38:=hcell 38 _ (hg 6)
  have c39:=hcell 39 _ (hg 7)
  have c40:=hcell 40 _ (hg 8)
  have c41:=hcell 41 _ (hg 9)
  have crow:∀ (j:Nat) v,(Lib.byteCells s.tree)[j]? = some v→W0.cell? ⟨w.heap.size,j,none⟩=some v:=fun j v h=>hcell j v (hg0 j v h)
  clear hcell hg hg0 hl hi42
  go_upto_region 2 with (go_at_call 53;refine (Zr9 (i:=s.aut) hS0).mono ?_;rintro e W1 ⟨rfl,hb1⟩)
  have k1:∀ {j v},W0.cell? ⟨w.heap.size,j,none⟩=some v→W1.cell? ⟨w.heap.size,j,none⟩=some v:=fun {j v} h=>(hb1.cell (p:=⟨w.heap.size,j,none⟩) hn0).trans h
  have d32:=k1 c32
  have d37:=k1 c37
  have d38:=k1 c38
  have d39:=k1 c39
  have d40:=k1 c40
  have d41:=k1 c41
  go_upto_region 3 with (go_at_call 53;refine (Zr9 (i:=s.com) (hS0.below hb1)).mono ?_;rintro e W2 ⟨rfl,hb2⟩)
  have k2:∀ {j v},W1.cell? ⟨w.heap.size,j,none⟩=some v→W2.cell? ⟨w.heap.size,j,none⟩=some v:=fun {j v} h=>(hb2.cell (p:=⟨w.heap.size,j,none⟩) (Yr6 hn0 hb1.size)).trans h
  have hS2:Za5 W2:=(hS0.below hb1).below hb2
  have hn2:w.heap.size<W2.heap.size:=Yr6 hn0 (Yr5 hb1.size hb2.size)
  have hS2d:Za5 W2.drew:=hS2.below ⟨rfl,rfl,rfl,Yr4 _,fun _ _=>rfl⟩
  have e32:=k2 d32
  have e41:=k2 d41
  have e32d:W2.drew.cell? ⟨w.heap.size,32,none⟩=some (.slice p s.par.length cap):=e32
  have e41d:W2.drew.cell? ⟨w.heap.size,41,none⟩=some (.string ⟨s.msg.toArray⟩):=e41
  obtain ⟨E1,hE1⟩:∃ E1:Int,(if decide (16<(s.par.length:Int))=true then (2:Int) else 0)=E1:=⟨_,rfl⟩
  have hwh:∀ {W:World},Za5 W→Calls Tryz.prog 56 #[.bool (decide (16<(s.par.length:Int))),.int .i64 2] W fun e w'=>e=.returned (.int .i64 E1)∧Below W.heap.size W w':=fun h=>by rw [←hE1];exact Z6j h
  have hcm:Y7 [E1,Ze6 s.msg,idE s.aut,idE s.com]=Zfn s:=by rw [←hE1];rfl
  go_cut [8] from 24 (fun s8 wc=>s8=.int .i64 (Zfn s)∧Below W2.heap.size W2 wc)
  case first =>
    go_region_with (first
      | (go_at_call 56;refine (hwh hS2d).mono ?_;rintro e W3 ⟨rfl,hb3⟩;have hS3:Za5 W3:=hS2d.below hb3;have f41:W3.cell? ⟨w.heap.size,41,none⟩=some (.string ⟨s.msg.toArray⟩):=(hb3.cell (p:=⟨w.heap.size,41,none⟩) hn2).trans e41d)
      | (go_at_call 58;refine (Ydu hs.2 hS3).mono ?_;rintro e W4 ⟨rfl,hb4⟩;have hS4:Za5 W4:=hS3.below hb4)
      | (go_at_call 55;refine (Z1n (g:=W4.heap.size) (hS4.below ((Below.refl _ W4).alloc (Yr4 _) _)) (by show _<(W4.heap.push _).size;rw [Yvf];omega) (by rw [Lib.cell_of_heap (heap_alloc_new W4 _)];rfl) (by rw [Lib.cell_of_heap (heap_alloc_new W4 _)];rfl) (by rw [Lib.cell_of_heap (heap_alloc_new W4 _)];rfl) (by rw [Lib.cell_of_heap (heap_alloc_new W4 _)];rfl)).mono ?_;rintro e W5 ⟨rfl,hb5⟩))
    all_goals go_wp2
    all_goals go_meet
    all_goals
      refine ⟨rfl,?_⟩
      have x3:Below W2.heap.size W2 W3:=⟨hb3.os,hb3.tape,hb3.output,hb3.size,hb3.block⟩
      have x4:=x3.trans (L5 hb4 x3.size)
      have x5:∀ o,Below W2.heap.size W2 (W4.alloc o):=fun o=>x4.trans (L5 ((Below.refl _ W4).alloc (Yr4 _) o) x4.size)
      exact (x5 _).trans (L5 hb5 (x5 _).size)
  case rest =>
    obtain ⟨rfl,hb5⟩:=hcut
    clear hE1 hwh hcm
    have k5:∀ {j v},W2.cell? ⟨w.heap.size,j,none⟩=some v→wc.cell? ⟨w.heap.size,j,none⟩=some v:=fun {j v} h=>(hb5.cell (p:=⟨w.heap.size,j,none⟩) hn2).trans h
    have g32:=k5 e32
    have g41:=k5 e41
    have grow:∀ (j:Nat) v,(Lib.byteCells s.tree)[j]? = some v→wc.cell? ⟨w.heap.size,j,none⟩=some v:=fun j v h=>k5 (k2 (k1 (crow j v h)))
    have hnc:w.heap.size<wc.heap.size:=Yr6 hn2 hb5.size
    by_cases he:Zfn s=0
    · obtain ⟨hp16,hm16,hia,hic⟩:=Zgy he
      have hwa:whoT s.aut=H1 s.aut:=if_pos hia
      have hwc:whoT s.com=H1 s.com:=if_pos hic
      have hla:=Zan hia
      have hlc:=Zan hic
      rw [hwa,hwc]
      go_upto_region 7 with fail
      have hbw:Lib.BuilderAtF 123 5 wc.heap.size wc.heap.size (.pointer none) [] (wc.alloc (Obj.cells #[Value.pointer none,Value.slice none 0 0] 123)):=by
        refine ⟨Yr4 _,.slice none 0 0,?_,World.ownsRowF_nil _ _ _ _,by simp [Value.ownBlock]⟩
        have:=heap_alloc_new wc (Obj.cells #[Value.pointer none,Value.slice none 0 0] 123)
        simpa using this
      have hb6:Below wc.heap.size wc (wc.alloc (Obj.cells #[Value.pointer none,Value.slice none 0 0] 123)):=(Below.refl _ wc).alloc (Yr4 _) _
      generalize (wc.alloc (Obj.cells #[Value.pointer none,Value.slice none 0 0] 123))=W6 at *
      have k6:∀ {j v},wc.cell? ⟨w.heap.size,j,none⟩=some v→W6.cell? ⟨w.heap.size,j,none⟩=some v:=fun {j v} h=>(hb6.cell (p:=⟨w.heap.size,j,none⟩) hnc).trans h
      have hr6:W6.rangeAt w.heap.size 0 (Lib.byteCells s.tree):=fun j v hj=>by rw [Ysy];exact k6 (grow j v hj)
      have hi35:∀ d:List UInt8,d.length=32→(Tryz.prog.info? 35).map (·.size)=some (Lib.byteCells d).length:=fun d hd=>by rw [Lib.byteCells_length,hd];kernel_rfl
      obtain ⟨T1,hT1⟩:∃ T1:ByteArray,T1=⟨(M0 s.tree).toArray⟩:=⟨_,rfl⟩
      have z1:T1.size=64:=by rw [hT1];show (M0 s.tree).toArray.size=64;rw [Ysd,V1,s.ht]
      have hex1:∀ W,Calls Tryz.prog 59 #[.agg (Lib.byteCells s.tree).toArray] W fun e w'=>e=.returned (.string T1)∧Below W.heap.size W w':=fun W=>by rw [hT1];exact Zmq s.ht
      have t1:T1.data.toList=M0 s.tree:=by rw [hT1]
      clear hT1
      have g1:¬ 9223372036854775807<5+T1.size:=by omega
      have g2:¬ 9223372036854775807<5+T1.size+1:=by omega
      go_upto_region 8 with (first
        | (refine wpList_load_mid rfl 35 _ rfl w.heap.size 0 (by rfl) (Lib.byteCells s.tree) _ hr6 Tryz.underlying35 rfl (hi35 _ s.ht) ?_)
        | (go_at_call 59;refine (hex1 W6).mono ?_;rintro e W7 ⟨rfl,hb7⟩;have hI7:=Zpz (show Lib.IsBuilderF 123 5 wc.heap.size wc.heap.size [] W6 from .inl hbw) hb7)
        | (go_at_call 70;refine (Zpx wc.heap.size wc.heap.size [] _ W7 hI7 (by rw [Yth];simp only [ByteArray.size_append,z1];decide) (Yr5 hb6.size hb7.size)).mono ?_;rintro e W8 ⟨rfl,hA8,hb8,_⟩))
      obtain ⟨TB,hTB⟩:∃ TB:List UInt8,TB=Znn++[32]++M0 s.tree++[10]:=⟨_,rfl⟩
      have hI8:Lib.IsBuilderF 123 5 wc.heap.size wc.heap.size (Lib.byteCells TB) W8:=by
        right
        have e:([]:List Value)++Lib.strCells (⟨#[116,114,101,101,32]⟩++T1++⟨#[10]⟩)=Lib.byteCells TB:=by
          rw [Ytw,hTB,←t1]
          simp [Lib.strCells,Lib.byteCells,ByteArray.data_append,Znn]
        rw [←e];exact hA8
      have hlTB:TB.length=70:=by rw [hTB];simp [Znn,V1,s.ht]
      have hbw8:Below wc.heap.size wc W8:=(hb6.trans (L5 hb7 hb6.size)).trans hb8
      have c8:W8.cell? ⟨w.heap.size,32,none⟩=some (.slice p s.par.length cap):=(hbw8.cell (p:=⟨w.heap.size,32,none⟩) hnc).trans g32
      clear hA8 hbw hI7 hr6 hex1 hb7 hb8
      have hww:Below w.heap.size w wc:=((hb0w.trans (L5 hb1 hb0w.size)).trans (L5 hb2 (Yr5 hb0w.size hb1.size))).trans (L5 hb5 (Yr5 hb0w.size (Yr5 hb1.size hb2.size)))
      go_wp2
      go_loopw [48] (fun i wr=>∃ k:Nat,i=.int .i64 k∧k≤s.par.length∧Lib.IsBuilderF 123 5 wc.heap.size wc.heap.size (Lib.byteCells (TB++Zc7 (s.par.take k))) wr∧Below wc.heap.size wc wr) (fun i _=>s.par.length-(intOf i).toNat)
      case atStart=>exact ⟨0,rfl,Nat.zero_le _,by rw [List.take_zero,Ze3,Yuh];exact hI8,hbw8⟩
      case round =>
        obtain ⟨k,rfl,hk,hI,hbw⟩:=hrel
        by_cases hlt:k<s.par.length
        · obtain rfl:=hp (by omega)
          have hb0:=hb0 (by omega)
          have hrange:wr.rangeAt b0 (o0+k*32) (Lib.byteCells (iat s.par k).b):=fun j v hj=>(hbw.cell (p:=⟨b0,o0+k*32+j,none⟩) (Yr6 hb0 hww.size)).trans ((hww.cell (p:=⟨b0,o0+k*32+j,none⟩) hb0).trans (hrow k hlt j v hj))
          have hlen32:(Lib.byteCells (iat s.par k).b).length=32:=by rw [Lib.byteCells_length];exact (iat s.par k).h
          go_upto_region 11 with (first|(refine wpList_load_mid rfl 35 _ rfl b0 (o0+k*32) (by first|rfl|simp [Addr.add_mid]) (Lib.byteCells (iat s.par k).b) _ hrange Tryz.underlying35 rfl (hi35 _ (iat s.par k).h) ?_)|(refine wpList_store_mid rfl 35 _ _ rfl wr.heap.size 0 (Lib.byteCells (iat s.par k).b).toArray (by rfl) (by rfl) ?_ ?_ (Ydx _) ?_))
          · intro j hj
            first|rw [Ysd,hlen32] at hj|rw [hlen32] at hj|skip
            refine ⟨?_,?_⟩
            · simp only [World.cell?,heap_alloc_new]
              rw [if_neg (by simp),Ysy,Array.getElem?_eq_getElem (by simpa using hj)];rfl
            · simp only [World.frozen?,heap_alloc_new]
              simp
          · first
              | (rw [Ysd];exact hi35 _ (iat s.par k).h)
              | (have h0:=hi35 _ (iat s.par k).h;rw [hlen32] at h0;simpa using h0)
          · refine Z1j (p:=Code.wp _ _ _ _) (T:=35) (vals:=Lib.byteCells (iat s.par k).b) (by rw [hlen32];rfl) ?_
            intro W3 hva
            have hI3:=Zpz hI hva.below
            have hr3:W3.rangeAt wr.heap.size 0 (Lib.byteCells (iat s.par k).b):=fun j v hj=>by rw [Ysy];exact hva.cell j v hj
            obtain ⟨T2,hT2⟩:∃ T2:ByteArray,T2=⟨(M0 (iat s.par k).b).toArray⟩:=⟨_,rfl⟩
            have z2:T2.size=64:=by rw [hT2];show (M0 (iat s.par k).b).toArray.size=64;rw [Ysd,V1,(iat s.par k).h]
            have hex2:∀ W,Calls Tryz.prog 59 #[.agg (Lib.byteCells (iat s.par k).b).toArray] W fun e w'=>e=.returned (.string T2)∧Below W.heap.size W w':=fun W=>by rw [hT2];exact Zmq (iat s.par k).h
            have t2:T2.data.toList=M0 (iat s.par k).b:=by rw [hT2]
            clear hT2
            have g3:¬ 9223372036854775807<7+T2.size:=by omega
            have g4:¬ 9223372036854775807<7+T2.size+1:=by omega
            have htl:(Zc7 (s.par.take k)).length=72*k:=by rw [Zpn,Ysb];omega
            go_wp2_with (first
              | (refine wpList_load_mid rfl 35 _ rfl wr.heap.size 0 (by rfl) (Lib.byteCells (iat s.par k).b) _ hr3 Tryz.underlying35 rfl (hi35 _ (iat s.par k).h) ?_)
              | (go_at_call 59;refine (hex2 W3).mono ?_;rintro e W7 ⟨rfl,hb7⟩;have hI7:=Zpz hI3 hb7)
              | (go_at_call 70;refine (Zpx wc.heap.size wc.heap.size _ _ W7 hI7 (by rw [Lib.byteCells_length,Ysv,hlTB,htl];simp only [ByteArray.size_append,z2];have e7:(⟨#[112,97,114,101,110,116,32]⟩:ByteArray).size=7:=rfl;have e1:(⟨#[10]⟩:ByteArray).size=1:=rfl;omega) (Yr5 hbw.size (Yr5 hva.below.size hb7.size))).mono ?_;rintro e W8 ⟨rfl,hA8,hb8,_⟩))
            go_roundw
            case measure=>first|(simp only [intOf];omega)|(rw [Zfj (by omega)];simp only [intOf];omega)
            refine ⟨k+1,by first|rfl|(rw [Zfj (by omega)]),by omega,.inr ?_,((hbw.trans (L5 hva.below hbw.size)).trans (L5 hb7 (Yr5 hbw.size hva.below.size))).trans hb8⟩
            have e:Lib.byteCells (TB++Zc7 (s.par.take k))++Lib.strCells (⟨#[112,97,114,101,110,116,32]⟩++T2++⟨#[10]⟩)=Lib.byteCells (TB++Zc7 (s.par.take (k+1))):=by
              have hts:s.par.take (k+1)=s.par.take k++[iat s.par k]:=by rw [Yvd hlt];simp [iat,List.getD,hlt]
              rw [hts,Yde,←t2]
              simp [Lib.strCells,Lib.byteCells,ByteArray.data_append,Z04]
            rw [←e];exact hA8
        · obtain rfl:k=s.par.length:=by omega
          rw [Yvi] at hI
          have r41:wr.cell? ⟨w.heap.size,41,none⟩=some (.string ⟨s.msg.toArray⟩):=(hbw.cell (p:=⟨w.heap.size,41,none⟩) hnc).trans g41
          have htl:=Zpn s.par
          have q1:¬ 9223372036854775807<7+(H1 s.aut).length:=by omega
          have q2:¬ 9223372036854775807<7+(H1 s.aut).length+11:=by omega
          have q3:¬ 9223372036854775807<7+(H1 s.aut).length+11+(H1 s.com).length:=by omega
          have q4:¬ 9223372036854775807<7+(H1 s.aut).length+11+(H1 s.com).length+2:=by omega
          have q5:¬ 9223372036854775807<7+(H1 s.aut).length+11+(H1 s.com).length+2+s.msg.length:=by omega
          have za:(⟨(H1 s.aut).toArray⟩:ByteArray).size=(H1 s.aut).length:=by simp [ByteArray.size]
          have zc:(⟨(H1 s.com).toArray⟩:ByteArray).size=(H1 s.com).length:=by simp [ByteArray.size]
          have zm:(⟨s.msg.toArray⟩:ByteArray).size=s.msg.length:=by simp [ByteArray.size]
          have y7:(⟨#[97,117,116,104,111,114,32]⟩:ByteArray).size=7:=rfl
          have y11:(⟨#[10,99,111,109,109,105,116,116,101,114,32]⟩:ByteArray).size=11:=rfl
          have y2:(⟨#[10,10]⟩:ByteArray).size=2:=rfl
          go_upto_region 14 with (go_at_call 70;refine (Zpx wc.heap.size wc.heap.size _ _ wr hI (by rw [Lib.byteCells_length,Ysv,hlTB,htl];simp only [ByteArray.size_append,za,zc,zm,y7,y11,y2];omega) hbw.size).mono ?_;rintro e W8 ⟨rfl,hA8,hb8,_⟩)
          have hI9:Lib.IsBuilderF 123 5 wc.heap.size wc.heap.size (Lib.byteCells (Zbt s)) W8:=by
            right
            have e:Lib.byteCells (TB++Zc7 s.par)++Lib.strCells (⟨#[97,117,116,104,111,114,32]⟩++⟨(H1 s.aut).toArray⟩++⟨#[10,99,111,109,109,105,116,116,101,114,32]⟩++⟨(H1 s.com).toArray⟩++⟨#[10,10]⟩++⟨s.msg.toArray⟩)=Lib.byteCells (Zbt s):=by
              unfold Zbt
              rw [←hTB]
              simp [Lib.strCells,Lib.byteCells,ByteArray.data_append,Zgx,Zg5]
            rw [←e];exact hA8
          clear hA8
          go_wp2_with (go_at_call 71;refine (Tryz.Builder_String_any_k _ _ _ _ hI9 (Yr5 hbw.size hb8.size)).mono ?_;rintro e W9 ⟨rfl,_,hb9,_⟩)
          obtain ⟨hnew,hbc⟩:=Ylv (w:=W9) (B:=w.heap.size) (Yr5 hww.size (Yr5 hbw.size (Yr5 hb8.size hb9.size))) 5 (Zbt s)
          rw [Lib.run_convert_string_bytes W9 9 23 5 _ Tryz.underlying9 Tryz.underlying23 Tryz.underlying5]
          have hz:(⟨(Zbt s).toArray⟩:ByteArray).size=(Zbt s).length:=by simp [ByteArray.size]
          generalize Lib.bytesWorld W9 5 ⟨(Zbt s).toArray⟩=WA at *
          generalize grownCap W9 (⟨(Zbt s).toArray⟩:ByteArray).size 0 5=CA at *
          simp only [Result.andThen]
          go_wp2
          go_ret2
          refine ⟨((((hww.trans (L5 hbw hww.size)).trans (L5 hb8 hww.size)).trans (L5 hb9 hww.size))).trans (L5 hbc (Yr5 hww.size (Yr5 hbw.size (Yr5 hb8.size hb9.size)))),.inr ⟨he,_,rfl,?_⟩⟩
          exact hnew
    · go_wp2
      go_ret2
      exact ⟨((hb0w.trans (L5 hb1 hb0w.size)).trans (L5 hb2 (Yr5 hb0w.size hb1.size))).trans (L5 hb5 (Yr5 hb0w.size (Yr5 hb1.size hb2.size))),.inl ⟨he,rfl⟩⟩
end Cod
namespace Cod
open Go Go.RowKit Go.Proofs
set_option maxRecDepth 100000
theorem Zw5 {c:Ctx}:∀ {l:List UInt8} {vs:List Value},VRL c (A0 l) vs→vs=Lib.byteCells l:=by
  intro l
  induction l with
  | nil=>intro vs h;simpa [A0,VRL,Lib.byteCells] using h
  | cons b l ih =>
    intro vs h
    rw [U2,VRL] at h
    obtain ⟨v,r,rfl,hv,hr⟩:=h
    rw [ih hr]
    simp only [VR] at hv
    rw [hv];rfl
def kHex:List AV→Option AV
  | [.agg cs]=>if Zgn cs=true∧cs.length=32 then (bytesOf cs).map fun l=>.str (M0 l) else none
  | _=>none
theorem ok_hex {E:Env}:Zgq Tryz.prog E F.Zkf kHex:=by
  intro args v vs La w hg hv hr
  unfold kHex at hg
  split at hg
  · rename_i cs
    split at hg
    · rename_i hn
      obtain ⟨l,rfl⟩:=Zk6 hn.1
      rw [Zeh] at hg
      cases hg
      simp only [VRL] at hv
      obtain ⟨x,r,rfl,hx,rfl⟩:=hv
      simp only [VR] at hx
      obtain ⟨ws,rfl,hw⟩:=hx
      have hl:l.length=32:=by have:=hn.2;rwa [D9] at this
      have hws:ws=(Lib.byteCells l).toArray:=by
        have:=Zw5 hw
        rw [←this]
      subst hws
      refine O3 Tryz.func59 (by rfl) (by kernel_rfl) ((Zmq hl).mono fun e w' ⟨he,hb⟩=>?_)
      exact ⟨_,he,fun c=>by simp [VR],hb⟩
    · cases hg
  · cases hg
end Cod

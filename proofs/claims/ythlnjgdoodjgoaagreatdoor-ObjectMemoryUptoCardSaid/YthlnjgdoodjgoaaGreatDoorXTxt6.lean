/- The reference's reading of a commit, as a whole. -/
import Derived.Lib.BufferKept
import Derived.Lib.BufferWrite
import Derived.Lib.VarintMem
import Derived.Laws.BitsLemmas
import Derived.Laws.RangeAny
import Derived.Deep.MidRow
import Derived.Laws.IdiomCopy
import Derived.Deep.Cut
import Derived.Deep.RegionWith
import Derived.Lib.BufferOld
import Derived.Shelf.Strings.BuilderK
import Derived.WalkKit
import Derived.BigCall
import Derived.BigGuard
import Derived.Test.YthlnjgdoodjgoaaGreatDoorXTxt5
import Derived.Test.YthlnjgdoodjgoaaGreatDoorXTxt1
import Derived.Test.YthlnjgdoodjgoaaGreatDoorXTxt3
import Derived.Test.YthlnjgdoodjgoaaGreatDoorXTxt2
import Derived.Test.YthlnjgdoodjgoaaGreatDoorXShelf1
import Derived.Test.YthlnjgdoodjgoaaGreatDoorXTxt4
set_option linter.unusedSimpArgs false
set_option linter.unusedVariables false
open List renaming append_assoc → Yqy, append_nil → Ys4, cons_append → Yp9, drop_eq_getElem_cons → Yr9, drop_length → Yst, drop_zero → Yrp, eq_nil_of_length_eq_zero → Yqu, flatMap_append → Yte, length_append → Yqx, length_cons → Yqm, length_drop → Yqe, length_map → Yru, length_nil → Yrj, length_replicate → Ys6, length_set → Ysd, length_take → Yqd, map_append → Ytd, map_cons → Yqq, map_nil → Ytb, nil_append → Yry, size_toArray → Yqf, take_of_length_le → Yqw, take_succ_eq_append_getElem → Ytc, take_zero → Ys5
open Nat renaming le_refl → Yp6, le_trans → Yp7, lt_of_lt_of_le → Yp8, mul_le_mul_right → Yqv, zero_add → Yq0
open Int renaming cast_ofNat_Int → Ysh, natCast_add → Ysn
open Bool renaming and_false → Ysv, false_and → Ysk, false_or → Ysj, not_eq_true → Yta, not_false → Ysb, not_true → Ysa, or_false → Ytg, true_and → Ysi, true_or → Ytf
open Nat renaming reduceEqDiff → B2, reduceAdd → B3, reduceSub → B4, reduceMul → B5, reduceDiv → B6, reduceMod → B7, reduceBEq → B8, reduceLeDiff → B9, reduceLT → C0
open Int renaming reduceEq → C1, reduceNe → C2, reduceLT → C3, reduceLE → C4, reduceBEq → C5, reduceBNe → C6, reduceToNat → C7, reduceAdd → C8, reduceSub → C9, reduceMul → D0, reduceNeg → A4
namespace Cod
open Go
theorem rq_end {p d t:List UInt8} {ps:List Id32} {v:AV} {σ:A6} (hv:(ps=[]∧v=.nils ∧ σ=[])∨(ps≠[]∧v=.buf (.s 1000000 2) 0 0 (ps).length 32 ∧ σ=[(.s 1000000 2,⟨0,true,true,false,ids (ps)⟩)])) (hd:d.length=32) :
    X E [.cell 2 (some 42),.tmp 3] (.c L.A7.x0::.lp [0,2,4,6,8] L.A7.x0::.blk 0::[.c L.A7.r0]) ⟨[(0,.lst (A1 p) p.length),(2,.ref (.s 1000000 0) 0 0),(4,.ref (.s 1000000 1) 0 0),(6,.str t),(8,.int .i64 17)],[(.s 1000000 0,⟨0,true,true,true,snR Zbf .nils F9 F9 []⟩),(.s 1000000 1,⟨0,true,true,true,snR d (v) F9 F9 []⟩)] ++ σ⟩=X E [.cell 2 (some 42),.tmp 3] [.c L.A7.r0] ⟨[(0,.lst (A1 p) p.length),(2,.ref (.s 1000000 0) 0 0),(4,.ref (.s 1000000 1) 0 0),(6,.str t),(8,.int .i64 17)]++[(37,.bool false)],[(.s 1000000 0,⟨0,true,true,true,snR Zbf .nils F9 F9 []⟩),(.s 1000000 1,⟨0,true,true,true,snR d (v) F9 F9 []⟩)] ++ σ⟩:=by
  have hz0:=P0
  rw [G9 L.A7.x0.eq_1]
  rcases hv with ⟨rfl,rfl,rfl⟩|⟨hne,rfl,rfl⟩
  · simp only [Ys4,Yp9,Yry]
    simp -dsimp (disch:=first|omega|(simp only [A5]<;>omega)|fail) only [go_sem,reduceIte,reduceCtorEq,B2,B3,B4,B5,B6,B7,B8,B9,C0,C1,C2,C3,C4,C5,C6,C7,C8,C9,D0,A4,BYs]
  · simp only [Yp9,Yry]
    simp -dsimp (disch:=first|omega|(simp only [A5]<;>omega)|fail) only [go_sem,reduceIte,reduceCtorEq,B2,B3,B4,B5,B6,B7,B8,B9,C0,C1,C2,C3,C4,C5,C6,C7,C8,C9,D0,A4,BYs]
theorem rq_out {p d t v1 r1:List UInt8} {ps:List Id32} {i:Nat} {v:AV} {σ:A6} (hv:(ps=[]∧v=.nils ∧ σ=[])∨(ps≠[]∧v=.buf (.s 1000000 2) 0 0 (ps).length 32 ∧ σ=[(.s 1000000 2,⟨0,true,true,false,ids (ps)⟩)])) (hd:d.length=32) (hi:i≤16) (h:S E F.H5 [.str t,.str [112,97,114,101,110,116]] []=some (.tup [.str v1,.str r1,.bool false],[])) :
    X E [.cell 2 (some 42),.tmp 3] (.c L.A7.x0::.lp [0,2,4,6,8] L.A7.x0::.blk 0::[.c L.A7.r0]) ⟨[(0,.lst (A1 p) p.length),(2,.ref (.s 1000000 0) 0 0),(4,.ref (.s 1000000 1) 0 0),(6,.str t),(8,.int .i64 (i:Int))],[(.s 1000000 0,⟨0,true,true,true,snR Zbf .nils F9 F9 []⟩),(.s 1000000 1,⟨0,true,true,true,snR d (v) F9 F9 []⟩)] ++ σ⟩=X E [.cell 2 (some 42),.tmp 3] [.c L.A7.r0] ⟨[(0,.lst (A1 p) p.length),(2,.ref (.s 1000000 0) 0 0),(4,.ref (.s 1000000 1) 0 0),(6,.str t),(8,.int .i64 (i:Int))]++[(37,.bool true),(9,.str v1),(10,.str r1),(11,.bool false),(47,.bool true)],[(.s 1000000 0,⟨0,true,true,true,snR Zbf .nils F9 F9 []⟩),(.s 1000000 1,⟨0,true,true,true,snR d (v) F9 F9 []⟩)] ++ σ⟩:=by
  have hz0:=P0
  rw [G9 L.A7.x0.eq_1]
  rcases hv with ⟨rfl,rfl,rfl⟩|⟨hne,rfl,rfl⟩
  · simp only [Ys4,Yp9,Yry]
    simp -dsimp (disch:=first|omega|(simp only [A5]<;>omega)|fail) only [go_sem,reduceIte,reduceCtorEq,B2,B3,B4,B5,B6,B7,B8,B9,C0,C1,C2,C3,C4,C5,C6,C7,C8,C9,D0,A4,BYs,h,Ysb]
  · simp only [Yp9,Yry]
    simp -dsimp (disch:=first|omega|(simp only [A5]<;>omega)|fail) only [go_sem,reduceIte,reduceCtorEq,B2,B3,B4,B5,B6,B7,B8,B9,C0,C1,C2,C3,C4,C5,C6,C7,C8,C9,D0,A4,BYs,h,Ysb]
theorem rq_in {p d t v1 r1 e:List UInt8} {ps:List Id32} {i:Nat} {x:Int} {v:AV} {σ:A6} (hps:ps.length≤17) (hv:(ps=[]∧v=.nils ∧ σ=[])∨(ps≠[]∧v=.buf (.s 1000000 2) 0 0 (ps).length 32 ∧ σ=[(.s 1000000 2,⟨0,true,true,false,ids (ps)⟩)])) (hd:d.length=32) (he:e.length=32) (hi:i≤16) (h:S E F.H5 [.str t,.str [112,97,114,101,110,116]] []=some (.tup [.str v1,.str r1,.bool true],[])) (h2:S E F.H2 [.str v1] []=some (.tup [.agg (A1 e),.int .i64 x],[])) :
    X E [.cell 2 (some 42),.tmp 3] (.c L.A7.x0::.lp [0,2,4,6,8] L.A7.x0::.blk 0::[.c L.A7.r0]) ⟨[(0,.lst (A1 p) p.length),(2,.ref (.s 1000000 0) 0 0),(4,.ref (.s 1000000 1) 0 0),(6,.str t),(8,.int .i64 (i:Int))],[(.s 1000000 0,⟨0,true,true,true,snR Zbf .nils F9 F9 []⟩),(.s 1000000 1,⟨0,true,true,true,snR d (v) F9 F9 []⟩)] ++ σ⟩=X E [.cell 2 (some 42),.tmp 3] (.c L.A7.x0::.lp [0,2,4,6,8] L.A7.x0::.blk 0::[.c L.A7.r0]) ⟨[(0,.lst (A1 p) p.length),(2,.ref (.s 1000000 0) 0 0),(4,.ref (.s 1000000 1) 0 0),(6,.str r1),(8,.int .i64 ((i+1:Nat):Int))],[(.s 1000000 0,⟨0,true,true,true,snR Zbf .nils F9 F9 []⟩),(.s 1000000 1,⟨0,true,true,true,snR d (.buf (.s 1000000 2) 0 0 (ps++[mkI e]).length 32) F9 F9 []⟩)]++[(.s 1000000 2,⟨0,true,true,false,ids (ps++[mkI e])⟩)]⟩:=by
  have hz0:=P0
  have ho:over (A1 (List.replicate 32 0)) 0 (A1 e)=A1 e:=X2 (by rw [he];simp)
  have hsn:ids ps++A1 e=ids (ps++[mkI e]):=by
    have:=Zzf ps (mkI e)
    rw [mkI_b he] at this
    exact this
  have hln:(ps++[mkI e]).length=ps.length+1:=by simp
  conv=>lhs;rw [G9 L.A7.x0.eq_1]
  rcases hv with ⟨rfl,rfl,rfl⟩|⟨hne,rfl,rfl⟩
  · rw [Z6k,Yry,Yry] at hsn
    simp only [Ys4,Yp9,Yry,←hsn,Ysn,Ysh]
    simp -dsimp (disch:=first|omega|(simp only [A5]<;>omega)|fail) only [go_sem,reduceIte,reduceCtorEq,B2,B3,B4,B5,B6,B7,B8,B9,C0,C1,C2,C3,C4,C5,C6,C7,C8,C9,D0,A4,BYs,h,h2,ho,he,Ys6,Ysa]
  · simp only [Yp9,Yry,hln,Ysn,Ysh]
    simp -dsimp (disch:=first|omega|(simp only [A5]<;>omega)|fail) only [go_sem,reduceIte,reduceCtorEq,B2,B3,B4,B5,B6,B7,B8,B9,C0,C1,C2,C3,C4,C5,C6,C7,C8,C9,D0,A4,BYs,h,h2,ho,he,hsn,Ys6,Ysa]
theorem Ypc {p d:List UInt8} (hd:d.length=32) (hp:p.length≤1048576):∀ (m i:Nat) (t:List UInt8) (ps:List Id32) (v:AV) (σ:A6),i+m=17→ps.length=i→t.length≤1048576→((ps=[]∧v=.nils ∧ σ=[])∨(ps≠[]∧v=.buf (.s 1000000 2) 0 0 (ps).length 32 ∧ σ=[(.s 1000000 2,⟨0,true,true,false,ids (ps)⟩)])) →
    ∃ (g:Snap) (ok:Bool),X E [.cell 2 (some 42),.tmp 3] (.c L.A7.x0::.lp [0,2,4,6,8] L.A7.x0::.blk 0::[.c L.A7.r0]) ⟨[(0,.lst (A1 p) p.length),(2,.ref (.s 1000000 0) 0 0),(4,.ref (.s 1000000 1) 0 0),(6,.str t),(8,.int .i64 (i:Int))],[(.s 1000000 0,⟨0,true,true,true,snR Zbf .nils F9 F9 []⟩),(.s 1000000 1,⟨0,true,true,true,snR d (v) F9 F9 []⟩)] ++ σ⟩=some (cmV g (ok&&isC g p)) ∧
    ∀ qs a c m',E6 a=true→E6 c=true→ps.length+qs.length≤16→t=Zcu qs++(Zga++32::(H7 a++10::(Zgj++32::(H7 c++10::(10::m')))))→ok=true∧g=mkS d (ps++qs) a c m' hd:=by
  intro m
  induction m with
  | zero =>
    intro i t ps v σ hi hl ht hv
    obtain rfl:i=17:=by omega
    obtain ⟨g,ok,h1,_⟩:=rq_r0 (p:=p) (d:=d) (t:=t) (ps:=ps) (i:=17) (v:=v) (σ := σ) (ex:=[(37,.bool false)]) (.inl rfl) hd hp ht (by omega) hv
    exact ⟨g,ok,(rq_end hv hd).trans h1,fun qs a c m' _ _ hq _=>by omega⟩
  | succ m ih =>
    intro i t ps v σ hi hl ht hv
    obtain ⟨v1,r1,o1,a1,c1,s1,k1,y1⟩:=Zkj (t:=t) (w:=Zzj) (by omega) (by decide)
    cases o1 with
    | false =>
      obtain ⟨g,ok,h1,h2⟩:=rq_r0 (p:=p) (d:=d) (t:=t) (ps:=ps) (i:=i) (v:=v) (σ := σ) (ex:=[(37,.bool true),(9,.str v1),(10,.str r1),(11,.bool false),(47,.bool true)]) (.inr ⟨v1,r1,rfl⟩) hd hp ht (by omega) hv
      refine ⟨g,ok,(rq_out hv hd (by omega) s1).trans h1,fun qs a c m' ha hc hq e=>?_⟩
      cases qs with
      | nil =>
        rw [Zel,Yry] at e
        rw [Ys4]
        exact h2 a c m' ha hc e
      | cons q qs =>
        rw [Zcv,Yqy,Yp9,Yqy,Yp9] at e
        have:=(y1 _ _ e (Zfl _)).2.2
        cases this
    | true =>
      obtain ⟨e0,x,he,_,s5,y5⟩:=Zoi (s:=v1) (by omega)
      have hv':((ps++[mkI e0])=[]∧(AV.buf (.s 1000000 2) 0 0 (ps++[mkI e0]).length 32)=.nils∧([(.s 1000000 2,⟨0,true,true,false,ids (ps++[mkI e0])⟩)]:A6)=[])∨((ps++[mkI e0])≠[]∧(AV.buf (.s 1000000 2) 0 0 (ps++[mkI e0]).length 32)=.buf (.s 1000000 2) 0 0 ((ps++[mkI e0])).length 32∧([(.s 1000000 2,⟨0,true,true,false,ids (ps++[mkI e0])⟩)]:A6)=[(.s 1000000 2,⟨0,true,true,false,ids ((ps++[mkI e0]))⟩)]):=.inr ⟨by simp,rfl,rfl⟩
      obtain ⟨g,ok,h1,h2⟩:=ih (i+1) r1 (ps++[mkI e0]) _ _ (by omega) (by simp;omega) (by omega) hv'
      refine ⟨g,ok,(rq_in (by omega) hv hd he (by omega) s1 s5).trans h1,fun qs a c m' ha hc hq e=>?_⟩
      cases qs with
      | nil =>
        have hpt:=(k1 rfl).1
        rw [e,Zel,Yry] at hpt
        have hno:=Zlk (r:=H7 a++10::(Zgj++32::(H7 c++10::(10::m'))))
        rw [show Zzj++[32]=[112,97,114,101,110,116,32] from rfl,hno] at hpt
        cases hpt
      | cons q qs =>
        rw [Zcv,Yqy,Yp9,Yqy,Yp9] at e
        obtain ⟨z1,z2,_⟩:=y1 _ _ e (Zfl _)
        have z3:=(y5 _ q.h z1).1
        obtain ⟨j1,j2⟩:=h2 qs a c m' ha hc (by simp only [Yqx,Yqm,Yrj] at hq ⊢;omega) z2
        refine ⟨j1,?_⟩
        rw [j2,z3,Zzi,Yqy]
        rfl
theorem Zvf {p:List UInt8} {n:Nat} (hn:n=p.length) (hp:p.length≤1048576):∃ (g:Snap) (ok:Bool),S E F.A7 [.lst (A1 p) n] []=some (cmV g (ok&&isC g p))∧∀ s,Zqo p s→g=s∧ok=true:=by
  subst hn
  obtain ⟨v1,r1,o1,a1,c1,s1,_,y1⟩:=Zkj (t:=p) (w:=Zmj) (by omega) (by decide)
  have hz0:=P0
  have yes:∀ s,Zqo p s→v1=O9 s.tree∧r1=Zcu s.par++(Zga++32::(H7 s.aut++10::(Zgj++32::(H7 s.com++10::(10::s.msg)))))∧o1=true:=by
    rintro s ⟨e1,e2⟩
    rw [Zzm] at e2
    exact y1 _ _ e2.symm (Zfl _)
  unfold Zmj at s1
  cases o1 with
  | false =>
    refine ⟨mkS Zbf [] F9 F9 [] P0,false,?_,fun s hs=>by have:=(yes s hs).2.2;cases this⟩
    rw [S_of Zfw rfl rfl]
    unfold cmV noC
    rw [Ysk,if_neg (by simp)]
    simp -dsimp (disch:=first|omega|(simp only [A5]<;>omega)|fail) only [L.A7,go_sem,reduceIte,reduceCtorEq,B2,B3,B4,B5,B6,B7,B8,B9,C0,C1,C2,C3,C4,C5,C6,C7,C8,C9,D0,A4,BYs,s1,Ysb]
  | true =>
    obtain ⟨d,x,hd,_,s5,y5⟩:=Zoi (s:=v1) (by omega)
    obtain ⟨g,ok,h1,h2⟩:=Ypc (p:=p) (d:=d) hd hp 17 0 r1 [] _ _ (by omega) rfl (by omega) (.inl ⟨rfl,rfl,rfl⟩)
    refine ⟨g,ok,?_,fun s hs=>?_⟩
    · rw [←h1]
      rw [S_of Zfw rfl rfl]
      simp only [Ys4,Ysh]
      simp -dsimp (disch:=first|omega|(simp only [A5]<;>omega)|fail) only [L.A7,go_sem,reduceIte,reduceCtorEq,B2,B3,B4,B5,B6,B7,B8,B9,C0,C1,C2,C3,C4,C5,C6,C7,C8,C9,D0,A4,BYs,s1,s5,Ysa]
    · obtain ⟨z1,z2,_⟩:=yes s hs
      obtain ⟨w1,w2,w3,w4⟩:=Zgb hs.1
      have z3:=(y5 _ s.ht z1).1
      obtain ⟨j1,j2⟩:=h2 s.par s.aut s.com s.msg w3 w4 (by simpa using w1) z2
      refine ⟨?_,j1⟩
      rw [j2]
      subst z3
      rfl
theorem Zvg {p:List UInt8} {n:Nat} (hn:n=p.length) (hp:1048576<p.length) (hb:p.length≤1000000000000):S E F.A7 [.lst (A1 p) n] []=some (noC 2):=by
  subst hn
  have hz0:=P0
  rw [S_of Zfw rfl rfl]
  unfold noC
  simp -dsimp (disch:=first|omega|(simp only [A5]<;>omega)|fail) only [L.A7,go_sem,reduceIte,reduceCtorEq,B2,B3,B4,B5,B6,B7,B8,B9,C0,C1,C2,C3,C4,C5,C6,C7,C8,C9,D0,A4,BYs]
end Cod
namespace Cod
open Go
theorem Zvh:∀ (n:Nat) (x y:List UInt8) (ks:List Nat) (xs ys:List AV),x.length=n→y.length=n→I7 (List.replicate n 0++ks) (A1 x++xs) (A1 y++ys)=(I7 ks xs ys).map (x==y && ·):=by
  intro n
  induction n with
  | zero =>
    intro x y ks xs ys hx hy
    obtain rfl:=Yqu hx
    obtain rfl:=Yqu hy
    simp [A1]
  | succ n ih =>
    intro x y ks xs ys hx hy
    cases x with
    | nil=>simp at hx
    | cons a x =>
      cases y with
      | nil=>simp at hy
      | cons b y =>
        have h1:=ih x y ks xs ys (by simpa using hx) (by simpa using hy)
        have e1:A1 (a::x)=.int .u8 a.toNat::A1 x:=rfl
        have e2:A1 (b::y)=.int .u8 b.toNat::A1 y:=rfl
        rw [e1,e2,List.replicate_succ,Yp9,Yp9,Yp9]
        simp only [I7,if_true,h1,Option.map_map]
        congr 1
        funext z
        have:((a.toNat:Int)==b.toNat)=(a==b):=by
          by_cases h:a=b
          · subst h;simp
          · have h2:¬ ((a.toNat:Int)=b.toNat):=fun e=>h (UInt8.toNat_inj.1 (by omega))
            rw [beq_eq_false_iff_ne.2 h,beq_eq_false_iff_ne.2 h2]
        simp only [Function.comp,this,List.cons_beq_cons,Bool.and_assoc]
theorem Zim {x y:List UInt8} (hx:x.length=32) (hy:y.length=32):I7 [0,0,0,0,0,0,0,0,0,0,0,0,0,0,0,0,0,0,0,0,0,0,0,0,0,0,0,0,0,0,0,0] (A1 x) (A1 y)=some (x==y):=by
  have h:=Zvh 32 x y [] [] [] hx hy
  rw [Ys4,Ys4,Ys4] at h
  rw [show [0,0,0,0,0,0,0,0,0,0,0,0,0,0,0,0,0,0,0,0,0,0,0,0,0,0,0,0,0,0,0,0]=List.replicate 32 0 from rfl,h]
  simp [I7]
end Cod
namespace Cod
open Go
theorem Zok {d:List UInt8} (h:d.length=32):I7 [0,0,0,0,0,0,0,0,0,0,0,0,0,0,0,0,0,0,0,0,0,0,0,0,0,0,0,0,0,0,0,0] (A1 d) (A1 d)=some true:=by
  rw [Zim h h];simp
theorem Zmb (i:Idt):I7 [2,2,0,0] i.cells i.cells=some true:=by simp [Idt.cells,I7]
theorem si_l0 {l:List Id32} (hl:l.length≤1048576):∀ (m i:Nat),i+m=l.length →
    X E [.tmp 4] (.c L.H9.x0::.lp [0,1,12,13] L.H9.x0::.blk 0::[.c L.H9.r0]) ⟨[(0,.lst (ids l) l.length),(1,.lst (ids l) l.length),(12,.int .i64 l.length),(13,.int .i64 i)],[]⟩=some (.bool true,[]):=by
  intro m
  induction m with
  | zero =>
    intro i h
    obtain rfl:i=l.length:=by omega
    rw [G9 L.H9.x0.eq_1]
    simp -dsimp (disch:=first|omega|(simp only [A5]<;>omega)|fail) only [go_sem,reduceIte,reduceCtorEq,B2,B3,B4,B5,B6,B7,B8,B9,C0,C1,C2,C3,C4,C5,C6,C7,C8,C9,D0,A4,L.H9.r0]
  | succ m ih =>
    intro i h
    have h1:=ih (i+1) (by omega)
    simp only [Ysn,Ysh] at h1
    have hq:=Zok (iat l i).h
    rw [G9 L.H9.x0.eq_1]
    simp -dsimp (disch:=first|omega|(simp only [A5]<;>omega)|fail) only [go_sem,reduceIte,reduceCtorEq,B2,B3,B4,B5,B6,B7,B8,B9,C0,C1,C2,C3,C4,C5,C6,C7,C8,C9,D0,A4,BYs,hq,h1,Option.map_some,Ysa]
theorem Zin {l:List Id32} (hl:l.length≤1048576):S E F.H9 [.lst (ids l) l.length,.lst (ids l) l.length] []=some (.bool true,[]):=by
  have h:=si_l0 hl l.length 0 (by omega)
  simp only [Ysh] at h
  rw [S_of Zsd rfl rfl]
  simp -dsimp (disch:=first|omega|(simp only [A5]<;>omega)|fail) only [L.H9,go_sem,reduceIte,reduceCtorEq,B2,B3,B4,B5,B6,B7,B8,B9,C0,C1,C2,C3,C4,C5,C6,C7,C8,C9,D0,A4,h]
theorem Z4m:S E F.H9 [.lst [] 0,.lst [] 0] []=some (.bool true,[]):=Zin (l:=[]) (by simp)
theorem Zkk {t m:List UInt8} {v:AV} {a c:Idt} {ps:List Id32} (ht:t.length=32) (hl:ps.length≤1048576) (hv:PV v ps):S E F.S0 [.agg (snR t v a c m),.agg (snR t v a c m)] []=some (.bool true,[]):=by
  have q1:=Zok ht
  have q2:=Zmb a
  have q3:=Zmb c
  have q4:(m==m)=true:=by simp
  have s1:=Zin hl
  have s2:=Z4m
  rw [S_of Zr9 rfl rfl]
  rcases hv with rfl|⟨_,rfl⟩
  · simp -dsimp (disch:=first|omega|(simp only [A5]<;>omega)|fail) only [L.S0,go_sem,reduceIte,reduceCtorEq,B2,B3,B4,B5,B6,B7,B8,B9,C0,C1,C2,C3,C4,C5,C6,C7,C8,C9,D0,A4,BYs,q1,q2,q3,q4,s1]
  · simp -dsimp (disch:=first|omega|(simp only [A5]<;>omega)|fail) only [L.S0,go_sem,reduceIte,reduceCtorEq,B2,B3,B4,B5,B6,B7,B8,B9,C0,C1,C2,C3,C4,C5,C6,C7,C8,C9,D0,A4,BYs,q1,q2,q3,q4,s2]
theorem Zvi {EE:Env} (hE:EnvC EE) (p:List UInt8) (hb:p.length≤1000000000000):(∃ e:Int,e≠0∧S EE F.D3 [.lst (A1 p) p.length] []=some (noC e)∧S E F.A7 [.lst (A1 p) p.length] []=some (noC e))∨(∃ g:Snap,g.par.length≤16∧S EE F.D3 [.lst (A1 p) p.length] []=some (yesC g)∧S E F.A7 [.lst (A1 p) p.length] []=some (yesC g)):=by
  by_cases hp:1048576<p.length
  · exact .inl ⟨2,by decide,Zve hE rfl hp hb,Zvg rfl hp hb⟩
  · obtain ⟨g1,b1,s1,y1⟩:=Zvd hE (p:=p) rfl (by omega)
    obtain ⟨g2,o2,s2,y2⟩:=Zvf (p:=p) rfl (by omega)
    rw [s1,s2]
    by_cases h:∃ l,Zqo p l
    · obtain ⟨l,hl⟩:=h
      obtain ⟨rfl,rfl⟩:=y1 l hl
      obtain ⟨rfl,rfl⟩:=y2 _ hl
      have hi:=Z6w.2 hl
      unfold cmV
      rw [hi]
      exact .inr ⟨g2,(Zgb hl.1).1,rfl,rfl⟩
    · have no:∀ g,isC g p=false:=fun g=>by
        cases hi:isC g p with
        | false=>rfl
        | true=>exact absurd ⟨g,Z6w.1 hi⟩ h
      unfold cmV
      rw [no,no,Ysv,Ysv]
      exact .inl ⟨4,by decide,rfl,rfl⟩
end Cod
namespace Cod
open Go
def Zbp (m:Int):Bool:=decide (m=16384)||(decide (m=33188)||(decide (m=33261)||decide (m=40960)))
theorem Ypd {m:Int}:S E F.R6 [.int .i64 m] []=some (.bool (Zbp m),[]):=by
  rw [S_of Zs1 rfl rfl]
  unfold Zbp
  by_cases a:m=16384
  · simp -dsimp (disch:=first|omega|(simp only [A5,A2,A3]<;>omega)|fail) only [L.R6,go_sem,reduceIte,reduceCtorEq,B2,B3,B4,B5,B6,B7,B8,B9,C0,C1,C2,C3,C4,C5,C6,C7,C8,C9,D0,A4,a]
  · by_cases b:m=33188
    · simp -dsimp (disch:=first|omega|(simp only [A5,A2,A3]<;>omega)|fail) only [L.R6,go_sem,reduceIte,reduceCtorEq,B2,B3,B4,B5,B6,B7,B8,B9,C0,C1,C2,C3,C4,C5,C6,C7,C8,C9,D0,A4,a,b]
    · by_cases c:m=33261
      · simp -dsimp (disch:=first|omega|(simp only [A5,A2,A3]<;>omega)|fail) only [L.R6,go_sem,reduceIte,reduceCtorEq,B2,B3,B4,B5,B6,B7,B8,B9,C0,C1,C2,C3,C4,C5,C6,C7,C8,C9,D0,A4,a,b,c]
      · by_cases d:m=40960
        · simp -dsimp (disch:=first|omega|(simp only [A5,A2,A3]<;>omega)|fail) only [L.R6,go_sem,reduceIte,reduceCtorEq,B2,B3,B4,B5,B6,B7,B8,B9,C0,C1,C2,C3,C4,C5,C6,C7,C8,C9,D0,A4,a,b,c,d]
        · simp -dsimp (disch:=first|omega|(simp only [A5,A2,A3]<;>omega)|fail) only [L.R6,go_sem,reduceIte,reduceCtorEq,B2,B3,B4,B5,B6,B7,B8,B9,C0,C1,C2,C3,C4,C5,C6,C7,C8,C9,D0,A4,a,b,c,d]
theorem Z4n {s:List UInt8} (h:P3 s=true):s.length≤100:=by
  unfold P3 at h
  simp only [Bool.and_eq_true,decide_eq_true_eq] at h
  exact h.1.1.1.1.1.2
theorem Ype {s:List UInt8}:S E F.L5 [.str s] []=some (.bool (P3 s),[]):=by
  by_cases h:s.length≤1000000
  · exact R9 ext0 (Yog h)
  · have e:P3 s=false:=by
      cases hn:P3 s with
      | false=>rfl
      | true=>have:=Z4n hn;omega
    rw [e,S_of Zjn rfl rfl]
    have e1:(s == [])=false:=by
      cases s with
      | nil=>simp at h
      | cons a t=>rfl
    have e2:(s == [46])=false:=by
      rw [←Yta,beq_iff_eq];intro he;rw [he] at h;simp at h
    have e3:(s == [46,46])=false:=by
      rw [←Yta,beq_iff_eq];intro he;rw [he] at h;simp at h
    simp -dsimp (disch:=first|omega|(simp only [A5,A2,A3]<;>omega)|fail) only [L.L5,go_sem,reduceIte,reduceCtorEq,B2,B3,B4,B5,B6,B7,B8,B9,C0,C1,C2,C3,C4,C5,C6,C7,C8,C9,D0,A4,e1,e2,e3]
theorem Zzr {ks:List (List UInt8)} {n:List UInt8} (h:n∈ks):(Zcq ks).set (ks.idxOf n) (.str n)=Zcq ks:=by
  apply List.ext_getElem?
  intro j
  rw [List.getElem?_set]
  split
  · rename_i hj
    subst hj
    have hi:=List.idxOf_lt_length_of_mem h
    rw [if_pos (by simpa [Zcq] using hi)]
    unfold Zcq
    rw [List.getElem?_map,List.getElem?_eq_getElem hi]
    simp [List.getElem_idxOf]
  · rfl
theorem Zzs (vs:List Int) (j:Nat) (v:Int):(N8 vs).set j (.int .i64 v)=N8 (vs.set j v):=by simp [N8,List.map_set]
theorem Zqs (vs:List Int) (v:Int):N8 vs++[.int .i64 v]=N8 (vs++[v]):=by simp [N8]
theorem Zvj {vs:List Int} {j:Nat} {v:Int} (h:vs[j]? = some v):(N8 vs)[j]? = some (.int .i64 v):=by simp [N8,h]
def Zol (e:Ety):Int:=if !P3 e.name then 3 else 0
def Zom (e:Ety):Int:=if !Zbp e.mode then 4 else 0
def Zgk (l:List Ety) (i:Nat):Int:=if decide (0<i)&&decide (0≤Znz (Ze4 (eat l (i-1))) (Ze4 (eat l i))) then 4 else 0
def Zmk (l:List Ety) (i:Nat):Int:=if decide ((eat l i).name∈(l.take i).map (·.name)) then 8 else 0
def Zhc (l:List Ety):Nat→Nat→Int→Nat→Int × Nat
  | 0,_,w,z=>(w,z)
  | m+1,i,w,z=>Zhc l m (i+1) (Zbc [w,Zol (eat l i),Zom (eat l i),Zgk l i,Zmk l i]) (z+((P4 (eat l i).mode).length+(eat l i).name.length+34))
theorem ent_l0 {l:List Ety} (hl:l.length≤4096) (hn:∀ i,(eat l i).name.length≤1000000000) (hm:∀ i,-9223372036854775808≤(eat l i).mode∧(eat l i).mode≤9223372036854775807):∀ (m i z:Nat) (w:Int) (ks:List (List UInt8)) (vs:List Int),i+m=l.length→z≤i*2000000000→MapOK ((l.take i).map (·.name)) ks vs →
    ∃ ks' vs',X E [.tmp 2] (.c L.I3.x0::.lp [0,3,4,5,12,13,14] L.I3.x0::.blk 0::[.c L.I3.r0]) ⟨[(0,.lst (I8 l) l.length),(3,.int .i64 w),(4,.int .i64 z),(5,.mpr (.s 1000000 0) 0),(12,.lst (I8 l) l.length),(13,.int .i64 l.length),(14,.int .i64 i)],[(.s 1000000 0,⟨0,true,true,true,[.mp (Zcq ks) (N8 vs)]⟩)]⟩ =
    X E [.tmp 2] [.c L.I3.r0] ⟨[(0,.lst (I8 l) l.length),(3,.int .i64 (Zhc l m i w z).1),(4,.int .i64 (Zhc l m i w z).2),(5,.mpr (.s 1000000 0) 0),(12,.lst (I8 l) l.length),(13,.int .i64 l.length),(14,.int .i64 l.length),(15,.bool false)],[(.s 1000000 0,⟨0,true,true,true,[.mp (Zcq ks') (N8 vs')]⟩)]⟩:=by
  intro m
  induction m with
  | zero =>
    intro i z w ks vs h hz hM
    obtain rfl:i=l.length:=by omega
    refine ⟨ks,vs,?_⟩
    rw [G9 L.I3.x0.eq_1,Zhc]
    simp -dsimp (disch:=first|omega|(simp only [A5,A2,A3]<;>omega)|fail) only [go_sem,reduceIte,reduceCtorEq,B2,B3,B4,B5,B6,B7,B8,B9,C0,C1,C2,C3,C4,C5,C6,C7,C8,C9,D0,A4,Zbu,Zeh,Zei,Zda,Zcd,Zfh,Zfi,Zg5]
  | succ m ih =>
    intro i z w ks vs h hz hM
    have hlt:i<l.length:=by omega
    have hf:=Zif (hm i).1 (hm i).2
    have hol:=Zg6 (eat l i).mode
    have hnl:=hn i
    have hnm:=Ype (s:=(eat l i).name)
    have hmd:=Ypd (m:=(eat l i).mode)
    have w1:S E F.E8 [.bool (!P3 (eat l i).name),.int .i64 3] []=some (.int .i64 (Zol (eat l i)),[]):=X3
    have w2:S E F.E8 [.bool (!Zbp (eat l i).mode),.int .i64 4] []=some (.int .i64 (Zom (eat l i)),[]):=X3
    have wl:=Zj5 (l:=[w,Zol (eat l i),Zom (eat l i),Zgk l i,Zmk l i]) (by simp)
    simp only [N8,Yqq,Ytb,Yqm,Yrj] at wl
    have htake:(l.take (i+1)).map (·.name)=(l.take i).map (·.name)++[(eat l i).name]:=by
      rw [Ytc hlt,Ytd]
      simp [eat,List.getD,hlt]
    have hseen:((l.take i).map (·.name)).length≤4096:=by rw [Yru,Yqd];omega
    rw [G9 L.I3.x0.eq_1,Zhc]
    by_cases hin:(eat l i).name∈ks
    · obtain ⟨v,hv,v1,v2,hM2⟩:=hM.old hin
      rw [←htake] at hM2
      have hv2:=Zvj hv
      have hw:IntKind.i64.wrap (v+1)=v+1:=wrap_i64 (by omega) (by omega)
      have hv3:(N8 (vs.set (ks.idxOf (eat l i).name) (v+1)))[ks.idxOf (eat l i).name]? = some (.int .i64 (v+1)):=Zvj (by
        rw [List.getElem?_set,if_pos rfl,if_pos (List.getElem?_eq_some_iff.1 hv).1])
      have hfk:Za5 true (.str (eat l i).name) (Zcq ks) 0=some (some (ks.idxOf (eat l i).name)):=by rw [Zie,if_pos hin,Yq0]
      have w4:S E F.E8 [.bool true,.int .i64 8] []=some (.int .i64 (Zmk l i),[]):=by
        have e:Zmk l i=8:=by unfold Zmk;rw [decide_eq_true ((hM.mem _).1 hin)];rfl
        rw [e];exact X3 (b:=true)
      obtain ⟨ks',vs',ih2⟩:=ih (i+1) (z+((P4 (eat l i).mode).length+(eat l i).name.length+34)) (Zbc [w,Zol (eat l i),Zom (eat l i),Zgk l i,Zmk l i]) ks _ (by omega) (by omega) hM2
      simp only [Ysn,Ysh] at ih2
      refine ⟨ks',vs',?_⟩
      by_cases hi0:0<i
      · have o1:=Zpz (a:=eat l (i-1)) (b:=eat l i) (by have:=hn (i-1);omega) (by omega)
        have w3:S E F.E8 [.bool (decide (0≤Znz (Ze4 (eat l (i-1))) (Ze4 (eat l i)))),.int .i64 4] []=some (.int .i64 (Zgk l i),[]):=by
          have e:Zgk l i=if decide (0≤Znz (Ze4 (eat l (i-1))) (Ze4 (eat l i)))=true then 4 else 0:=by unfold Zgk;rw [decide_eq_true hi0,Ysi]
          rw [e];exact X3
        have e1:(if (i:Int)-1<0 then (0:Int) else (i:Int)-1)=((i-1:Nat):Int):=by rw [if_neg (by omega)];omega
        simp -dsimp (disch:=first|omega|(simp only [A5,A2,A3]<;>omega)|fail) only [go_sem,reduceIte,reduceCtorEq,B2,B3,B4,B5,B6,B7,B8,B9,C0,C1,C2,C3,C4,C5,C6,C7,C8,C9,D0,A4,Zbu,Zeh,Zei,Zda,Zcd,Zfh,Zfi,Zg5,hf,hnm,hmd,hv2,hv3,hw,hfk,Zzr hin,Zzs,w1,w2,w3,w4,hi0,o1,wl,e1,Zaq,ih2]
      · have w3:S E F.E8 [.bool false,.int .i64 4] []=some (.int .i64 (Zgk l i),[]):=by
          have e:Zgk l i=0:=by unfold Zgk;rw [decide_eq_false hi0];rfl
          rw [e];exact X3 (b:=false)
        simp -dsimp (disch:=first|omega|(simp only [A5,A2,A3]<;>omega)|fail) only [go_sem,reduceIte,reduceCtorEq,B2,B3,B4,B5,B6,B7,B8,B9,C0,C1,C2,C3,C4,C5,C6,C7,C8,C9,D0,A4,Zbu,Zeh,Zei,Zda,Zcd,Zfh,Zfi,Zg5,hf,hnm,hmd,hv2,hv3,hw,hfk,Zzr hin,Zzs,w1,w2,w3,w4,hi0,wl,ih2]
    · have hM2:=hM.new hin
      rw [←htake] at hM2
      have hfk:Za5 true (.str (eat l i).name) (Zcq ks) 0=some none:=by rw [Zie,if_neg hin]
      have hfk2:Za5 true (.str (eat l i).name) (Zcq (ks++[(eat l i).name])) 0=some (some ks.length):=by
        rw [Zie,if_pos (by simp),List.idxOf_append,if_neg hin]
        simp
      have hv3:(N8 (vs++[1]))[ks.length]? = some (.int .i64 1):=Zvj (by rw [←hM.len,List.getElem?_append_right (Yp6 _),Nat.sub_self];rfl)
      have w4:S E F.E8 [.bool false,.int .i64 8] []=some (.int .i64 (Zmk l i),[]):=by
        have e:Zmk l i=0:=by unfold Zmk;rw [decide_eq_false (fun x=>hin ((hM.mem _).2 x))];rfl
        rw [e];exact X3 (b:=false)
      obtain ⟨ks',vs',ih2⟩:=ih (i+1) (z+((P4 (eat l i).mode).length+(eat l i).name.length+34)) (Zbc [w,Zol (eat l i),Zom (eat l i),Zgk l i,Zmk l i]) _ _ (by omega) (by omega) hM2
      simp only [Ysn,Ysh] at ih2
      refine ⟨ks',vs',?_⟩
      by_cases hi0:0<i
      · have o1:=Zpz (a:=eat l (i-1)) (b:=eat l i) (by have:=hn (i-1);omega) (by omega)
        have w3:S E F.E8 [.bool (decide (0≤Znz (Ze4 (eat l (i-1))) (Ze4 (eat l i)))),.int .i64 4] []=some (.int .i64 (Zgk l i),[]):=by
          have e:Zgk l i=if decide (0≤Znz (Ze4 (eat l (i-1))) (Ze4 (eat l i)))=true then 4 else 0:=by unfold Zgk;rw [decide_eq_true hi0,Ysi]
          rw [e];exact X3
        have e1:(if (i:Int)-1<0 then (0:Int) else (i:Int)-1)=((i-1:Nat):Int):=by rw [if_neg (by omega)];omega
        simp -dsimp (disch:=first|omega|(simp only [A5,A2,A3]<;>omega)|fail) only [go_sem,reduceIte,reduceCtorEq,B2,B3,B4,B5,B6,B7,B8,B9,C0,C1,C2,C3,C4,C5,C6,C7,C8,C9,D0,A4,Zbu,Zeh,Zei,Zda,Zcd,Zfh,Zfi,Zg5,hf,hnm,hmd,hv3,hfk,hfk2,Zqs,w1,w2,w3,w4,hi0,o1,wl,e1,Zaq,ih2]
      · have w3:S E F.E8 [.bool false,.int .i64 4] []=some (.int .i64 (Zgk l i),[]):=by
          have e:Zgk l i=0:=by unfold Zgk;rw [decide_eq_false hi0];rfl
          rw [e];exact X3 (b:=false)
        simp -dsimp (disch:=first|omega|(simp only [A5,A2,A3]<;>omega)|fail) only [go_sem,reduceIte,reduceCtorEq,B2,B3,B4,B5,B6,B7,B8,B9,C0,C1,C2,C3,C4,C5,C6,C7,C8,C9,D0,A4,Zbu,Zeh,Zei,Zda,Zcd,Zfh,Zfi,Zg5,hf,hnm,hmd,hv3,hfk,hfk2,Zqs,w1,w2,w3,w4,hi0,wl,ih2]
def Zbq (l:List Ety):Int:=if 4096<l.length then 2 else Zbc [(Zhc l l.length 0 0 0).1,if decide (1048576<(Zhc l l.length 0 0 0).2) then 2 else 0]
theorem entI_z (l:List Ety) (hn:∀ i,(eat l i).name.length≤1000000000):∀ (m i z:Nat) (w:Int),z≤i*2000000000→(Zhc l m i w z).2≤(i+m)*2000000000:=by
  intro m
  induction m with
  | zero=>intro i z w h;exact h
  | succ m ih =>
    intro i z w h
    rw [Zhc]
    have:=ih (i+1) (z+((P4 (eat l i).mode).length+(eat l i).name.length+34)) (Zbc [w,Zol (eat l i),Zom (eat l i),Zgk l i,Zmk l i]) (by have:=hn i;have:=Zg6 (eat l i).mode;omega)
    rw [show i+(m+1)=i+1+m by omega]
    exact this
theorem Z4o {l:List Ety} (hn:∀ i,(eat l i).name.length≤1000000000) (hm:∀ i,-9223372036854775808≤(eat l i).mode∧(eat l i).mode≤9223372036854775807) (hl:l.length≤1000000000):S E F.I3 [.lst (I8 l) l.length] []=some (.int .i64 (Zbq l),[]):=by
  rw [S_of Zsg rfl rfl]
  unfold Zbq
  by_cases hlen:4096<l.length
  · rw [if_pos hlen]
    simp -dsimp (disch:=first|omega|(simp only [A5,A2,A3]<;>omega)|fail) only [L.I3,go_sem,reduceIte,reduceCtorEq,B2,B3,B4,B5,B6,B7,B8,B9,C0,C1,C2,C3,C4,C5,C6,C7,C8,C9,D0,A4,hlen]
  · rw [if_neg hlen]
    obtain ⟨ks,vs,h⟩:=ent_l0 (l:=l) (by omega) hn hm l.length 0 0 0 [] [] (by omega) (by omega) (by simpa using MapOK.nil)
    have hz:=entI_z l hn l.length 0 0 0 (by omega)
    simp only [Ysh,show Zcq []=[] from rfl,show N8 []=[] from rfl] at h
    simp -dsimp (disch:=first|omega|(simp only [A5,A2,A3]<;>omega)|fail) only [L.I3,go_sem,reduceIte,reduceCtorEq,B2,B3,B4,B5,B6,B7,B8,B9,C0,C1,C2,C3,C4,C5,C6,C7,C8,C9,D0,A4,hlen]
    rw [h]
    generalize (Zhc l l.length 0 0 0).1=w at *
    generalize (Zhc l l.length 0 0 0).2=z at *
    have w1:S E F.E8 [.bool (decide (1048576<(z:Int))),.int .i64 2] []=some (.int .i64 (if decide (1048576<z) then 2 else 0),[]):=by
      rw [show decide (1048576<(z:Int))=decide (1048576<z) from decide_eq_decide.2 (by omega)];exact X3
    have wl:=Zj5 (l:=[w,if decide (1048576<z) then 2 else 0]) (by simp)
    simp only [N8,Yqq,Ytb,Yqm,Yrj] at wl
    simp -dsimp (disch:=first|omega|(simp only [A5,A2,A3]<;>omega)|fail) only [L.I3.r0,go_sem,reduceIte,reduceCtorEq,B2,B3,B4,B5,B6,B7,B8,B9,C0,C1,C2,C3,C4,C5,C6,C7,C8,C9,D0,A4,w1,wl]
end Cod
namespace Cod
open Go Go.RowKit Go.Proofs Go.Shelf
set_option maxRecDepth 1000000
def Zio (e:Ety):List UInt8:=P4 e.mode++[32]++e.name++[0]++e.id
def G4 (l:List Ety):List UInt8:=l.flatMap Zio
def Zem (l:List Ety):Prop:=(∀ i,(eat l i).name.length≤1000000000)∧(∀ i,-9223372036854775808≤(eat l i).mode∧(eat l i).mode≤9223372036854775807)∧l.length≤1000000000
theorem Zqt {l:List Ety} (hl:Zem l) {a:Option Addr} {cap:Nat} {w:World} (hW:Zar w) (hv:VR (ctx [] LaE w) (.lst (I8 l) l.length) (.slice a l.length cap)) :
    Calls Tryz.prog 41 #[.slice a l.length cap] w fun e w'=>e=.returned (.int .i64 (Zbq l))∧Below w.heap.size w w' :=
  Zhr Tryz.func41 (by rfl) (by kernel_rfl) (Z4o hl.1 hl.2.1 hl.2.2) hW (vs:=[.slice a l.length cap]) (by simp only [VRL];exact ⟨_,_,rfl,hv,rfl⟩) (fun c z hz=>by simpa [VR] using hz)
theorem Ybt {m:Int} (h0 : -9223372036854775808≤m) (h1:m≤9223372036854775807) {w:World} (hW:Zar w) :
    Calls Tryz.prog 43 #[.int .i64 m,.int .i64 8] w fun e w'=>e=.returned (.string ⟨(P4 m).toArray⟩)∧Below w.heap.size w w' :=
  Zhr Tryz.func43 (by rfl) (by kernel_rfl) (Zif h0 h1) hW (vs:=[.int .i64 m,.int .i64 8]) (by simp [VRL,VR]) (fun c z hz=>by simpa [VR] using hz)
def Zfm (e:Ety):List Value:=.int .i64 e.mode::.string ⟨e.name.toArray⟩::Lib.byteCells e.id
theorem Zd8 (e:Ety):(Zfm e).length=34:=by simp [Zfm,Lib.byteCells_length,e.hid]
theorem Yjt (e:Ety):(Zfm e).toArray.all (·.oneCell')=true:=by
  rw [Array.all_eq_true_iff_forall_mem]
  intro v hv
  simp only [List.mem_toArray,Zfm,List.mem_cons] at hv
  rcases hv with rfl|rfl|hv
  · rfl
  · rfl
  · unfold Lib.byteCells at hv
    obtain ⟨b,_,rfl⟩:=List.mem_map.1 hv
    rfl
theorem Ybu {c:Ctx}:∀ {l:List UInt8} {vs:List Value},VRL c (A1 l) vs→vs=Lib.byteCells l:=by
  intro l
  induction l with
  | nil=>intro vs h;simp only [A1,Ytb,VRL] at h;rw [h];rfl
  | cons a l ih =>
    intro vs h
    simp only [A1,Yqq,VRL] at h
    obtain ⟨v,r,rfl,h1,h2⟩:=h
    rw [ih h2]
    simp only [VR] at h1
    rw [h1];rfl
theorem Ybv {c:Ctx} {b o:Nat} {e:Ety} (h:VRC c b o e.cells):c.w.rangeAt b o (Zfm e):=by
  obtain ⟨vs,h1,h2⟩:=Ze7 h
  unfold Ety.cells at h1
  simp only [VRL,VR] at h1
  obtain ⟨v0,r0,rfl,rfl,v1,r1,rfl,rfl,h3⟩:=h1
  rw [Ybu h3] at h2
  exact h2
theorem Z4p {B b:Nat} (hb:B≤b):∀ (vs:List Value) (o:Nat) {W w:World},Below B W w→Below B W (w.setCells b o vs):=by
  intro vs
  induction vs with
  | nil=>intro o W w h;exact h
  | cons v r ih=>intro o W w h;exact ih (o+1) (h.setCell (p:=⟨b,o,none⟩) hb v)
theorem Ybw (b:Nat):∀ (vs:List Value) (o:Nat) (w:World),(w.setCells b o vs).heap.size=w.heap.size:=by
  intro vs
  induction vs with
  | nil=>intro o w;rfl
  | cons v r ih=>intro o w;show ((w.setCell _ v).setCells b (o+1) r).heap.size=_;rw [ih];simp [World.setCell]
theorem Yju {b:Nat} {T:TypeId}:∀ (vs:List Value) (o:Nat) (w:World),(∃ cs fr,w.heap[b]? = some (.cells cs T fr))→∃ cs fr,(w.setCells b o vs).heap[b]? = some (.cells cs T fr):=by
  intro vs
  induction vs with
  | nil=>intro o w h;exact h
  | cons v r ih =>
    intro o w h
    refine ih (o+1) _ ?_
    obtain ⟨cs,fr,h⟩:=h
    refine ⟨cs.setIfInBounds o v,fr,?_⟩
    simp only [World.setCell,Array.getElem?_modify,if_true,h]
    rfl
theorem Ybx {w:World} {B B':Nat} {e sz n:Nat} {v:Value} {xs:List Value} (h:w.ownsRow B e sz v n xs) (hB:B'≤B):w.ownsRow B' e sz v n xs:=by
  obtain ⟨h1,h2⟩:=h
  refine ⟨h1,?_⟩
  rcases h2 with h2|⟨g,cap,cur,q1,q2,q3⟩
  · exact .inl h2
  · exact .inr ⟨g,cap,cur,q1,Yp7 hB q2,q3⟩
structure VarAt (wr W3:World) (T:TypeId) (vals:List Value):Prop where
  below:Below wr.heap.size wr W3
  size:W3.heap.size=wr.heap.size+1
  cell:∀ j v,vals[j]? = some v→W3.cell? ⟨wr.heap.size,j,none⟩=some v
  row:∃ cs fr,W3.heap[wr.heap.size]? = some (.cells cs T fr)
theorem Yby (wr:World) (z:Array Value) (T:TypeId) (vals:List Value) (hz:z.size=vals.length):VarAt wr ((wr.alloc (.cells z T)).setCells wr.heap.size 0 vals) T vals:=by
  have hc:∀ j,j<vals.length→((wr.alloc (.cells z T)).cell? ⟨wr.heap.size,0+j,none⟩).isSome=true:=by
    intro j hj
    simp only [World.cell?,heap_alloc_new]
    rw [if_neg (by simp),Yq0,Array.getElem?_eq_getElem (by omega)]
    rfl
  refine ⟨Z4p (Yp6 _) _ _ ((Below.refl _ wr).alloc (Yp6 _) _),?_,?_,Yju _ _ _ ⟨_,_,heap_alloc_new wr _⟩⟩
  · rw [Ybw];exact Array.size_push _
  · intro j v hv
    have hj:=(List.getElem?_eq_some_iff.1 hv).1
    have:=World.cell?_setCells_in wr.heap.size vals 0 _ hc j hj
    rw [Yq0] at this
    rw [this]
    rw [List.getElem?_eq_getElem hj] at hv
    exact hv
theorem Zzt {wr:World} {z:Array Value} {T:TypeId} {vals:List Value} (hz:z.size=vals.length) {p:World→Prop} (h:∀ W3,VarAt wr W3 T vals→p W3):p ((wr.alloc (.cells z T)).setCells wr.heap.size 0 vals):=h _ (Yby wr z T vals hz)
theorem Zkl (e:Ety):(Zio e).length=(P4 e.mode).length+e.name.length+34:=by
  unfold Zio;simp [e.hid];omega
theorem Z4q (l:List Ety) (k:Nat):(G4 (l.take k)).length≤(G4 l).length:=by
  have h:G4 l=G4 (l.take k)++G4 (l.drop k):=by unfold G4;rw [←Yte,List.take_append_drop]
  rw [h,Yqx];omega
theorem Z4r {l:List Ety} {k:Nat} (h:k<l.length):G4 (l.take (k+1))=G4 (l.take k)++Zio (eat l k):=by
  rw [Ytc h]
  unfold G4
  rw [Yte]
  simp [eat,List.getD,h]
theorem Zzu (l:List Ety):∀ (m i z:Nat) (w:Int),i+m=l.length→(Zhc l m i w z).2=z+(G4 (l.drop i)).length:=by
  intro m
  induction m with
  | zero =>
    intro i z w h
    rw [List.drop_eq_nil_of_le (by omega)]
    simp [Zhc,G4]
  | succ m ih =>
    intro i z w h
    have hlt:i<l.length:=by omega
    rw [Zhc,ih (i+1) _ _ (by omega),Yr9 hlt]
    have he:eat l i=l[i]:=by simp [eat,List.getD,hlt]
    have e2:G4 (l[i]::l.drop (i+1))=Zio l[i]++G4 (l.drop (i+1)):=by unfold G4;rw [List.flatMap_cons]
    rw [e2,Yqx,Zkl,he]
    omega
theorem lst2_0 (w:Int):Zgh 0 w=w:=by
  unfold Zgh
  by_cases h:w=0
  · rw [h];simp
  · rw [if_pos ⟨h,.inl rfl⟩]
theorem minE2 {w e:Int} (h:Zbc [w,e]=0):e=0:=by
  have h1:Zgh (Zgh 0 w) e=0:=h
  rw [lst2_0] at h1
  unfold Zgh at h1
  by_cases he:e=0
  · exact he
  · split at h1
    · exact h1
    · rename_i h2
      exact absurd ⟨he,.inl h1⟩ h2
theorem Zav {l:List Ety} (h:Zbq l=0):(G4 l).length≤1048576:=by
  unfold Zbq at h
  split at h
  · omega
  · have h2:=minE2 h
    rw [Zzu l l.length 0 0 0 (by omega),Yrp] at h2
    split at h2
    · omega
    · rename_i h3
      simp at h3
      omega
theorem Zhw:∀ (l:List UInt8),∀ v∈Lib.byteCells l,v.oneCell'=true:=by
  intro l v hv
  unfold Lib.byteCells at hv
  obtain ⟨b,_,rfl⟩:=List.mem_map.1 hv
  rfl
theorem src_id {wr W3 W4 W5:World} {e:Ety} {T:TypeId} {b:Nat} (hva:VarAt wr W3 T (Zfm e)) (hT:T≠5) (hb:b<wr.heap.size) (hk4:∀ j,j<W3.heap.size→W4.heap[j]? = W3.heap[j]?) (hk5:Lib.OthersKept 5 (some b) W4 W5) :
    ∀ j v,(Lib.byteCells e.id)[j]? = some v→W5.cell? ((⟨wr.heap.size,2,none⟩:Addr).add j)=some v:=by
  intro j v hj
  obtain ⟨cs,fr,hr⟩:=hva.row
  have hn1:wr.heap.size<W3.heap.size:=by rw [hva.size];omega
  have h4:W4.heap[wr.heap.size]? = some (.cells cs T fr):=(hk4 _ hn1).trans hr
  have h5:=hk5 _ _ h4 (by simp;omega) (fun c fz h=>by cases h;exact hT rfl)
  have hc:=hva.cell (j+2) v (by simpa [Zfm] using hj)
  rw [Addr.add_mid]
  simp only [World.cell?,hr,h5] at hc ⊢
  rw [Nat.add_comm];exact hc
theorem Zzv {T1 T2:ByteArray} {m:Int} {n:List UInt8} (d1:T1.data.toList=P4 m) (d2:T2.data.toList=n):(T1++⟨#[32]⟩++T2++⟨#[0]⟩).data.toList=P4 m++[32]++n++[0]:=by
  simp only [ByteArray.data_append,Array.toList_append,d1,d2]
theorem Zll (a b:List UInt8):Lib.byteCells a++Lib.byteCells b=Lib.byteCells (a++b):=by simp [Lib.byteCells]
theorem Yjv {T1 T2:ByteArray} {l:List Ety} {k:Nat} (hk:k<l.length) (d1:T1.data.toList=P4 (eat l k).mode) (d2:T2.data.toList=(eat l k).name) :
    Lib.byteCells (G4 (l.take k))++Lib.byteCells (T1++⟨#[32]⟩++T2++⟨#[0]⟩).data.toList++Lib.byteCells (eat l k).id=Lib.byteCells (G4 (l.take (k+1))):=by
  rw [Zzv d1 d2,Zll,Zll,Z4r hk]
  congr 1
  simp [Zio]
theorem K4 {B B':Nat} {a w:World} (h:Below B a w) (hB:B'≤B):Below B' a w:=⟨h.os,h.tape,h.output,h.size,fun k hk=>h.block k (Yp8 hk hB)⟩
theorem Ze2 {k:Nat} (h:k≤1000000000):wrap64 ((k:Int)+1)=((k+1:Nat):Int):=by
  unfold wrap64;omega
end Cod
namespace Cod
open Go
theorem Z6x {e:Ety} (h:e.name.length≤1000000000000):S E F.Zaf [.agg e.cells] []=some (.str (Ze4 e),[]):=by
  rw [S_of Ztr rfl rfl]
  unfold Ze4
  by_cases hm:e.mode=16384
  · rw [if_pos hm]
    simp -dsimp (disch:=first|omega|(simp only [A5]<;>omega)|fail) only [L.Zaf,go_sem,reduceIte,reduceCtorEq,B2,B3,B4,B5,B6,B7,B8,B9,C0,C1,C2,C3,C4,C5,C6,C7,C8,C9,D0,A4,hm]
  · rw [if_neg hm]
    simp -dsimp (disch:=first|omega|(simp only [A5]<;>omega)|fail) only [L.Zaf,go_sem,reduceIte,reduceCtorEq,B2,B3,B4,B5,B6,B7,B8,B9,C0,C1,C2,C3,C4,C5,C6,C7,C8,C9,D0,A4,hm]
theorem Ybz {a b:Ety} (ha:a.name.length≤1000000000000) (hb:b.name.length≤1000000000000):S E F.V4 [.agg a.cells,.agg b.cells] []=some (.int .i64 (Znz (Ze4 a) (Ze4 b)),[]):=by
  have h1:=Z6x ha
  have h2:=Z6x hb
  rw [S_of Zs6 rfl rfl]
  unfold Znz
  generalize Ze4 a=x at *
  generalize Ze4 b=y at *
  by_cases he:x=y
  · subst he
    have hs:(x==x)=true:=by simp
    simp -dsimp (disch:=first|omega|(simp only [A5]<;>omega)|fail) only [L.V4,go_sem,reduceIte,reduceCtorEq,B2,B3,B4,B5,B6,B7,B8,B9,C0,C1,C2,C3,C4,C5,C6,C7,C8,C9,D0,A4,h1,h2,Zpy,hs,Ysa]
  · have hs:(x==y)=false:=by simp [he]
    rw [if_neg he]
    cases c1:Op.bytesLess x y<;>simp -dsimp (disch:=first|omega|(simp only [A5]<;>omega)|fail) only [L.V4,go_sem,reduceIte,reduceCtorEq,B2,B3,B4,B5,B6,B7,B8,B9,C0,C1,C2,C3,C4,C5,C6,C7,C8,C9,D0,A4,h1,h2,c1,hs,Ysb]
end Cod
namespace Cod
open Go
def mkT (v:Int) (n d:List UInt8):Ety:=if h:d.length=32 then ⟨v,n,d,h⟩ else default
theorem Zqu {v:Int} {n d:List UInt8} (h:d.length=32):(mkT v n d).cells=.int .i64 v::.str n::A1 d:=by unfold mkT;rw [dif_pos h];rfl
theorem Zaw (e:Ety) (l:List Ety):G4 (e::l)=Zio e++G4 l:=rfl
theorem Zzw {l:List Ety} {i:Nat} (h:i<l.length):l.drop i=eat l i::l.drop (i+1):=by
  rw [Yr9 h];simp [eat,List.getD,h]
theorem Yjw {l:List Ety} {B:Nat} (h:∀ i,(eat l i).name.length≤B):(G4 l).length≤l.length*(B+60):=by
  have:∀ m i,i+m=l.length→(G4 (l.drop i)).length≤m*(B+60):=by
    intro m
    induction m with
    | zero=>intro i hi;rw [List.drop_of_length_le (by omega)];simp [G4]
    | succ m ih =>
      intro i hi
      rw [Zzw (by omega),Zaw,Yqx,Zkl,Nat.succ_mul]
      have:=ih (i+1) (by omega)
      have:=h i
      have:=Zg6 (eat l i).mode
      omega
  simpa using this l.length 0 (by omega)
theorem Yjx {l:List Ety} {B:Nat} (hb:∀ i,(eat l i).name.length≤B) (hB:B≤1000000000) (hl:l.length≤4096) (hm:∀ i,-9223372036854775808≤(eat l i).mode∧(eat l i).mode≤9223372036854775807):∀ (m i:Nat) (p:List UInt8),i+m=l.length→p.length≤i*(B+60) →
    X E [.tmp 2] (.c L.J6.x0::.lp [3,7,8,9] L.J6.x0::.blk 0::[.c L.J6.r0]) ⟨[(3,.buf (.s 1000000 0) 0 0 p.length 1),(7,.lst (I8 l) l.length),(8,.int .i64 l.length),(9,.int .i64 i)],[(.s 1000000 0,⟨0,true,true,false,A1 p⟩)]⟩ =
    some (.buf (.r 0) 0 0 (p++G4 (l.drop i)).length 1,[(.r 0,⟨0,true,true,false,A1 (p++G4 (l.drop i))⟩)]):=by
  intro m
  induction m with
  | zero =>
    intro i p hi hp
    obtain rfl:i=l.length:=by omega
    rw [G9 L.J6.x0.eq_1,Yst,show G4 []=[] from rfl,Ys4]
    simp -dsimp (disch:=first|omega|(simp only [A5,A2,A3]<;>omega)|fail) only [go_sem,reduceIte,reduceCtorEq,B2,B3,B4,B5,B6,B7,B8,B9,C0,C1,C2,C3,C4,C5,C6,C7,C8,C9,D0,A4,BYs,L.J6.r0]
  | succ m ih =>
    intro i p hi hp
    have hlt:i<l.length:=by omega
    have hf:=Zif (hm i).1 (hm i).2
    have hol:=Zg6 (eat l i).mode
    have hnl:=hb i
    have hid:=(eat l i).hid
    have hpp:p.length≤4096*(B+60):=Yp7 hp (Yqv _ (by omega))
    have h1:=ih (i+1) (p++Zio (eat l i)) (by omega) (by rw [Yqx,Zkl,Nat.succ_mul];omega)
    simp only [Ysn,Ysh] at h1
    rw [Yqy,←Zaw,←Zzw hlt] at h1
    rw [G9 L.J6.x0.eq_1,←h1]
    have e:p++Zio (eat l i)=p++(P4 (eat l i).mode++[32]++(eat l i).name++[0])++(eat l i).id:=by unfold Zio;simp only [Yqy]
    rw [e]
    have hln:(p++(P4 (eat l i).mode++[32]++(eat l i).name++[0])++(eat l i).id).length=p.length+(P4 (eat l i).mode++[32]++(eat l i).name++[0]).length+32:=by rw [Yqx,Yqx,hid]
    simp -dsimp (disch:=first|omega|(simp only [A5,A2,A3]<;>omega)|fail) only [go_sem,reduceIte,reduceCtorEq,B2,B3,B4,B5,B6,B7,B8,B9,C0,C1,C2,C3,C4,C5,C6,C7,C8,C9,D0,A4,BYs,hf,Yhq,hid]
    rw [hln]
theorem Zon {l:List Ety} {B:Nat} (hb:∀ i,(eat l i).name.length≤B) (hB:B≤1000000000) (hl:l.length≤4096) (hm:∀ i,-9223372036854775808≤(eat l i).mode∧(eat l i).mode≤9223372036854775807) :
    S E F.J6 [.lst (I8 l) l.length] []=some (.buf (.r 0) 0 0 (G4 l).length 1,[(.r 0,⟨0,true,true,false,A1 (G4 l)⟩)]):=by
  have h:=Yjx hb hB hl hm l.length 0 [] (by omega) (by simp)
  simp only [Ysh,Yrp,Yry,Yrj] at h
  rw [Zc8] at h
  rw [S_of Zsj rfl rfl]
  simp -dsimp (disch:=first|omega|(simp only [A5,A2,A3]<;>omega)|fail) only [L.J6,go_sem,reduceIte,reduceCtorEq,B2,B3,B4,B5,B6,B7,B8,B9,C0,C1,C2,C3,C4,C5,C6,C7,C8,C9,D0,A4,BYs,h]
def tw (l:List Ety):Nat→Nat→Bool
  | 0,_=>false
  | m+1,i=>decide ((eat l i).name∈(l.take i).map (·.name))||tw l m (i+1)
def twI (l:List Ety) (i:Nat):Nat→Nat→Bool
  | 0,_=>false
  | m+1,j=>decide ((eat l i).name=(eat l j).name)||twI l i m (j+1)
theorem Zvk {l:List Ety} {i:Nat} (h:i<l.length):(l.take (i+1)).map (·.name)=(l.take i).map (·.name)++[(eat l i).name]:=by
  rw [Ytc h,Ytd]
  simp [eat,List.getD,h]
theorem Ypf {l:List Ety} {i:Nat} (hi:i≤l.length):∀ (m j:Nat),j+m=i→(twI l i m j||decide ((eat l i).name∈(l.take j).map (·.name)))=decide ((eat l i).name∈(l.take i).map (·.name)):=by
  intro m
  induction m with
  | zero => intro j h; obtain rfl : j = i := by omega
            rw [twI,Ysj]
  | succ m ih =>
    intro j h
    rw [←ih (j+1) (by omega),Zvk (by omega),twI]
    cases twI l i m (j+1)
    · by_cases h1:(eat l i).name=(eat l j).name<;>by_cases h2:(eat l i).name∈(l.take j).map (·.name)<;>simp [h1,h2]<;>simp_all
    · simp
theorem tw_l1 {l:List Ety} (hl:l.length≤4096) {i:Nat} (hi:i<l.length):∀ (m j:Nat),j+m=i →
    X E [.tmp 2] (.c L.E9.x1::.lp [0,3,6,7,13,14] L.E9.x1::.blk 2::.blk 1::.c L.E9.r0::.lp [0,6,7] L.E9.x0::.blk 0::[.c L.E9.r1]) ⟨[(0,.lst (I8 l) l.length),(3,.int .i64 i),(6,.int .i64 l.length),(7,.int .i64 i),(13,.int .i64 i),(14,.int .i64 j)],[]⟩ =
    if twI l i m j=true then some (.bool true,[]) else X E [.tmp 2] (.c L.E9.x0::.lp [0,6,7] L.E9.x0::.blk 0::[.c L.E9.r1]) ⟨[(0,.lst (I8 l) l.length),(6,.int .i64 l.length),(7,.int .i64 ((i+1:Nat):Int))],[]⟩:=by
  intro m
  induction m with
  | zero =>
    intro j h
    obtain rfl:j=i:=by omega
    rw [G9 L.E9.x1.eq_1,twI]
    simp -dsimp (disch:=first|omega|(simp only [A5,A2,A3]<;>omega)|fail) only [go_sem,reduceIte,reduceCtorEq,B2,B3,B4,B5,B6,B7,B8,B9,C0,C1,C2,C3,C4,C5,C6,C7,C8,C9,D0,A4,L.E9.r0]
    rfl
  | succ m ih =>
    intro j h
    have h1:=ih (j+1) (by omega)
    simp only [Ysn,Ysh] at h1
    have g1:(I8 l)[i*34+1]? = some (.str (eat l i).name):=(Z6a hi (by omega)).trans (Yho _)
    have g2:(I8 l)[j*34+1]? = some (.str (eat l j).name):=(Z6a (by omega) (by omega)).trans (Yho _)
    rw [G9 L.E9.x1.eq_1,twI]
    by_cases hn:(eat l i).name=(eat l j).name
    · have hb:((eat l i).name==(eat l j).name)=true:=by simp [hn]
      rw [decide_eq_true hn,Ytf,if_pos rfl]
      simp -dsimp (disch:=first|omega|(simp only [A5,A2,A3]<;>omega)|fail) only [go_sem,reduceIte,reduceCtorEq,B2,B3,B4,B5,B6,B7,B8,B9,C0,C1,C2,C3,C4,C5,C6,C7,C8,C9,D0,A4,g1,g2,hb]
    · have hb:((eat l i).name==(eat l j).name)=false:=by simp [hn]
      rw [decide_eq_false hn,Ysj]
      simp -dsimp (disch:=first|omega|(simp only [A5,A2,A3]<;>omega)|fail) only [go_sem,reduceIte,reduceCtorEq,B2,B3,B4,B5,B6,B7,B8,B9,C0,C1,C2,C3,C4,C5,C6,C7,C8,C9,D0,A4,g1,g2,hb,h1]
      rfl
theorem tw_l0 {l:List Ety} (hl:l.length≤4096):∀ (m i:Nat),i+m=l.length →
    X E [.tmp 2] (.c L.E9.x0::.lp [0,6,7] L.E9.x0::.blk 0::[.c L.E9.r1]) ⟨[(0,.lst (I8 l) l.length),(6,.int .i64 l.length),(7,.int .i64 i)],[]⟩=some (.bool (tw l m i),[]):=by
  intro m
  induction m with
  | zero =>
    intro i h
    obtain rfl:i=l.length:=by omega
    rw [G9 L.E9.x0.eq_1,tw]
    simp -dsimp (disch:=first|omega|(simp only [A5,A2,A3]<;>omega)|fail) only [go_sem,reduceIte,reduceCtorEq,B2,B3,B4,B5,B6,B7,B8,B9,C0,C1,C2,C3,C4,C5,C6,C7,C8,C9,D0,A4,L.E9.r1]
  | succ m ih =>
    intro i h
    have h1:=tw_l1 hl (i:=i) (by omega) i 0 (by omega)
    have hm:=Ypf (l:=l) (i:=i) (by omega) i 0 (by omega)
    simp only [Ysh] at h1
    rw [ih (i+1) (by omega)] at h1
    simp only [Ys5,Ytb,List.not_mem_nil,decide_false,Ytg] at hm
    rw [G9 L.E9.x0.eq_1,tw,←hm]
    simp -dsimp (disch:=first|omega|(simp only [A5,A2,A3]<;>omega)|fail) only [go_sem,reduceIte,reduceCtorEq,B2,B3,B4,B5,B6,B7,B8,B9,C0,C1,C2,C3,C4,C5,C6,C7,C8,C9,D0,A4,Nat.sub_zero]
    rw [h1]
    cases twI l i i 0<;>simp
theorem Yjy {l:List Ety} (hl:l.length≤4096):S E F.E9 [.lst (I8 l) l.length] []=some (.bool (tw l l.length 0),[]):=by
  have h:=tw_l0 hl l.length 0 (by omega)
  simp only [Ysh] at h
  rw [S_of Zs8 rfl rfl]
  simp -dsimp (disch:=first|omega|(simp only [A5,A2,A3]<;>omega)|fail) only [L.E9,go_sem,reduceIte,reduceCtorEq,B2,B3,B4,B5,B6,B7,B8,B9,C0,C1,C2,C3,C4,C5,C6,C7,C8,C9,D0,A4,h]
theorem Ypg (m:Int):S E F.R7 [.int .i64 m] []=some (.bool (Zbp m),[]):=by
  rw [S_of Zs5 rfl rfl]
  unfold Zbp
  by_cases a:m=16384
  · simp -dsimp (disch:=first|omega|(simp only [A5,A2,A3]<;>omega)|fail) only [L.R7,go_sem,reduceIte,reduceCtorEq,B2,B3,B4,B5,B6,B7,B8,B9,C0,C1,C2,C3,C4,C5,C6,C7,C8,C9,D0,A4,a]
  · by_cases b:m=33188
    · simp -dsimp (disch:=first|omega|(simp only [A5,A2,A3]<;>omega)|fail) only [L.R7,go_sem,reduceIte,reduceCtorEq,B2,B3,B4,B5,B6,B7,B8,B9,C0,C1,C2,C3,C4,C5,C6,C7,C8,C9,D0,A4,a,b]
    · by_cases c:m=33261
      · simp -dsimp (disch:=first|omega|(simp only [A5,A2,A3]<;>omega)|fail) only [L.R7,go_sem,reduceIte,reduceCtorEq,B2,B3,B4,B5,B6,B7,B8,B9,C0,C1,C2,C3,C4,C5,C6,C7,C8,C9,D0,A4,a,b,c]
      · by_cases d:m=40960
        · simp -dsimp (disch:=first|omega|(simp only [A5,A2,A3]<;>omega)|fail) only [L.R7,go_sem,reduceIte,reduceCtorEq,B2,B3,B4,B5,B6,B7,B8,B9,C0,C1,C2,C3,C4,C5,C6,C7,C8,C9,D0,A4,a,b,c,d]
        · simp -dsimp (disch:=first|omega|(simp only [A5,A2,A3]<;>omega)|fail) only [L.R7,go_sem,reduceIte,reduceCtorEq,B2,B3,B4,B5,B6,B7,B8,B9,C0,C1,C2,C3,C4,C5,C6,C7,C8,C9,D0,A4,a,b,c,d]
def Z4s (n f d:Bool):Int:=if n then 3 else if f then 4 else if d then 8 else 0
theorem Yb0 (n f d a b c g:Bool):Zbc [Z4s n f d,if a then 3 else 0,if b then 4 else 0,if c then 4 else 0,if g then 8 else 0]=Z4s (n||a) (f||b||c) (d||g):=by
  cases n<;>cases f<;>cases d<;>cases a<;>cases b<;>cases c<;>cases g<;>rfl
def ordB (l:List Ety) (i:Nat):Bool:=decide (0<i)&&decide (0≤Znz (Ze4 (eat l (i-1))) (Ze4 (eat l i)))
def nmI (l:List Ety):Nat→Nat→Bool→Bool
  | 0,_,n=>n
  | m+1,i,n=>nmI l m (i+1) (n || !P3 (eat l i).name)
def fmI (l:List Ety):Nat→Nat→Bool→Bool
  | 0,_,f=>f
  | m+1,i,f=>fmI l m (i+1) (f || !Zbp (eat l i).mode||ordB l i)
theorem Yb1 (l:List Ety):∀ (m i z:Nat) (n f d:Bool),(Zhc l m i (Z4s n f d) z).1=Z4s (nmI l m i n) (fmI l m i f) (d||tw l m i):=by
  intro m
  induction m with
  | zero=>intro i z n f d;rw [Zhc,nmI,fmI,tw,Ytg]
  | succ m ih =>
    intro i z n f d
    have e:Zbc [Z4s n f d,Zol (eat l i),Zom (eat l i),Zgk l i,Zmk l i]=Z4s (n || !P3 (eat l i).name) (f || !Zbp (eat l i).mode||ordB l i) (d||decide ((eat l i).name∈(l.take i).map (·.name))):=Yb0 _ _ _ _ _ _ _
    rw [Zhc,e,ih,nmI,fmI,tw]
    simp only [Bool.or_assoc]
def errT (n f d s:Bool):Int:=Zbc [if n then 3 else 0,if f then 4 else 0,if d then 8 else 0,if s then 2 else 0]
theorem Z6y (l:List Ety) (h:l.length≤4096):Zbq l=errT (nmI l l.length 0 false) (fmI l l.length 0 false) (tw l l.length 0) (decide (1048576<(G4 l).length)):=by
  have h2:=Zzu l l.length 0 0 0 (by omega)
  have h1:=Yb1 l l.length 0 0 false false false
  rw [show Z4s false false false=0 from rfl,Ysj] at h1
  rw [Zbq,if_neg (by omega),h1,h2,Yq0,Yrp]
  generalize nmI l l.length 0 false=a
  generalize fmI l l.length 0 false=b
  generalize tw l l.length 0=c
  generalize decide (1048576<(G4 l).length)=d
  cases a<;>cases b<;>cases c<;>cases d<;>rfl
theorem if_e (b:Bool) (e:Int):S E F.L9 [.bool b,.int .i64 e] []=some (.int .i64 (if b then e else 0),[]):=Zy9
theorem Yjz {l:List Ety} {B:Nat} (hb:∀ i,(eat l i).name.length≤B) (hB:B≤1000000000) (hl:l.length≤4096) (k:List It):∀ (m i:Nat) (n f:Bool),i+m=l.length →
    X E [.tmp 2] (.c L.J5.x0::.lp [0,3,4,10,11,12] L.J5.x0::.blk 0::k) ⟨[(0,.lst (I8 l) l.length),(3,.bool n),(4,.bool f),(10,.lst (I8 l) l.length),(11,.int .i64 l.length),(12,.int .i64 i)],[]⟩ =
    X E [.tmp 2] k ⟨[(0,.lst (I8 l) l.length),(3,.bool (nmI l m i n)),(4,.bool (fmI l m i f)),(10,.lst (I8 l) l.length),(11,.int .i64 l.length),(12,.int .i64 l.length),(13,.bool false)],[]⟩:=by
  intro m
  induction m with
  | zero =>
    intro i n f h
    obtain rfl:i=l.length:=by omega
    rw [G9 L.J5.x0.eq_1,nmI,fmI]
    simp -dsimp (disch:=first|omega|(simp only [A5,A2,A3]<;>omega)|fail) only [go_sem,reduceIte,reduceCtorEq,B2,B3,B4,B5,B6,B7,B8,B9,C0,C1,C2,C3,C4,C5,C6,C7,C8,C9,D0,A4]
  | succ m ih =>
    intro i n f h
    have hlt:i<l.length:=by omega
    have h1:=ih (i+1) (n || !P3 (eat l i).name) (f || !Zbp (eat l i).mode||ordB l i) (by omega)
    simp only [Ysn,Ysh] at h1
    have hnm:=Yij (s:=(eat l i).name) (by have:=hb i;omega)
    have hmd:=Ypg (eat l i).mode
    have o1:=Ybz (a:=eat l (i-1)) (b:=eat l i) (by have:=hb (i-1);omega) (by have:=hb i;omega)
    rw [G9 L.J5.x0.eq_1,nmI,fmI,←h1]
    unfold ordB
    by_cases hi:0<i
    · have e1:((i:Int)-1).toNat=i-1:=by omega
      cases n<;>cases f<;>cases hM:Zbp (eat l i).mode<;>simp -dsimp (disch:=first|omega|(simp only [A5,A2,A3]<;>omega)|fail) only [go_sem,reduceIte,reduceCtorEq,B2,B3,B4,B5,B6,B7,B8,B9,C0,C1,C2,C3,C4,C5,C6,C7,C8,C9,D0,A4,hnm,hmd,o1,hi,e1,hM,decide_true,Ysi,Ysj,Ytf,Ysa,Ysb]
    · cases n<;>cases f<;>cases hM:Zbp (eat l i).mode<;>simp -dsimp (disch:=first|omega|(simp only [A5,A2,A3]<;>omega)|fail) only [go_sem,reduceIte,reduceCtorEq,B2,B3,B4,B5,B6,B7,B8,B9,C0,C1,C2,C3,C4,C5,C6,C7,C8,C9,D0,A4,hnm,hmd,hi,hM,decide_false,Ysk,Ysj,Ytf,Ytg,Ysa,Ysb]
theorem Zzx {l:List Ety} {B:Nat} (hb:∀ i,(eat l i).name.length≤B) (hB:B≤1000000000) (hm:∀ i,-9223372036854775808≤(eat l i).mode∧(eat l i).mode≤9223372036854775807) (hl:l.length≤1000000000) :
    S E F.J5 [.lst (I8 l) l.length] []=some (.int .i64 (Zbq l),[]):=by
  rw [S_of Zsi rfl rfl]
  by_cases hlen:4096<l.length
  · rw [Zbq,if_pos hlen]
    simp -dsimp (disch:=first|omega|(simp only [A5,A2,A3]<;>omega)|fail) only [L.J5,go_sem,reduceIte,reduceCtorEq,B2,B3,B4,B5,B6,B7,B8,B9,C0,C1,C2,C3,C4,C5,C6,C7,C8,C9,D0,A4,hlen]
  · have h:=Yjz hb hB (by omega) [.c L.J5.r0] l.length 0 false false (by omega)
    have ht:=Yjy (l:=l) (by omega)
    have hT:=Zon hb hB (by omega) hm
    have hle:=Yjw hb
    have hle2:(G4 l).length≤4096*(B+60):=Yp7 hle (Yqv _ (by omega))
    have hL:=Zlb (l:=[if nmI l l.length 0 false then 3 else 0,if fmI l l.length 0 false then 4 else 0,if tw l l.length 0 then 8 else 0,if decide (1048576<(G4 l).length) then 2 else 0]) (by simp)
    simp only [N8,Yqq,Ytb,Yqm,Yrj] at hL
    rw [show Zbc [if nmI l l.length 0 false then 3 else 0,if fmI l l.length 0 false then 4 else 0,if tw l l.length 0 then 8 else 0,if decide (1048576<(G4 l).length) then 2 else 0]=Zbq l from (Z6y l (by omega)).symm] at hL
    simp only [Ysh] at h
    have q1:=if_e (nmI l l.length 0 false) 3
    have q2:=if_e (fmI l l.length 0 false) 4
    have q3:=if_e (tw l l.length 0) 8
    have q4:S E F.L9 [.bool (decide (1048576<((G4 l).length:Int))),.int .i64 2] []=some (.int .i64 (if decide (1048576<(G4 l).length) then 2 else 0),[]):=by
      rw [show decide (1048576<((G4 l).length:Int))=decide (1048576<(G4 l).length) from decide_eq_decide.2 (by omega)];exact if_e _ _
    simp -dsimp (disch:=first|omega|(simp only [A5,A2,A3]<;>omega)|fail) only [L.J5,go_sem,reduceIte,reduceCtorEq,B2,B3,B4,B5,B6,B7,B8,B9,C0,C1,C2,C3,C4,C5,C6,C7,C8,C9,D0,A4,hlen]
    rw [h]
    generalize nmI l l.length 0 false=a1 at *
    generalize fmI l l.length 0 false=a2 at *
    generalize tw l l.length 0=a3 at *
    generalize (if a1=true then (3:Int) else 0)=b1 at *
    generalize (if a2=true then (4:Int) else 0)=b2 at *
    generalize (if a3=true then (8:Int) else 0)=b3 at *
    generalize (if decide (1048576<(G4 l).length)=true then (2:Int) else 0)=b4 at *
    simp -dsimp (disch:=first|omega|(simp only [A5,A2,A3]<;>omega)|fail) only [L.J5.r0,go_sem,reduceIte,reduceCtorEq,B2,B3,B4,B5,B6,B7,B8,B9,C0,C1,C2,C3,C4,C5,C6,C7,C8,C9,D0,A4,BYs,q1,q2,q3,q4,ht,hT,hL]
end Cod
namespace Cod
open Go
def ocS (v:Int) (c:UInt8):Int:=8*v+((c.toNat:Int)-48)
def ocL:List UInt8→Int→Int
  | [],v=>v
  | c::r,v=>if c.toNat<48∨55<c.toNat then -1 else ocL r (ocS v c)
def Zip (s:List UInt8):Int:=if s=[] then 0 else if 6<s.length then -1 else ocL s 0
theorem oc_l0 {s:List UInt8} (hs:s.length≤6):∀ (m i:Nat) (v:Int),i+m=s.length→0≤v→v<8^i →
    X E [.tmp 2] (.c L.G6.x0::.lp [0,3,4] L.G6.x0::.blk 0::[.c L.G6.r0]) ⟨[(0,.str s),(3,.int .i64 v),(4,.int .i64 i)],[]⟩=some (.int .i64 (ocL (s.drop i) v),[]):=by
  intro m
  induction m with
  | zero =>
    intro i v hi h0 h1
    obtain rfl:i=s.length:=by omega
    rw [G9 L.G6.x0.eq_1,Yst,ocL]
    simp -dsimp (disch:=first|omega|(simp only [A5,A2,A3]<;>omega)|fail) only [go_sem,reduceIte,reduceCtorEq,B2,B3,B4,B5,B6,B7,B8,B9,C0,C1,C2,C3,C4,C5,C6,C7,C8,C9,D0,A4,L.G6.r0]
  | succ m ih =>
    intro i v hi h0 h1
    have hp:i<s.length:=by omega
    have hd:s.drop i=s.getD i 0::s.drop (i+1):=by
      rw [Yr9 hp];simp [hp]
    rw [G9 L.G6.x0.eq_1,hd,ocL]
    have hb:=R4 s i
    have he:bat s i=((s.getD i 0).toNat:Int):=rfl
    have hpow:(8:Int)^i≤8^6:=by exact_mod_cast Nat.pow_le_pow_right (by omega) (by omega)
    have hS:ocS v (s.getD i 0)=8*v+(bat s i-48):=rfl
    rw [hS]
    by_cases hc:(s.getD i 0).toNat<48∨55<(s.getD i 0).toNat
    · rw [if_pos hc]
      by_cases hc1:bat s i<48
      · simp -dsimp (disch:=first|omega|(simp only [A5,A2,A3]<;>omega)|fail) only [go_sem,reduceIte,reduceCtorEq,B2,B3,B4,B5,B6,B7,B8,B9,C0,C1,C2,C3,C4,C5,C6,C7,C8,C9,D0,A4,hp,hc1]
      · have hc2:55<bat s i:=by rw [he] at hc1 ⊢;omega
        simp -dsimp (disch:=first|omega|(simp only [A5,A2,A3]<;>omega)|fail) only [go_sem,reduceIte,reduceCtorEq,B2,B3,B4,B5,B6,B7,B8,B9,C0,C1,C2,C3,C4,C5,C6,C7,C8,C9,D0,A4,hp,hc1,hc2]
    · rw [if_neg hc]
      have hc1:¬ bat s i<48:=by rw [he];omega
      have hc2:¬ 55<bat s i:=by rw [he];omega
      have h1:=ih (i+1) (8*v+(bat s i-48)) (by omega) (by omega) (by rw [Int.pow_succ];omega)
      simp only [Ysn,Ysh] at h1
      rw [←h1]
      have hw:IntKind.u8.wrap (bat s i-48)=bat s i-48:=by rw [Zcz];omega
      simp -dsimp (disch:=first|omega|(simp only [A5,A2,A3]<;>omega)|fail) only [go_sem,reduceIte,reduceCtorEq,B2,B3,B4,B5,B6,B7,B8,B9,C0,C1,C2,C3,C4,C5,C6,C7,C8,C9,D0,A4,hp,hc1,hc2,hw]
theorem Yj0 {s:List UInt8}:S E F.G6 [.str s] []=some (.int .i64 (Zip s),[]):=by
  rw [S_of Ztb rfl rfl]
  unfold Zip
  by_cases h0:s=[]
  · subst h0
    simp -dsimp (disch:=first|omega|(simp only [A5,A2,A3]<;>omega)|fail) only [L.G6,L.G6.x0,L.G6.r0,go_sem,reduceIte,reduceCtorEq,B2,B3,B4,B5,B6,B7,B8,B9,C0,C1,C2,C3,C4,C5,C6,C7,C8,C9,D0,A4]
  · rw [if_neg h0]
    have hpos:0<s.length:=by cases s with|nil=>exact absurd rfl h0|cons=>simp
    by_cases h1:6<s.length
    · rw [if_pos h1]
      have hb:=R4 s 0
      by_cases hc1:bat s 0<48
      · simp -dsimp (disch:=first|omega|(simp only [A5,A2,A3]<;>omega)|fail) only [L.G6,L.G6.x0,go_sem,reduceIte,reduceCtorEq,B2,B3,B4,B5,B6,B7,B8,B9,C0,C1,C2,C3,C4,C5,C6,C7,C8,C9,D0,A4,hpos,hc1]
      · by_cases hc2:55<bat s 0
        · simp -dsimp (disch:=first|omega|(simp only [A5,A2,A3]<;>omega)|fail) only [L.G6,L.G6.x0,go_sem,reduceIte,reduceCtorEq,B2,B3,B4,B5,B6,B7,B8,B9,C0,C1,C2,C3,C4,C5,C6,C7,C8,C9,D0,A4,hpos,hc1,hc2]
        · simp -dsimp (disch:=first|omega|(simp only [A5,A2,A3]<;>omega)|fail) only [L.G6,L.G6.x0,go_sem,reduceIte,reduceCtorEq,B2,B3,B4,B5,B6,B7,B8,B9,C0,C1,C2,C3,C4,C5,C6,C7,C8,C9,D0,A4,hpos,hc1,hc2,h1]
    · rw [if_neg h1]
      have h2:=oc_l0 (s:=s) (by omega) s.length 0 0 (by omega) (by omega) (by simp)
      simp only [Ysh,Yrp] at h2
      simp -dsimp (disch:=first|omega|(simp only [A5,A2,A3]<;>omega)|fail) only [L.G6,go_sem,reduceIte,reduceCtorEq,B2,B3,B4,B5,B6,B7,B8,B9,C0,C1,C2,C3,C4,C5,C6,C7,C8,C9,D0,A4,h2]
def spI (l:List UInt8) (c:UInt8):Nat→Nat→Nat
  | 0,i=>i
  | m+1,i=>if l.getD i 0=c then i else spI l c m (i+1)
theorem Yj1 (l:List UInt8) (c:UInt8):∀ (m i:Nat),i≤spI l c m i∧spI l c m i≤i+m:=by
  intro m
  induction m with
  | zero=>intro i;simp [spI]
  | succ m ih=>intro i;rw [spI];have:=ih (i+1);split<;>omega
theorem Z6z {l:List UInt8} {i:Nat} (c:UInt8) {n:Int} (h:(c.toNat:Int)=n):(bat l i != n) = !decide (l.getD i 0=c):=by
  have e:bat l i=((l.getD i 0).toNat:Int):=rfl
  rw [e,←h]
  by_cases hc:l.getD i 0=c
  · rw [hc,decide_eq_true rfl];simp
  · have h2:¬ ((l.getD i 0).toNat:Int)=c.toNat:=fun e=>hc (UInt8.toNat_inj.1 (by omega))
    rw [decide_eq_false hc]
    simpa [bne_iff_ne] using h2
theorem nx_l0 {l:List UInt8} (hl:l.length≤1048576) (k:List It):∀ (m i:Nat),i+m=l.length→∃ v,
    X E [.cell 2 (some 34),.tmp 3,.tmp 4] (.c L.E7.x0::.lp [0,2,5] L.E7.x0::.blk 0::k) ⟨[(0,.lst (A1 l) l.length),(2,.ref (.s 1000000 0) 0 0),(5,.int .i64 i)],[(.s 1000000 0,⟨0,true,true,true,(default:Ety).cells⟩)]⟩ =
    X E [.cell 2 (some 34),.tmp 3,.tmp 4] k ⟨[(0,.lst (A1 l) l.length),(2,.ref (.s 1000000 0) 0 0),(5,.int .i64 (spI l 32 m i)),(19,v)],[(.s 1000000 0,⟨0,true,true,true,(default:Ety).cells⟩)]⟩:=by
  intro m
  induction m with
  | zero =>
    intro i hi
    obtain rfl:i=l.length:=by omega
    refine ⟨.bool false,?_⟩
    rw [G9 L.E7.x0.eq_1,spI]
    simp -dsimp (disch:=first|omega|(simp only [A5,A2,A3]<;>omega)|fail) only [go_sem,reduceIte,reduceCtorEq,B2,B3,B4,B5,B6,B7,B8,B9,C0,C1,C2,C3,C4,C5,C6,C7,C8,C9,D0,A4,BYs]
  | succ m ih =>
    intro i hi
    obtain ⟨v,hv⟩:=ih (i+1) (by omega)
    simp only [Ysn,Ysh] at hv
    have hlt:i<l.length:=by omega
    by_cases hc:l.getD i 0=32
    · refine ⟨.bool false,?_⟩
      have hb:(bat l i != 32)=false:=by rw [Z6z 32 (n:=32) rfl,decide_eq_true hc];rfl
      rw [G9 L.E7.x0.eq_1,spI,if_pos hc]
      simp -dsimp (disch:=first|omega|(simp only [A5,A2,A3]<;>omega)|fail) only [go_sem,reduceIte,reduceCtorEq,B2,B3,B4,B5,B6,B7,B8,B9,C0,C1,C2,C3,C4,C5,C6,C7,C8,C9,D0,A4,BYs,hb]
    · refine ⟨v,?_⟩
      have hb:(bat l i != 32)=true:=by rw [Z6z 32 (n:=32) rfl,decide_eq_false hc];rfl
      rw [G9 L.E7.x0.eq_1,spI,if_neg hc,←hv]
      simp -dsimp (disch:=first|omega|(simp only [A5,A2,A3]<;>omega)|fail) only [go_sem,reduceIte,reduceCtorEq,B2,B3,B4,B5,B6,B7,B8,B9,C0,C1,C2,C3,C4,C5,C6,C7,C8,C9,D0,A4,BYs,hb]
theorem nx_l1 {l:List UInt8} (hl:l.length≤1048576) (k:List It) {a:Nat}:∀ (m i:Nat),i+m=l.length→∃ v,
    X E [.cell 2 (some 34),.tmp 3,.tmp 4] (.c L.E7.x1::.lp [0,2,5,6] L.E7.x1::.blk 2::k) ⟨[(0,.lst (A1 l) l.length),(2,.ref (.s 1000000 0) 0 0),(5,.int .i64 a),(6,.int .i64 i)],[(.s 1000000 0,⟨0,true,true,true,(default:Ety).cells⟩)]⟩ =
    X E [.cell 2 (some 34),.tmp 3,.tmp 4] k ⟨[(0,.lst (A1 l) l.length),(2,.ref (.s 1000000 0) 0 0),(5,.int .i64 a),(6,.int .i64 (spI l 0 m i)),(33,v)],[(.s 1000000 0,⟨0,true,true,true,(default:Ety).cells⟩)]⟩:=by
  intro m
  induction m with
  | zero =>
    intro i hi
    obtain rfl:i=l.length:=by omega
    refine ⟨.bool false,?_⟩
    rw [G9 L.E7.x1.eq_1,spI]
    simp -dsimp (disch:=first|omega|(simp only [A5,A2,A3]<;>omega)|fail) only [go_sem,reduceIte,reduceCtorEq,B2,B3,B4,B5,B6,B7,B8,B9,C0,C1,C2,C3,C4,C5,C6,C7,C8,C9,D0,A4,BYs]
  | succ m ih =>
    intro i hi
    obtain ⟨v,hv⟩:=ih (i+1) (by omega)
    simp only [Ysn,Ysh] at hv
    have hlt:i<l.length:=by omega
    by_cases hc:l.getD i 0=0
    · refine ⟨.bool false,?_⟩
      have hb:(bat l i != 0)=false:=by rw [Z6z 0 (n:=0) rfl,decide_eq_true hc];rfl
      rw [G9 L.E7.x1.eq_1,spI,if_pos hc]
      simp -dsimp (disch:=first|omega|(simp only [A5,A2,A3]<;>omega)|fail) only [go_sem,reduceIte,reduceCtorEq,B2,B3,B4,B5,B6,B7,B8,B9,C0,C1,C2,C3,C4,C5,C6,C7,C8,C9,D0,A4,BYs,hb]
    · refine ⟨v,?_⟩
      have hb:(bat l i != 0)=true:=by rw [Z6z 0 (n:=0) rfl,decide_eq_false hc];rfl
      rw [G9 L.E7.x1.eq_1,spI,if_neg hc,←hv]
      simp -dsimp (disch:=first|omega|(simp only [A5,A2,A3]<;>omega)|fail) only [go_sem,reduceIte,reduceCtorEq,B2,B3,B4,B5,B6,B7,B8,B9,C0,C1,C2,C3,C4,C5,C6,C7,C8,C9,D0,A4,BYs,hb]
def mkN (v:Int) (n d:List UInt8):List AV:=.int .i64 v::.str n::A1 d
def idL (l:List UInt8) (b:Nat):Nat→Nat→List UInt8→List UInt8
  | 0,_,d=>d
  | m+1,i,d=>idL l b m (i+1) (d.set i (l.getD (b+1+i) 0))
theorem Yj2 {v:Int} {n d:List UInt8} {i:Nat} {x:UInt8} (h:i<d.length):over (mkN v n d) (2+i) [.int .u8 x.toNat]=mkN v n (d.set i x):=by
  unfold mkN
  have e:UInt8.ofNat ((x.toNat:Int)).toNat=x:=by simp
  rw [show 2+i=i+1+1 by omega,Zid,Zid,Zjz h (by omega) (by have:=x.toNat_lt;omega),e]
theorem Zqv (v:Int) (n d:List UInt8):flats (mkN v n d)=true:=by simp [mkN,flats,K1,O8]
theorem Yj3 (f:Site→Nat→Option (Site × Nat)) (v:Int) (n d:List UInt8):rens f (mkN v n d)=mkN v n d:=rens_flats _ (Zqv v n d)
theorem Yj4 (v:Int) (n d:List UInt8):refsOfs (mkN v n d)=[]:=by simp [mkN,refsOfs,X4,Z6]
theorem Yb2 (v:Int) (n d:List UInt8):J9 (mkN v n d)=true:=by simp [mkN,J9,U2,Z4]
theorem Yb3 (v:Int) (n d:List UInt8):leadss (mkN v n d)=false:=by simp [mkN,leadss,T4,Z5]
attribute [go_sem] Zqv Yj3 Yj4 Yb2 Yb3
theorem Z60 {v:Int} {n d:List UInt8}:(mkN v n d).length=d.length+2:=by simp [mkN,D8]
theorem nx_l2 {l:List UInt8} (hl:l.length≤1048576) (k:List It) {b:Nat} (hb:b+33≤l.length) {z:Int} {nm:List UInt8}:∀ (m i:Nat) (d:List UInt8),i+m=32→d.length=32 →
    X E [.cell 2 (some 34),.tmp 3,.tmp 4] (.c L.E7.x2::.lp [0,2,6,7,8] L.E7.x2::.blk 4::k) ⟨[(0,.lst (A1 l) l.length),(2,.ref (.s 1000000 0) 0 0),(6,.int .i64 b),(7,.ref (.s 1000000 1) 0 0),(8,.int .i64 i)],[(.s 1000000 0,⟨0,true,true,true,(default:Ety).cells⟩),(.s 1000000 1,⟨0,true,true,true,mkN z nm d⟩)]⟩ =
    X E [.cell 2 (some 34),.tmp 3,.tmp 4] k ⟨[(0,.lst (A1 l) l.length),(2,.ref (.s 1000000 0) 0 0),(6,.int .i64 b),(7,.ref (.s 1000000 1) 0 0),(8,.int .i64 32),(60,.bool false)],[(.s 1000000 0,⟨0,true,true,true,(default:Ety).cells⟩),(.s 1000000 1,⟨0,true,true,true,mkN z nm (idL l b m i d)⟩)]⟩:=by
  intro m
  induction m with
  | zero =>
    intro i d hi hd
    obtain rfl:i=32:=by omega
    rw [G9 L.E7.x2.eq_1,idL]
    simp -dsimp (disch:=first|omega|(simp only [A5,A2,A3]<;>omega)|fail) only [go_sem,reduceIte,reduceCtorEq,B2,B3,B4,B5,B6,B7,B8,B9,C0,C1,C2,C3,C4,C5,C6,C7,C8,C9,D0,A4,BYs]
    rfl
  | succ m ih =>
    intro i d hi hd
    have h1:=ih (i+1) (d.set i (l.getD (b+1+i) 0)) (by omega) (by rw [Ysd];exact hd)
    simp only [Ysn,Ysh] at h1
    have e1:((b:Int)+1+i).toNat=b+1+i:=by omega
    have e2:bat l (b+1+i)=((l.getD (b+1+i) 0).toNat:Int):=rfl
    have e3:=Yj2 (v:=z) (n:=nm) (d:=d) (i:=i) (x:=l.getD (b+1+i) 0) (by omega)
    have e4:=Z60 (v:=z) (n:=nm) (d:=d)
    rw [hd] at e4
    rw [G9 L.E7.x2.eq_1,idL,←h1]
    simp -dsimp (disch:=first|omega|(simp only [A5,A2,A3]<;>omega)|fail) only [go_sem,reduceIte,reduceCtorEq,B2,B3,B4,B5,B6,B7,B8,B9,C0,C1,C2,C3,C4,C5,C6,C7,C8,C9,D0,A4,BYs,e1,e2,e3,e4]
theorem idL_eq {l:List UInt8} {b:Nat} (hb:b+33≤l.length):∀ (m i:Nat) (d:List UInt8),i+m=32→d.length=32→idL l b m i d=d.take i++(l.drop (b+1+i)).take m:=by
  intro m
  induction m with
  | zero=>intro i d hi hd;rw [idL,Yqw (by omega)];simp
  | succ m ih =>
    intro i d hi hd
    rw [idL,ih (i+1) _ (by omega) (by rw [Ysd];exact hd)]
    have h1:(d.set i (l.getD (b+1+i) 0)).take (i+1)=d.take i++[l.getD (b+1+i) 0]:=by
      rw [Ytc (by rw [Ysd];omega),List.getElem_set_self,List.take_set_of_le (Yp6 _)]
    have h2:(l.drop (b+1+i)).take (m+1)=l.getD (b+1+i) 0::(l.drop (b+1+(i+1))).take m:=by
      rw [Yr9 (by omega),List.take_succ_cons]
      congr 1
      simp [List.getD,show b+1+i<l.length by omega]
    rw [h1,h2,Yqy]
    rfl
def Zck (l:List UInt8):Nat:=spI l 32 l.length 0
def Zh3 (l:List UInt8):Nat:=spI l 0 (l.length-Zck l) (Zck l)
def Zhd (l:List UInt8):Option (Ety × List UInt8) :=
  if Zck l<Zh3 l∧Zh3 l+33≤l.length then some (mkT (Zip (l.take (Zck l))) (sub l (Zck l+1) (Zh3 l-(Zck l+1))) ((l.drop (Zh3 l+1)).take 32),l.drop (Zh3 l+33)) else none
theorem Yph {v:Int} {n d:List UInt8} (h:d.length=32):mkN v n d=(mkT v n d).cells:=(Zqu h).symm
theorem Yj5 {l:List UInt8} (hl:l.length≤1048576):S E F.E7 [.lst (A1 l) l.length] [] =
    match Zhd l with
    | some (e,r)=>some (.tup [.agg e.cells,.lst (A1 r) r.length,.bool true],[])
    | none=>some (.tup [.agg (default:Ety).cells,.buf (.r 0) 0 0 0 1,.bool false],[(.r 0,⟨0,true,true,false,[]⟩)]):=by
  rw [S_of Zsm rfl rfl]
  obtain ⟨v0,h0⟩:=nx_l0 hl [.c L.E7.r0] l.length 0 (by omega)
  have a1:=Yj1 l 32 l.length 0
  rw [show spI l 32 l.length 0=Zck l from rfl] at h0 a1
  obtain ⟨v1,h1⟩:=nx_l1 hl [.c L.E7.r1] (a:=Zck l) (l.length-Zck l) (Zck l) (by omega)
  have b1:=Yj1 l 0 (l.length-Zck l) (Zck l)
  rw [show spI l 0 (l.length-Zck l) (Zck l)=Zh3 l from rfl] at h1 b1
  simp only [Ysh] at h0
  unfold Zhd
  generalize Zck l=a at *
  generalize Zh3 l=b at *
  simp -dsimp (disch:=first|omega|(simp only [A5,A2,A3]<;>omega)|fail) only [L.E7,go_sem,reduceIte,reduceCtorEq,B2,B3,B4,B5,B6,B7,B8,B9,C0,C1,C2,C3,C4,C5,C6,C7,C8,C9,D0,A4,BYs]
  rw [h0]
  simp -dsimp (disch:=first|omega|(simp only [A5,A2,A3]<;>omega)|fail) only [L.E7.r0,go_sem,reduceIte,reduceCtorEq,B2,B3,B4,B5,B6,B7,B8,B9,C0,C1,C2,C3,C4,C5,C6,C7,C8,C9,D0,A4,BYs]
  rw [h1]
  by_cases c1:a<b
  · by_cases c2:b+33≤l.length
    · rw [if_pos ⟨c1,c2⟩]
      have ho:=Yj0 (s:=l.take a)
      have e1:sub l 0 a=l.take a:=by simp [sub]
      have e7:(l.take a).length=a:=by rw [Yqd];omega
      have e8:(sub l (a+1) (b-(a+1))).length=b-(a+1):=by simp [sub];omega
      have e3:(((b:Int))+33).toNat=b+33:=by omega
      have e4:(((a:Int))+1).toNat=a+1:=by omega
      have g1:((l.drop (b+1)).take 32).length=32:=by rw [Yqd,Yqe];omega
      have g2:=idL_eq c2 32 0 (List.replicate 32 0) (by omega) (by simp)
      rw [Ys5,Yry,Nat.add_zero] at g2
      have g3:sub l (b+33) (l.length-(b+33))=l.drop (b+33):=D6 (by omega)
      have g4:l.length-(b+33)=(l.drop (b+33)).length:=List.length_drop.symm
      have g5:sub l (b+33) (l.drop (b+33)).length=l.drop (b+33):=D6 (by rw [Yqe];omega)
      have g6:=Yph (v:=Zip (l.take a)) (n:=sub l (a+1) (b-(a+1))) g1
      have k1:over (default:Ety).cells 0 [AV.int .i64 (Zip (l.take a))]=mkN (Zip (l.take a)) [] (List.replicate 32 0):=rfl
      have k2:over (mkN (Zip (l.take a)) [] (List.replicate 32 0)) 1 [AV.str (sub l (a+1) (b-(a+1)))]=mkN (Zip (l.take a)) (sub l (a+1) (b-(a+1))) (List.replicate 32 0):=rfl
      have k3:over (default:Ety).cells 0 (mkN (Zip (l.take a)) (sub l (a+1) (b-(a+1))) (List.replicate 32 0))=mkN (Zip (l.take a)) (sub l (a+1) (b-(a+1))) (List.replicate 32 0):=rfl
      have h2:=nx_l2 hl [.c L.E7.r2] c2 (z:=Zip (l.take a)) (nm:=sub l (a+1) (b-(a+1))) 32 0 (List.replicate 32 0) (by omega) (by simp)
      rw [g2,g6] at h2
      simp only [Ysh] at h2
      simp -dsimp (disch:=first|omega|(simp only [A5,A2,A3]<;>omega)|fail) only [L.E7.r1,go_sem,reduceIte,reduceCtorEq,B2,B3,B4,B5,B6,B7,B8,B9,C0,C1,C2,C3,C4,C5,C6,C7,C8,C9,D0,A4,BYs,c1,c2,ho,e1,e3,e4,e7,e8,k1,k2,k3,Z60,Ys6,Nat.sub_zero]
      rw [h2]
      simp -dsimp (disch:=first|omega|(simp only [A5,A2,A3]<;>omega)|fail) only [L.E7.r2,go_sem,reduceIte,reduceCtorEq,B2,B3,B4,B5,B6,B7,B8,B9,C0,C1,C2,C3,C4,C5,C6,C7,C8,C9,D0,A4,BYs,e3,g4,g5]
    · rw [if_neg (fun x=>c2 x.2)]
      simp -dsimp (disch:=first|omega|(simp only [A5,A2,A3]<;>omega)|fail) only [L.E7.r1,go_sem,reduceIte,reduceCtorEq,B2,B3,B4,B5,B6,B7,B8,B9,C0,C1,C2,C3,C4,C5,C6,C7,C8,C9,D0,A4,BYs,c1,c2]
  · rw [if_neg (fun x=>c1 x.1)]
    simp -dsimp (disch:=first|omega|(simp only [A5,A2,A3]<;>omega)|fail) only [L.E7.r1,go_sem,reduceIte,reduceCtorEq,B2,B3,B4,B5,B6,B7,B8,B9,C0,C1,C2,C3,C4,C5,C6,C7,C8,C9,D0,A4,BYs,c1]
end Cod
namespace Cod
open Go Go.RowKit Go.Proofs Go.Shelf
set_option maxRecDepth 1000000
set_option maxHeartbeats 6400000 in
theorem Yj6 {l:List Ety} (hl:Zem l) {p:Option Addr} {b0 o0 cap:Nat} {w:World} (hW:Zar w) (hv:VR (ctx [] LaE w) (.lst (I8 l) l.length) (.slice p l.length cap)) (hp:0<l.length→p=some ⟨b0,o0,none⟩) (hrow:∀ k,k<l.length→w.rangeAt b0 (o0+k*34) (Zfm (eat l k))) (hb0:0<l.length→b0<w.heap.size) :
    Calls Tryz.prog 11 #[.slice p l.length cap] w fun e w'=>Below w.heap.size w w'∧((Zbq l≠0∧e=.returned (.tuple #[.slice none 0 0,.int .i64 (Zbq l)]))∨(Zbq l=0∧∃ v,e=.returned (.tuple #[v,.int .i64 0])∧w'.ownsRow w.heap.size 5 1 v (G4 l).length ((G4 l).map fun b=>Value.int .u8 b.toNat))):=by
  have hi39:(Tryz.prog.info? 58).map (·.size)=some 34:=by kernel_rfl
  by_cases he:Zbq l=0
  · go_enter Tryz.func11,Tryz.ntmps11
    go_wp2_with (go_at_call 41;refine (Zqt hl hW hv).mono ?_;rw [he];rintro e W1 ⟨rfl,hb1⟩)
    go_loopw [15] (fun i wr=>∃ k:Nat,i=.int .i64 k∧k≤l.length∧Lib.IsBuffer 83 5 W1.heap.size W1.heap.size (Lib.byteCells (G4 (l.take k))) wr∧Below W1.heap.size W1 wr) (fun i _=>l.length-(intOf i).toNat)
    case atStart =>
      exact ⟨0,rfl,Nat.zero_le _,⟨Yp6 _,.slice none 0 0,0,heap_alloc_new W1 _,World.ownsRow_nil _ _ _ _,by simp [Value.ownBlock]⟩,(Below.refl _ W1).alloc (Yp6 _) _⟩
    case round =>
      obtain ⟨k,rfl,hk,hI,hbw⟩:=hrel
      have hbel:Below w.heap.size w wr:=hb1.trans ⟨hbw.os,hbw.tape,hbw.output,hbw.size,fun j hj=>hbw.block j (Yp8 hj hb1.size)⟩
      by_cases hlt:k<l.length
      · obtain rfl:=hp (by omega)
        have hb0:=hb0 (by omega)
        have hrange:wr.rangeAt b0 (o0+k*34) (Zfm (eat l k)):=fun j v hj=>(hbel.cell (p:=⟨b0,o0+k*34+j,none⟩) hb0).trans (hrow k hlt j v hj)
        go_upto_region 8 with (first|(refine wpList_load_mid rfl 58 _ rfl b0 (o0+k*34) (by first|rfl|simp [Addr.add_mid]) (Zfm (eat l k)) _ hrange Tryz.underlying58 rfl (by rw [Zd8];exact hi39) ?_)|(refine wpList_store_mid rfl 58 _ _ rfl wr.heap.size 0 (Zfm (eat l k)).toArray (by rfl) (by rfl) ?_ ?_ (Yjt _) ?_))
        · intro j hj
          first|rw [Yqf,Zd8] at hj|rw [Zd8] at hj
          refine ⟨?_,?_⟩
          · simp only [World.cell?,heap_alloc_new]
            rw [if_neg (by simp),Yq0,Array.getElem?_eq_getElem (by simpa using hj)];rfl
          · simp only [World.frozen?,heap_alloc_new]
            simp
        · first|(rw [Yqf,Zd8];exact hi39)|rw [Zd8]
        · refine Zzt (p:=Code.wp _ _ _ _) (T:=58) (vals:=Zfm (eat l k)) (by rw [Zd8];rfl) ?_
          intro W3 hva
          have hn1:wr.heap.size<W3.heap.size:=by rw [hva.size];omega
          have c0:W3.cell? ⟨wr.heap.size,0,none⟩=some (.int .i64 (eat l k).mode):=hva.cell 0 _ rfl
          have c1:W3.cell? ⟨wr.heap.size,1,none⟩=some (.string ⟨(eat l k).name.toArray⟩):=hva.cell 1 _ rfl
          have hI3:=hI.old hva.below
          have hb3:Below w.heap.size w W3:=hbel.trans ⟨hva.below.os,hva.below.tape,hva.below.output,hva.below.size,fun j hj=>hva.below.block j (Yp8 hj hbel.size)⟩
          have hS3:Zar W3:=hW.below hb3
          have hm:=hl.2.1 k
          have hF:Calls Tryz.prog 43 #[.int .i64 (eat l k).mode,.int .i64 8] W3.drew fun e W4=>e=.returned (.string ⟨(P4 (eat l k).mode).toArray⟩)∧W4.cell? ⟨wr.heap.size,1,none⟩=some (.string ⟨(eat l k).name.toArray⟩)∧Below wr.heap.size wr W4∧W3.heap.size≤W4.heap.size∧(∀ j,j<W3.heap.size→W4.heap[j]? = W3.heap[j]?):=by
            have hSd:Zar W3.drew:=hS3.below ⟨rfl,rfl,rfl,Yp6 _,fun _ _=>rfl⟩
            refine (Ybt hm.1 hm.2 hSd).mono ?_
            rintro e W4 ⟨rfl,hb4x⟩
            have hb4:Below W3.heap.size W3 W4:=⟨hb4x.os,hb4x.tape,hb4x.output,hb4x.size,hb4x.block⟩
            exact ⟨rfl,(hb4.cell (p:=⟨wr.heap.size,1,none⟩) hn1).trans c1,hva.below.trans ⟨hb4.os,hb4.tape,hb4.output,hb4.size,fun j hj=>hb4.block j (by omega)⟩,hb4.size,hb4.block⟩
          have hts:=Zav he
          have htk:=Z4q l k
          have hol:=Zg6 (eat l k).mode
          have hnl:=hl.1 k
          obtain ⟨T1,hT1⟩:∃ T1:ByteArray,T1=⟨(P4 (eat l k).mode).toArray⟩:=⟨_,rfl⟩
          obtain ⟨T2,hT2⟩:∃ T2:ByteArray,T2=⟨(eat l k).name.toArray⟩:=⟨_,rfl⟩
          have z1:T1.size≤23:=by rw [hT1];simpa [ByteArray.size] using hol
          have z2:T2.size≤1000000000:=by rw [hT2];simpa [ByteArray.size] using hnl
          rw [←hT1,←hT2] at hF
          rw [←hT2] at c1
          have d1:T1.data.toList=P4 (eat l k).mode:=by rw [hT1]
          have d2:T2.data.toList=(eat l k).name:=by rw [hT2]
          clear hT1 hT2
          have g1:¬ 9223372036854775807<T1.size+1:=by omega
          have g2:¬ 9223372036854775807<T1.size+1+T2.size:=by omega
          have g3:¬ 9223372036854775807<T1.size+1+T2.size+1:=by omega
          have g4:¬ 9223372036854775807≤T1.size:=by omega
          have g5:¬ 9223372036854775807≤T1.size+1+T2.size:=by omega
          go_region_with (first|(go_at_call 43;refine hF.mono ?_;rintro e W4 ⟨rfl,c1',hb4,hz4,hk4⟩;have hI4:=hI.old hb4)|(go_at_call 42;refine Calls.mono (Tryz.Buffer_WriteString_kept W1.heap.size W1.heap.size _ _ W4 hI4 (by have:=hbw.size;have:=hb4.size;omega) (Zhw _) (by rw [Lib.byteCells_length];simp only [ByteArray.size_append];have e1:(⟨#[32]⟩:ByteArray).size=1:=rfl;have e2:(⟨#[0]⟩:ByteArray).size=1:=rfl;omega)) ?_;rintro e W5 ⟨rfl,hI5,hb5,hk5⟩))
          all_goals have hsrc:=src_id hva (by decide) hI.lt hk4 hk5
          all_goals go_wp2_with (go_at_call 44;refine Calls.mono (Tryz.Buffer_Write_any W1.heap.size W1.heap.size _ (Lib.byteCells (eat l k).id) ⟨wr.heap.size,2,none⟩ 32 32 W5 hI5 (by have:=hbw.size;have:=hb4.size;have:=hb5.size;omega) (by rw [Zll];exact Zhw _) (by rw [Lib.byteCells_length];exact (eat l k).hid) (by have:=hI.lt;show wr.heap.size≠W1.heap.size;omega) hsrc (Zhw _) (by rw [Yqx,Lib.byteCells_length,Lib.byteCells_length,Zzv d1 d2];simp only [Yqx,Yqm,Yrj];omega)) ?_;rintro e W6 ⟨rfl,hI6,hb6,hk6⟩)
          all_goals rw [Yjv hlt d1 d2] at hI6
          all_goals go_roundw
          all_goals first
            | exact ⟨k+1,by rw [Ze2 (by have:=hl.2.2;omega)],by omega,hI6,hbw.trans ((K4 hb4 hbw.size).trans (hb5.trans hb6))⟩
            | (rw [Ze2 (by have:=hl.2.2;omega)];simp only [intOf];omega)
      · obtain rfl:k=l.length:=by omega
        rw [List.take_length] at hI
        go_wp2_with (go_at_call 45;refine (Tryz.Buffer_Bytes W1.heap.size W1.heap.size _ wr hI).mono ?_;rintro e W2 ⟨v,rfl,hown,n,rfl⟩)
        go_ret2
        refine ⟨hbel.trans ⟨rfl,rfl,rfl,Yp6 _,fun _ _=>rfl⟩,.inr ⟨he,v,rfl,?_⟩⟩
        have e1:Lib.byteCells (G4 l)=(G4 l).map fun b=>Value.int .u8 b.toNat:=rfl
        rw [e1,Yru] at hown
        exact Ybx hown hb1.size
  · go_enter Tryz.func11,Tryz.ntmps11
    go_wp2_with (go_at_call 41;refine (Zqt hl hW hv).mono ?_;rintro e W1 ⟨rfl,hb1⟩)
    go_ret2
    exact ⟨hb1,.inl ⟨he,rfl⟩⟩
end Cod
namespace Cod
open Go Go.RowKit Go.Proofs Go.Shelf
set_option maxRecDepth 1000000
set_option maxHeartbeats 2000000 in
theorem Yj7 (b:Nat) (w:World) (h0:w.cell? ⟨b,0,none⟩=some (.pointer none)) (hsh:w.shape? b=some (123,2)) (hfz:w.frozen? ⟨b,0,none⟩=false) :
    Calls Tryz.prog 114 #[.pointer (some ⟨b,0,none⟩)] w fun e w'=>e=.returned (.tuple #[])∧w'=w.setCell ⟨b,0,none⟩ (.pointer (some ⟨b,0,none⟩)):=by
  obtain ⟨j,hj,hjs⟩:=Option.map_eq_some_iff.1 Tryz.Builder_Extra_169.sizeBuilder
  go_enter Tryz.func114,Tryz.ntmps114
  go_wp2
  rw [Lib.run_to_unsafe w ⟨b,0,none⟩ Tryz.underlying121 Tryz.underlying190 hj (by rw [hjs];decide) hsh (Nat.zero_lt_succ 1)]
  simp only [Result.andThen]
  rw [Oper.upon_value]
  go_wp2
  rw [run_callFunc_extern Tryz.func152 (by kernel_rfl) (by kernel_rfl) (by kernel_rfl) (e:=Extern.AbiNoEscape.same) (by kernel_rfl)]
  rw [Lib.run_noEscape]
  simp only [Result.andThen]
  rw [Oper.upon_value]
  go_wp2
  rw [Lib.run_from_unsafe w ⟨b,0,none⟩ Tryz.underlying190 Tryz.underlying121 hj hsh Tryz.Builder_Extra_169.liesBuilder]
  simp only [Result.andThen]
  rw [Oper.upon_value]
  go_wp2
  go_end0
  exact ⟨rfl,rfl⟩
set_option maxHeartbeats 2000000 in
theorem Ypi (b:Nat) (w:World) (h0:w.cell? ⟨b,0,none⟩=some (.pointer (some ⟨b,0,none⟩))) :
    Calls Tryz.prog 114 #[.pointer (some ⟨b,0,none⟩)] w fun e w'=>e=.returned (.tuple #[])∧w'=w:=by
  obtain ⟨j,hj,_⟩:=Option.map_eq_some_iff.1 Tryz.Builder_Extra_169.sizeBuilder
  go_enter Tryz.func114,Tryz.ntmps114
  go_wp2
  rw [Lib.run_neq_ptr_same w _ Tryz.underlying121 hj]
  go_wp2
  go_end0
  exact ⟨rfl,rfl⟩
theorem bc_k (B b:Nat) (bs:List Value) (w:World) (h:Lib.IsBuilderF 123 5 B b bs w) :
    Calls Tryz.prog 114 #[.pointer (some ⟨b,0,none⟩)] w fun e w'=>e=.returned (.tuple #[])∧(Lib.BuilderAtF 123 5 B b (.pointer (some ⟨b,0,none⟩)) bs w'∧Below B w w'∧Lib.OthersKept 5 (some b) w w'):=by
  rcases h with h|h
  · refine (Yj7 b w h.cell0 h.shape h.frozen0).mono ?_
    rintro e w' ⟨rfl,rfl⟩
    exact ⟨rfl,h.used _,(Below.refl B w).setCell (p:=⟨b,0,none⟩) h.1 _,(Lib.OthersKept.refl _ _ w).setCell ⟨b,0,none⟩ rfl _⟩
  · refine (Ypi b w h.cell0).mono ?_
    rintro e w' ⟨rfl,rfl⟩
    exact ⟨rfl,h,Below.refl B _,Lib.OthersKept.refl _ _ _⟩
set_option maxHeartbeats 2000000 in
theorem Yj8 (B b:Nat) (bs:List Value) (c:Int) (w:World) (h:Lib.IsBuilderF 123 5 B b bs w) (hlen:bs.length+1≤140737488355328) (hBw:B≤w.heap.size) :
    Calls Tryz.prog 102 #[.pointer (some ⟨b,0,none⟩),.int .u8 c] w fun e w'=>e=.returned .nilIface∧(Lib.BuilderAtF 123 5 B b (.pointer (some ⟨b,0,none⟩)) (bs++[.int .u8 c]) w'∧Below B w w'∧Lib.OthersKept 5 (some b) w w'):=by
  obtain ⟨i0,hi,hz0,hz1,hz2⟩:=info_parts Tryz.Builder_Extra_169.infoByte
  go_enter Tryz.func102,Tryz.ntmps102
  go_wp2_with (go_at_call 114;refine (bc_k B b bs _ h).mono ?_)
  rintro e w1 ⟨rfl,h1,hb1,hk1⟩
  obtain ⟨hB,v,hbk,hown,hne⟩:=h1
  have c0:w1.cell? ⟨b,0,none⟩=some (.pointer (some ⟨b,0,none⟩)):=by rw [Lib.cell_of_heap hbk];rfl
  have c1:w1.cell? ⟨b,1,none⟩=some v:=by rw [Lib.cell_of_heap hbk];rfl
  go_wp2_with (at_builtin;refine wpList_append_ownF _ rfl _ _ 23 rfl B 5 i0 (.int .u8 0) 1 1 Tryz.underlying23 hi hz0 hz1 hz2 rfl (by decide) _ _ _ rfl (hown.alloc _) ⟨w1.heap.size,0,none⟩ 1 1 [.int .u8 c] rfl rfl ?c1 ?c2 ?c3 ?c4 ?c5 ?_)
  case c1 =>
    intro j u hj
    match j,hj with
    | 0,hj=>simp at hj;subst hj;simp [Addr.add]
  case c2=>intro u hu;simp at hu;subst hu;rfl
  case c3=>unfold maxLen;omega
  case c4=>omega
  case c5=>have:=hb1.size;simp;omega
  intro v' w2 hown' hgrow _
  have hlt:b<w1.heap.size:=by
    rcases Nat.lt_or_ge b w1.heap.size with h'|h'
    · exact h'
    · simp [Array.getElem?_eq_none h'] at hbk
  have hb2:w2.heap[b]? = some (.cells #[.pointer (some ⟨b,0,none⟩),v] 123 (0,0)):=by
    rw [hgrow.block b (by simp;omega) (fun e=>hne e.symm),Lib.alloc_old w1 _ b hlt]
    exact hbk
  have d0:w2.cell? ⟨b,0,none⟩=some (.pointer (some ⟨b,0,none⟩)):=by rw [Lib.cell_of_heap hb2];rfl
  have d1:w2.cell? ⟨b,1,none⟩=some v:=by rw [Lib.cell_of_heap hb2];rfl
  have f1:w2.frozen? ⟨b,1,none⟩=false:=Lib.frozen_of_heap hb2 1
  obtain ⟨g,cap,rfl⟩:∃ g cap,v'=.slice (some ⟨g,0,none⟩) (bs.length+1) cap:=by
    rcases hown'.2 with ⟨_,h0⟩|⟨g,cap,cur,fz,hv,_⟩
    · omega
    · exact ⟨g,cap,hv⟩
  go_wp2
  go_ret
  refine ⟨rfl,?_,?_,((hk1.alloc _).grown hgrow (Lib.ownsRowF_kind (hown.alloc _))).setCell ⟨b,1,none⟩ rfl _⟩
  · exact Lib.BuilderAtF.put (T:=123) (e:=5) hB hb2 (bs':=bs++[.int .u8 c]) (by simpa using hown') Tryz.Builder_Extra_169.neB5
  · exact ((hb1.alloc (by have:=hb1.size;omega) _).grown hgrow (by have:=hb1.size;simp;omega) (fun k hk=>(hown.lt k hk).1)).setCell (p:=⟨b,1,none⟩) hB _
set_option maxHeartbeats 2000000 in
theorem Zoo (B b:Nat) (bs:List Value) (s:ByteArray) (w:World) (h:Lib.IsBuilderF 123 5 B b bs w) (hlen:bs.length+s.size≤140737488355328) (hBw:B≤w.heap.size) :
    Calls Tryz.prog 70 #[.pointer (some ⟨b,0,none⟩),.string s] w fun e w'=>e=.returned (.tuple #[.int .i64 s.size,.nilIface])∧(Lib.BuilderAtF 123 5 B b (.pointer (some ⟨b,0,none⟩)) (bs++Lib.strCells s) w'∧Below B w w'∧Lib.OthersKept 5 (some b) w w'):=by
  obtain ⟨i0,hi,hz0,hz1,hz2⟩:=info_parts Tryz.Builder_Extra_169.infoByte
  go_enter Tryz.func70,Tryz.ntmps70
  go_wp2_with (go_at_call 114;refine (bc_k B b bs _ h).mono ?_)
  rintro e w1 ⟨rfl,h1,hb1,hk1⟩
  obtain ⟨hB,v,hbk,hown,hne⟩:=h1
  have c0:w1.cell? ⟨b,0,none⟩=some (.pointer (some ⟨b,0,none⟩)):=by rw [Lib.cell_of_heap hbk];rfl
  have c1:w1.cell? ⟨b,1,none⟩=some v:=by rw [Lib.cell_of_heap hbk];rfl
  go_wp2_with (at_builtin;refine Lib.wpList_append_own_stringF _ rfl _ _ 23 9 rfl B 5 i0 Tryz.underlying23 Tryz.underlying9 hi hz0 hz1 hz2 _ _ _ rfl hown s rfl ?c3 ?c4 ?c5 ?_)
  case c3=>unfold maxLen;omega
  case c4=>omega
  case c5=>have:=hb1.size;omega
  intro v' w2 hown' hgrow _
  have hlt:b<w1.heap.size:=by
    rcases Nat.lt_or_ge b w1.heap.size with h'|h'
    · exact h'
    · simp [Array.getElem?_eq_none h'] at hbk
  have hb2:w2.heap[b]? = some (.cells #[.pointer (some ⟨b,0,none⟩),v] 123 (0,0)):=by
    rw [hgrow.block b hlt (fun e=>hne e.symm)]
    exact hbk
  have d0:w2.cell? ⟨b,0,none⟩=some (.pointer (some ⟨b,0,none⟩)):=by rw [Lib.cell_of_heap hb2];rfl
  have d1:w2.cell? ⟨b,1,none⟩=some v:=by rw [Lib.cell_of_heap hb2];rfl
  have f1:w2.frozen? ⟨b,1,none⟩=false:=Lib.frozen_of_heap hb2 1
  obtain ⟨ao,n',cap,rfl⟩:∃ ao n' cap,v'=.slice ao n' cap:=by
    rcases hown'.2 with ⟨hv,_⟩|⟨g,cap,cur,fz,hv,_⟩
    · exact ⟨_,_,_,hv⟩
    · exact ⟨_,_,_,hv⟩
  go_wp2
  go_ret2
  refine ⟨rfl,?_,?_,(hk1.grown hgrow (Lib.ownsRowF_kind hown)).setCell ⟨b,1,none⟩ rfl _⟩
  · exact Lib.BuilderAtF.put (T:=123) (e:=5) hB hb2 (bs':=bs++Lib.strCells s) (by simpa [Lib.strCells_length] using hown') Tryz.Builder_Extra_169.neB5
  · exact (hb1.grown hgrow (by have:=hb1.size;omega) (fun k hk=>(hown.lt k hk).1)).setCell (p:=⟨b,1,none⟩) hB _
end Cod
namespace Cod
open Go Go.RowKit Go.Proofs Go.Shelf
set_option maxRecDepth 1000000
theorem Zzy (i:Nat) (h:i<16):∀ W,(Instr.index 9 (.string ⟨#[48,49,50,51,52,53,54,55,56,57,97,98,99,100,101,102]⟩) (.int .u8 (i:Int))).run Tryz.prog W=.ok (.int .u8 (Zf9 i).toNat) W:=by
  intro W
  rw [run_index_string W 9 _ .u8 _ Tryz.underlying9,dif_pos ⟨by omega,by show (i:Int)<16;omega⟩]
  have:∀ j:Fin 16,∀ h,((⟨#[48,49,50,51,52,53,54,55,56,57,97,98,99,100,101,102]⟩:ByteArray)[((j.val:Nat):Int).toNat]'h)=Zf9 j.val:=by decide
  rw [this ⟨i,h⟩]
theorem and15 (x:UInt8):bits .and .u8 (x.toNat:Int) 15=((x.toNat%16:Nat):Int):=by
  have key:∀ n:Nat,n<256→bits .and .u8 (n:Int) 15=((n%16:Nat):Int):=by decide +kernel
  exact key _ x.toNat_lt
set_option maxHeartbeats 4000000 in
theorem Zlm {id:List UInt8} (hid:id.length=32) {w:World} :
    Calls Tryz.prog 59 #[.agg (Lib.byteCells id).toArray] w fun e w'=>e=.returned (.string ⟨(O9 id).toArray⟩)∧Below w.heap.size w w':=by
  have hi35:(Tryz.prog.info? 35).map (·.size)=some (Lib.byteCells id).length:=by rw [Lib.byteCells_length,hid];kernel_rfl
  go_enter Tryz.func59,Tryz.ntmps59
  go_upto_region 3 with (refine wpList_load_mid rfl 35 _ rfl w.heap.size 0 (by rfl) (Lib.byteCells id) _ ?_ Tryz.underlying35 rfl hi35 ?_)
  · intro j v hj
    have hh:((w.alloc (Obj.cells (Lib.byteCells id).toArray 35)).alloc (Obj.cells #[Value.pointer none,Value.slice none 0 0] 123)).heap[w.heap.size]? = some (.cells (Lib.byteCells id).toArray 35):=(Lib.alloc_old _ _ _ (by simp)).trans (heap_alloc_new _ _)
    rw [Lib.cell_of_heap hh]
    simpa using hj
  · have hb0:Lib.BuilderAtF 123 5 w.heap.size (w.heap.size+1) (.pointer none) [] ((w.alloc (Obj.cells (Lib.byteCells id).toArray 35)).alloc (Obj.cells #[Value.pointer none,Value.slice none 0 0] 123)):=by
      refine ⟨by omega,.slice none 0 0,?_,World.ownsRowF_nil _ _ _ _,by simp [Value.ownBlock]⟩
      have:=heap_alloc_new (w.alloc (Obj.cells (Lib.byteCells id).toArray 35)) (Obj.cells #[Value.pointer none,Value.slice none 0 0] 123)
      simpa using this
    have hbel:Below w.heap.size w ((w.alloc (Obj.cells (Lib.byteCells id).toArray 35)).alloc (Obj.cells #[Value.pointer none,Value.slice none 0 0] 123)):=((Below.refl _ w).alloc (Yp6 _) _).alloc (by simp) _
    have hsz:w.heap.size≤((w.alloc (Obj.cells (Lib.byteCells id).toArray 35)).alloc (Obj.cells #[Value.pointer none,Value.slice none 0 0] 123)).heap.size:=hbel.size
    generalize ((w.alloc (Obj.cells (Lib.byteCells id).toArray 35)).alloc (Obj.cells #[Value.pointer none,Value.slice none 0 0] 123))=W1 at *
    go_loopw [7] (fun i wr=>∃ k:Nat,i=.int .i64 k∧k≤32∧Lib.IsBuilderF 123 5 w.heap.size (w.heap.size+1) (Lib.byteCells (O9 (id.take k))) wr∧Below w.heap.size w wr) (fun i _=>32-(intOf i).toNat)
    case atStart=>exact ⟨0,rfl,by omega,.inl hb0,hbel⟩
    case round =>
      obtain ⟨k,rfl,hk,hI,hbw⟩:=hrel
      by_cases hlt:k<32
      · have hx:(Lib.byteCells id)[k]? = some (.int .u8 (id.getD k 0).toNat):=by
          rw [Lib.byteCells,List.getElem?_map,List.getElem?_eq_getElem (by omega)]
          simp [List.getD,show k<id.length by omega]
        have hT:id.take (k+1)=id.take k++[id.getD k 0]:=by
          rw [Ytc (by omega)]
          simp [List.getD,show k<id.length by omega]
        generalize id.getD k 0=x at hx hT
        have hix:∀ W,(Instr.index 35 (.agg (Lib.byteCells id).toArray) (.int .i64 (k:Int))).run Tryz.prog W=.ok (.int .u8 x.toNat) W:=fun W=>by
          simp [Instr.index,run_underlying Tryz.underlying35,asIntOf,hlt,hx,go_sem]
        have hd1:=Zzy (x.toNat/16) (by have:=x.toNat_lt;omega)
        have hd2:=Zzy (x.toNat%16) (by omega)
        rw [←and15] at hd2
        simp only [Int.natCast_ediv,Ysh] at hd1
        have hl:(O9 (id.take k)).length=2*k:=by
          rw [Zae,Yqd];omega
        have hl1:(Lib.byteCells (O9 (id.take k))).length+1≤140737488355328:=by rw [Lib.byteCells_length];omega
        go_wp2_with (go_at_call 102;refine (Yj8 _ _ _ _ _ hI hl1 hbw.size).mono ?_)
        rintro e W2 ⟨rfl,hA,hb2,_⟩
        have hl2:(Lib.byteCells (O9 (id.take k))++[Value.int .u8 (Zf9 (x.toNat/16)).toNat]).length+1≤140737488355328:=by rw [Yqx,Lib.byteCells_length,List.length_singleton];omega
        go_wp2_with (go_at_call 102;refine (Yj8 _ _ _ _ _ (.inr hA) hl2 (Yp7 hbw.size hb2.size)).mono ?_)
        rintro e W3 ⟨rfl,hA3,hb3,_⟩
        go_wp2
        refine ⟨⟨k+1,rfl,by omega,.inr ?_,(hbw.trans hb2).trans hb3⟩,by simp [intOf];omega⟩
        rw [hT]
        unfold O9 at hA3 ⊢
        rw [Yte]
        simpa [hexB,Lib.byteCells] using hA3
      · obtain rfl:k=32:=by omega
        have hne:O9 (id.take 32)=O9 id:=by rw [Yqw (by omega)]
        rw [hne] at hI
        go_wp2_with (go_at_call 71;refine (Tryz.Builder_String_any_k _ _ _ _ hI hbw.size).mono ?_)
        rintro e W2 ⟨rfl,_,hb2,_⟩
        go_wp2
        go_ret
        exact ⟨rfl,hbw.trans hb2⟩
end Cod

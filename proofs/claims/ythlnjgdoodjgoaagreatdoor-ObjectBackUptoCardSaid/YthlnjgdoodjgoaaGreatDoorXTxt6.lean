/- The reference's reading of a commit, as a whole. -/
import Derived.Lib.BufferKept
import Derived.Lib.BufferWrite
import Derived.Lib.VarintMem
import Derived.Laws.BitsLemmas
import Derived.Laws.RangeAny
import Derived.Deep.MidRow
import Derived.Laws.IdiomCopy
import Derived.Deep.Cut
import Derived.Deep.RegionWith
import Derived.Lib.BufferOld
import Derived.Shelf.Strings.BuilderK
import Derived.WalkKit
import Derived.BigCall
import Derived.BigGuard
import Derived.Test.YthlnjgdoodjgoaaGreatDoorXTxt5
import Derived.Test.YthlnjgdoodjgoaaGreatDoorXTxt1
import Derived.Test.YthlnjgdoodjgoaaGreatDoorXTxt3
import Derived.Test.YthlnjgdoodjgoaaGreatDoorXTxt2
import Derived.Test.YthlnjgdoodjgoaaGreatDoorXShelf1
import Derived.Test.YthlnjgdoodjgoaaGreatDoorXTxt4
set_option linter.unusedSimpArgs false
set_option linter.unusedVariables false
open List renaming append_nil → Yp5, cons_append → Yna, drop_zero → Yoq, eq_nil_of_length_eq_zero → Ynv, flatMap_append → Yqc, length_append → Yny, length_cons → Ynn, length_map → Yov, length_nil → Yok, length_take → Yne, map_cons → Ynr, map_nil → Yqa, size_toArray → Yng, take_succ_eq_append_getElem → Yqb
open Nat renaming le_refl → Ym7, lt_of_lt_of_le → Ym9, zero_add → Yn1
open Int renaming cast_ofNat_Int → Ypi, natCast_add → Ypo
open Bool renaming not_eq_true → Yp9
open Nat renaming reduceEqDiff → B9, reduceAdd → C0, reduceSub → C1, reduceMul → C2, reduceDiv → C3, reduceMod → C4, reduceBEq → C5, reduceLeDiff → C6, reduceLT → C7
open Int renaming reduceEq → C8, reduceNe → C9, reduceLT → D0, reduceLE → D1, reduceBEq → D2, reduceBNe → D3, reduceToNat → D4, reduceAdd → D5, reduceSub → D6, reduceMul → D7, reduceNeg → A3
namespace Cod
open Go
end Cod
namespace Cod
open Go
theorem Zjk:∀ (n:Nat) (x y:List UInt8) (ks:List Nat) (xs ys:List AV),x.length=n→y.length=n→G3 (List.replicate n 0++ks) (A0 x++xs) (A0 y++ys)=(G3 ks xs ys).map (x==y && ·):=by
  intro n
  induction n with
  | zero =>
    intro x y ks xs ys hx hy
    obtain rfl:=Ynv hx
    obtain rfl:=Ynv hy
    simp [A0]
  | succ n ih =>
    intro x y ks xs ys hx hy
    cases x with
    | nil=>simp at hx
    | cons a x =>
      cases y with
      | nil=>simp at hy
      | cons b y =>
        have h1:=ih x y ks xs ys (by simpa using hx) (by simpa using hy)
        have e1:A0 (a::x)=.int .u8 a.toNat::A0 x:=rfl
        have e2:A0 (b::y)=.int .u8 b.toNat::A0 y:=rfl
        rw [e1,e2,List.replicate_succ,Yna,Yna,Yna]
        simp only [G3,if_true,h1,Option.map_map]
        congr 1
        funext z
        have:((a.toNat:Int)==b.toNat)=(a==b):=by
          by_cases h:a=b
          · subst h;simp
          · have h2:¬ ((a.toNat:Int)=b.toNat):=fun e=>h (UInt8.toNat_inj.1 (by omega))
            rw [beq_eq_false_iff_ne.2 h,beq_eq_false_iff_ne.2 h2]
        simp only [Function.comp,this,List.cons_beq_cons,Bool.and_assoc]
theorem Zhr {x y:List UInt8} (hx:x.length=32) (hy:y.length=32):G3 [0,0,0,0,0,0,0,0,0,0,0,0,0,0,0,0,0,0,0,0,0,0,0,0,0,0,0,0,0,0,0,0] (A0 x) (A0 y)=some (x==y):=by
  have h:=Zjk 32 x y [] [] [] hx hy
  rw [Yp5,Yp5,Yp5] at h
  rw [show [0,0,0,0,0,0,0,0,0,0,0,0,0,0,0,0,0,0,0,0,0,0,0,0,0,0,0,0,0,0,0,0]=List.replicate 32 0 from rfl,h]
  simp [G3]
end Cod
namespace Cod
open Go
theorem Zhs {d:List UInt8} (h:d.length=32):G3 [0,0,0,0,0,0,0,0,0,0,0,0,0,0,0,0,0,0,0,0,0,0,0,0,0,0,0,0,0,0,0,0] (A0 d) (A0 d)=some true:=by
  rw [Zhr h h];simp
theorem Zdw (i:Idt):G3 [2,2,0,0] i.cells i.cells=some true:=by simp [Idt.cells,G3]
theorem si_l0 {l:List Id32} (hl:l.length≤1048576):∀ (m i:Nat),i+m=l.length →
    X E [.tmp 4] (.c L.G9.x0::.lp [0,1,12,13] L.G9.x0::.blk 0::[.c L.G9.r0]) ⟨[(0,.lst (ids l) l.length),(1,.lst (ids l) l.length),(12,.int .i64 l.length),(13,.int .i64 i)],[]⟩=some (.bool true,[]):=by
  intro m
  induction m with
  | zero =>
    intro i h
    obtain rfl:i=l.length:=by omega
    rw [K4 L.G9.x0.eq_1]
    simp -dsimp (disch:=first|omega|(simp only [A4]<;>omega)|fail) only [go_sem,reduceIte,reduceCtorEq,B9,C0,C1,C2,C3,C4,C5,C6,C7,C8,C9,D0,D1,D2,D3,D4,D5,D6,D7,A3,L.G9.r0]
  | succ m ih =>
    intro i h
    have h1:=ih (i+1) (by omega)
    simp only [Ypo,Ypi] at h1
    have hq:=Zhs (iat l i).h
    rw [K4 L.G9.x0.eq_1]
    simp -dsimp (disch:=first|omega|(simp only [A4]<;>omega)|fail) only [go_sem,reduceIte,reduceCtorEq,B9,C0,C1,C2,C3,C4,C5,C6,C7,C8,C9,D0,D1,D2,D3,D4,D5,D6,D7,A3,BYs,hq,h1,Option.map_some,Bool.not_true]
theorem Znj {l:List Id32} (hl:l.length≤1048576):S E F.G9 [.lst (ids l) l.length,.lst (ids l) l.length] []=some (.bool true,[]):=by
  have h:=si_l0 hl l.length 0 (by omega)
  simp only [Ypi] at h
  rw [S_of Zq4 rfl rfl]
  simp -dsimp (disch:=first|omega|(simp only [A4]<;>omega)|fail) only [L.G9,go_sem,reduceIte,reduceCtorEq,B9,C0,C1,C2,C3,C4,C5,C6,C7,C8,C9,D0,D1,D2,D3,D4,D5,D6,D7,A3,h]
theorem Znk:S E F.G9 [.lst [] 0,.lst [] 0] []=some (.bool true,[]):=Znj (l:=[]) (by simp)
theorem Ztk {t m:List UInt8} {v:AV} {a c:Idt} {ps:List Id32} (ht:t.length=32) (hl:ps.length≤1048576) (hv:PV v ps):S E F.M9 [.agg (snR t v a c m),.agg (snR t v a c m)] []=some (.bool true,[]):=by
  have q1:=Zhs ht
  have q2:=Zdw a
  have q3:=Zdw c
  have q4:(m==m)=true:=by simp
  have s1:=Znj hl
  have s2:=Znk
  rw [S_of Zil rfl rfl]
  rcases hv with rfl|⟨_,rfl⟩
  · simp -dsimp (disch:=first|omega|(simp only [A4]<;>omega)|fail) only [L.M9,go_sem,reduceIte,reduceCtorEq,B9,C0,C1,C2,C3,C4,C5,C6,C7,C8,C9,D0,D1,D2,D3,D4,D5,D6,D7,A3,BYs,q1,q2,q3,q4,s1]
  · simp -dsimp (disch:=first|omega|(simp only [A4]<;>omega)|fail) only [L.M9,go_sem,reduceIte,reduceCtorEq,B9,C0,C1,C2,C3,C4,C5,C6,C7,C8,C9,D0,D1,D2,D3,D4,D5,D6,D7,A3,BYs,q1,q2,q3,q4,s2]
end Cod
namespace Cod
open Go
def Zdi (m:Int):Bool:=decide (m=16384)||(decide (m=33188)||(decide (m=33261)||decide (m=40960)))
theorem Ymj {m:Int}:S E F.P1 [.int .i64 m] []=some (.bool (Zdi m),[]):=by
  rw [S_of Zrn rfl rfl]
  unfold Zdi
  by_cases a:m=16384
  · simp -dsimp (disch:=first|omega|(simp only [A4,A2,A8]<;>omega)|fail) only [L.P1,go_sem,reduceIte,reduceCtorEq,B9,C0,C1,C2,C3,C4,C5,C6,C7,C8,C9,D0,D1,D2,D3,D4,D5,D6,D7,A3,a]
  · by_cases b:m=33188
    · simp -dsimp (disch:=first|omega|(simp only [A4,A2,A8]<;>omega)|fail) only [L.P1,go_sem,reduceIte,reduceCtorEq,B9,C0,C1,C2,C3,C4,C5,C6,C7,C8,C9,D0,D1,D2,D3,D4,D5,D6,D7,A3,a,b]
    · by_cases c:m=33261
      · simp -dsimp (disch:=first|omega|(simp only [A4,A2,A8]<;>omega)|fail) only [L.P1,go_sem,reduceIte,reduceCtorEq,B9,C0,C1,C2,C3,C4,C5,C6,C7,C8,C9,D0,D1,D2,D3,D4,D5,D6,D7,A3,a,b,c]
      · by_cases d:m=40960
        · simp -dsimp (disch:=first|omega|(simp only [A4,A2,A8]<;>omega)|fail) only [L.P1,go_sem,reduceIte,reduceCtorEq,B9,C0,C1,C2,C3,C4,C5,C6,C7,C8,C9,D0,D1,D2,D3,D4,D5,D6,D7,A3,a,b,c,d]
        · simp -dsimp (disch:=first|omega|(simp only [A4,A2,A8]<;>omega)|fail) only [L.P1,go_sem,reduceIte,reduceCtorEq,B9,C0,C1,C2,C3,C4,C5,C6,C7,C8,C9,D0,D1,D2,D3,D4,D5,D6,D7,A3,a,b,c,d]
theorem Z19 {s:List UInt8} (h:Q7 s=true):s.length≤100:=by
  unfold Q7 at h
  simp only [Bool.and_eq_true,decide_eq_true_eq] at h
  exact h.1.1.1.1.1.2
theorem Ymk {s:List UInt8}:S E F.K2 [.str s] []=some (.bool (Q7 s),[]):=by
  by_cases h:s.length≤1000000
  · exact K5 ext0 (Yli h)
  · have e:Q7 s=false:=by
      cases hn:Q7 s with
      | false=>rfl
      | true=>have:=Z19 hn;omega
    rw [e,S_of Ziq rfl rfl]
    have e1:(s == [])=false:=by
      cases s with
      | nil=>simp at h
      | cons a t=>rfl
    have e2:(s == [46])=false:=by
      rw [←Yp9,beq_iff_eq];intro he;rw [he] at h;simp at h
    have e3:(s == [46,46])=false:=by
      rw [←Yp9,beq_iff_eq];intro he;rw [he] at h;simp at h
    simp -dsimp (disch:=first|omega|(simp only [A4,A2,A8]<;>omega)|fail) only [L.K2,go_sem,reduceIte,reduceCtorEq,B9,C0,C1,C2,C3,C4,C5,C6,C7,C8,C9,D0,D1,D2,D3,D4,D5,D6,D7,A3,e1,e2,e3]
theorem Zxk {ks:List (List UInt8)} {n:List UInt8} (h:n∈ks):(Zbo ks).set (ks.idxOf n) (.str n)=Zbo ks:=by
  apply List.ext_getElem?
  intro j
  rw [List.getElem?_set]
  split
  · rename_i hj
    subst hj
    have hi:=List.idxOf_lt_length_of_mem h
    rw [if_pos (by simpa [Zbo] using hi)]
    unfold Zbo
    rw [List.getElem?_map,List.getElem?_eq_getElem hi]
    simp [List.getElem_idxOf]
  · rfl
theorem Zxl (vs:List Int) (j:Nat) (v:Int):(N6 vs).set j (.int .i64 v)=N6 (vs.set j v):=by simp [N6,List.map_set]
theorem Zpp (vs:List Int) (v:Int):N6 vs++[.int .i64 v]=N6 (vs++[v]):=by simp [N6]
theorem Ztl {vs:List Int} {j:Nat} {v:Int} (h:vs[j]? = some v):(N6 vs)[j]? = some (.int .i64 v):=by simp [N6,h]
def Znl (e:Ety):Int:=if !Q7 e.name then 3 else 0
def Znm (e:Ety):Int:=if !Zdi e.mode then 4 else 0
def Zff (l:List Ety) (i:Nat):Int:=if decide (0<i)&&decide (0≤Zsl (Zhk (eat l (i-1))) (Zhk (eat l i))) then 4 else 0
def Zlg (l:List Ety) (i:Nat):Int:=if decide ((eat l i).name∈(l.take i).map (·.name)) then 8 else 0
def Zgd (l:List Ety):Nat→Nat→Int→Nat→Int × Nat
  | 0,_,w,z=>(w,z)
  | m+1,i,w,z=>Zgd l m (i+1) (Zcz [w,Znl (eat l i),Znm (eat l i),Zff l i,Zlg l i]) (z+((Z5 (eat l i).mode).length+(eat l i).name.length+34))
theorem ent_l0 {l:List Ety} (hl:l.length≤4096) (hn:∀ i,(eat l i).name.length≤1000000000) (hm:∀ i,-9223372036854775808≤(eat l i).mode∧(eat l i).mode≤9223372036854775807):∀ (m i z:Nat) (w:Int) (ks:List (List UInt8)) (vs:List Int),i+m=l.length→z≤i*2000000000→MapOK ((l.take i).map (·.name)) ks vs →
    ∃ ks' vs',X E [.tmp 2] (.c L.H1.x0::.lp [0,3,4,5,12,13,14] L.H1.x0::.blk 0::[.c L.H1.r0]) ⟨[(0,.lst (Q9 l) l.length),(3,.int .i64 w),(4,.int .i64 z),(5,.mpr (.s 1000000 0) 0),(12,.lst (Q9 l) l.length),(13,.int .i64 l.length),(14,.int .i64 i)],[(.s 1000000 0,⟨0,true,true,true,[.mp (Zbo ks) (N6 vs)]⟩)]⟩ =
    X E [.tmp 2] [.c L.H1.r0] ⟨[(0,.lst (Q9 l) l.length),(3,.int .i64 (Zgd l m i w z).1),(4,.int .i64 (Zgd l m i w z).2),(5,.mpr (.s 1000000 0) 0),(12,.lst (Q9 l) l.length),(13,.int .i64 l.length),(14,.int .i64 l.length),(15,.bool false)],[(.s 1000000 0,⟨0,true,true,true,[.mp (Zbo ks') (N6 vs')]⟩)]⟩:=by
  intro m
  induction m with
  | zero =>
    intro i z w ks vs h hz hM
    obtain rfl:i=l.length:=by omega
    refine ⟨ks,vs,?_⟩
    rw [K4 L.H1.x0.eq_1,Zgd]
    simp -dsimp (disch:=first|omega|(simp only [A4,A2,A8]<;>omega)|fail) only [go_sem,reduceIte,reduceCtorEq,B9,C0,C1,C2,C3,C4,C5,C6,C7,C8,C9,D0,D1,D2,D3,D4,D5,D6,D7,A3,Zap,Zdf,Zdg,Zb5,Zbb,Zed,Zee,Zf4]
  | succ m ih =>
    intro i z w ks vs h hz hM
    have hlt:i<l.length:=by omega
    have hf:=Zm2 (hm i).1 (hm i).2
    have hol:=Zm0 (eat l i).mode
    have hnl:=hn i
    have hnm:=Ymk (s:=(eat l i).name)
    have hmd:=Ymj (m:=(eat l i).mode)
    have w1:S E F.E2 [.bool (!Q7 (eat l i).name),.int .i64 3] []=some (.int .i64 (Znl (eat l i)),[]):=Q2
    have w2:S E F.E2 [.bool (!Zdi (eat l i).mode),.int .i64 4] []=some (.int .i64 (Znm (eat l i)),[]):=Q2
    have wl:=Zi5 (l:=[w,Znl (eat l i),Znm (eat l i),Zff l i,Zlg l i]) (by simp)
    simp only [N6,Ynr,Yqa,Ynn,Yok] at wl
    have htake:(l.take (i+1)).map (·.name)=(l.take i).map (·.name)++[(eat l i).name]:=by
      rw [Yqb hlt,List.map_append]
      simp [eat,List.getD,hlt]
    have hseen:((l.take i).map (·.name)).length≤4096:=by rw [Yov,Yne];omega
    rw [K4 L.H1.x0.eq_1,Zgd]
    by_cases hin:(eat l i).name∈ks
    · obtain ⟨v,hv,v1,v2,hM2⟩:=hM.old hin
      rw [←htake] at hM2
      have hv2:=Ztl hv
      have hw:IntKind.i64.wrap (v+1)=v+1:=wrap_i64 (by omega) (by omega)
      have hv3:(N6 (vs.set (ks.idxOf (eat l i).name) (v+1)))[ks.idxOf (eat l i).name]? = some (.int .i64 (v+1)):=Ztl (by
        rw [List.getElem?_set,if_pos rfl,if_pos (List.getElem?_eq_some_iff.1 hv).1])
      have hfk:Z9 true (.str (eat l i).name) (Zbo ks) 0=some (some (ks.idxOf (eat l i).name)):=by rw [Zhl,if_pos hin,Yn1]
      have w4:S E F.E2 [.bool true,.int .i64 8] []=some (.int .i64 (Zlg l i),[]):=by
        have e:Zlg l i=8:=by unfold Zlg;rw [decide_eq_true ((hM.mem _).1 hin)];rfl
        rw [e];exact Q2 (b:=true)
      obtain ⟨ks',vs',ih2⟩:=ih (i+1) (z+((Z5 (eat l i).mode).length+(eat l i).name.length+34)) (Zcz [w,Znl (eat l i),Znm (eat l i),Zff l i,Zlg l i]) ks _ (by omega) (by omega) hM2
      simp only [Ypo,Ypi] at ih2
      refine ⟨ks',vs',?_⟩
      by_cases hi0:0<i
      · have o1:=Zoy (a:=eat l (i-1)) (b:=eat l i) (by have:=hn (i-1);omega) (by omega)
        have w3:S E F.E2 [.bool (decide (0≤Zsl (Zhk (eat l (i-1))) (Zhk (eat l i)))),.int .i64 4] []=some (.int .i64 (Zff l i),[]):=by
          have e:Zff l i=if decide (0≤Zsl (Zhk (eat l (i-1))) (Zhk (eat l i)))=true then 4 else 0:=by unfold Zff;rw [decide_eq_true hi0,Bool.true_and]
          rw [e];exact Q2
        have e1:(if (i:Int)-1<0 then (0:Int) else (i:Int)-1)=((i-1:Nat):Int):=by rw [if_neg (by omega)];omega
        simp -dsimp (disch:=first|omega|(simp only [A4,A2,A8]<;>omega)|fail) only [go_sem,reduceIte,reduceCtorEq,B9,C0,C1,C2,C3,C4,C5,C6,C7,C8,C9,D0,D1,D2,D3,D4,D5,D6,D7,A3,Zap,Zdf,Zdg,Zb5,Zbb,Zed,Zee,Zf4,hf,hnm,hmd,hv2,hv3,hw,hfk,Zxk hin,Zxl,w1,w2,w3,w4,hi0,o1,wl,e1,Y4,ih2]
      · have w3:S E F.E2 [.bool false,.int .i64 4] []=some (.int .i64 (Zff l i),[]):=by
          have e:Zff l i=0:=by unfold Zff;rw [decide_eq_false hi0];rfl
          rw [e];exact Q2 (b:=false)
        simp -dsimp (disch:=first|omega|(simp only [A4,A2,A8]<;>omega)|fail) only [go_sem,reduceIte,reduceCtorEq,B9,C0,C1,C2,C3,C4,C5,C6,C7,C8,C9,D0,D1,D2,D3,D4,D5,D6,D7,A3,Zap,Zdf,Zdg,Zb5,Zbb,Zed,Zee,Zf4,hf,hnm,hmd,hv2,hv3,hw,hfk,Zxk hin,Zxl,w1,w2,w3,w4,hi0,wl,ih2]
    · have hM2:=hM.new hin
      rw [←htake] at hM2
      have hfk:Z9 true (.str (eat l i).name) (Zbo ks) 0=some none:=by rw [Zhl,if_neg hin]
      have hfk2:Z9 true (.str (eat l i).name) (Zbo (ks++[(eat l i).name])) 0=some (some ks.length):=by
        rw [Zhl,if_pos (by simp),List.idxOf_append,if_neg hin]
        simp
      have hv3:(N6 (vs++[1]))[ks.length]? = some (.int .i64 1):=Ztl (by rw [←hM.len,List.getElem?_append_right (Ym7 _),Nat.sub_self];rfl)
      have w4:S E F.E2 [.bool false,.int .i64 8] []=some (.int .i64 (Zlg l i),[]):=by
        have e:Zlg l i=0:=by unfold Zlg;rw [decide_eq_false (fun x=>hin ((hM.mem _).2 x))];rfl
        rw [e];exact Q2 (b:=false)
      obtain ⟨ks',vs',ih2⟩:=ih (i+1) (z+((Z5 (eat l i).mode).length+(eat l i).name.length+34)) (Zcz [w,Znl (eat l i),Znm (eat l i),Zff l i,Zlg l i]) _ _ (by omega) (by omega) hM2
      simp only [Ypo,Ypi] at ih2
      refine ⟨ks',vs',?_⟩
      by_cases hi0:0<i
      · have o1:=Zoy (a:=eat l (i-1)) (b:=eat l i) (by have:=hn (i-1);omega) (by omega)
        have w3:S E F.E2 [.bool (decide (0≤Zsl (Zhk (eat l (i-1))) (Zhk (eat l i)))),.int .i64 4] []=some (.int .i64 (Zff l i),[]):=by
          have e:Zff l i=if decide (0≤Zsl (Zhk (eat l (i-1))) (Zhk (eat l i)))=true then 4 else 0:=by unfold Zff;rw [decide_eq_true hi0,Bool.true_and]
          rw [e];exact Q2
        have e1:(if (i:Int)-1<0 then (0:Int) else (i:Int)-1)=((i-1:Nat):Int):=by rw [if_neg (by omega)];omega
        simp -dsimp (disch:=first|omega|(simp only [A4,A2,A8]<;>omega)|fail) only [go_sem,reduceIte,reduceCtorEq,B9,C0,C1,C2,C3,C4,C5,C6,C7,C8,C9,D0,D1,D2,D3,D4,D5,D6,D7,A3,Zap,Zdf,Zdg,Zb5,Zbb,Zed,Zee,Zf4,hf,hnm,hmd,hv3,hfk,hfk2,Zpp,w1,w2,w3,w4,hi0,o1,wl,e1,Y4,ih2]
      · have w3:S E F.E2 [.bool false,.int .i64 4] []=some (.int .i64 (Zff l i),[]):=by
          have e:Zff l i=0:=by unfold Zff;rw [decide_eq_false hi0];rfl
          rw [e];exact Q2 (b:=false)
        simp -dsimp (disch:=first|omega|(simp only [A4,A2,A8]<;>omega)|fail) only [go_sem,reduceIte,reduceCtorEq,B9,C0,C1,C2,C3,C4,C5,C6,C7,C8,C9,D0,D1,D2,D3,D4,D5,D6,D7,A3,Zap,Zdf,Zdg,Zb5,Zbb,Zed,Zee,Zf4,hf,hnm,hmd,hv3,hfk,hfk2,Zpp,w1,w2,w3,w4,hi0,wl,ih2]
def Zdk (l:List Ety):Int:=if 4096<l.length then 2 else Zcz [(Zgd l l.length 0 0 0).1,if decide (1048576<(Zgd l l.length 0 0 0).2) then 2 else 0]
theorem entI_z (l:List Ety) (hn:∀ i,(eat l i).name.length≤1000000000):∀ (m i z:Nat) (w:Int),z≤i*2000000000→(Zgd l m i w z).2≤(i+m)*2000000000:=by
  intro m
  induction m with
  | zero=>intro i z w h;exact h
  | succ m ih =>
    intro i z w h
    rw [Zgd]
    have:=ih (i+1) (z+((Z5 (eat l i).mode).length+(eat l i).name.length+34)) (Zcz [w,Znl (eat l i),Znm (eat l i),Zff l i,Zlg l i]) (by have:=hn i;have:=Zm0 (eat l i).mode;omega)
    rw [show i+(m+1)=i+1+m by omega]
    exact this
theorem Z2a {l:List Ety} (hn:∀ i,(eat l i).name.length≤1000000000) (hm:∀ i,-9223372036854775808≤(eat l i).mode∧(eat l i).mode≤9223372036854775807) (hl:l.length≤1000000000):S E F.H1 [.lst (Q9 l) l.length] []=some (.int .i64 (Zdk l),[]):=by
  rw [S_of Zq9 rfl rfl]
  unfold Zdk
  by_cases hlen:4096<l.length
  · rw [if_pos hlen]
    simp -dsimp (disch:=first|omega|(simp only [A4,A2,A8]<;>omega)|fail) only [L.H1,go_sem,reduceIte,reduceCtorEq,B9,C0,C1,C2,C3,C4,C5,C6,C7,C8,C9,D0,D1,D2,D3,D4,D5,D6,D7,A3,hlen]
  · rw [if_neg hlen]
    obtain ⟨ks,vs,h⟩:=ent_l0 (l:=l) (by omega) hn hm l.length 0 0 0 [] [] (by omega) (by omega) (by simpa using MapOK.nil)
    have hz:=entI_z l hn l.length 0 0 0 (by omega)
    simp only [Ypi,show Zbo []=[] from rfl,show N6 []=[] from rfl] at h
    simp -dsimp (disch:=first|omega|(simp only [A4,A2,A8]<;>omega)|fail) only [L.H1,go_sem,reduceIte,reduceCtorEq,B9,C0,C1,C2,C3,C4,C5,C6,C7,C8,C9,D0,D1,D2,D3,D4,D5,D6,D7,A3,hlen]
    rw [h]
    generalize (Zgd l l.length 0 0 0).1=w at *
    generalize (Zgd l l.length 0 0 0).2=z at *
    have w1:S E F.E2 [.bool (decide (1048576<(z:Int))),.int .i64 2] []=some (.int .i64 (if decide (1048576<z) then 2 else 0),[]):=by
      rw [show decide (1048576<(z:Int))=decide (1048576<z) from decide_eq_decide.2 (by omega)];exact Q2
    have wl:=Zi5 (l:=[w,if decide (1048576<z) then 2 else 0]) (by simp)
    simp only [N6,Ynr,Yqa,Ynn,Yok] at wl
    simp -dsimp (disch:=first|omega|(simp only [A4,A2,A8]<;>omega)|fail) only [L.H1.r0,go_sem,reduceIte,reduceCtorEq,B9,C0,C1,C2,C3,C4,C5,C6,C7,C8,C9,D0,D1,D2,D3,D4,D5,D6,D7,A3,w1,wl]
end Cod
namespace Cod
open Go Go.RowKit Go.Proofs Go.Shelf
set_option maxRecDepth 1000000
def Znn (e:Ety):List UInt8:=Z5 e.mode++[32]++e.name++[0]++e.id
def I1 (l:List Ety):List UInt8:=l.flatMap Znn
def Zbs (l:List Ety):Prop:=(∀ i,(eat l i).name.length≤1000000000)∧(∀ i,-9223372036854775808≤(eat l i).mode∧(eat l i).mode≤9223372036854775807)∧l.length≤1000000000
theorem Zpq {l:List Ety} (hl:Zbs l) {a:Option Addr} {cap:Nat} {w:World} (hW:Y5 w) (hv:VR (ctx [] LaE w) (.lst (Q9 l) l.length) (.slice a l.length cap)) :
    Calls Tryz.prog 41 #[.slice a l.length cap] w fun e w'=>e=.returned (.int .i64 (Zdk l))∧Below w.heap.size w w' :=
  Zgt Tryz.func41 (by rfl) (by kernel_rfl) (Z2a hl.1 hl.2.1 hl.2.2) hW (vs:=[.slice a l.length cap]) (by simp only [VRL];exact ⟨_,_,rfl,hv,rfl⟩) (fun c z hz=>by simpa [VR] using hz)
theorem Z9b {m:Int} (h0 : -9223372036854775808≤m) (h1:m≤9223372036854775807) {w:World} (hW:Y5 w) :
    Calls Tryz.prog 43 #[.int .i64 m,.int .i64 8] w fun e w'=>e=.returned (.string ⟨(Z5 m).toArray⟩)∧Below w.heap.size w w' :=
  Zgt Tryz.func43 (by rfl) (by kernel_rfl) (Zm2 h0 h1) hW (vs:=[.int .i64 m,.int .i64 8]) (by simp [VRL,VR]) (fun c z hz=>by simpa [VR] using hz)
def Zei (e:Ety):List Value:=.int .i64 e.mode::.string ⟨e.name.toArray⟩::Lib.byteCells e.id
theorem Zc6 (e:Ety):(Zei e).length=34:=by simp [Zei,Lib.byteCells_length,e.hid]
theorem Yg6 (e:Ety):(Zei e).toArray.all (·.oneCell')=true:=by
  rw [Array.all_eq_true_iff_forall_mem]
  intro v hv
  simp only [List.mem_toArray,Zei,List.mem_cons] at hv
  rcases hv with rfl|rfl|hv
  · rfl
  · rfl
  · unfold Lib.byteCells at hv
    obtain ⟨b,_,rfl⟩:=List.mem_map.1 hv
    rfl
theorem Z9c {c:Ctx}:∀ {l:List UInt8} {vs:List Value},VRL c (A0 l) vs→vs=Lib.byteCells l:=by
  intro l
  induction l with
  | nil=>intro vs h;simp only [A0,Yqa,VRL] at h;rw [h];rfl
  | cons a l ih =>
    intro vs h
    simp only [A0,Ynr,VRL] at h
    obtain ⟨v,r,rfl,h1,h2⟩:=h
    rw [ih h2]
    simp only [VR] at h1
    rw [h1];rfl
theorem Z9d {c:Ctx} {b o:Nat} {e:Ety} (h:VRC c b o e.cells):c.w.rangeAt b o (Zei e):=by
  obtain ⟨vs,h1,h2⟩:=Zd2 h
  unfold Ety.cells at h1
  simp only [VRL,VR] at h1
  obtain ⟨v0,r0,rfl,rfl,v1,r1,rfl,rfl,h3⟩:=h1
  rw [Z9c h3] at h2
  exact h2
theorem Z2b {B b:Nat} (hb:B≤b):∀ (vs:List Value) (o:Nat) {W w:World},Below B W w→Below B W (w.setCells b o vs):=by
  intro vs
  induction vs with
  | nil=>intro o W w h;exact h
  | cons v r ih=>intro o W w h;exact ih (o+1) (h.setCell (p:=⟨b,o,none⟩) hb v)
theorem Z9e (b:Nat):∀ (vs:List Value) (o:Nat) (w:World),(w.setCells b o vs).heap.size=w.heap.size:=by
  intro vs
  induction vs with
  | nil=>intro o w;rfl
  | cons v r ih=>intro o w;show ((w.setCell _ v).setCells b (o+1) r).heap.size=_;rw [ih];simp [World.setCell]
theorem Yg7 {b:Nat} {T:TypeId}:∀ (vs:List Value) (o:Nat) (w:World),(∃ cs fr,w.heap[b]? = some (.cells cs T fr))→∃ cs fr,(w.setCells b o vs).heap[b]? = some (.cells cs T fr):=by
  intro vs
  induction vs with
  | nil=>intro o w h;exact h
  | cons v r ih =>
    intro o w h
    refine ih (o+1) _ ?_
    obtain ⟨cs,fr,h⟩:=h
    refine ⟨cs.setIfInBounds o v,fr,?_⟩
    simp only [World.setCell,Array.getElem?_modify,if_true,h]
    rfl
theorem Z9f {w:World} {B B':Nat} {e sz n:Nat} {v:Value} {xs:List Value} (h:w.ownsRow B e sz v n xs) (hB:B'≤B):w.ownsRow B' e sz v n xs:=by
  obtain ⟨h1,h2⟩:=h
  refine ⟨h1,?_⟩
  rcases h2 with h2|⟨g,cap,cur,q1,q2,q3⟩
  · exact .inl h2
  · exact .inr ⟨g,cap,cur,q1,Nat.le_trans hB q2,q3⟩
structure VarAt (wr W3:World) (T:TypeId) (vals:List Value):Prop where
  below:Below wr.heap.size wr W3
  size:W3.heap.size=wr.heap.size+1
  cell:∀ j v,vals[j]? = some v→W3.cell? ⟨wr.heap.size,j,none⟩=some v
  row:∃ cs fr,W3.heap[wr.heap.size]? = some (.cells cs T fr)
theorem Z9g (wr:World) (z:Array Value) (T:TypeId) (vals:List Value) (hz:z.size=vals.length):VarAt wr ((wr.alloc (.cells z T)).setCells wr.heap.size 0 vals) T vals:=by
  have hc:∀ j,j<vals.length→((wr.alloc (.cells z T)).cell? ⟨wr.heap.size,0+j,none⟩).isSome=true:=by
    intro j hj
    simp only [World.cell?,heap_alloc_new]
    rw [if_neg (by simp),Yn1,Array.getElem?_eq_getElem (by omega)]
    rfl
  refine ⟨Z2b (Ym7 _) _ _ ((Below.refl _ wr).alloc (Ym7 _) _),?_,?_,Yg7 _ _ _ ⟨_,_,heap_alloc_new wr _⟩⟩
  · rw [Z9e];exact Array.size_push _
  · intro j v hv
    have hj:=(List.getElem?_eq_some_iff.1 hv).1
    have:=World.cell?_setCells_in wr.heap.size vals 0 _ hc j hj
    rw [Yn1] at this
    rw [this]
    rw [List.getElem?_eq_getElem hj] at hv
    exact hv
theorem Zxm {wr:World} {z:Array Value} {T:TypeId} {vals:List Value} (hz:z.size=vals.length) {p:World→Prop} (h:∀ W3,VarAt wr W3 T vals→p W3):p ((wr.alloc (.cells z T)).setCells wr.heap.size 0 vals):=h _ (Z9g wr z T vals hz)
theorem Zxn (e:Ety):(Znn e).length=(Z5 e.mode).length+e.name.length+34:=by
  unfold Znn;simp [e.hid];omega
theorem Z2c (l:List Ety) (k:Nat):(I1 (l.take k)).length≤(I1 l).length:=by
  have h:I1 l=I1 (l.take k)++I1 (l.drop k):=by unfold I1;rw [←Yqc,List.take_append_drop]
  rw [h,Yny];omega
theorem Z2d {l:List Ety} {k:Nat} (h:k<l.length):I1 (l.take (k+1))=I1 (l.take k)++Znn (eat l k):=by
  rw [Yqb h]
  unfold I1
  rw [Yqc]
  simp [eat,List.getD,h]
theorem Zxo (l:List Ety):∀ (m i z:Nat) (w:Int),i+m=l.length→(Zgd l m i w z).2=z+(I1 (l.drop i)).length:=by
  intro m
  induction m with
  | zero =>
    intro i z w h
    rw [List.drop_eq_nil_of_le (by omega)]
    simp [Zgd,I1]
  | succ m ih =>
    intro i z w h
    have hlt:i<l.length:=by omega
    rw [Zgd,ih (i+1) _ _ (by omega),List.drop_eq_getElem_cons hlt]
    have he:eat l i=l[i]:=by simp [eat,List.getD,hlt]
    have e2:I1 (l[i]::l.drop (i+1))=Znn l[i]++I1 (l.drop (i+1)):=by unfold I1;rw [List.flatMap_cons]
    rw [e2,Yny,Zxn,he]
    omega
theorem lst2_0 (w:Int):Zlc 0 w=w:=by
  unfold Zlc
  by_cases h:w=0
  · rw [h];simp
  · rw [if_pos ⟨h,.inl rfl⟩]
theorem minE2 {w e:Int} (h:Zcz [w,e]=0):e=0:=by
  have h1:Zlc (Zlc 0 w) e=0:=h
  rw [lst2_0] at h1
  unfold Zlc at h1
  by_cases he:e=0
  · exact he
  · split at h1
    · exact h1
    · rename_i h2
      exact absurd ⟨he,.inl h1⟩ h2
theorem Zge {l:List Ety} (h:Zdk l=0):(I1 l).length≤1048576:=by
  unfold Zdk at h
  split at h
  · omega
  · have h2:=minE2 h
    rw [Zxo l l.length 0 0 0 (by omega),Yoq] at h2
    split at h2
    · omega
    · rename_i h3
      simp at h3
      omega
theorem Zg2:∀ (l:List UInt8),∀ v∈Lib.byteCells l,v.oneCell'=true:=by
  intro l v hv
  unfold Lib.byteCells at hv
  obtain ⟨b,_,rfl⟩:=List.mem_map.1 hv
  rfl
theorem src_id {wr W3 W4 W5:World} {e:Ety} {T:TypeId} {b:Nat} (hva:VarAt wr W3 T (Zei e)) (hT:T≠5) (hb:b<wr.heap.size) (hk4:∀ j,j<W3.heap.size→W4.heap[j]? = W3.heap[j]?) (hk5:Lib.OthersKept 5 (some b) W4 W5) :
    ∀ j v,(Lib.byteCells e.id)[j]? = some v→W5.cell? ((⟨wr.heap.size,2,none⟩:Addr).add j)=some v:=by
  intro j v hj
  obtain ⟨cs,fr,hr⟩:=hva.row
  have hn1:wr.heap.size<W3.heap.size:=by rw [hva.size];omega
  have h4:W4.heap[wr.heap.size]? = some (.cells cs T fr):=(hk4 _ hn1).trans hr
  have h5:=hk5 _ _ h4 (by simp;omega) (fun c fz h=>by cases h;exact hT rfl)
  have hc:=hva.cell (j+2) v (by simpa [Zei] using hj)
  rw [Addr.add_mid]
  simp only [World.cell?,hr,h5] at hc ⊢
  rw [Nat.add_comm];exact hc
theorem Zxp {T1 T2:ByteArray} {m:Int} {n:List UInt8} (d1:T1.data.toList=Z5 m) (d2:T2.data.toList=n):(T1++⟨#[32]⟩++T2++⟨#[0]⟩).data.toList=Z5 m++[32]++n++[0]:=by
  simp only [ByteArray.data_append,Array.toList_append,d1,d2]
theorem Zkj (a b:List UInt8):Lib.byteCells a++Lib.byteCells b=Lib.byteCells (a++b):=by simp [Lib.byteCells]
theorem Yg8 {T1 T2:ByteArray} {l:List Ety} {k:Nat} (hk:k<l.length) (d1:T1.data.toList=Z5 (eat l k).mode) (d2:T2.data.toList=(eat l k).name) :
    Lib.byteCells (I1 (l.take k))++Lib.byteCells (T1++⟨#[32]⟩++T2++⟨#[0]⟩).data.toList++Lib.byteCells (eat l k).id=Lib.byteCells (I1 (l.take (k+1))):=by
  rw [Zxp d1 d2,Zkj,Zkj,Z2d hk]
  congr 1
  simp [Znn]
theorem J4 {B B':Nat} {a w:World} (h:Below B a w) (hB:B'≤B):Below B' a w:=⟨h.os,h.tape,h.output,h.size,fun k hk=>h.block k (Ym9 hk hB)⟩
theorem Zdx {k:Nat} (h:k≤1000000000):wrap64 ((k:Int)+1)=((k+1:Nat):Int):=by
  unfold wrap64;omega
end Cod
namespace Cod
open Go
end Cod
namespace Cod
open Go
def mkT (v:Int) (n d:List UInt8):Ety:=if h:d.length=32 then ⟨v,n,d,h⟩ else default
theorem Z9h {v:Int} {n d:List UInt8} (h:d.length=32):(mkT v n d).cells=.int .i64 v::.str n::A0 d:=by unfold mkT;rw [dif_pos h];rfl
theorem Zht (e:Ety) (l:List Ety):I1 (e::l)=Znn e++I1 l:=rfl
def tw (l:List Ety):Nat→Nat→Bool
  | 0,_=>false
  | m+1,i=>decide ((eat l i).name∈(l.take i).map (·.name))||tw l m (i+1)
def Z2e (n f d:Bool):Int:=if n then 3 else if f then 4 else if d then 8 else 0
theorem Z9i (n f d a b c g:Bool):Zcz [Z2e n f d,if a then 3 else 0,if b then 4 else 0,if c then 4 else 0,if g then 8 else 0]=Z2e (n||a) (f||b||c) (d||g):=by
  cases n<;>cases f<;>cases d<;>cases a<;>cases b<;>cases c<;>cases g<;>rfl
def ordB (l:List Ety) (i:Nat):Bool:=decide (0<i)&&decide (0≤Zsl (Zhk (eat l (i-1))) (Zhk (eat l i)))
def nmI (l:List Ety):Nat→Nat→Bool→Bool
  | 0,_,n=>n
  | m+1,i,n=>nmI l m (i+1) (n || !Q7 (eat l i).name)
def fmI (l:List Ety):Nat→Nat→Bool→Bool
  | 0,_,f=>f
  | m+1,i,f=>fmI l m (i+1) (f || !Zdi (eat l i).mode||ordB l i)
theorem Z9j (l:List Ety):∀ (m i z:Nat) (n f d:Bool),(Zgd l m i (Z2e n f d) z).1=Z2e (nmI l m i n) (fmI l m i f) (d||tw l m i):=by
  intro m
  induction m with
  | zero=>intro i z n f d;rw [Zgd,nmI,fmI,tw,Bool.or_false]
  | succ m ih =>
    intro i z n f d
    have e:Zcz [Z2e n f d,Znl (eat l i),Znm (eat l i),Zff l i,Zlg l i]=Z2e (n || !Q7 (eat l i).name) (f || !Zdi (eat l i).mode||ordB l i) (d||decide ((eat l i).name∈(l.take i).map (·.name))):=Z9i _ _ _ _ _ _ _
    rw [Zgd,e,ih,nmI,fmI,tw]
    simp only [Bool.or_assoc]
def errT (n f d s:Bool):Int:=Zcz [if n then 3 else 0,if f then 4 else 0,if d then 8 else 0,if s then 2 else 0]
theorem Yml (l:List Ety) (h:l.length≤4096):Zdk l=errT (nmI l l.length 0 false) (fmI l l.length 0 false) (tw l l.length 0) (decide (1048576<(I1 l).length)):=by
  have h2:=Zxo l l.length 0 0 0 (by omega)
  have h1:=Z9j l l.length 0 0 false false false
  rw [show Z2e false false false=0 from rfl,Bool.false_or] at h1
  rw [Zdk,if_neg (by omega),h1,h2,Yn1,Yoq]
  generalize nmI l l.length 0 false=a
  generalize fmI l l.length 0 false=b
  generalize tw l l.length 0=c
  generalize decide (1048576<(I1 l).length)=d
  cases a<;>cases b<;>cases c<;>cases d<;>rfl
end Cod
namespace Cod
open Go
def ocS (v:Int) (c:UInt8):Int:=8*v+((c.toNat:Int)-48)
def ocL:List UInt8→Int→Int
  | [],v=>v
  | c::r,v=>if c.toNat<48∨55<c.toNat then -1 else ocL r (ocS v c)
def octF (s:List UInt8):Int:=if s=[] then 0 else if 6<s.length then -1 else ocL s 0
def mkN (v:Int) (n d:List UInt8):List AV:=.int .i64 v::.str n::A0 d
theorem Zpr (v:Int) (n d:List UInt8):flats (mkN v n d)=true:=by simp [mkN,flats,L9,V0]
theorem Yg9 (f:Site→Nat→Option (Site × Nat)) (v:Int) (n d:List UInt8):rens f (mkN v n d)=mkN v n d:=rens_flats _ (Zpr v n d)
theorem Yha (v:Int) (n d:List UInt8):refsOfs (mkN v n d)=[]:=by simp [mkN,refsOfs,X1,V3]
theorem Z9k (v:Int) (n d:List UInt8):I7 (mkN v n d)=true:=by simp [mkN,I7,R1,V1]
theorem Z9l (v:Int) (n d:List UInt8):leadss (mkN v n d)=false:=by simp [mkN,leadss,Q3,V2]
attribute [go_sem] Zpr Yg9 Yha Z9k Z9l
end Cod
namespace Cod
open Go Go.RowKit Go.Proofs Go.Shelf
set_option maxRecDepth 1000000
set_option maxHeartbeats 6400000 in
theorem Yhb {l:List Ety} (hl:Zbs l) {p:Option Addr} {b0 o0 cap:Nat} {w:World} (hW:Y5 w) (hv:VR (ctx [] LaE w) (.lst (Q9 l) l.length) (.slice p l.length cap)) (hp:0<l.length→p=some ⟨b0,o0,none⟩) (hrow:∀ k,k<l.length→w.rangeAt b0 (o0+k*34) (Zei (eat l k))) (hb0:0<l.length→b0<w.heap.size) :
    Calls Tryz.prog 11 #[.slice p l.length cap] w fun e w'=>Below w.heap.size w w'∧((Zdk l≠0∧e=.returned (.tuple #[.slice none 0 0,.int .i64 (Zdk l)]))∨(Zdk l=0∧∃ v,e=.returned (.tuple #[v,.int .i64 0])∧w'.ownsRow w.heap.size 5 1 v (I1 l).length ((I1 l).map fun b=>Value.int .u8 b.toNat))):=by
  have hi39:(Tryz.prog.info? 58).map (·.size)=some 34:=by kernel_rfl
  by_cases he:Zdk l=0
  · go_enter Tryz.func11,Tryz.ntmps11
    go_wp2_with (go_at_call 41;refine (Zpq hl hW hv).mono ?_;rw [he];rintro e W1 ⟨rfl,hb1⟩)
    go_loopw [15] (fun i wr=>∃ k:Nat,i=.int .i64 k∧k≤l.length∧Lib.IsBuffer 83 5 W1.heap.size W1.heap.size (Lib.byteCells (I1 (l.take k))) wr∧Below W1.heap.size W1 wr) (fun i _=>l.length-(intOf i).toNat)
    case atStart =>
      exact ⟨0,rfl,Nat.zero_le _,⟨Ym7 _,.slice none 0 0,0,heap_alloc_new W1 _,World.ownsRow_nil _ _ _ _,by simp [Value.ownBlock]⟩,(Below.refl _ W1).alloc (Ym7 _) _⟩
    case round =>
      obtain ⟨k,rfl,hk,hI,hbw⟩:=hrel
      have hbel:Below w.heap.size w wr:=hb1.trans ⟨hbw.os,hbw.tape,hbw.output,hbw.size,fun j hj=>hbw.block j (Ym9 hj hb1.size)⟩
      by_cases hlt:k<l.length
      · obtain rfl:=hp (by omega)
        have hb0:=hb0 (by omega)
        have hrange:wr.rangeAt b0 (o0+k*34) (Zei (eat l k)):=fun j v hj=>(hbel.cell (p:=⟨b0,o0+k*34+j,none⟩) hb0).trans (hrow k hlt j v hj)
        go_upto_region 8 with (first|(refine wpList_load_mid rfl 58 _ rfl b0 (o0+k*34) (by first|rfl|simp [Addr.add_mid]) (Zei (eat l k)) _ hrange Tryz.underlying58 rfl (by rw [Zc6];exact hi39) ?_)|(refine wpList_store_mid rfl 58 _ _ rfl wr.heap.size 0 (Zei (eat l k)).toArray (by rfl) (by rfl) ?_ ?_ (Yg6 _) ?_))
        · intro j hj
          first|rw [Yng,Zc6] at hj|rw [Zc6] at hj
          refine ⟨?_,?_⟩
          · simp only [World.cell?,heap_alloc_new]
            rw [if_neg (by simp),Yn1,Array.getElem?_eq_getElem (by simpa using hj)];rfl
          · simp only [World.frozen?,heap_alloc_new]
            simp
        · first|(rw [Yng,Zc6];exact hi39)|rw [Zc6]
        · refine Zxm (p:=Code.wp _ _ _ _) (T:=58) (vals:=Zei (eat l k)) (by rw [Zc6];rfl) ?_
          intro W3 hva
          have hn1:wr.heap.size<W3.heap.size:=by rw [hva.size];omega
          have c0:W3.cell? ⟨wr.heap.size,0,none⟩=some (.int .i64 (eat l k).mode):=hva.cell 0 _ rfl
          have c1:W3.cell? ⟨wr.heap.size,1,none⟩=some (.string ⟨(eat l k).name.toArray⟩):=hva.cell 1 _ rfl
          have hI3:=hI.old hva.below
          have hb3:Below w.heap.size w W3:=hbel.trans ⟨hva.below.os,hva.below.tape,hva.below.output,hva.below.size,fun j hj=>hva.below.block j (Ym9 hj hbel.size)⟩
          have hS3:Y5 W3:=hW.below hb3
          have hm:=hl.2.1 k
          have hF:Calls Tryz.prog 43 #[.int .i64 (eat l k).mode,.int .i64 8] W3.drew fun e W4=>e=.returned (.string ⟨(Z5 (eat l k).mode).toArray⟩)∧W4.cell? ⟨wr.heap.size,1,none⟩=some (.string ⟨(eat l k).name.toArray⟩)∧Below wr.heap.size wr W4∧W3.heap.size≤W4.heap.size∧(∀ j,j<W3.heap.size→W4.heap[j]? = W3.heap[j]?):=by
            have hSd:Y5 W3.drew:=hS3.below ⟨rfl,rfl,rfl,Ym7 _,fun _ _=>rfl⟩
            refine (Z9b hm.1 hm.2 hSd).mono ?_
            rintro e W4 ⟨rfl,hb4x⟩
            have hb4:Below W3.heap.size W3 W4:=⟨hb4x.os,hb4x.tape,hb4x.output,hb4x.size,hb4x.block⟩
            exact ⟨rfl,(hb4.cell (p:=⟨wr.heap.size,1,none⟩) hn1).trans c1,hva.below.trans ⟨hb4.os,hb4.tape,hb4.output,hb4.size,fun j hj=>hb4.block j (by omega)⟩,hb4.size,hb4.block⟩
          have hts:=Zge he
          have htk:=Z2c l k
          have hol:=Zm0 (eat l k).mode
          have hnl:=hl.1 k
          obtain ⟨T1,hT1⟩:∃ T1:ByteArray,T1=⟨(Z5 (eat l k).mode).toArray⟩:=⟨_,rfl⟩
          obtain ⟨T2,hT2⟩:∃ T2:ByteArray,T2=⟨(eat l k).name.toArray⟩:=⟨_,rfl⟩
          have z1:T1.size≤23:=by rw [hT1];simpa [ByteArray.size] using hol
          have z2:T2.size≤1000000000:=by rw [hT2];simpa [ByteArray.size] using hnl
          rw [←hT1,←hT2] at hF
          rw [←hT2] at c1
          have d1:T1.data.toList=Z5 (eat l k).mode:=by rw [hT1]
          have d2:T2.data.toList=(eat l k).name:=by rw [hT2]
          clear hT1 hT2
          have g1:¬ 9223372036854775807<T1.size+1:=by omega
          have g2:¬ 9223372036854775807<T1.size+1+T2.size:=by omega
          have g3:¬ 9223372036854775807<T1.size+1+T2.size+1:=by omega
          have g4:¬ 9223372036854775807≤T1.size:=by omega
          have g5:¬ 9223372036854775807≤T1.size+1+T2.size:=by omega
          go_region_with (first|(go_at_call 43;refine hF.mono ?_;rintro e W4 ⟨rfl,c1',hb4,hz4,hk4⟩;have hI4:=hI.old hb4)|(go_at_call 42;refine Calls.mono (Tryz.Buffer_WriteString_kept W1.heap.size W1.heap.size _ _ W4 hI4 (by have:=hbw.size;have:=hb4.size;omega) (Zg2 _) (by rw [Lib.byteCells_length];simp only [ByteArray.size_append];have e1:(⟨#[32]⟩:ByteArray).size=1:=rfl;have e2:(⟨#[0]⟩:ByteArray).size=1:=rfl;omega)) ?_;rintro e W5 ⟨rfl,hI5,hb5,hk5⟩))
          all_goals have hsrc:=src_id hva (by decide) hI.lt hk4 hk5
          all_goals go_wp2_with (go_at_call 44;refine Calls.mono (Tryz.Buffer_Write_any W1.heap.size W1.heap.size _ (Lib.byteCells (eat l k).id) ⟨wr.heap.size,2,none⟩ 32 32 W5 hI5 (by have:=hbw.size;have:=hb4.size;have:=hb5.size;omega) (by rw [Zkj];exact Zg2 _) (by rw [Lib.byteCells_length];exact (eat l k).hid) (by have:=hI.lt;show wr.heap.size≠W1.heap.size;omega) hsrc (Zg2 _) (by rw [Yny,Lib.byteCells_length,Lib.byteCells_length,Zxp d1 d2];simp only [Yny,Ynn,Yok];omega)) ?_;rintro e W6 ⟨rfl,hI6,hb6,hk6⟩)
          all_goals rw [Yg8 hlt d1 d2] at hI6
          all_goals go_roundw
          all_goals first
            | exact ⟨k+1,by rw [Zdx (by have:=hl.2.2;omega)],by omega,hI6,hbw.trans ((J4 hb4 hbw.size).trans (hb5.trans hb6))⟩
            | (rw [Zdx (by have:=hl.2.2;omega)];simp only [intOf];omega)
      · obtain rfl:k=l.length:=by omega
        rw [List.take_length] at hI
        go_wp2_with (go_at_call 45;refine (Tryz.Buffer_Bytes W1.heap.size W1.heap.size _ wr hI).mono ?_;rintro e W2 ⟨v,rfl,hown,n,rfl⟩)
        go_ret2
        refine ⟨hbel.trans ⟨rfl,rfl,rfl,Ym7 _,fun _ _=>rfl⟩,.inr ⟨he,v,rfl,?_⟩⟩
        have e1:Lib.byteCells (I1 l)=(I1 l).map fun b=>Value.int .u8 b.toNat:=rfl
        rw [e1,Yov] at hown
        exact Z9f hown hb1.size
  · go_enter Tryz.func11,Tryz.ntmps11
    go_wp2_with (go_at_call 41;refine (Zpq hl hW hv).mono ?_;rintro e W1 ⟨rfl,hb1⟩)
    go_ret2
    exact ⟨hb1,.inl ⟨he,rfl⟩⟩
end Cod
namespace Cod
open Go Go.RowKit Go.Proofs Go.Shelf
set_option maxRecDepth 1000000
set_option maxHeartbeats 2000000 in
theorem Yhc (b:Nat) (w:World) (h0:w.cell? ⟨b,0,none⟩=some (.pointer none)) (hsh:w.shape? b=some (123,2)) (hfz:w.frozen? ⟨b,0,none⟩=false) :
    Calls Tryz.prog 114 #[.pointer (some ⟨b,0,none⟩)] w fun e w'=>e=.returned (.tuple #[])∧w'=w.setCell ⟨b,0,none⟩ (.pointer (some ⟨b,0,none⟩)):=by
  obtain ⟨j,hj,hjs⟩:=Option.map_eq_some_iff.1 Tryz.Builder_Extra_169.sizeBuilder
  go_enter Tryz.func114,Tryz.ntmps114
  go_wp2
  rw [Lib.run_to_unsafe w ⟨b,0,none⟩ Tryz.underlying121 Tryz.underlying190 hj (by rw [hjs];decide) hsh (Nat.zero_lt_succ 1)]
  simp only [Result.andThen]
  rw [Oper.upon_value]
  go_wp2
  rw [run_callFunc_extern Tryz.func152 (by kernel_rfl) (by kernel_rfl) (by kernel_rfl) (e:=Extern.AbiNoEscape.same) (by kernel_rfl)]
  rw [Lib.run_noEscape]
  simp only [Result.andThen]
  rw [Oper.upon_value]
  go_wp2
  rw [Lib.run_from_unsafe w ⟨b,0,none⟩ Tryz.underlying190 Tryz.underlying121 hj hsh Tryz.Builder_Extra_169.liesBuilder]
  simp only [Result.andThen]
  rw [Oper.upon_value]
  go_wp2
  go_end0
  exact ⟨rfl,rfl⟩
set_option maxHeartbeats 2000000 in
theorem Ymm (b:Nat) (w:World) (h0:w.cell? ⟨b,0,none⟩=some (.pointer (some ⟨b,0,none⟩))) :
    Calls Tryz.prog 114 #[.pointer (some ⟨b,0,none⟩)] w fun e w'=>e=.returned (.tuple #[])∧w'=w:=by
  obtain ⟨j,hj,_⟩:=Option.map_eq_some_iff.1 Tryz.Builder_Extra_169.sizeBuilder
  go_enter Tryz.func114,Tryz.ntmps114
  go_wp2
  rw [Lib.run_neq_ptr_same w _ Tryz.underlying121 hj]
  go_wp2
  go_end0
  exact ⟨rfl,rfl⟩
theorem bc_k (B b:Nat) (bs:List Value) (w:World) (h:Lib.IsBuilderF 123 5 B b bs w) :
    Calls Tryz.prog 114 #[.pointer (some ⟨b,0,none⟩)] w fun e w'=>e=.returned (.tuple #[])∧(Lib.BuilderAtF 123 5 B b (.pointer (some ⟨b,0,none⟩)) bs w'∧Below B w w'∧Lib.OthersKept 5 (some b) w w'):=by
  rcases h with h|h
  · refine (Yhc b w h.cell0 h.shape h.frozen0).mono ?_
    rintro e w' ⟨rfl,rfl⟩
    exact ⟨rfl,h.used _,(Below.refl B w).setCell (p:=⟨b,0,none⟩) h.1 _,(Lib.OthersKept.refl _ _ w).setCell ⟨b,0,none⟩ rfl _⟩
  · refine (Ymm b w h.cell0).mono ?_
    rintro e w' ⟨rfl,rfl⟩
    exact ⟨rfl,h,Below.refl B _,Lib.OthersKept.refl _ _ _⟩
set_option maxHeartbeats 2000000 in
theorem Yhd (B b:Nat) (bs:List Value) (c:Int) (w:World) (h:Lib.IsBuilderF 123 5 B b bs w) (hlen:bs.length+1≤140737488355328) (hBw:B≤w.heap.size) :
    Calls Tryz.prog 102 #[.pointer (some ⟨b,0,none⟩),.int .u8 c] w fun e w'=>e=.returned .nilIface∧(Lib.BuilderAtF 123 5 B b (.pointer (some ⟨b,0,none⟩)) (bs++[.int .u8 c]) w'∧Below B w w'∧Lib.OthersKept 5 (some b) w w'):=by
  obtain ⟨i0,hi,hz0,hz1,hz2⟩:=info_parts Tryz.Builder_Extra_169.infoByte
  go_enter Tryz.func102,Tryz.ntmps102
  go_wp2_with (go_at_call 114;refine (bc_k B b bs _ h).mono ?_)
  rintro e w1 ⟨rfl,h1,hb1,hk1⟩
  obtain ⟨hB,v,hbk,hown,hne⟩:=h1
  have c0:w1.cell? ⟨b,0,none⟩=some (.pointer (some ⟨b,0,none⟩)):=by rw [Lib.cell_of_heap hbk];rfl
  have c1:w1.cell? ⟨b,1,none⟩=some v:=by rw [Lib.cell_of_heap hbk];rfl
  go_wp2_with (at_builtin;refine wpList_append_ownF _ rfl _ _ 23 rfl B 5 i0 (.int .u8 0) 1 1 Tryz.underlying23 hi hz0 hz1 hz2 rfl (by decide) _ _ _ rfl (hown.alloc _) ⟨w1.heap.size,0,none⟩ 1 1 [.int .u8 c] rfl rfl ?c1 ?c2 ?c3 ?c4 ?c5 ?_)
  case c1 =>
    intro j u hj
    match j,hj with
    | 0,hj=>simp at hj;subst hj;simp [Addr.add]
  case c2=>intro u hu;simp at hu;subst hu;rfl
  case c3=>unfold maxLen;omega
  case c4=>omega
  case c5=>have:=hb1.size;simp;omega
  intro v' w2 hown' hgrow _
  have hlt:b<w1.heap.size:=by
    rcases Nat.lt_or_ge b w1.heap.size with h'|h'
    · exact h'
    · simp [Array.getElem?_eq_none h'] at hbk
  have hb2:w2.heap[b]? = some (.cells #[.pointer (some ⟨b,0,none⟩),v] 123 (0,0)):=by
    rw [hgrow.block b (by simp;omega) (fun e=>hne e.symm),Lib.alloc_old w1 _ b hlt]
    exact hbk
  have d0:w2.cell? ⟨b,0,none⟩=some (.pointer (some ⟨b,0,none⟩)):=by rw [Lib.cell_of_heap hb2];rfl
  have d1:w2.cell? ⟨b,1,none⟩=some v:=by rw [Lib.cell_of_heap hb2];rfl
  have f1:w2.frozen? ⟨b,1,none⟩=false:=Lib.frozen_of_heap hb2 1
  obtain ⟨g,cap,rfl⟩:∃ g cap,v'=.slice (some ⟨g,0,none⟩) (bs.length+1) cap:=by
    rcases hown'.2 with ⟨_,h0⟩|⟨g,cap,cur,fz,hv,_⟩
    · omega
    · exact ⟨g,cap,hv⟩
  go_wp2
  go_ret
  refine ⟨rfl,?_,?_,((hk1.alloc _).grown hgrow (Lib.ownsRowF_kind (hown.alloc _))).setCell ⟨b,1,none⟩ rfl _⟩
  · exact Lib.BuilderAtF.put (T:=123) (e:=5) hB hb2 (bs':=bs++[.int .u8 c]) (by simpa using hown') Tryz.Builder_Extra_169.neB5
  · exact ((hb1.alloc (by have:=hb1.size;omega) _).grown hgrow (by have:=hb1.size;simp;omega) (fun k hk=>(hown.lt k hk).1)).setCell (p:=⟨b,1,none⟩) hB _
set_option maxHeartbeats 2000000 in
theorem Zno (B b:Nat) (bs:List Value) (s:ByteArray) (w:World) (h:Lib.IsBuilderF 123 5 B b bs w) (hlen:bs.length+s.size≤140737488355328) (hBw:B≤w.heap.size) :
    Calls Tryz.prog 70 #[.pointer (some ⟨b,0,none⟩),.string s] w fun e w'=>e=.returned (.tuple #[.int .i64 s.size,.nilIface])∧(Lib.BuilderAtF 123 5 B b (.pointer (some ⟨b,0,none⟩)) (bs++Lib.strCells s) w'∧Below B w w'∧Lib.OthersKept 5 (some b) w w'):=by
  obtain ⟨i0,hi,hz0,hz1,hz2⟩:=info_parts Tryz.Builder_Extra_169.infoByte
  go_enter Tryz.func70,Tryz.ntmps70
  go_wp2_with (go_at_call 114;refine (bc_k B b bs _ h).mono ?_)
  rintro e w1 ⟨rfl,h1,hb1,hk1⟩
  obtain ⟨hB,v,hbk,hown,hne⟩:=h1
  have c0:w1.cell? ⟨b,0,none⟩=some (.pointer (some ⟨b,0,none⟩)):=by rw [Lib.cell_of_heap hbk];rfl
  have c1:w1.cell? ⟨b,1,none⟩=some v:=by rw [Lib.cell_of_heap hbk];rfl
  go_wp2_with (at_builtin;refine Lib.wpList_append_own_stringF _ rfl _ _ 23 9 rfl B 5 i0 Tryz.underlying23 Tryz.underlying9 hi hz0 hz1 hz2 _ _ _ rfl hown s rfl ?c3 ?c4 ?c5 ?_)
  case c3=>unfold maxLen;omega
  case c4=>omega
  case c5=>have:=hb1.size;omega
  intro v' w2 hown' hgrow _
  have hlt:b<w1.heap.size:=by
    rcases Nat.lt_or_ge b w1.heap.size with h'|h'
    · exact h'
    · simp [Array.getElem?_eq_none h'] at hbk
  have hb2:w2.heap[b]? = some (.cells #[.pointer (some ⟨b,0,none⟩),v] 123 (0,0)):=by
    rw [hgrow.block b hlt (fun e=>hne e.symm)]
    exact hbk
  have d0:w2.cell? ⟨b,0,none⟩=some (.pointer (some ⟨b,0,none⟩)):=by rw [Lib.cell_of_heap hb2];rfl
  have d1:w2.cell? ⟨b,1,none⟩=some v:=by rw [Lib.cell_of_heap hb2];rfl
  have f1:w2.frozen? ⟨b,1,none⟩=false:=Lib.frozen_of_heap hb2 1
  obtain ⟨ao,n',cap,rfl⟩:∃ ao n' cap,v'=.slice ao n' cap:=by
    rcases hown'.2 with ⟨hv,_⟩|⟨g,cap,cur,fz,hv,_⟩
    · exact ⟨_,_,_,hv⟩
    · exact ⟨_,_,_,hv⟩
  go_wp2
  go_ret2
  refine ⟨rfl,?_,?_,(hk1.grown hgrow (Lib.ownsRowF_kind hown)).setCell ⟨b,1,none⟩ rfl _⟩
  · exact Lib.BuilderAtF.put (T:=123) (e:=5) hB hb2 (bs':=bs++Lib.strCells s) (by simpa [Lib.strCells_length] using hown') Tryz.Builder_Extra_169.neB5
  · exact (hb1.grown hgrow (by have:=hb1.size;omega) (fun k hk=>(hown.lt k hk).1)).setCell (p:=⟨b,1,none⟩) hB _
end Cod
namespace Cod
open Go Go.RowKit Go.Proofs Go.Shelf
set_option maxRecDepth 1000000
theorem Zxq (i:Nat) (h:i<16):∀ W,(Instr.index 9 (.string ⟨#[48,49,50,51,52,53,54,55,56,57,97,98,99,100,101,102]⟩) (.int .u8 (i:Int))).run Tryz.prog W=.ok (.int .u8 (Zhq i).toNat) W:=by
  intro W
  rw [run_index_string W 9 _ .u8 _ Tryz.underlying9,dif_pos ⟨by omega,by show (i:Int)<16;omega⟩]
  have:∀ j:Fin 16,∀ h,((⟨#[48,49,50,51,52,53,54,55,56,57,97,98,99,100,101,102]⟩:ByteArray)[((j.val:Nat):Int).toNat]'h)=Zhq j.val:=by decide
  rw [this ⟨i,h⟩]
theorem and15 (x:UInt8):bits .and .u8 (x.toNat:Int) 15=((x.toNat%16:Nat):Int):=by
  have key:∀ n:Nat,n<256→bits .and .u8 (n:Int) 15=((n%16:Nat):Int):=by decide +kernel
  exact key _ x.toNat_lt
set_option maxHeartbeats 4000000 in
theorem Zkk {id:List UInt8} (hid:id.length=32) {w:World} :
    Calls Tryz.prog 59 #[.agg (Lib.byteCells id).toArray] w fun e w'=>e=.returned (.string ⟨(U0 id).toArray⟩)∧Below w.heap.size w w':=by
  have hi35:(Tryz.prog.info? 35).map (·.size)=some (Lib.byteCells id).length:=by rw [Lib.byteCells_length,hid];kernel_rfl
  go_enter Tryz.func59,Tryz.ntmps59
  go_upto_region 3 with (refine wpList_load_mid rfl 35 _ rfl w.heap.size 0 (by rfl) (Lib.byteCells id) _ ?_ Tryz.underlying35 rfl hi35 ?_)
  · intro j v hj
    have hh:((w.alloc (Obj.cells (Lib.byteCells id).toArray 35)).alloc (Obj.cells #[Value.pointer none,Value.slice none 0 0] 123)).heap[w.heap.size]? = some (.cells (Lib.byteCells id).toArray 35):=(Lib.alloc_old _ _ _ (by simp)).trans (heap_alloc_new _ _)
    rw [Lib.cell_of_heap hh]
    simpa using hj
  · have hb0:Lib.BuilderAtF 123 5 w.heap.size (w.heap.size+1) (.pointer none) [] ((w.alloc (Obj.cells (Lib.byteCells id).toArray 35)).alloc (Obj.cells #[Value.pointer none,Value.slice none 0 0] 123)):=by
      refine ⟨by omega,.slice none 0 0,?_,World.ownsRowF_nil _ _ _ _,by simp [Value.ownBlock]⟩
      have:=heap_alloc_new (w.alloc (Obj.cells (Lib.byteCells id).toArray 35)) (Obj.cells #[Value.pointer none,Value.slice none 0 0] 123)
      simpa using this
    have hbel:Below w.heap.size w ((w.alloc (Obj.cells (Lib.byteCells id).toArray 35)).alloc (Obj.cells #[Value.pointer none,Value.slice none 0 0] 123)):=((Below.refl _ w).alloc (Ym7 _) _).alloc (by simp) _
    have hsz:w.heap.size≤((w.alloc (Obj.cells (Lib.byteCells id).toArray 35)).alloc (Obj.cells #[Value.pointer none,Value.slice none 0 0] 123)).heap.size:=hbel.size
    generalize ((w.alloc (Obj.cells (Lib.byteCells id).toArray 35)).alloc (Obj.cells #[Value.pointer none,Value.slice none 0 0] 123))=W1 at *
    go_loopw [7] (fun i wr=>∃ k:Nat,i=.int .i64 k∧k≤32∧Lib.IsBuilderF 123 5 w.heap.size (w.heap.size+1) (Lib.byteCells (U0 (id.take k))) wr∧Below w.heap.size w wr) (fun i _=>32-(intOf i).toNat)
    case atStart=>exact ⟨0,rfl,by omega,.inl hb0,hbel⟩
    case round =>
      obtain ⟨k,rfl,hk,hI,hbw⟩:=hrel
      by_cases hlt:k<32
      · have hx:(Lib.byteCells id)[k]? = some (.int .u8 (id.getD k 0).toNat):=by
          rw [Lib.byteCells,List.getElem?_map,List.getElem?_eq_getElem (by omega)]
          simp [List.getD,show k<id.length by omega]
        have hT:id.take (k+1)=id.take k++[id.getD k 0]:=by
          rw [Yqb (by omega)]
          simp [List.getD,show k<id.length by omega]
        generalize id.getD k 0=x at hx hT
        have hix:∀ W,(Instr.index 35 (.agg (Lib.byteCells id).toArray) (.int .i64 (k:Int))).run Tryz.prog W=.ok (.int .u8 x.toNat) W:=fun W=>by
          simp [Instr.index,run_underlying Tryz.underlying35,asIntOf,hlt,hx,go_sem]
        have hd1:=Zxq (x.toNat/16) (by have:=x.toNat_lt;omega)
        have hd2:=Zxq (x.toNat%16) (by omega)
        rw [←and15] at hd2
        simp only [Int.natCast_ediv,Ypi] at hd1
        have hl:(U0 (id.take k)).length=2*k:=by
          rw [Zbf,Yne];omega
        have hl1:(Lib.byteCells (U0 (id.take k))).length+1≤140737488355328:=by rw [Lib.byteCells_length];omega
        go_wp2_with (go_at_call 102;refine (Yhd _ _ _ _ _ hI hl1 hbw.size).mono ?_)
        rintro e W2 ⟨rfl,hA,hb2,_⟩
        have hl2:(Lib.byteCells (U0 (id.take k))++[Value.int .u8 (Zhq (x.toNat/16)).toNat]).length+1≤140737488355328:=by rw [Yny,Lib.byteCells_length,List.length_singleton];omega
        go_wp2_with (go_at_call 102;refine (Yhd _ _ _ _ _ (.inr hA) hl2 (Nat.le_trans hbw.size hb2.size)).mono ?_)
        rintro e W3 ⟨rfl,hA3,hb3,_⟩
        go_wp2
        refine ⟨⟨k+1,rfl,by omega,.inr ?_,(hbw.trans hb2).trans hb3⟩,by simp [intOf];omega⟩
        rw [hT]
        unfold U0 at hA3 ⊢
        rw [Yqc]
        simpa [hexB,Lib.byteCells] using hA3
      · obtain rfl:k=32:=by omega
        have hne:U0 (id.take 32)=U0 id:=by rw [List.take_of_length_le (by omega)]
        rw [hne] at hI
        go_wp2_with (go_at_call 71;refine (Tryz.Builder_String_any_k _ _ _ _ hI hbw.size).mono ?_)
        rintro e W2 ⟨rfl,_,hb2,_⟩
        go_wp2
        go_ret
        exact ⟨rfl,hbw.trans hb2⟩
end Cod

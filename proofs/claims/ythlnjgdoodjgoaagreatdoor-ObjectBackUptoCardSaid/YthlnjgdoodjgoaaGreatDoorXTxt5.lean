/- Lines: the program's lines and the reference's line. -/
import Derived.Test.YthlnjgdoodjgoaaGreatDoorXTxt4
import Derived.Test.YthlnjgdoodjgoaaGreatDoorXTxt2
import Derived.Test.YthlnjgdoodjgoaaGreatDoorXTxt1
set_option linter.unusedSimpArgs false
set_option linter.unusedVariables false
open List renaming append_assoc → Ynz, append_nil → Yp5, cons_append → Yna, drop_left → Yp8, idxOf_lt_length_of_mem → Yp7, length_append → Yny, length_cons → Ynn, length_drop → Ynf, length_nil → Yok, length_replicate → Yp6, length_singleton → Ypg, nil_append → Yoz
open Nat renaming le_refl → Ym7
open Int renaming cast_ofNat_Int → Ypi, natCast_add → Ypo
open Bool renaming and_eq_true → Ynm, and_false → Ypw, false_and → Ypl, true_and → Ypj
open Nat renaming reduceEqDiff → B9, reduceAdd → C0, reduceSub → C1, reduceMul → C2, reduceDiv → C3, reduceMod → C4, reduceBEq → C5, reduceLeDiff → C6, reduceLT → C7
open Int renaming reduceEq → C8, reduceNe → C9, reduceLT → D0, reduceLE → D1, reduceBEq → D2, reduceBNe → D3, reduceToNat → D4, reduceAdd → D5, reduceSub → D6, reduceMul → D7, reduceNeg → A3
namespace Cod
open Go
theorem Ygy {w v:List UInt8}:(w++v).drop w.length=v:=Yp8
theorem Zpm {s t:List UInt8} (hs:s.length≤1000000000000) (ht:t.length≤1000000000000):S E F.N9 [.str s,.str t] []=some (.bool (decide (t.length≤s.length)&&(s.take t.length==t)),[]):=by
  have h0:S E F.J8 [.str s,.str t] []=some (.bool (decide (t.length≤s.length)&&(s.take t.length==t)),[]):=by
    rw [S_of Zit rfl rfl]
    by_cases h:t.length≤s.length
    · simp -dsimp (disch:=first|omega|(simp only [A4]<;>omega)|fail) only [L.J8,go_sem,reduceIte,reduceCtorEq,B9,C0,C1,C2,C3,C4,C5,C6,C7,C8,C9,D0,D1,D2,D3,D4,D5,D6,D7,A3,h,B7,B6,B5,decide_true,Ypj,Nat.sub_zero]
    · simp -dsimp (disch:=first|omega|(simp only [A4]<;>omega)|fail) only [L.J8,go_sem,reduceIte,reduceCtorEq,B9,C0,C1,C2,C3,C4,C5,C6,C7,C8,C9,D0,D1,D2,D3,D4,D5,D6,D7,A3,h,B7,B6,B5,decide_false,Ypl]
  rw [S_of Zri rfl rfl]
  simp -dsimp (disch:=first|omega|(simp only [A4]<;>omega)|fail) only [L.N9,go_sem,reduceIte,reduceCtorEq,B9,C0,C1,C2,C3,C4,C5,C6,C7,C8,C9,D0,D1,D2,D3,D4,D5,D6,D7,A3,h0]
def Zc0 (s t:List UInt8):Bool:=decide (t.length≤s.length)&&(s.take t.length==t)
theorem Znh (w v:List UInt8):Zc0 (w++v) w=true:=by
  unfold Zc0
  simp
theorem Zkh {s t:List UInt8} (hs:s.length≤1000000000000) (ht:t.length≤1000000000000):S E F.O1 [.str s,.str t] []=some (if Zc0 s t=true then .tup [.str (s.drop t.length),.bool true] else .tup [.str s,.bool false],[]):=by
  have h0:S E F.P7 [.str s,.str t] []=some (if Zc0 s t=true then .tup [.str (s.drop t.length),.bool true] else .tup [.str s,.bool false],[]):=by
    have hp:S E F.J8 [.str s,.str t] []=some (.bool (Zc0 s t),[]):=by
      rw [S_of Zit rfl rfl]
      unfold Zc0
      by_cases h:t.length≤s.length
      · simp -dsimp (disch:=first|omega|(simp only [A4]<;>omega)|fail) only [L.J8,go_sem,reduceIte,reduceCtorEq,B9,C0,C1,C2,C3,C4,C5,C6,C7,C8,C9,D0,D1,D2,D3,D4,D5,D6,D7,A3,h,B7,B6,B5,decide_true,Ypj,Nat.sub_zero]
      · simp -dsimp (disch:=first|omega|(simp only [A4]<;>omega)|fail) only [L.J8,go_sem,reduceIte,reduceCtorEq,B9,C0,C1,C2,C3,C4,C5,C6,C7,C8,C9,D0,D1,D2,D3,D4,D5,D6,D7,A3,h,B7,B6,B5,decide_false,Ypl]
    rw [S_of Zr4 rfl rfl]
    cases hb:Zc0 s t with
    | true =>
      have hl:t.length≤s.length:=by unfold Zc0 at hb;simp only [Ynm,decide_eq_true_eq] at hb;exact hb.1
      simp -dsimp (disch:=first|omega|(simp only [A4]<;>omega)|fail) only [L.P7,go_sem,reduceIte,reduceCtorEq,B9,C0,C1,C2,C3,C4,C5,C6,C7,C8,C9,D0,D1,D2,D3,D4,D5,D6,D7,A3,hp,hb,B7,B6,B5]
    | false=>simp -dsimp (disch:=first|omega|(simp only [A4]<;>omega)|fail) only [L.P7,go_sem,reduceIte,reduceCtorEq,B9,C0,C1,C2,C3,C4,C5,C6,C7,C8,C9,D0,D1,D2,D3,D4,D5,D6,D7,A3,hp,hb,B7,B6,B5]
  rw [S_of Zrt rfl rfl]
  cases hb:Zc0 s t with
  | true=>rw [hb] at h0;simp -dsimp (disch:=first|omega|(simp only [A4]<;>omega)|fail) only [L.O1,go_sem,reduceIte,reduceCtorEq,B9,C0,C1,C2,C3,C4,C5,C6,C7,C8,C9,D0,D1,D2,D3,D4,D5,D6,D7,A3] at h0 ⊢;simp -dsimp (disch:=first|omega|(simp only [A4]<;>omega)|fail) only [go_sem,reduceIte,reduceCtorEq,B9,C0,C1,C2,C3,C4,C5,C6,C7,C8,C9,D0,D1,D2,D3,D4,D5,D6,D7,A3,h0]
  | false=>rw [hb] at h0;simp -dsimp (disch:=first|omega|(simp only [A4]<;>omega)|fail) only [L.O1,go_sem,reduceIte,reduceCtorEq,B9,C0,C1,C2,C3,C4,C5,C6,C7,C8,C9,D0,D1,D2,D3,D4,D5,D6,D7,A3] at h0 ⊢;simp -dsimp (disch:=first|omega|(simp only [A4]<;>omega)|fail) only [go_sem,reduceIte,reduceCtorEq,B9,C0,C1,C2,C3,C4,C5,C6,C7,C8,C9,D0,D1,D2,D3,D4,D5,D6,D7,A3,h0]
/- Steps of a reader of lines. -/
theorem Zlu {rest w:List UInt8} {bad:Nat} (hr:rest.length≤1000000000) (hw:w.length≤100) (hw10:(10:UInt8)∉w) (hb:bad≤100000):∃ v r b,v.length≤rest.length∧r.length≤rest.length∧bad≤b∧b≤bad+1 ∧
    (∀ x:Site,S E F.I8 [.ref (.up x) 0 0,.str w] [(.up x,⟨0,true,true,true,[.str rest,.int .i64 bad]⟩)]=some (.str v,[(.up x,⟨0,true,true,true,[.str r,.int .i64 (b:Int)]⟩)])) ∧
    (b=bad→r.length<rest.length) ∧
    ∀ v0 r0,(10:UInt8)∉v0→rest=w++32::(v0++10::r0)→v=v0∧r=r0∧b=bad:=by
  have h1:=Z4a (s:=rest) (c:=10) (by omega)
  by_cases hc:(10:UInt8)∈rest
  · rw [if_pos hc] at h1
    have hlt:(rest.take (rest.idxOf 10)).length≤rest.length:=by rw [List.length_take];omega
    have h2:=Zkh (s:=rest.take (rest.idxOf 10)) (t:=w++[32]) (by omega) (by rw [Yny,Ypg];omega)
    have hi:=Yp7 hc
    have hsplit:rest=rest.take (rest.idxOf 10)++10::rest.drop (rest.idxOf 10+1):=by
      conv=>lhs;rw [←List.take_append_drop (rest.idxOf 10) rest,List.drop_eq_getElem_cons hi]
      rw [List.getElem_idxOf hi]
    have hno:=Yp7 hc
    have yes:∀ v0 r0,(10:UInt8)∉v0→rest=w++32::(v0++10::r0)→rest.take (rest.idxOf 10)=w++[32]++v0∧rest.drop (rest.idxOf 10+1)=r0:=by
      intro v0 r0 g1 g2
      have gi:=Ylz (r:=r0) hw10 g1
      rw [←g2] at gi
      rw [gi]
      have e:rest=(w++[32]++v0)++10::r0:=by rw [g2];simp
      have el:(w++[32]++v0).length=w.length+1+v0.length:=by simp;omega
      rw [e,←el]
      refine ⟨List.take_left,?_⟩
      rw [←List.drop_drop,Yp8]
      rfl
    generalize rest.take (rest.idxOf 10)=line at *
    generalize rest.drop (rest.idxOf 10+1)=tail at *
    have htl':tail.length<rest.length:=by rw [hsplit,Yny,Ynn];omega
    have htl:tail.length≤rest.length:=by omega
    cases hp:Zc0 line (w++[32]) with
    | true =>
      rw [hp,if_pos rfl] at h2
      have hd:(line.drop (w++[32]).length).length≤rest.length:=by rw [Ynf];omega
      refine ⟨line.drop (w++[32]).length,tail,bad,hd,htl,Ym7 _,by omega,?_,fun _=>htl',fun v0 r0 g1 g2=>?_⟩
      · intro x;rw [S_of Zet rfl rfl]
        simp -dsimp (disch:=first|omega|(simp only [A4]<;>omega)|fail) only [L.I8,go_sem,reduceIte,reduceCtorEq,B9,C0,C1,C2,C3,C4,C5,C6,C7,C8,C9,D0,D1,D2,D3,D4,D5,D6,D7,A3,h1,h2,Ypo,Ypi]
      · obtain ⟨e1,e2⟩:=yes v0 r0 g1 g2
        refine ⟨?_,e2,rfl⟩
        rw [e1];exact Ygy
    | false =>
      rw [hp,if_neg (by simp)] at h2
      refine ⟨[],rest,bad+1,by simp,Ym7 _,by omega,Ym7 _,?_,fun h=>by omega,fun v0 r0 g1 g2=>?_⟩
      · intro x;rw [S_of Zet rfl rfl]
        simp -dsimp (disch:=first|omega|(simp only [A4]<;>omega)|fail) only [L.I8,go_sem,reduceIte,reduceCtorEq,B9,C0,C1,C2,C3,C4,C5,C6,C7,C8,C9,D0,D1,D2,D3,D4,D5,D6,D7,A3,h1,h2,Ypo,Ypi]
      · obtain ⟨e1,e2⟩:=yes v0 r0 g1 g2
        rw [e1,Znh] at hp
        cases hp
  · rw [if_neg hc] at h1
    have h2:=Zkh (s:=rest) (t:=w++[32]) (by omega) (by rw [Yny,Ypg];omega)
    refine ⟨[],rest,bad+1,by simp,Ym7 _,by omega,Ym7 _,?_,fun h=>by omega,fun v0 r0 g1 g2=>?_⟩
    · intro x;rw [S_of Zet rfl rfl]
      cases hp:Zc0 rest (w++[32]) with
      | true=>rw [hp,if_pos rfl] at h2;simp -dsimp (disch:=first|omega|(simp only [A4]<;>omega)|fail) only [L.I8,go_sem,reduceIte,reduceCtorEq,B9,C0,C1,C2,C3,C4,C5,C6,C7,C8,C9,D0,D1,D2,D3,D4,D5,D6,D7,A3,h1,h2,Ypo,Ypi]
      | false=>rw [hp,if_neg (by simp)] at h2;simp -dsimp (disch:=first|omega|(simp only [A4]<;>omega)|fail) only [L.I8,go_sem,reduceIte,reduceCtorEq,B9,C0,C1,C2,C3,C4,C5,C6,C7,C8,C9,D0,D1,D2,D3,D4,D5,D6,D7,A3,h1,h2,Ypo,Ypi]
    · exact absurd (by rw [g2];simp) hc
end Cod
namespace Cod
open Go
theorem Z15 {rest w:List UInt8} {bad:Nat} (hr:rest.length≤1000000000) (hw:w.length≤100) (hw10:(10:UInt8)∉w) (hb:bad≤100000):∃ d r b,d.length=32∧r.length≤rest.length∧bad≤b∧b≤bad+2 ∧
    (∀ x:Site,S E F.K6 [.ref (.up x) 0 0,.str w] [(.up x,⟨0,true,true,true,[.str rest,.int .i64 bad]⟩)]=some (.agg (A0 d),[(.up x,⟨0,true,true,true,[.str r,.int .i64 (b:Int)]⟩)])) ∧
    (b=bad→r.length<rest.length) ∧
    ∀ id r0,id.length=32→rest=w++32::(U0 id++10::r0)→d=id∧r=r0∧b=bad:=by
  obtain ⟨v,r,b,h1,h2,h3,h4,h5,hpr,h6⟩:=Zlu hr hw hw10 hb
  obtain ⟨d,e,k1,k2,k3,k4⟩:=Z88 (s:=v) (by omega)
  have ho:over (A0 (List.replicate 32 0)) 0 (A0 d)=A0 d:=Z4 (by rw [k1];simp)
  rcases k2 with rfl|rfl
  · refine ⟨d,r,b,k1,h2,h3,by omega,?_,hpr,fun id r0 g1 g2=>?_⟩
    · intro x;rw [S_of Zin rfl rfl]
      simp -dsimp (disch:=first|omega|(simp only [A4]<;>omega)|fail) only [L.K6,go_sem,reduceIte,reduceCtorEq,B9,C0,C1,C2,C3,C4,C5,C6,C7,C8,C9,D0,D1,D2,D3,D4,D5,D6,D7,A3,BYs,h5,k3,ho,Yp6]
    · obtain ⟨e1,e2,e3⟩:=h6 _ _ (Zpd id) g2
      exact ⟨(k4 id g1 e1).1,e2,e3⟩
  · refine ⟨d,r,b+1,k1,h2,by omega,by omega,?_,fun h=>by omega,fun id r0 g1 g2=>?_⟩
    · intro x;rw [S_of Zin rfl rfl]
      simp -dsimp (disch:=first|omega|(simp only [A4]<;>omega)|fail) only [L.K6,go_sem,reduceIte,reduceCtorEq,B9,C0,C1,C2,C3,C4,C5,C6,C7,C8,C9,D0,D1,D2,D3,D4,D5,D6,D7,A3,BYs,h5,k3,ho,Yp6,Ypo,Ypi]
    · obtain ⟨e1,e2,e3⟩:=h6 _ _ (Zpd id) g2
      have:=(k4 id g1 e1).2
      omega
theorem Z16 {rest w:List UInt8} {bad:Nat} (hr:rest.length≤1000000000) (hw:w.length≤100) (hw10:(10:UInt8)∉w) (hb:bad≤100000):∃ (i:Idt) (r:List UInt8) (b:Nat),i.name.length≤100∧i.email.length≤100∧r.length≤rest.length∧bad≤b∧b≤bad+2 ∧
    (∀ x:Site,S E F.N1 [.ref (.up x) 0 0,.str w] [(.up x,⟨0,true,true,true,[.str rest,.int .i64 bad]⟩)]=some (.agg i.cells,[(.up x,⟨0,true,true,true,[.str r,.int .i64 (b:Int)]⟩)])) ∧
    ∀ j r0,F8 j=true→rest=w++32::(I5 j++10::r0)→i=j∧r=r0∧b=bad:=by
  obtain ⟨v,r,b,h1,h2,h3,h4,h5,hpr,h6⟩:=Zlu hr hw hw10 hb
  rcases Zw9 v with ⟨i,i1,i2⟩|hno
  · have k3:=Ztb i1
    rw [i2] at k3
    refine ⟨i,r,b,?_,?_,h2,h3,by omega,?_,fun j r0 g1 g2=>?_⟩
    · exact Zc5 ((U2 i).1 i1).1
    · exact Zc5 ((U2 i).1 i1).2.1
    · intro x;rw [S_of Zio rfl rfl]
      simp -dsimp (disch:=first|omega|(simp only [A4]<;>omega)|fail) only [L.N1,go_sem,reduceIte,reduceCtorEq,B9,C0,C1,C2,C3,C4,C5,C6,C7,C8,C9,D0,D1,D2,D3,D4,D5,D6,D7,A3,BYs,h5,k3,Idt.cells]
    · obtain ⟨e1,e2,e3⟩:=h6 _ _ (Zxa g1) g2
      refine ⟨?_,e2,e3⟩
      rw [e1] at i2
      have a1:=(Z33 i1).1
      have a2:=(Z33 g1).1
      rw [i2] at a1
      exact a1.symm.trans a2
  · have k3:=Zw8 (s:=v) (by omega) hno
    unfold Znb Zga at k3
    refine ⟨⟨[],[],0,0⟩,r,b+1,by simp,by simp,h2,by omega,by omega,?_,fun j r0 g1 g2=>?_⟩
    · intro x;rw [S_of Zio rfl rfl]
      simp -dsimp (disch:=first|omega|(simp only [A4]<;>omega)|fail) only [L.N1,go_sem,reduceIte,reduceCtorEq,B9,C0,C1,C2,C3,C4,C5,C6,C7,C8,C9,D0,D1,D2,D3,D4,D5,D6,D7,A3,BYs,h5,k3,Idt.cells,Ypo,Ypi]
    · obtain ⟨e1,e2,e3⟩:=h6 _ _ (Zxa g1) g2
      exact absurd e1.symm (hno j g1)
theorem Ygz {rest:List UInt8} {bad:Nat} (hr:rest.length≤1000000000) (hb:bad≤100000):∃ m b,m.length≤rest.length∧bad≤b∧b≤bad+1 ∧
    (∀ x:Site,S E F.N8 [.ref (.up x) 0 0] [(.up x,⟨0,true,true,true,[.str rest,.int .i64 bad]⟩)]=some (.str m,[(.up x,⟨0,true,true,true,[.str rest,.int .i64 (b:Int)]⟩)])) ∧
    ∀ m0,rest=10::m0→m=m0∧b=bad:=by
  have h2:=Zkh (s:=rest) (t:=[10]) (by omega) (by simp)
  cases hp:Zc0 rest [10] with
  | true =>
    rw [hp,if_pos rfl] at h2
    refine ⟨rest.drop 1,bad,by rw [Ynf];omega,Ym7 _,by omega,?_,fun m0 g=>⟨by rw [g];rfl,rfl⟩⟩
    intro x;rw [S_of Zip rfl rfl]
    simp -dsimp (disch:=first|omega|(simp only [A4]<;>omega)|fail) only [L.N8,go_sem,reduceIte,reduceCtorEq,B9,C0,C1,C2,C3,C4,C5,C6,C7,C8,C9,D0,D1,D2,D3,D4,D5,D6,D7,A3,h2,Ynn,Yok]
  | false =>
    rw [hp,if_neg (by simp)] at h2
    refine ⟨rest,bad+1,Ym7 _,by omega,Ym7 _,?_,fun m0 g=>?_⟩
    · intro x;rw [S_of Zip rfl rfl]
      simp -dsimp (disch:=first|omega|(simp only [A4]<;>omega)|fail) only [L.N8,go_sem,reduceIte,reduceCtorEq,B9,C0,C1,C2,C3,C4,C5,C6,C7,C8,C9,D0,D1,D2,D3,D4,D5,D6,D7,A3,h2,Ypo,Ypi]
    · rw [g] at hp
      have:=Znh [10] m0
      rw [List.singleton_append] at this
      rw [this] at hp
      cases hp
end Cod
namespace Cod
open Go
def Z4b (s:List UInt8):Int:=if Zgb s=true then 3 else 0
def idE (i:Idt):Int:=if F8 i=true then 0 else 3
theorem Ymg (l:Lbl):Zd0 l=Zcz [Zb6 l.kind,Zlf l.msg,Z4b l.name,idE l.who]:=rfl
def tagO (l:Lbl):List UInt8:=if Zd0 l=0 then Zg8 l else []
def Zd1 (b:List UInt8) (e:Int):AV × A1:=(.tup [.buf (.r 0) 0 0 b.length 1,.int .i64 e],[(.r 0,⟨0,true,true,false,A0 b⟩)])
def Zki (l:Lbl):AV × A1:=Zd1 (tagO l) (Zd0 l)
theorem Zlv {l:Lbl} (h:Zd0 l=0):Zki l=Zd1 (Zg8 l) 0:=by unfold Zki tagO;rw [if_pos h,h]
theorem Z4c {l:Lbl} (h:Zd0 l≠0):Zki l=Zd1 [] (Zd0 l):=by unfold Zki tagO;rw [if_neg h]
theorem Zxi (e:Int):Zd1 [] e=(.tup [.buf (.r 0) 0 0 0 1,.int .i64 e],[(.r 0,⟨0,true,true,false,[]⟩)]):=rfl
end Cod
namespace Cod
open Go
structure EnvP (EE:Env):Prop where
  ext:Ext E EE
  hex:∀ {id:List UInt8},id.length=32→S EE F.Zih [.agg (A0 id)] []=some (.str (U0 id),[])
theorem EnvP.S_of {EE:Env} (h:EnvP EE) {f:Nat} {l:LFn} (hf:I4 f=some l) (hk:Zln f=none) {args:List AV} {σ:A1} (hn:args.length=l.np):S EE f args σ=X EE l.results [.c l.code] ⟨params 0 args,σ⟩:=by
  have hfn:EE.fn f=some l:=by rw [h.ext.fn];exact hf
  have hkn:EE.known f=none:=(h.ext.none f hk).resolve_right (by rw [show E.fn f=some l from hf];simp)
  exact S_fn hkn hfn hn
end Cod
namespace Cod
open Go
theorem Yg0 {i:Idt}:S E F.U7 [.agg i.cells] []=some (Zw4 i,[]):=by
  have h1:=Zf8 (i:=i)
  rw [S_of Zrd rfl rfl]
  unfold Zw4 at h1 ⊢
  cases h:F8 i<;>rw [h] at h1<;>simp -dsimp (disch:=first|omega|(simp only [A4]<;>omega)|fail) only [L.U7,go_sem,reduceIte,reduceCtorEq,B9,C0,C1,C2,C3,C4,C5,C6,C7,C8,C9,D0,D1,D2,D3,D4,D5,D6,D7,A3,h1]
theorem Zpn {a b c d:Int}:S E F.E8 [.lst [.int .i64 a,.int .i64 b,.int .i64 c,.int .i64 d] 4] []=some (.int .i64 (Zcz [a,b,c,d]),[]):=Zi5 (l:=[a,b,c,d]) (by simp)
section
variable {EE:Env} (hE:EnvP EE)
include hE
theorem Zg1 {l:Lbl} (hn:l.name.length≤1000000000) (hm:l.msg.length≤1000000000):S EE F.H6 [.agg l.cells] []=some (Zki l):=by
  have a1:=K5 hE.ext (Yg0 (i:=l.who))
  have h2:=K5 hE.ext (Ze6 (k:=l.kind))
  have h4:=K5 hE.ext (Zng hm)
  have h5:=hE.hex l.htgt
  have w1:S EE F.E2 [.bool (V9 l.kind == []),.int .i64 9] []=some (.int .i64 (Zb6 l.kind),[]):=K5 hE.ext Q2
  have w3:S EE F.E2 [.bool (Zgb l.name),.int .i64 3] []=some (.int .i64 (Z4b l.name),[]):=K5 hE.ext Q2
  have hw:=Zgw l.kind
  have hx:(U0 l.tgt).length=64:=by rw [Zbf,l.htgt]
  have hd:=K5 hE.ext (Zpn (a:=Zb6 l.kind) (b:=Zlf l.msg) (c:=Z4b l.name) (d:=idE l.who))
  rw [←Ymg] at hd
  have e:Zg8 l=[111,98,106,101,99,116,32]++U0 l.tgt++[10,116,121,112,101,32]++V9 l.kind++[10,116,97,103,32]++l.name++[10,116,97,103,103,101,114,32]++I5 l.who++[10,10]++l.msg:=by
    unfold Zg8 objW typW tagW tgrW
    simp only [Ynz,Yna,Yoz]
  have hz:l.name.length≤100→S EE F.H9 [.str l.name,.str [0,10]] []=some (.bool (l.name.any Zca),[]):=fun h=>K5 hE.ext (K5 ext0 (Ztf (by omega)))
  have hNB:Zgb l.name=(l.name == []||(decide (100<(l.name.length:Int))||l.name.any Zca)):=rfl
  have hnz:F8 l.who=false→Zd0 l≠0:=fun h h0=>by rw [(Zls h0).2.2.2.2.2] at h;cases h
  have hlen:F8 l.who=true→(I5 l.who).length≤1000:=fun h=>Zb8 h
  unfold Zw4 at a1
  unfold idE at hd
  have t1:Zd0 l=0→Zki l=Zd1 (Zg8 l) 0:=Zlv
  have t2:Zd0 l≠0→Zki l=Zd1 [] (Zd0 l):=Z4c
  simp only [Zxi] at t2
  unfold Zd1 at t1
  rw [e] at t1
  rw [hE.S_of Zq1 rfl rfl]
  generalize Zki l=tv at *
  generalize Zd0 l=te at *
  generalize Z4b l.name=ne at *
  generalize Zb6 l.kind=ew at *
  generalize Zlf l.msg=em at *
  generalize U0 l.tgt=a at *
  generalize V9 l.kind=b at *
  clear e
  have hnm:(∃ g:Bool,(l.name == [])=true∧Zgb l.name=true∧g=true)∨((l.name == [])=false∧100<(l.name.length:Int)∧Zgb l.name=true)∨∃ z,(l.name == [])=false∧¬ 100<(l.name.length:Int)∧S EE F.H9 [.str l.name,.str [0,10]] []=some (.bool z,[])∧Zgb l.name=z:=by
    rw [hNB]
    cases c0:(l.name == []) with
    | true=>exact .inl ⟨true,rfl,rfl,rfl⟩
    | false =>
      by_cases c1:100<(l.name.length:Int)
      · exact .inr (.inl ⟨rfl,c1,by rw [decide_eq_true c1];rfl⟩)
      · exact .inr (.inr ⟨_,rfl,c1,hz (by omega),by rw [decide_eq_false c1];rfl⟩)
  clear hNB hz
  cases hi:F8 l.who with
  | false =>
    have hte:=hnz hi
    rw [hi,if_neg (by simp)] at a1 hd
    rw [t2 hte]
    rcases hnm with ⟨_,c0,c3,_⟩|⟨c0,c1,c3⟩|⟨z,c0,c1,c2,c3⟩<;>rw [c3] at w3
    · simp -dsimp (disch:=first|omega|(simp only [A4]<;>omega)|fail) only [L.H6,go_sem,reduceIte,reduceCtorEq,B9,C0,C1,C2,C3,C4,C5,C6,C7,C8,C9,D0,D1,D2,D3,D4,D5,D6,D7,A3,BYs,a1,h2,h4,w1,w3,hd,c0,hte]
    · simp -dsimp (disch:=first|omega|(simp only [A4]<;>omega)|fail) only [L.H6,go_sem,reduceIte,reduceCtorEq,B9,C0,C1,C2,C3,C4,C5,C6,C7,C8,C9,D0,D1,D2,D3,D4,D5,D6,D7,A3,BYs,a1,h2,h4,w1,w3,hd,c0,c1,hte]
    · simp -dsimp (disch:=first|omega|(simp only [A4]<;>omega)|fail) only [L.H6,go_sem,reduceIte,reduceCtorEq,B9,C0,C1,C2,C3,C4,C5,C6,C7,C8,C9,D0,D1,D2,D3,D4,D5,D6,D7,A3,BYs,a1,h2,h4,w1,w3,hd,c0,c1,c2,hte]
  | true =>
    have hl:=hlen hi
    rw [hi,if_pos rfl] at a1 hd
    generalize I5 l.who=c at *
    by_cases hte:te=0
    · subst hte
      rw [t1 rfl]
      rcases hnm with ⟨_,c0,c3,_⟩|⟨c0,c1,c3⟩|⟨z,c0,c1,c2,c3⟩<;>rw [c3] at w3
      · simp -dsimp (disch:=first|omega|(simp only [A4]<;>omega)|fail) only [L.H6,go_sem,reduceIte,reduceCtorEq,B9,C0,C1,C2,C3,C4,C5,C6,C7,C8,C9,D0,D1,D2,D3,D4,D5,D6,D7,A3,BYs,a1,h2,h4,h5,w1,w3,hd,c0]
      · simp -dsimp (disch:=first|omega|(simp only [A4]<;>omega)|fail) only [L.H6,go_sem,reduceIte,reduceCtorEq,B9,C0,C1,C2,C3,C4,C5,C6,C7,C8,C9,D0,D1,D2,D3,D4,D5,D6,D7,A3,BYs,a1,h2,h4,h5,w1,w3,hd,c0,c1]
      · simp -dsimp (disch:=first|omega|(simp only [A4]<;>omega)|fail) only [L.H6,go_sem,reduceIte,reduceCtorEq,B9,C0,C1,C2,C3,C4,C5,C6,C7,C8,C9,D0,D1,D2,D3,D4,D5,D6,D7,A3,BYs,a1,h2,h4,h5,w1,w3,hd,c0,c1,c2]
    · rw [t2 hte]
      rcases hnm with ⟨_,c0,c3,_⟩|⟨c0,c1,c3⟩|⟨z,c0,c1,c2,c3⟩<;>rw [c3] at w3
      · simp -dsimp (disch:=first|omega|(simp only [A4]<;>omega)|fail) only [L.H6,go_sem,reduceIte,reduceCtorEq,B9,C0,C1,C2,C3,C4,C5,C6,C7,C8,C9,D0,D1,D2,D3,D4,D5,D6,D7,A3,BYs,a1,h2,h4,w1,w3,hd,c0,hte]
      · simp -dsimp (disch:=first|omega|(simp only [A4]<;>omega)|fail) only [L.H6,go_sem,reduceIte,reduceCtorEq,B9,C0,C1,C2,C3,C4,C5,C6,C7,C8,C9,D0,D1,D2,D3,D4,D5,D6,D7,A3,BYs,a1,h2,h4,w1,w3,hd,c0,c1,hte]
      · simp -dsimp (disch:=first|omega|(simp only [A4]<;>omega)|fail) only [L.H6,go_sem,reduceIte,reduceCtorEq,B9,C0,C1,C2,C3,C4,C5,C6,C7,C8,C9,D0,D1,D2,D3,D4,D5,D6,D7,A3,BYs,a1,h2,h4,w1,w3,hd,c0,c1,c2,hte]
end
end Cod
namespace Cod
open Go
def Zbg:Lbl:=⟨List.replicate 32 0,0,[],⟨[],[],0,0⟩,[],by simp⟩
theorem lbl0z:X6 (zer (.int .u8 0) 32) [.int .i64 0,.str [],.str [],.str [],.int .i64 0,.int .i64 0,.str []]=Zbg.cells:=rfl
theorem lbl0b:X6 (A0 (List.replicate 32 0)) [.int .i64 0,.str [],.str [],.str [],.int .i64 0,.int .i64 0,.str []]=Zbg.cells:=rfl
theorem lbl0c:A0 (List.replicate 32 0)++[.int .i64 0,.str [],.str [],.str [],.int .i64 0,.int .i64 0,.str []]=Zbg.cells:=rfl
theorem Zji (a b:Lbl):over a.cells 0 b.cells=b.cells:=by
  unfold over;exact Zgp (by rw [Zlr,Zlr])
theorem Yg1 (t:List UInt8) (k:Int) (n:List UInt8) (w:Idt) (m:List UInt8) (h:t.length=32) (x:Int):over (Lbl.mk t k n w m h).cells 32 [.int .i64 x]=(Lbl.mk t x n w m h).cells:=by
  unfold Lbl.cells;rw [Y8 (j:=0) (by rw [D8,h])];rfl
theorem Yg2 (t:List UInt8) (k:Int) (n:List UInt8) (w:Idt) (m:List UInt8) (h:t.length=32) (x:List UInt8):over (Lbl.mk t k n w m h).cells 33 [.str x]=(Lbl.mk t k x w m h).cells:=by
  unfold Lbl.cells;rw [Y8 (j:=1) (by rw [D8,h])];rfl
theorem Yg3 (t:List UInt8) (k:Int) (n:List UInt8) (w:Idt) (m:List UInt8) (h:t.length=32) (x:Idt):over (Lbl.mk t k n w m h).cells 34 x.cells=(Lbl.mk t k n x m h).cells:=by
  unfold Lbl.cells;rw [Y8 (j:=2) (by rw [D8,h])];rfl
theorem Yg4 (t:List UInt8) (k:Int) (n:List UInt8) (w:Idt) (m:List UInt8) (h:t.length=32) (x:List UInt8):over (Lbl.mk t k n w m h).cells 38 [.str x]=(Lbl.mk t k n w x h).cells:=by
  unfold Lbl.cells;rw [Y8 (j:=6) (by rw [D8,h])];rfl
attribute [go_sem] lbl0z lbl0b lbl0c Zji Yg1 Yg2 Yg3 Yg4
def kset (s:List UInt8) (k:Int) (i:Int):Int:=if (V9 i==s)=true then i else k
def Zdv (s:List UInt8):Int:=kset s (kset s (kset s (kset s 0 1) 2) 3) 4
theorem Z17 {k:Int} (h:V9 k≠[]):Zdv (V9 k)=k:=by
  rcases Yl7 h with rfl|rfl|rfl|rfl<;>decide
section
variable {EE:Env} (hE:EnvP EE)
include hE
theorem Zlw {p s r t n m:List UInt8} {b:Int} {h:t.length=32} {w:Idt} (k:List It) {c:Int} (i:Int) (hi:i=0∨i=1∨i=2∨i=3):X EE [.cell 2 (some 39),.tmp 3] (.c L.E4.x0::.lp [0,2,4,5,6,24,25,26] L.E4.x0::.blk 0::k) ⟨[(0,.lst (A0 p) p.length),(2,.ref (.s 1000000 0) 0 0),(4,.ref (.s 1000000 1) 0 0),(5,.ref (.s 1000000 2) 0 0),(6,.str s),(24,.buf (.s 1000000 3) 0 0 4 1),(25,.int .i64 4),(26,.int .i64 i)],[(.s 1000000 0,⟨0,true,true,true,Zbg.cells⟩),(.s 1000000 1,⟨0,true,true,true,[.str r,.int .i64 b]⟩),(.s 1000000 2,⟨0,true,true,true,(Lbl.mk t c n w m h).cells⟩),(.s 1000000 3,⟨0,true,true,false,[.int .i64 1,.int .i64 2,.int .i64 3,.int .i64 4]⟩)]⟩=X EE [.cell 2 (some 39),.tmp 3] (.c L.E4.x0::.lp [0,2,4,5,6,24,25,26] L.E4.x0::.blk 0::k) ⟨[(0,.lst (A0 p) p.length),(2,.ref (.s 1000000 0) 0 0),(4,.ref (.s 1000000 1) 0 0),(5,.ref (.s 1000000 2) 0 0),(6,.str s),(24,.buf (.s 1000000 3) 0 0 4 1),(25,.int .i64 4),(26,.int .i64 (i+1))],[(.s 1000000 0,⟨0,true,true,true,Zbg.cells⟩),(.s 1000000 1,⟨0,true,true,true,[.str r,.int .i64 b]⟩),(.s 1000000 2,⟨0,true,true,true,(Lbl.mk t (kset s c (i+1)) n w m h).cells⟩),(.s 1000000 3,⟨0,true,true,false,[.int .i64 1,.int .i64 2,.int .i64 3,.int .i64 4]⟩)]⟩:=by
  have h2:=K5 hE.ext (Ze6 (k:=i+1))
  rw [K4 L.E4.x0.eq_1]
  unfold kset
  rcases hi with rfl|rfl|rfl|rfl<;>simp only [Int.reduceAdd] at h2 ⊢
  · generalize V9 1=z at *
    cases hz:(z==s)<;>simp -dsimp (disch:=first|omega|(simp only [A4]<;>omega)|fail) only [go_sem,reduceIte,reduceCtorEq,B9,C0,C1,C2,C3,C4,C5,C6,C7,C8,C9,D0,D1,D2,D3,D4,D5,D6,D7,A3,BYs,h2,hz]
  · generalize V9 2=z at *
    cases hz:(z==s)<;>simp -dsimp (disch:=first|omega|(simp only [A4]<;>omega)|fail) only [go_sem,reduceIte,reduceCtorEq,B9,C0,C1,C2,C3,C4,C5,C6,C7,C8,C9,D0,D1,D2,D3,D4,D5,D6,D7,A3,BYs,h2,hz]
  · generalize V9 3=z at *
    cases hz:(z==s)<;>simp -dsimp (disch:=first|omega|(simp only [A4]<;>omega)|fail) only [go_sem,reduceIte,reduceCtorEq,B9,C0,C1,C2,C3,C4,C5,C6,C7,C8,C9,D0,D1,D2,D3,D4,D5,D6,D7,A3,BYs,h2,hz]
  · generalize V9 4=z at *
    cases hz:(z==s)<;>simp -dsimp (disch:=first|omega|(simp only [A4]<;>omega)|fail) only [go_sem,reduceIte,reduceCtorEq,B9,C0,C1,C2,C3,C4,C5,C6,C7,C8,C9,D0,D1,D2,D3,D4,D5,D6,D7,A3,BYs,h2,hz]
theorem pk_all {p s r t n m:List UInt8} {b:Int} {h:t.length=32} {w:Idt} (k:List It):X EE [.cell 2 (some 39),.tmp 3] (.c L.E4.x0::.lp [0,2,4,5,6,24,25,26] L.E4.x0::.blk 0::k) ⟨[(0,.lst (A0 p) p.length),(2,.ref (.s 1000000 0) 0 0),(4,.ref (.s 1000000 1) 0 0),(5,.ref (.s 1000000 2) 0 0),(6,.str s),(24,.buf (.s 1000000 3) 0 0 4 1),(25,.int .i64 4),(26,.int .i64 0)],[(.s 1000000 0,⟨0,true,true,true,Zbg.cells⟩),(.s 1000000 1,⟨0,true,true,true,[.str r,.int .i64 b]⟩),(.s 1000000 2,⟨0,true,true,true,(Lbl.mk t 0 n w m h).cells⟩),(.s 1000000 3,⟨0,true,true,false,[.int .i64 1,.int .i64 2,.int .i64 3,.int .i64 4]⟩)]⟩=X EE [.cell 2 (some 39),.tmp 3] k ⟨[(0,.lst (A0 p) p.length),(2,.ref (.s 1000000 0) 0 0),(4,.ref (.s 1000000 1) 0 0),(5,.ref (.s 1000000 2) 0 0),(6,.str s),(24,.buf (.s 1000000 3) 0 0 4 1),(25,.int .i64 4),(26,.int .i64 4),(27,.bool false)],[(.s 1000000 0,⟨0,true,true,true,Zbg.cells⟩),(.s 1000000 1,⟨0,true,true,true,[.str r,.int .i64 b]⟩),(.s 1000000 2,⟨0,true,true,true,(Lbl.mk t (Zdv s) n w m h).cells⟩),(.s 1000000 3,⟨0,true,true,false,[.int .i64 1,.int .i64 2,.int .i64 3,.int .i64 4]⟩)]⟩:=by
  rw [Zlw hE k 0 (by omega),Zlw hE k _ (by omega),Zlw hE k _ (by omega),Zlw hE k _ (by omega)]
  rw [K4 L.E4.x0.eq_1]
  simp -dsimp (disch:=first|omega|(simp only [A4]<;>omega)|fail) only [go_sem,reduceIte,reduceCtorEq,B9,C0,C1,C2,C3,C4,C5,C6,C7,C8,C9,D0,D1,D2,D3,D4,D5,D6,D7,A3,BYs]
  rfl
end
end Cod
namespace Cod
open Go
theorem Zxj {a b:List UInt8} {n m:Nat} (hn:n=a.length) (hm:m=b.length):S E F.J3 [.lst (A0 a) n,.lst (A0 b) m] []=some (.bool (a==b),[]):=by
  rw [S_of Zim rfl rfl]
  simp -dsimp (disch:=first|omega|(simp only [A4]<;>omega)|fail) only [L.J3,go_sem,reduceIte,reduceCtorEq,B9,C0,C1,C2,C3,C4,C5,C6,C7,C8,C9,D0,D1,D2,D3,D4,D5,D6,D7,A3,BYs]
def lblV (g:Lbl) (ok:Bool):AV × A1:=if ok=true then (.tup [.agg g.cells,.int .i64 0],[]) else (.tup [.agg Zbg.cells,.int .i64 4],[])
def isL (g:Lbl) (p:List UInt8):Bool:=decide (Zd0 g=0)&&(Zg8 g==p)
section
variable {EE:Env} (hE:EnvP EE)
include hE
theorem Zk7 {p:List UInt8} {n:Nat} (hn:n=p.length) (hp:p.length≤1048576):∃ (g:Lbl) (bad:Nat),g.name.length≤1048576∧g.msg.length≤1048576∧S EE F.E4 [.lst (A0 p) n] []=some (lblV g (decide (bad=0)&&isL g p))∧∀ l,Z34 p l→g=l∧bad=0:=by
  subst hn
  obtain ⟨d,r1,b1,hd,q1,u1,v1,s1,_,y1⟩:=Z15 (rest:=p) (w:=objW) (bad:=0) (by omega) (by decide) (by decide) (by omega)
  obtain ⟨t2,r2,b2,p2,q2,u2,v2,s2,_,y2⟩:=Zlu (rest:=r1) (w:=typW) (bad:=b1) (by omega) (by decide) (by decide) (by omega)
  obtain ⟨t3,r3,b3,p3,q3,u3,v3,s3,_,y3⟩:=Zlu (rest:=r2) (w:=tagW) (bad:=b2) (by omega) (by decide) (by decide) (by omega)
  obtain ⟨i4,r4,b4,p4,p4',q4,u4,v4,s4,y4⟩:=Z16 (rest:=r3) (w:=tgrW) (bad:=b3) (by omega) (by decide) (by decide) (by omega)
  obtain ⟨m5,b5,q5,u5,v5,s5,y5⟩:=Ygz (rest:=r4) (bad:=b4) (by omega) (by omega)
  have s1:=fun x=>K5 hE.ext (s1 x)
  have s2:=fun x=>K5 hE.ext (s2 x)
  have s3:=fun x=>K5 hE.ext (s3 x)
  have s4:=fun x=>K5 hE.ext (s4 x)
  have s5:=fun x=>K5 hE.ext (s5 x)
  refine ⟨⟨d,Zdv t2,t3,i4,m5,hd⟩,b5,by show t3.length≤_;omega,by show m5.length≤_;omega,?_,fun l hl=>?_⟩
  · have hput:=Zg1 hE (l:=⟨d,Zdv t2,t3,i4,m5,hd⟩) (by show t3.length≤_;omega) (by show m5.length≤_;omega)
    have t1:Zd0 ⟨d,Zdv t2,t3,i4,m5,hd⟩=0→Zki ⟨d,Zdv t2,t3,i4,m5,hd⟩=Zd1 (Zg8 ⟨d,Zdv t2,t3,i4,m5,hd⟩) 0∧(Zg8 ⟨d,Zdv t2,t3,i4,m5,hd⟩).length≤70000:=fun h=>⟨Zlv h,Zxb h⟩
    have t2':Zd0 ⟨d,Zdv t2,t3,i4,m5,hd⟩≠0→Zki ⟨d,Zdv t2,t3,i4,m5,hd⟩=Zd1 [] (Zd0 ⟨d,Zdv t2,t3,i4,m5,hd⟩):=Z4c
    simp only [Zxi] at t2'
    unfold Zd1 at t1
    unfold isL lblV
    have o1:over Zbg.cells 0 (A0 d)=(Lbl.mk d 0 [] ⟨[],[],0,0⟩ [] hd).cells:=by
      unfold Lbl.cells Zbg
      unfold over
      rw [List.take_zero,Yoz,Nat.zero_add,D8,hd,List.drop_left' (by rw [D8];simp)]
    have hk:=fun k=>pk_all hE (p:=p) (s:=t2) (r:=r2) (b:=(b2:Int)) (n:=[]) (m:=[]) (w:=⟨[],[],0,0⟩) (h:=hd) k
    generalize Zg8 ⟨d,Zdv t2,t3,i4,m5,hd⟩=tb at *
    generalize Zd0 ⟨d,Zdv t2,t3,i4,m5,hd⟩=te at *
    generalize Zki ⟨d,Zdv t2,t3,i4,m5,hd⟩=tv at *
    have c1:(0:Int)<(b5:Int)∨b5=0:=by omega
    unfold objW at s1
    unfold typW at s2
    unfold tagW at s3
    unfold tgrW at s4
    simp only [Ypi] at s1
    have hbe:=fun q:List UInt8=>K5 hE.ext (Zxj (a:=q) (b:=p) (n:=q.length) (m:=p.length) rfl rfl)
    have hbn:=hbe []
    simp only [show A0 []=[] from rfl,Yok] at hbn
    rw [hE.S_of Zq2 rfl rfl]
    by_cases hte:te=0
    · obtain ⟨tg1,t1l⟩:=t1 hte
      subst hte
      rw [tg1] at hput
      have hbt:=hbe tb
      rcases c1 with c1|rfl
      · have hd5:decide (b5=0)=false:=by simp;omega
        rw [hd5,Ypl,if_neg (by simp)]
        simp -dsimp (disch:=first|omega|(simp only [A4]<;>omega)|fail) only [L.E4,L.E4.r0,go_sem,reduceIte,reduceCtorEq,B9,C0,C1,C2,C3,C4,C5,C6,C7,C8,C9,D0,D1,D2,D3,D4,D5,D6,D7,A3,BYs,s1,s2,s3,s4,s5,o1,hk,hput,c1,Ypi]
      · simp only [decide_true,Ypj]
        cases hq:(tb==p) with
        | false =>
          rw [hq] at hbt
          rw [if_neg (by simp)]
          simp -dsimp (disch:=first|omega|(simp only [A4]<;>omega)|fail) only [L.E4,L.E4.r0,go_sem,reduceIte,reduceCtorEq,B9,C0,C1,C2,C3,C4,C5,C6,C7,C8,C9,D0,D1,D2,D3,D4,D5,D6,D7,A3,BYs,s1,s2,s3,s4,s5,o1,hk,hput,hbt,Ypi]
        | true =>
          rw [hq] at hbt
          rw [if_pos rfl]
          simp -dsimp (disch:=first|omega|(simp only [A4]<;>omega)|fail) only [L.E4,L.E4.r0,go_sem,reduceIte,reduceCtorEq,B9,C0,C1,C2,C3,C4,C5,C6,C7,C8,C9,D0,D1,D2,D3,D4,D5,D6,D7,A3,BYs,s1,s2,s3,s4,s5,o1,hk,hput,hbt,Ypi]
    · rw [t2' hte] at hput
      have hd5:decide (te=0)=false:=decide_eq_false hte
      rw [hd5,Ypl,Ypw,if_neg (by simp)]
      rcases c1 with c1|rfl
      · simp -dsimp (disch:=first|omega|(simp only [A4]<;>omega)|fail) only [L.E4,L.E4.r0,go_sem,reduceIte,reduceCtorEq,B9,C0,C1,C2,C3,C4,C5,C6,C7,C8,C9,D0,D1,D2,D3,D4,D5,D6,D7,A3,BYs,s1,s2,s3,s4,s5,o1,hk,hput,c1,Ypi]
      · simp -dsimp (disch:=first|omega|(simp only [A4]<;>omega)|fail) only [L.E4,L.E4.r0,go_sem,reduceIte,reduceCtorEq,B9,C0,C1,C2,C3,C4,C5,C6,C7,C8,C9,D0,D1,D2,D3,D4,D5,D6,D7,A3,BYs,s1,s2,s3,s4,s5,o1,hk,hput,hte,Ypi]
  · obtain ⟨e1,e2⟩:=hl
    obtain ⟨w1,w2,w3,w4,w5,w6⟩:=Zls e1
    rw [Ygk] at e2
    obtain ⟨a1,a2,a3⟩:=y1 _ _ l.htgt e2.symm
    subst a2
    obtain ⟨c1,c2,c3⟩:=y2 _ _ (Z8z _) rfl
    subst c2
    obtain ⟨f1,f2,f3⟩:=y3 _ _ w3 rfl
    subst f2
    obtain ⟨g1,g2,g3⟩:=y4 _ _ w6 rfl
    subst g2
    obtain ⟨k1,k2⟩:=y5 _ rfl
    refine ⟨?_,by omega⟩
    cases l
    simp only at *
    subst a1 f1 g1 k1
    rw [c1,Z17 w1]
end
end Cod
namespace Cod
open Go
theorem Ymh {a b:List UInt8} {n m:Nat} (hn:n=a.length) (hm:m=b.length):S E F.Y3 [.lst (A0 a) n,.lst (A0 b) m] []=some (.bool (a==b),[]):=by
  rw [S_of Zqz rfl rfl]
  simp -dsimp (disch:=first|omega|(simp only [A4]<;>omega)|fail) only [L.Y3,go_sem,reduceIte,reduceCtorEq,B9,C0,C1,C2,C3,C4,C5,C6,C7,C8,C9,D0,D1,D2,D3,D4,D5,D6,D7,A3,BYs]
end Cod
namespace Cod
open Go
def PV (v:AV) (ps:List Id32):Prop:=v=.lst (ids ps) ps.length∨(ps=[]∧v=.nils)
end Cod
namespace Cod
open Go
def Zni (s:Snap):AV × A1:=if Zfe s=0 then Zd1 (Zbr s) 0 else (.tup [.nils,.int .i64 (Zfe s)],[])
def Ze8 (s:Snap):Prop:=s.par.length≤1048576∧s.msg.length≤1000000000
structure EnvC (EE:Env):Prop extends EnvP EE where
  put:∀ {s:Snap} {v:AV},PV v s.par→Ze8 s→S EE F.N7 [.agg (snR s.tree v s.aut s.com s.msg)] []=some (Zni s)
def isC (g:Snap) (p:List UInt8):Bool:=decide (Zfe g=0)&&(Zbr g==p)
theorem Z4d {g:Snap} {p:List UInt8}:isC g p=true↔Z37 p g:=by
  unfold isC Z37
  rw [Ynm,decide_eq_true_eq,beq_iff_eq]
def noC (e:Int):AV × A1:=(.tup [.agg (snR Zeh .nils J9 J9 []),.int .i64 e],[])
def yesC (g:Snap):AV × A1:=if g.par=[] then (.tup [.agg (snR g.tree .nils g.aut g.com g.msg),.int .i64 0],[]) else (.tup [.agg (snR g.tree (.buf (.r 0) 0 0 g.par.length 32) g.aut g.com g.msg),.int .i64 0],[(.r 0,⟨0,true,true,false,ids g.par⟩)])
def cmV (g:Snap) (ok:Bool):AV × A1:=if ok=true then yesC g else noC 4
def mkS (d:List UInt8) (ps:List Id32) (a c:Idt) (m:List UInt8) (hd:d.length=32):Snap:=⟨d,ps,a,c,m,hd⟩
section
variable {EE:Env} (hE:EnvC EE)
include hE
theorem Yg5 {p d r:List UInt8} {ps:List Id32} {b:Nat} {v:AV} {σ:A1} (hd:d.length=32) (hp:p.length≤1048576) (hr:r.length≤1048576) (hb:b≤3) (hps:ps.length≤1048576) (hv:(ps=[]∧v=.nils ∧ σ=[])∨(ps≠[]∧v=.buf (.s 1000000 3) 0 0 ps.length 32 ∧ σ=[(.s 1000000 3,⟨0,true,true,false,ids ps⟩)])) :
    ∃ (g:Snap) (bad:Nat),X EE [.cell 2 (some 42),.tmp 3] [.c L.B3.r0] ⟨[(0,.lst (A0 p) p.length),(2,.ref (.s 1000000 0) 0 0),(4,.ref (.s 1000000 1) 0 0),(5,.ref (.s 1000000 2) 0 0),(30,.bool false)],[(.s 1000000 0,⟨0,true,true,true,snR Zeh .nils J9 J9 []⟩),(.s 1000000 1,⟨0,true,true,true,[.str r,.int .i64 (b:Int)]⟩),(.s 1000000 2,⟨0,true,true,true,snR d v J9 J9 []⟩)] ++ σ⟩=some (cmV g (decide (bad=0)&&isC g p))∧b≤bad ∧
    ∀ a c m,F8 a=true→F8 c=true→r=Znd++32::(I5 a++10::(Zth++32::(I5 c++10::(10::m))))→g=mkS d ps a c m hd∧bad=b:=by
  obtain ⟨i1,r1,b1,n1,e1,q1,u1,v1,s1,y1⟩:=Z16 (rest:=r) (w:=Znd) (bad:=b) (by omega) (by decide) (by decide) (by omega)
  obtain ⟨i2,r2,b2,n2,e2,q2,u2,v2,s2,y2⟩:=Z16 (rest:=r1) (w:=Zth) (bad:=b1) (by omega) (by decide) (by decide) (by omega)
  obtain ⟨m3,b3,q3,u3,v3,s3,y3⟩:=Ygz (rest:=r2) (bad:=b2) (by omega) (by omega)
  have hz0:=Zau
  have s1:=fun x=>K5 hE.ext (s1 x)
  have s2:=fun x=>K5 hE.ext (s2 x)
  have s3:=fun x=>K5 hE.ext (s3 x)
  have yes:∀ a c m,F8 a=true→F8 c=true→r=Znd++32::(I5 a++10::(Zth++32::(I5 c++10::(10::m))))→i1=a∧i2=c∧m3=m∧b3=b:=by
    intro a c m ha hc e
    obtain ⟨g1,g2,g3⟩:=y1 _ _ ha e
    subst g2
    obtain ⟨f1,f2,f3⟩:=y2 _ _ hc rfl
    subst f2
    obtain ⟨k1,k2⟩:=y3 _ rfl
    exact ⟨g1,f1,k1,by omega⟩
  have hput:∀ v,PV v ps→S EE F.N7 [.agg (snR d v i1 i2 m3)] []=some (Zni (mkS d ps i1 i2 m3 hd)):=fun v h=>hE.put (s:=mkS d ps i1 i2 m3 hd) h ⟨hps,by show m3.length≤_;omega⟩
  have t1:Zfe (mkS d ps i1 i2 m3 hd)=0→Zni (mkS d ps i1 i2 m3 hd)=Zd1 (Zbr (mkS d ps i1 i2 m3 hd)) 0∧(Zbr (mkS d ps i1 i2 m3 hd)).length≤80000:=fun h=>⟨if_pos h,Zxh h⟩
  have t2:Zfe (mkS d ps i1 i2 m3 hd)≠0→Zni (mkS d ps i1 i2 m3 hd)=(.tup [.nils,.int .i64 (Zfe (mkS d ps i1 i2 m3 hd))],[]):=fun h=>if_neg h
  refine ⟨mkS d ps i1 i2 m3 hd,b3,?_,by omega,fun a c m ha hc e=>?_⟩
  · have hy:yesC (mkS d ps i1 i2 m3 hd)=if ps=[] then (.tup [.agg (snR d .nils i1 i2 m3),.int .i64 0],[]) else (.tup [.agg (snR d (.buf (.r 0) 0 0 ps.length 32) i1 i2 m3),.int .i64 0],[(.r 0,⟨0,true,true,false,ids ps⟩)]):=rfl
    unfold Zd1 at t1
    unfold isC cmV noC
    rw [hy]
    clear hy
    generalize Zbr (mkS d ps i1 i2 m3 hd)=tb at *
    generalize Zfe (mkS d ps i1 i2 m3 hd)=te at *
    generalize Zni (mkS d ps i1 i2 m3 hd)=tv at *
    have c1:(0:Int)<(b3:Int)∨b3=0:=by omega
    unfold Znd at s1
    unfold Zth at s2
    have hbt:=K5 hE.ext (Zxj (a:=tb) (b:=p) (n:=tb.length) (m:=p.length) rfl rfl)
    clear yes y1 y2 y3
    rcases hv with ⟨rfl,rfl,rfl⟩|⟨hne,rfl,rfl⟩
    · rw [if_pos rfl]
      have hput:=hput _ (.inr ⟨rfl,rfl⟩)
      simp only [Yp5]
      by_cases hte:te=0
      · obtain ⟨tg1,t1l⟩:=t1 hte
        subst hte
        rw [tg1] at hput
        rcases c1 with c1|rfl
        · have hd5:decide (b3=0)=false:=by simp;omega
          rw [hd5,Ypl,if_neg (by simp)]
          simp -dsimp (disch:=first|omega|(simp only [A4]<;>omega)|fail) only [L.B3.r0,go_sem,reduceIte,reduceCtorEq,B9,C0,C1,C2,C3,C4,C5,C6,C7,C8,C9,D0,D1,D2,D3,D4,D5,D6,D7,A3,BYs,s1,s2,s3,hput,c1,Ypi]
        · simp only [decide_true,Ypj]
          cases hq:(tb==p) with
          | false =>
            rw [hq] at hbt
            rw [if_neg (by simp)]
            simp -dsimp (disch:=first|omega|(simp only [A4]<;>omega)|fail) only [L.B3.r0,go_sem,reduceIte,reduceCtorEq,B9,C0,C1,C2,C3,C4,C5,C6,C7,C8,C9,D0,D1,D2,D3,D4,D5,D6,D7,A3,BYs,s1,s2,s3,hput,hbt,Ypi]
          | true =>
            rw [hq] at hbt
            rw [if_pos rfl]
            simp -dsimp (disch:=first|omega|(simp only [A4]<;>omega)|fail) only [L.B3.r0,go_sem,reduceIte,reduceCtorEq,B9,C0,C1,C2,C3,C4,C5,C6,C7,C8,C9,D0,D1,D2,D3,D4,D5,D6,D7,A3,BYs,s1,s2,s3,hput,hbt,Ypi]
      · rw [t2 hte] at hput
        have hd5:decide (te=0)=false:=decide_eq_false hte
        rw [hd5,Ypl,Ypw,if_neg (by simp)]
        rcases c1 with c1|rfl
        · simp -dsimp (disch:=first|omega|(simp only [A4]<;>omega)|fail) only [L.B3.r0,go_sem,reduceIte,reduceCtorEq,B9,C0,C1,C2,C3,C4,C5,C6,C7,C8,C9,D0,D1,D2,D3,D4,D5,D6,D7,A3,BYs,s1,s2,s3,hput,c1,Ypi]
        · simp -dsimp (disch:=first|omega|(simp only [A4]<;>omega)|fail) only [L.B3.r0,go_sem,reduceIte,reduceCtorEq,B9,C0,C1,C2,C3,C4,C5,C6,C7,C8,C9,D0,D1,D2,D3,D4,D5,D6,D7,A3,BYs,s1,s2,s3,hput,hte,Ypi]
    · rw [if_neg hne]
      have hput:=hput _ (.inl rfl)
      simp only [Yna,Yoz]
      by_cases hte:te=0
      · obtain ⟨tg1,t1l⟩:=t1 hte
        subst hte
        rw [tg1] at hput
        rcases c1 with c1|rfl
        · have hd5:decide (b3=0)=false:=by simp;omega
          rw [hd5,Ypl,if_neg (by simp)]
          simp -dsimp (disch:=first|omega|(simp only [A4]<;>omega)|fail) only [L.B3.r0,go_sem,reduceIte,reduceCtorEq,B9,C0,C1,C2,C3,C4,C5,C6,C7,C8,C9,D0,D1,D2,D3,D4,D5,D6,D7,A3,BYs,s1,s2,s3,hput,c1,Ypi]
        · simp only [decide_true,Ypj]
          cases hq:(tb==p) with
          | false =>
            rw [hq] at hbt
            rw [if_neg (by simp)]
            simp -dsimp (disch:=first|omega|(simp only [A4]<;>omega)|fail) only [L.B3.r0,go_sem,reduceIte,reduceCtorEq,B9,C0,C1,C2,C3,C4,C5,C6,C7,C8,C9,D0,D1,D2,D3,D4,D5,D6,D7,A3,BYs,s1,s2,s3,hput,hbt,Ypi]
          | true =>
            rw [hq] at hbt
            rw [if_pos rfl]
            simp -dsimp (disch:=first|omega|(simp only [A4]<;>omega)|fail) only [L.B3.r0,go_sem,reduceIte,reduceCtorEq,B9,C0,C1,C2,C3,C4,C5,C6,C7,C8,C9,D0,D1,D2,D3,D4,D5,D6,D7,A3,BYs,s1,s2,s3,hput,hbt,Ypi]
      · rw [t2 hte] at hput
        have hd5:decide (te=0)=false:=decide_eq_false hte
        rw [hd5,Ypl,Ypw,if_neg (by simp)]
        rcases c1 with c1|rfl
        · simp -dsimp (disch:=first|omega|(simp only [A4]<;>omega)|fail) only [L.B3.r0,go_sem,reduceIte,reduceCtorEq,B9,C0,C1,C2,C3,C4,C5,C6,C7,C8,C9,D0,D1,D2,D3,D4,D5,D6,D7,A3,BYs,s1,s2,s3,hput,c1,Ypi]
        · simp -dsimp (disch:=first|omega|(simp only [A4]<;>omega)|fail) only [L.B3.r0,go_sem,reduceIte,reduceCtorEq,B9,C0,C1,C2,C3,C4,C5,C6,C7,C8,C9,D0,D1,D2,D3,D4,D5,D6,D7,A3,BYs,s1,s2,s3,hput,hte,Ypi]
  · obtain ⟨rfl,rfl,rfl,e4⟩:=yes a c m ha hc e
    exact ⟨rfl,e4⟩
end
end Cod
namespace Cod
open Go
theorem Zpo {r:List UInt8}:Zc0 (Znd++32::r) [112,97,114,101,110,116,32]=false:=by
  unfold Zc0 Znd
  simp
theorem Z9a {r:List UInt8} {d:Id32} {l:List Id32}:Zc0 (Zfd (d::l)++r) [112,97,114,101,110,116,32]=true:=by
  rw [Zgz,Ynz,Yna]
  have:=Znh [112,97,114,101,110,116,32] ((U0 d.b++10::Zfd l)++r)
  exact this
section
variable {EE:Env} (hE:EnvC EE)
include hE
theorem Z18 {p d r:List UInt8} {ps:List Id32} {b:Nat} {v:AV} {σ:A1} (hr:r.length≤1048576) (hv:(ps=[]∧v=.nils ∧ σ=[])∨(ps≠[]∧v=.buf (.s 1000000 3) 0 0 (ps).length 32 ∧ σ=[(.s 1000000 3,⟨0,true,true,false,ids (ps)⟩)])) (h:Zc0 r [112,97,114,101,110,116,32]=false∨b≠0) (hd:d.length=32) :
    X EE [.cell 2 (some 42),.tmp 3] (.c L.B3.x0::.lp [0,2,4,5] L.B3.x0::.blk 0::[.c L.B3.r0]) ⟨[(0,.lst (A0 p) p.length),(2,.ref (.s 1000000 0) 0 0),(4,.ref (.s 1000000 1) 0 0),(5,.ref (.s 1000000 2) 0 0)],[(.s 1000000 0,⟨0,true,true,true,snR Zeh .nils J9 J9 []⟩),(.s 1000000 1,⟨0,true,true,true,[.str r,.int .i64 (b:Int)]⟩),(.s 1000000 2,⟨0,true,true,true,snR d (v) J9 J9 []⟩)] ++ σ⟩=X EE [.cell 2 (some 42),.tmp 3] [.c L.B3.r0] ⟨[(0,.lst (A0 p) p.length),(2,.ref (.s 1000000 0) 0 0),(4,.ref (.s 1000000 1) 0 0),(5,.ref (.s 1000000 2) 0 0),(30,.bool false)],[(.s 1000000 0,⟨0,true,true,true,snR Zeh .nils J9 J9 []⟩),(.s 1000000 1,⟨0,true,true,true,[.str r,.int .i64 (b:Int)]⟩),(.s 1000000 2,⟨0,true,true,true,snR d (v) J9 J9 []⟩)] ++ σ⟩:=by
  have h1:=K5 hE.ext (Zpm (s:=r) (t:=[112,97,114,101,110,116,32]) (by omega) (by decide))
  have h1:S EE F.N9 [.str r,.str [112,97,114,101,110,116,32]] []=some (.bool (Zc0 r [112,97,114,101,110,116,32]),[]):=h1
  have hz0:=Zau
  rw [K4 L.B3.x0.eq_1]
  cases hp:Zc0 r [112,97,114,101,110,116,32] with
  | false =>
    rw [hp] at h1
    rcases hv with ⟨rfl,rfl,rfl⟩|⟨hne,rfl,rfl⟩
    · simp only [Yp5]
      simp -dsimp (disch:=first|omega|(simp only [A4]<;>omega)|fail) only [go_sem,reduceIte,reduceCtorEq,B9,C0,C1,C2,C3,C4,C5,C6,C7,C8,C9,D0,D1,D2,D3,D4,D5,D6,D7,A3,BYs,h1]
    · simp only [Yna,Yoz]
      simp -dsimp (disch:=first|omega|(simp only [A4]<;>omega)|fail) only [go_sem,reduceIte,reduceCtorEq,B9,C0,C1,C2,C3,C4,C5,C6,C7,C8,C9,D0,D1,D2,D3,D4,D5,D6,D7,A3,BYs,h1]
  | true =>
    rw [hp] at h1 h
    have hb:b≠0:=h.resolve_left (by simp)
    have hb':((b:Int)==0)=false:=by rw [beq_eq_false_iff_ne];omega
    rcases hv with ⟨rfl,rfl,rfl⟩|⟨hne,rfl,rfl⟩
    · simp only [Yp5]
      simp -dsimp (disch:=first|omega|(simp only [A4]<;>omega)|fail) only [go_sem,reduceIte,reduceCtorEq,B9,C0,C1,C2,C3,C4,C5,C6,C7,C8,C9,D0,D1,D2,D3,D4,D5,D6,D7,A3,BYs,h1,hb']
    · simp only [Yna,Yoz]
      simp -dsimp (disch:=first|omega|(simp only [A4]<;>omega)|fail) only [go_sem,reduceIte,reduceCtorEq,B9,C0,C1,C2,C3,C4,C5,C6,C7,C8,C9,D0,D1,D2,D3,D4,D5,D6,D7,A3,BYs,h1,hb']
theorem pc_in {p d r r' e:List UInt8} {ps:List Id32} {b':Nat} {v:AV} {σ:A1} (hr:r.length≤1048576) (hps:ps.length≤1048576) (hv:(ps=[]∧v=.nils ∧ σ=[])∨(ps≠[]∧v=.buf (.s 1000000 3) 0 0 (ps).length 32 ∧ σ=[(.s 1000000 3,⟨0,true,true,false,ids (ps)⟩)])) (h:Zc0 r [112,97,114,101,110,116,32]=true) (hd:d.length=32) (he:e.length=32)
    (hid:∀ x:Site,S E F.K6 [.ref (.up x) 0 0,.str [112,97,114,101,110,116]] [(.up x,⟨0,true,true,true,[.str r,.int .i64 0]⟩)]=some (.agg (A0 e),[(.up x,⟨0,true,true,true,[.str r',.int .i64 (b':Int)]⟩)])) :
    X EE [.cell 2 (some 42),.tmp 3] (.c L.B3.x0::.lp [0,2,4,5] L.B3.x0::.blk 0::[.c L.B3.r0]) ⟨[(0,.lst (A0 p) p.length),(2,.ref (.s 1000000 0) 0 0),(4,.ref (.s 1000000 1) 0 0),(5,.ref (.s 1000000 2) 0 0)],[(.s 1000000 0,⟨0,true,true,true,snR Zeh .nils J9 J9 []⟩),(.s 1000000 1,⟨0,true,true,true,[.str r,.int .i64 0]⟩),(.s 1000000 2,⟨0,true,true,true,snR d (v) J9 J9 []⟩)] ++ σ⟩=X EE [.cell 2 (some 42),.tmp 3] (.c L.B3.x0::.lp [0,2,4,5] L.B3.x0::.blk 0::[.c L.B3.r0]) ⟨[(0,.lst (A0 p) p.length),(2,.ref (.s 1000000 0) 0 0),(4,.ref (.s 1000000 1) 0 0),(5,.ref (.s 1000000 2) 0 0)],[(.s 1000000 0,⟨0,true,true,true,snR Zeh .nils J9 J9 []⟩),(.s 1000000 1,⟨0,true,true,true,[.str r',.int .i64 (b':Int)]⟩),(.s 1000000 2,⟨0,true,true,true,snR d (.buf (.s 1000000 3) 0 0 (ps++[mkI e]).length 32) J9 J9 []⟩)]++[(.s 1000000 3,⟨0,true,true,false,ids (ps++[mkI e])⟩)]⟩:=by
  have h1:=K5 hE.ext (Zpm (s:=r) (t:=[112,97,114,101,110,116,32]) (by omega) (by decide))
  have h1:S EE F.N9 [.str r,.str [112,97,114,101,110,116,32]] []=some (.bool (Zc0 r [112,97,114,101,110,116,32]),[]):=h1
  have hz0:=Zau
  rw [h] at h1
  have h2:=fun x=>K5 hE.ext (hid x)
  have ho:over (A0 (List.replicate 32 0)) 0 (A0 e)=A0 e:=Z4 (by rw [he];simp)
  have hsn:ids ps++A0 e=ids (ps++[mkI e]):=by
    have:=Ygo ps (mkI e)
    rw [mkI_b he] at this
    exact this
  have hln:(ps++[mkI e]).length=ps.length+1:=by simp
  conv=>lhs;rw [K4 L.B3.x0.eq_1]
  rcases hv with ⟨rfl,rfl,rfl⟩|⟨hne,rfl,rfl⟩
  · rw [Z35,Yoz,Yoz] at hsn
    simp only [Yp5,Yna,Yoz,←hsn]
    simp -dsimp (disch:=first|omega|(simp only [A4]<;>omega)|fail) only [go_sem,reduceIte,reduceCtorEq,B9,C0,C1,C2,C3,C4,C5,C6,C7,C8,C9,D0,D1,D2,D3,D4,D5,D6,D7,A3,BYs,h1,h2,ho,he,Yp6]
  · simp only [Yna,Yoz,hln]
    simp -dsimp (disch:=first|omega|(simp only [A4]<;>omega)|fail) only [go_sem,reduceIte,reduceCtorEq,B9,C0,C1,C2,C3,C4,C5,C6,C7,C8,C9,D0,D1,D2,D3,D4,D5,D6,D7,A3,BYs,h1,h2,ho,he,hsn,Yp6]
end
end Cod
namespace Cod
open Go
section
variable {EE:Env} (hE:EnvC EE)
include hE
theorem Ymi {p d:List UInt8} (hd:d.length=32) (hp:p.length≤1048576):∀ (m:Nat) (r:List UInt8) (ps:List Id32) (b:Nat) (v:AV) (σ:A1),r.length≤m→r.length≤1048576→ps.length+r.length≤1048576→b≤2→((ps=[]∧v=.nils ∧ σ=[])∨(ps≠[]∧v=.buf (.s 1000000 3) 0 0 (ps).length 32 ∧ σ=[(.s 1000000 3,⟨0,true,true,false,ids (ps)⟩)])) →
    ∃ (g:Snap) (bad:Nat),X EE [.cell 2 (some 42),.tmp 3] (.c L.B3.x0::.lp [0,2,4,5] L.B3.x0::.blk 0::[.c L.B3.r0]) ⟨[(0,.lst (A0 p) p.length),(2,.ref (.s 1000000 0) 0 0),(4,.ref (.s 1000000 1) 0 0),(5,.ref (.s 1000000 2) 0 0)],[(.s 1000000 0,⟨0,true,true,true,snR Zeh .nils J9 J9 []⟩),(.s 1000000 1,⟨0,true,true,true,[.str r,.int .i64 (b:Int)]⟩),(.s 1000000 2,⟨0,true,true,true,snR d (v) J9 J9 []⟩)] ++ σ⟩=some (cmV g (decide (bad=0)&&isC g p))∧∀ qs a c m,F8 a=true→F8 c=true→b=0→r=Zfd qs++(Znd++32::(I5 a++10::(Zth++32::(I5 c++10::(10::m)))))→g=mkS d (ps++qs) a c m hd∧bad=0:=by
  intro m
  induction m with
  | zero =>
    intro r ps b v σ hm hr hpr hb hv
    obtain rfl:r=[]:=List.eq_nil_of_length_eq_zero (by omega)
    obtain ⟨g,bad,h1,h2,h3⟩:=Yg5 hE (p:=p) (d:=d) (r:=[]) (ps:=ps) (b:=b) hd hp hr (by omega) (by omega) hv
    refine ⟨g,bad,?_,fun qs a c m ha hc hb0 e=>?_⟩
    · rw [Z18 hE hr hv (.inl rfl) hd];exact h1
    · have:=congrArg List.length e
      simp only [Yny,Ynn,Yok] at this
      omega
  | succ m ih =>
    intro r ps b v σ hm hr hpr hb hv
    by_cases hex:Zc0 r [112,97,114,101,110,116,32]=false∨b≠0
    · obtain ⟨g,bad,h1,h2,h3⟩:=Yg5 hE (p:=p) (d:=d) (r:=r) (ps:=ps) (b:=b) hd hp hr (by omega) (by omega) hv
      refine ⟨g,bad,?_,fun qs a c m ha hc hb0 e=>?_⟩
      · rw [Z18 hE hr hv hex hd];exact h1
      · have hpf:=hex.resolve_right (fun h=>h hb0)
        cases qs with
        | nil =>
          rw [Zjh,Yoz] at e
          obtain ⟨k1,k2⟩:=h3 a c m ha hc e
          rw [Yp5]
          exact ⟨k1,by omega⟩
        | cons q qs =>
          rw [e,Z9a] at hpf
          cases hpf
    · have hpt:Zc0 r [112,97,114,101,110,116,32]=true:=by
        cases hq:Zc0 r [112,97,114,101,110,116,32] with
        | false=>exact absurd (.inl hq) hex
        | true=>rfl
      obtain rfl:b=0:=by
        apply Classical.byContradiction
        intro hn
        exact hex (.inr hn)
      have hlen:7≤r.length:=by
        unfold Zc0 at hpt
        simp only [Ynm,decide_eq_true_eq] at hpt
        exact hpt.1
      obtain ⟨e,r',b',he,q1,u1,v1,s1,pr,y1⟩:=Z15 (rest:=r) (w:=parW) (bad:=0) (by omega) (by decide) (by decide) (by omega)
      have hin:=pc_in hE (p:=p) (d:=d) (r:=r) (r':=r') (e:=e) (ps:=ps) (b':=b') hr (by omega) hv hpt hd he s1
      have hv':((ps++[mkI e])=[]∧(AV.buf (.s 1000000 3) 0 0 (ps++[mkI e]).length 32)=.nils∧([(.s 1000000 3,⟨0,true,true,false,ids (ps++[mkI e])⟩)]:A1)=[])∨((ps++[mkI e])≠[]∧(AV.buf (.s 1000000 3) 0 0 (ps++[mkI e]).length 32)=.buf (.s 1000000 3) 0 0 ((ps++[mkI e])).length 32∧([(.s 1000000 3,⟨0,true,true,false,ids (ps++[mkI e])⟩)]:A1)=[(.s 1000000 3,⟨0,true,true,false,ids ((ps++[mkI e]))⟩)]):=.inr ⟨by simp,rfl,rfl⟩
      have hl1:(ps++[mkI e]).length=ps.length+1:=by simp
      by_cases hb':b'=0
      · obtain ⟨g,bad,h1,h2⟩:=ih r' (ps++[mkI e]) b' _ _ (by have:=pr hb';omega) (by omega) (by have:=pr hb';omega) (by omega) hv'
        refine ⟨g,bad,hin.trans h1,fun qs a c m ha hc hb0 e0=>?_⟩
        cases qs with
        | nil =>
          rw [e0,Zjh,Yoz,Zpo] at hpt
          cases hpt
        | cons q qs =>
          rw [Zgz,Ynz,Yna,Ynz,Yna] at e0
          obtain ⟨k1,k2,k3⟩:=y1 _ _ q.h e0
          obtain ⟨j1,j2⟩:=h2 qs a c m ha hc k3 k2
          refine ⟨?_,j2⟩
          rw [j1,k1,Ygq,Ynz]
          rfl
      · obtain ⟨g,bad,h1,h2,h3⟩:=Yg5 hE (p:=p) (d:=d) (r:=r') (ps:=ps++[mkI e]) (b:=b') hd hp (by omega) (by omega) (by omega) hv'
        refine ⟨g,bad,?_,fun qs a c m ha hc hb0 e0=>?_⟩
        · exact hin.trans ((Z18 hE (by omega) hv' (.inr hb') hd).trans h1)
        · cases qs with
          | nil =>
            rw [e0,Zjh,Yoz,Zpo] at hpt
            cases hpt
          | cons q qs =>
            rw [Zgz,Ynz,Yna,Ynz,Yna] at e0
            exact absurd (y1 _ _ q.h e0).2.2 hb'
theorem Zjj {p:List UInt8} {n:Nat} (hn:n=p.length) (hp:p.length≤1048576):∃ (g:Snap) (bad:Nat),S EE F.B3 [.lst (A0 p) n] []=some (cmV g (decide (bad=0)&&isC g p))∧∀ s,Z37 p s→g=s∧bad=0:=by
  subst hn
  obtain ⟨d,r,b,hd,q1,u1,v1,s1,_,y1⟩:=Z15 (rest:=p) (w:=Zxe) (bad:=0) (by omega) (by decide) (by decide) (by omega)
  obtain ⟨g,bad,h1,h2⟩:=Ymi hE (p:=p) (d:=d) hd hp r.length r [] b _ _ (Ym7 _) (by omega) (by simp only [Yok];omega) (by omega) (.inl ⟨rfl,rfl,rfl⟩)
  refine ⟨g,bad,?_,fun s hs=>?_⟩
  · rw [←h1]
    have s1:=fun x=>K5 hE.ext (s1 x)
    unfold Zxe at s1
    have hz0:=Zau
    rw [hE.S_of Zq3 rfl rfl]
    simp only [Yp5,Ypi] at s1 ⊢
    simp -dsimp (disch:=first|omega|(simp only [A4]<;>omega)|fail) only [L.B3,go_sem,reduceIte,reduceCtorEq,B9,C0,C1,C2,C3,C4,C5,C6,C7,C8,C9,D0,D1,D2,D3,D4,D5,D6,D7,A3,BYs,s1]
  · obtain ⟨e1,e2⟩:=hs
    obtain ⟨w1,w2,w3,w4⟩:=Zg0 e1
    rw [Ygv] at e2
    obtain ⟨k1,k2,k3⟩:=y1 _ _ s.ht e2.symm
    obtain ⟨j1,j2⟩:=h2 s.par s.aut s.com s.msg w3 w4 k3 k2
    refine ⟨?_,j2⟩
    rw [j1]
    subst k1
    rfl
end
end Cod
namespace Cod
open Go
end Cod

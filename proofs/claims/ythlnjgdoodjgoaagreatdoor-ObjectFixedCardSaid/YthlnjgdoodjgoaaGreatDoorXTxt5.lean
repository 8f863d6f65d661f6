/- Lines: the program's lines and the reference's line. -/
import Derived.Test.YthlnjgdoodjgoaaGreatDoorXTxt4
import Derived.Test.YthlnjgdoodjgoaaGreatDoorXTxt2
import Derived.Test.YthlnjgdoodjgoaaGreatDoorXTxt1
set_option linter.unusedSimpArgs false
set_option linter.unusedVariables false
open List renaming append_assoc → Ym0, append_nil → Yo4, cons_append → Ymb, drop_left → Yo7, idxOf_lt_length_of_mem → Yo6, length_append → Ymz, length_cons → Ymo, length_drop → Ymg, length_nil → Ynl, length_replicate → Yo5, length_singleton → Yoh, nil_append → Yn0
open Nat renaming le_refl → Yl8
open Int renaming cast_ofNat_Int → Yoj, natCast_add → Yop
open Bool renaming and_eq_true → Ymn, and_false → Yox, false_and → Yom, true_and → Yok
open Nat renaming reduceEqDiff → C9, reduceAdd → D0, reduceSub → D1, reduceMul → D2, reduceDiv → D3, reduceMod → D4, reduceBEq → D5, reduceLeDiff → D6, reduceLT → D7
open Int renaming reduceEq → D8, reduceNe → D9, reduceLT → E2, reduceLE → E3, reduceBEq → E4, reduceBNe → E5, reduceToNat → E6, reduceAdd → E7, reduceSub → E8, reduceMul → E9, reduceNeg → A2
namespace Cod
open Go
theorem Yf3 {w v:List UInt8}:(w++v).drop w.length=v:=Yo7
theorem Zpg {s t:List UInt8} (hs:s.length≤1000000000000) (ht:t.length≤1000000000000):S E F.N8 [.str s,.str t] []=some (.bool (decide (t.length≤s.length)&&(s.take t.length==t)),[]):=by
  have h0:S E F.J2 [.str s,.str t] []=some (.bool (decide (t.length≤s.length)&&(s.take t.length==t)),[]):=by
    rw [S_of Zi3 rfl rfl]
    by_cases h:t.length≤s.length
    · simp -dsimp (disch:=first|omega|(simp only [A4]<;>omega)|fail) only [L.J2,go_sem,reduceIte,reduceCtorEq,C9,D0,D1,D2,D3,D4,D5,D6,D7,D8,D9,E2,E3,E4,E5,E6,E7,E8,E9,A2,h,B9,B8,B6,decide_true,Yok,Nat.sub_zero]
    · simp -dsimp (disch:=first|omega|(simp only [A4]<;>omega)|fail) only [L.J2,go_sem,reduceIte,reduceCtorEq,C9,D0,D1,D2,D3,D4,D5,D6,D7,D8,D9,E2,E3,E4,E5,E6,E7,E8,E9,A2,h,B9,B8,B6,decide_false,Yom]
  rw [S_of Zq5 rfl rfl]
  simp -dsimp (disch:=first|omega|(simp only [A4]<;>omega)|fail) only [L.N8,go_sem,reduceIte,reduceCtorEq,C9,D0,D1,D2,D3,D4,D5,D6,D7,D8,D9,E2,E3,E4,E5,E6,E7,E8,E9,A2,h0]
def Zdb (s t:List UInt8):Bool:=decide (t.length≤s.length)&&(s.take t.length==t)
theorem Znh (w v:List UInt8):Zdb (w++v) w=true:=by
  unfold Zdb
  simp
theorem Zkl {s t:List UInt8} (hs:s.length≤1000000000000) (ht:t.length≤1000000000000):S E F.N9 [.str s,.str t] []=some (if Zdb s t=true then .tup [.str (s.drop t.length),.bool true] else .tup [.str s,.bool false],[]):=by
  have h0:S E F.Q3 [.str s,.str t] []=some (if Zdb s t=true then .tup [.str (s.drop t.length),.bool true] else .tup [.str s,.bool false],[]):=by
    have hp:S E F.J2 [.str s,.str t] []=some (.bool (Zdb s t),[]):=by
      rw [S_of Zi3 rfl rfl]
      unfold Zdb
      by_cases h:t.length≤s.length
      · simp -dsimp (disch:=first|omega|(simp only [A4]<;>omega)|fail) only [L.J2,go_sem,reduceIte,reduceCtorEq,C9,D0,D1,D2,D3,D4,D5,D6,D7,D8,D9,E2,E3,E4,E5,E6,E7,E8,E9,A2,h,B9,B8,B6,decide_true,Yok,Nat.sub_zero]
      · simp -dsimp (disch:=first|omega|(simp only [A4]<;>omega)|fail) only [L.J2,go_sem,reduceIte,reduceCtorEq,C9,D0,D1,D2,D3,D4,D5,D6,D7,D8,D9,E2,E3,E4,E5,E6,E7,E8,E9,A2,h,B9,B8,B6,decide_false,Yom]
    rw [S_of Zrq rfl rfl]
    cases hb:Zdb s t with
    | true =>
      have hl:t.length≤s.length:=by unfold Zdb at hb;simp only [Ymn,decide_eq_true_eq] at hb;exact hb.1
      simp -dsimp (disch:=first|omega|(simp only [A4]<;>omega)|fail) only [L.Q3,go_sem,reduceIte,reduceCtorEq,C9,D0,D1,D2,D3,D4,D5,D6,D7,D8,D9,E2,E3,E4,E5,E6,E7,E8,E9,A2,hp,hb,B9,B8,B6]
    | false=>simp -dsimp (disch:=first|omega|(simp only [A4]<;>omega)|fail) only [L.Q3,go_sem,reduceIte,reduceCtorEq,C9,D0,D1,D2,D3,D4,D5,D6,D7,D8,D9,E2,E3,E4,E5,E6,E7,E8,E9,A2,hp,hb,B9,B8,B6]
  rw [S_of Zrf rfl rfl]
  cases hb:Zdb s t with
  | true=>rw [hb] at h0;simp -dsimp (disch:=first|omega|(simp only [A4]<;>omega)|fail) only [L.N9,go_sem,reduceIte,reduceCtorEq,C9,D0,D1,D2,D3,D4,D5,D6,D7,D8,D9,E2,E3,E4,E5,E6,E7,E8,E9,A2] at h0 ⊢;simp -dsimp (disch:=first|omega|(simp only [A4]<;>omega)|fail) only [go_sem,reduceIte,reduceCtorEq,C9,D0,D1,D2,D3,D4,D5,D6,D7,D8,D9,E2,E3,E4,E5,E6,E7,E8,E9,A2,h0]
  | false=>rw [hb] at h0;simp -dsimp (disch:=first|omega|(simp only [A4]<;>omega)|fail) only [L.N9,go_sem,reduceIte,reduceCtorEq,C9,D0,D1,D2,D3,D4,D5,D6,D7,D8,D9,E2,E3,E4,E5,E6,E7,E8,E9,A2] at h0 ⊢;simp -dsimp (disch:=first|omega|(simp only [A4]<;>omega)|fail) only [go_sem,reduceIte,reduceCtorEq,C9,D0,D1,D2,D3,D4,D5,D6,D7,D8,D9,E2,E3,E4,E5,E6,E7,E8,E9,A2,h0]
/- Steps of a reader of lines. -/
theorem Z3m {rest w:List UInt8} {bad:Nat} (hr:rest.length≤1000000000) (hw:w.length≤100) (hw10:(10:UInt8)∉w) (hb:bad≤100000):∃ v r b,v.length≤rest.length∧r.length≤rest.length∧bad≤b∧b≤bad+1 ∧
    (∀ x:Site,S E F.I0 [.ref (.up x) 0 0,.str w] [(.up x,⟨0,true,true,true,[.str rest,.int .i64 bad]⟩)]=some (.str v,[(.up x,⟨0,true,true,true,[.str r,.int .i64 (b:Int)]⟩)])) ∧
    (b=bad→r.length<rest.length) ∧
    ∀ v0 r0,(10:UInt8)∉v0→rest=w++32::(v0++10::r0)→v=v0∧r=r0∧b=bad:=by
  have h1:=Z3l (s:=rest) (c:=10) (by omega)
  by_cases hc:(10:UInt8)∈rest
  · rw [if_pos hc] at h1
    have hlt:(rest.take (rest.idxOf 10)).length≤rest.length:=by rw [List.length_take];omega
    have h2:=Zkl (s:=rest.take (rest.idxOf 10)) (t:=w++[32]) (by omega) (by rw [Ymz,Yoh];omega)
    have hi:=Yo6 hc
    have hsplit:rest=rest.take (rest.idxOf 10)++10::rest.drop (rest.idxOf 10+1):=by
      conv=>lhs;rw [←List.take_append_drop (rest.idxOf 10) rest,List.drop_eq_getElem_cons hi]
      rw [List.getElem_idxOf hi]
    have hno:=Yo6 hc
    have yes:∀ v0 r0,(10:UInt8)∉v0→rest=w++32::(v0++10::r0)→rest.take (rest.idxOf 10)=w++[32]++v0∧rest.drop (rest.idxOf 10+1)=r0:=by
      intro v0 r0 g1 g2
      have gi:=Yk6 (r:=r0) hw10 g1
      rw [←g2] at gi
      rw [gi]
      have e:rest=(w++[32]++v0)++10::r0:=by rw [g2];simp
      have el:(w++[32]++v0).length=w.length+1+v0.length:=by simp;omega
      rw [e,←el]
      refine ⟨List.take_left,?_⟩
      rw [←List.drop_drop,Yo7]
      rfl
    generalize rest.take (rest.idxOf 10)=line at *
    generalize rest.drop (rest.idxOf 10+1)=tail at *
    have htl':tail.length<rest.length:=by rw [hsplit,Ymz,Ymo];omega
    have htl:tail.length≤rest.length:=by omega
    cases hp:Zdb line (w++[32]) with
    | true =>
      rw [hp,if_pos rfl] at h2
      have hd:(line.drop (w++[32]).length).length≤rest.length:=by rw [Ymg];omega
      refine ⟨line.drop (w++[32]).length,tail,bad,hd,htl,Yl8 _,by omega,?_,fun _=>htl',fun v0 r0 g1 g2=>?_⟩
      · intro x;rw [S_of Ze7 rfl rfl]
        simp -dsimp (disch:=first|omega|(simp only [A4]<;>omega)|fail) only [L.I0,go_sem,reduceIte,reduceCtorEq,C9,D0,D1,D2,D3,D4,D5,D6,D7,D8,D9,E2,E3,E4,E5,E6,E7,E8,E9,A2,h1,h2,Yop,Yoj]
      · obtain ⟨e1,e2⟩:=yes v0 r0 g1 g2
        refine ⟨?_,e2,rfl⟩
        rw [e1];exact Yf3
    | false =>
      rw [hp,if_neg (by simp)] at h2
      refine ⟨[],rest,bad+1,by simp,Yl8 _,by omega,Yl8 _,?_,fun h=>by omega,fun v0 r0 g1 g2=>?_⟩
      · intro x;rw [S_of Ze7 rfl rfl]
        simp -dsimp (disch:=first|omega|(simp only [A4]<;>omega)|fail) only [L.I0,go_sem,reduceIte,reduceCtorEq,C9,D0,D1,D2,D3,D4,D5,D6,D7,D8,D9,E2,E3,E4,E5,E6,E7,E8,E9,A2,h1,h2,Yop,Yoj]
      · obtain ⟨e1,e2⟩:=yes v0 r0 g1 g2
        rw [e1,Znh] at hp
        cases hp
  · rw [if_neg hc] at h1
    have h2:=Zkl (s:=rest) (t:=w++[32]) (by omega) (by rw [Ymz,Yoh];omega)
    refine ⟨[],rest,bad+1,by simp,Yl8 _,by omega,Yl8 _,?_,fun h=>by omega,fun v0 r0 g1 g2=>?_⟩
    · intro x;rw [S_of Ze7 rfl rfl]
      cases hp:Zdb rest (w++[32]) with
      | true=>rw [hp,if_pos rfl] at h2;simp -dsimp (disch:=first|omega|(simp only [A4]<;>omega)|fail) only [L.I0,go_sem,reduceIte,reduceCtorEq,C9,D0,D1,D2,D3,D4,D5,D6,D7,D8,D9,E2,E3,E4,E5,E6,E7,E8,E9,A2,h1,h2,Yop,Yoj]
      | false=>rw [hp,if_neg (by simp)] at h2;simp -dsimp (disch:=first|omega|(simp only [A4]<;>omega)|fail) only [L.I0,go_sem,reduceIte,reduceCtorEq,C9,D0,D1,D2,D3,D4,D5,D6,D7,D8,D9,E2,E3,E4,E5,E6,E7,E8,E9,A2,h1,h2,Yop,Yoj]
    · exact absurd (by rw [g2];simp) hc
end Cod
namespace Cod
open Go
theorem Yf4 {rest w:List UInt8} {bad:Nat} (hr:rest.length≤1000000000) (hw:w.length≤100) (hw10:(10:UInt8)∉w) (hb:bad≤100000):∃ d r b,d.length=32∧r.length≤rest.length∧bad≤b∧b≤bad+2 ∧
    (∀ x:Site,S E F.K2 [.ref (.up x) 0 0,.str w] [(.up x,⟨0,true,true,true,[.str rest,.int .i64 bad]⟩)]=some (.agg (A0 d),[(.up x,⟨0,true,true,true,[.str r,.int .i64 (b:Int)]⟩)])) ∧
    (b=bad→r.length<rest.length) ∧
    ∀ id r0,id.length=32→rest=w++32::(Z5 id++10::r0)→d=id∧r=r0∧b=bad:=by
  obtain ⟨v,r,b,h1,h2,h3,h4,h5,hpr,h6⟩:=Z3m hr hw hw10 hb
  obtain ⟨d,e,k1,k2,k3,k4⟩:=Z8d (s:=v) (by omega)
  have ho:over (A0 (List.replicate 32 0)) 0 (A0 d)=A0 d:=Zab (by rw [k1];simp)
  rcases k2 with rfl|rfl
  · refine ⟨d,r,b,k1,h2,h3,by omega,?_,hpr,fun id r0 g1 g2=>?_⟩
    · intro x;rw [S_of Ziv rfl rfl]
      simp -dsimp (disch:=first|omega|(simp only [A4]<;>omega)|fail) only [L.K2,go_sem,reduceIte,reduceCtorEq,C9,D0,D1,D2,D3,D4,D5,D6,D7,D8,D9,E2,E3,E4,E5,E6,E7,E8,E9,A2,BYs,h5,k3,ho,Yo5]
    · obtain ⟨e1,e2,e3⟩:=h6 _ _ (Zo9 id) g2
      exact ⟨(k4 id g1 e1).1,e2,e3⟩
  · refine ⟨d,r,b+1,k1,h2,by omega,by omega,?_,fun h=>by omega,fun id r0 g1 g2=>?_⟩
    · intro x;rw [S_of Ziv rfl rfl]
      simp -dsimp (disch:=first|omega|(simp only [A4]<;>omega)|fail) only [L.K2,go_sem,reduceIte,reduceCtorEq,C9,D0,D1,D2,D3,D4,D5,D6,D7,D8,D9,E2,E3,E4,E5,E6,E7,E8,E9,A2,BYs,h5,k3,ho,Yo5,Yop,Yoj]
    · obtain ⟨e1,e2,e3⟩:=h6 _ _ (Zo9 id) g2
      have:=(k4 id g1 e1).2
      omega
theorem Yf5 {rest w:List UInt8} {bad:Nat} (hr:rest.length≤1000000000) (hw:w.length≤100) (hw10:(10:UInt8)∉w) (hb:bad≤100000):∃ (i:Idt) (r:List UInt8) (b:Nat),i.name.length≤100∧i.email.length≤100∧r.length≤rest.length∧bad≤b∧b≤bad+2 ∧
    (∀ x:Site,S E F.M6 [.ref (.up x) 0 0,.str w] [(.up x,⟨0,true,true,true,[.str rest,.int .i64 bad]⟩)]=some (.agg i.cells,[(.up x,⟨0,true,true,true,[.str r,.int .i64 (b:Int)]⟩)])) ∧
    ∀ j r0,G7 j=true→rest=w++32::(H7 j++10::r0)→i=j∧r=r0∧b=bad:=by
  obtain ⟨v,r,b,h1,h2,h3,h4,h5,hpr,h6⟩:=Z3m hr hw hw10 hb
  rcases Zwq v with ⟨i,i1,i2⟩|hno
  · have k3:=Zsx i1
    rw [i2] at k3
    refine ⟨i,r,b,?_,?_,h2,h3,by omega,?_,fun j r0 g1 g2=>?_⟩
    · exact Zdg ((U9 i).1 i1).1
    · exact Zdg ((U9 i).1 i1).2.1
    · intro x;rw [S_of Ziw rfl rfl]
      simp -dsimp (disch:=first|omega|(simp only [A4]<;>omega)|fail) only [L.M6,go_sem,reduceIte,reduceCtorEq,C9,D0,D1,D2,D3,D4,D5,D6,D7,D8,D9,E2,E3,E4,E5,E6,E7,E8,E9,A2,BYs,h5,k3,Idt.cells]
    · obtain ⟨e1,e2,e3⟩:=h6 _ _ (Zwr g1) g2
      refine ⟨?_,e2,e3⟩
      rw [e1] at i2
      have a1:=(Z3f i1).1
      have a2:=(Z3f g1).1
      rw [i2] at a1
      exact a1.symm.trans a2
  · have k3:=Zwp (s:=v) (by omega) hno
    unfold Znc Zgk at k3
    refine ⟨⟨[],[],0,0⟩,r,b+1,by simp,by simp,h2,by omega,by omega,?_,fun j r0 g1 g2=>?_⟩
    · intro x;rw [S_of Ziw rfl rfl]
      simp -dsimp (disch:=first|omega|(simp only [A4]<;>omega)|fail) only [L.M6,go_sem,reduceIte,reduceCtorEq,C9,D0,D1,D2,D3,D4,D5,D6,D7,D8,D9,E2,E3,E4,E5,E6,E7,E8,E9,A2,BYs,h5,k3,Idt.cells,Yop,Yoj]
    · obtain ⟨e1,e2,e3⟩:=h6 _ _ (Zwr g1) g2
      exact absurd e1.symm (hno j g1)
theorem end_ex {rest:List UInt8} {bad:Nat} (hr:rest.length≤1000000000) (hb:bad≤100000):∃ m b,m.length≤rest.length∧bad≤b∧b≤bad+1 ∧
    (∀ x:Site,S E F.N6 [.ref (.up x) 0 0] [(.up x,⟨0,true,true,true,[.str rest,.int .i64 bad]⟩)]=some (.str m,[(.up x,⟨0,true,true,true,[.str rest,.int .i64 (b:Int)]⟩)])) ∧
    ∀ m0,rest=10::m0→m=m0∧b=bad:=by
  have h2:=Zkl (s:=rest) (t:=[10]) (by omega) (by simp)
  cases hp:Zdb rest [10] with
  | true =>
    rw [hp,if_pos rfl] at h2
    refine ⟨rest.drop 1,bad,by rw [Ymg];omega,Yl8 _,by omega,?_,fun m0 g=>⟨by rw [g];rfl,rfl⟩⟩
    intro x;rw [S_of Zix rfl rfl]
    simp -dsimp (disch:=first|omega|(simp only [A4]<;>omega)|fail) only [L.N6,go_sem,reduceIte,reduceCtorEq,C9,D0,D1,D2,D3,D4,D5,D6,D7,D8,D9,E2,E3,E4,E5,E6,E7,E8,E9,A2,h2,Ymo,Ynl]
  | false =>
    rw [hp,if_neg (by simp)] at h2
    refine ⟨rest,bad+1,Yl8 _,by omega,Yl8 _,?_,fun m0 g=>?_⟩
    · intro x;rw [S_of Zix rfl rfl]
      simp -dsimp (disch:=first|omega|(simp only [A4]<;>omega)|fail) only [L.N6,go_sem,reduceIte,reduceCtorEq,C9,D0,D1,D2,D3,D4,D5,D6,D7,D8,D9,E2,E3,E4,E5,E6,E7,E8,E9,A2,h2,Yop,Yoj]
    · rw [g] at hp
      have:=Znh [10] m0
      rw [List.singleton_append] at this
      rw [this] at hp
      cases hp
end Cod
namespace Cod
open Go
def idE (i:Idt):Int:=if G7 i=true then 0 else 3
def putA (b:List UInt8) (e:Int):AV × A1:=(.tup [.buf (.r 0) 0 0 b.length 1,.int .i64 e],[(.r 0,⟨0,true,true,false,A0 b⟩)])
end Cod
namespace Cod
open Go
structure EnvP (EE:Env):Prop where
  ext:Ext E EE
  hex:∀ {id:List UInt8},id.length=32→S EE F.Zin [.agg (A0 id)] []=some (.str (Z5 id),[])
theorem EnvP.S_of {EE:Env} (h:EnvP EE) {f:Nat} {l:LFn} (hf:I3 f=some l) (hk:Zlr f=none) {args:List AV} {σ:A1} (hn:args.length=l.np):S EE f args σ=X EE l.results [.c l.code] ⟨params 0 args,σ⟩:=by
  have hfn:EE.fn f=some l:=by rw [h.ext.fn];exact hf
  have hkn:EE.known f=none:=(h.ext.none f hk).resolve_right (by rw [show E.fn f=some l from hf];simp)
  exact S_fn hkn hfn hn
end Cod
namespace Cod
open Go
theorem go_who {i:Idt}:S E F.V5 [.agg i.cells] []=some (Z08 i,[]):=by
  have h1:=Zgi (i:=i)
  rw [S_of Zq0 rfl rfl]
  unfold Z08 at h1 ⊢
  cases h:G7 i<;>rw [h] at h1<;>simp -dsimp (disch:=first|omega|(simp only [A4]<;>omega)|fail) only [L.V5,go_sem,reduceIte,reduceCtorEq,C9,D0,D1,D2,D3,D4,D5,D6,D7,D8,D9,E2,E3,E4,E5,E6,E7,E8,E9,A2,h1]
theorem Z8f {a b c d:Int}:S E F.C4 [.lst [.int .i64 a,.int .i64 b,.int .i64 c,.int .i64 d] 4] []=some (.int .i64 (Zdu [a,b,c,d]),[]):=Zjh (l:=[a,b,c,d]) (by simp)
section
variable {EE:Env} (hE:EnvP EE)
include hE
end
end Cod
namespace Cod
open Go
def Yf6:Lbl:=⟨List.replicate 32 0,0,[],⟨[],[],0,0⟩,[],by simp⟩
theorem lbl0z:H9 (zer (.int .u8 0) 32) [.int .i64 0,.str [],.str [],.str [],.int .i64 0,.int .i64 0,.str []]=Yf6.cells:=rfl
theorem lbl0b:H9 (A0 (List.replicate 32 0)) [.int .i64 0,.str [],.str [],.str [],.int .i64 0,.int .i64 0,.str []]=Yf6.cells:=rfl
theorem lbl0c:A0 (List.replicate 32 0)++[.int .i64 0,.str [],.str [],.str [],.int .i64 0,.int .i64 0,.str []]=Yf6.cells:=rfl
theorem Yf7 (a b:Lbl):over a.cells 0 b.cells=b.cells:=by
  unfold over;exact Zg1 (by rw [Zlv,Zlv])
theorem Yf8 (t:List UInt8) (k:Int) (n:List UInt8) (w:Idt) (m:List UInt8) (h:t.length=32) (x:Int):over (Lbl.mk t k n w m h).cells 32 [.int .i64 x]=(Lbl.mk t x n w m h).cells:=by
  unfold Lbl.cells;rw [Z6 (j:=0) (by rw [C2,h])];rfl
theorem Yf9 (t:List UInt8) (k:Int) (n:List UInt8) (w:Idt) (m:List UInt8) (h:t.length=32) (x:List UInt8):over (Lbl.mk t k n w m h).cells 33 [.str x]=(Lbl.mk t k x w m h).cells:=by
  unfold Lbl.cells;rw [Z6 (j:=1) (by rw [C2,h])];rfl
theorem Yga (t:List UInt8) (k:Int) (n:List UInt8) (w:Idt) (m:List UInt8) (h:t.length=32) (x:Idt):over (Lbl.mk t k n w m h).cells 34 x.cells=(Lbl.mk t k n x m h).cells:=by
  unfold Lbl.cells;rw [Z6 (j:=2) (by rw [C2,h])];rfl
theorem Ygb (t:List UInt8) (k:Int) (n:List UInt8) (w:Idt) (m:List UInt8) (h:t.length=32) (x:List UInt8):over (Lbl.mk t k n w m h).cells 38 [.str x]=(Lbl.mk t k n w x h).cells:=by
  unfold Lbl.cells;rw [Z6 (j:=6) (by rw [C2,h])];rfl
attribute [go_sem] lbl0z lbl0b lbl0c Yf7 Yf8 Yf9 Yga Ygb
section
variable {EE:Env} (hE:EnvP EE)
include hE
end
end Cod
namespace Cod
open Go
theorem Ygc {a b:List UInt8} {n m:Nat} (hn:n=a.length) (hm:m=b.length):S E F.I5 [.lst (A0 a) n,.lst (A0 b) m] []=some (.bool (a==b),[]):=by
  rw [S_of Zit rfl rfl]
  simp -dsimp (disch:=first|omega|(simp only [A4]<;>omega)|fail) only [L.I5,go_sem,reduceIte,reduceCtorEq,C9,D0,D1,D2,D3,D4,D5,D6,D7,D8,D9,E2,E3,E4,E5,E6,E7,E8,E9,A2,BYs]
section
variable {EE:Env} (hE:EnvP EE)
include hE
end
end Cod
namespace Cod
open Go
end Cod
namespace Cod
open Go
def PV (v:AV) (ps:List Id32):Prop:=v=.lst (ids ps) ps.length∨(ps=[]∧v=.nils)
end Cod
namespace Cod
open Go
def Zs3 (s:Snap):AV × A1:=if Zeu s=0 then putA (Zci s) 0 else (.tup [.nils,.int .i64 (Zeu s)],[])
def Zni (s:Snap):Prop:=s.par.length≤1048576∧s.msg.length≤1000000000
structure EnvC (EE:Env):Prop extends EnvP EE where
  put:∀ {s:Snap} {v:AV},PV v s.par→Zni s→S EE F.S4 [.agg (snR s.tree v s.aut s.com s.msg)] []=some (Zs3 s)
def isC (g:Snap) (p:List UInt8):Bool:=decide (Zeu g=0)&&(Zci g==p)
theorem Yli {g:Snap} {p:List UInt8}:isC g p=true↔Z3i p g:=by
  unfold isC Z3i
  rw [Ymn,decide_eq_true_eq,beq_iff_eq]
def noC (e:Int):AV × A1:=(.tup [.agg (snR Zfj .nils J9 J9 []),.int .i64 e],[])
def yesC (g:Snap):AV × A1:=if g.par=[] then (.tup [.agg (snR g.tree .nils g.aut g.com g.msg),.int .i64 0],[]) else (.tup [.agg (snR g.tree (.buf (.r 0) 0 0 g.par.length 32) g.aut g.com g.msg),.int .i64 0],[(.r 0,⟨0,true,true,false,ids g.par⟩)])
def cmV (g:Snap) (ok:Bool):AV × A1:=if ok=true then yesC g else noC 4
def mkS (d:List UInt8) (ps:List Id32) (a c:Idt) (m:List UInt8) (hd:d.length=32):Snap:=⟨d,ps,a,c,m,hd⟩
section
variable {EE:Env} (hE:EnvC EE)
include hE
theorem Ygd {p d r:List UInt8} {ps:List Id32} {b:Nat} {v:AV} {σ:A1} (hd:d.length=32) (hp:p.length≤1048576) (hr:r.length≤1048576) (hb:b≤3) (hps:ps.length≤1048576) (hv:(ps=[]∧v=.nils ∧ σ=[])∨(ps≠[]∧v=.buf (.s 1000000 3) 0 0 ps.length 32 ∧ σ=[(.s 1000000 3,⟨0,true,true,false,ids ps⟩)])) :
    ∃ (g:Snap) (bad:Nat),X EE [.cell 2 (some 42),.tmp 3] [.c L.B3.r0] ⟨[(0,.lst (A0 p) p.length),(2,.ref (.s 1000000 0) 0 0),(4,.ref (.s 1000000 1) 0 0),(5,.ref (.s 1000000 2) 0 0),(30,.bool false)],[(.s 1000000 0,⟨0,true,true,true,snR Zfj .nils J9 J9 []⟩),(.s 1000000 1,⟨0,true,true,true,[.str r,.int .i64 (b:Int)]⟩),(.s 1000000 2,⟨0,true,true,true,snR d v J9 J9 []⟩)] ++ σ⟩=some (cmV g (decide (bad=0)&&isC g p))∧b≤bad ∧
    ∀ a c m,G7 a=true→G7 c=true→r=Zne++32::(H7 a++10::(Zs0++32::(H7 c++10::(10::m))))→g=mkS d ps a c m hd∧bad=b:=by
  obtain ⟨i1,r1,b1,n1,e1,q1,u1,v1,s1,y1⟩:=Yf5 (rest:=r) (w:=Zne) (bad:=b) (by omega) (by decide) (by decide) (by omega)
  obtain ⟨i2,r2,b2,n2,e2,q2,u2,v2,s2,y2⟩:=Yf5 (rest:=r1) (w:=Zs0) (bad:=b1) (by omega) (by decide) (by decide) (by omega)
  obtain ⟨m3,b3,q3,u3,v3,s3,y3⟩:=end_ex (rest:=r2) (bad:=b2) (by omega) (by omega)
  have hz0:=Zb0
  have s1:=fun x=>U5 hE.ext (s1 x)
  have s2:=fun x=>U5 hE.ext (s2 x)
  have s3:=fun x=>U5 hE.ext (s3 x)
  have yes:∀ a c m,G7 a=true→G7 c=true→r=Zne++32::(H7 a++10::(Zs0++32::(H7 c++10::(10::m))))→i1=a∧i2=c∧m3=m∧b3=b:=by
    intro a c m ha hc e
    obtain ⟨g1,g2,g3⟩:=y1 _ _ ha e
    subst g2
    obtain ⟨f1,f2,f3⟩:=y2 _ _ hc rfl
    subst f2
    obtain ⟨k1,k2⟩:=y3 _ rfl
    exact ⟨g1,f1,k1,by omega⟩
  have hput:∀ v,PV v ps→S EE F.S4 [.agg (snR d v i1 i2 m3)] []=some (Zs3 (mkS d ps i1 i2 m3 hd)):=fun v h=>hE.put (s:=mkS d ps i1 i2 m3 hd) h ⟨hps,by show m3.length≤_;omega⟩
  have t1:Zeu (mkS d ps i1 i2 m3 hd)=0→Zs3 (mkS d ps i1 i2 m3 hd)=putA (Zci (mkS d ps i1 i2 m3 hd)) 0∧(Zci (mkS d ps i1 i2 m3 hd)).length≤80000:=fun h=>⟨if_pos h,Yf1 h⟩
  have t2:Zeu (mkS d ps i1 i2 m3 hd)≠0→Zs3 (mkS d ps i1 i2 m3 hd)=(.tup [.nils,.int .i64 (Zeu (mkS d ps i1 i2 m3 hd))],[]):=fun h=>if_neg h
  refine ⟨mkS d ps i1 i2 m3 hd,b3,?_,by omega,fun a c m ha hc e=>?_⟩
  · have hy:yesC (mkS d ps i1 i2 m3 hd)=if ps=[] then (.tup [.agg (snR d .nils i1 i2 m3),.int .i64 0],[]) else (.tup [.agg (snR d (.buf (.r 0) 0 0 ps.length 32) i1 i2 m3),.int .i64 0],[(.r 0,⟨0,true,true,false,ids ps⟩)]):=rfl
    unfold putA at t1
    unfold isC cmV noC
    rw [hy]
    clear hy
    generalize Zci (mkS d ps i1 i2 m3 hd)=tb at *
    generalize Zeu (mkS d ps i1 i2 m3 hd)=te at *
    generalize Zs3 (mkS d ps i1 i2 m3 hd)=tv at *
    have c1:(0:Int)<(b3:Int)∨b3=0:=by omega
    unfold Zne at s1
    unfold Zs0 at s2
    have hbt:=U5 hE.ext (Ygc (a:=tb) (b:=p) (n:=tb.length) (m:=p.length) rfl rfl)
    clear yes y1 y2 y3
    rcases hv with ⟨rfl,rfl,rfl⟩|⟨hne,rfl,rfl⟩
    · rw [if_pos rfl]
      have hput:=hput _ (.inr ⟨rfl,rfl⟩)
      simp only [Yo4]
      by_cases hte:te=0
      · obtain ⟨tg1,t1l⟩:=t1 hte
        subst hte
        rw [tg1] at hput
        rcases c1 with c1|rfl
        · have hd5:decide (b3=0)=false:=by simp;omega
          rw [hd5,Yom,if_neg (by simp)]
          simp -dsimp (disch:=first|omega|(simp only [A4]<;>omega)|fail) only [L.B3.r0,go_sem,reduceIte,reduceCtorEq,C9,D0,D1,D2,D3,D4,D5,D6,D7,D8,D9,E2,E3,E4,E5,E6,E7,E8,E9,A2,BYs,s1,s2,s3,hput,c1,Yoj]
        · simp only [decide_true,Yok]
          cases hq:(tb==p) with
          | false =>
            rw [hq] at hbt
            rw [if_neg (by simp)]
            simp -dsimp (disch:=first|omega|(simp only [A4]<;>omega)|fail) only [L.B3.r0,go_sem,reduceIte,reduceCtorEq,C9,D0,D1,D2,D3,D4,D5,D6,D7,D8,D9,E2,E3,E4,E5,E6,E7,E8,E9,A2,BYs,s1,s2,s3,hput,hbt,Yoj]
          | true =>
            rw [hq] at hbt
            rw [if_pos rfl]
            simp -dsimp (disch:=first|omega|(simp only [A4]<;>omega)|fail) only [L.B3.r0,go_sem,reduceIte,reduceCtorEq,C9,D0,D1,D2,D3,D4,D5,D6,D7,D8,D9,E2,E3,E4,E5,E6,E7,E8,E9,A2,BYs,s1,s2,s3,hput,hbt,Yoj]
      · rw [t2 hte] at hput
        have hd5:decide (te=0)=false:=decide_eq_false hte
        rw [hd5,Yom,Yox,if_neg (by simp)]
        rcases c1 with c1|rfl
        · simp -dsimp (disch:=first|omega|(simp only [A4]<;>omega)|fail) only [L.B3.r0,go_sem,reduceIte,reduceCtorEq,C9,D0,D1,D2,D3,D4,D5,D6,D7,D8,D9,E2,E3,E4,E5,E6,E7,E8,E9,A2,BYs,s1,s2,s3,hput,c1,Yoj]
        · simp -dsimp (disch:=first|omega|(simp only [A4]<;>omega)|fail) only [L.B3.r0,go_sem,reduceIte,reduceCtorEq,C9,D0,D1,D2,D3,D4,D5,D6,D7,D8,D9,E2,E3,E4,E5,E6,E7,E8,E9,A2,BYs,s1,s2,s3,hput,hte,Yoj]
    · rw [if_neg hne]
      have hput:=hput _ (.inl rfl)
      simp only [Ymb,Yn0]
      by_cases hte:te=0
      · obtain ⟨tg1,t1l⟩:=t1 hte
        subst hte
        rw [tg1] at hput
        rcases c1 with c1|rfl
        · have hd5:decide (b3=0)=false:=by simp;omega
          rw [hd5,Yom,if_neg (by simp)]
          simp -dsimp (disch:=first|omega|(simp only [A4]<;>omega)|fail) only [L.B3.r0,go_sem,reduceIte,reduceCtorEq,C9,D0,D1,D2,D3,D4,D5,D6,D7,D8,D9,E2,E3,E4,E5,E6,E7,E8,E9,A2,BYs,s1,s2,s3,hput,c1,Yoj]
        · simp only [decide_true,Yok]
          cases hq:(tb==p) with
          | false =>
            rw [hq] at hbt
            rw [if_neg (by simp)]
            simp -dsimp (disch:=first|omega|(simp only [A4]<;>omega)|fail) only [L.B3.r0,go_sem,reduceIte,reduceCtorEq,C9,D0,D1,D2,D3,D4,D5,D6,D7,D8,D9,E2,E3,E4,E5,E6,E7,E8,E9,A2,BYs,s1,s2,s3,hput,hbt,Yoj]
          | true =>
            rw [hq] at hbt
            rw [if_pos rfl]
            simp -dsimp (disch:=first|omega|(simp only [A4]<;>omega)|fail) only [L.B3.r0,go_sem,reduceIte,reduceCtorEq,C9,D0,D1,D2,D3,D4,D5,D6,D7,D8,D9,E2,E3,E4,E5,E6,E7,E8,E9,A2,BYs,s1,s2,s3,hput,hbt,Yoj]
      · rw [t2 hte] at hput
        have hd5:decide (te=0)=false:=decide_eq_false hte
        rw [hd5,Yom,Yox,if_neg (by simp)]
        rcases c1 with c1|rfl
        · simp -dsimp (disch:=first|omega|(simp only [A4]<;>omega)|fail) only [L.B3.r0,go_sem,reduceIte,reduceCtorEq,C9,D0,D1,D2,D3,D4,D5,D6,D7,D8,D9,E2,E3,E4,E5,E6,E7,E8,E9,A2,BYs,s1,s2,s3,hput,c1,Yoj]
        · simp -dsimp (disch:=first|omega|(simp only [A4]<;>omega)|fail) only [L.B3.r0,go_sem,reduceIte,reduceCtorEq,C9,D0,D1,D2,D3,D4,D5,D6,D7,D8,D9,E2,E3,E4,E5,E6,E7,E8,E9,A2,BYs,s1,s2,s3,hput,hte,Yoj]
  · obtain ⟨rfl,rfl,rfl,e4⟩:=yes a c m ha hc e
    exact ⟨rfl,e4⟩
end
end Cod
namespace Cod
open Go
theorem Zph {r:List UInt8}:Zdb (Zne++32::r) [112,97,114,101,110,116,32]=false:=by
  unfold Zdb Zne
  simp
theorem Z8g {r:List UInt8} {d:Id32} {l:List Id32}:Zdb (Zfn (d::l)++r) [112,97,114,101,110,116,32]=true:=by
  rw [Zhb,Ym0,Ymb]
  have:=Znh [112,97,114,101,110,116,32] ((Z5 d.b++10::Zfn l)++r)
  exact this
section
variable {EE:Env} (hE:EnvC EE)
include hE
theorem Z1n {p d r:List UInt8} {ps:List Id32} {b:Nat} {v:AV} {σ:A1} (hr:r.length≤1048576) (hv:(ps=[]∧v=.nils ∧ σ=[])∨(ps≠[]∧v=.buf (.s 1000000 3) 0 0 (ps).length 32 ∧ σ=[(.s 1000000 3,⟨0,true,true,false,ids (ps)⟩)])) (h:Zdb r [112,97,114,101,110,116,32]=false∨b≠0) (hd:d.length=32) :
    X EE [.cell 2 (some 42),.tmp 3] (.c L.B3.x0::.lp [0,2,4,5] L.B3.x0::.blk 0::[.c L.B3.r0]) ⟨[(0,.lst (A0 p) p.length),(2,.ref (.s 1000000 0) 0 0),(4,.ref (.s 1000000 1) 0 0),(5,.ref (.s 1000000 2) 0 0)],[(.s 1000000 0,⟨0,true,true,true,snR Zfj .nils J9 J9 []⟩),(.s 1000000 1,⟨0,true,true,true,[.str r,.int .i64 (b:Int)]⟩),(.s 1000000 2,⟨0,true,true,true,snR d (v) J9 J9 []⟩)] ++ σ⟩=X EE [.cell 2 (some 42),.tmp 3] [.c L.B3.r0] ⟨[(0,.lst (A0 p) p.length),(2,.ref (.s 1000000 0) 0 0),(4,.ref (.s 1000000 1) 0 0),(5,.ref (.s 1000000 2) 0 0),(30,.bool false)],[(.s 1000000 0,⟨0,true,true,true,snR Zfj .nils J9 J9 []⟩),(.s 1000000 1,⟨0,true,true,true,[.str r,.int .i64 (b:Int)]⟩),(.s 1000000 2,⟨0,true,true,true,snR d (v) J9 J9 []⟩)] ++ σ⟩:=by
  have h1:=U5 hE.ext (Zpg (s:=r) (t:=[112,97,114,101,110,116,32]) (by omega) (by decide))
  have h1:S EE F.N8 [.str r,.str [112,97,114,101,110,116,32]] []=some (.bool (Zdb r [112,97,114,101,110,116,32]),[]):=h1
  have hz0:=Zb0
  rw [N4 L.B3.x0.eq_1]
  cases hp:Zdb r [112,97,114,101,110,116,32] with
  | false =>
    rw [hp] at h1
    rcases hv with ⟨rfl,rfl,rfl⟩|⟨hne,rfl,rfl⟩
    · simp only [Yo4]
      simp -dsimp (disch:=first|omega|(simp only [A4]<;>omega)|fail) only [go_sem,reduceIte,reduceCtorEq,C9,D0,D1,D2,D3,D4,D5,D6,D7,D8,D9,E2,E3,E4,E5,E6,E7,E8,E9,A2,BYs,h1]
    · simp only [Ymb,Yn0]
      simp -dsimp (disch:=first|omega|(simp only [A4]<;>omega)|fail) only [go_sem,reduceIte,reduceCtorEq,C9,D0,D1,D2,D3,D4,D5,D6,D7,D8,D9,E2,E3,E4,E5,E6,E7,E8,E9,A2,BYs,h1]
  | true =>
    rw [hp] at h1 h
    have hb:b≠0:=h.resolve_left (by simp)
    have hb':((b:Int)==0)=false:=by rw [beq_eq_false_iff_ne];omega
    rcases hv with ⟨rfl,rfl,rfl⟩|⟨hne,rfl,rfl⟩
    · simp only [Yo4]
      simp -dsimp (disch:=first|omega|(simp only [A4]<;>omega)|fail) only [go_sem,reduceIte,reduceCtorEq,C9,D0,D1,D2,D3,D4,D5,D6,D7,D8,D9,E2,E3,E4,E5,E6,E7,E8,E9,A2,BYs,h1,hb']
    · simp only [Ymb,Yn0]
      simp -dsimp (disch:=first|omega|(simp only [A4]<;>omega)|fail) only [go_sem,reduceIte,reduceCtorEq,C9,D0,D1,D2,D3,D4,D5,D6,D7,D8,D9,E2,E3,E4,E5,E6,E7,E8,E9,A2,BYs,h1,hb']
theorem pc_in {p d r r' e:List UInt8} {ps:List Id32} {b':Nat} {v:AV} {σ:A1} (hr:r.length≤1048576) (hps:ps.length≤1048576) (hv:(ps=[]∧v=.nils ∧ σ=[])∨(ps≠[]∧v=.buf (.s 1000000 3) 0 0 (ps).length 32 ∧ σ=[(.s 1000000 3,⟨0,true,true,false,ids (ps)⟩)])) (h:Zdb r [112,97,114,101,110,116,32]=true) (hd:d.length=32) (he:e.length=32)
    (hid:∀ x:Site,S E F.K2 [.ref (.up x) 0 0,.str [112,97,114,101,110,116]] [(.up x,⟨0,true,true,true,[.str r,.int .i64 0]⟩)]=some (.agg (A0 e),[(.up x,⟨0,true,true,true,[.str r',.int .i64 (b':Int)]⟩)])) :
    X EE [.cell 2 (some 42),.tmp 3] (.c L.B3.x0::.lp [0,2,4,5] L.B3.x0::.blk 0::[.c L.B3.r0]) ⟨[(0,.lst (A0 p) p.length),(2,.ref (.s 1000000 0) 0 0),(4,.ref (.s 1000000 1) 0 0),(5,.ref (.s 1000000 2) 0 0)],[(.s 1000000 0,⟨0,true,true,true,snR Zfj .nils J9 J9 []⟩),(.s 1000000 1,⟨0,true,true,true,[.str r,.int .i64 0]⟩),(.s 1000000 2,⟨0,true,true,true,snR d (v) J9 J9 []⟩)] ++ σ⟩=X EE [.cell 2 (some 42),.tmp 3] (.c L.B3.x0::.lp [0,2,4,5] L.B3.x0::.blk 0::[.c L.B3.r0]) ⟨[(0,.lst (A0 p) p.length),(2,.ref (.s 1000000 0) 0 0),(4,.ref (.s 1000000 1) 0 0),(5,.ref (.s 1000000 2) 0 0)],[(.s 1000000 0,⟨0,true,true,true,snR Zfj .nils J9 J9 []⟩),(.s 1000000 1,⟨0,true,true,true,[.str r',.int .i64 (b':Int)]⟩),(.s 1000000 2,⟨0,true,true,true,snR d (.buf (.s 1000000 3) 0 0 (ps++[mkI e]).length 32) J9 J9 []⟩)]++[(.s 1000000 3,⟨0,true,true,false,ids (ps++[mkI e])⟩)]⟩:=by
  have h1:=U5 hE.ext (Zpg (s:=r) (t:=[112,97,114,101,110,116,32]) (by omega) (by decide))
  have h1:S EE F.N8 [.str r,.str [112,97,114,101,110,116,32]] []=some (.bool (Zdb r [112,97,114,101,110,116,32]),[]):=h1
  have hz0:=Zb0
  rw [h] at h1
  have h2:=fun x=>U5 hE.ext (hid x)
  have ho:over (A0 (List.replicate 32 0)) 0 (A0 e)=A0 e:=Zab (by rw [he];simp)
  have hsn:ids ps++A0 e=ids (ps++[mkI e]):=by
    have:=Yfr ps (mkI e)
    rw [mkI_b he] at this
    exact this
  have hln:(ps++[mkI e]).length=ps.length+1:=by simp
  conv=>lhs;rw [N4 L.B3.x0.eq_1]
  rcases hv with ⟨rfl,rfl,rfl⟩|⟨hne,rfl,rfl⟩
  · rw [Yla,Yn0,Yn0] at hsn
    simp only [Yo4,Ymb,Yn0,←hsn]
    simp -dsimp (disch:=first|omega|(simp only [A4]<;>omega)|fail) only [go_sem,reduceIte,reduceCtorEq,C9,D0,D1,D2,D3,D4,D5,D6,D7,D8,D9,E2,E3,E4,E5,E6,E7,E8,E9,A2,BYs,h1,h2,ho,he,Yo5]
  · simp only [Ymb,Yn0,hln]
    simp -dsimp (disch:=first|omega|(simp only [A4]<;>omega)|fail) only [go_sem,reduceIte,reduceCtorEq,C9,D0,D1,D2,D3,D4,D5,D6,D7,D8,D9,E2,E3,E4,E5,E6,E7,E8,E9,A2,BYs,h1,h2,ho,he,hsn,Yo5]
end
end Cod
namespace Cod
open Go
section
variable {EE:Env} (hE:EnvC EE)
include hE
theorem Ylj {p d:List UInt8} (hd:d.length=32) (hp:p.length≤1048576):∀ (m:Nat) (r:List UInt8) (ps:List Id32) (b:Nat) (v:AV) (σ:A1),r.length≤m→r.length≤1048576→ps.length+r.length≤1048576→b≤2→((ps=[]∧v=.nils ∧ σ=[])∨(ps≠[]∧v=.buf (.s 1000000 3) 0 0 (ps).length 32 ∧ σ=[(.s 1000000 3,⟨0,true,true,false,ids (ps)⟩)])) →
    ∃ (g:Snap) (bad:Nat),X EE [.cell 2 (some 42),.tmp 3] (.c L.B3.x0::.lp [0,2,4,5] L.B3.x0::.blk 0::[.c L.B3.r0]) ⟨[(0,.lst (A0 p) p.length),(2,.ref (.s 1000000 0) 0 0),(4,.ref (.s 1000000 1) 0 0),(5,.ref (.s 1000000 2) 0 0)],[(.s 1000000 0,⟨0,true,true,true,snR Zfj .nils J9 J9 []⟩),(.s 1000000 1,⟨0,true,true,true,[.str r,.int .i64 (b:Int)]⟩),(.s 1000000 2,⟨0,true,true,true,snR d (v) J9 J9 []⟩)] ++ σ⟩=some (cmV g (decide (bad=0)&&isC g p))∧∀ qs a c m,G7 a=true→G7 c=true→b=0→r=Zfn qs++(Zne++32::(H7 a++10::(Zs0++32::(H7 c++10::(10::m)))))→g=mkS d (ps++qs) a c m hd∧bad=0:=by
  intro m
  induction m with
  | zero =>
    intro r ps b v σ hm hr hpr hb hv
    obtain rfl:r=[]:=List.eq_nil_of_length_eq_zero (by omega)
    obtain ⟨g,bad,h1,h2,h3⟩:=Ygd hE (p:=p) (d:=d) (r:=[]) (ps:=ps) (b:=b) hd hp hr (by omega) (by omega) hv
    refine ⟨g,bad,?_,fun qs a c m ha hc hb0 e=>?_⟩
    · rw [Z1n hE hr hv (.inl rfl) hd];exact h1
    · have:=congrArg List.length e
      simp only [Ymz,Ymo,Ynl] at this
      omega
  | succ m ih =>
    intro r ps b v σ hm hr hpr hb hv
    by_cases hex:Zdb r [112,97,114,101,110,116,32]=false∨b≠0
    · obtain ⟨g,bad,h1,h2,h3⟩:=Ygd hE (p:=p) (d:=d) (r:=r) (ps:=ps) (b:=b) hd hp hr (by omega) (by omega) hv
      refine ⟨g,bad,?_,fun qs a c m ha hc hb0 e=>?_⟩
      · rw [Z1n hE hr hv hex hd];exact h1
      · have hpf:=hex.resolve_right (fun h=>h hb0)
        cases qs with
        | nil =>
          rw [Zjt,Yn0] at e
          obtain ⟨k1,k2⟩:=h3 a c m ha hc e
          rw [Yo4]
          exact ⟨k1,by omega⟩
        | cons q qs =>
          rw [e,Z8g] at hpf
          cases hpf
    · have hpt:Zdb r [112,97,114,101,110,116,32]=true:=by
        cases hq:Zdb r [112,97,114,101,110,116,32] with
        | false=>exact absurd (.inl hq) hex
        | true=>rfl
      obtain rfl:b=0:=by
        apply Classical.byContradiction
        intro hn
        exact hex (.inr hn)
      have hlen:7≤r.length:=by
        unfold Zdb at hpt
        simp only [Ymn,decide_eq_true_eq] at hpt
        exact hpt.1
      obtain ⟨e,r',b',he,q1,u1,v1,s1,pr,y1⟩:=Yf4 (rest:=r) (w:=parW) (bad:=0) (by omega) (by decide) (by decide) (by omega)
      have hin:=pc_in hE (p:=p) (d:=d) (r:=r) (r':=r') (e:=e) (ps:=ps) (b':=b') hr (by omega) hv hpt hd he s1
      have hv':((ps++[mkI e])=[]∧(AV.buf (.s 1000000 3) 0 0 (ps++[mkI e]).length 32)=.nils∧([(.s 1000000 3,⟨0,true,true,false,ids (ps++[mkI e])⟩)]:A1)=[])∨((ps++[mkI e])≠[]∧(AV.buf (.s 1000000 3) 0 0 (ps++[mkI e]).length 32)=.buf (.s 1000000 3) 0 0 ((ps++[mkI e])).length 32∧([(.s 1000000 3,⟨0,true,true,false,ids (ps++[mkI e])⟩)]:A1)=[(.s 1000000 3,⟨0,true,true,false,ids ((ps++[mkI e]))⟩)]):=.inr ⟨by simp,rfl,rfl⟩
      have hl1:(ps++[mkI e]).length=ps.length+1:=by simp
      by_cases hb':b'=0
      · obtain ⟨g,bad,h1,h2⟩:=ih r' (ps++[mkI e]) b' _ _ (by have:=pr hb';omega) (by omega) (by have:=pr hb';omega) (by omega) hv'
        refine ⟨g,bad,hin.trans h1,fun qs a c m ha hc hb0 e0=>?_⟩
        cases qs with
        | nil =>
          rw [e0,Zjt,Yn0,Zph] at hpt
          cases hpt
        | cons q qs =>
          rw [Zhb,Ym0,Ymb,Ym0,Ymb] at e0
          obtain ⟨k1,k2,k3⟩:=y1 _ _ q.h e0
          obtain ⟨j1,j2⟩:=h2 qs a c m ha hc k3 k2
          refine ⟨?_,j2⟩
          rw [j1,k1,Yft,Ym0]
          rfl
      · obtain ⟨g,bad,h1,h2,h3⟩:=Ygd hE (p:=p) (d:=d) (r:=r') (ps:=ps++[mkI e]) (b:=b') hd hp (by omega) (by omega) (by omega) hv'
        refine ⟨g,bad,?_,fun qs a c m ha hc hb0 e0=>?_⟩
        · exact hin.trans ((Z1n hE (by omega) hv' (.inr hb') hd).trans h1)
        · cases qs with
          | nil =>
            rw [e0,Zjt,Yn0,Zph] at hpt
            cases hpt
          | cons q qs =>
            rw [Zhb,Ym0,Ymb,Ym0,Ymb] at e0
            exact absurd (y1 _ _ q.h e0).2.2 hb'
theorem Zs4 {p:List UInt8} {n:Nat} (hn:n=p.length) (hp:p.length≤1048576):∃ (g:Snap) (bad:Nat),S EE F.B3 [.lst (A0 p) n] []=some (cmV g (decide (bad=0)&&isC g p))∧∀ s,Z3i p s→g=s∧bad=0:=by
  subst hn
  obtain ⟨d,r,b,hd,q1,u1,v1,s1,_,y1⟩:=Yf4 (rest:=p) (w:=Zwu) (bad:=0) (by omega) (by decide) (by decide) (by omega)
  obtain ⟨g,bad,h1,h2⟩:=Ylj hE (p:=p) (d:=d) hd hp r.length r [] b _ _ (Yl8 _) (by omega) (by simp only [Ynl];omega) (by omega) (.inl ⟨rfl,rfl,rfl⟩)
  refine ⟨g,bad,?_,fun s hs=>?_⟩
  · rw [←h1]
    have s1:=fun x=>U5 hE.ext (s1 x)
    unfold Zwu at s1
    have hz0:=Zb0
    rw [hE.S_of Zqs rfl rfl]
    simp only [Yo4,Yoj] at s1 ⊢
    simp -dsimp (disch:=first|omega|(simp only [A4]<;>omega)|fail) only [L.B3,go_sem,reduceIte,reduceCtorEq,C9,D0,D1,D2,D3,D4,D5,D6,D7,D8,D9,E2,E3,E4,E5,E6,E7,E8,E9,A2,BYs,s1]
  · obtain ⟨e1,e2⟩:=hs
    obtain ⟨w1,w2,w3,w4⟩:=Zlx e1
    rw [Zwx] at e2
    obtain ⟨k1,k2,k3⟩:=y1 _ _ s.ht e2.symm
    obtain ⟨j1,j2⟩:=h2 s.par s.aut s.com s.msg w3 w4 k3 k2
    refine ⟨?_,j2⟩
    rw [j1]
    subst k1
    rfl
end
end Cod
namespace Cod
open Go
end Cod

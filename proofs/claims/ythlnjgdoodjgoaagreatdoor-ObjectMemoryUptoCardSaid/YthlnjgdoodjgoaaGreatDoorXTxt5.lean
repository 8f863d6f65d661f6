/- Lines: the program's lines and the reference's line. -/
import Derived.Test.YthlnjgdoodjgoaaGreatDoorXTxt4
import Derived.Test.YthlnjgdoodjgoaaGreatDoorXTxt2
import Derived.Test.YthlnjgdoodjgoaaGreatDoorXTxt1
set_option linter.unusedSimpArgs false
set_option linter.unusedVariables false
open List renaming append_assoc → Yqy, append_nil → Ys4, cons_append → Yp9, drop_drop → Yq4, drop_eq_getElem_cons → Yr9, drop_left → Ys8, drop_zero → Yrp, idxOf_lt_length_of_mem → Ys7, length_append → Yqx, length_cons → Yqm, length_drop → Yqe, length_nil → Yrj, length_replicate → Ys6, length_singleton → Ysf, length_take → Yqd, nil_append → Yry, take_left → Ys9
open Nat renaming le_refl → Yp6, sub_zero → Yq7
open Int renaming cast_ofNat_Int → Ysh, natCast_add → Ysn
open Bool renaming and_eq_true → Yql, and_false → Ysv, false_and → Ysk, not_false → Ysb, not_true → Ysa, true_and → Ysi
open Nat renaming reduceEqDiff → B2, reduceAdd → B3, reduceSub → B4, reduceMul → B5, reduceDiv → B6, reduceMod → B7, reduceBEq → B8, reduceLeDiff → B9, reduceLT → C0
open Int renaming reduceEq → C1, reduceNe → C2, reduceLT → C3, reduceLE → C4, reduceBEq → C5, reduceBNe → C6, reduceToNat → C7, reduceAdd → C8, reduceSub → C9, reduceMul → D0, reduceNeg → A4
namespace Cod
open Go
theorem Yjg {w v:List UInt8}:(w++v).drop w.length=v:=Ys8
theorem Zqr {s t:List UInt8} (hs:s.length≤1000000000000) (ht:t.length≤1000000000000):S E F.Q1 [.str s,.str t] []=some (.bool (decide (t.length≤s.length)&&(s.take t.length==t)),[]):=by
  have h0:S E F.K8 [.str s,.str t] []=some (.bool (decide (t.length≤s.length)&&(s.take t.length==t)),[]):=by
    rw [S_of Zjr rfl rfl]
    by_cases h:t.length≤s.length
    · simp -dsimp (disch:=first|omega|(simp only [A5]<;>omega)|fail) only [L.K8,go_sem,reduceIte,reduceCtorEq,B2,B3,B4,B5,B6,B7,B8,B9,C0,C1,C2,C3,C4,C5,C6,C7,C8,C9,D0,A4,h,E2,D9,D6,decide_true,Ysi,Yq7]
    · simp -dsimp (disch:=first|omega|(simp only [A5]<;>omega)|fail) only [L.K8,go_sem,reduceIte,reduceCtorEq,B2,B3,B4,B5,B6,B7,B8,B9,C0,C1,C2,C3,C4,C5,C6,C7,C8,C9,D0,A4,h,E2,D9,D6,decide_false,Ysk]
  rw [S_of Zsw rfl rfl]
  simp -dsimp (disch:=first|omega|(simp only [A5]<;>omega)|fail) only [L.Q1,go_sem,reduceIte,reduceCtorEq,B2,B3,B4,B5,B6,B7,B8,B9,C0,C1,C2,C3,C4,C5,C6,C7,C8,C9,D0,A4,h0]
def Zdc (s t:List UInt8):Bool:=decide (t.length≤s.length)&&(s.take t.length==t)
theorem Zoj (w v:List UInt8):Zdc (w++v) w=true:=by
  unfold Zdc
  simp
theorem Zlj {s t:List UInt8} (hs:s.length≤1000000000000) (ht:t.length≤1000000000000):S E F.Q2 [.str s,.str t] []=some (if Zdc s t=true then .tup [.str (s.drop t.length),.bool true] else .tup [.str s,.bool false],[]):=by
  have h0:S E F.S6 [.str s,.str t] []=some (if Zdc s t=true then .tup [.str (s.drop t.length),.bool true] else .tup [.str s,.bool false],[]):=by
    have hp:S E F.K8 [.str s,.str t] []=some (.bool (Zdc s t),[]):=by
      rw [S_of Zjr rfl rfl]
      unfold Zdc
      by_cases h:t.length≤s.length
      · simp -dsimp (disch:=first|omega|(simp only [A5]<;>omega)|fail) only [L.K8,go_sem,reduceIte,reduceCtorEq,B2,B3,B4,B5,B6,B7,B8,B9,C0,C1,C2,C3,C4,C5,C6,C7,C8,C9,D0,A4,h,E2,D9,D6,decide_true,Ysi,Yq7]
      · simp -dsimp (disch:=first|omega|(simp only [A5]<;>omega)|fail) only [L.K8,go_sem,reduceIte,reduceCtorEq,B2,B3,B4,B5,B6,B7,B8,B9,C0,C1,C2,C3,C4,C5,C6,C7,C8,C9,D0,A4,h,E2,D9,D6,decide_false,Ysk]
    rw [S_of Ztz rfl rfl]
    cases hb:Zdc s t with
    | true =>
      have hl:t.length≤s.length:=by unfold Zdc at hb;simp only [Yql,decide_eq_true_eq] at hb;exact hb.1
      simp -dsimp (disch:=first|omega|(simp only [A5]<;>omega)|fail) only [L.S6,go_sem,reduceIte,reduceCtorEq,B2,B3,B4,B5,B6,B7,B8,B9,C0,C1,C2,C3,C4,C5,C6,C7,C8,C9,D0,A4,hp,hb,E2,D9,D6]
    | false=>simp -dsimp (disch:=first|omega|(simp only [A5]<;>omega)|fail) only [L.S6,go_sem,reduceIte,reduceCtorEq,B2,B3,B4,B5,B6,B7,B8,B9,C0,C1,C2,C3,C4,C5,C6,C7,C8,C9,D0,A4,hp,hb,E2,D9,D6]
  rw [S_of Zti rfl rfl]
  cases hb:Zdc s t with
  | true=>rw [hb] at h0;simp -dsimp (disch:=first|omega|(simp only [A5]<;>omega)|fail) only [L.Q2,go_sem,reduceIte,reduceCtorEq,B2,B3,B4,B5,B6,B7,B8,B9,C0,C1,C2,C3,C4,C5,C6,C7,C8,C9,D0,A4] at h0 ⊢;simp -dsimp (disch:=first|omega|(simp only [A5]<;>omega)|fail) only [go_sem,reduceIte,reduceCtorEq,B2,B3,B4,B5,B6,B7,B8,B9,C0,C1,C2,C3,C4,C5,C6,C7,C8,C9,D0,A4,h0]
  | false=>rw [hb] at h0;simp -dsimp (disch:=first|omega|(simp only [A5]<;>omega)|fail) only [L.Q2,go_sem,reduceIte,reduceCtorEq,B2,B3,B4,B5,B6,B7,B8,B9,C0,C1,C2,C3,C4,C5,C6,C7,C8,C9,D0,A4] at h0 ⊢;simp -dsimp (disch:=first|omega|(simp only [A5]<;>omega)|fail) only [go_sem,reduceIte,reduceCtorEq,B2,B3,B4,B5,B6,B7,B8,B9,C0,C1,C2,C3,C4,C5,C6,C7,C8,C9,D0,A4,h0]
/- Steps of a reader of lines. -/
theorem Z6u {rest w:List UInt8} {bad:Nat} (hr:rest.length≤1000000000) (hw:w.length≤100) (hw10:(10:UInt8)∉w) (hb:bad≤100000):∃ v r b,v.length≤rest.length∧r.length≤rest.length∧bad≤b∧b≤bad+1 ∧
    (∀ x:Site,S E F.M2 [.ref (.up x) 0 0,.str w] [(.up x,⟨0,true,true,true,[.str rest,.int .i64 bad]⟩)]=some (.str v,[(.up x,⟨0,true,true,true,[.str r,.int .i64 (b:Int)]⟩)])) ∧
    (b=bad→r.length<rest.length) ∧
    ∀ v0 r0,(10:UInt8)∉v0→rest=w++32::(v0++10::r0)→v=v0∧r=r0∧b=bad:=by
  have h1:=Z6t (s:=rest) (c:=10) (by omega)
  by_cases hc:(10:UInt8)∈rest
  · rw [if_pos hc] at h1
    have hlt:(rest.take (rest.idxOf 10)).length≤rest.length:=by rw [Yqd];omega
    have h2:=Zlj (s:=rest.take (rest.idxOf 10)) (t:=w++[32]) (by omega) (by rw [Yqx,Ysf];omega)
    have hi:=Ys7 hc
    have hsplit:rest=rest.take (rest.idxOf 10)++10::rest.drop (rest.idxOf 10+1):=by
      conv=>lhs;rw [←List.take_append_drop (rest.idxOf 10) rest,Yr9 hi]
      rw [List.getElem_idxOf hi]
    have hno:=Ys7 hc
    have yes:∀ v0 r0,(10:UInt8)∉v0→rest=w++32::(v0++10::r0)→rest.take (rest.idxOf 10)=w++[32]++v0∧rest.drop (rest.idxOf 10+1)=r0:=by
      intro v0 r0 g1 g2
      have gi:=Yoy (r:=r0) hw10 g1
      rw [←g2] at gi
      rw [gi]
      have e:rest=(w++[32]++v0)++10::r0:=by rw [g2];simp
      have el:(w++[32]++v0).length=w.length+1+v0.length:=by simp;omega
      rw [e,←el]
      refine ⟨Ys9,?_⟩
      rw [←Yq4,Ys8]
      rfl
    generalize rest.take (rest.idxOf 10)=line at *
    generalize rest.drop (rest.idxOf 10+1)=tail at *
    have htl':tail.length<rest.length:=by rw [hsplit,Yqx,Yqm];omega
    have htl:tail.length≤rest.length:=by omega
    cases hp:Zdc line (w++[32]) with
    | true =>
      rw [hp,if_pos rfl] at h2
      have hd:(line.drop (w++[32]).length).length≤rest.length:=by rw [Yqe];omega
      refine ⟨line.drop (w++[32]).length,tail,bad,hd,htl,Yp6 _,by omega,?_,fun _=>htl',fun v0 r0 g1 g2=>?_⟩
      · intro x;rw [S_of Zfx rfl rfl]
        simp -dsimp (disch:=first|omega|(simp only [A5]<;>omega)|fail) only [L.M2,go_sem,reduceIte,reduceCtorEq,B2,B3,B4,B5,B6,B7,B8,B9,C0,C1,C2,C3,C4,C5,C6,C7,C8,C9,D0,A4,h1,h2,Ysn,Ysh]
      · obtain ⟨e1,e2⟩:=yes v0 r0 g1 g2
        refine ⟨?_,e2,rfl⟩
        rw [e1];exact Yjg
    | false =>
      rw [hp,if_neg (by simp)] at h2
      refine ⟨[],rest,bad+1,by simp,Yp6 _,by omega,Yp6 _,?_,fun h=>by omega,fun v0 r0 g1 g2=>?_⟩
      · intro x;rw [S_of Zfx rfl rfl]
        simp -dsimp (disch:=first|omega|(simp only [A5]<;>omega)|fail) only [L.M2,go_sem,reduceIte,reduceCtorEq,B2,B3,B4,B5,B6,B7,B8,B9,C0,C1,C2,C3,C4,C5,C6,C7,C8,C9,D0,A4,h1,h2,Ysn,Ysh]
      · obtain ⟨e1,e2⟩:=yes v0 r0 g1 g2
        rw [e1,Zoj] at hp
        cases hp
  · rw [if_neg hc] at h1
    have h2:=Zlj (s:=rest) (t:=w++[32]) (by omega) (by rw [Yqx,Ysf];omega)
    refine ⟨[],rest,bad+1,by simp,Yp6 _,by omega,Yp6 _,?_,fun h=>by omega,fun v0 r0 g1 g2=>?_⟩
    · intro x;rw [S_of Zfx rfl rfl]
      cases hp:Zdc rest (w++[32]) with
      | true=>rw [hp,if_pos rfl] at h2;simp -dsimp (disch:=first|omega|(simp only [A5]<;>omega)|fail) only [L.M2,go_sem,reduceIte,reduceCtorEq,B2,B3,B4,B5,B6,B7,B8,B9,C0,C1,C2,C3,C4,C5,C6,C7,C8,C9,D0,A4,h1,h2,Ysn,Ysh]
      | false=>rw [hp,if_neg (by simp)] at h2;simp -dsimp (disch:=first|omega|(simp only [A5]<;>omega)|fail) only [L.M2,go_sem,reduceIte,reduceCtorEq,B2,B3,B4,B5,B6,B7,B8,B9,C0,C1,C2,C3,C4,C5,C6,C7,C8,C9,D0,A4,h1,h2,Ysn,Ysh]
    · exact absurd (by rw [g2];simp) hc
end Cod
namespace Cod
open Go
theorem Yjh {rest w:List UInt8} {bad:Nat} (hr:rest.length≤1000000000) (hw:w.length≤100) (hw10:(10:UInt8)∉w) (hb:bad≤100000):∃ d r b,d.length=32∧r.length≤rest.length∧bad≤b∧b≤bad+2 ∧
    (∀ x:Site,S E F.O6 [.ref (.up x) 0 0,.str w] [(.up x,⟨0,true,true,true,[.str rest,.int .i64 bad]⟩)]=some (.agg (A1 d),[(.up x,⟨0,true,true,true,[.str r,.int .i64 (b:Int)]⟩)])) ∧
    (b=bad→r.length<rest.length) ∧
    ∀ id r0,id.length=32→rest=w++32::(O9 id++10::r0)→d=id∧r=r0∧b=bad:=by
  obtain ⟨v,r,b,h1,h2,h3,h4,h5,hpr,h6⟩:=Z6u hr hw hw10 hb
  obtain ⟨d,e,k1,k2,k3,k4⟩:=Ybn (s:=v) (by omega)
  have ho:over (A1 (List.replicate 32 0)) 0 (A1 d)=A1 d:=X2 (by rw [k1];simp)
  rcases k2 with rfl|rfl
  · refine ⟨d,r,b,k1,h2,h3,by omega,?_,hpr,fun id r0 g1 g2=>?_⟩
    · intro x;rw [S_of Zjj rfl rfl]
      simp -dsimp (disch:=first|omega|(simp only [A5]<;>omega)|fail) only [L.O6,go_sem,reduceIte,reduceCtorEq,B2,B3,B4,B5,B6,B7,B8,B9,C0,C1,C2,C3,C4,C5,C6,C7,C8,C9,D0,A4,BYs,h5,k3,ho,Ys6]
    · obtain ⟨e1,e2,e3⟩:=h6 _ _ (Zfl id) g2
      exact ⟨(k4 id g1 e1).1,e2,e3⟩
  · refine ⟨d,r,b+1,k1,h2,by omega,by omega,?_,fun h=>by omega,fun id r0 g1 g2=>?_⟩
    · intro x;rw [S_of Zjj rfl rfl]
      simp -dsimp (disch:=first|omega|(simp only [A5]<;>omega)|fail) only [L.O6,go_sem,reduceIte,reduceCtorEq,B2,B3,B4,B5,B6,B7,B8,B9,C0,C1,C2,C3,C4,C5,C6,C7,C8,C9,D0,A4,BYs,h5,k3,ho,Ys6,Ysn,Ysh]
    · obtain ⟨e1,e2,e3⟩:=h6 _ _ (Zfl id) g2
      have:=(k4 id g1 e1).2
      omega
theorem Yji {rest w:List UInt8} {bad:Nat} (hr:rest.length≤1000000000) (hw:w.length≤100) (hw10:(10:UInt8)∉w) (hb:bad≤100000):∃ (i:Idt) (r:List UInt8) (b:Nat),i.name.length≤100∧i.email.length≤100∧r.length≤rest.length∧bad≤b∧b≤bad+2 ∧
    (∀ x:Site,S E F.Q0 [.ref (.up x) 0 0,.str w] [(.up x,⟨0,true,true,true,[.str rest,.int .i64 bad]⟩)]=some (.agg i.cells,[(.up x,⟨0,true,true,true,[.str r,.int .i64 (b:Int)]⟩)])) ∧
    ∀ j r0,E6 j=true→rest=w++32::(H7 j++10::r0)→i=j∧r=r0∧b=bad:=by
  obtain ⟨v,r,b,h1,h2,h3,h4,h5,hpr,h6⟩:=Z6u hr hw hw10 hb
  rcases Zma v with ⟨i,i1,i2⟩|hno
  · have k3:=Zu5 i1
    rw [i2] at k3
    refine ⟨i,r,b,?_,?_,h2,h3,by omega,?_,fun j r0 g1 g2=>?_⟩
    · exact Zag ((R0 i).1 i1).1
    · exact Zag ((R0 i).1 i1).2.1
    · intro x;rw [S_of Zjk rfl rfl]
      simp -dsimp (disch:=first|omega|(simp only [A5]<;>omega)|fail) only [L.Q0,go_sem,reduceIte,reduceCtorEq,B2,B3,B4,B5,B6,B7,B8,B9,C0,C1,C2,C3,C4,C5,C6,C7,C8,C9,D0,A4,BYs,h5,k3,Idt.cells]
    · obtain ⟨e1,e2,e3⟩:=h6 _ _ (Zki g1) g2
      refine ⟨?_,e2,e3⟩
      rw [e1] at i2
      have a1:=(Zke i1).1
      have a2:=(Zke g1).1
      rw [i2] at a1
      exact a1.symm.trans a2
  · have k3:=Zzd (s:=v) (by omega) hno
    unfold Zek Zbe at k3
    refine ⟨⟨[],[],0,0⟩,r,b+1,by simp,by simp,h2,by omega,by omega,?_,fun j r0 g1 g2=>?_⟩
    · intro x;rw [S_of Zjk rfl rfl]
      simp -dsimp (disch:=first|omega|(simp only [A5]<;>omega)|fail) only [L.Q0,go_sem,reduceIte,reduceCtorEq,B2,B3,B4,B5,B6,B7,B8,B9,C0,C1,C2,C3,C4,C5,C6,C7,C8,C9,D0,A4,BYs,h5,k3,Idt.cells,Ysn,Ysh]
    · obtain ⟨e1,e2,e3⟩:=h6 _ _ (Zki g1) g2
      exact absurd e1.symm (hno j g1)
theorem end_ex {rest:List UInt8} {bad:Nat} (hr:rest.length≤1000000000) (hb:bad≤100000):∃ m b,m.length≤rest.length∧bad≤b∧b≤bad+1 ∧
    (∀ x:Site,S E F.S2 [.ref (.up x) 0 0] [(.up x,⟨0,true,true,true,[.str rest,.int .i64 bad]⟩)]=some (.str m,[(.up x,⟨0,true,true,true,[.str rest,.int .i64 (b:Int)]⟩)])) ∧
    ∀ m0,rest=10::m0→m=m0∧b=bad:=by
  have h2:=Zlj (s:=rest) (t:=[10]) (by omega) (by simp)
  cases hp:Zdc rest [10] with
  | true =>
    rw [hp,if_pos rfl] at h2
    refine ⟨rest.drop 1,bad,by rw [Yqe];omega,Yp6 _,by omega,?_,fun m0 g=>⟨by rw [g];rfl,rfl⟩⟩
    intro x;rw [S_of Zjl rfl rfl]
    simp -dsimp (disch:=first|omega|(simp only [A5]<;>omega)|fail) only [L.S2,go_sem,reduceIte,reduceCtorEq,B2,B3,B4,B5,B6,B7,B8,B9,C0,C1,C2,C3,C4,C5,C6,C7,C8,C9,D0,A4,h2,Yqm,Yrj]
  | false =>
    rw [hp,if_neg (by simp)] at h2
    refine ⟨rest,bad+1,Yp6 _,by omega,Yp6 _,?_,fun m0 g=>?_⟩
    · intro x;rw [S_of Zjl rfl rfl]
      simp -dsimp (disch:=first|omega|(simp only [A5]<;>omega)|fail) only [L.S2,go_sem,reduceIte,reduceCtorEq,B2,B3,B4,B5,B6,B7,B8,B9,C0,C1,C2,C3,C4,C5,C6,C7,C8,C9,D0,A4,h2,Ysn,Ysh]
    · rw [g] at hp
      have:=Zoj [10] m0
      rw [List.singleton_append] at this
      rw [this] at hp
      cases hp
theorem Yjj {t w:List UInt8} (ht:t.length≤1000000000) (hw:w.length≤100):∀ (m i:Nat),i+m=t.length→w.length+1≤i→∃ v r ok,v.length≤t.length∧r.length≤t.length ∧
    X E [.tmp 4,.tmp 5,.tmp 6] (.c L.H5.x0::.lp [0,7,8] L.H5.x0::.blk 0::[.c L.H5.r0]) ⟨[(0,.str t),(7,.int .i64 ((w.length:Int)+1)),(8,.int .i64 i)],[]⟩=some (.tup [.str v,.str r,.bool ok],[])∧(ok=true→r.length<t.length) ∧
    ∀ v0 r0,t=w++32::(v0++10::r0)→(10:UInt8)∉v0→i≤w.length+1+v0.length→v=v0∧r=r0∧ok=true:=by
  intro m
  induction m with
  | zero =>
    intro i hi h0
    refine ⟨[],[],false,by simp,by simp,?_,fun h=>(by cases h),fun v0 r0 g1 g2 g3=>?_⟩
    · rw [G9 L.H5.x0.eq_1]
      obtain rfl:i=t.length:=by omega
      simp -dsimp (disch:=first|omega|(simp only [A5]<;>omega)|fail) only [go_sem,reduceIte,reduceCtorEq,B2,B3,B4,B5,B6,B7,B8,B9,C0,C1,C2,C3,C4,C5,C6,C7,C8,C9,D0,A4,L.H5.r0]
    · have:=congrArg List.length g1
      simp only [Yqx,Yqm] at this
      omega
  | succ m ih =>
    intro i hi h0
    have hlt:i<t.length:=by omega
    have e1:((w.length:Int)+1).toNat=w.length+1:=by omega
    have e2:((i:Int)+1).toNat=i+1:=by omega
    by_cases hc:t.getD i 0=10
    · refine ⟨sub t (w.length+1) (i-(w.length+1)),t.drop (i+1),true,by unfold sub;rw [Yqd,Yqe];omega,by rw [Yqe];omega,?_,fun _=>by rw [Yqe];omega,fun v0 r0 g1 g2 g3=>?_⟩
      · rw [G9 L.H5.x0.eq_1]
        have hb:(bat t i==(10:Int))=true:=by rw [Z6m,hc];rfl
        simp -dsimp (disch:=first|omega|(simp only [A5]<;>omega)|fail) only [go_sem,reduceIte,reduceCtorEq,B2,B3,B4,B5,B6,B7,B8,B9,C0,C1,C2,C3,C4,C5,C6,C7,C8,C9,D0,A4,E2,D9,D6,hb,e1,e2]
      · have hi2:i=w.length+1+v0.length:=by
          apply Classical.byContradiction
          intro hn
          apply g2
          have hlt2:i-(w.length+1)<v0.length:=by omega
          have:t.getD i 0=v0.getD (i-(w.length+1)) 0:=by
            rw [g1]
            simp only [List.getD]
            rw [List.getElem?_append_right (by omega),show i-w.length=(i-(w.length+1))+1 by omega,List.getElem?_cons_succ,List.getElem?_append_left (by omega)]
          rw [hc] at this
          rw [this,List.getD,List.getElem?_eq_getElem hlt2]
          exact List.getElem_mem hlt2
        have el:(w++[32]++v0).length=w.length+1+v0.length:=by simp;omega
        have et:t=(w++[32]++v0)++10::r0:=by rw [g1];simp
        refine ⟨?_,?_,rfl⟩
        · rw [hi2]
          unfold sub
          have el1:(w++[32]).length=w.length+1:=by simp
          rw [show w.length+1+v0.length-(w.length+1)=v0.length by omega,←el1,et,Yqy (w++[32]),Ys8,Ys9]
        · rw [hi2,←el,et,←Yq4,Ys8]
          rfl
    · obtain ⟨v,r,ok,h1,h2,h3,hrl,h4⟩:=ih (i+1) (by omega) (by omega)
      simp only [Ysn,Ysh] at h3
      refine ⟨v,r,ok,h1,h2,?_,hrl,fun v0 r0 g1 g2 g3=>h4 v0 r0 g1 g2 ?_⟩
      · rw [G9 L.H5.x0.eq_1,←h3]
        have hb:(bat t i==(10:Int))=false:=Zey (fun h=>hc (UInt8.toNat_inj.1 (by rw [Z6m] at h;have t10:(10:UInt8).toNat=10:=rfl;omega)))
        simp -dsimp (disch:=first|omega|(simp only [A5]<;>omega)|fail) only [go_sem,reduceIte,reduceCtorEq,B2,B3,B4,B5,B6,B7,B8,B9,C0,C1,C2,C3,C4,C5,C6,C7,C8,C9,D0,A4,hb]
      · apply Classical.byContradiction
        intro hn
        apply hc
        have hi2:i=w.length+1+v0.length:=by omega
        have el:(w++[32]++v0).length=w.length+1+v0.length:=by simp;omega
        rw [hi2,←el,show t=(w++[32]++v0)++10::r0 by rw [g1];simp]
        simp [List.getD]
theorem Zkj {t w:List UInt8} (ht:t.length≤1000000000) (hw:w.length≤100):∃ v r ok,v.length≤t.length∧r.length≤t.length ∧
    S E F.H5 [.str t,.str w] []=some (.tup [.str v,.str r,.bool ok],[])∧(ok=true→Zdc t (w++[32])=true∧r.length<t.length) ∧
    ∀ v0 r0,t=w++32::(v0++10::r0)→(10:UInt8)∉v0→v=v0∧r=r0∧ok=true:=by
  have e1:((w.length:Int)+1).toNat=w.length+1:=by omega
  rw [S_of Zss rfl rfl]
  by_cases hl:t.length<w.length+1
  · refine ⟨[],[],false,by simp,by simp,?_,fun h=>(by cases h),fun v0 r0 g1 g2=>?_⟩
    · simp -dsimp (disch:=first|omega|(simp only [A5]<;>omega)|fail) only [L.H5,go_sem,reduceIte,reduceCtorEq,B2,B3,B4,B5,B6,B7,B8,B9,C0,C1,C2,C3,C4,C5,C6,C7,C8,C9,D0,A4,hl]
    · have:=congrArg List.length g1
      simp only [Yqx,Yqm] at this
      omega
  · cases hp:(sub t 0 (w.length+1)==w++[32]) with
    | false =>
      refine ⟨[],[],false,by simp,by simp,?_,fun h=>(by cases h),fun v0 r0 g1 g2=>?_⟩
      · simp -dsimp (disch:=first|omega|(simp only [A5]<;>omega)|fail) only [L.H5,go_sem,reduceIte,reduceCtorEq,B2,B3,B4,B5,B6,B7,B8,B9,C0,C1,C2,C3,C4,C5,C6,C7,C8,C9,D0,A4,hl,e1,Yq7,hp,Ysb]
      · have el1:(w++[32]).length=w.length+1:=by simp
        unfold sub at hp
        rw [Yrp,←el1,show t=(w++[32])++(v0++10::r0) by rw [g1];simp,Ys9] at hp
        simp at hp
    | true =>
      obtain ⟨v,r,ok,h1,h2,h3,hrl,h4⟩:=Yjj ht hw (t.length-(w.length+1)) (w.length+1) (by omega) (Yp6 _)
      simp only [Ysn,Ysh] at h3
      refine ⟨v,r,ok,h1,h2,?_,fun h=>⟨?_,hrl h⟩,fun v0 r0 g1 g2=>h4 v0 r0 g1 g2 (by omega)⟩
      rotate_left
      · unfold Zdc
        unfold sub at hp
        rw [Yrp] at hp
        rw [Yqx,Ysf,hp,decide_eq_true (by omega)]
        rfl
      simp -dsimp (disch:=first|omega|(simp only [A5]<;>omega)|fail) only [L.H5,go_sem,reduceIte,reduceCtorEq,B2,B3,B4,B5,B6,B7,B8,B9,C0,C1,C2,C3,C4,C5,C6,C7,C8,C9,D0,A4,hl,e1,Yq7,hp,Ysa,h3]
end Cod
namespace Cod
open Go
def idE (i:Idt):Int:=if E6 i=true then 0 else 3
theorem Z4i {a b c:Int}:S E F.H6 [.lst [.int .i64 a,.int .i64 b,.int .i64 c] 3] []=some (.int .i64 (Zbc [a,b,c]),[]):=Zlb (l:=[a,b,c]) (by simp)
def putA (b:List UInt8) (e:Int):AV × A6:=(.tup [.buf (.r 0) 0 0 b.length 1,.int .i64 e],[(.r 0,⟨0,true,true,false,A1 b⟩)])
end Cod
namespace Cod
open Go
structure EnvP (EE:Env):Prop where
  ext:Ext E EE
  hex:∀ {id:List UInt8},id.length=32→S EE F.Zmp [.agg (A1 id)] []=some (.str (O9 id),[])
theorem EnvP.S_of {EE:Env} (h:EnvP EE) {f:Nat} {l:LFn} (hf:H4 f=some l) (hk:Zmt f=none) {args:List AV} {σ:A6} (hn:args.length=l.np):S EE f args σ=X EE l.results [.c l.code] ⟨params 0 args,σ⟩:=by
  have hfn:EE.fn f=some l:=by rw [h.ext.fn];exact hf
  have hkn:EE.known f=none:=(h.ext.none f hk).resolve_right (by rw [show E.fn f=some l from hf];simp)
  exact S_fn hkn hfn hn
end Cod
namespace Cod
open Go
theorem go_who {i:Idt}:S E F.Zap [.agg i.cells] []=some (Z33 i,[]):=by
  have h1:=Zha (i:=i)
  rw [S_of Zsn rfl rfl]
  unfold Z33 at h1 ⊢
  cases h:E6 i<;>rw [h] at h1<;>simp -dsimp (disch:=first|omega|(simp only [A5]<;>omega)|fail) only [L.Zap,go_sem,reduceIte,reduceCtorEq,B2,B3,B4,B5,B6,B7,B8,B9,C0,C1,C2,C3,C4,C5,C6,C7,C8,C9,D0,A4,h1]
theorem Ybq {a b c d:Int}:S E F.F7 [.lst [.int .i64 a,.int .i64 b,.int .i64 c,.int .i64 d] 4] []=some (.int .i64 (Zbc [a,b,c,d]),[]):=Zj5 (l:=[a,b,c,d]) (by simp)
section
variable {EE:Env} (hE:EnvP EE)
include hE
end
end Cod
namespace Cod
open Go
def Yjk:Lbl:=⟨List.replicate 32 0,0,[],⟨[],[],0,0⟩,[],by simp⟩
theorem lbl0z:Za8 (zer (.int .u8 0) 32) [.int .i64 0,.str [],.str [],.str [],.int .i64 0,.int .i64 0,.str []]=Yjk.cells:=rfl
theorem lbl0b:Za8 (A1 (List.replicate 32 0)) [.int .i64 0,.str [],.str [],.str [],.int .i64 0,.int .i64 0,.str []]=Yjk.cells:=rfl
theorem lbl0c:A1 (List.replicate 32 0)++[.int .i64 0,.str [],.str [],.str [],.int .i64 0,.int .i64 0,.str []]=Yjk.cells:=rfl
theorem Yjl (a b:Lbl):over a.cells 0 b.cells=b.cells:=by
  unfold over;exact Zhn (by rw [Zmy,Zmy])
theorem Yjm (t:List UInt8) (k:Int) (n:List UInt8) (w:Idt) (m:List UInt8) (h:t.length=32) (x:Int):over (Lbl.mk t k n w m h).cells 32 [.int .i64 x]=(Lbl.mk t x n w m h).cells:=by
  unfold Lbl.cells;rw [Zau (j:=0) (by rw [D8,h])];rfl
theorem Yjn (t:List UInt8) (k:Int) (n:List UInt8) (w:Idt) (m:List UInt8) (h:t.length=32) (x:List UInt8):over (Lbl.mk t k n w m h).cells 33 [.str x]=(Lbl.mk t k x w m h).cells:=by
  unfold Lbl.cells;rw [Zau (j:=1) (by rw [D8,h])];rfl
theorem Yjo (t:List UInt8) (k:Int) (n:List UInt8) (w:Idt) (m:List UInt8) (h:t.length=32) (x:Idt):over (Lbl.mk t k n w m h).cells 34 x.cells=(Lbl.mk t k n x m h).cells:=by
  unfold Lbl.cells;rw [Zau (j:=2) (by rw [D8,h])];rfl
theorem Yjp (t:List UInt8) (k:Int) (n:List UInt8) (w:Idt) (m:List UInt8) (h:t.length=32) (x:List UInt8):over (Lbl.mk t k n w m h).cells 38 [.str x]=(Lbl.mk t k n w x h).cells:=by
  unfold Lbl.cells;rw [Zau (j:=6) (by rw [D8,h])];rfl
attribute [go_sem] lbl0z lbl0b lbl0c Yjl Yjm Yjn Yjo Yjp
section
variable {EE:Env} (hE:EnvP EE)
include hE
end
end Cod
namespace Cod
open Go
theorem Yjq {a b:List UInt8} {n m:Nat} (hn:n=a.length) (hm:m=b.length):S E F.L6 [.lst (A1 a) n,.lst (A1 b) m] []=some (.bool (a==b),[]):=by
  rw [S_of Zjh rfl rfl]
  simp -dsimp (disch:=first|omega|(simp only [A5]<;>omega)|fail) only [L.L6,go_sem,reduceIte,reduceCtorEq,B2,B3,B4,B5,B6,B7,B8,B9,C0,C1,C2,C3,C4,C5,C6,C7,C8,C9,D0,A4,BYs]
section
variable {EE:Env} (hE:EnvP EE)
include hE
end
end Cod
namespace Cod
open Go
theorem Z6v {v:List UInt8} (hv:v.length≤1000000000):∃ (i:Idt) (e:Int),i.name.length≤100∧i.email.length≤100∧S E F.D4 [.str v] []=some (.tup [.agg i.cells,.int .i64 e],[])∧∀ j,E6 j=true→v=H7 j→i=j:=by
  rcases Zma v with ⟨i,i1,i2⟩|hno
  · have k3:=Zu6 i1
    rw [i2] at k3
    refine ⟨i,0,Zag ((R0 i).1 i1).1,Zag ((R0 i).1 i1).2.1,k3,fun j g1 g2=>?_⟩
    have a1:=(Zke i1).1
    have a2:=(Zke g1).1
    rw [i2,g2] at a1
    exact a1.symm.trans a2
  · have k3:=Zu7 (s:=v) (by omega) hno
    exact ⟨⟨[],[],0,0⟩,4,by simp,by simp,k3,fun j g1 g2=>absurd g2.symm (hno j g1)⟩
theorem Zvb {a b:List UInt8} {n m:Nat} (hn:n=a.length) (hm:m=b.length):S E F.L4 [.lst (A1 a) n,.lst (A1 b) m] []=some (.bool (a==b),[]):=by
  rw [S_of Zjf rfl rfl]
  simp -dsimp (disch:=first|omega|(simp only [A5]<;>omega)|fail) only [L.L4,go_sem,reduceIte,reduceCtorEq,B2,B3,B4,B5,B6,B7,B8,B9,C0,C1,C2,C3,C4,C5,C6,C7,C8,C9,D0,A4,BYs]
end Cod
namespace Cod
open Go
def Zzq (s:Snap):List UInt8:=Zga++[32]++H7 s.aut++[10]++Zgj++[32]++H7 s.com++[10,10]++s.msg
theorem Ypa (s:Snap):Zbg s=(Zmj++[32]++O9 s.tree++[10])++Zcu s.par++Zzq s:=rfl
theorem Yjr {ps:List Id32} {i:Nat} (h:i<ps.length):ps.drop i=iat ps i::ps.drop (i+1):=by
  rw [Yr9 h];simp [iat,List.getD,h]
def PV (v:AV) (ps:List Id32):Prop:=v=.lst (ids ps) ps.length∨(ps=[]∧v=.nils)
theorem rc_l0 {s:Snap} {v:AV} (hv:PV v s.par) (hp:s.par.length≤100000) (hm:s.msg.length≤1000000000) (ha:E6 s.aut=true) (hc:E6 s.com=true):∀ (m i:Nat) (t:List UInt8),i+m=s.par.length→t.length≤200+i*72 →
    X E [.tmp 2] (.c L.H3.x0::.lp [1,3,12,13,14] L.H3.x0::.blk 0::[.c L.H3.r0]) ⟨[(1,.ref (.s 1000000 0) 0 0),(3,.str t),(12,v),(13,.int .i64 s.par.length),(14,.int .i64 i)],[(.s 1000000 0,⟨0,true,true,true,snR s.tree v s.aut s.com s.msg⟩)]⟩ =
    some (.buf (.r 0) 0 0 (t++Zcu (s.par.drop i)++Zzq s).length 1,[(.r 0,⟨0,true,true,false,A1 (t++Zcu (s.par.drop i)++Zzq s)⟩)]):=by
  have ht:=s.ht
  have q1:=Zmv ha
  have q2:=Zmv hc
  have l1:=Zcg ha
  have l2:=Zcg hc
  intro m
  induction m with
  | zero =>
    intro i t hi hl
    obtain rfl:i=s.par.length:=by omega
    have e:t++Zcu (s.par.drop s.par.length)++Zzq s=t++([97,117,116,104,111,114,32]++H7 s.aut++[10,99,111,109,109,105,116,116,101,114,32]++H7 s.com++[10,10]++s.msg):=by
      rw [List.drop_length,Zel,Ys4]
      unfold Zzq Zga Zgj
      simp only [Yqy,Yp9,Yry]
    rw [G9 L.H3.x0.eq_1,e]
    generalize H7 s.aut=A at *
    generalize H7 s.com=C at *
    rcases hv with rfl|⟨h0,rfl⟩
    · simp -dsimp (disch:=first|omega|(simp only [A5]<;>omega)|fail) only [go_sem,reduceIte,reduceCtorEq,B2,B3,B4,B5,B6,B7,B8,B9,C0,C1,C2,C3,C4,C5,C6,C7,C8,C9,D0,A4,BYs,L.H3.r0,q1,q2]
    · simp -dsimp (disch:=first|omega|(simp only [A5]<;>omega)|fail) only [go_sem,reduceIte,reduceCtorEq,B2,B3,B4,B5,B6,B7,B8,B9,C0,C1,C2,C3,C4,C5,C6,C7,C8,C9,D0,A4,BYs,L.H3.r0,q1,q2]
  | succ m ih =>
    intro i t hi hl
    have hlt:i<s.par.length:=by omega
    obtain rfl:v=.lst (ids s.par) s.par.length:=by
      rcases hv with h|⟨h0,_⟩
      · exact h
      · rw [h0] at hlt;simp at hlt
    have hx:=(iat s.par i).h
    have h1:=Z6n hx
    have hl1:(O9 (iat s.par i).b).length=64:=by rw [Zae,hx]
    have e:t++Zcu (s.par.drop i)++Zzq s=(t++([112,97,114,101,110,116,32]++O9 (iat s.par i).b++[10]))++Zcu (s.par.drop (i+1))++Zzq s:=by
      rw [Yjr hlt,Zcv]
      unfold Zzj
      simp only [Yqy,Yp9,Yry]
    have h2:=ih (i+1) (t++([112,97,114,101,110,116,32]++O9 (iat s.par i).b++[10])) (by omega) (by simp only [Yqx,Yqm,Yrj];omega)
    simp only [Ysn,Ysh] at h2
    rw [G9 L.H3.x0.eq_1,e,←h2]
    have ho:over (A1 (List.replicate 32 0)) 0 (A1 (iat s.par i).b)=A1 (iat s.par i).b:=X2 (by rw [hx];simp)
    generalize O9 (iat s.par i).b=H at *
    simp -dsimp (disch:=first|omega|(simp only [A5]<;>omega)|fail) only [go_sem,reduceIte,reduceCtorEq,B2,B3,B4,B5,B6,B7,B8,B9,C0,C1,C2,C3,C4,C5,C6,C7,C8,C9,D0,A4,BYs,h1,ho,Ys6]
theorem Z4j {s:Snap} {v:AV} (hv:PV v s.par) (hp:s.par.length≤100000) (hm:s.msg.length≤1000000000) (ha:E6 s.aut=true) (hc:E6 s.com=true):S E F.H3 [.agg (snR s.tree v s.aut s.com s.msg)] []=some (.buf (.r 0) 0 0 (Zbg s).length 1,[(.r 0,⟨0,true,true,false,A1 (Zbg s)⟩)]):=by
  have ht:=s.ht
  have h1:=Z6n s.ht
  have hl1:(O9 s.tree).length=64:=by rw [Zae,s.ht]
  have h2:=rc_l0 hv hp hm ha hc s.par.length 0 ([116,114,101,101,32]++O9 s.tree++[10]) (by omega) (by simp only [Yqx,Yqm,Yrj];omega)
  simp only [Ysh,Yrp] at h2
  have e:Zbg s=[116,114,101,101,32]++O9 s.tree++[10]++Zcu s.par++Zzq s:=by
    rw [Ypa]
    unfold Zmj
    simp only [Yqy,Yp9,Yry]
  rw [S_of Zsv rfl rfl,e]
  generalize O9 s.tree=H at *
  simp only [Yp9,Yry,Yqm] at h2
  rcases hv with rfl|⟨h0,rfl⟩
  · simp -dsimp (disch:=first|omega|(simp only [A5]<;>omega)|fail) only [L.H3,go_sem,reduceIte,reduceCtorEq,B2,B3,B4,B5,B6,B7,B8,B9,C0,C1,C2,C3,C4,C5,C6,C7,C8,C9,D0,A4,BYs,h1,h2]
  · rw [h0] at h2 ⊢
    simp only [Yrj,Ysh] at h2
    simp -dsimp (disch:=first|omega|(simp only [A5]<;>omega)|fail) only [L.H3,go_sem,reduceIte,reduceCtorEq,B2,B3,B4,B5,B6,B7,B8,B9,C0,C1,C2,C3,C4,C5,C6,C7,C8,C9,D0,A4,BYs,h1,h2]
theorem Ybr (a b:Int) (n i:Bool):Zbc [a,b,if n=true then 0 else 3,if i=true then 0 else 3]=Zbc [a,b,if (!n || !i)=true then 3 else 0]:=by
  cases n<;>cases i<;>simp only [Zbc,List.foldl_cons,List.foldl_nil,Bool.or_true,Bool.or_false,Ysa,Ysb,Bool.true_or,Bool.false_or]<;>generalize Zgh (Zgh 0 a) b=w<;>unfold Zgh<;>simp<;>split<;>simp_all<;>omega
theorem Z4k {s:Snap} {v:AV} (hv:PV v s.par) (hp:s.par.length≤1000000000) (hm:s.msg.length≤1000000000) (ha:s.aut.name.length≤1000000000) (hb:s.aut.email.length≤1000000000) (hc:s.com.name.length≤1000000000) (hd:s.com.email.length≤1000000000):S E F.O7 [.agg (snR s.tree v s.aut s.com s.msg)] []=some (.int .i64 (Ze6 s),[]):=by
  have ht:=s.ht
  have h3:=Zld (i:=s.aut) (by omega) (by omega)
  have h3':=Zld (i:=s.com) (by omega) (by omega)
  have h4:=Zzo hm
  have w1:S E F.L9 [.bool (decide (16<(s.par.length:Int))),.int .i64 2] []=some (.int .i64 (if decide (16<(s.par.length:Int))=true then 2 else 0),[]):=Zy9
  have w3:S E F.L9 [.bool (!E6 s.aut || !E6 s.com),.int .i64 3] []=some (.int .i64 (if (!E6 s.aut || !E6 s.com)=true then 3 else 0),[]):=Zy9
  have hT:Ze6 s=Zbc [if decide (16<(s.par.length:Int))=true then 2 else 0,Zli s.msg,if (!E6 s.aut || !E6 s.com)=true then 3 else 0]:=Ybr _ _ _ _
  rw [hT]
  generalize hE:(if (!E6 s.aut || !E6 s.com)=true then (3:Int) else 0)=ee at *
  generalize hL:(if decide (16<(s.par.length:Int))=true then (2:Int) else 0)=el at *
  have hd:=Z4i (a:=el) (b:=Zli s.msg) (c:=ee)
  generalize Zbc [el,Zli s.msg,ee]=res at *
  generalize Zli s.msg=em at *
  clear hE hT hL
  rw [S_of Zsu rfl rfl]
  have hlen:(s.par=[]→w1=w1):=fun _=>rfl
  have hv':v=.lst (ids s.par) s.par.length∨(s.par.length=0∧v=.nils):=by
    rcases hv with h|⟨h,h'⟩
    · exact .inl h
    · exact .inr ⟨by rw [h];rfl,h'⟩
  clear hlen hv
  rcases hv' with rfl|⟨h0,rfl⟩<;>(try (rw [h0] at w1;simp only [Ysh,Int.reduceLT,decide_false] at w1))
  all_goals
    cases c0:E6 s.aut
    · rw [c0] at w3 h3
      simp only [Ysb,Bool.true_or] at w3
      simp -dsimp (disch:=first|omega|(simp only [A5]<;>omega)|fail) only [L.O7,go_sem,reduceIte,reduceCtorEq,B2,B3,B4,B5,B6,B7,B8,B9,C0,C1,C2,C3,C4,C5,C6,C7,C8,C9,D0,A4,h3,h4,w1,w3,hd,Ysb]
    · rw [c0] at w3 h3
      simp only [Ysa,Bool.false_or] at w3
      cases c1:E6 s.com
      · rw [c1] at w3 h3'
        simp only [Ysb] at w3
        simp -dsimp (disch:=first|omega|(simp only [A5]<;>omega)|fail) only [L.O7,go_sem,reduceIte,reduceCtorEq,B2,B3,B4,B5,B6,B7,B8,B9,C0,C1,C2,C3,C4,C5,C6,C7,C8,C9,D0,A4,h3,h3',h4,w1,w3,hd,Ysb,Ysa]
      · rw [c1] at w3 h3'
        simp only [Ysa] at w3
        simp -dsimp (disch:=first|omega|(simp only [A5]<;>omega)|fail) only [L.O7,go_sem,reduceIte,reduceCtorEq,B2,B3,B4,B5,B6,B7,B8,B9,C0,C1,C2,C3,C4,C5,C6,C7,C8,C9,D0,A4,h3,h3',h4,w1,w3,hd,Ysb,Ysa]
end Cod
namespace Cod
open Go
def Zvc (s:Snap):AV × A6:=if Ze6 s=0 then putA (Zbg s) 0 else (.tup [.nils,.int .i64 (Ze6 s)],[])
def Zil (s:Snap):Prop:=s.par.length≤1048576∧s.msg.length≤1000000000
structure EnvC (EE:Env):Prop extends EnvP EE where
  put:∀ {s:Snap} {v:AV},PV v s.par→Zil s→S EE F.U9 [.agg (snR s.tree v s.aut s.com s.msg)] []=some (Zvc s)
def isC (g:Snap) (p:List UInt8):Bool:=decide (Ze6 g=0)&&(Zbg g==p)
theorem Z6w {g:Snap} {p:List UInt8}:isC g p=true↔Zqo p g:=by
  unfold isC Zqo
  rw [Yql,decide_eq_true_eq,beq_iff_eq]
def noC (e:Int):AV × A6:=(.tup [.agg (snR Zbf .nils F9 F9 []),.int .i64 e],[])
def yesC (g:Snap):AV × A6:=if g.par=[] then (.tup [.agg (snR g.tree .nils g.aut g.com g.msg),.int .i64 0],[]) else (.tup [.agg (snR g.tree (.buf (.r 0) 0 0 g.par.length 32) g.aut g.com g.msg),.int .i64 0],[(.r 0,⟨0,true,true,false,ids g.par⟩)])
def cmV (g:Snap) (ok:Bool):AV × A6:=if ok=true then yesC g else noC 4
def mkS (d:List UInt8) (ps:List Id32) (a c:Idt) (m:List UInt8) (hd:d.length=32):Snap:=⟨d,ps,a,c,m,hd⟩
section
variable {EE:Env} (hE:EnvC EE)
include hE
theorem Yjs {p d r:List UInt8} {ps:List Id32} {b:Nat} {v:AV} {σ:A6} (hd:d.length=32) (hp:p.length≤1048576) (hr:r.length≤1048576) (hb:b≤3) (hps:ps.length≤1048576) (hv:(ps=[]∧v=.nils ∧ σ=[])∨(ps≠[]∧v=.buf (.s 1000000 3) 0 0 ps.length 32 ∧ σ=[(.s 1000000 3,⟨0,true,true,false,ids ps⟩)])) :
    ∃ (g:Snap) (bad:Nat),X EE [.cell 2 (some 42),.tmp 3] [.c L.D3.r0] ⟨[(0,.lst (A1 p) p.length),(2,.ref (.s 1000000 0) 0 0),(4,.ref (.s 1000000 1) 0 0),(5,.ref (.s 1000000 2) 0 0),(30,.bool false)],[(.s 1000000 0,⟨0,true,true,true,snR Zbf .nils F9 F9 []⟩),(.s 1000000 1,⟨0,true,true,true,[.str r,.int .i64 (b:Int)]⟩),(.s 1000000 2,⟨0,true,true,true,snR d v F9 F9 []⟩)] ++ σ⟩=some (cmV g (decide (bad=0)&&isC g p))∧b≤bad ∧
    ∀ a c m,E6 a=true→E6 c=true→r=Zga++32::(H7 a++10::(Zgj++32::(H7 c++10::(10::m))))→g=mkS d ps a c m hd∧bad=b:=by
  obtain ⟨i1,r1,b1,n1,e1,q1,u1,v1,s1,y1⟩:=Yji (rest:=r) (w:=Zga) (bad:=b) (by omega) (by decide) (by decide) (by omega)
  obtain ⟨i2,r2,b2,n2,e2,q2,u2,v2,s2,y2⟩:=Yji (rest:=r1) (w:=Zgj) (bad:=b1) (by omega) (by decide) (by decide) (by omega)
  obtain ⟨m3,b3,q3,u3,v3,s3,y3⟩:=end_ex (rest:=r2) (bad:=b2) (by omega) (by omega)
  have hz0:=P0
  have s1:=fun x=>R9 hE.ext (s1 x)
  have s2:=fun x=>R9 hE.ext (s2 x)
  have s3:=fun x=>R9 hE.ext (s3 x)
  have yes:∀ a c m,E6 a=true→E6 c=true→r=Zga++32::(H7 a++10::(Zgj++32::(H7 c++10::(10::m))))→i1=a∧i2=c∧m3=m∧b3=b:=by
    intro a c m ha hc e
    obtain ⟨g1,g2,g3⟩:=y1 _ _ ha e
    subst g2
    obtain ⟨f1,f2,f3⟩:=y2 _ _ hc rfl
    subst f2
    obtain ⟨k1,k2⟩:=y3 _ rfl
    exact ⟨g1,f1,k1,by omega⟩
  have hput:∀ v,PV v ps→S EE F.U9 [.agg (snR d v i1 i2 m3)] []=some (Zvc (mkS d ps i1 i2 m3 hd)):=fun v h=>hE.put (s:=mkS d ps i1 i2 m3 hd) h ⟨hps,by show m3.length≤_;omega⟩
  have t1:Ze6 (mkS d ps i1 i2 m3 hd)=0→Zvc (mkS d ps i1 i2 m3 hd)=putA (Zbg (mkS d ps i1 i2 m3 hd)) 0∧(Zbg (mkS d ps i1 i2 m3 hd)).length≤80000:=fun h=>⟨if_pos h,Zzn h⟩
  have t2:Ze6 (mkS d ps i1 i2 m3 hd)≠0→Zvc (mkS d ps i1 i2 m3 hd)=(.tup [.nils,.int .i64 (Ze6 (mkS d ps i1 i2 m3 hd))],[]):=fun h=>if_neg h
  refine ⟨mkS d ps i1 i2 m3 hd,b3,?_,by omega,fun a c m ha hc e=>?_⟩
  · have hy:yesC (mkS d ps i1 i2 m3 hd)=if ps=[] then (.tup [.agg (snR d .nils i1 i2 m3),.int .i64 0],[]) else (.tup [.agg (snR d (.buf (.r 0) 0 0 ps.length 32) i1 i2 m3),.int .i64 0],[(.r 0,⟨0,true,true,false,ids ps⟩)]):=rfl
    unfold putA at t1
    unfold isC cmV noC
    rw [hy]
    clear hy
    generalize Zbg (mkS d ps i1 i2 m3 hd)=tb at *
    generalize Ze6 (mkS d ps i1 i2 m3 hd)=te at *
    generalize Zvc (mkS d ps i1 i2 m3 hd)=tv at *
    have c1:(0:Int)<(b3:Int)∨b3=0:=by omega
    unfold Zga at s1
    unfold Zgj at s2
    have hbt:=R9 hE.ext (Yjq (a:=tb) (b:=p) (n:=tb.length) (m:=p.length) rfl rfl)
    clear yes y1 y2 y3
    rcases hv with ⟨rfl,rfl,rfl⟩|⟨hne,rfl,rfl⟩
    · rw [if_pos rfl]
      have hput:=hput _ (.inr ⟨rfl,rfl⟩)
      simp only [Ys4]
      by_cases hte:te=0
      · obtain ⟨tg1,t1l⟩:=t1 hte
        subst hte
        rw [tg1] at hput
        rcases c1 with c1|rfl
        · have hd5:decide (b3=0)=false:=by simp;omega
          rw [hd5,Ysk,if_neg (by simp)]
          simp -dsimp (disch:=first|omega|(simp only [A5]<;>omega)|fail) only [L.D3.r0,go_sem,reduceIte,reduceCtorEq,B2,B3,B4,B5,B6,B7,B8,B9,C0,C1,C2,C3,C4,C5,C6,C7,C8,C9,D0,A4,BYs,s1,s2,s3,hput,c1,Ysh]
        · simp only [decide_true,Ysi]
          cases hq:(tb==p) with
          | false =>
            rw [hq] at hbt
            rw [if_neg (by simp)]
            simp -dsimp (disch:=first|omega|(simp only [A5]<;>omega)|fail) only [L.D3.r0,go_sem,reduceIte,reduceCtorEq,B2,B3,B4,B5,B6,B7,B8,B9,C0,C1,C2,C3,C4,C5,C6,C7,C8,C9,D0,A4,BYs,s1,s2,s3,hput,hbt,Ysh]
          | true =>
            rw [hq] at hbt
            rw [if_pos rfl]
            simp -dsimp (disch:=first|omega|(simp only [A5]<;>omega)|fail) only [L.D3.r0,go_sem,reduceIte,reduceCtorEq,B2,B3,B4,B5,B6,B7,B8,B9,C0,C1,C2,C3,C4,C5,C6,C7,C8,C9,D0,A4,BYs,s1,s2,s3,hput,hbt,Ysh]
      · rw [t2 hte] at hput
        have hd5:decide (te=0)=false:=decide_eq_false hte
        rw [hd5,Ysk,Ysv,if_neg (by simp)]
        rcases c1 with c1|rfl
        · simp -dsimp (disch:=first|omega|(simp only [A5]<;>omega)|fail) only [L.D3.r0,go_sem,reduceIte,reduceCtorEq,B2,B3,B4,B5,B6,B7,B8,B9,C0,C1,C2,C3,C4,C5,C6,C7,C8,C9,D0,A4,BYs,s1,s2,s3,hput,c1,Ysh]
        · simp -dsimp (disch:=first|omega|(simp only [A5]<;>omega)|fail) only [L.D3.r0,go_sem,reduceIte,reduceCtorEq,B2,B3,B4,B5,B6,B7,B8,B9,C0,C1,C2,C3,C4,C5,C6,C7,C8,C9,D0,A4,BYs,s1,s2,s3,hput,hte,Ysh]
    · rw [if_neg hne]
      have hput:=hput _ (.inl rfl)
      simp only [Yp9,Yry]
      by_cases hte:te=0
      · obtain ⟨tg1,t1l⟩:=t1 hte
        subst hte
        rw [tg1] at hput
        rcases c1 with c1|rfl
        · have hd5:decide (b3=0)=false:=by simp;omega
          rw [hd5,Ysk,if_neg (by simp)]
          simp -dsimp (disch:=first|omega|(simp only [A5]<;>omega)|fail) only [L.D3.r0,go_sem,reduceIte,reduceCtorEq,B2,B3,B4,B5,B6,B7,B8,B9,C0,C1,C2,C3,C4,C5,C6,C7,C8,C9,D0,A4,BYs,s1,s2,s3,hput,c1,Ysh]
        · simp only [decide_true,Ysi]
          cases hq:(tb==p) with
          | false =>
            rw [hq] at hbt
            rw [if_neg (by simp)]
            simp -dsimp (disch:=first|omega|(simp only [A5]<;>omega)|fail) only [L.D3.r0,go_sem,reduceIte,reduceCtorEq,B2,B3,B4,B5,B6,B7,B8,B9,C0,C1,C2,C3,C4,C5,C6,C7,C8,C9,D0,A4,BYs,s1,s2,s3,hput,hbt,Ysh]
          | true =>
            rw [hq] at hbt
            rw [if_pos rfl]
            simp -dsimp (disch:=first|omega|(simp only [A5]<;>omega)|fail) only [L.D3.r0,go_sem,reduceIte,reduceCtorEq,B2,B3,B4,B5,B6,B7,B8,B9,C0,C1,C2,C3,C4,C5,C6,C7,C8,C9,D0,A4,BYs,s1,s2,s3,hput,hbt,Ysh]
      · rw [t2 hte] at hput
        have hd5:decide (te=0)=false:=decide_eq_false hte
        rw [hd5,Ysk,Ysv,if_neg (by simp)]
        rcases c1 with c1|rfl
        · simp -dsimp (disch:=first|omega|(simp only [A5]<;>omega)|fail) only [L.D3.r0,go_sem,reduceIte,reduceCtorEq,B2,B3,B4,B5,B6,B7,B8,B9,C0,C1,C2,C3,C4,C5,C6,C7,C8,C9,D0,A4,BYs,s1,s2,s3,hput,c1,Ysh]
        · simp -dsimp (disch:=first|omega|(simp only [A5]<;>omega)|fail) only [L.D3.r0,go_sem,reduceIte,reduceCtorEq,B2,B3,B4,B5,B6,B7,B8,B9,C0,C1,C2,C3,C4,C5,C6,C7,C8,C9,D0,A4,BYs,s1,s2,s3,hput,hte,Ysh]
  · obtain ⟨rfl,rfl,rfl,e4⟩:=yes a c m ha hc e
    exact ⟨rfl,e4⟩
end
end Cod
namespace Cod
open Go
theorem Zlk {r:List UInt8}:Zdc (Zga++32::r) [112,97,114,101,110,116,32]=false:=by
  unfold Zdc Zga
  simp
theorem Ybs {r:List UInt8} {d:Id32} {l:List Id32}:Zdc (Zcu (d::l)++r) [112,97,114,101,110,116,32]=true:=by
  rw [Zcv,Yqy,Yp9]
  have:=Zoj [112,97,114,101,110,116,32] ((O9 d.b++10::Zcu l)++r)
  exact this
section
variable {EE:Env} (hE:EnvC EE)
include hE
theorem Z4l {p d r:List UInt8} {ps:List Id32} {b:Nat} {v:AV} {σ:A6} (hr:r.length≤1048576) (hv:(ps=[]∧v=.nils ∧ σ=[])∨(ps≠[]∧v=.buf (.s 1000000 3) 0 0 (ps).length 32 ∧ σ=[(.s 1000000 3,⟨0,true,true,false,ids (ps)⟩)])) (h:Zdc r [112,97,114,101,110,116,32]=false∨b≠0) (hd:d.length=32) :
    X EE [.cell 2 (some 42),.tmp 3] (.c L.D3.x0::.lp [0,2,4,5] L.D3.x0::.blk 0::[.c L.D3.r0]) ⟨[(0,.lst (A1 p) p.length),(2,.ref (.s 1000000 0) 0 0),(4,.ref (.s 1000000 1) 0 0),(5,.ref (.s 1000000 2) 0 0)],[(.s 1000000 0,⟨0,true,true,true,snR Zbf .nils F9 F9 []⟩),(.s 1000000 1,⟨0,true,true,true,[.str r,.int .i64 (b:Int)]⟩),(.s 1000000 2,⟨0,true,true,true,snR d (v) F9 F9 []⟩)] ++ σ⟩=X EE [.cell 2 (some 42),.tmp 3] [.c L.D3.r0] ⟨[(0,.lst (A1 p) p.length),(2,.ref (.s 1000000 0) 0 0),(4,.ref (.s 1000000 1) 0 0),(5,.ref (.s 1000000 2) 0 0),(30,.bool false)],[(.s 1000000 0,⟨0,true,true,true,snR Zbf .nils F9 F9 []⟩),(.s 1000000 1,⟨0,true,true,true,[.str r,.int .i64 (b:Int)]⟩),(.s 1000000 2,⟨0,true,true,true,snR d (v) F9 F9 []⟩)] ++ σ⟩:=by
  have h1:=R9 hE.ext (Zqr (s:=r) (t:=[112,97,114,101,110,116,32]) (by omega) (by decide))
  have h1:S EE F.Q1 [.str r,.str [112,97,114,101,110,116,32]] []=some (.bool (Zdc r [112,97,114,101,110,116,32]),[]):=h1
  have hz0:=P0
  rw [G9 L.D3.x0.eq_1]
  cases hp:Zdc r [112,97,114,101,110,116,32] with
  | false =>
    rw [hp] at h1
    rcases hv with ⟨rfl,rfl,rfl⟩|⟨hne,rfl,rfl⟩
    · simp only [Ys4]
      simp -dsimp (disch:=first|omega|(simp only [A5]<;>omega)|fail) only [go_sem,reduceIte,reduceCtorEq,B2,B3,B4,B5,B6,B7,B8,B9,C0,C1,C2,C3,C4,C5,C6,C7,C8,C9,D0,A4,BYs,h1]
    · simp only [Yp9,Yry]
      simp -dsimp (disch:=first|omega|(simp only [A5]<;>omega)|fail) only [go_sem,reduceIte,reduceCtorEq,B2,B3,B4,B5,B6,B7,B8,B9,C0,C1,C2,C3,C4,C5,C6,C7,C8,C9,D0,A4,BYs,h1]
  | true =>
    rw [hp] at h1 h
    have hb:b≠0:=h.resolve_left (by simp)
    have hb':((b:Int)==0)=false:=by rw [beq_eq_false_iff_ne];omega
    rcases hv with ⟨rfl,rfl,rfl⟩|⟨hne,rfl,rfl⟩
    · simp only [Ys4]
      simp -dsimp (disch:=first|omega|(simp only [A5]<;>omega)|fail) only [go_sem,reduceIte,reduceCtorEq,B2,B3,B4,B5,B6,B7,B8,B9,C0,C1,C2,C3,C4,C5,C6,C7,C8,C9,D0,A4,BYs,h1,hb']
    · simp only [Yp9,Yry]
      simp -dsimp (disch:=first|omega|(simp only [A5]<;>omega)|fail) only [go_sem,reduceIte,reduceCtorEq,B2,B3,B4,B5,B6,B7,B8,B9,C0,C1,C2,C3,C4,C5,C6,C7,C8,C9,D0,A4,BYs,h1,hb']
theorem pc_in {p d r r' e:List UInt8} {ps:List Id32} {b':Nat} {v:AV} {σ:A6} (hr:r.length≤1048576) (hps:ps.length≤1048576) (hv:(ps=[]∧v=.nils ∧ σ=[])∨(ps≠[]∧v=.buf (.s 1000000 3) 0 0 (ps).length 32 ∧ σ=[(.s 1000000 3,⟨0,true,true,false,ids (ps)⟩)])) (h:Zdc r [112,97,114,101,110,116,32]=true) (hd:d.length=32) (he:e.length=32)
    (hid:∀ x:Site,S E F.O6 [.ref (.up x) 0 0,.str [112,97,114,101,110,116]] [(.up x,⟨0,true,true,true,[.str r,.int .i64 0]⟩)]=some (.agg (A1 e),[(.up x,⟨0,true,true,true,[.str r',.int .i64 (b':Int)]⟩)])) :
    X EE [.cell 2 (some 42),.tmp 3] (.c L.D3.x0::.lp [0,2,4,5] L.D3.x0::.blk 0::[.c L.D3.r0]) ⟨[(0,.lst (A1 p) p.length),(2,.ref (.s 1000000 0) 0 0),(4,.ref (.s 1000000 1) 0 0),(5,.ref (.s 1000000 2) 0 0)],[(.s 1000000 0,⟨0,true,true,true,snR Zbf .nils F9 F9 []⟩),(.s 1000000 1,⟨0,true,true,true,[.str r,.int .i64 0]⟩),(.s 1000000 2,⟨0,true,true,true,snR d (v) F9 F9 []⟩)] ++ σ⟩=X EE [.cell 2 (some 42),.tmp 3] (.c L.D3.x0::.lp [0,2,4,5] L.D3.x0::.blk 0::[.c L.D3.r0]) ⟨[(0,.lst (A1 p) p.length),(2,.ref (.s 1000000 0) 0 0),(4,.ref (.s 1000000 1) 0 0),(5,.ref (.s 1000000 2) 0 0)],[(.s 1000000 0,⟨0,true,true,true,snR Zbf .nils F9 F9 []⟩),(.s 1000000 1,⟨0,true,true,true,[.str r',.int .i64 (b':Int)]⟩),(.s 1000000 2,⟨0,true,true,true,snR d (.buf (.s 1000000 3) 0 0 (ps++[mkI e]).length 32) F9 F9 []⟩)]++[(.s 1000000 3,⟨0,true,true,false,ids (ps++[mkI e])⟩)]⟩:=by
  have h1:=R9 hE.ext (Zqr (s:=r) (t:=[112,97,114,101,110,116,32]) (by omega) (by decide))
  have h1:S EE F.Q1 [.str r,.str [112,97,114,101,110,116,32]] []=some (.bool (Zdc r [112,97,114,101,110,116,32]),[]):=h1
  have hz0:=P0
  rw [h] at h1
  have h2:=fun x=>R9 hE.ext (hid x)
  have ho:over (A1 (List.replicate 32 0)) 0 (A1 e)=A1 e:=X2 (by rw [he];simp)
  have hsn:ids ps++A1 e=ids (ps++[mkI e]):=by
    have:=Zzf ps (mkI e)
    rw [mkI_b he] at this
    exact this
  have hln:(ps++[mkI e]).length=ps.length+1:=by simp
  conv=>lhs;rw [G9 L.D3.x0.eq_1]
  rcases hv with ⟨rfl,rfl,rfl⟩|⟨hne,rfl,rfl⟩
  · rw [Z6k,Yry,Yry] at hsn
    simp only [Ys4,Yp9,Yry,←hsn]
    simp -dsimp (disch:=first|omega|(simp only [A5]<;>omega)|fail) only [go_sem,reduceIte,reduceCtorEq,B2,B3,B4,B5,B6,B7,B8,B9,C0,C1,C2,C3,C4,C5,C6,C7,C8,C9,D0,A4,BYs,h1,h2,ho,he,Ys6]
  · simp only [Yp9,Yry,hln]
    simp -dsimp (disch:=first|omega|(simp only [A5]<;>omega)|fail) only [go_sem,reduceIte,reduceCtorEq,B2,B3,B4,B5,B6,B7,B8,B9,C0,C1,C2,C3,C4,C5,C6,C7,C8,C9,D0,A4,BYs,h1,h2,ho,he,hsn,Ys6]
end
end Cod
namespace Cod
open Go
section
variable {EE:Env} (hE:EnvC EE)
include hE
theorem Ypb {p d:List UInt8} (hd:d.length=32) (hp:p.length≤1048576):∀ (m:Nat) (r:List UInt8) (ps:List Id32) (b:Nat) (v:AV) (σ:A6),r.length≤m→r.length≤1048576→ps.length+r.length≤1048576→b≤2→((ps=[]∧v=.nils ∧ σ=[])∨(ps≠[]∧v=.buf (.s 1000000 3) 0 0 (ps).length 32 ∧ σ=[(.s 1000000 3,⟨0,true,true,false,ids (ps)⟩)])) →
    ∃ (g:Snap) (bad:Nat),X EE [.cell 2 (some 42),.tmp 3] (.c L.D3.x0::.lp [0,2,4,5] L.D3.x0::.blk 0::[.c L.D3.r0]) ⟨[(0,.lst (A1 p) p.length),(2,.ref (.s 1000000 0) 0 0),(4,.ref (.s 1000000 1) 0 0),(5,.ref (.s 1000000 2) 0 0)],[(.s 1000000 0,⟨0,true,true,true,snR Zbf .nils F9 F9 []⟩),(.s 1000000 1,⟨0,true,true,true,[.str r,.int .i64 (b:Int)]⟩),(.s 1000000 2,⟨0,true,true,true,snR d (v) F9 F9 []⟩)] ++ σ⟩=some (cmV g (decide (bad=0)&&isC g p))∧∀ qs a c m,E6 a=true→E6 c=true→b=0→r=Zcu qs++(Zga++32::(H7 a++10::(Zgj++32::(H7 c++10::(10::m)))))→g=mkS d (ps++qs) a c m hd∧bad=0:=by
  intro m
  induction m with
  | zero =>
    intro r ps b v σ hm hr hpr hb hv
    obtain rfl:r=[]:=List.eq_nil_of_length_eq_zero (by omega)
    obtain ⟨g,bad,h1,h2,h3⟩:=Yjs hE (p:=p) (d:=d) (r:=[]) (ps:=ps) (b:=b) hd hp hr (by omega) (by omega) hv
    refine ⟨g,bad,?_,fun qs a c m ha hc hb0 e=>?_⟩
    · rw [Z4l hE hr hv (.inl rfl) hd];exact h1
    · have:=congrArg List.length e
      simp only [Yqx,Yqm,Yrj] at this
      omega
  | succ m ih =>
    intro r ps b v σ hm hr hpr hb hv
    by_cases hex:Zdc r [112,97,114,101,110,116,32]=false∨b≠0
    · obtain ⟨g,bad,h1,h2,h3⟩:=Yjs hE (p:=p) (d:=d) (r:=r) (ps:=ps) (b:=b) hd hp hr (by omega) (by omega) hv
      refine ⟨g,bad,?_,fun qs a c m ha hc hb0 e=>?_⟩
      · rw [Z4l hE hr hv hex hd];exact h1
      · have hpf:=hex.resolve_right (fun h=>h hb0)
        cases qs with
        | nil =>
          rw [Zel,Yry] at e
          obtain ⟨k1,k2⟩:=h3 a c m ha hc e
          rw [Ys4]
          exact ⟨k1,by omega⟩
        | cons q qs =>
          rw [e,Ybs] at hpf
          cases hpf
    · have hpt:Zdc r [112,97,114,101,110,116,32]=true:=by
        cases hq:Zdc r [112,97,114,101,110,116,32] with
        | false=>exact absurd (.inl hq) hex
        | true=>rfl
      obtain rfl:b=0:=by
        apply Classical.byContradiction
        intro hn
        exact hex (.inr hn)
      have hlen:7≤r.length:=by
        unfold Zdc at hpt
        simp only [Yql,decide_eq_true_eq] at hpt
        exact hpt.1
      obtain ⟨e,r',b',he,q1,u1,v1,s1,pr,y1⟩:=Yjh (rest:=r) (w:=Zzj) (bad:=0) (by omega) (by decide) (by decide) (by omega)
      have hin:=pc_in hE (p:=p) (d:=d) (r:=r) (r':=r') (e:=e) (ps:=ps) (b':=b') hr (by omega) hv hpt hd he s1
      have hv':((ps++[mkI e])=[]∧(AV.buf (.s 1000000 3) 0 0 (ps++[mkI e]).length 32)=.nils∧([(.s 1000000 3,⟨0,true,true,false,ids (ps++[mkI e])⟩)]:A6)=[])∨((ps++[mkI e])≠[]∧(AV.buf (.s 1000000 3) 0 0 (ps++[mkI e]).length 32)=.buf (.s 1000000 3) 0 0 ((ps++[mkI e])).length 32∧([(.s 1000000 3,⟨0,true,true,false,ids (ps++[mkI e])⟩)]:A6)=[(.s 1000000 3,⟨0,true,true,false,ids ((ps++[mkI e]))⟩)]):=.inr ⟨by simp,rfl,rfl⟩
      have hl1:(ps++[mkI e]).length=ps.length+1:=by simp
      by_cases hb':b'=0
      · obtain ⟨g,bad,h1,h2⟩:=ih r' (ps++[mkI e]) b' _ _ (by have:=pr hb';omega) (by omega) (by have:=pr hb';omega) (by omega) hv'
        refine ⟨g,bad,hin.trans h1,fun qs a c m ha hc hb0 e0=>?_⟩
        cases qs with
        | nil =>
          rw [e0,Zel,Yry,Zlk] at hpt
          cases hpt
        | cons q qs =>
          rw [Zcv,Yqy,Yp9,Yqy,Yp9] at e0
          obtain ⟨k1,k2,k3⟩:=y1 _ _ q.h e0
          obtain ⟨j1,j2⟩:=h2 qs a c m ha hc k3 k2
          refine ⟨?_,j2⟩
          rw [j1,k1,Zzi,Yqy]
          rfl
      · obtain ⟨g,bad,h1,h2,h3⟩:=Yjs hE (p:=p) (d:=d) (r:=r') (ps:=ps++[mkI e]) (b:=b') hd hp (by omega) (by omega) (by omega) hv'
        refine ⟨g,bad,?_,fun qs a c m ha hc hb0 e0=>?_⟩
        · exact hin.trans ((Z4l hE (by omega) hv' (.inr hb') hd).trans h1)
        · cases qs with
          | nil =>
            rw [e0,Zel,Yry,Zlk] at hpt
            cases hpt
          | cons q qs =>
            rw [Zcv,Yqy,Yp9,Yqy,Yp9] at e0
            exact absurd (y1 _ _ q.h e0).2.2 hb'
theorem Zvd {p:List UInt8} {n:Nat} (hn:n=p.length) (hp:p.length≤1048576):∃ (g:Snap) (bad:Nat),S EE F.D3 [.lst (A1 p) n] []=some (cmV g (decide (bad=0)&&isC g p))∧∀ s,Zqo p s→g=s∧bad=0:=by
  subst hn
  obtain ⟨d,r,b,hd,q1,u1,v1,s1,_,y1⟩:=Yjh (rest:=p) (w:=Zmj) (bad:=0) (by omega) (by decide) (by decide) (by omega)
  obtain ⟨g,bad,h1,h2⟩:=Ypb hE (p:=p) (d:=d) hd hp r.length r [] b _ _ (Yp6 _) (by omega) (by simp only [Yrj];omega) (by omega) (.inl ⟨rfl,rfl,rfl⟩)
  refine ⟨g,bad,?_,fun s hs=>?_⟩
  · rw [←h1]
    have s1:=fun x=>R9 hE.ext (s1 x)
    unfold Zmj at s1
    have hz0:=P0
    rw [hE.S_of Zjg rfl rfl]
    simp only [Ys4,Ysh] at s1 ⊢
    simp -dsimp (disch:=first|omega|(simp only [A5]<;>omega)|fail) only [L.D3,go_sem,reduceIte,reduceCtorEq,B2,B3,B4,B5,B6,B7,B8,B9,C0,C1,C2,C3,C4,C5,C6,C7,C8,C9,D0,A4,BYs,s1]
  · obtain ⟨e1,e2⟩:=hs
    obtain ⟨w1,w2,w3,w4⟩:=Zgb e1
    rw [Zzm] at e2
    obtain ⟨k1,k2,k3⟩:=y1 _ _ s.ht e2.symm
    obtain ⟨j1,j2⟩:=h2 s.par s.aut s.com s.msg w3 w4 k3 k2
    refine ⟨?_,j2⟩
    rw [j1]
    subst k1
    rfl
theorem Zve {p:List UInt8} {n:Nat} (hn:n=p.length) (hp:1048576<p.length) (hb:p.length≤1000000000000):S EE F.D3 [.lst (A1 p) n] []=some (noC 2):=by
  subst hn
  have hz0:=P0
  rw [hE.S_of Zjg rfl rfl]
  unfold noC
  simp -dsimp (disch:=first|omega|(simp only [A5]<;>omega)|fail) only [L.D3,go_sem,reduceIte,reduceCtorEq,B2,B3,B4,B5,B6,B7,B8,B9,C0,C1,C2,C3,C4,C5,C6,C7,C8,C9,D0,A4,BYs]
end
end Cod
namespace Cod
open Go
theorem rq_r0 {p d t:List UInt8} {ps:List Id32} {i:Nat} {v:AV} {σ:A6} {ex:List (Nat × AV)} (hex:(ex=[(37,.bool false)]∨∃ v r,ex=[(37,.bool true),(9,.str v),(10,.str r),(11,.bool false),(47,.bool true)])) (hd:d.length=32) (hp:p.length≤1048576) (ht:t.length≤1048576) (hps:ps.length≤17) (hv:(ps=[]∧v=.nils ∧ σ=[])∨(ps≠[]∧v=.buf (.s 1000000 2) 0 0 (ps).length 32 ∧ σ=[(.s 1000000 2,⟨0,true,true,false,ids (ps)⟩)])) :
    ∃ (g:Snap) (ok:Bool),X E [.cell 2 (some 42),.tmp 3] [.c L.A7.r0] ⟨[(0,.lst (A1 p) p.length),(2,.ref (.s 1000000 0) 0 0),(4,.ref (.s 1000000 1) 0 0),(6,.str t),(8,.int .i64 (i:Int))]++ex,[(.s 1000000 0,⟨0,true,true,true,snR Zbf .nils F9 F9 []⟩),(.s 1000000 1,⟨0,true,true,true,snR d (v) F9 F9 []⟩)] ++ σ⟩=some (cmV g (ok&&isC g p)) ∧
    ∀ a c m,E6 a=true→E6 c=true→t=Zga++32::(H7 a++10::(Zgj++32::(H7 c++10::(10::m))))→ok=true∧g=mkS d ps a c m hd:=by
  obtain ⟨v1,r1,o1,a1,c1,s1,_,y1⟩:=Zkj (t:=t) (w:=Zga) (by omega) (by decide)
  obtain ⟨v2,r2,o2,a2,c2,s2,_,y2⟩:=Zkj (t:=r1) (w:=Zgj) (by omega) (by decide)
  have hz0:=P0
  have yes:∀ a c m,E6 a=true→E6 c=true→t=Zga++32::(H7 a++10::(Zgj++32::(H7 c++10::(10::m))))→v1=H7 a∧v2=H7 c∧r2=10::m∧o1=true∧o2=true:=by
    intro a c m ha hc e
    obtain ⟨g1,g2,g3⟩:=y1 _ _ e (Zki ha)
    subst g2
    obtain ⟨f1,f2,f3⟩:=y2 _ _ rfl (Zki hc)
    exact ⟨g1,f1,f2,g3,f3⟩
  unfold Zga at s1
  unfold Zgj at s2
  clear y1 y2
  by_cases hbad:o1=true∧o2=true∧r2≠[]
  · obtain ⟨rfl,rfl,hne⟩:=hbad
    obtain ⟨i1,e1,n1,n1',s5,y5⟩:=Z6v (v:=v1) (by omega)
    obtain ⟨i2,e2,n2,n2',s6,y6⟩:=Z6v (v:=v2) (by omega)
    have hpos:1≤r2.length:=by cases r2 with|nil=>exact absurd rfl hne|cons=>simp
    have hm:(r2.drop 1).length≤t.length:=by rw [Yqe];omega
    refine ⟨mkS d ps i1 i2 (r2.drop 1) hd,true,?_,fun a c m ha hc e=>?_⟩
    · have hne':(r2 == [])=false:=by cases r2 with|nil=>exact absurd rfl hne|cons=>rfl
      have hsb:sub r2 1 (r2.length-1)=r2.drop 1:=D6 (by omega)
      have b1:∀ v,PV v ps→S E F.O7 [.agg (snR d v i1 i2 (r2.drop 1))] []=some (.int .i64 (Ze6 (mkS d ps i1 i2 (r2.drop 1) hd)),[]):=fun v h=>Z4k (s:=mkS d ps i1 i2 (r2.drop 1) hd) h (by show ps.length≤_;omega) (by show (r2.drop 1).length≤_;omega) (by show i1.name.length≤_;omega) (by show i1.email.length≤_;omega) (by show i2.name.length≤_;omega) (by show i2.email.length≤_;omega)
      have b2:Ze6 (mkS d ps i1 i2 (r2.drop 1) hd)=0→(∀ v,PV v ps→S E F.H3 [.agg (snR d v i1 i2 (r2.drop 1))] []=some (.buf (.r 0) 0 0 (Zbg (mkS d ps i1 i2 (r2.drop 1) hd)).length 1,[(.r 0,⟨0,true,true,false,A1 (Zbg (mkS d ps i1 i2 (r2.drop 1) hd))⟩)]))∧(Zbg (mkS d ps i1 i2 (r2.drop 1) hd)).length≤80000:=fun h=>⟨fun v hv=>Z4j (s:=mkS d ps i1 i2 (r2.drop 1) hd) hv (by show ps.length≤_;omega) (by show (r2.drop 1).length≤_;omega) (Zgb h).2.2.1 (Zgb h).2.2.2,Zzn h⟩
      have hy:yesC (mkS d ps i1 i2 (r2.drop 1) hd)=if ps=[] then (.tup [.agg (snR d .nils i1 i2 (r2.drop 1)),.int .i64 0],[]) else (.tup [.agg (snR d (.buf (.r 0) 0 0 ps.length 32) i1 i2 (r2.drop 1)),.int .i64 0],[(.r 0,⟨0,true,true,false,ids ps⟩)]):=rfl
      unfold isC cmV noC
      rw [hy]
      clear hy yes y5 y6
      generalize Zbg (mkS d ps i1 i2 (r2.drop 1) hd)=tb at *
      generalize Ze6 (mkS d ps i1 i2 (r2.drop 1) hd)=te at *
      simp only [Ysi]
      have hbe:=Zvb (a:=tb) (b:=p) (n:=tb.length) (m:=p.length) rfl rfl
      rcases hv with ⟨rfl,rfl,rfl⟩|⟨hne2,rfl,rfl⟩
      · rw [if_pos rfl]
        have b1:=b1 _ (.inr ⟨rfl,rfl⟩)
        simp only [Ys4]
        by_cases hte:te=0
        · obtain ⟨b3,b4⟩:=b2 hte
          have b3:=b3 _ (.inr ⟨rfl,rfl⟩)
          subst hte
          simp only [decide_true,Ysi]
          cases hq:(tb==p)
          · rw [hq] at hbe
            rw [if_neg (by simp)]
            rcases hex with rfl|⟨_,_,rfl⟩
            · simp only [Yp9,Yry]
              simp -dsimp (disch:=first|omega|(simp only [A5]<;>omega)|fail) only [L.A7.r0,go_sem,reduceIte,reduceCtorEq,B2,B3,B4,B5,B6,B7,B8,B9,C0,C1,C2,C3,C4,C5,C6,C7,C8,C9,D0,A4,BYs,s1,s2,s5,s6,hne',hsb,b1,b3,hbe]
            · simp only [Yp9,Yry]
              simp -dsimp (disch:=first|omega|(simp only [A5]<;>omega)|fail) only [L.A7.r0,go_sem,reduceIte,reduceCtorEq,B2,B3,B4,B5,B6,B7,B8,B9,C0,C1,C2,C3,C4,C5,C6,C7,C8,C9,D0,A4,BYs,s1,s2,s5,s6,hne',hsb,b1,b3,hbe]
          · rw [hq] at hbe
            rw [if_pos rfl]
            rcases hex with rfl|⟨_,_,rfl⟩
            · simp only [Yp9,Yry]
              simp -dsimp (disch:=first|omega|(simp only [A5]<;>omega)|fail) only [L.A7.r0,go_sem,reduceIte,reduceCtorEq,B2,B3,B4,B5,B6,B7,B8,B9,C0,C1,C2,C3,C4,C5,C6,C7,C8,C9,D0,A4,BYs,s1,s2,s5,s6,hne',hsb,b1,b3,hbe]
            · simp only [Yp9,Yry]
              simp -dsimp (disch:=first|omega|(simp only [A5]<;>omega)|fail) only [L.A7.r0,go_sem,reduceIte,reduceCtorEq,B2,B3,B4,B5,B6,B7,B8,B9,C0,C1,C2,C3,C4,C5,C6,C7,C8,C9,D0,A4,BYs,s1,s2,s5,s6,hne',hsb,b1,b3,hbe]
        · have hd5:decide (te=0)=false:=decide_eq_false hte
          rw [hd5,Ysk,if_neg (by simp)]
          rcases hex with rfl|⟨_,_,rfl⟩
          · simp only [Yp9,Yry]
            simp -dsimp (disch:=first|omega|(simp only [A5]<;>omega)|fail) only [L.A7.r0,go_sem,reduceIte,reduceCtorEq,B2,B3,B4,B5,B6,B7,B8,B9,C0,C1,C2,C3,C4,C5,C6,C7,C8,C9,D0,A4,BYs,s1,s2,s5,s6,hne',hsb,b1,hte]
          · simp only [Yp9,Yry]
            simp -dsimp (disch:=first|omega|(simp only [A5]<;>omega)|fail) only [L.A7.r0,go_sem,reduceIte,reduceCtorEq,B2,B3,B4,B5,B6,B7,B8,B9,C0,C1,C2,C3,C4,C5,C6,C7,C8,C9,D0,A4,BYs,s1,s2,s5,s6,hne',hsb,b1,hte]
      · rw [if_neg hne2]
        have b1:=b1 _ (.inl rfl)
        by_cases hte:te=0
        · obtain ⟨b3,b4⟩:=b2 hte
          have b3:=b3 _ (.inl rfl)
          subst hte
          simp only [decide_true,Ysi]
          cases hq:(tb==p)
          · rw [hq] at hbe
            rw [if_neg (by simp)]
            rcases hex with rfl|⟨_,_,rfl⟩
            · simp only [Yp9,Yry]
              simp -dsimp (disch:=first|omega|(simp only [A5]<;>omega)|fail) only [L.A7.r0,go_sem,reduceIte,reduceCtorEq,B2,B3,B4,B5,B6,B7,B8,B9,C0,C1,C2,C3,C4,C5,C6,C7,C8,C9,D0,A4,BYs,s1,s2,s5,s6,hne',hsb,b1,b3,hbe]
            · simp only [Yp9,Yry]
              simp -dsimp (disch:=first|omega|(simp only [A5]<;>omega)|fail) only [L.A7.r0,go_sem,reduceIte,reduceCtorEq,B2,B3,B4,B5,B6,B7,B8,B9,C0,C1,C2,C3,C4,C5,C6,C7,C8,C9,D0,A4,BYs,s1,s2,s5,s6,hne',hsb,b1,b3,hbe]
          · rw [hq] at hbe
            rw [if_pos rfl]
            rcases hex with rfl|⟨_,_,rfl⟩
            · simp only [Yp9,Yry]
              simp -dsimp (disch:=first|omega|(simp only [A5]<;>omega)|fail) only [L.A7.r0,go_sem,reduceIte,reduceCtorEq,B2,B3,B4,B5,B6,B7,B8,B9,C0,C1,C2,C3,C4,C5,C6,C7,C8,C9,D0,A4,BYs,s1,s2,s5,s6,hne',hsb,b1,b3,hbe]
            · simp only [Yp9,Yry]
              simp -dsimp (disch:=first|omega|(simp only [A5]<;>omega)|fail) only [L.A7.r0,go_sem,reduceIte,reduceCtorEq,B2,B3,B4,B5,B6,B7,B8,B9,C0,C1,C2,C3,C4,C5,C6,C7,C8,C9,D0,A4,BYs,s1,s2,s5,s6,hne',hsb,b1,b3,hbe]
        · have hd5:decide (te=0)=false:=decide_eq_false hte
          rw [hd5,Ysk,if_neg (by simp)]
          rcases hex with rfl|⟨_,_,rfl⟩
          · simp only [Yp9,Yry]
            simp -dsimp (disch:=first|omega|(simp only [A5]<;>omega)|fail) only [L.A7.r0,go_sem,reduceIte,reduceCtorEq,B2,B3,B4,B5,B6,B7,B8,B9,C0,C1,C2,C3,C4,C5,C6,C7,C8,C9,D0,A4,BYs,s1,s2,s5,s6,hne',hsb,b1,hte]
          · simp only [Yp9,Yry]
            simp -dsimp (disch:=first|omega|(simp only [A5]<;>omega)|fail) only [L.A7.r0,go_sem,reduceIte,reduceCtorEq,B2,B3,B4,B5,B6,B7,B8,B9,C0,C1,C2,C3,C4,C5,C6,C7,C8,C9,D0,A4,BYs,s1,s2,s5,s6,hne',hsb,b1,hte]
    · obtain ⟨g1,g2,g3,_⟩:=yes a c m ha hc e
      have z1:=y5 _ ha g1
      have z2:=y6 _ hc g2
      subst z1 z2
      rw [g3]
      exact ⟨rfl,rfl⟩
  · refine ⟨mkS d ps F9 F9 [] hd,false,?_,fun a c m ha hc e=>?_⟩
    · unfold cmV noC
      rw [Ysk,if_neg (by simp)]
      have hr:o1=true→o2=true→(r2 == [])=true:=by
        intro h1 h2
        cases r2 with
        | nil=>rfl
        | cons a t=>exact absurd ⟨h1,h2,by simp⟩ hbad
      rcases hv with ⟨rfl,rfl,rfl⟩|⟨hne2,rfl,rfl⟩<;>rcases hex with rfl|⟨_,_,rfl⟩<;>simp only [Yp9,Yry,Ys4]<;>cases o1
      all_goals first|(simp -dsimp (disch:=first|omega|(simp only [A5]<;>omega)|fail) only [L.A7.r0,go_sem,reduceIte,reduceCtorEq,B2,B3,B4,B5,B6,B7,B8,B9,C0,C1,C2,C3,C4,C5,C6,C7,C8,C9,D0,A4,BYs,s1,s2,Ysb,Ysa];done)|skip
      all_goals cases o2
      all_goals first|(simp -dsimp (disch:=first|omega|(simp only [A5]<;>omega)|fail) only [L.A7.r0,go_sem,reduceIte,reduceCtorEq,B2,B3,B4,B5,B6,B7,B8,B9,C0,C1,C2,C3,C4,C5,C6,C7,C8,C9,D0,A4,BYs,s1,s2,Ysb,Ysa];done)|skip
      all_goals
        have hr:=hr rfl rfl
        simp -dsimp (disch:=first|omega|(simp only [A5]<;>omega)|fail) only [L.A7.r0,go_sem,reduceIte,reduceCtorEq,B2,B3,B4,B5,B6,B7,B8,B9,C0,C1,C2,C3,C4,C5,C6,C7,C8,C9,D0,A4,BYs,s1,s2,Ysb,Ysa,hr]
    · obtain ⟨g1,g2,g3,g4,g5⟩:=yes a c m ha hc e
      exact absurd ⟨g4,g5,by rw [g3];simp⟩ hbad
end Cod

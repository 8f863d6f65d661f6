/- Links and checks. -/
import Derived.Test.YthlnjgdoodjgoaaGreatDoorXTxt7
import Derived.Test.YthlnjgdoodjgoaaGreatDoorXTxt6
import Derived.Test.YthlnjgdoodjgoaaGreatDoorXTxt2
set_option linter.unusedSimpArgs false
set_option linter.unusedVariables false
open List renaming append_nil → Ys4, cons_append → Yp9, drop_zero → Yrp, flatten_cons → Yro, length_append → Yqx, length_cons → Yqm, length_nil → Yrj, mem_cons_of_mem → Yra, nil_append → Yry, take_left → Ys9
open Int renaming cast_ofNat_Int → Ysh, natCast_add → Ysn
open Bool renaming and_eq_true → Yql
open Nat renaming reduceEqDiff → B2, reduceAdd → B3, reduceSub → B4, reduceMul → B5, reduceDiv → B6, reduceMod → B7, reduceBEq → B8, reduceLeDiff → B9, reduceLT → C0
open Int renaming reduceEq → C1, reduceNe → C2, reduceLT → C3, reduceLE → C4, reduceBEq → C5, reduceBNe → C6, reduceToNat → C7, reduceAdd → C8, reduceSub → C9, reduceMul → D0, reduceNeg → A4
namespace Cod
open Go
end Cod
namespace Cod
open Go
theorem Ycg:∀ {σ:A6} {t s:Site} {e:Ent},A9 (I6 σ t e) s=Zac (decide (t=s)) (some e) (A9 σ s) ⟨⟩ ⟨⟩:=by
  intro σ
  induction σ with
  | nil=>intro t s e;rw [Zxk,Zd6]
  | cons x σ ih =>
    obtain ⟨k,u⟩:=x
    intro t s e
    unfold I6
    by_cases h:k=t
    · subst h
      rw [if_pos rfl,Zd6,Zd6]
      unfold Zac
      cases decide (k=s)<;>rfl
    · rw [if_neg h,Zd6,Zd6,ih]
      unfold Zac
      by_cases h2:k=s
      · subst h2
        have:decide (t=k)=false:=by simp;exact fun h3=>h h3.symm
        rw [this];simp
      · have:decide (k=s)=false:=by simp [h2]
        rw [this];rfl
theorem Yks:∀ {σ:A6} {n k:Nat} {e:Ent},ups (I6 σ (.s n k) e)=ups σ:=by
  intro σ
  induction σ with
  | nil=>intro n k e;rfl
  | cons x σ ih =>
    obtain ⟨s,u⟩:=x
    intro n k e
    unfold I6
    by_cases h:s=.s n k
    · subst h;rw [if_pos rfl];rfl
    · rw [if_neg h]
      cases s with
      | s a b=>exact ih
      | r a=>exact ih
      | up a=>simp only [ups];rw [ih]
structure FrB (σ:A6) (d m:Nat):Prop where
  ups:ups σ=[]
  free:∀ n k,d≤n→A9 σ (.s n k)=none
  mid:∀ n k,m≤n→n≤28→A9 σ (.s n k)=none
theorem FrB.put {σ:A6} {d m a b:Nat} {e:Ent} (h:FrB σ d m) (ha:a<d∧(a<m∨28<a)):FrB (I6 σ (.s a b) e) d m:=by
  have key:∀ n k,n≠a→A9 (I6 σ (.s a b) e) (.s n k)=A9 σ (.s n k):=by
    intro n k hn
    rw [Ycg,show decide ((Site.s a b)=Site.s n k)=false by simp;intro h;omega]
    rfl
  refine ⟨by rw [Yks];exact h.ups,fun n k hn=>?_,fun n k h1 h2=>?_⟩
  · rw [key n k (by omega)];exact h.free n k hn
  · rw [key n k (by omega)];exact h.mid n k h1 h2
theorem FrB.mono {σ:A6} {d m d' m':Nat} (h:FrB σ d m) (hd:d≤d') (hm:m≤m'):FrB σ d' m':=⟨h.ups,fun n k hn=>h.free n k (by omega),fun n k h1 h2=>h.mid n k (by omega) h2⟩
end Cod
namespace Cod
open Go
def zeroS:Snap:=mkS Zbf [] F9 F9 [] P0
end Cod
namespace Cod
open Go
end Cod
namespace Cod
open Go
def Ykt:Ty:=.cat .str (.cat .str (.cat (.int .i64) (.cat (.int .i64) .nil)))
def Z4z:Ty:=.cat (.rep 32 (.int .u8)) (.cat (.sl (.rep 32 (.int .u8))) (.cat Ykt (.cat Ykt (.cat .str .nil))))
theorem Yku {x:List AV} (h:Wf Ykt x):∃ i:Idt,x=i.cells∧i.name.length≤abulks x∧i.email.length≤abulks x:=by
  obtain ⟨a1,b1,rfl,⟨p,rfl,hp⟩,a2,b2,rfl,⟨q,rfl,hq⟩,a3,b3,rfl,⟨t,rfl,ht⟩,a4,b4,rfl,⟨z,rfl,hz⟩,rfl⟩:=h
  refine ⟨⟨p,q,t,z⟩,rfl,?_,?_⟩<;>simp only [Yp9,Yry,abulks,Zev]<;>omega
theorem wf_id {x:List AV} (h:Wf (.rep 32 (.int .u8)) x):∃ d:Id32,x=d.cells:=by
  obtain ⟨r,rfl,hr,hw⟩:=h
  obtain ⟨l,h1,h2⟩:=Zj3 hw
  exact ⟨⟨l,by rw [h2,hr]⟩,h1⟩
theorem wf_ids:∀ {r:List (List AV)},(∀ x∈r,Wf (.rep 32 (.int .u8)) x)→∃ l:List Id32,r.flatten=ids l∧l.length=r.length:=by
  intro r
  induction r with
  | nil=>intro _;exact ⟨[],rfl,rfl⟩
  | cons x r ih =>
    intro h
    obtain ⟨l,h1,h2⟩:=ih fun y hy=>h y (Yra _ hy)
    obtain ⟨d,rfl⟩:=wf_id (h x (by simp))
    exact ⟨d::l,by rw [Yro,h1];rfl,by simp [h2]⟩
theorem Yp0 {x:List AV} (h:Wf Z4z x):∃ s:Snap,x=s.cells∧s.par.length≤abulks x∧s.msg.length≤abulks x∧s.aut.name.length≤abulks x∧s.aut.email.length≤abulks x∧s.com.name.length≤abulks x∧s.com.email.length≤abulks x:=by
  obtain ⟨a0,b0,rfl,⟨r,rfl,hr,hw⟩,a1,b1,rfl,⟨q,rfl,_,hq⟩,a2,b2,rfl,hi,a3,b3,rfl,hj,a4,b4,rfl,⟨m,rfl,hm⟩,rfl⟩:=h
  obtain ⟨d,h1,h2⟩:=Zj3 hw
  obtain ⟨l,h3,h4⟩:=wf_ids hq
  obtain ⟨i,rfl,i1,i2⟩:=Yku hi
  obtain ⟨j,rfl,j1,j2⟩:=Yku hj
  rw [h1,h3,←h4]
  refine ⟨⟨d,l,i,j,m,by rw [h2,hr]⟩,?_,?_,?_,?_,?_,?_,?_⟩
  · simp [Snap.cells,snR,Idt.cells]
  all_goals
    simp only [Zd0,abulks,Zev]
    first
      | (show l.length≤_;omega)
      | (show m.length≤_;omega)
      | (show i.name.length≤_;omega)
      | (show i.email.length≤_;omega)
      | (show j.name.length≤_;omega)
      | (show j.email.length≤_;omega)
def Zz9:Ty:=.cat (.int .i64) (.cat .str (.cat (.rep 32 (.int .u8)) .nil))
theorem wf_ety {x:List AV} (h:Wf Zz9 x):∃ e:Ety,x=e.cells∧e.name.length≤abulks x ∧ -9223372036854775808≤e.mode∧e.mode≤9223372036854775807:=by
  obtain ⟨a1,b1,rfl,⟨m,rfl,hm⟩,a2,b2,rfl,⟨p,rfl,hp⟩,a3,b3,rfl,⟨r,rfl,hr,hw⟩,rfl⟩:=h
  obtain ⟨l,h1,h2⟩:=Zj3 hw
  simp [Lit.wf,IntKind.min,IntKind.max,IntKind.signed,IntKind.bits] at hm
  refine ⟨⟨m,p,l,by rw [h2,hr]⟩,?_,?_,?_,?_⟩
  · rw [h1];simp [Ety.cells]
  · simp only [Yp9,Yry,abulks,Zev];omega
  · show -9223372036854775808≤m;omega
  · show m≤9223372036854775807;omega
theorem Yp1:∀ {r:List (List AV)},(∀ x∈r,Wf Zz9 x)→∃ l:List Ety,r.flatten=I8 l∧l.length=r.length∧(∀ e∈l,e.name.length≤abulks r.flatten ∧ -9223372036854775808≤e.mode∧e.mode≤9223372036854775807):=by
  intro r
  induction r with
  | nil=>intro _;exact ⟨[],rfl,rfl,fun e he=>by simp at he⟩
  | cons x r ih =>
    intro h
    obtain ⟨l,h1,h2,h3⟩:=ih fun y hy=>h y (Yra _ hy)
    obtain ⟨e,rfl,he,hm⟩:=wf_ety (h x (by simp))
    refine ⟨e::l,by rw [Yro,h1];rfl,by simp [h2],fun y hy=>?_⟩
    rw [Yro,Zd0]
    rcases List.mem_cons.1 hy with rfl|hy
    · exact ⟨by omega,hm⟩
    · have:=h3 y hy;exact ⟨by omega,this.2⟩
theorem Ykv {x:List AV} (h:Wf (.sl Zz9) x) (hb:abulks x≤1048576):∃ l:List Ety,x=[.lst (I8 l) l.length]∧l.length≤1048576∧(∀ i,(eat l i).name.length≤1048576)∧∀ i,-9223372036854775808≤(eat l i).mode∧(eat l i).mode≤9223372036854775807:=by
  obtain ⟨r,rfl,_,h2⟩:=h
  obtain ⟨l,h3,h4,h5⟩:=Yp1 h2
  rw [h3] at h5
  rw [h3,←h4] at hb ⊢
  simp only [abulks,Zev] at hb
  have key:∀ i,(eat l i).name.length≤1048576 ∧ -9223372036854775808≤(eat l i).mode∧(eat l i).mode≤9223372036854775807:=by
    intro i
    unfold eat
    by_cases hi:i<l.length
    · have:=h5 l[i] (List.getElem_mem hi)
      rw [show l.getD i default=l[i] by simp [List.getD,hi]]
      exact ⟨by omega,this.2⟩
    · rw [List.getD,List.getElem?_eq_none (by omega)]
      exact ⟨by decide,by decide,by decide⟩
  exact ⟨l,rfl,by omega,fun i=>(key i).1,fun i=>(key i).2⟩
theorem Z40 {x:List AV} (h:Wf (.sl (.int .u8)) x) (hb:abulks x≤1048576):∃ p:List UInt8,x=[.lst (A1 p) p.length]∧p.length≤1048576:=by
  obtain ⟨r,rfl,_,hw⟩:=h
  obtain ⟨l,h1,h2⟩:=Zj3 hw
  rw [h1,←h2] at hb ⊢
  simp only [abulks,Zev] at hb
  exact ⟨l,rfl,by omega⟩
end Cod
namespace Cod
open Go
theorem Z41:∀ (n:Nat) (xs:List AV),flats xs=true→flats (xs.drop n)=true:=by
  intro n
  induction n with
  | zero=>intro xs h;exact h
  | succ n ih =>
    intro xs h
    cases xs with
    | nil=>rfl
    | cons x xs=>simp only [flats,Yql] at h;exact ih xs h.2
theorem Z42:∀ (n:Nat) (xs:List AV),flats xs=true→flats (xs.take n)=true:=by
  intro n
  induction n with
  | zero=>intro xs h;rfl
  | succ n ih =>
    intro xs h
    cases xs with
    | nil=>rfl
    | cons x xs=>simp only [flats,Yql] at h;simp only [List.take_succ_cons,flats,Yql];exact ⟨h.1,ih xs h.2⟩
mutual
theorem Zq3:∀ (x:AV),K1 x=true→X4 x=[]
  | .junk,h=>by simp [K1] at h
  | .und,_=>rfl
  | .int _ _,_=>rfl
  | .bool _,_=>rfl
  | .str _,_=>rfl
  | .nilp,_=>rfl
  | .nils,_=>rfl
  | .nilf,_=>rfl
  | .nili,_=>rfl
  | .nilm,_=>rfl
  | .any _,_=>rfl
  | .agg _,h=>by simp [K1] at h
  | .tup _,h=>by simp [K1] at h
  | .lst _ _,_=>rfl
  | .fp _ _,_=>rfl
  | .ref ..,h=>by simp [K1] at h
  | .buf ..,h=>by simp [K1] at h
  | .it ..,h=>by simp [K1] at h
  | .itr ..,_=>rfl
  | .mpr ..,h=>by simp [K1] at h
  | .mp ..,_=>rfl
  | .clo g cs,h=>by simp only [K1] at h;simp only [X4,refs_flats cs h]
  | .ifc t x,h=>by simp only [K1] at h;simp only [X4,Zq3 x h]
theorem refs_flats:∀ (xs:List AV),flats xs=true→refsOfs xs=[]
  | [],_=>rfl
  | x::xs,h=>by simp only [flats,Yql] at h;simp only [refsOfs,Zq3 x h.1,refs_flats xs h.2,Ys4]
end
structure Pl (c:List AV) (n:Nat):Prop where
  fl:flats c=true
  len:c.length=n
  refs:refsOfs c=[]
  rens:∀ f,Cod.rens f c=c
theorem Zq4 {c:List AV} {n:Nat} (h:flats c=true) (hl:c.length=n):Pl c n:=⟨h,hl,refs_flats c h,fun f=>rens_flats c h⟩
theorem Zkp {c xs:List AV} {n off:Nat} (h:Pl c n) (hx:flats xs=true) (ho:off+xs.length≤n):Pl (over c off xs) n:=by
  refine Zq4 ?_ (by rw [Zet (by rw [h.len];exact ho),h.len])
  unfold over
  rw [Zay,Zay,Z42 _ _ h.fl,hx,Z41 _ _ h.fl]
  rfl
def Zdd:List UInt8:=[41,42,43,44]
theorem Z0a:A1 Zdd=[.int .u8 41,.int .u8 42,.int .u8 43,.int .u8 44]:=rfl
theorem Ykw {p:List UInt8} {n:Nat} (hn:n=p.length+4) (hp:p.length≤1000000000000):S E F.Y6 [.lst (A1 p) p.length] []=some (.tup [.buf (.r 0) 0 0 p.length 1,.buf (.r 0) 0 0 n 1],[(.r 0,⟨0,true,true,false,A1 (p++Zdd)⟩)]):=by
  have h4:Zdd.length=4:=rfl
  have e:rep [AV.int .u8 0] 0=[]:=rfl
  obtain ⟨q,hq⟩:∃ q:Int,q=(p.length:Int)+4:=⟨_,rfl⟩
  rw [S_of Zsa rfl rfl]
  simp -dsimp (disch:=first|omega|(simp only [A5]<;>omega)|fail) only [L.Y6,go_sem,reduceIte,reduceCtorEq,B2,B3,B4,B5,B6,B7,B8,B9,C0,C1,C2,C3,C4,C5,C6,C7,C8,C9,D0,A4,BYs,←Z0a,h4,e,Nat.sub_zero,←hq,←hn]
theorem Yp2 {p:List UInt8} {n:Nat} (hn:n=p.length+4) (hp:p.length≤1000000000000):S E F.Zao [.lst (A1 p) p.length,.lst (A1 (p++Zdd)) n] []=some (.bool true,[]):=by
  subst hn
  have h4:Zdd.length=4:=rfl
  have a1:=Zvb (a:=p) (b:=p) (n:=p.length) (m:=p.length) rfl rfl
  have a2:=Zvb (a:=Zdd) (b:=Zdd) (n:=4) (m:=4) rfl rfl
  have b1:(p==p)=true:=by simp
  have b2:(Zdd==Zdd)=true:=by decide
  rw [b1] at a1
  rw [b2] at a2
  have e1:sub (p++Zdd) 0 p.length=p:=by unfold sub;rw [Yrp];exact Ys9
  have e2:sub (p++Zdd) p.length 4=Zdd:=by unfold sub;rw [List.drop_left];rfl
  rw [S_of Zsc rfl rfl]
  simp -dsimp (disch:=first|omega|(simp only [A5]<;>omega)|fail) only [L.Zao,go_sem,reduceIte,reduceCtorEq,B2,B3,B4,B5,B6,B7,B8,B9,C0,C1,C2,C3,C4,C5,C6,C7,C8,C9,D0,A4,BYs,←Z0a,h4,e1,e2,a1,a2,Nat.sub_zero,Nat.add_sub_cancel_left]
theorem Z43 {l:List Id32} (hl:l.length≤1048576):S E F.V0 [.lst (ids l) l.length] []=some (.buf (.r 0) 0 0 l.length 32,[(.r 0,⟨0,true,true,false,ids l⟩)]):=by
  rw [S_of Zsb rfl rfl]
  simp -dsimp (disch:=first|omega|(simp only [A5]<;>omega)|fail) only [L.V0,go_sem,reduceIte,reduceCtorEq,B2,B3,B4,B5,B6,B7,B8,B9,C0,C1,C2,C3,C4,C5,C6,C7,C8,C9,D0,A4,BYs]
end Cod
namespace Cod
open Go
def Za4 (b:Bool) (k:Nat) (cv dv:AV) (σc:A6) (cc dc:List AV) (cn:Nat):Prop:=(b=false∧cv=.nils∧dv=.nils ∧ σc=[])∨(b=true∧Pl cc (cn*32)∧Pl dc (cn*32)∧cv=.buf (.s 1000000 k) 0 0 cn 32∧dv=.buf (.s 1000000 (k+1)) 0 0 cn 32 ∧ σc=[(.s 1000000 k,⟨0,true,true,false,cc⟩),(.s 1000000 (k+1),⟨0,true,true,false,dc⟩)])
theorem ml3 {t:List Ety} {p:List UInt8} (ht:t.length≤1000000000) (hp:p.length≤1000000000) {pb:Bool} {tr msg:List UInt8} {au co:Idt} {lc:List AV} {bn:Nat} (htr:tr.length=32) (hl:Pl lc (bn*34)) {dc:List AV} {cn:Nat} (hcn:cn≤1000000) (hbn:bn≤1000000) (hpb:pb=true) (G:(∀ (cc:List AV) (cv dv:AV) (σc:A6) (i:Int),Za4 pb 3 cv dv σc cc dc cn→X EE [.tmp 6] [.c L.A0.r3] ⟨[(0,.lst (I8 t) t.length),(2,.lst (A1 p) p.length),(14,.ref (.s 1000000 0) 0 0),(16,.ref (.s 1000000 1) 0 0),(18,.buf (.s 1000000 2) 0 0 bn 34),(118,.int .i64 i),(119,.int .i64 i),(120,.bool false)],[(.s 1000000 0,⟨0,true,true,true,snR tr cv au co msg⟩),(.s 1000000 1,⟨0,true,true,true,snR tr dv au co msg⟩),(.s 1000000 2,⟨0,true,true,false,lc⟩)] ++ σc⟩=some (.bool true,[]))):∀ (m i:Nat) (cc:List AV),i+m=cn→Pl cc (cn*32)→Pl dc (cn*32) →
    X EE [.tmp 6] (.c L.A0.x3::.lp [0,2,14,16,18,118,119] L.A0.x3::.blk 6::[.c L.A0.r3]) ⟨[(0,.lst (I8 t) t.length),(2,.lst (A1 p) p.length),(14,.ref (.s 1000000 0) 0 0),(16,.ref (.s 1000000 1) 0 0),(18,.buf (.s 1000000 2) 0 0 bn 34),(118,.int .i64 cn),(119,.int .i64 i)],[(.s 1000000 0,⟨0,true,true,true,snR tr (.buf (.s 1000000 3) 0 0 cn 32) au co msg⟩),(.s 1000000 1,⟨0,true,true,true,snR tr (.buf (.s 1000000 4) 0 0 cn 32) au co msg⟩),(.s 1000000 2,⟨0,true,true,false,lc⟩),(.s 1000000 3,⟨0,true,true,false,cc⟩),(.s 1000000 4,⟨0,true,true,false,dc⟩)]⟩=some (.bool true,[]):=by
  have hlr:=hl.refs
  have hle:=hl.rens
  have hll:=hl.len
  intro m
  induction m with
  | zero =>
    intro i cc hi h1 h2
    obtain rfl:i=cn:=by omega
    have g:=G cc _ _ _ (i:Int) (.inr ⟨hpb,h1,h2,rfl,rfl,rfl⟩)
    simp only [Yp9,Yry] at g
    rw [G9 L.A0.x3.eq_1]
    simp -dsimp (disch:=first|omega|(simp only [A5,A2,D5]<;>omega)|fail) only [go_sem,reduceIte,reduceCtorEq,B2,B3,B4,B5,B6,B7,B8,B9,C0,C1,C2,C3,C4,C5,C6,C7,C8,C9,D0,A4,BYs,g]
  | succ m ih =>
    intro i cc hi h1 h2
    have c1:=h1.refs
    have c2:=h1.rens
    have c3:=h1.len
    have d1:=h2.refs
    have d2:=h2.rens
    have d3:=h2.len
    obtain ⟨z,hz⟩:∃ z:List UInt8,z=(List.replicate 32 0).set 0 (UInt8.ofNat 9):=⟨_,rfl⟩
    have hzl:z.length=32:=by rw [hz];rfl
    have h3:=Zkp (off:=i*32) (xs:=A1 z) h1 (O8 z) (by rw [D8,hzl];omega)
    have e1:=h3.refs
    have e2:=h3.rens
    have e3:=h3.len
    have g:=ih (i+1) _ (by omega) h3 h2
    simp only [Ysn,Ysh] at g
    rw [G9 L.A0.x3.eq_1]
    simp -dsimp (disch:=first|omega|(simp only [A5,A2,D5]<;>omega)|fail) only [go_sem,reduceIte,reduceCtorEq,B2,B3,B4,B5,B6,B7,B8,B9,C0,C1,C2,C3,C4,C5,C6,C7,C8,C9,D0,A4,BYs,←hz,hzl,c1,c2,c3,d1,d2,d3,e1,e2,e3,hlr,hle,hll,g]
theorem ml3n {t:List Ety} {p:List UInt8} (ht:t.length≤1000000000) (hp:p.length≤1000000000) {pb:Bool} {tr msg:List UInt8} {au co:Idt} {lc:List AV} {bn:Nat} (htr:tr.length=32) (hl:Pl lc (bn*34)) {dc:List AV} {cn:Nat} (hbn:bn≤1000000) (hpb:pb=false) (G:(∀ (cc:List AV) (cv dv:AV) (σc:A6) (i:Int),Za4 pb 3 cv dv σc cc dc cn→X EE [.tmp 6] [.c L.A0.r3] ⟨[(0,.lst (I8 t) t.length),(2,.lst (A1 p) p.length),(14,.ref (.s 1000000 0) 0 0),(16,.ref (.s 1000000 1) 0 0),(18,.buf (.s 1000000 2) 0 0 bn 34),(118,.int .i64 i),(119,.int .i64 i),(120,.bool false)],[(.s 1000000 0,⟨0,true,true,true,snR tr cv au co msg⟩),(.s 1000000 1,⟨0,true,true,true,snR tr dv au co msg⟩),(.s 1000000 2,⟨0,true,true,false,lc⟩)] ++ σc⟩=some (.bool true,[]))):X EE [.tmp 6] (.c L.A0.x3::.lp [0,2,14,16,18,118,119] L.A0.x3::.blk 6::[.c L.A0.r3]) ⟨[(0,.lst (I8 t) t.length),(2,.lst (A1 p) p.length),(14,.ref (.s 1000000 0) 0 0),(16,.ref (.s 1000000 1) 0 0),(18,.buf (.s 1000000 2) 0 0 bn 34),(118,.int .i64 0),(119,.int .i64 0)],[(.s 1000000 0,⟨0,true,true,true,snR tr .nils au co msg⟩),(.s 1000000 1,⟨0,true,true,true,snR tr .nils au co msg⟩),(.s 1000000 2,⟨0,true,true,false,lc⟩)]⟩=some (.bool true,[]):=by
  have g:=G [] _ _ _ 0 (.inl ⟨hpb,rfl,rfl,rfl⟩)
  simp only [Ys4] at g
  rw [G9 L.A0.x3.eq_1]
  simp -dsimp (disch:=first|omega|(simp only [A5,A2,D5]<;>omega)|fail) only [go_sem,reduceIte,reduceCtorEq,B2,B3,B4,B5,B6,B7,B8,B9,C0,C1,C2,C3,C4,C5,C6,C7,C8,C9,D0,A4,BYs,g]
theorem mr2 {t:List Ety} {p:List UInt8} (ht:t.length≤1000000000) (hp:p.length≤1000000000) {pb:Bool} {tr msg:List UInt8} {au co:Idt} {lc:List AV} {bn:Nat} (htr:tr.length=32) (hl:Pl lc (bn*34)) {cc dc:List AV} {cn:Nat} (hcn:cn≤1000000) (hbn:bn≤1000000) (G:(∀ (cc:List AV) (cv dv:AV) (σc:A6) (i:Int),Za4 pb 3 cv dv σc cc dc cn→X EE [.tmp 6] [.c L.A0.r3] ⟨[(0,.lst (I8 t) t.length),(2,.lst (A1 p) p.length),(14,.ref (.s 1000000 0) 0 0),(16,.ref (.s 1000000 1) 0 0),(18,.buf (.s 1000000 2) 0 0 bn 34),(118,.int .i64 i),(119,.int .i64 i),(120,.bool false)],[(.s 1000000 0,⟨0,true,true,true,snR tr cv au co msg⟩),(.s 1000000 1,⟨0,true,true,true,snR tr dv au co msg⟩),(.s 1000000 2,⟨0,true,true,false,lc⟩)] ++ σc⟩=some (.bool true,[]))) {cv dv:AV} {σc:A6} {bc:List AV} (hb:Pl bc (bn*34)) {i:Int} (hc:Za4 pb 4 cv dv σc cc dc cn):X EE [.tmp 6] [.c L.A0.r2] ⟨[(0,.lst (I8 t) t.length),(2,.lst (A1 p) p.length),(12,.buf (.s 1000000 0) 0 0 bn 34),(14,.ref (.s 1000000 1) 0 0),(16,.ref (.s 1000000 2) 0 0),(18,.buf (.s 1000000 3) 0 0 bn 34),(107,.int .i64 i),(108,.int .i64 i),(109,.bool false)],[(.s 1000000 0,⟨0,true,true,false,bc⟩),(.s 1000000 1,⟨0,true,true,true,snR tr cv au co msg⟩),(.s 1000000 2,⟨0,true,true,true,snR tr dv au co msg⟩),(.s 1000000 3,⟨0,true,true,false,lc⟩)] ++ σc⟩=some (.bool true,[]):=by
  have hlr:=hl.refs
  have hle:=hl.rens
  have hll:=hl.len
  have hbr:=hb.refs
  have hbe:=hb.rens
  have hbl:=hb.len
  rcases hc with ⟨rfl,rfl,rfl,rfl⟩|⟨rfl,h1,h2,rfl,rfl,rfl⟩
  · have g:=ml3n ht hp htr hl (au:=au) (co:=co) (msg:=msg) (dc:=dc) (cn:=cn) hbn rfl G
    simp only [Ys4]
    simp -dsimp (disch:=first|omega|(simp only [A5,A2,D5]<;>omega)|fail) only [L.A0.r2,go_sem,reduceIte,reduceCtorEq,B2,B3,B4,B5,B6,B7,B8,B9,C0,C1,C2,C3,C4,C5,C6,C7,C8,C9,D0,A4,BYs,hlr,hle,hll,hbr,hbe,hbl,g]
  · have c1:=h1.refs
    have c2:=h1.rens
    have c3:=h1.len
    have d1:=h2.refs
    have d2:=h2.rens
    have d3:=h2.len
    have g:=ml3 ht hp htr hl (au:=au) (co:=co) (msg:=msg) hcn hbn rfl G cn 0 cc (by omega) h1 h2
    simp only [Yp9,Yry,Ysh] at g ⊢
    simp -dsimp (disch:=first|omega|(simp only [A5,A2,D5]<;>omega)|fail) only [L.A0.r2,go_sem,reduceIte,reduceCtorEq,B2,B3,B4,B5,B6,B7,B8,B9,C0,C1,C2,C3,C4,C5,C6,C7,C8,C9,D0,A4,BYs,hlr,hle,hll,hbr,hbe,hbl,c1,c2,c3,d1,d2,d3,g]
theorem ml2 {t:List Ety} {p:List UInt8} (ht:t.length≤1000000000) (hp:p.length≤1000000000) {pb:Bool} {tr msg:List UInt8} {au co:Idt} {lc:List AV} {bn:Nat} (htr:tr.length=32) (hl:Pl lc (bn*34)) {cc dc:List AV} {cn:Nat} (hcn:cn≤1000000) (hbn:bn≤1000000) (G:(∀ (cc:List AV) (cv dv:AV) (σc:A6) (i:Int),Za4 pb 3 cv dv σc cc dc cn→X EE [.tmp 6] [.c L.A0.r3] ⟨[(0,.lst (I8 t) t.length),(2,.lst (A1 p) p.length),(14,.ref (.s 1000000 0) 0 0),(16,.ref (.s 1000000 1) 0 0),(18,.buf (.s 1000000 2) 0 0 bn 34),(118,.int .i64 i),(119,.int .i64 i),(120,.bool false)],[(.s 1000000 0,⟨0,true,true,true,snR tr cv au co msg⟩),(.s 1000000 1,⟨0,true,true,true,snR tr dv au co msg⟩),(.s 1000000 2,⟨0,true,true,false,lc⟩)] ++ σc⟩=some (.bool true,[]))) {cv dv:AV} {σc:A6} (hc:Za4 pb 4 cv dv σc cc dc cn):∀ (m i:Nat) (bc:List AV),i+m=bn→Pl bc (bn*34) →
    X EE [.tmp 6] (.c L.A0.x2::.lp [0,2,12,14,16,18,107,108] L.A0.x2::.blk 4::[.c L.A0.r2]) ⟨[(0,.lst (I8 t) t.length),(2,.lst (A1 p) p.length),(12,.buf (.s 1000000 0) 0 0 bn 34),(14,.ref (.s 1000000 1) 0 0),(16,.ref (.s 1000000 2) 0 0),(18,.buf (.s 1000000 3) 0 0 bn 34),(107,.int .i64 bn),(108,.int .i64 i)],[(.s 1000000 0,⟨0,true,true,false,bc⟩),(.s 1000000 1,⟨0,true,true,true,snR tr cv au co msg⟩),(.s 1000000 2,⟨0,true,true,true,snR tr dv au co msg⟩),(.s 1000000 3,⟨0,true,true,false,lc⟩)] ++ σc⟩=some (.bool true,[]):=by
  have hlr:=hl.refs
  have hle:=hl.rens
  have hll:=hl.len
  intro m
  induction m with
  | zero =>
    intro i bc hi hb
    obtain rfl:i=bn:=by omega
    have g:=mr2 ht hp htr hl (au:=au) (co:=co) (msg:=msg) hcn hbn G hb (i:=(i:Int)) hc
    rw [G9 L.A0.x2.eq_1]
    rcases hc with ⟨rfl,rfl,rfl,rfl⟩|⟨rfl,h1,h2,rfl,rfl,rfl⟩
    · simp only [Ys4] at g ⊢
      simp -dsimp (disch:=first|omega|(simp only [A5,A2,D5]<;>omega)|fail) only [go_sem,reduceIte,reduceCtorEq,B2,B3,B4,B5,B6,B7,B8,B9,C0,C1,C2,C3,C4,C5,C6,C7,C8,C9,D0,A4,BYs,g]
    · simp only [Yp9,Yry] at g ⊢
      simp -dsimp (disch:=first|omega|(simp only [A5,A2,D5]<;>omega)|fail) only [go_sem,reduceIte,reduceCtorEq,B2,B3,B4,B5,B6,B7,B8,B9,C0,C1,C2,C3,C4,C5,C6,C7,C8,C9,D0,A4,BYs,g]
  | succ m ih =>
    intro i bc hi hb
    have hbr:=hb.refs
    have hbe:=hb.rens
    have hbl:=hb.len
    have h3:=Zkp (off:=i*34+1) (xs:=[.str [111,116,104,101,114]]) hb (by decide) (by simp only [Yqm,Yrj];omega)
    have e1:=h3.refs
    have e2:=h3.rens
    have e3:=h3.len
    have g:=ih (i+1) _ (by omega) h3
    simp only [Ysn,Ysh] at g
    rw [G9 L.A0.x2.eq_1]
    rcases hc with ⟨rfl,rfl,rfl,rfl⟩|⟨rfl,h1,h2,rfl,rfl,rfl⟩
    · simp only [Ys4] at g ⊢
      simp -dsimp (disch:=first|omega|(simp only [A5,A2,D5]<;>omega)|fail) only [go_sem,reduceIte,reduceCtorEq,B2,B3,B4,B5,B6,B7,B8,B9,C0,C1,C2,C3,C4,C5,C6,C7,C8,C9,D0,A4,BYs,hlr,hle,hll,hbr,hbe,hbl,e1,e2,e3,g]
    · have c1:=h1.refs
      have c2:=h1.rens
      have c3:=h1.len
      have d1:=h2.refs
      have d2:=h2.rens
      have d3:=h2.len
      simp only [Yp9,Yry] at g ⊢
      simp -dsimp (disch:=first|omega|(simp only [A5,A2,D5]<;>omega)|fail) only [go_sem,reduceIte,reduceCtorEq,B2,B3,B4,B5,B6,B7,B8,B9,C0,C1,C2,C3,C4,C5,C6,C7,C8,C9,D0,A4,BYs,hlr,hle,hll,hbr,hbe,hbl,e1,e2,e3,c1,c2,c3,d1,d2,d3,g]
end Cod
namespace Cod
open Go
theorem mr1 {t:List Ety} {p:List UInt8} (ht:t.length≤1000000000) (hp:p.length≤1000000000) {pb:Bool} {tr msg:List UInt8} {au co:Idt} {lc:List AV} {bn:Nat} (htr:tr.length=32) (hl:Pl lc (bn*34)) {cc dc:List AV} {cn:Nat} (hcn:cn≤1000000) (hbn:bn≤1000000) (G:(∀ (cc:List AV) (cv dv:AV) (σc:A6) (i:Int),Za4 pb 3 cv dv σc cc dc cn→X EE [.tmp 6] [.c L.A0.r3] ⟨[(0,.lst (I8 t) t.length),(2,.lst (A1 p) p.length),(14,.ref (.s 1000000 0) 0 0),(16,.ref (.s 1000000 1) 0 0),(18,.buf (.s 1000000 2) 0 0 bn 34),(118,.int .i64 i),(119,.int .i64 i),(120,.bool false)],[(.s 1000000 0,⟨0,true,true,true,snR tr cv au co msg⟩),(.s 1000000 1,⟨0,true,true,true,snR tr dv au co msg⟩),(.s 1000000 2,⟨0,true,true,false,lc⟩)] ++ σc⟩=some (.bool true,[]))) {cv dv:AV} {σc:A6} {bc:List AV} (hb:Pl bc (bn*34)) {ac:List AV} {an:Nat} (ha:Pl ac an) {i:Int} (hc:Za4 pb 5 cv dv σc cc dc cn):X EE [.tmp 6] [.c L.A0.r1] ⟨[(0,.lst (I8 t) t.length),(2,.lst (A1 p) p.length),(10,.buf (.s 1000000 0) 0 0 an 1),(12,.buf (.s 1000000 1) 0 0 bn 34),(14,.ref (.s 1000000 2) 0 0),(16,.ref (.s 1000000 3) 0 0),(18,.buf (.s 1000000 4) 0 0 bn 34),(98,.int .i64 i),(99,.int .i64 i),(100,.bool false)],[(.s 1000000 0,⟨0,true,true,false,ac⟩),(.s 1000000 1,⟨0,true,true,false,bc⟩),(.s 1000000 2,⟨0,true,true,true,snR tr cv au co msg⟩),(.s 1000000 3,⟨0,true,true,true,snR tr dv au co msg⟩),(.s 1000000 4,⟨0,true,true,false,lc⟩)] ++ σc⟩=some (.bool true,[]):=by
  have hlr:=hl.refs
  have hle:=hl.rens
  have hll:=hl.len
  have hbr:=hb.refs
  have hbe:=hb.rens
  have hbl:=hb.len
  rcases hc with ⟨rfl,rfl,rfl,rfl⟩|⟨rfl,h1,h2,rfl,rfl,rfl⟩
  · have g:=ml2 ht hp htr hl (au:=au) (co:=co) (msg:=msg) hcn hbn G (.inl ⟨rfl,rfl,rfl,rfl⟩:Za4 false 4 _ _ _ cc dc cn) bn 0 bc (by omega) hb
    simp only [Ys4,Ysh] at g ⊢
    simp -dsimp (disch:=first|omega|(simp only [A5,A2,D5]<;>omega)|fail) only [L.A0.r1,go_sem,reduceIte,reduceCtorEq,B2,B3,B4,B5,B6,B7,B8,B9,C0,C1,C2,C3,C4,C5,C6,C7,C8,C9,D0,A4,BYs,hlr,hle,hll,hbr,hbe,hbl,g]
  · have c1:=h1.refs
    have c2:=h1.rens
    have d1:=h2.refs
    have d2:=h2.rens
    have g:=ml2 ht hp htr hl (au:=au) (co:=co) (msg:=msg) hcn hbn G (.inr ⟨rfl,h1,h2,rfl,rfl,rfl⟩:Za4 true 4 _ _ _ cc dc cn) bn 0 bc (by omega) hb
    simp only [Yp9,Yry,Ysh] at g ⊢
    simp -dsimp (disch:=first|omega|(simp only [A5,A2,D5]<;>omega)|fail) only [L.A0.r1,go_sem,reduceIte,reduceCtorEq,B2,B3,B4,B5,B6,B7,B8,B9,C0,C1,C2,C3,C4,C5,C6,C7,C8,C9,D0,A4,BYs,hlr,hle,hll,hbr,hbe,hbl,c1,c2,d1,d2,g]
theorem mr1n {t:List Ety} {p:List UInt8} (ht:t.length≤1000000000) (hp:p.length≤1000000000) {pb:Bool} {tr msg:List UInt8} {au co:Idt} {lc:List AV} {bn:Nat} (htr:tr.length=32) (hl:Pl lc (bn*34)) {cc dc:List AV} {cn:Nat} (hcn:cn≤1000000) (hbn:bn≤1000000) (G:(∀ (cc:List AV) (cv dv:AV) (σc:A6) (i:Int),Za4 pb 3 cv dv σc cc dc cn→X EE [.tmp 6] [.c L.A0.r3] ⟨[(0,.lst (I8 t) t.length),(2,.lst (A1 p) p.length),(14,.ref (.s 1000000 0) 0 0),(16,.ref (.s 1000000 1) 0 0),(18,.buf (.s 1000000 2) 0 0 bn 34),(118,.int .i64 i),(119,.int .i64 i),(120,.bool false)],[(.s 1000000 0,⟨0,true,true,true,snR tr cv au co msg⟩),(.s 1000000 1,⟨0,true,true,true,snR tr dv au co msg⟩),(.s 1000000 2,⟨0,true,true,false,lc⟩)] ++ σc⟩=some (.bool true,[]))) {cv dv:AV} {σc:A6} {bc:List AV} (hb:Pl bc (bn*34)) (hc:Za4 pb 4 cv dv σc cc dc cn):X EE [.tmp 6] [.c L.A0.r1] ⟨[(0,.lst (I8 t) t.length),(2,.lst (A1 p) p.length),(10,.nils),(12,.buf (.s 1000000 0) 0 0 bn 34),(14,.ref (.s 1000000 1) 0 0),(16,.ref (.s 1000000 2) 0 0),(18,.buf (.s 1000000 3) 0 0 bn 34),(98,.int .i64 0),(99,.int .i64 0),(100,.bool false)],[(.s 1000000 0,⟨0,true,true,false,bc⟩),(.s 1000000 1,⟨0,true,true,true,snR tr cv au co msg⟩),(.s 1000000 2,⟨0,true,true,true,snR tr dv au co msg⟩),(.s 1000000 3,⟨0,true,true,false,lc⟩)] ++ σc⟩=some (.bool true,[]):=by
  have hlr:=hl.refs
  have hle:=hl.rens
  have hll:=hl.len
  have hbr:=hb.refs
  have hbe:=hb.rens
  have hbl:=hb.len
  have g:=ml2 ht hp htr hl (au:=au) (co:=co) (msg:=msg) hcn hbn G hc bn 0 bc (by omega) hb
  rcases hc with ⟨rfl,rfl,rfl,rfl⟩|⟨rfl,h1,h2,rfl,rfl,rfl⟩
  · simp only [Ys4,Ysh] at g ⊢
    simp -dsimp (disch:=first|omega|(simp only [A5,A2,D5]<;>omega)|fail) only [L.A0.r1,go_sem,reduceIte,reduceCtorEq,B2,B3,B4,B5,B6,B7,B8,B9,C0,C1,C2,C3,C4,C5,C6,C7,C8,C9,D0,A4,BYs,hlr,hle,hll,hbr,hbe,hbl,g]
  · have c1:=h1.refs
    have c2:=h1.rens
    have d1:=h2.refs
    have d2:=h2.rens
    simp only [Yp9,Yry,Ysh] at g ⊢
    simp -dsimp (disch:=first|omega|(simp only [A5,A2,D5]<;>omega)|fail) only [L.A0.r1,go_sem,reduceIte,reduceCtorEq,B2,B3,B4,B5,B6,B7,B8,B9,C0,C1,C2,C3,C4,C5,C6,C7,C8,C9,D0,A4,BYs,hlr,hle,hll,hbr,hbe,hbl,c1,c2,d1,d2,g]
theorem ml1 {t:List Ety} {p:List UInt8} (ht:t.length≤1000000000) (hp:p.length≤1000000000) {pb:Bool} {tr msg:List UInt8} {au co:Idt} {lc:List AV} {bn:Nat} (htr:tr.length=32) (hl:Pl lc (bn*34)) {cc dc:List AV} {cn:Nat} (hcn:cn≤1000000) (hbn:bn≤1000000) (G:(∀ (cc:List AV) (cv dv:AV) (σc:A6) (i:Int),Za4 pb 3 cv dv σc cc dc cn→X EE [.tmp 6] [.c L.A0.r3] ⟨[(0,.lst (I8 t) t.length),(2,.lst (A1 p) p.length),(14,.ref (.s 1000000 0) 0 0),(16,.ref (.s 1000000 1) 0 0),(18,.buf (.s 1000000 2) 0 0 bn 34),(118,.int .i64 i),(119,.int .i64 i),(120,.bool false)],[(.s 1000000 0,⟨0,true,true,true,snR tr cv au co msg⟩),(.s 1000000 1,⟨0,true,true,true,snR tr dv au co msg⟩),(.s 1000000 2,⟨0,true,true,false,lc⟩)] ++ σc⟩=some (.bool true,[]))) {cv dv:AV} {σc:A6} {bc:List AV} (hb:Pl bc (bn*34)) (hc:Za4 pb 5 cv dv σc cc dc cn) {an:Nat} (han:an≤1000000000):∀ (m i:Nat) (ac:List AV),i+m=an→Pl ac an →
    X EE [.tmp 6] (.c L.A0.x1::.lp [0,2,10,12,14,16,18,98,99] L.A0.x1::.blk 2::[.c L.A0.r1]) ⟨[(0,.lst (I8 t) t.length),(2,.lst (A1 p) p.length),(10,.buf (.s 1000000 0) 0 0 an 1),(12,.buf (.s 1000000 1) 0 0 bn 34),(14,.ref (.s 1000000 2) 0 0),(16,.ref (.s 1000000 3) 0 0),(18,.buf (.s 1000000 4) 0 0 bn 34),(98,.int .i64 an),(99,.int .i64 i)],[(.s 1000000 0,⟨0,true,true,false,ac⟩),(.s 1000000 1,⟨0,true,true,false,bc⟩),(.s 1000000 2,⟨0,true,true,true,snR tr cv au co msg⟩),(.s 1000000 3,⟨0,true,true,true,snR tr dv au co msg⟩),(.s 1000000 4,⟨0,true,true,false,lc⟩)] ++ σc⟩=some (.bool true,[]):=by
  have hlr:=hl.refs
  have hle:=hl.rens
  have hll:=hl.len
  have hbr:=hb.refs
  have hbe:=hb.rens
  have hbl:=hb.len
  intro m
  induction m with
  | zero =>
    intro i ac hi ha
    obtain rfl:i=an:=by omega
    have g:=mr1 ht hp htr hl (au:=au) (co:=co) (msg:=msg) hcn hbn G hb ha (i:=(i:Int)) hc
    rw [G9 L.A0.x1.eq_1]
    rcases hc with ⟨rfl,rfl,rfl,rfl⟩|⟨rfl,h1,h2,rfl,rfl,rfl⟩
    · simp only [Ys4] at g ⊢
      simp -dsimp (disch:=first|omega|(simp only [A5,A2,D5]<;>omega)|fail) only [go_sem,reduceIte,reduceCtorEq,B2,B3,B4,B5,B6,B7,B8,B9,C0,C1,C2,C3,C4,C5,C6,C7,C8,C9,D0,A4,BYs,g]
    · simp only [Yp9,Yry] at g ⊢
      simp -dsimp (disch:=first|omega|(simp only [A5,A2,D5]<;>omega)|fail) only [go_sem,reduceIte,reduceCtorEq,B2,B3,B4,B5,B6,B7,B8,B9,C0,C1,C2,C3,C4,C5,C6,C7,C8,C9,D0,A4,BYs,g]
  | succ m ih =>
    intro i ac hi ha
    have har:=ha.refs
    have hae:=ha.rens
    have hal:=ha.len
    have h3:=Zkp (off:=i) (xs:=[.int .u8 238]) ha (by decide) (by simp only [Yqm,Yrj];omega)
    have e1:=h3.refs
    have e2:=h3.rens
    have e3:=h3.len
    have g:=ih (i+1) _ (by omega) h3
    simp only [Ysn,Ysh] at g
    rw [G9 L.A0.x1.eq_1]
    rcases hc with ⟨rfl,rfl,rfl,rfl⟩|⟨rfl,h1,h2,rfl,rfl,rfl⟩
    · simp only [Ys4] at g ⊢
      simp -dsimp (disch:=first|omega|(simp only [A5,A2,D5]<;>omega)|fail) only [go_sem,reduceIte,reduceCtorEq,B2,B3,B4,B5,B6,B7,B8,B9,C0,C1,C2,C3,C4,C5,C6,C7,C8,C9,D0,A4,BYs,hlr,hle,hll,hbr,hbe,hbl,har,hae,hal,e1,e2,e3,g]
    · have c1:=h1.refs
      have c2:=h1.rens
      have d1:=h2.refs
      have d2:=h2.rens
      simp only [Yp9,Yry] at g ⊢
      simp -dsimp (disch:=first|omega|(simp only [A5,A2,D5]<;>omega)|fail) only [go_sem,reduceIte,reduceCtorEq,B2,B3,B4,B5,B6,B7,B8,B9,C0,C1,C2,C3,C4,C5,C6,C7,C8,C9,D0,A4,BYs,hlr,hle,hll,hbr,hbe,hbl,har,hae,hal,e1,e2,e3,c1,c2,d1,d2,g]
theorem ml1n {t:List Ety} {p:List UInt8} (ht:t.length≤1000000000) (hp:p.length≤1000000000) {pb:Bool} {tr msg:List UInt8} {au co:Idt} {lc:List AV} {bn:Nat} (htr:tr.length=32) (hl:Pl lc (bn*34)) {cc dc:List AV} {cn:Nat} (hcn:cn≤1000000) (hbn:bn≤1000000) (G:(∀ (cc:List AV) (cv dv:AV) (σc:A6) (i:Int),Za4 pb 3 cv dv σc cc dc cn→X EE [.tmp 6] [.c L.A0.r3] ⟨[(0,.lst (I8 t) t.length),(2,.lst (A1 p) p.length),(14,.ref (.s 1000000 0) 0 0),(16,.ref (.s 1000000 1) 0 0),(18,.buf (.s 1000000 2) 0 0 bn 34),(118,.int .i64 i),(119,.int .i64 i),(120,.bool false)],[(.s 1000000 0,⟨0,true,true,true,snR tr cv au co msg⟩),(.s 1000000 1,⟨0,true,true,true,snR tr dv au co msg⟩),(.s 1000000 2,⟨0,true,true,false,lc⟩)] ++ σc⟩=some (.bool true,[]))) {cv dv:AV} {σc:A6} {bc:List AV} (hb:Pl bc (bn*34)) (hc:Za4 pb 4 cv dv σc cc dc cn) :
    X EE [.tmp 6] (.c L.A0.x1::.lp [0,2,10,12,14,16,18,98,99] L.A0.x1::.blk 2::[.c L.A0.r1]) ⟨[(0,.lst (I8 t) t.length),(2,.lst (A1 p) p.length),(10,.nils),(12,.buf (.s 1000000 0) 0 0 bn 34),(14,.ref (.s 1000000 1) 0 0),(16,.ref (.s 1000000 2) 0 0),(18,.buf (.s 1000000 3) 0 0 bn 34),(98,.int .i64 0),(99,.int .i64 0)],[(.s 1000000 0,⟨0,true,true,false,bc⟩),(.s 1000000 1,⟨0,true,true,true,snR tr cv au co msg⟩),(.s 1000000 2,⟨0,true,true,true,snR tr dv au co msg⟩),(.s 1000000 3,⟨0,true,true,false,lc⟩)] ++ σc⟩=some (.bool true,[]):=by
  have g:=mr1n ht hp htr hl (au:=au) (co:=co) (msg:=msg) hcn hbn G hb hc
  rw [G9 L.A0.x1.eq_1]
  rcases hc with ⟨rfl,rfl,rfl,rfl⟩|⟨rfl,h1,h2,rfl,rfl,rfl⟩
  · simp only [Ys4] at g ⊢
    simp -dsimp (disch:=first|omega|(simp only [A5,A2,D5]<;>omega)|fail) only [go_sem,reduceIte,reduceCtorEq,B2,B3,B4,B5,B6,B7,B8,B9,C0,C1,C2,C3,C4,C5,C6,C7,C8,C9,D0,A4,BYs,g]
  · simp only [Yp9,Yry] at g ⊢
    simp -dsimp (disch:=first|omega|(simp only [A5,A2,D5]<;>omega)|fail) only [go_sem,reduceIte,reduceCtorEq,B2,B3,B4,B5,B6,B7,B8,B9,C0,C1,C2,C3,C4,C5,C6,C7,C8,C9,D0,A4,BYs,g]
theorem mr0 {t:List Ety} {p:List UInt8} (ht:t.length≤1000000000) (hp:p.length≤1000000000) {pb:Bool} {tr msg:List UInt8} {au co:Idt} {lc:List AV} {bn:Nat} (htr:tr.length=32) (hl:Pl lc (bn*34)) {cc dc:List AV} {cn:Nat} (hcn:cn≤1000000) (hbn:bn≤1000000) (G:(∀ (cc:List AV) (cv dv:AV) (σc:A6) (i:Int),Za4 pb 3 cv dv σc cc dc cn→X EE [.tmp 6] [.c L.A0.r3] ⟨[(0,.lst (I8 t) t.length),(2,.lst (A1 p) p.length),(14,.ref (.s 1000000 0) 0 0),(16,.ref (.s 1000000 1) 0 0),(18,.buf (.s 1000000 2) 0 0 bn 34),(118,.int .i64 i),(119,.int .i64 i),(120,.bool false)],[(.s 1000000 0,⟨0,true,true,true,snR tr cv au co msg⟩),(.s 1000000 1,⟨0,true,true,true,snR tr dv au co msg⟩),(.s 1000000 2,⟨0,true,true,false,lc⟩)] ++ σc⟩=some (.bool true,[]))) {cv dv:AV} {σc:A6} {bc:List AV} (hb:Pl bc (bn*34)) {fc ac:List AV} {fn an:Nat} (hf:Pl fc fn) (ha:Pl ac an) (han:an≤1000000000) {i:Int} (hc:Za4 pb 6 cv dv σc cc dc cn):X EE [.tmp 6] [.c L.A0.r0] ⟨[(0,.lst (I8 t) t.length),(2,.lst (A1 p) p.length),(8,.buf (.s 1000000 0) 0 0 fn 1),(10,.buf (.s 1000000 1) 0 0 an 1),(12,.buf (.s 1000000 2) 0 0 bn 34),(14,.ref (.s 1000000 3) 0 0),(16,.ref (.s 1000000 4) 0 0),(18,.buf (.s 1000000 5) 0 0 bn 34),(89,.int .i64 i),(90,.int .i64 i),(91,.bool false)],[(.s 1000000 0,⟨0,true,true,false,fc⟩),(.s 1000000 1,⟨0,true,true,false,ac⟩),(.s 1000000 2,⟨0,true,true,false,bc⟩),(.s 1000000 3,⟨0,true,true,true,snR tr cv au co msg⟩),(.s 1000000 4,⟨0,true,true,true,snR tr dv au co msg⟩),(.s 1000000 5,⟨0,true,true,false,lc⟩)] ++ σc⟩=some (.bool true,[]):=by
  have hlr:=hl.refs
  have hle:=hl.rens
  have hll:=hl.len
  have hbr:=hb.refs
  have hbe:=hb.rens
  have hbl:=hb.len
  have har:=ha.refs
  have hae:=ha.rens
  have hal:=ha.len
  rcases hc with ⟨rfl,rfl,rfl,rfl⟩|⟨rfl,h1,h2,rfl,rfl,rfl⟩
  · have g:=ml1 ht hp htr hl (au:=au) (co:=co) (msg:=msg) hcn hbn G hb (.inl ⟨rfl,rfl,rfl,rfl⟩:Za4 false 5 _ _ _ cc dc cn) han an 0 ac (by omega) ha
    simp only [Ys4,Ysh] at g ⊢
    simp -dsimp (disch:=first|omega|(simp only [A5,A2,D5]<;>omega)|fail) only [L.A0.r0,go_sem,reduceIte,reduceCtorEq,B2,B3,B4,B5,B6,B7,B8,B9,C0,C1,C2,C3,C4,C5,C6,C7,C8,C9,D0,A4,BYs,hlr,hle,hll,hbr,hbe,hbl,har,hae,hal,g]
  · have c1:=h1.refs
    have c2:=h1.rens
    have d1:=h2.refs
    have d2:=h2.rens
    have g:=ml1 ht hp htr hl (au:=au) (co:=co) (msg:=msg) hcn hbn G hb (.inr ⟨rfl,h1,h2,rfl,rfl,rfl⟩:Za4 true 5 _ _ _ cc dc cn) han an 0 ac (by omega) ha
    simp only [Yp9,Yry,Ysh] at g ⊢
    simp -dsimp (disch:=first|omega|(simp only [A5,A2,D5]<;>omega)|fail) only [L.A0.r0,go_sem,reduceIte,reduceCtorEq,B2,B3,B4,B5,B6,B7,B8,B9,C0,C1,C2,C3,C4,C5,C6,C7,C8,C9,D0,A4,BYs,hlr,hle,hll,hbr,hbe,hbl,har,hae,hal,c1,c2,d1,d2,g]
theorem mr0n {t:List Ety} {p:List UInt8} (ht:t.length≤1000000000) (hp:p.length≤1000000000) {pb:Bool} {tr msg:List UInt8} {au co:Idt} {lc:List AV} {bn:Nat} (htr:tr.length=32) (hl:Pl lc (bn*34)) {cc dc:List AV} {cn:Nat} (hcn:cn≤1000000) (hbn:bn≤1000000) (G:(∀ (cc:List AV) (cv dv:AV) (σc:A6) (i:Int),Za4 pb 3 cv dv σc cc dc cn→X EE [.tmp 6] [.c L.A0.r3] ⟨[(0,.lst (I8 t) t.length),(2,.lst (A1 p) p.length),(14,.ref (.s 1000000 0) 0 0),(16,.ref (.s 1000000 1) 0 0),(18,.buf (.s 1000000 2) 0 0 bn 34),(118,.int .i64 i),(119,.int .i64 i),(120,.bool false)],[(.s 1000000 0,⟨0,true,true,true,snR tr cv au co msg⟩),(.s 1000000 1,⟨0,true,true,true,snR tr dv au co msg⟩),(.s 1000000 2,⟨0,true,true,false,lc⟩)] ++ σc⟩=some (.bool true,[]))) {cv dv:AV} {σc:A6} {bc:List AV} (hb:Pl bc (bn*34)) {fc:List AV} {fn:Nat} (hf:Pl fc fn) {i:Int} (hc:Za4 pb 5 cv dv σc cc dc cn):X EE [.tmp 6] [.c L.A0.r0] ⟨[(0,.lst (I8 t) t.length),(2,.lst (A1 p) p.length),(8,.buf (.s 1000000 0) 0 0 fn 1),(10,.nils),(12,.buf (.s 1000000 1) 0 0 bn 34),(14,.ref (.s 1000000 2) 0 0),(16,.ref (.s 1000000 3) 0 0),(18,.buf (.s 1000000 4) 0 0 bn 34),(89,.int .i64 i),(90,.int .i64 i),(91,.bool false)],[(.s 1000000 0,⟨0,true,true,false,fc⟩),(.s 1000000 1,⟨0,true,true,false,bc⟩),(.s 1000000 2,⟨0,true,true,true,snR tr cv au co msg⟩),(.s 1000000 3,⟨0,true,true,true,snR tr dv au co msg⟩),(.s 1000000 4,⟨0,true,true,false,lc⟩)] ++ σc⟩=some (.bool true,[]):=by
  have hlr:=hl.refs
  have hle:=hl.rens
  have hll:=hl.len
  have hbr:=hb.refs
  have hbe:=hb.rens
  have hbl:=hb.len
  rcases hc with ⟨rfl,rfl,rfl,rfl⟩|⟨rfl,h1,h2,rfl,rfl,rfl⟩
  · have g:=ml1n ht hp htr hl (au:=au) (co:=co) (msg:=msg) hcn hbn G hb (.inl ⟨rfl,rfl,rfl,rfl⟩:Za4 false 4 _ _ _ cc dc cn)
    simp only [Ys4,Ysh] at g ⊢
    simp -dsimp (disch:=first|omega|(simp only [A5,A2,D5]<;>omega)|fail) only [L.A0.r0,go_sem,reduceIte,reduceCtorEq,B2,B3,B4,B5,B6,B7,B8,B9,C0,C1,C2,C3,C4,C5,C6,C7,C8,C9,D0,A4,BYs,hlr,hle,hll,hbr,hbe,hbl,g]
  · have c1:=h1.refs
    have c2:=h1.rens
    have d1:=h2.refs
    have d2:=h2.rens
    have g:=ml1n ht hp htr hl (au:=au) (co:=co) (msg:=msg) hcn hbn G hb (.inr ⟨rfl,h1,h2,rfl,rfl,rfl⟩:Za4 true 4 _ _ _ cc dc cn)
    simp only [Yp9,Yry,Ysh] at g ⊢
    simp -dsimp (disch:=first|omega|(simp only [A5,A2,D5]<;>omega)|fail) only [L.A0.r0,go_sem,reduceIte,reduceCtorEq,B2,B3,B4,B5,B6,B7,B8,B9,C0,C1,C2,C3,C4,C5,C6,C7,C8,C9,D0,A4,BYs,hlr,hle,hll,hbr,hbe,hbl,c1,c2,d1,d2,g]
theorem ml0 {t:List Ety} {p:List UInt8} (ht:t.length≤1000000000) (hp:p.length≤1000000000) {pb:Bool} {tr msg:List UInt8} {au co:Idt} {lc:List AV} {bn:Nat} (htr:tr.length=32) (hl:Pl lc (bn*34)) {cc dc:List AV} {cn:Nat} (hcn:cn≤1000000) (hbn:bn≤1000000) (G:(∀ (cc:List AV) (cv dv:AV) (σc:A6) (i:Int),Za4 pb 3 cv dv σc cc dc cn→X EE [.tmp 6] [.c L.A0.r3] ⟨[(0,.lst (I8 t) t.length),(2,.lst (A1 p) p.length),(14,.ref (.s 1000000 0) 0 0),(16,.ref (.s 1000000 1) 0 0),(18,.buf (.s 1000000 2) 0 0 bn 34),(118,.int .i64 i),(119,.int .i64 i),(120,.bool false)],[(.s 1000000 0,⟨0,true,true,true,snR tr cv au co msg⟩),(.s 1000000 1,⟨0,true,true,true,snR tr dv au co msg⟩),(.s 1000000 2,⟨0,true,true,false,lc⟩)] ++ σc⟩=some (.bool true,[]))) {cv dv:AV} {σc:A6} {bc:List AV} (hb:Pl bc (bn*34)) {ac:List AV} {an fn:Nat} (ha:Pl ac an) (han:an≤1000000000) (hfn:fn≤1000000000) (hc:Za4 pb 6 cv dv σc cc dc cn):∀ (m i:Nat) (fc:List AV),i+m=fn→Pl fc fn →
    X EE [.tmp 6] (.c L.A0.x0::.lp [0,2,8,10,12,14,16,18,89,90] L.A0.x0::.blk 0::[.c L.A0.r0]) ⟨[(0,.lst (I8 t) t.length),(2,.lst (A1 p) p.length),(8,.buf (.s 1000000 0) 0 0 fn 1),(10,.buf (.s 1000000 1) 0 0 an 1),(12,.buf (.s 1000000 2) 0 0 bn 34),(14,.ref (.s 1000000 3) 0 0),(16,.ref (.s 1000000 4) 0 0),(18,.buf (.s 1000000 5) 0 0 bn 34),(89,.int .i64 fn),(90,.int .i64 i)],[(.s 1000000 0,⟨0,true,true,false,fc⟩),(.s 1000000 1,⟨0,true,true,false,ac⟩),(.s 1000000 2,⟨0,true,true,false,bc⟩),(.s 1000000 3,⟨0,true,true,true,snR tr cv au co msg⟩),(.s 1000000 4,⟨0,true,true,true,snR tr dv au co msg⟩),(.s 1000000 5,⟨0,true,true,false,lc⟩)] ++ σc⟩=some (.bool true,[]):=by
  have hlr:=hl.refs
  have hle:=hl.rens
  have hll:=hl.len
  have hbr:=hb.refs
  have hbe:=hb.rens
  have hbl:=hb.len
  have har:=ha.refs
  have hae:=ha.rens
  have hal:=ha.len
  intro m
  induction m with
  | zero =>
    intro i fc hi hf
    obtain rfl:i=fn:=by omega
    have g:=mr0 ht hp htr hl (au:=au) (co:=co) (msg:=msg) hcn hbn G hb hf ha han (i:=(i:Int)) hc
    rw [G9 L.A0.x0.eq_1]
    rcases hc with ⟨rfl,rfl,rfl,rfl⟩|⟨rfl,h1,h2,rfl,rfl,rfl⟩
    · simp only [Ys4] at g ⊢
      simp -dsimp (disch:=first|omega|(simp only [A5,A2,D5]<;>omega)|fail) only [go_sem,reduceIte,reduceCtorEq,B2,B3,B4,B5,B6,B7,B8,B9,C0,C1,C2,C3,C4,C5,C6,C7,C8,C9,D0,A4,BYs,g]
    · simp only [Yp9,Yry] at g ⊢
      simp -dsimp (disch:=first|omega|(simp only [A5,A2,D5]<;>omega)|fail) only [go_sem,reduceIte,reduceCtorEq,B2,B3,B4,B5,B6,B7,B8,B9,C0,C1,C2,C3,C4,C5,C6,C7,C8,C9,D0,A4,BYs,g]
  | succ m ih =>
    intro i fc hi hf
    have hfr:=hf.refs
    have hfe:=hf.rens
    have hfl:=hf.len
    have h3:=Zkp (off:=i) (xs:=[.int .u8 238]) hf (by decide) (by simp only [Yqm,Yrj];omega)
    have e1:=h3.refs
    have e2:=h3.rens
    have e3:=h3.len
    have g:=ih (i+1) _ (by omega) h3
    simp only [Ysn,Ysh] at g
    rw [G9 L.A0.x0.eq_1]
    rcases hc with ⟨rfl,rfl,rfl,rfl⟩|⟨rfl,h1,h2,rfl,rfl,rfl⟩
    · simp only [Ys4] at g ⊢
      simp -dsimp (disch:=first|omega|(simp only [A5,A2,D5]<;>omega)|fail) only [go_sem,reduceIte,reduceCtorEq,B2,B3,B4,B5,B6,B7,B8,B9,C0,C1,C2,C3,C4,C5,C6,C7,C8,C9,D0,A4,BYs,hlr,hle,hll,hbr,hbe,hbl,har,hae,hal,hfr,hfe,hfl,e1,e2,e3,g]
    · have c1:=h1.refs
      have c2:=h1.rens
      have d1:=h2.refs
      have d2:=h2.rens
      simp only [Yp9,Yry] at g ⊢
      simp -dsimp (disch:=first|omega|(simp only [A5,A2,D5]<;>omega)|fail) only [go_sem,reduceIte,reduceCtorEq,B2,B3,B4,B5,B6,B7,B8,B9,C0,C1,C2,C3,C4,C5,C6,C7,C8,C9,D0,A4,BYs,hlr,hle,hll,hbr,hbe,hbl,har,hae,hal,hfr,hfe,hfl,e1,e2,e3,c1,c2,d1,d2,g]
theorem ml0n {t:List Ety} {p:List UInt8} (ht:t.length≤1000000000) (hp:p.length≤1000000000) {pb:Bool} {tr msg:List UInt8} {au co:Idt} {lc:List AV} {bn:Nat} (htr:tr.length=32) (hl:Pl lc (bn*34)) {cc dc:List AV} {cn:Nat} (hcn:cn≤1000000) (hbn:bn≤1000000) (G:(∀ (cc:List AV) (cv dv:AV) (σc:A6) (i:Int),Za4 pb 3 cv dv σc cc dc cn→X EE [.tmp 6] [.c L.A0.r3] ⟨[(0,.lst (I8 t) t.length),(2,.lst (A1 p) p.length),(14,.ref (.s 1000000 0) 0 0),(16,.ref (.s 1000000 1) 0 0),(18,.buf (.s 1000000 2) 0 0 bn 34),(118,.int .i64 i),(119,.int .i64 i),(120,.bool false)],[(.s 1000000 0,⟨0,true,true,true,snR tr cv au co msg⟩),(.s 1000000 1,⟨0,true,true,true,snR tr dv au co msg⟩),(.s 1000000 2,⟨0,true,true,false,lc⟩)] ++ σc⟩=some (.bool true,[]))) {cv dv:AV} {σc:A6} {bc:List AV} (hb:Pl bc (bn*34)) {fn:Nat} (hfn:fn≤1000000000) (hc:Za4 pb 5 cv dv σc cc dc cn):∀ (m i:Nat) (fc:List AV),i+m=fn→Pl fc fn →
    X EE [.tmp 6] (.c L.A0.x0::.lp [0,2,8,10,12,14,16,18,89,90] L.A0.x0::.blk 0::[.c L.A0.r0]) ⟨[(0,.lst (I8 t) t.length),(2,.lst (A1 p) p.length),(8,.buf (.s 1000000 0) 0 0 fn 1),(10,.nils),(12,.buf (.s 1000000 1) 0 0 bn 34),(14,.ref (.s 1000000 2) 0 0),(16,.ref (.s 1000000 3) 0 0),(18,.buf (.s 1000000 4) 0 0 bn 34),(89,.int .i64 fn),(90,.int .i64 i)],[(.s 1000000 0,⟨0,true,true,false,fc⟩),(.s 1000000 1,⟨0,true,true,false,bc⟩),(.s 1000000 2,⟨0,true,true,true,snR tr cv au co msg⟩),(.s 1000000 3,⟨0,true,true,true,snR tr dv au co msg⟩),(.s 1000000 4,⟨0,true,true,false,lc⟩)] ++ σc⟩=some (.bool true,[]):=by
  have hlr:=hl.refs
  have hle:=hl.rens
  have hll:=hl.len
  have hbr:=hb.refs
  have hbe:=hb.rens
  have hbl:=hb.len
  intro m
  induction m with
  | zero =>
    intro i fc hi hf
    obtain rfl:i=fn:=by omega
    have g:=mr0n ht hp htr hl (au:=au) (co:=co) (msg:=msg) hcn hbn G hb hf (i:=(i:Int)) hc
    rw [G9 L.A0.x0.eq_1]
    rcases hc with ⟨rfl,rfl,rfl,rfl⟩|⟨rfl,h1,h2,rfl,rfl,rfl⟩
    · simp only [Ys4] at g ⊢
      simp -dsimp (disch:=first|omega|(simp only [A5,A2,D5]<;>omega)|fail) only [go_sem,reduceIte,reduceCtorEq,B2,B3,B4,B5,B6,B7,B8,B9,C0,C1,C2,C3,C4,C5,C6,C7,C8,C9,D0,A4,BYs,g]
    · simp only [Yp9,Yry] at g ⊢
      simp -dsimp (disch:=first|omega|(simp only [A5,A2,D5]<;>omega)|fail) only [go_sem,reduceIte,reduceCtorEq,B2,B3,B4,B5,B6,B7,B8,B9,C0,C1,C2,C3,C4,C5,C6,C7,C8,C9,D0,A4,BYs,g]
  | succ m ih =>
    intro i fc hi hf
    have hfr:=hf.refs
    have hfe:=hf.rens
    have hfl:=hf.len
    have h3:=Zkp (off:=i) (xs:=[.int .u8 238]) hf (by decide) (by simp only [Yqm,Yrj];omega)
    have e1:=h3.refs
    have e2:=h3.rens
    have e3:=h3.len
    have g:=ih (i+1) _ (by omega) h3
    simp only [Ysn,Ysh] at g
    rw [G9 L.A0.x0.eq_1]
    rcases hc with ⟨rfl,rfl,rfl,rfl⟩|⟨rfl,h1,h2,rfl,rfl,rfl⟩
    · simp only [Ys4] at g ⊢
      simp -dsimp (disch:=first|omega|(simp only [A5,A2,D5]<;>omega)|fail) only [go_sem,reduceIte,reduceCtorEq,B2,B3,B4,B5,B6,B7,B8,B9,C0,C1,C2,C3,C4,C5,C6,C7,C8,C9,D0,A4,BYs,hlr,hle,hll,hbr,hbe,hbl,hfr,hfe,hfl,e1,e2,e3,g]
    · have c1:=h1.refs
      have c2:=h1.rens
      have d1:=h2.refs
      have d2:=h2.rens
      simp only [Yp9,Yry] at g ⊢
      simp -dsimp (disch:=first|omega|(simp only [A5,A2,D5]<;>omega)|fail) only [go_sem,reduceIte,reduceCtorEq,B2,B3,B4,B5,B6,B7,B8,B9,C0,C1,C2,C3,C4,C5,C6,C7,C8,C9,D0,A4,BYs,hlr,hle,hll,hbr,hbe,hbl,hfr,hfe,hfl,e1,e2,e3,c1,c2,d1,d2,g]
end Cod
namespace Cod
open Go
def ansN (g:Snap) (e:Int):AV × A6:=(.tup [.agg (snR g.tree .nils g.aut g.com g.msg),.int .i64 e],[])
def ansP (g:Snap):AV × A6:=(.tup [.agg (snR g.tree (.buf (.r 0) 0 0 g.par.length 32) g.aut g.com g.msg),.int .i64 0],[(.r 0,⟨0,true,true,false,ids g.par⟩)])
theorem Z44 (p:List UInt8) (hb:p.length≤1000000000000):∃ g:Snap,g.par.length≤16∧((∃ e,S EE F.D3 [.lst (A1 p) p.length] []=some (ansN g e)∧S EE F.A7 [.lst (A1 p) p.length] []=some (ansN g e))∨(S EE F.D3 [.lst (A1 p) p.length] []=some (ansP g)∧S EE F.A7 [.lst (A1 p) p.length] []=some (ansP g))):=by
  rcases Zvi envC p hb with ⟨e,_,s1,s2⟩|⟨g,hg,s1,s2⟩
  · exact ⟨zeroS,by simp [zeroS,mkS],.inl ⟨e,s1,R9 Zeo s2⟩⟩
  · have s2:=R9 Zeo s2
    unfold yesC at s1 s2
    by_cases hpar:g.par=[]
    · rw [if_pos hpar] at s1 s2
      exact ⟨g,hg,.inl ⟨0,s1,s2⟩⟩
    · rw [if_neg hpar] at s1 s2
      exact ⟨g,hg,.inr ⟨s1,s2⟩⟩
theorem Ykx {t:List Ety} (st:Zem t) (hn:∀ i,(eat t i).name.length≤1048576):S EE F.O4 [.lst (I8 t) t.length] []=some (Zvs t):=R9 Zeo (Zvt hn (by omega) st.2.1 st.2.2)
theorem mg {t:List Ety} {p:List UInt8} (st:Zem t) (hn:∀ i,(eat t i).name.length≤1048576) (hp:p.length≤1000000000) {g:Snap} (hg:g.par.length≤16) {l:List Ety} {e:Int} (hl:l.length≤4096) (hr:Zko p=parX l e) {cc:List AV} {cv dv:AV} {σc:A6} {i:Int}
    (h:(∃ x,S EE F.A7 [.lst (A1 p) p.length] []=some (ansN g x)∧cv=.nils∧dv=.nils ∧ σc=[])∨(S EE F.A7 [.lst (A1 p) p.length] []=some (ansP g)∧(Pl cc (g.par.length*32)∧cv=.buf (.s 1000000 3) 0 0 g.par.length 32∧dv=.buf (.s 1000000 4) 0 0 g.par.length 32 ∧ σc=[(.s 1000000 3,⟨0,true,true,false,cc⟩),(.s 1000000 4,⟨0,true,true,false,ids g.par⟩)]))) :
    X EE [.tmp 6] [.c L.A0.r3] ⟨[(0,.lst (I8 t) t.length),(2,.lst (A1 p) p.length),(14,.ref (.s 1000000 0) 0 0),(16,.ref (.s 1000000 1) 0 0),(18,.buf (.s 1000000 2) 0 0 l.length 34),(118,.int .i64 i),(119,.int .i64 i),(120,.bool false)],[(.s 1000000 0,⟨0,true,true,true,snR g.tree cv g.aut g.com g.msg⟩),(.s 1000000 1,⟨0,true,true,true,snR g.tree dv g.aut g.com g.msg⟩),(.s 1000000 2,⟨0,true,true,false,I8 l⟩)] ++ σc⟩=some (.bool true,[]):=by
  have hz0:=P0
  have hgt:=g.ht
  have a1:=Zvm st
  have a2:=Ykx st hn
  have a5:=R9 Zeo (Zvr (p:=p) (n:=p.length) rfl (by omega))
  rw [hr] at a5
  unfold parX at a5
  have a6:=R9 Zeo (Zvv (l:=l) rfl rfl hl)
  have a7:=R9 Zeo (Zos (a:=G4 t) (b:=G4 t) (n:=(G4 t).length) (m:=(G4 t).length) rfl rfl)
  have b7:(G4 t==G4 t)=true:=by simp
  rw [b7] at a7
  have a8:=R9 Zeo Ykp
  unfold Zkn at a1
  unfold Zvs at a2
  have hput:∃ x y xe ye σx σy,S EE F.P9 [.lst (I8 t) t.length] []=some (.tup [x,.int .i64 xe],σx)∧S EE F.O4 [.lst (I8 t) t.length] []=some (.tup [y,.int .i64 ye],σy)∧((∃ B,x=.buf (.r 0) 0 0 B.length 1∧y=.buf (.r 0) 0 0 B.length 1 ∧ σx=[(.r 0,⟨0,true,true,false,A1 B⟩)] ∧ σy=[(.r 0,⟨0,true,true,false,A1 B⟩)]∧B.length≤1048576∧S EE F.L4 [.lst (A1 B) B.length,.lst (A1 B) B.length] []=some (.bool true,[]))∨(x=.nils∧y=.buf (.r 0) 0 0 0 1 ∧ σx=[] ∧ σy=[(.r 0,⟨0,true,true,false,[]⟩)])):=by
    by_cases he:Zbq t=0
    · rw [if_pos he] at a1 a2
      exact ⟨_,_,_,_,_,_,a1,a2,.inl ⟨_,rfl,rfl,rfl,rfl,Zav he,a7⟩⟩
    · rw [if_neg he] at a1 a2
      exact ⟨_,_,_,_,_,_,a1,a2,.inr ⟨rfl,rfl,rfl,rfl⟩⟩
  clear a1 a2 a7 b7
  obtain ⟨x,y,xe,ye,σx,σy,a1,a2,hxy⟩:=hput
  rcases h with ⟨z,a4,rfl,rfl,rfl⟩|⟨a4,hcc,rfl,rfl,rfl⟩
  · have a9:=R9 Zeo (Zkk (t:=g.tree) (m:=g.msg) (a:=g.aut) (c:=g.com) (ps:=[]) g.ht (by simp) (.inr ⟨rfl,rfl⟩))
    unfold ansN at a4
    simp only [Ys4]
    rcases hxy with ⟨B,rfl,rfl,rfl,rfl,hB,a7⟩|⟨rfl,rfl,rfl,rfl⟩
    · simp -dsimp (disch:=first|omega|(simp only [A5,A2,D5]<;>omega)|fail) only [L.A0.r3,L.A0.t12,L.A0.t13,L.A0.t14,L.A0.t15,go_sem,reduceIte,reduceCtorEq,B2,B3,B4,B5,B6,B7,B8,B9,C0,C1,C2,C3,C4,C5,C6,C7,C8,C9,D0,A4,BYs,a1,a2,a4,a5,a6,a7,a9]
    · simp -dsimp (disch:=first|omega|(simp only [A5,A2,D5]<;>omega)|fail) only [L.A0.r3,L.A0.t12,L.A0.t13,L.A0.t14,L.A0.t15,go_sem,reduceIte,reduceCtorEq,B2,B3,B4,B5,B6,B7,B8,B9,C0,C1,C2,C3,C4,C5,C6,C7,C8,C9,D0,A4,BYs,a1,a2,a4,a5,a6,a8,a9]
  · have a9:=R9 Zeo (Zkk (t:=g.tree) (m:=g.msg) (a:=g.aut) (c:=g.com) (ps:=g.par) g.ht (by omega) (.inl rfl))
    unfold ansP at a4
    simp only [Yp9,Yry]
    rcases hxy with ⟨B,rfl,rfl,rfl,rfl,hB,a7⟩|⟨rfl,rfl,rfl,rfl⟩
    · simp -dsimp (disch:=first|omega|(simp only [A5,A2,D5]<;>omega)|fail) only [L.A0.r3,L.A0.t12,L.A0.t13,L.A0.t14,L.A0.t15,go_sem,reduceIte,reduceCtorEq,B2,B3,B4,B5,B6,B7,B8,B9,C0,C1,C2,C3,C4,C5,C6,C7,C8,C9,D0,A4,BYs,a1,a2,a4,a5,a6,a7,a9]
    · simp -dsimp (disch:=first|omega|(simp only [A5,A2,D5]<;>omega)|fail) only [L.A0.r3,L.A0.t12,L.A0.t13,L.A0.t14,L.A0.t15,go_sem,reduceIte,reduceCtorEq,B2,B3,B4,B5,B6,B7,B8,B9,C0,C1,C2,C3,C4,C5,C6,C7,C8,C9,D0,A4,BYs,a1,a2,a4,a5,a6,a8,a9]
end Cod
namespace Cod
open Go
theorem Yky {s:Snap} (ss:Zil s):∃ x xe σx,(S EE F.U9 [.agg (snR s.tree (.lst (ids s.par) s.par.length) s.aut s.com s.msg)] []=some (.tup [x,.int .i64 xe],σx)∧(x=.nils ∧ σx=[]∨∃ B,x=.buf (.r 0) 0 0 B.length 1 ∧ σx=[(.r 0,⟨0,true,true,false,A1 B⟩)])):=by
  have a1:=envC.put (s:=s) (v:=.lst (ids s.par) s.par.length) (.inl rfl) ss
  unfold Zvc putA at a1
  split at a1
  · exact ⟨_,_,_,a1,.inr ⟨_,rfl,rfl⟩⟩
  · exact ⟨_,_,_,a1,.inl ⟨rfl,rfl⟩⟩
theorem Zvy {t:List Ety} {s:Snap} {p:List UInt8} (st:Zem t) (hn:∀ i,(eat t i).name.length≤1048576) (ss:Zil s) (hp:p.length≤1000000000) :
    S EE F.A0 [.lst (I8 t) t.length,.agg s.cells,.lst (A1 p) p.length] []=some (.bool true,[]):=by
  have htl:=st.2.2
  have hst:=s.ht
  have hz0:=P0
  rw [Ykg Zr3 rfl rfl,Yjc]
  by_cases q1:200<t.length
  · simp -dsimp (disch:=first|omega|(simp only [A5,A2,D5]<;>omega)|fail) only [L.A0,L.A0.t0,L.A0.t1,go_sem,reduceIte,reduceCtorEq,B2,B3,B4,B5,B6,B7,B8,B9,C0,C1,C2,C3,C4,C5,C6,C7,C8,C9,D0,A4,BYs,Zbh,q1]
  by_cases q2:5000<p.length
  · simp -dsimp (disch:=first|omega|(simp only [A5,A2,D5]<;>omega)|fail) only [L.A0,L.A0.t0,L.A0.t1,go_sem,reduceIte,reduceCtorEq,B2,B3,B4,B5,B6,B7,B8,B9,C0,C1,C2,C3,C4,C5,C6,C7,C8,C9,D0,A4,BYs,Zbh,q1,q2]
  obtain ⟨fn,hfn⟩:∃ fn,fn=p.length+4:=⟨_,rfl⟩
  have b1:=R9 Zeo (Ykw (p:=p) hfn (by omega))
  have b2:=R9 Zeo (Yp2 (p:=p) hfn (by omega))
  have b3:=R9 Zeo (Z43 (l:=s.par) ss.1)
  have b4:=R9 Zeo (Zin (l:=s.par) ss.1)
  have e1:sub (p++Zdd) 0 p.length=p:=by unfold sub;rw [Yrp];exact Ys9
  have e2:sub (p++Zdd) 0 fn=p++Zdd:=by unfold sub;rw [Yrp];exact List.take_of_length_le (by rw [hfn,Yqx];exact Nat.le_refl _)
  have e3:(p++Zdd).length=fn:=by rw [hfn,Yqx];rfl
  obtain ⟨l,e,hl,p1,p2⟩:=Z4w p
  have a4:=Zvq (p:=p) (n:=p.length) rfl (by omega)
  rw [p1] at a4
  unfold parX at a4
  obtain ⟨g,hg,hc⟩:=Z44 p (by omega)
  have hgt:=g.ht
  obtain ⟨x,xe,σx,a5,hx⟩:=Yky ss
  have a1:=Zvm st
  unfold Zkn at a1
  have hpl:Pl (I8 l) (l.length*34):=Zq4 (Zn4 l) (by rw [A2];omega)
  have hpf:Pl (A1 (p++Zdd)) fn:=Zq4 (O8 _) (by rw [D8,e3])
  have hpg:Pl (ids g.par) (g.par.length*32):=Zq4 (Zqn _) (by rw [D5];omega)
  have G0:∀ z,S EE F.A7 [.lst (A1 p) p.length] []=some (ansN g z)→∀ (cc:List AV) (cv dv:AV) (σc:A6) (i:Int),Za4 false 3 cv dv σc cc (ids g.par) g.par.length→X EE [.tmp 6] [.c L.A0.r3] ⟨[(0,.lst (I8 t) t.length),(2,.lst (A1 p) p.length),(14,.ref (.s 1000000 0) 0 0),(16,.ref (.s 1000000 1) 0 0),(18,.buf (.s 1000000 2) 0 0 l.length 34),(118,.int .i64 i),(119,.int .i64 i),(120,.bool false)],[(.s 1000000 0,⟨0,true,true,true,snR g.tree cv g.aut g.com g.msg⟩),(.s 1000000 1,⟨0,true,true,true,snR g.tree dv g.aut g.com g.msg⟩),(.s 1000000 2,⟨0,true,true,false,I8 l⟩)] ++ σc⟩=some (.bool true,[]):=by
    intro z hz cc cv dv σc i h
    refine mg (cc:=cc) st hn hp hg hl p2 ?_
    rcases h with ⟨_,h1,h2,h3⟩|⟨h0,_⟩
    · exact .inl ⟨z,hz,h1,h2,h3⟩
    · cases h0
  have G1:S EE F.A7 [.lst (A1 p) p.length] []=some (ansP g)→∀ (cc:List AV) (cv dv:AV) (σc:A6) (i:Int),Za4 true 3 cv dv σc cc (ids g.par) g.par.length→X EE [.tmp 6] [.c L.A0.r3] ⟨[(0,.lst (I8 t) t.length),(2,.lst (A1 p) p.length),(14,.ref (.s 1000000 0) 0 0),(16,.ref (.s 1000000 1) 0 0),(18,.buf (.s 1000000 2) 0 0 l.length 34),(118,.int .i64 i),(119,.int .i64 i),(120,.bool false)],[(.s 1000000 0,⟨0,true,true,true,snR g.tree cv g.aut g.com g.msg⟩),(.s 1000000 1,⟨0,true,true,true,snR g.tree dv g.aut g.com g.msg⟩),(.s 1000000 2,⟨0,true,true,false,I8 l⟩)] ++ σc⟩=some (.bool true,[]):=by
    intro hz cc cv dv σc i h
    refine mg (cc:=cc) st hn hp hg hl p2 ?_
    rcases h with ⟨h0,_⟩|⟨_,h1,_,h2,h3,h4⟩
    · cases h0
    · exact .inr ⟨hz,h1,h2,h3,h4⟩
  rcases hc with ⟨z,h1,h2⟩|⟨h1,h2⟩
  · have G:=G0 z h2
    unfold ansN at h1
    by_cases he:Zbq t=0
    · rw [if_pos he] at a1
      have hB:=Zav he
      generalize G4 t=A at a1 hB
      have hpa:Pl (A1 A) A.length:=Zq4 (O8 _) (by rw [D8])
      have k:=ml0 (by omega) hp g.ht hpl (by omega) (by omega) G hpl hpa (by omega) (by omega) (.inl ⟨rfl,rfl,rfl,rfl⟩:Za4 false 6 _ _ _ [] (ids g.par) g.par.length) fn 0 _ (by omega) hpf
      simp only [Ys4,Ysh] at k
      rcases hx with ⟨rfl,rfl⟩|⟨B,rfl,rfl⟩
      · simp -dsimp (disch:=first|omega|(simp only [A5,A2,D5]<;>omega)|fail) only [L.A0,L.A0.t0,L.A0.t1,L.A0.t2,L.A0.t3,L.A0.t4,L.A0.t5,L.A0.t6,L.A0.t7,L.A0.t8,L.A0.t9,L.A0.t10,L.A0.t11,go_sem,reduceIte,reduceCtorEq,B2,B3,B4,B5,B6,B7,B8,B9,C0,C1,C2,C3,C4,C5,C6,C7,C8,C9,D0,A4,BYs,Zbh,q1,q2,b1,b2,b3,b4,e1,e2,e3,a1,a4,h1,a5,k]
      · simp -dsimp (disch:=first|omega|(simp only [A5,A2,D5]<;>omega)|fail) only [L.A0,L.A0.t0,L.A0.t1,L.A0.t2,L.A0.t3,L.A0.t4,L.A0.t5,L.A0.t6,L.A0.t7,L.A0.t8,L.A0.t9,L.A0.t10,L.A0.t11,go_sem,reduceIte,reduceCtorEq,B2,B3,B4,B5,B6,B7,B8,B9,C0,C1,C2,C3,C4,C5,C6,C7,C8,C9,D0,A4,BYs,Zbh,q1,q2,b1,b2,b3,b4,e1,e2,e3,a1,a4,h1,a5,k]
    · rw [if_neg he] at a1
      have k:=ml0n (by omega) hp g.ht hpl (by omega) (by omega) G hpl (by omega) (.inl ⟨rfl,rfl,rfl,rfl⟩:Za4 false 5 _ _ _ [] (ids g.par) g.par.length) fn 0 _ (by omega) hpf
      simp only [Ys4,Ysh] at k
      rcases hx with ⟨rfl,rfl⟩|⟨B,rfl,rfl⟩
      · simp -dsimp (disch:=first|omega|(simp only [A5,A2,D5]<;>omega)|fail) only [L.A0,L.A0.t0,L.A0.t1,L.A0.t2,L.A0.t3,L.A0.t4,L.A0.t5,L.A0.t6,L.A0.t7,L.A0.t8,L.A0.t9,L.A0.t10,L.A0.t11,go_sem,reduceIte,reduceCtorEq,B2,B3,B4,B5,B6,B7,B8,B9,C0,C1,C2,C3,C4,C5,C6,C7,C8,C9,D0,A4,BYs,Zbh,q1,q2,b1,b2,b3,b4,e1,e2,e3,a1,a4,h1,a5,k]
      · simp -dsimp (disch:=first|omega|(simp only [A5,A2,D5]<;>omega)|fail) only [L.A0,L.A0.t0,L.A0.t1,L.A0.t2,L.A0.t3,L.A0.t4,L.A0.t5,L.A0.t6,L.A0.t7,L.A0.t8,L.A0.t9,L.A0.t10,L.A0.t11,go_sem,reduceIte,reduceCtorEq,B2,B3,B4,B5,B6,B7,B8,B9,C0,C1,C2,C3,C4,C5,C6,C7,C8,C9,D0,A4,BYs,Zbh,q1,q2,b1,b2,b3,b4,e1,e2,e3,a1,a4,h1,a5,k]
  · have G:=G1 h2
    unfold ansP at h1
    by_cases he:Zbq t=0
    · rw [if_pos he] at a1
      have hB:=Zav he
      generalize G4 t=A at a1 hB
      have hpa:Pl (A1 A) A.length:=Zq4 (O8 _) (by rw [D8])
      have k:=ml0 (by omega) hp g.ht hpl (by omega) (by omega) G hpl hpa (by omega) (by omega) (.inr ⟨rfl,hpg,hpg,rfl,rfl,rfl⟩:Za4 true 6 _ _ _ (ids g.par) (ids g.par) g.par.length) fn 0 _ (by omega) hpf
      simp only [Yp9,Yry,Ysh] at k
      rcases hx with ⟨rfl,rfl⟩|⟨B,rfl,rfl⟩
      · simp -dsimp (disch:=first|omega|(simp only [A5,A2,D5]<;>omega)|fail) only [L.A0,L.A0.t0,L.A0.t1,L.A0.t2,L.A0.t3,L.A0.t4,L.A0.t5,L.A0.t6,L.A0.t7,L.A0.t8,L.A0.t9,L.A0.t10,L.A0.t11,go_sem,reduceIte,reduceCtorEq,B2,B3,B4,B5,B6,B7,B8,B9,C0,C1,C2,C3,C4,C5,C6,C7,C8,C9,D0,A4,BYs,Zbh,q1,q2,b1,b2,b3,b4,e1,e2,e3,a1,a4,h1,a5,k]
      · simp -dsimp (disch:=first|omega|(simp only [A5,A2,D5]<;>omega)|fail) only [L.A0,L.A0.t0,L.A0.t1,L.A0.t2,L.A0.t3,L.A0.t4,L.A0.t5,L.A0.t6,L.A0.t7,L.A0.t8,L.A0.t9,L.A0.t10,L.A0.t11,go_sem,reduceIte,reduceCtorEq,B2,B3,B4,B5,B6,B7,B8,B9,C0,C1,C2,C3,C4,C5,C6,C7,C8,C9,D0,A4,BYs,Zbh,q1,q2,b1,b2,b3,b4,e1,e2,e3,a1,a4,h1,a5,k]
    · rw [if_neg he] at a1
      have k:=ml0n (by omega) hp g.ht hpl (by omega) (by omega) G hpl (by omega) (.inr ⟨rfl,hpg,hpg,rfl,rfl,rfl⟩:Za4 true 5 _ _ _ (ids g.par) (ids g.par) g.par.length) fn 0 _ (by omega) hpf
      simp only [Yp9,Yry,Ysh] at k
      rcases hx with ⟨rfl,rfl⟩|⟨B,rfl,rfl⟩
      · simp -dsimp (disch:=first|omega|(simp only [A5,A2,D5]<;>omega)|fail) only [L.A0,L.A0.t0,L.A0.t1,L.A0.t2,L.A0.t3,L.A0.t4,L.A0.t5,L.A0.t6,L.A0.t7,L.A0.t8,L.A0.t9,L.A0.t10,L.A0.t11,go_sem,reduceIte,reduceCtorEq,B2,B3,B4,B5,B6,B7,B8,B9,C0,C1,C2,C3,C4,C5,C6,C7,C8,C9,D0,A4,BYs,Zbh,q1,q2,b1,b2,b3,b4,e1,e2,e3,a1,a4,h1,a5,k]
      · simp -dsimp (disch:=first|omega|(simp only [A5,A2,D5]<;>omega)|fail) only [L.A0,L.A0.t0,L.A0.t1,L.A0.t2,L.A0.t3,L.A0.t4,L.A0.t5,L.A0.t6,L.A0.t7,L.A0.t8,L.A0.t9,L.A0.t10,L.A0.t11,go_sem,reduceIte,reduceCtorEq,B2,B3,B4,B5,B6,B7,B8,B9,C0,C1,C2,C3,C4,C5,C6,C7,C8,C9,D0,A4,BYs,Zbh,q1,q2,b1,b2,b3,b4,e1,e2,e3,a1,a4,h1,a5,k]
end Cod
namespace Cod
open Go
theorem Zvz {xs:List AV} (h:Znv [(false,.sl Zz9),(true,Z4z),(false,.sl (.int .u8))] xs) (hb:abulks xs≤1048576):∃ σr,S EE 6 xs []=some (.bool true,σr):=by
  obtain ⟨a1,b1,rfl,h1,a2,b2,rfl,⟨y,rfl,hw⟩,a5,b5,rfl,h5,rfl⟩:=h
  have hs:abulks [a1]+abulks [a5]≤1048576∧abulks y≤1048576:=by
    simp only [abulks,Zev] at hb ⊢;omega
  obtain ⟨t,hl,l1,l2,l3⟩:=Ykv h1 (by omega)
  obtain ⟨p,hp,p1⟩:=Z40 h5 (by omega)
  obtain ⟨s,rfl,s1,s2,_⟩:=Yp0 hw
  simp only [List.cons.injEq,and_true] at hl hp
  subst hl hp
  exact ⟨[],Zvy ⟨fun i=>Nat.le_trans (l2 i) (by omega),l3,by omega⟩ l2 ⟨by omega,by omega⟩ (by omega)⟩
end Cod

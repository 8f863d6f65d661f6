/- A region in the order of its text; what it hands on. -/
import Derived.LoopN
import Derived.Scope
import Derived.Test.YtabccggcfcppgaaGreatDoorXCod4
import Derived.Test.YtabccggcfcppgaaGreatDoorXCod1
set_option linter.unusedSimpArgs false
set_option linter.unusedVariables false
open List renaming all_eq_true → Ygs, append_assoc → Yga, contains_eq_mem → Ygv, foldl_cons → Yfy, getElem_idxOf → Yg0, length_cons → Yf0, length_nil → Ygy, map_congr_left → Ygx, map_cons → Ygq, mem_append_left → Ygo, mem_cons → Ygr, mem_cons_of_mem → Ygm, mem_filter → Ygz, mem_range → Ygw, mem_singleton → Yf2, singleton_append → Yg1
open Nat renaming le_refl → Yfj
open Bool renaming and_eq_true → Yfz, not_eq_true' → Ygu, or_eq_true → Ygt
open Option renaming getD_some → Ygp, map_eq_some_iff → Yfp
namespace Cod
open Go
variable {E:Env} {w0:World} {O0:Nat→Prop} {σ0:A2} {L0:Lay} {P:Program} {σ:A2} {L:Lay} {w:World} {o:Oper} {a:Act}
def dom (sl:List (Nat × AV)):List Nat:=sl.map (·.1)
theorem Zzm:∀ {sl:List (Nat × AV)} {t:Nat},t∉dom sl→T8 sl t=.junk:=by
  intro sl
  induction sl with
  | nil=>intro t _;rfl
  | cons p sl ih =>
    intro t h
    obtain ⟨k,v⟩:=p
    simp only [dom,Ygq,Ygr,not_or] at h
    simp only [T8]
    rw [if_neg (Ne.symm h.1)]
    exact ih h.2
theorem Zzn:∀ {sl:List (Nat × AV)} {s t:Nat} {v:AV},T8 (Zi8 sl s v) t=if s=t then v else T8 sl t:=by
  intro sl
  induction sl with
  | nil=>intro s t v;simp [Zi8,T8]
  | cons p sl ih =>
    intro s t v
    obtain ⟨k,u⟩:=p
    simp only [Zi8]
    by_cases hk:k=s
    · subst hk
      simp only [if_pos,T8]
      by_cases ht:k=t<;>simp [ht]
    · simp only [if_neg hk,T8,ih]
      by_cases ht:k=t
      · subst ht;simp [Ne.symm hk]
      · simp [ht]
theorem Z4t:∀ {sl:List (Nat × AV)} {s:Nat} {v:AV} {t:Nat},t∈dom (Zi8 sl s v)→t=s∨t∈dom sl:=by
  intro sl
  induction sl with
  | nil=>intro s v t h;simp only [Zi8,dom,Ygq,List.map_nil,Yf2] at h;exact .inl h
  | cons p sl ih =>
    intro s v t h
    obtain ⟨k,u⟩:=p
    simp only [Zi8] at h
    split at h
    · rename_i hk
      simp only [dom,Ygq,Ygr] at h
      rcases h with h|h
      · exact .inl h
      · exact .inr (Ygm _ h)
    · simp only [dom,Ygq,Ygr] at h
      rcases h with h|h
      · exact .inr (by simp [dom,h])
      · rcases ih h with h|h
        · exact .inl h
        · exact .inr (Ygm _ h)
theorem Zt2 {loc sl0:List (Nat × AV)}:∀ {ks:List Nat} {sl:List (Nat × AV)} {t:Nat},T8 (Za1 loc sl0 ks sl) t=if t∈ks then P2 sl0 loc t else T8 sl t:=by
  intro ks
  induction ks with
  | nil=>intro sl t;simp [Za1]
  | cons k ks ih =>
    intro sl t
    simp only [Za1]
    rw [ih,Zzn]
    by_cases h1:t∈ks
    · simp [h1]
    · by_cases h2:k=t
      · subst h2;simp [h1]
      · have h3:t∉k::ks:=by simp [h1,Ne.symm h2]
        rw [if_neg h1,if_neg h2,if_neg h3]
theorem Zzo {loc sl0:List (Nat × AV)}:∀ {ks:List Nat} {sl:List (Nat × AV)} {t:Nat},t∈dom (Za1 loc sl0 ks sl)→t∈ks∨t∈dom sl:=by
  intro ks
  induction ks with
  | nil=>intro sl t h;exact .inr h
  | cons k ks ih =>
    intro sl t h
    simp only [Za1] at h
    rcases ih h with h|h
    · exact .inl (Ygm _ h)
    · rcases Z4t h with h|h
      · exact .inl (by simp [h])
      · exact .inr h
theorem Z4u {sl:List (Nat × AV)}:∀ {loc:List (Nat × AV)} {t:Nat},t∉dom loc→P2 sl loc t=T8 sl t:=by
  intro loc
  induction loc with
  | nil=>intro t _;rfl
  | cons p loc ih =>
    intro t h
    obtain ⟨k,v⟩:=p
    simp only [dom,Ygq,Ygr,not_or] at h
    simp only [P2]
    rw [if_neg (Ne.symm h.1)]
    exact ih h.2
theorem Zgv {r:RS} {d:Option Nat} {v:AV} {u:Ups} {t:Nat} (h:t∈dom (Za0 r d v u).loc):d=some t∨t∈dom r.loc:=by
  cases d with
  | none=>exact .inr h
  | some d =>
    simp only [Za0,dom,Ygq,Ygr] at h
    rcases h with h|h
    · exact .inl (by rw [h])
    · exact .inr h
theorem Ybm {call:M9} {sl:List (Nat × AV)} {lo:LOper} {r r':RS} (h:opR E call sl lo r=some r') {t:Nat} (ht:t∈dom r'.loc):lo.dst=some t∨t∈dom r.loc:=by
  unfold opR at h
  split at h
  · split at h
    · cases h;exact Zgv ht
    · cases h
  · split at h
    · rename_i b _
      cases hb:(b==_)<;>rw [hb] at h
      · simp only [cond_false,Option.some.injEq] at h;subst h;exact Zgv ht
      · simp only [cond_true] at h
        split at h
        · cases h;exact Zgv ht
        · cases h
    · cases h;exact Zgv ht
    · cases h
theorem Z4v {call:M9} {sl:List (Nat × AV)}:∀ {los:List LOper} {r r':RS},O8 E call sl los r=some r'→∀ {t:Nat},t∈dom r'.loc→(∃ lo∈los,lo.dst=some t)∨t∈dom r.loc:=by
  intro los
  induction los with
  | nil=>intro r r' h t ht;simp only [O8,Option.some.injEq] at h;subst h;exact .inr ht
  | cons lo los ih =>
    intro r r' h t ht
    simp only [O8] at h
    split at h
    · rename_i r1 h1
      rcases ih h ht with ⟨l,h2,h3⟩|h2
      · exact .inl ⟨l,Ygm _ h2,h3⟩
      · rcases Ybm h1 h2 with h3|h3
        · exact .inl ⟨lo,by simp,h3⟩
        · exact .inr h3
    · cases h
theorem Zng {A:Ann} {ops:Array Oper}:∀ {os:List Oper} {los:List LOper},V2 P A ops os=some los→∀ lo∈los,∃ o∈os,lo.dst=o.dst:=by
  intro os
  induction os with
  | nil=>intro los h lo hlo;simp only [V2,Option.some.injEq] at h;subst h;simp at hlo
  | cons o os ih =>
    intro los h lo hlo
    simp only [V2] at h
    split at h
    · rename_i p g r h1 h2 h3
      cases h
      rcases List.mem_cons.1 hlo with rfl|hlo
      · exact ⟨o,by simp,rfl⟩
      · obtain ⟨o',h4,h5⟩:=ih h3 lo hlo
        exact ⟨o',Ygm _ h4,h5⟩
    · cases h
structure Fx (A:Ann) (c:Ctx) (sl:List (Nat × AV)) (N:Nat) (a:Act):Prop where
  fr:Fr c (T8 sl) N a
  cross:∀ t∈dom sl,t∈A.cross
theorem Fx.region {A:Ann} {c:Ctx} {sl:List (Nat × AV)} {N:Nat} (hx:∀ t∈dom sl,t∈A.cross) {loc:List (Nat × AV)} (hf:Fr c (P2 sl loc) N a) {ops:List Oper} {keep:List Nat} (hk:Zjw A N ops keep=true)
    (hd:∀ t∈dom loc,∃ o∈ops,o.dst=some t):Fx A c (Za1 loc sl keep sl) N a:=by
  simp only [Zjw,Yfz,Ygs] at hk
  obtain ⟨hk1,hk2⟩:=hk
  refine ⟨⟨fun t=>?_,hf.defers,hf.size⟩,fun t ht=>?_⟩
  · rw [Zt2]
    split
    · exact hf.slots t
    · rename_i hnk
      by_cases hts:t∈dom sl
      · have hcross:=hx t hts
        have hnl:t∉dom loc:=by
          intro hl
          obtain ⟨o,ho,hod⟩:=hd t hl
          have:=hk1 o ho
          rw [hod] at this
          simp only [Yfz,Ygt,Ygu,Ygv,decide_eq_false_iff_not,decide_eq_true_eq] at this
          rcases this.2 with h|h
          · exact h hcross
          · exact hnk h
        rw [←Z4u hnl]
        exact hf.slots t
      · rw [Zzm hts];simp [VR]
  · rcases Zzo ht with h|h
    · have:=hk2 t h
      simpa using this
    · exact hx t h
theorem Zzp {call:M9} (hcall:Zf8 P E call) {sl:List (Nat × AV)} {N:Nat} {A:Ann} {ops:Array Oper} {Q:Exit→Act→World→Prop} (hd:∀ o∈ops.toList,∀ d,o.dst=some d→d<N) :
    ∀ {os:List Oper} {k:Nat} {los:List LOper} {loc:List (Nat × AV)} {σ:A2} {L:Lay} {w:World} {a:Act} {r:RS},os=ops.toList.drop k→V2 P A ops os=some los→Rel E w0 O0 σ0 L0 σ L w→Fr (ctx σ L w) (P2 sl loc) N a →
      O8 E call sl los ⟨loc,σ⟩=some r→(∀ a' w' L',Rel E w0 O0 σ0 L0 r.st L' w'→CLe (ctx σ L w) (ctx r.st L' w')→Fr (ctx r.st L' w') (P2 sl r.loc) N a'→Q .normal a' w')→wpOps P ops Q (List.range' k os.length) a w:=by
  intro os
  induction os with
  | nil =>
    intro k los loc σ L w a r _ hl h hf hr hQ
    simp only [V2,Option.some.injEq] at hl
    subst hl
    simp only [O8,Option.some.injEq] at hr
    subst hr
    exact hQ a w L h (CLe.refl _) hf
  | cons o os ih =>
    intro k los loc σ L w a r hk hl h hf hr hQ
    have hki:ops[k]? = some o:=by
      have:=congrArg (fun l=>l[0]?) hk
      simp only [List.getElem?_cons_zero,List.getElem?_drop,Nat.add_zero] at this
      rw [←Array.getElem?_toList];exact this.symm
    have hos:os=ops.toList.drop (k+1):=by
      have:=congrArg List.tail hk
      simpa using this
    simp only [V2] at hl
    split at hl
    · rename_i p g los' h1 h2 h3
      cases hl
      simp only [O8] at hr
      split at hr
      · rename_i r1 hr1
        rw [Yf0,List.range'_succ,wpOps_cons]
        refine Zqs h hcall hf hki h1 h2 (hd o (by rw [←Array.getElem?_toList] at hki;exact List.mem_of_getElem? hki)) hr1 (fun a' w' L' k1 k2 k3=>?_)
        obtain ⟨loc1,st1⟩:=r1
        exact ih hos h3 k1 k3 hr (fun a2 w2 L2 m1 m2 m3=>hQ a2 w2 L2 m1 (k2.trans m2) m3)
      · cases hr
    · cases hl
end Cod
namespace Cod
open Go
variable {E:Env} {w0:World} {O0:Nat→Prop} {σ0:A2} {L0:Lay} {P:Program} {σ:A2} {L:Lay} {w:World} {o:Oper} {a:Act}
structure RenStore (σ σ':A2) (f:Zbg):Prop where
  fwd:∀ t e',A8 σ' t=some e'→∃ s e g',A8 σ s=some e∧e.alive=true∧f s e.g=some (t,g')∧e' = { e with g:=g',cells:=rens f e.cells }
  bwd:∀ s g t g',f s g=some (t,g')→∃ e,A8 σ s=some e∧e.alive=true∧e.g=g∧A8 σ' t=some { e with g:=g',cells:=rens f e.cells }
  inj:∀ s1 s2 g1 g2 t h1 h2,f s1 g1=some (t,h1)→f s2 g2=some (t,h2)→s1=s2
  up:∀ s g x g',f s g=some (.up x,g')→s=.up x∧g'=g
open Classical in
noncomputable def Zlh (L:Lay) (f:Zbg):Lay :=
  ⟨fun t=>if h:∃ s g g',f s g=some (t,g') then L (Classical.choose h) else none,L.F⟩
section
variable {σ':A2} {f:Zbg}
open Classical in
theorem RenStore.lay (hr:RenStore σ σ' f) {s:Site} {g:Nat} {t:Site} {g':Nat} (h:f s g=some (t,g')):(Zlh L f) t=L s:=by
  have hex:∃ s g g',f s g=some (t,g'):=⟨s,g,g',h⟩
  have:(Zlh L f) t=L (Classical.choose hex):=by
    show dite _ _ _=_
    rw [dif_pos hex]
  rw [this]
  obtain ⟨g1,g1',h1⟩:=Classical.choose_spec hex
  rw [hr.inj _ _ _ _ _ _ _ h1 h]
theorem RenStore.own (hr:RenStore σ σ' f) {b:Nat} (h:I6 σ' (Zlh L f) b):I6 σ L b:=by
  obtain ⟨t,e',o,h1,h2,h3,h4⟩:=h
  obtain ⟨s,e,g',k1,k2,k3,rfl⟩:=hr.fwd t e' h1
  rw [hr.lay k3] at h4
  exact ⟨s,e,o,k1,k2,h3,h4⟩
theorem RenStore.in (hr:RenStore σ σ' f) {b:Nat} (h:inS σ' (Zlh L f) b):inS σ L b:=by
  obtain ⟨t,e',o,h1,h2,h4⟩:=h
  obtain ⟨s,e,g',k1,k2,k3,rfl⟩:=hr.fwd t e' h1
  rw [hr.lay k3] at h4
  exact ⟨s,e,o,k1,k2,h4⟩
theorem RenStore.fl (hr:RenStore σ σ' f):CFl (ctx σ L w) (ctx σ' (Zlh L f) w) :=
  ⟨fun _ _ hO=>hO.imp hr.own id,fun _ _ _=>rfl,fun _ _ h=>h,Yfj _⟩
theorem RenStore.names (hr:RenStore σ σ' f):RN (ctx σ L w) (ctx σ' (Zlh L f) w) f:=by
  intro s g t g' hf g0 al hT hg
  obtain ⟨e,h1,h2,rfl,h4⟩:=hr.bwd s g t g' hf
  have hT':(A8 σ s).map (fun e=>(e.g,e.alive))=some (g0,al):=hT
  rw [h1] at hT'
  simp only [Option.map_some,Option.some.injEq,Prod.mk.injEq] at hT'
  obtain ⟨rfl,rfl⟩:=hT'
  refine ⟨g',e.alive,?_,Yfj _,fun ha _=>⟨ha,rfl,hr.lay hf⟩⟩
  show (A8 σ' t).map _=_
  rw [h4];rfl
theorem RenStore.rel (hr:RenStore σ σ' f) (h:Rel E w0 O0 σ0 L0 σ L w):Rel E w0 O0 σ0 L0 σ' (Zlh L f) w where
  store :=
    { ent:=by
        intro t e' he ha
        obtain ⟨s,e,g',k1,k2,k3,rfl⟩:=hr.fwd t e' he
        have h2:=h.store.ent s e k1 k2
        unfold V1 at h2 ⊢
        rw [show (ctx σ' (Zlh L f) w).L t=(ctx σ L w).L s from hr.lay k3]
        cases hl:(ctx σ L w).L s with
        | none=>rw [hl] at h2;exact ⟨by rw [show ({ e with g:=g',cells:=rens f e.cells }:Ent).cells=rens f e.cells from rfl,h2.1];rfl,h2.2⟩
        | some p =>
          rw [hl] at h2
          obtain ⟨b,o'⟩:=p
          simp only at h2 ⊢
          rcases h2 with h2|⟨h3,h2⟩
          · exact .inl ⟨by rw [Ze3];exact h2.1,Zj8 (K:=True) (fun _=>hr.fl) hr.names (fun _ _ h=>h) (fun _=>rfl) (.inl trivial) h2.2⟩
          · exact .inr ⟨h3,h2.ren (K:=True) (fun _=>hr.fl) hr.names (fun _ _ h=>h) rfl (.inl trivial) rfl⟩
      apart:=by
        intro t t' e1 e2 b o1 o2 h1 a1 h2 a2 l1 l2
        obtain ⟨s,e,g',k1,k2,k3,rfl⟩:=hr.fwd t e1 h1
        obtain ⟨s',e',g'',m1,m2,m3,rfl⟩:=hr.fwd t' e2 h2
        rw [hr.lay k3] at l1
        rw [hr.lay m3] at l2
        have:=h.store.apart s s' e e' b o1 o2 k1 k2 m1 m2 l1 l2
        subst this
        rw [k1] at m1
        cases m1
        rw [k3] at m3
        cases m3
        rfl }
  keep:=h.keep
  own b hb:=h.own b (hr.own hb)
  glob n:=⟨Zx1 hr.fl (h.glob n).1,(h.glob n).2⟩
  ups x e' he ha:=by
    obtain ⟨s,e,g',k1,k2,k3,rfl⟩:=hr.fwd _ e' he
    obtain ⟨rfl,rfl⟩:=hr.up _ _ _ _ k3
    obtain ⟨e0,m1,m2,m3,m4⟩:=h.ups x e k1 k2
    exact ⟨e0,m1,m2,m3,(hr.lay k3).trans m4⟩
  src b hb:=h.src b (hr.in hb)
  lf:=h.lf
  f0:=h.f0
theorem RenStore.value (hr:RenStore σ σ' f) {x:AV} {v:Value} (hv:VR (ctx σ L w) x v):VR (ctx σ' (Zlh L f) w) (ren f x) v :=
  Zf7 (K:=True) (fun _=>hr.fl) hr.names (fun _ _ h=>h) x v (.inl trivial) hv
theorem RenStore.values (hr:RenStore σ σ' f) {x:List AV} {v:List Value} (hv:VRL (ctx σ L w) x v):VRL (ctx σ' (Zlh L f) w) (rens f x) v :=
  rens_VRL (K:=True) (fun _=>hr.fl) hr.names (fun _ _ h=>h) x v (.inl trivial) hv
end
structure Found (σ:A2) (acc:List (Site × Nat)):Prop where
  ok:∀ s g,(s,g)∈acc→∃ e,A8 σ s=some e∧e.alive=true∧e.g=g
  nodup:acc.Nodup
theorem Zka:∀ {n:Nat} {rs acc:List (Site × Nat)},Found σ acc→Found σ (N1 σ n rs acc):=by
  intro n
  induction n with
  | zero=>intro rs acc h;simpa [N1] using h
  | succ n ih =>
    intro rs acc h
    cases rs with
    | nil=>simpa [N1] using h
    | cons p r =>
      obtain ⟨s,g⟩:=p
      simp only [N1]
      split
      · exact ih h
      · rename_i hc
        cases he:A8 σ s with
        | none=>simpa [he] using ih h
        | some e =>
          simp only
          split
          · rename_i hg
            refine ih ⟨?_,?_⟩
            · intro s' g' hm
              rcases List.mem_append.1 hm with hm|hm
              · exact h.ok s' g' hm
              · simp only [Yf2,Prod.mk.injEq] at hm
                obtain ⟨rfl,rfl⟩:=hm
                exact ⟨e,he,hg⟩
            · rw [List.nodup_append]
              refine ⟨h.nodup,by simp,?_⟩
              intro x hx y hy
              simp only [Yf2] at hy
              subst hy
              rintro rfl
              exact hc (by simpa using hx)
          · exact ih h
theorem Zbz {base:Nat→Site}:∀ {acc:List (Site × Nat)} {j:Nat} {s:Site} {g:Nat} {t:Site} {g':Nat},N6 base j acc s g=some (t,g') →
    (s,g)∈acc∧((∃ x,s=.up x∧t=s∧g'=g)∨((∀ x,s≠.up x)∧∃ i,acc[i]? = some (s,g)∧t=base (j+i)∧g'=0)):=by
  intro acc
  induction acc with
  | nil=>intro j s g t g' h;simp [N6] at h
  | cons p r ih =>
    intro j s g t g' h
    obtain ⟨s1,g1⟩:=p
    simp only [N6] at h
    split at h
    · rename_i hc
      obtain ⟨rfl,rfl⟩:=hc
      refine ⟨by simp,?_⟩
      cases s1 with
      | up x=>simp only [Option.some.injEq,Prod.mk.injEq] at h;exact .inl ⟨x,rfl,h.1.symm,h.2.symm⟩
      | s n k=>simp only [Option.some.injEq,Prod.mk.injEq] at h;exact .inr ⟨by simp,0,rfl,h.1.symm,h.2.symm⟩
      | r k=>simp only [Option.some.injEq,Prod.mk.injEq] at h;exact .inr ⟨by simp,0,rfl,h.1.symm,h.2.symm⟩
    · obtain ⟨h1,h2⟩:=ih h
      refine ⟨Ygm _ h1,?_⟩
      rcases h2 with h2|⟨h2,i,h3,h4,h5⟩
      · exact .inl h2
      · exact .inr ⟨h2,i+1,by simpa using h3,by rw [h4];congr 1;omega,h5⟩
theorem Ze5 {f:Zbg}:∀ {acc:List (Site × Nat)} {t:Site} {x:Ent},(t,x)∈U3 σ f acc↔∃ s g e g',(s,g)∈acc∧A8 σ s=some e∧f s g=some (t,g')∧x = { e with g:=g',cells:=rens f e.cells }:=by
  intro acc
  induction acc with
  | nil=>intro t x;simp [U3]
  | cons p r ih =>
    intro t x
    obtain ⟨s,g⟩:=p
    constructor
    · intro h
      simp only [U3] at h
      split at h
      · rename_i e s' g' h1 h2
        rcases List.mem_cons.1 h with h|h
        · cases h;exact ⟨s,g,e,g',by simp,h1,h2,rfl⟩
        · obtain ⟨s1,g1,e1,g2,k1,k2⟩:=ih.1 h
          exact ⟨s1,g1,e1,g2,Ygm _ k1,k2⟩
      · obtain ⟨s1,g1,e1,g2,k1,k2⟩:=ih.1 h
        exact ⟨s1,g1,e1,g2,Ygm _ k1,k2⟩
    · rintro ⟨s1,g1,e1,g2,k1,k2,k3,k4⟩
      simp only [U3]
      rcases List.mem_cons.1 k1 with k1|k1
      · cases k1
        rw [k2,k3]
        simp [k4]
      · have:=ih.2 ⟨s1,g1,e1,g2,k1,k2,k3,k4⟩
        split
        · exact Ygm _ this
        · exact this
theorem Zqt:∀ {σ:A2} {t:Site} {x:Ent},(t,x) ∈ σ→(∀ y,(t,y) ∈ σ→y=x)→A8 σ t=some x:=by
  intro σ
  induction σ with
  | nil=>intro t x h;simp at h
  | cons p σ ih =>
    intro t x h hu
    obtain ⟨s,e⟩:=p
    simp only [A8]
    by_cases hs:s=t
    · subst hs
      rw [if_pos rfl,hu e (by simp)]
    · rw [if_neg hs]
      rcases List.mem_cons.1 h with h|h
      · cases h;exact absurd rfl hs
      · exact ih h fun y hy=>hu y (Ygm _ hy)
theorem Ziv {base:Nat→Site} (hinj:∀ i j,base i=base j→i=j) (hup:∀ i x,base i≠.up x) {acc:List (Site × Nat)} (hf:Found σ acc):RenStore σ (U3 σ (N6 base 0 acc) acc) (N6 base 0 acc):=by
  have inj:∀ s1 s2 g1 g2 t h1 h2,N6 base 0 acc s1 g1=some (t,h1)→N6 base 0 acc s2 g2=some (t,h2)→s1=s2:=by
    intro s1 s2 g1 g2 t h1 h2 n1 n2
    obtain ⟨_,k1⟩:=Zbz n1
    obtain ⟨_,k2⟩:=Zbz n2
    rcases k1 with ⟨x,rfl,rfl,_⟩|⟨_,i,p1,p2,_⟩<;>rcases k2 with ⟨y,rfl,q2,_⟩|⟨_,j,q1,q2,_⟩
    · exact q2
    · exact absurd q2.symm (hup _ _)
    · exact absurd (p2.symm.trans q2) (hup _ _)
    · have:=hinj _ _ (p2.symm.trans q2)
      have hij:i=j:=by omega
      subst hij
      rw [p1] at q1
      cases q1
      rfl
  refine ⟨?_,?_,inj,?_⟩
  · intro t e' h
    obtain ⟨s,g,e,g',k1,k2,k3,k4⟩:=Ze5.1 (Ze4 h)
    obtain ⟨e2,m1,m2,m3⟩:=hf.ok s g k1
    rw [k2] at m1
    cases m1
    exact ⟨s,e,g',k2,m2,by rw [m3];exact k3,k4⟩
  · intro s g t g' h
    obtain ⟨k1,_⟩:=Zbz h
    obtain ⟨e,m1,m2,m3⟩:=hf.ok s g k1
    refine ⟨e,m1,m2,m3,Zqt (Ze5.2 ⟨s,g,e,g',k1,m1,h,rfl⟩) fun y hy=>?_⟩
    obtain ⟨s2,g2,e2,g2',q1,q2,q3,q4⟩:=Ze5.1 hy
    have:=inj _ _ _ _ _ _ _ q3 h
    subst this
    rw [m1] at q2
    cases q2
    obtain ⟨e3,r1,_,r3⟩:=hf.ok _ g2 q1
    rw [m1] at r1
    cases r1
    have:g2=g:=by omega
    subst this
    rw [h] at q3
    cases q3
    exact q4
  · intro s g x g' h
    obtain ⟨_,k⟩:=Zbz h
    rcases k with ⟨y,rfl,h1,h2⟩|⟨_,i,_,h2,_⟩
    · exact ⟨h1.symm,h2⟩
    · exact absurd h2.symm (hup _ _)
end Cod
namespace Cod
open Go
variable {E:Env} {w0:World} {O0:Nat→Prop} {σ0:A2} {L0:Lay} {P:Program} {σ:A2} {L:Lay} {w:World} {o:Oper} {a:Act}
theorem Z4w {f:Nat→AV}:∀ {ks:List Nat} {t:Nat},T8 (ks.map fun k=>(k,f k)) t=if t∈ks then f t else .junk:=by
  intro ks
  induction ks with
  | nil=>intro t;simp [T8]
  | cons k ks ih =>
    intro t
    simp only [Ygq,T8,ih]
    by_cases hk:k=t
    · subst hk;simp
    · have:t∈k::ks↔t∈ks:=by simp [Ne.symm hk]
      rw [if_neg hk]
      by_cases ht:t∈ks
      · rw [if_pos ht,if_pos (this.2 ht)]
      · rw [if_neg ht,if_neg (fun h=>ht (this.1 h))]
theorem Zl5:Found σ []:=⟨by simp,by simp⟩
theorem Zx2 {A:Ann} {live:List Nat} (hl:∀ t∈live,t∈A.cross) {st:St} {N:Nat} (h:Rel E w0 O0 σ0 L0 st.st L w) (hx:Fx A (ctx st.st L w) st.sl N a) :
    ∃ L',Rel E w0 O0 σ0 L0 (Zqc live st).st L' w∧Fx A (ctx (Zqc live st).st L' w) (Zqc live st).sl N a:=by
  have hr:=Ziv (σ:=st.st) (base:=Site.s 1000000) (fun i j h=>by cases h;rfl) (fun i x h=>by cases h)
    (Zka (n:=64) (rs:=ups st.st++live.flatMap fun t=>V6 (T8 st.sl t)) (σ:=st.st) Zl5)
  refine ⟨_,hr.rel h,⟨⟨fun t=>?_,hx.fr.defers,hx.fr.size⟩,fun t ht=>?_⟩⟩
  · show VR _ (T8 (live.map fun t=>(t,ren _ (T8 st.sl t))) t) _
    rw [Z4w (f:=fun t=>ren _ (T8 st.sl t))]
    split
    · exact hr.value (hx.fr.slots t)
    · simp [VR]
  · refine hl t ?_
    have:t∈dom (live.map fun t=>(t,ren (N6 (Site.s 1000000) 0 (N1 st.st 64 (ups st.st++live.flatMap fun t=>V6 (T8 st.sl t)) [])) (T8 st.sl t))):=ht
    simpa [dom] using this
theorem res_ok {A:Ann} {st:St} {N:Nat} (h:Rel E w0 O0 σ0 L0 st.st L w) (hx:Fx A (ctx st.st L w) st.sl N a):∀ {rs:List ResultVar} {ls:List LRes} {vs:List AV},Zfm P rs=some ls→Zbp st ls=some vs →
    ∃ ys,((rs.mapM fun|.tmp t=>pure (a.tmps.getD t undef)|.cell b t=>do loadVar t (←asAddr (a.tmps.getD b undef)):Sem (List Value))).run P w=.ok ys w∧VRL (ctx st.st L w) vs ys:=by
  intro rs
  induction rs with
  | nil =>
    intro ls vs hl hv
    simp only [Zfm,Option.some.injEq] at hl
    subst hl
    simp only [Zbp,Option.some.injEq] at hv
    subst hv
    exact ⟨[],by simp,by simp [VRL]⟩
  | cons r rs ih =>
    intro ls vs hl hv
    simp only [Zfm] at hl
    split at hl
    · rename_i l ls' h1 h2
      cases hl
      simp only [Zbp] at hv
      split at hv
      · rename_i v vs' h3 h4
        cases hv
        obtain ⟨ys,k1,k2⟩:=ih h2 h4
        have key:∃ y,((match r with|.tmp t=>pure (a.tmps.getD t undef)|.cell b t=>do loadVar t (←asAddr (a.tmps.getD b undef)):Sem Value)).run P w=.ok y w∧VR (ctx st.st L w) v y:=by
          cases r with
          | tmp t =>
            simp only [Ztl,Option.some.injEq] at h1
            subst h1
            simp only [Zio,Option.some.injEq] at h3
            subst h3
            exact ⟨a.tmps.getD t undef,by simp,hx.fr.slots t⟩
          | cell b t =>
            simp only [Ztl,Yfp] at h1
            obtain ⟨n,hn,rfl⟩:=h1
            simp only [Zio] at h3
            have hs:=hx.fr.slots b
            split at h3
            · rename_i s g off hg
              rw [hg] at hs
              simp only [Option.bind_eq_some_iff] at h3
              obtain ⟨e,h5,h6⟩:=h3
              have h5':((Q9 s g).bind fun e=>Acc.ret e).run st.st=some e:=by
                rw [Acc.run_bind,h5];rfl
              obtain ⟨e',he,ha,hgg,h7⟩:=J8 h5'
              have k:=A6 h7
              subst k
              obtain ⟨bb,o',m1,m2,m3,m4⟩:=Zdg h.store hs he ha hgg
              have hout:Ziq e.cells off n v:=by
                cases n with
                | none=>exact h6
                | some n=>obtain ⟨p1,p2⟩:=Za9 h6;cases p2;exact ⟨p1,rfl⟩
              obtain ⟨y,q1,q2⟩:=Zgm (P:=P) (w:=w) (c:=ctx st.st L w) rfl hn m4 hout
              exact ⟨y,by simp [m2,asAddr,q1],q2⟩
            · cases h3
        obtain ⟨y,k3,k4⟩:=key
        refine ⟨y::ys,?_,by simp only [VRL];exact ⟨y,ys,rfl,k4,k2⟩⟩
        simp only [List.mapM_cons,Sem.run_bind,k3,Result.andThen_ok,k1,Sem.run_pure]
      · cases hv
    · cases hl
theorem Zzq {A:Ann} {st:St} {N:Nat} (h:Rel E w0 O0 σ0 L0 st.st L w) (hx:Fx A (ctx st.st L w) st.sl N a) {fn:Func} {ls:List LRes} (hl:Zfm P fn.results.toList=some ls) {v:AV} {σr:A2} (hv:Zcm ls st=some (v,σr)) :
    ∃ y L',(results fn a.tmps).run P w=.ok y w∧Rel E w0 O0 σ0 L0 σr L' w∧VR (ctx σr L' w) v y:=by
  unfold Zcm at hv
  split at hv
  · rename_i vs hvs
    simp only [Option.some.injEq,Prod.mk.injEq] at hv
    obtain ⟨rfl,rfl⟩:=hv
    obtain ⟨ys,k1,k2⟩:=res_ok (P:=P) h hx hl hvs
    have hr:=Ziv (σ:=st.st) (base:=Site.r) (fun i j h=>by cases h;rfl) (fun i x h=>by cases h)
      (Zka (n:=64) (rs:=ups st.st++refsOfs vs) (σ:=st.st) Zl5)
    refine ⟨if h:ys.toArray.size=1 then ys.toArray[0] else .tuple ys.toArray,_,?_,hr.rel h,?_⟩
    · unfold results
      have k1':((fn.results.toList.mapM fun|.tmp t=>pure (a.tmps.getD t undef)|.cell b t=>do loadVar t (←asAddr (a.tmps.getD b undef)):Sem (List Value)) >>= fun ys=>pure ys.toArray).run P w=.ok ys.toArray w:=by
        rw [Sem.run_bind,k1];rfl
      rw [Array.mapM_eq_mapM_toList,Sem.run_bind]
      have e:∀ (m:Sem (List Value)),(List.toArray <$> m)=(m >>= fun ys=>pure ys.toArray):=fun m=>by rw [map_eq_pure_bind]
      rw [e]
      erw [k1']
      rfl
    · have hv:=hr.values k2
      generalize rens (N6 Site.r 0 (N1 st.st 64 (ups st.st++refsOfs vs) [])) vs=us at hv ⊢
      have hlen:=H5 hv
      cases us with
      | nil =>
        have:ys=[]:=List.eq_nil_of_length_eq_zero (by simpa using hlen)
        subst this
        simp [Zlg,VR,VRL]
      | cons u us =>
        cases us with
        | nil =>
          simp only [VRL] at hv
          obtain ⟨y,r,rfl,h1,rfl⟩:=hv
          simpa [Zlg] using h1
        | cons u2 us =>
          have hne:ys.toArray.size≠1:=by simp [hlen]
          rw [dif_neg hne]
          simp only [Zlg,VR]
          exact ⟨_,rfl,hv⟩
  · cases hv
end Cod
namespace Cod
open Go
variable {E:Env} {w0:World} {O0:Nat→Prop} {σ0:A2} {L0:Lay} {P:Program} {σ:A2} {L:Lay} {w:World} {o:Oper} {a:Act}
def Zt3 (P:Program) (E:Env) (A:Ann) (N:Nat):Prop :=
  ∀ (call:M9),Zf8 P E call→∀ (id:Nat) (ops:Array Oper) (los los':List LOper) (os':List Oper) (π:List Nat),V2 P A ops ops.toList=some los→Zex ops.toList π=some os'→Zex los π=some los' →
    Zhx π ops.size os' los'=true→(∀ o∈ops.toList,∀ d,o.dst=some d→d<N) →
    ∀ (sl:List (Nat × AV)) (w0:World) (O0:Nat→Prop) (σ0:A2) (L0:Lay) (σ:A2) (L:Lay) (w:World) (a:Act) (r:RS) (Q:Exit→Act→World→Prop),O8 E call sl los' ⟨[],σ⟩=some r →
      X0 (N0 E call sl los' ⟨[],σ⟩) (Zly los' (Zaa π os'))=true→Rel E w0 O0 σ0 L0 σ L w→Fr (ctx σ L w) (P2 sl []) N a →
      (∀ a' w' L',Rel E w0 O0 σ0 L0 r.st L' w'→Fr (ctx r.st L' w') (P2 sl r.loc) N a'→Q .normal a' w')→(Code.region id ops true).wp P Q a w
theorem Zzr {α:Type} {l:List α}:∀ {π:List Nat} {m:List α},Zex l π=some m→∀ x∈m,x∈l:=by
  intro π
  induction π with
  | nil=>intro m h x hx;simp only [Zex,Option.some.injEq] at h;subst h;simp at hx
  | cons i π ih =>
    intro m h x hx
    simp only [Zex] at h
    split at h
    · rename_i y ys h1 h2
      cases h
      rcases List.mem_cons.1 hx with rfl|hx
      · exact List.mem_of_getElem? h1
      · exact ih h2 x hx
    · cases h
section
variable (E) (w0) (O0) (σ0) (L0) (P)
structure Fit (A:Ann) (N:Nat) (ls:List LRes) (res:AV × A2) (n:Nat) (k:List It) (Q:Exit→Act→World→Prop):Prop where
  nrm:∀ m,m≤n→∀ (st:St) (a:Act) (w:World) (L:Lay),Y8 E m ls k st=some res→Rel E w0 O0 σ0 L0 st.st L w→Fx A (ctx st.st L w) st.sl N a→Q .normal a w
  ext:∀ m,m≤n→∀ j k',T1 j k=some k'→∀ (st:St) (a:Act) (w:World) (L:Lay),Y8 E m ls k' st=some res→Rel E w0 O0 σ0 L0 st.st L w→Fx A (ctx st.st L w) st.sl N a→Q (.exit j) a w
  gto:∀ m,m<n→∀ j k',Y5 j k=some k'→∀ (st:St) (a:Act) (w:World) (L:Lay),Y8 E m ls k' st=some res→Rel E w0 O0 σ0 L0 st.st L w→Fx A (ctx st.st L w) st.sl N a→Q (.goto j) a w
  ret:∀ (st:St) (a:Act) (w:World) (L:Lay),Zcm ls st=some res→Rel E w0 O0 σ0 L0 st.st L w→Fx A (ctx st.st L w) st.sl N a→Q .ret a w
end
theorem Fit.le {A:Ann} {N:Nat} {ls:List LRes} {res:AV × A2} {n m:Nat} {k:List It} {Q:Exit→Act→World→Prop} (h:Fit E w0 O0 σ0 L0 A N ls res n k Q) (hm:m≤n):Fit E w0 O0 σ0 L0 A N ls res m k Q :=
  ⟨fun j hj=>h.nrm j (Nat.le_trans hj hm),fun j hj=>h.ext j (Nat.le_trans hj hm),fun j hj=>h.gto j (Nat.lt_of_lt_of_le hj hm),h.ret⟩
theorem Zqu {c:Code} {Q:Exit→Act→World→Prop}:∀ {n m:Nat} {a:Act} {w:World},n≤m→Code.rounds P c Q n a w→Code.rounds P c Q m a w:=by
  intro n
  induction n with
  | zero=>intro m a w _ h;exact h.elim
  | succ n ih =>
    intro m a w hm h
    obtain ⟨m,rfl⟩:∃ m',m=m'+1:=⟨m-1,by omega⟩
    rw [rounds_succ] at h ⊢
    exact Code.wp_mono (fun e a w q=>by cases e<;>first|exact ih (by omega) q|exact q) h
def Zd0 (P:Program) (c:Code) (Q:Exit→Act→World→Prop):Nat→Code→Act→World→Prop
  | 0,_,_,_=>False
  | n+1,x,a,w=>x.wp P (fun e a' w'=>match e with
    | .goto l=>(match findLabel c l with|some rest=>Zd0 P c Q n rest a' w'|none=>Q (.goto l) a' w')
    | e=>Q e a' w') a w
theorem Zqv {c:Code} {Q:Exit→Act→World→Prop}:∀ {n m:Nat} {x:Code} {a:Act} {w:World},n≤m→Zd0 P c Q n x a w→Zd0 P c Q m x a w:=by
  intro n
  induction n with
  | zero=>intro m x a w _ h;exact h.elim
  | succ n ih =>
    intro m x a w hm h
    obtain ⟨m,rfl⟩:∃ m',m=m'+1:=⟨m-1,by omega⟩
    rw [Zd0] at h ⊢
    refine Code.wp_mono (fun e a w q=>?_) h
    cases e<;>try exact q
    rename_i l
    simp only at q ⊢
    cases hf:findLabel c l with
    | none=>rw [hf] at q;exact q
    | some rest=>rw [hf] at q;exact ih (by omega) q
theorem Zt4 {c:Code} {Q:Exit→Act→World→Prop} {n:Nat} {a:Act} {w:World} (h:Zd0 P c Q n c a w):(Code.scope c).wp P Q a w:=by
  intro b k cs
  have key:∀ n x a w,Zd0 P c Q n x a w→∃ e a' w',Q e a' w'∧Arrives P (lone (b.at a (.code x::.inScope c::k)) cs w) b k cs e a' w':=by
    intro n
    induction n with
    | zero=>intro x a w h;exact h.elim
    | succ n ih =>
      intro x a w h
      rw [Zd0] at h
      obtain ⟨e,a₁,w₁,hq,harr⟩:=h b (.inScope c::k) cs
      cases e with
      | normal=>exact ⟨.normal,a₁,w₁,hq,Steps.trans harr (.one step_inScope)⟩
      | exit id=>exact ⟨.exit id,a₁,w₁,hq,fun k' hk=>harr k' (by simp [exitTo,hk])⟩
      | goto l =>
        simp only at hq
        cases hf:findLabel c l with
        | none =>
          rw [hf] at hq
          exact ⟨.goto l,a₁,w₁,hq,fun k' hk=>harr k' (by simp [gotoIn,hf,hk])⟩
        | some rest =>
          rw [hf] at hq
          obtain ⟨e₂,a₂,w₂,hq₂,harr₂⟩:=ih rest a₁ w₁ hq
          exact ⟨e₂,a₂,w₂,hq₂,.of_steps (harr _ (by simp [gotoIn,hf])) harr₂⟩
      | ret=>exact ⟨_,a₁,w₁,hq,harr⟩
      | panic ch=>exact ⟨_,a₁,w₁,hq,harr⟩
      | outgrown=>exact ⟨_,a₁,w₁,hq,harr⟩
  obtain ⟨e,a₁,w₁,hq,harr⟩:=key n c a w h
  exact ⟨e,a₁,w₁,hq,.of_steps (.one step_scope) harr⟩
theorem Z4x {A:Ann} {N:Nat}:∀ {c:Code} {lc:LCode} (l:Nat),low P A N c=some lc→(∀ rest,findLabel c l=some rest→∃ lr,P9 lc l=some lr∧low P A N rest=some lr)∧(findLabel c l=none→P9 lc l=none):=by
  intro c
  induction c with
  | seq a b iha ihb =>
    intro lc l h
    simp only [low] at h
    split at h
    · rename_i x y h1 h2
      cases h
      obtain ⟨a1,a2⟩:=iha l h1
      obtain ⟨b1,b2⟩:=ihb l h2
      cases hf:findLabel a l with
      | some r =>
        obtain ⟨lr,k1,k2⟩:=a1 r hf
        refine ⟨fun rest hr=>?_,fun hn=>?_⟩
        · simp only [findLabel,hf,Option.some.injEq] at hr
          subst hr
          exact ⟨.seq lr y,by simp [P9,k1],by simp [low,k2,h2]⟩
        · simp [findLabel,hf] at hn
      | none =>
        have k0:=a2 hf
        refine ⟨fun rest hr=>?_,fun hn=>?_⟩
        · simp only [findLabel,hf] at hr
          obtain ⟨lr,k1,k2⟩:=b1 rest hr
          exact ⟨lr,by simp [P9,k0,k1],k2⟩
        · simp only [findLabel,hf] at hn
          simp [P9,k0,b2 hn]
    · cases h
  | label m =>
    intro lc l h
    simp only [low,Option.some.injEq] at h
    subst h
    by_cases hm:m=l
    · subst hm
      exact ⟨fun rest hr=>by simp [findLabel] at hr;subst hr;exact ⟨.skip,by simp [P9],rfl⟩,fun hn=>by simp [findLabel] at hn⟩
    · exact ⟨fun rest hr=>by simp [findLabel,hm] at hr,fun _=>by simp [P9,hm]⟩
  | skip=>intro lc l h;simp only [low,Option.some.injEq] at h;subst h;exact ⟨fun rest hr=>by simp [findLabel] at hr,fun _=>rfl⟩
  | ret=>intro lc l h;simp only [low,Option.some.injEq] at h;subst h;exact ⟨fun rest hr=>by simp [findLabel] at hr,fun _=>rfl⟩
  | exit n=>intro lc l h;simp only [low,Option.some.injEq] at h;subst h;exact ⟨fun rest hr=>by simp [findLabel] at hr,fun _=>rfl⟩
  | goto n=>intro lc l h;simp only [low,Option.some.injEq] at h;subst h;exact ⟨fun rest hr=>by simp [findLabel] at hr,fun _=>rfl⟩
  | refuse s=>intro lc l h;simp [low] at h
  | rangeFunc f p a b _ _=>intro lc l h;simp [low] at h
  | scope a _ =>
    intro lc l h
    simp only [low,Yfp] at h
    obtain ⟨x,_,rfl⟩:=h
    exact ⟨fun rest hr=>by simp [findLabel] at hr,fun _=>rfl⟩
  | block k a _ =>
    intro lc l h
    simp only [low,Yfp] at h
    obtain ⟨x,_,rfl⟩:=h
    exact ⟨fun rest hr=>by simp [findLabel] at hr,fun _=>rfl⟩
  | loop a _ =>
    intro lc l h
    simp only [low] at h
    split at h
    · simp only [Yfp] at h
      obtain ⟨x,_,rfl⟩:=h
      exact ⟨fun rest hr=>by simp [findLabel] at hr,fun _=>rfl⟩
    · cases h
  | cond c a b _ _ =>
    intro lc l h
    simp only [low] at h
    split at h
    · cases h;exact ⟨fun rest hr=>by simp [findLabel] at hr,fun _=>rfl⟩
    · cases h
  | region id ops draw =>
    intro lc l h
    refine ⟨fun rest hr=>by simp [findLabel] at hr,fun _=>?_⟩
    simp only [low] at h
    split at h
    · split at h
      · cases h
      · split at h
        · split at h
          · split at h
            · cases h;rfl
            · cases h
          · cases h
        · cases h;rfl
    · cases h
theorem Zdm {n:Nat} {ls:List LRes} {k:List It} {st:St} {res:AV × A2} (h:Y8 E n ls k st=some res):∃ m,n=m+1∧(match move E (acall E m) st k with|.go k' st'=>Y8 E m ls k' st'|.done=>Zcm ls st|.stuck=>none)=some res:=by
  cases n with
  | zero=>simp [Y8] at h
  | succ m=>exact ⟨m,rfl,by rw [Y8] at h;exact h⟩
theorem Ybn {A:Ann} {N:Nat} {ls:List LRes} {res:AV × A2} (hdraw:Zt3 P E A N):∀ (n:Nat),(∀ m,m<n→Zf8 P E (acall E m))→∀ (code:Code) (lc:LCode) (k:List It) (st:St) (a:Act) (w:World) (L:Lay) (Q:Exit→Act→World→Prop),
    low P A N code=some lc→Y8 E n ls (.c lc::k) st=some res→Rel E w0 O0 σ0 L0 st.st L w→Fx A (ctx st.st L w) st.sl N a→Fit E w0 O0 σ0 L0 A N ls res n k Q→code.wp P Q a w:=by
  intro n
  induction n using Nat.strongRecOn with
  | _ n ih =>
    intro hcall code lc k st a w L Q hl hx h hf hfit
    obtain ⟨m,hm0,hy⟩:=Zdm hx
    clear hx
    subst hm0
    have hx:=hy
    clear hy
    have hcm:∀ j,j<m→Zf8 P E (acall E j):=fun j hj=>hcall j (by omega)
    cases code<;>simp only [low] at hl<;>try (cases hl;done)
    case skip =>
      cases hl
      simp only [move] at hx
      exact Go.wp_skip (hfit.nrm m (by omega) st a w L hx h hf)
    case ret =>
      cases hl
      simp only [move] at hx
      exact Go.wp_ret (hfit.ret st a w L hx h hf)
    case exit j =>
      cases hl
      simp only [move] at hx
      cases hk:T1 j k with
      | none=>rw [hk] at hx;cases hx
      | some k'=>rw [hk] at hx;exact Go.wp_exit (hfit.ext m (by omega) j k' hk st a w L hx h hf)
    case goto j =>
      cases hl
      simp only [move] at hx
      cases hk:Y5 j k with
      | none=>rw [hk] at hx;cases hx
      | some k'=>rw [hk] at hx;exact Go.wp_goto (hfit.gto m (by omega) j k' hk st a w L hx h hf)
    case label j =>
      cases hl
      simp only [move] at hx
      exact Go.wp_label (hfit.nrm m (by omega) st a w L hx h hf)
    case scope x =>
      simp only [Yfp] at hl
      obtain ⟨lx,h1,rfl⟩:=hl
      simp only [move] at hx
      have inner:∀ i,i≤m→∀ (y:Code) (ly:LCode),low P A N y=some ly→∀ (st:St) (a:Act) (w:World) (L:Lay),Y8 E i ls (.c ly::.scp lx::k) st=some res→Rel E w0 O0 σ0 L0 st.st L w→Fx A (ctx st.st L w) st.sl N a →
          Zd0 P x Q (i+1) y a w:=by
        intro i
        induction i using Nat.strongRecOn with
        | _ i ihi =>
          intro hi y ly hy st a w L hx h hf
          rw [Zd0]
          refine ih i (by omega) (fun j hj=>hcall j (by omega)) y ly _ st a w L _ hy hx h hf ⟨?_,?_,?_,?_⟩
          · intro j hj st' a' w' L' hx' h' hf'
            obtain ⟨j',hm1,hyy⟩:=Zdm hx'
            clear hx'
            subst hm1
            have hx':=hyy
            clear hyy
            simp only [move] at hx'
            exact hfit.nrm j' (by omega) st' a' w' L' hx' h' hf'
          · intro j hj j' k' hk st' a' w' L' hx' h' hf'
            exact hfit.ext j (by omega) j' k' hk st' a' w' L' hx' h' hf'
          · intro j hj j' k' hk st' a' w' L' hx' h' hf'
            obtain ⟨f1,f2⟩:=Z4x j' h1
            simp only [Y5] at hk
            simp only
            cases hfl:findLabel x j' with
            | none =>
              rw [f2 hfl] at hk
              exact hfit.gto j (by omega) j' k' hk st' a' w' L' hx' h' hf'
            | some rest =>
              obtain ⟨lr,k1,k2⟩:=f1 rest hfl
              rw [k1] at hk
              cases hk
              exact Zqv (by omega) (ihi j hj (by omega) rest lr k2 st' a' w' L' hx' h' hf')
          · intro st' a' w' L' hx' h' hf'
            exact hfit.ret st' a' w' L' hx' h' hf'
      exact Zt4 (inner m (Yfj _) x lx h1 st a w L hx h hf)
    case seq x y =>
      split at hl
      · rename_i lx ly h1 h2
        cases hl
        simp only [move] at hx
        refine Go.wp_seq (ih m (by omega) hcm x lx (.c ly::k) st a w L _ h1 hx h hf ⟨?_,?_,?_,?_⟩)
        · intro j hj st' a' w' L' hx' h' hf'
          exact ih j (by omega) (fun i hi=>hcall i (by omega)) y ly k st' a' w' L' Q h2 hx' h' hf' (hfit.le (by omega))
        · intro j hj i k' hk st' a' w' L' hx' h' hf'
          exact hfit.ext j (by omega) i k' hk st' a' w' L' hx' h' hf'
        · intro j hj i k' hk st' a' w' L' hx' h' hf'
          exact hfit.gto j (by omega) i k' hk st' a' w' L' hx' h' hf'
        · intro st' a' w' L' hx' h' hf'
          exact hfit.ret st' a' w' L' hx' h' hf'
      · cases hl
    case cond c x y =>
      split at hl
      · rename_i lc' lx ly h0 h1 h2
        cases hl
        simp only [move] at hx
        cases hv:ev E st.sl lc'<;>rw [hv] at hx<;>try (cases hx;done)
        rename_i t
        have hfr:Fr (ctx st.st L w) (P2 st.sl []) N a:=⟨hf.fr.slots,hf.fr.defers,hf.fr.size⟩
        have hc:=Zxt (E:=E) hfr (fun n=>(h.glob n).1) h0
        have hev:evR E st.sl [] lc'=ev E st.sl lc':=by cases lc'<;>rfl
        rw [hev,hv] at hc
        simp only [VR] at hc
        refine Go.wp_cond hc ?_
        cases t with
        | true=>simp only [cond_true,if_true] at hx ⊢;exact ih m (by omega) hcm x lx k st a w L Q h1 hx h hf (hfit.le (by omega))
        | false=>simp only [cond_false,Bool.false_eq_true,if_false] at hx ⊢;exact ih m (by omega) hcm y ly k st a w L Q h2 hx h hf (hfit.le (by omega))
      · cases hl
    case block j x =>
      simp only [Yfp] at hl
      obtain ⟨lx,h1,rfl⟩:=hl
      simp only [move] at hx
      refine Go.wp_block (ih m (by omega) hcm x lx (.blk j::k) st a w L _ h1 hx h hf ⟨?_,?_,?_,?_⟩)
      · intro i hi st' a' w' L' hx' h' hf'
        obtain ⟨i',hm1,hy⟩:=Zdm hx'
        clear hx'
        subst hm1
        have hx':=hy
        clear hy
        simp only [move] at hx'
        exact hfit.nrm i' (by omega) st' a' w' L' hx' h' hf'
      · intro i hi j' k' hk st' a' w' L' hx' h' hf'
        simp only [T1] at hk
        simp only [Exit.inBlock]
        by_cases hj:j=j'
        · subst hj
          rw [if_pos rfl] at hk ⊢
          cases hk
          exact hfit.nrm i (by omega) st' a' w' L' hx' h' hf'
        · rw [if_neg hj] at hk
          rw [if_neg (Ne.symm hj)]
          exact hfit.ext i (by omega) j' k' hk st' a' w' L' hx' h' hf'
      · intro i hi j' k' hk st' a' w' L' hx' h' hf'
        exact hfit.gto i (by omega) j' k' hk st' a' w' L' hx' h' hf'
      · intro st' a' w' L' hx' h' hf'
        exact hfit.ret st' a' w' L' hx' h' hf'
    case loop x =>
      split at hl
      · rename_i hlive
        simp only [Yfp] at hl
        obtain ⟨lx,h1,rfl⟩:=hl
        simp only [move] at hx
        have hlive':∀ t∈tab A.live (Zan x),t∈A.cross:=by
          simpa [Ygs] using hlive
        have inner:∀ i,i≤m→∀ (st:St) (a:Act) (w:World) (L:Lay),Y8 E i ls (.c lx::.lp (tab A.live (Zan x)) lx::k) st=some res→Rel E w0 O0 σ0 L0 st.st L w→Fx A (ctx st.st L w) st.sl N a →
            Code.rounds P x Q (i+1) a w:=by
          intro i
          induction i using Nat.strongRecOn with
          | _ i ihi =>
            intro hi st a w L hx h hf
            rw [rounds_succ]
            refine ih i (by omega) (fun j hj=>hcall j (by omega)) x lx _ st a w L _ h1 hx h hf ⟨?_,?_,?_,?_⟩
            · intro j hj st' a' w' L' hx' h' hf'
              obtain ⟨j',hm1,hy⟩:=Zdm hx'
              clear hx'
              subst hm1
              have hx':=hy
              clear hy
              simp only [move] at hx'
              obtain ⟨L2,h2,hf2⟩:=Zx2 hlive' h' hf'
              exact Zqu (by omega) (ihi j' (by omega) (by omega) _ a' w' L2 hx' h2 hf2)
            · intro j hj j' k' hk st' a' w' L' hx' h' hf'
              exact hfit.ext j (by omega) j' k' hk st' a' w' L' hx' h' hf'
            · intro j hj j' k' hk st' a' w' L' hx' h' hf'
              exact hfit.gto j (by omega) j' k' hk st' a' w' L' hx' h' hf'
            · intro st' a' w' L' hx' h' hf'
              exact hfit.ret st' a' w' L' hx' h' hf'
        obtain ⟨L2,h2,hf2⟩:=Zx2 hlive' h hf
        exact wp_loop_rounds (m+1) (inner m (Yfj _) _ a w L2 hx h2 hf2)
      · cases hl
    case region id ops draw =>
      split at hl
      · rename_i los h1
        split at hl
        · cases hl
        · rename_i hk
          simp only [Ygu,Bool.not_eq_false] at hk
          have hk':Zjw A N ops.toList (tab A.keep id)=true:=by simpa using hk
          have hd:∀ o∈ops.toList,∀ d,o.dst=some d→d<N:=by
            intro o ho d hod
            simp only [Zjw,Yfz,Ygs] at hk'
            have:=hk'.1 o ho
            rw [hod] at this
            simp only [Yfz,decide_eq_true_eq] at this
            exact this.1
          have hfr:Fr (ctx st.st L w) (P2 st.sl []) N a:=⟨hf.fr.slots,hf.fr.defers,hf.fr.size⟩
          have hdom:∀ {l:List LOper} {r:RS},(∀ x∈l,x∈los)→O8 E (acall E m) st.sl l ⟨[],st.st⟩=some r→∀ t∈dom r.loc,∃ o∈ops.toList,o.dst=some t:=by
            intro l r hlm hr t ht
            rcases Z4v hr ht with ⟨lo,h2,h3⟩|h2
            · obtain ⟨o,ho,hod⟩:=Zng h1 lo (hlm lo h2)
              exact ⟨o,ho,hod.symm.trans h3⟩
            · simp [dom] at h2
          split at hl
          · rename_i hdr
            split at hl
            · rename_i os ls hp1 hp2
              split at hl
              · rename_i hdok
                cases hl
                simp only [move] at hx
                cases hr:O8 E (acall E m) st.sl ls ⟨[],st.st⟩ with
                | none=>rw [hr] at hx;cases hx
                | some r =>
                  rw [hr] at hx
                  simp only at hx
                  by_cases hcalm:X0 (N0 E (acall E m) st.sl ls ⟨[],st.st⟩) (Zly ls (Zaa (Zqj A id ops.size) os))=true
                  · rw [if_pos hcalm] at hx
                    subst hdr
                    refine hdraw (acall E m) (hcall m (by omega)) id ops los ls os _ h1 hp1 hp2 hdok hd st.sl w0 O0 σ0 L0 st.st L w a r Q hr hcalm h hfr (fun a' w' L' k1 k2=>?_)
                    exact hfit.nrm m (by omega) ⟨Za1 r.loc st.sl (tab A.keep id) st.sl,r.st⟩ a' w' L' hx k1 (Fx.region hf.cross k2 hk' (hdom (Zzr hp2) hr))
                  · rw [if_neg hcalm] at hx;cases hx
              · cases hl
            · cases hl
          · rename_i hdr
            cases hl
            simp only [move] at hx
            have hdr':draw=false:=by simpa using hdr
            subst hdr'
            cases hr:O8 E (acall E m) st.sl los ⟨[],st.st⟩ with
            | none=>rw [hr] at hx;cases hx
            | some r =>
              rw [hr] at hx
              refine wp_region ?_
              rw [List.range_eq_range',show ops.size=ops.toList.length from rfl]
              exact Zzp (hcall m (by omega)) hd (k:=0) (by simp) h1 h hfr hr (fun a' w' L' k1 k2 k3 =>
                hfit.nrm m (by omega) ⟨Za1 r.loc st.sl (tab A.keep id) st.sl,r.st⟩ a' w' L' hx k1 (Fx.region hf.cross k3 hk' (hdom (fun _ h=>h) hr)))
      · cases hl
end Cod
namespace Cod
open Go
variable {E:Env} {w0:World} {O0:Nat→Prop} {σ0:A2} {L0:Lay} {P:Program} {σ:A2} {L:Lay} {w:World} {o:Oper} {a:Act}
def Zd1 (P:Program) (E:Env):Prop :=
  ∀ (f:Nat) (h:List AV→A2→Option (AV × A2)),E.known f=some h→∀ (args:List AV) (σa:A2) (v:AV) (σr:A2),h args σa=some (v,σr)→∀ (La:Lay) (w:World) (vs:List Value),Rel E w (I6 σa La) σa La σa La w→VRL (ctx σa La w) args vs →
    (∀ s e,A8 σa s=some e→∃ x,s=.up x)→Zja P f vs.toArray w (fun y w'=>∃ La',Rel E w (I6 σa La) σa La σr La' w'∧VR (ctx σr La' w') v y)
def Ziw (P:Program) (E:Env):Prop :=
  ∀ (f:Nat) (l:LFn),E.fn f=some l→∃ (A:Ann) (fn:Func),P.funcs[f]? = some fn∧Z34 P A fn=some l∧(fn.name == "runtime.NumGoroutine")=false∧Zt3 P E A fn.ntmps
theorem Zqw:∀ {args:List AV} {i t:Nat},T8 (params i args) t=if t<i then .junk else (args[t-i]?).getD .junk:=by
  intro args
  induction args with
  | nil=>intro i t;simp [params,T8]
  | cons x args ih =>
    intro i t
    simp only [params,T8,ih]
    by_cases h1:i=t
    · subst h1;simp
    · by_cases h2:t<i
      · rw [if_neg h1,if_pos (by omega),if_pos h2]
      · rw [if_neg h1,if_neg (by omega),if_neg h2]
        obtain ⟨k,hk⟩:∃ k,t-i=k+1:=⟨t-i-1,by omega⟩
        rw [hk,show t-(i+1)=k by omega]
        simp
theorem Zt5:∀ {args:List AV} {i t:Nat},t∈dom (params i args)→i≤t∧t<i+args.length:=by
  intro args
  induction args with
  | nil=>intro i t h;simp [params,dom] at h
  | cons x args ih =>
    intro i t h
    simp only [params,dom,Ygq,Ygr] at h
    rcases h with h|h
    · subst h;simp
    · obtain ⟨h1,h2⟩:=ih h
      simp only [Yf0]
      omega
theorem Zab {f:Nat} {fn:Func} {c:Code} (hf:P.funcs[f]? = some fn) (hb:fn.body=some c) (hn:(fn.name == "runtime.NumGoroutine")=false) {args:Array Value} {R:Value→World→Prop}
    (h:Calls P f args w (fun e w'=>∃ y,e=.returned y∧R y w')):Zja P f args w R:=by
  intro o a next Q hn'
  have hrun:(callFunc f args).run P w=.ok (.enter f args) w:=by
    have hn2:¬ (fn.name = "runtime.NumGoroutine"):=by simpa using hn
    simp [callFunc,run_program,hf,hn2,hb]
  rw [hrun]
  show Calls P f args w _
  refine Calls.mono h fun e w' hR=>?_
  obtain ⟨y,rfl,hR⟩:=hR
  exact hn' y w' hR
theorem Z4y (hk:Zd1 P E) (hfn:Ziw P E):∀ n,Zf8 P E (acall E n):=by
  intro n
  induction n using Nat.strongRecOn with
  | _ n ih =>
    intro f args σa v σr hc La w vs h hv hup
    cases n with
    | zero=>simp [acall] at hc
    | succ n =>
      rw [acall] at hc
      cases hkn:E.known f with
      | some g =>
        rw [hkn] at hc
        exact hk f g hkn args σa v σr hc La w vs h hv hup
      | none =>
        rw [hkn] at hc
        simp only at hc
        cases hl:E.fn f with
        | none=>rw [hl] at hc;cases hc
        | some l =>
          rw [hl] at hc
          simp only at hc
          obtain ⟨A,fn,hf,hlow,hname,hdraw⟩:=hfn f l hl
          cases hnp:(args.length==l.np) with
          | false=>rw [hnp] at hc;cases hc
          | true =>
            rw [hnp] at hc
            simp only [cond_true] at hc
            simp only [beq_iff_eq] at hnp
            unfold Z34 at hlow
            split at hlow
            · rename_i c hb
              split at hlow
              · rename_i hchk
                simp only [Yfz,decide_eq_true_eq,Ygs,Ygw] at hchk
                split at hlow
                · rename_i lc lr hlc hlr
                  cases hlow
                  simp only at hc hnp
                  refine Zab hf hb hname (calls_of_wp hf hb ?_)
                  have hvl:=H5 hv
                  have hfin:∀ (st:St) (a:Act) (w':World) (L:Lay),Zcm lr st=some (v,σr)→Rel E w (I6 σa La) σa La st.st L w'→Fx A (ctx st.st L w') st.sl fn.ntmps a →
                      a.defers=[]∧∃ y,(results fn a.tmps).run P w'=.ok y w'∧∃ y',Ending.returned y=.returned y'∧∃ La',Rel E w (I6 σa La) σa La σr La' w'∧VR (ctx σr La' w') v y':=by
                    intro st a w' L hfi hr hx
                    obtain ⟨y,L',k1,k2,k3⟩:=Zzq (P:=P) hr hx hlr hfi
                    exact ⟨hx.fr.defers,y,k1,y,rfl,L',k2,k3⟩
                  refine Ybn (w0:=w) (O0:=I6 σa La) (σ0 := σa) (L0:=La) (ls:=lr) (res:=(v,σr)) hdraw n (fun m hm=>ih m (by omega)) c lc [] ⟨params 0 args,σa⟩ _ w La _ hlc hc h ?_ ⟨?_,?_,?_,?_⟩
                  · refine ⟨⟨fun t=>?_,rfl,?_⟩,fun t ht=>?_⟩
                    · show VR _ (T8 (params 0 args) t) _
                      rw [Zqw]
                      simp only [Nat.not_lt_zero,if_false,Nat.sub_zero]
                      cases ha:args[t]? with
                      | none=>simp [VR]
                      | some x =>
                        obtain ⟨y,h1,h2⟩:=Zam hv ha
                        have hlt:=(List.getElem?_eq_some_iff.1 h1).1
                        simp only [Ygp]
                        rw [Array.getD_eq_getD_getElem?,Array.getElem?_append_left (by simpa using hlt)]
                        rw [show vs.toArray[t]? = some y by simpa using h1]
                        exact h2
                    · simp only [Array.size_append,List.size_toArray,Array.size_replicate]
                      omega
                    · have:=Zt5 ht
                      have h2:=hchk.1 t (by omega)
                      simpa using h2
                  · intro m hm st a w' L hx hr hxx
                    obtain ⟨m',hm',hy⟩:=Zdm hx
                    exact hfin st a w' L hy hr hxx
                  · intro m hm j k' hk' st a w' L hx
                    simp [T1] at hk'
                  · intro m hm j k' hk' st a w' L hx
                    simp [Y5] at hk'
                  · intro st a w' L hx hr hxx
                    exact hfin st a w' L hx hr hxx
                · cases hlow
              · cases hlow
            · cases hlow
end Cod
namespace Cod
open Go
variable {E:Env}
theorem Zh3 {α:Type}:∀ (x:Acc α) {σ σ':A2},(∀ s∈x.reads σ,A8 σ' s=A8 σ s)→x.run σ'=x.run σ∧x.reads σ'=x.reads σ
  | .ret _,_,_,_=>⟨rfl,rfl⟩
  | .fail,_,_,_=>⟨rfl,rfl⟩
  | .get s k,σ,σ',h=>by
    have h1:A8 σ' s=A8 σ s:=h s (by simp [Acc.reads])
    have h2:=Zh3 (k (A8 σ s)) (σ := σ) (σ' := σ') (fun t ht=>h t (by simp [Acc.reads,ht]))
    simp only [Acc.run,Acc.reads,h1]
    exact ⟨h2.1,by rw [h2.2]⟩
theorem Zix {ρ ρ':LO→AV}:∀ {ps:List (Nat × Nat × LO)} {r:Option (List AV)},(∀ x∈ps.map (·.2.2),ρ x = ρ' x)→Zak ρ ps r=Zak ρ' ps r:=by
  intro ps
  induction ps with
  | nil=>intro r _;rfl
  | cons p ps ih =>
    intro r h
    obtain ⟨o,n,x⟩:=p
    cases r with
    | none=>rfl
    | some cells =>
      simp only [Zak]
      rw [h x (by simp)]
      exact ih fun y hy=>h y (by simp [hy])
theorem Zt6 {call:M9} {d:Nat} {ρ ρ':LO→AV} (op:LOp) (h:∀ x∈Zxs op,ρ x = ρ' x):step call ρ d op=step call ρ' d op:=by
  cases op<;>simp only [Zxs] at h<;>simp only [step]
  case build z ps=>rw [Zix h]
  case bslice z n c ps=>rw [Zix h]
  case mkfn f xs=>rw [Ygx h]
  case call f xs t=>rw [h f (by simp),Ygx (fun x hx=>h x (by simp [hx]))]
  case sl sz arr x lo hi =>
    rw [h x (by simp)]
    congr 1
    · cases lo with|none=>rfl|some l=>simp [h l (by simp)]
    · cases hi with|none=>rfl|some l=>simp [h l (by simp)]
  case slm sz x lo hi mx =>
    rw [h x (by simp),h hi (by simp),h mx (by simp)]
    congr 1
    cases lo with|none=>rfl|some l=>simp [h l (by simp)]
  case sls x lo hi =>
    rw [h x (by simp)]
    congr 1
    · cases lo with|none=>rfl|some l=>simp [h l (by simp)]
    · cases hi with|none=>rfl|some l=>simp [h l (by simp)]
  all_goals (try simp_all)
end Cod
namespace Cod
open Go
variable {E:Env}
def Lt:Acc (AV × Ups)→Prop
  | .ret r=>r.2=[]
  | .fail=>True
  | .get _ k=>∀ e,Lt (k e)
def Pu {α:Type}:Acc α→Prop
  | .get _ _=>False
  | _=>True
theorem Lt.run:∀ {x:Acc (AV × Ups)},Lt x→∀ {σ:A2} {r:AV × Ups},x.run σ=some r→r.2=[]
  | .ret r,h,σ,r',hr=>by have k:=A6 hr;subst k;exact h
  | .fail,_,σ,r',hr=>A7 hr
  | .get s k,h,σ,r',hr=>Lt.run (h (A8 σ s)) hr
theorem Pu.reads {α:Type}:∀ {x:Acc α},Pu x→∀ {σ:A2},x.reads σ=[]
  | .ret _,_,_=>rfl
  | .fail,_,_=>rfl
  | .get _ _,h,_=>h.elim
theorem Lt.one {x:AV}:Lt (one x):=rfl
theorem Lt.ite {c:Prop} [Decidable c] {x y:Acc (AV × Ups)} (hx:Lt x) (hy:Lt y):Lt (if c then x else y):=by split<;>assumption
theorem Lt.optV {x:Option AV}:Lt (optV x):=by cases x<;>first|trivial|rfl
theorem Lt.bind {α:Type}:∀ {x:Acc α} {f : α→Acc (AV × Ups)},(∀ a,Lt (f a))→Lt (x.bind f)
  | .ret a,f,h=>h a
  | .fail,_,_=>trivial
  | .get s k,f,h=>fun e=>Lt.bind (x:=k e) h
theorem Lt.still1 {s:Site} {g:Nat} {x:AV}:Lt (still1 s g x):=Lt.bind fun _=>rfl
theorem Lt.aggV {cs:List AV} {o n:Nat}:Lt (aggV cs o n):=Lt.ite rfl trivial
theorem Pu.ite {α:Type} {c:Prop} [Decidable c] {x y:Acc α} (hx:Pu x) (hy:Pu y):Pu (if c then x else y):=by split<;>assumption
theorem Pu.optV {x:Option AV}:Pu (optV x):=by cases x<;>trivial
theorem Pu.aggV {cs:List AV} {o n:Nat}:Pu (aggV cs o n):=Pu.ite trivial trivial
theorem Zx3 {c:Prop} [Decidable c] {r:AV × Ups} (h:r.2=[]):Pu (if c then Acc.ret r else .fail)∧Lt (if c then Acc.ret r else .fail):=⟨Pu.ite trivial trivial,Lt.ite h trivial⟩
theorem Zx4 {call:M9} {ρ:LO→AV} {d:Nat} {op:LOp} (h:N8 op=0):Pu (step call ρ d op)∧Lt (step call ρ d op):=by
  cases op<;>(try (simp [N8] at h;done))<;>simp only [step]
  case mv x=>exact ⟨trivial,rfl⟩
  case pick c a b=>cases ρ c<;>first|exact ⟨trivial,trivial⟩|exact ⟨trivial,rfl⟩
  case build z ps=>cases Zak ρ ps (some z)<;>first|exact ⟨trivial,trivial⟩|exact ⟨trivial,rfl⟩
  case bin op x y=>exact ⟨Pu.optV,Lt.optV⟩
  case eqb n x y=>exact ⟨Pu.optV,Lt.optV⟩
  case eqa n x y z=>cases ρ y<;>cases ρ z<;>first|exact ⟨trivial,trivial⟩|exact ⟨Pu.optV,Lt.optV⟩
  case un op x=>exact ⟨Pu.optV,Lt.optV⟩
  case cvi k x=>cases ρ x<;>first|exact ⟨trivial,trivial⟩|exact ⟨trivial,rfl⟩
  case r2s x=>cases ρ x<;>first|exact ⟨trivial,trivial⟩|exact ⟨trivial,rfl⟩
  case s2s x=>cases ρ x<;>first|exact ⟨trivial,trivial⟩|exact ⟨trivial,rfl⟩
  case mkif t x =>
    cases ρ x<;>simp only [Zln,one]<;>exact Zx3 rfl
  case mkfn f xs=>exact ⟨trivial,rfl⟩
  case fld x o n=>cases n<;>cases ρ x<;>first|exact ⟨trivial,trivial⟩|exact ⟨Pu.optV,Lt.optV⟩|exact ⟨Pu.aggV,Lt.aggV⟩
  case ix sz arr agg x i =>
    cases arr with
    | none =>
      cases ρ x<;>cases ρ i<;>first|exact ⟨trivial,trivial⟩|skip
      rename_i t k j
      simp only [ixV]
      split
      · cases t[j.toNat]? <;> first|exact ⟨trivial,trivial⟩|exact ⟨trivial,rfl⟩
      · exact ⟨trivial,trivial⟩
    | some n =>
      cases ρ x<;>cases ρ i<;>first|exact ⟨trivial,trivial⟩|skip
      simp only [ixV]
      split
      · cases agg
        · exact ⟨Pu.optV,Lt.optV⟩
        · exact ⟨trivial,rfl⟩
      · exact ⟨trivial,trivial⟩
  case sls x lo hi =>
    generalize loV (lo.map ρ)=l
    generalize hiV (Zal none (ρ x)) (hi.map ρ)=h
    cases ρ x<;>first|exact ⟨trivial,trivial⟩|skip
    cases l<;>first|exact ⟨trivial,trivial⟩|skip
    cases h<;>first|exact ⟨trivial,trivial⟩|exact Zx3 rfl
  case ext x i=>cases ρ x<;>first|exact ⟨trivial,trivial⟩|exact ⟨Pu.optV,Lt.optV⟩
  case lens x=>cases ρ x<;>first|exact ⟨trivial,trivial⟩|exact ⟨trivial,rfl⟩
  case min x y=>cases ρ x<;>cases ρ y<;>first|exact ⟨trivial,trivial⟩|exact Zx3 rfl
  case max x y=>cases ρ x<;>cases ρ y<;>first|exact ⟨trivial,trivial⟩|exact Zx3 rfl
  case cap x=>cases ρ x<;>first|exact ⟨trivial,trivial⟩|exact ⟨trivial,rfl⟩
  case stop=>exact ⟨trivial,trivial⟩
theorem Zkb {c:Prop} [Decidable c] {r:AV × Ups} (h:r.2=[]):Lt (if c then Acc.ret r else .fail):=Lt.ite h trivial
theorem Znh {c:Prop} [Decidable c] {s:Site} {g:Nat} {x:AV}:Lt (if c then still1 s g x else .fail):=Lt.ite Lt.still1 trivial
theorem Z4z {x:AV}:Lt (Zth x):=by
  cases x<;>first|trivial|(refine Lt.bind fun p=>?_;cases bytesOf p.1<;>first|trivial|rfl)
theorem Z40 {call:M9} {ρ:LO→AV} {d:Nat} {op:LOp} (h:N8 op=1):Lt (step call ρ d op):=by
  cases op<;>(try (simp [N8] at h;done))<;>simp only [step]
  case ld n x =>
    cases ρ x<;>cases n<;>first|trivial|exact Lt.optV|exact Lt.aggV|exact Lt.bind fun _=>Lt.optV|exact Lt.bind fun _=>Lt.aggV
  case nilck x=>cases ρ x<;>first|trivial|rfl|exact Lt.still1
  case eqn kd neg x y =>
    refine Lt.bind fun p=>Lt.bind fun q=>?_
    unfold eqnB
    cases (p||q)<;>first|trivial|rfl
  case b2s x=>exact Z4z
  case b2b x=>cases ρ x<;>first|trivial|exact Lt.bind fun _=>Zkb rfl
  case sl sz arr x lo hi =>
    generalize loV (lo.map ρ)=l
    generalize hiV (Zal arr (ρ x)) (hi.map ρ)=h
    generalize ρ x=v
    cases l<;>first|trivial|skip
    cases h<;>first|trivial|skip
    rename_i k i k' j
    simp only [slV]
    refine Lt.ite ?_ trivial
    cases arr<;>cases v<;>first|trivial|rfl|exact Lt.bind fun _=>Zkb rfl|exact Zkb rfl|exact Znh
  case slm sz x lo hi mx =>
    generalize loV (lo.map ρ)=l
    generalize ρ hi=h
    generalize ρ mx=m
    generalize ρ x=v
    cases l<;>first|trivial|skip
    cases h<;>first|trivial|skip
    cases m<;>first|trivial|skip
    simp only [Zm0]
    refine Lt.ite ?_ trivial
    cases v<;>first|trivial|rfl|exact Lt.bind fun _=>Zkb rfl|exact Zkb rfl|exact Znh
  case fa x o=>cases ρ x<;>first|trivial|rfl|exact Lt.still1
  case ia sz arr x i =>
    cases arr<;>cases ρ x<;>cases ρ i<;>first|trivial|exact Zkb rfl|exact Znh
  case s2a n sz x=>cases ρ x<;>first|trivial|exact Zkb rfl|exact Znh
  case len arr x=>cases arr<;>cases ρ x<;>first|trivial|rfl|exact Lt.still1
end Cod
namespace Cod
open Go
theorem Zni {π:List Nat}:∀ {os:List Oper} {acc:List Nat},∃ r,Zgl π os acc=acc++r:=by
  intro os
  induction os with
  | nil=>intro acc;exact ⟨[],by simp [Zgl]⟩
  | cons o os ih =>
    intro acc
    obtain ⟨r,h⟩:=ih (acc:=acc++[Zey π acc o])
    exact ⟨Zey π acc o::r,by rw [Zgl,h];simp⟩
theorem Zzs {π:List Nat}:∀ {os:List Oper} {acc:List Nat} {k:Nat} {o:Oper},os[k]? = some o→∃ acc',acc'.length=acc.length+k∧(∀ i,i<acc'.length→acc'[i]? = (Zgl π os acc)[i]?)∧(Zgl π os acc)[acc.length+k]? = some (Zey π acc' o):=by
  intro os
  induction os with
  | nil=>intro acc k o h;simp at h
  | cons x os ih =>
    intro acc k o h
    simp only [Zgl]
    cases k with
    | zero =>
      simp only [List.getElem?_cons_zero,Option.some.injEq] at h
      subst h
      obtain ⟨r,hr⟩:=Zni (os:=os) (acc:=acc++[Zey π acc x])
      refine ⟨acc,by simp,fun i hi=>?_,?_⟩
      · rw [hr,Yga,List.getElem?_append_left hi]
      · rw [hr];simp
    | succ k =>
      obtain ⟨acc',h1,h2,h3⟩:=ih (acc:=acc++[Zey π acc x]) (k:=k) (o:=o) (by simpa using h)
      simp only [List.length_append,Yf0,Ygy] at h1 h3
      exact ⟨acc',by omega,h2,by rw [show acc.length+(k+1)=acc.length+(0+1)+k by omega];exact h3⟩
theorem Z41 {π acc:List Nat} {o:Oper} {i:Nat} (h:(Zey π acc o).testBit i=true):∃ e∈o.after,Region.binds .any e=true∧(i = π.idxOf e.on∨(acc.getD (π.idxOf e.on) 0).testBit i=true):=by
  unfold Zey at h
  have key:∀ (l:List _) (s:Nat),(l.foldl (fun s e=>if Region.binds .any e then s ||| 2 ^ π.idxOf e.on ||| acc.getD (π.idxOf e.on) 0 else s) s).testBit i=true →
      s.testBit i=true∨∃ e∈l,Region.binds .any e=true∧(i = π.idxOf e.on∨(acc.getD (π.idxOf e.on) 0).testBit i=true):=by
    intro l
    induction l with
    | nil=>intro s h;exact .inl h
    | cons e l ih =>
      intro s h
      simp only [Yfy] at h
      rcases ih _ h with h1|⟨e',h1,h2⟩
      · split at h1
        · rename_i hb
          rw [Nat.testBit_or,Nat.testBit_or,Nat.testBit_two_pow] at h1
          simp only [Ygt,decide_eq_true_eq] at h1
          rcases h1 with (h1|h1)|h1
          · exact .inl h1
          · exact .inr ⟨e,by simp,hb,.inl h1.symm⟩
          · exact .inr ⟨e,by simp,hb,.inr h1⟩
        · exact .inl h1
      · exact .inr ⟨e',Ygm _ h1,h2⟩
  rcases key _ 0 h with h1|⟨e,h1,h2⟩
  · simp at h1
  · exact ⟨e,by simpa using h1,h2⟩
end Cod
namespace Cod
open Go
variable {E:Env}
theorem Zzt {sl loc loc':List (Nat × AV)} {x:LO} (h:∀ n,x=.t n→P2 sl loc' n=P2 sl loc n):evR E sl loc' x=evR E sl loc x:=by
  cases x with
  | t n=>exact h n rfl
  | _=>rfl
theorem Z42 {lo:LOper} {n:Nat} (h:LO.t n∈Zxs lo.op):n∈V8 lo:=by
  unfold V8
  exact Ygo _ (List.mem_filterMap.2 ⟨.t n,h,rfl⟩)
theorem effect {call:M9} {sl:List (Nat × AV)} {lo:LOper} {r r':RS} (h:opR E call sl lo r=some r') :
    ∃ v u,r'=Za0 r lo.dst v u∧u.map (·.1)=(R0 E call sl lo r).2 ∧
      ∀ r2:RS,(∀ t∈V8 lo,P2 sl r2.loc t=P2 sl r.loc t)→(∀ s∈(R0 E call sl lo r).1,A8 r2.st s=A8 r.st s)→opR E call sl lo r2=some (Za0 r2 lo.dst v u):=by
  have hstep:∀ r2:RS,(∀ t∈V8 lo,P2 sl r2.loc t=P2 sl r.loc t)→step call (evR E sl r2.loc) (U2 lo.dst) lo.op=step call (evR E sl r.loc) (U2 lo.dst) lo.op:=by
    intro r2 h1
    exact Zt6 lo.op fun x hx=>Zzt fun n hn=>h1 n (Z42 (by rw [←hn];exact hx))
  unfold opR at h
  cases hg:lo.guard with
  | none =>
    rw [hg] at h
    simp only at h
    split at h
    · rename_i v u hr
      cases h
      refine ⟨v,u,rfl,by simp [R0,hg,hr],fun r2 h1 h2=>?_⟩
      have hl:=Zh3 (step call (evR E sl r.loc) (U2 lo.dst) lo.op) (σ:=r.st) (σ':=r2.st) (fun s hs=>h2 s (by simpa [R0,hg] using hs))
      simp only [opR,hg,hstep r2 h1,hl.1,hr]
    · cases h
  | some gw =>
    obtain ⟨g,want⟩:=gw
    rw [hg] at h
    simp only at h
    have hgs:g∈V8 lo:=by simp [V8,hg]
    have hgv:∀ r2:RS,(∀ t∈V8 lo,P2 sl r2.loc t=P2 sl r.loc t)→evR E sl r2.loc (.t g)=evR E sl r.loc (.t g):=fun r2 h1=>h1 g hgs
    split at h
    · rename_i b hb
      cases hbw:(b==want) with
      | true =>
        rw [hbw] at h
        simp only [cond_true] at h
        split at h
        · rename_i v u hr
          cases h
          refine ⟨v,u,rfl,by simp [R0,hg,hb,hbw,hr],fun r2 h1 h2=>?_⟩
          have hl:=Zh3 (step call (evR E sl r.loc) (U2 lo.dst) lo.op) (σ:=r.st) (σ':=r2.st) (fun s hs=>h2 s (by simpa [R0,hg,hb,hbw] using hs))
          simp only [opR,hg,hgv r2 h1,hb,hbw,cond_true,hstep r2 h1,hl.1,hr]
        · cases h
      | false =>
        rw [hbw] at h
        simp only [cond_false,Option.some.injEq] at h
        subst h
        refine ⟨.und,[],rfl,by simp [R0,hg,hb,hbw],fun r2 h1 h2=>?_⟩
        simp only [opR,hg,hgv r2 h1,hb,hbw,cond_false]
    · rename_i hb
      cases h
      refine ⟨.und,[],rfl,by simp [R0,hg,hb],fun r2 h1 h2=>?_⟩
      simp only [opR,hg,hgv r2 h1,hb]
    · cases h
end Cod
namespace Cod
open Go
variable {E:Env}
theorem Zl6:∀ {l m:List Nat},l.Pairwise (· < ·)→m.Pairwise (· < ·)→(∀ x,x∈l↔x∈m)→l=m:=by
  intro l
  induction l with
  | nil =>
    intro m _ _ h
    cases m with
    | nil=>rfl
    | cons y m=>have:=(h y).2 (by simp);simp at this
  | cons x l ih =>
    intro m hl hm h
    cases m with
    | nil=>have:=(h x).1 (by simp);simp at this
    | cons y m =>
      rw [List.pairwise_cons] at hl hm
      have hxy:x=y:=by
        have h1:=(h x).1 (by simp)
        have h2:=(h y).2 (by simp)
        rcases List.mem_cons.1 h1 with h1|h1
        · exact h1
        · rcases List.mem_cons.1 h2 with h2|h2
          · exact h2.symm
          · have a1:=hm.1 x h1
            have a2:=hl.1 y h2
            omega
      subst hxy
      refine congrArg (x :: ·) (ih hl.2 hm.2 fun z=>⟨fun hz=>?_,fun hz=>?_⟩)
      · rcases List.mem_cons.1 ((h z).1 (Ygm _ hz)) with h1|h1
        · subst h1;exact absurd (hl.1 z hz) (by omega)
        · exact h1
      · rcases List.mem_cons.1 ((h z).2 (Ygm _ hz)) with h1|h1
        · subst h1;exact absurd (hm.1 z hz) (by omega)
        · exact h1
theorem Zgw (n:Nat):(List.range n).Pairwise (· < ·):=List.pairwise_lt_range
abbrev Eff:=Option Nat × AV × Ups
def apE (zs:List Eff) (r:RS) (k:Nat):RS:=match zs[k]? with|some (d,v,u)=>Za0 r d v u|none=>r
theorem Zbi {β:Type} {zs:List Eff} (g:RS → β) (w:Nat→Bool) (val:Nat → β) (h:∀ r k,g (apE zs r k)=if w k then val k else g r) :
    ∀ (l:List Nat) (r:RS),g (l.foldl (apE zs) r)=(l.filter w).foldl (fun _ k=>val k) (g r):=by
  intro l
  induction l with
  | nil=>intro r;rfl
  | cons k l ih =>
    intro r
    rw [Yfy,ih,h]
    cases hw:w k with
    | true=>rw [List.filter_cons_of_pos hw];simp
    | false=>rw [List.filter_cons_of_neg (by simp [hw])];simp
def wrS (zs:List Eff) (t:Nat) (k:Nat):Bool:=match zs[k]? with|some (d,_,_)=>d==some t|none=>false
def valS (zs:List Eff) (k:Nat):AV:=match zs[k]? with|some (_,v,_)=>v|none=>.junk
theorem Zgx (zs:List Eff) (sl:List (Nat × AV)) (t:Nat) (r:RS) (k:Nat):P2 sl (apE zs r k).loc t=if wrS zs t k then valS zs k else P2 sl r.loc t:=by
  unfold apE wrS valS
  cases zs[k]? with
  | none=>simp
  | some x =>
    obtain ⟨d,v,u⟩:=x
    cases d with
    | none=>simp [Za0]
    | some d=>by_cases h:d=t<;>simp [Za0,P2,h]
theorem Zf9:∀ {u:Ups} {σ:A2} {s:Site},s∉u.map (·.1)→A8 (B5 σ u) s=A8 σ s:=by
  intro u
  induction u with
  | nil=>intro σ s _;rfl
  | cons p u ih =>
    intro σ s h
    obtain ⟨t,e⟩:=p
    simp only [Ygq,Ygr,not_or] at h
    simp only [B5]
    rw [ih h.2,C6 _ _ (Ne.symm h.1)]
theorem Zzu:∀ {u:Ups} {σ σ':A2} {s:Site},s∈u.map (·.1)→A8 (B5 σ u) s=A8 (B5 σ' u) s:=by
  intro u
  induction u with
  | nil=>intro σ σ' s h;simp at h
  | cons p u ih =>
    intro σ σ' s h
    obtain ⟨t,e⟩:=p
    simp only [B5]
    by_cases hu:s∈u.map (·.1)
    · exact ih hu
    · rw [Zf9 hu,Zf9 hu]
      simp only [Ygq,Ygr] at h
      have:=h.resolve_right hu
      subst this
      rw [C1,C1]
def wrE (zs:List Eff) (s:Site) (k:Nat):Bool:=match zs[k]? with|some (_,_,u)=>decide (s∈u.map (·.1))|none=>false
def valE (zs:List Eff) (s:Site) (k:Nat):Option Ent:=match zs[k]? with|some (_,_,u)=>A8 (B5 [] u) s|none=>none
theorem Zjk (zs:List Eff) (s:Site) (r:RS) (k:Nat):A8 (apE zs r k).st s=if wrE zs s k then valE zs s k else A8 r.st s:=by
  unfold apE wrE valE
  cases zs[k]? with
  | none=>simp
  | some x =>
    obtain ⟨d,v,u⟩:=x
    have:(Za0 r d v u).st=B5 r.st u:=by cases d<;>rfl
    simp only [this]
    by_cases h:s∈u.map (·.1)
    · rw [if_pos (by simpa using h)];exact Zzu h
    · rw [if_neg (by simpa using h)];exact Zf9 h
theorem Ybo {call:M9} {sl:List (Nat × AV)}:∀ {los:List LOper} {r0 r:RS},O8 E call sl los r0=some r →
    ∃ zs:List Eff,zs.length=los.length∧r=(List.range los.length).foldl (apE zs) r0 ∧
      ∀ k lo,los[k]? = some lo→∃ v u t,zs[k]? = some (lo.dst,v,u)∧(N0 E call sl los r0)[k]? = some t∧u.map (·.1)=t.2 ∧
        (∀ call' ρ d,N8 lo.op=0→Pu (step call' ρ d lo.op)) ∧
        (N8 lo.op=0→t=([],[]))∧(N8 lo.op=1→t.2=[]) ∧
        ∀ r2:RS,(∀ x∈V8 lo,P2 sl r2.loc x=P2 sl ((List.range k).foldl (apE zs) r0).loc x)→(∀ s∈t.1,A8 r2.st s=A8 ((List.range k).foldl (apE zs) r0).st s) →
          opR E call sl lo r2=some (Za0 r2 lo.dst v u):=by
  intro los
  induction los with
  | nil=>intro r0 r h;simp only [O8,Option.some.injEq] at h;subst h;exact ⟨[],rfl,rfl,fun k lo h=>by simp at h⟩
  | cons lo los ih =>
    intro r0 r h
    simp only [O8] at h
    cases h1:opR E call sl lo r0 with
    | none=>rw [h1] at h;cases h
    | some r1 =>
      rw [h1] at h
      simp only at h
      obtain ⟨v,u,e1,e2,e3⟩:=effect h1
      obtain ⟨zs,f1,f2,f3⟩:=ih h
      have hshift:∀ n,(List.range (n+1)).foldl (apE ((lo.dst,v,u)::zs)) r0=(List.range n).foldl (apE zs) r1:=by
        intro n
        rw [List.range_succ_eq_map,Yfy,List.foldl_map]
        have:apE ((lo.dst,v,u)::zs) r0 0=r1:=by simp [apE,e1]
        rw [this]
        rfl
      refine ⟨(lo.dst,v,u)::zs,by simp [f1],by rw [Yf0,hshift];exact f2,?_⟩
      intro k lo' hk
      cases k with
      | zero =>
        simp only [List.getElem?_cons_zero,Option.some.injEq] at hk
        subst hk
        refine ⟨v,u,R0 E call sl lo r0,rfl,rfl,e2,fun c ρ d ht=>(Zx4 ht).1,fun ht=>?_,fun ht=>?_,fun r2 k1 k2=>e3 r2 (by simpa using k1) (by simpa using k2)⟩
        · have hp:∀ c ρ d,Pu (step c ρ d lo.op)∧Lt (step c ρ d lo.op):=fun c ρ d=>Zx4 ht
          have hr:=(hp call (evR E sl r0.loc) (U2 lo.dst)).1.reads (σ:=r0.st)
          have hw:∀ x,(step call (evR E sl r0.loc) (U2 lo.dst) lo.op).run r0.st=some x→x.2=[]:=fun x hx=>(hp _ _ _).2.run hx
          unfold R0
          have hbase:(((step call (evR E sl r0.loc) (U2 lo.dst) lo.op).reads r0.st,match (step call (evR E sl r0.loc) (U2 lo.dst) lo.op).run r0.st with|some (_,u)=>u.map (·.1)|none=>[]):List Site × List Site)=([],[]):=by
            rw [hr]
            cases hx:(step call (evR E sl r0.loc) (U2 lo.dst) lo.op).run r0.st with
            | none=>rfl
            | some x=>have:=hw x hx;obtain ⟨x1,x2⟩:=x;simp only at this;subst this;rfl
          cases lo.guard with
          | none=>exact hbase
          | some gw =>
            obtain ⟨g,want⟩:=gw
            simp only
            split
            · rename_i b _
              cases (b==want)
              · rfl
              · exact hbase
            · rfl
        · have hw:∀ x,(step call (evR E sl r0.loc) (U2 lo.dst) lo.op).run r0.st=some x→x.2=[]:=fun x hx=>(Z40 ht).run hx
          unfold R0
          have hbase:(((step call (evR E sl r0.loc) (U2 lo.dst) lo.op).reads r0.st,match (step call (evR E sl r0.loc) (U2 lo.dst) lo.op).run r0.st with|some (_,u)=>u.map (·.1)|none=>[]):List Site × List Site).2=[]:=by
            cases hx:(step call (evR E sl r0.loc) (U2 lo.dst) lo.op).run r0.st with
            | none=>rfl
            | some x=>have:=hw x hx;obtain ⟨x1,x2⟩:=x;simp only at this;subst this;rfl
          cases lo.guard with
          | none=>exact hbase
          | some gw =>
            obtain ⟨g,want⟩:=gw
            simp only
            split
            · rename_i b _
              cases (b==want)
              · rfl
              · exact hbase
            · rfl
      | succ k =>
        simp only [List.getElem?_cons_succ] at hk
        obtain ⟨v',u',t,g1,g2,g3,g4,g5,g6,g7⟩:=f3 k lo' hk
        refine ⟨v',u',t,by simpa using g1,?_,g3,g4,g5,g6,fun r2 k1 k2=>g7 r2 (by rw [hshift] at k1;exact k1) (by rw [hshift] at k2;exact k2)⟩
        simp only [N0,h1,List.getElem?_cons_succ]
        exact g2
end Cod
namespace Cod
open Go
structure Done (n:Nat) (M:Nat→Nat) (l:List Nat):Prop where
  lt:∀ k∈l,k<n
  closed:∀ k∈l,∀ i,(M k).testBit i=true→i∈l
  pw:l.Pairwise fun k k'=>k≠k'∧(M k).testBit k'=false
theorem Done.nil (n:Nat) (M:Nat→Nat):Done n M []:=⟨by simp,by simp,List.Pairwise.nil⟩
theorem Done.snoc {n:Nat} {M:Nat→Nat} {l:List Nat} (h:Done n M l) {j:Nat} (hj:j<n) (hn:j∉l) (hM:∀ i,(M j).testBit i=true→i∈l):Done n M (l++[j]):=by
  refine ⟨fun k hk=>?_,fun k hk i hi=>?_,?_⟩
  · rcases List.mem_append.1 hk with hk|hk
    · exact h.lt k hk
    · rw [List.mem_singleton.1 hk];exact hj
  · rcases List.mem_append.1 hk with hk|hk
    · exact Ygo _ (h.closed k hk i hi)
    · rw [List.mem_singleton.1 hk] at hi;exact Ygo _ (hM i hi)
  · rw [List.pairwise_append]
    refine ⟨h.pw,List.pairwise_singleton _ _,fun k hk k' hk'=>?_⟩
    rw [List.mem_singleton.1 hk']
    refine ⟨fun e=>hn (e▸hk),?_⟩
    cases hb:(M k).testBit j with
    | false=>rfl
    | true=>exact absurd (h.closed k hk j hb) hn
theorem Done.filter {n:Nat} {M:Nat→Nat} {l:List Nat} (h:Done n M l) {w:Nat→Bool} (hw:∀ i j,i<j→j<n→w i=true→w j=true→(M j).testBit i=true):(l.filter w).Pairwise (· < ·):=by
  rw [List.pairwise_filter]
  refine List.Pairwise.imp_of_mem (fun {k k'} hk hk' hr h1 h2=>?_) h.pw
  obtain ⟨hne,hb⟩:=hr
  rcases Nat.lt_or_ge k k' with h3|h3
  · exact h3
  · have:=hw k' k (by omega) (h.lt k hk) h2 h1
    rw [hb] at this
    cases this
theorem Done.ahead {n:Nat} {M:Nat→Nat} {l:List Nat} (h:Done n M l) {w:Nat→Bool} (hw:∀ i j,i<j→j<n→w i=true→w j=true→(M j).testBit i=true) {j:Nat} (hn:j∉l)
    (hjn:j≤n) (h1:∀ i,i<j→w i=true→i∈l) (h2:∀ k,k<n→j<k→w k=true→(M k).testBit j=true):l.filter w=(List.range j).filter w:=by
  refine Zl6 (h.filter hw) (List.Pairwise.filter _ (Zgw j)) fun x=>?_
  rw [Ygz,Ygz,Ygw]
  constructor
  · rintro ⟨hx,hwx⟩
    refine ⟨?_,hwx⟩
    rcases Nat.lt_trichotomy x j with h3|h3|h3
    · exact h3
    · subst h3;exact absurd hx hn
    · exact absurd (h.closed x hx j (h2 x (h.lt x hx) h3 hwx)) hn
  · rintro ⟨hx,hwx⟩
    exact ⟨h1 x hx hwx,hwx⟩
theorem Done.all {n:Nat} {M:Nat→Nat} {l:List Nat} (h:Done n M l) {w:Nat→Bool} (hw:∀ i j,i<j→j<n→w i=true→w j=true→(M j).testBit i=true) (ha:∀ j,j<n→j∈l):l.filter w=(List.range n).filter w:=by
  refine Zl6 (h.filter hw) (List.Pairwise.filter _ (Zgw n)) fun x=>?_
  rw [Ygz,Ygz,Ygw]
  exact ⟨fun ⟨hx,k⟩=>⟨h.lt x hx,k⟩,fun ⟨hx,k⟩=>⟨ha x hx,k⟩⟩
theorem pigeon:∀ {n:Nat} {l:List Nat},l.Nodup→(∀ x∈l,x<n)→l.length≤n:=by
  intro n
  induction n with
  | zero=>intro l _ h;cases l with|nil=>simp|cons x l=>have:=h x (by simp);omega
  | succ n ih =>
    intro l hn h
    have h1:(l.erase n).length≤n:=ih (hn.erase n) fun x hx=>by
      have h2:=(hn.mem_erase_iff).1 hx
      have:=h x h2.2
      omega
    by_cases hm:n∈l
    · rw [List.length_erase_of_mem hm] at h1;omega
    · rw [List.erase_of_not_mem hm] at h1;omega
theorem Done.nodup {n:Nat} {M:Nat→Nat} {l:List Nat} (h:Done n M l):l.Nodup:=h.pw.imp fun ⟨k,_⟩=>k
theorem Done.full {n:Nat} {M:Nat→Nat} {l:List Nat} (h:Done n M l) (hl:l.length=n):∀ j,j<n→j∈l:=by
  intro j hj
  by_cases hm:j∈l
  · exact hm
  · have:=pigeon (n:=n) (l:=j::l) (List.nodup_cons.2 ⟨hm,h.nodup⟩) (fun x hx=>by
      rcases List.mem_cons.1 hx with rfl|hx
      · exact hj
      · exact h.lt x hx)
    simp at this
    omega
def Mof (π:List Nat) (os:List Oper) (j:Nat):Nat:=(Zgl π os []).getD j 0
theorem Ybp {π:List Nat} {os:List Oper} (hback:∀ (j:Nat) (o:Oper),os[j]? = some o→∀ e∈o.after,Region.binds .any e=true → π.idxOf e.on<j) {n:Nat} {l:List Nat} (h:Done n (Mof π os) l) {j:Nat} {o:Oper} (ho:os[j]? = some o)
    (he:∀ e∈o.after,Region.binds .any e=true → π.idxOf e.on∈l):∀ i,(Mof π os j).testBit i=true→i∈l:=by
  intro i hb
  obtain ⟨acc',h1,h2,h3⟩:=Zzs (π := π) (acc:=[]) (k:=j) (o:=o) (os:=os) ho
  simp only [Ygy,Nat.zero_add] at h1 h3
  unfold Mof at hb
  rw [List.getD_eq_getElem?_getD,h3] at hb
  simp only [Ygp] at hb
  obtain ⟨e,hea,hbe,hor⟩:=Z41 hb
  have hel:=he e hea hbe
  rcases hor with rfl|hor
  · exact hel
  · have hlt:=hback j o ho e hea hbe
    refine h.closed _ hel i ?_
    unfold Mof
    rw [List.getD_eq_getElem?_getD,←h2 _ (by omega),←List.getD_eq_getElem?_getD]
    exact hor
theorem Z43 {π:List Nat} {os:List Oper} {i j:Nat} (hij:i<j) (hj:j<os.length) (hb:¬ (Mof π os j).testBit i=true):(i,j)∈Zaa π os:=by
  unfold Zaa
  rw [List.mem_flatMap]
  refine ⟨j,List.mem_range.2 hj,?_⟩
  rw [List.mem_filterMap]
  refine ⟨i,List.mem_range.2 hij,?_⟩
  unfold Mof at hb
  rw [if_neg hb]
theorem Zl7 (s:List Site):Zbv s []=false:=by
  induction s with
  | nil=>rfl
  | cons x s ih=>simp [Zbv,ih]
theorem Zh4 {s t:List Site} (h:Zbv s t=false) {x:Site} (hx:x∈s):x∉t:=by
  induction s with
  | nil=>simp at hx
  | cons y s ih =>
    simp only [Zbv,Bool.or_eq_false_iff] at h
    rcases List.mem_cons.1 hx with rfl|hx
    · simpa using h.1
    · exact ih h.2 hx
theorem Zt7 {π:List Nat} {n:Nat} {os:List Oper} {los:List LOper} (hd:Zhx π n os los=true) {ts:List (List Site × List Site)} (hc:X0 ts (Zly los (Zaa π os))=true)
    (hp:∀ (k:Nat) (lo:LOper) (t:List Site × List Site),los[k]? = some lo→ts[k]? = some t→(N8 lo.op=0→t=([],[]))∧(N8 lo.op=1→t.2=[])) {i j:Nat} (hij:i<j) (hj:j<os.length) (hb:¬ (Mof π os j).testBit i=true)
    {x y:LOper} (hx:los[i]? = some x) (hy:los[j]? = some y) {t u:List Site × List Site} (ht:ts[i]? = some t) (hu:ts[j]? = some u) :
    (∀ d,x.dst=some d→d∉V8 y∧y.dst≠some d)∧(∀ d,y.dst=some d→d∉V8 x)∧(∀ s∈t.2,s∉u.1∧s∉u.2)∧(∀ s∈t.1,s∉u.2):=by
  have hm:=Z43 hij hj hb
  unfold Zhx at hd
  rw [Yfz] at hd
  have h1:=List.all_eq_true.1 hd.2 (i,j) hm
  simp only [hx,hy] at h1
  have hap:(∀ d,x.dst=some d→d∉V8 y∧y.dst≠some d)∧(∀ d,y.dst=some d→d∉V8 x):=by
    unfold Z33 at h1
    rw [Yfz] at h1
    refine ⟨fun d hd'=>?_,fun d hd'=>?_⟩
    · have:=h1.1
      rw [hd'] at this
      simp only [Yfz,Ygu,Ygv,decide_eq_false_iff_not,bne_iff_ne] at this
      exact this
    · have:=h1.2
      rw [hd'] at this
      simp only [Ygu,Ygv,decide_eq_false_iff_not] at this
      exact this
  have hcalm:Zqb t u=true:=by
    by_cases hh:(N8 x.op != 0&&N8 y.op != 0&&(N8 x.op==2||N8 y.op==2))=true
    · have hmem:(i,j)∈Zly los (Zaa π os):=by
        unfold Zly
        rw [Ygz]
        exact ⟨hm,by simp only [hx,hy];exact hh⟩
      unfold X0 at hc
      rw [Ygs] at hc
      have:=hc (i,j) hmem
      simp only [List.getD_eq_getElem?_getD,ht,hu,Ygp] at this
      exact this
    · obtain ⟨p1,p2⟩:=hp i x t hx ht
      obtain ⟨q1,q2⟩:=hp j y u hy hu
      by_cases h0:N8 x.op=0
      · rw [p1 h0];simp [Zqb,Zbv]
      · by_cases h0':N8 y.op=0
        · rw [q1 h0'];simp [Zqb,Zl7]
        · have hr:∀ op:LOp,N8 op=0∨N8 op=1∨N8 op=2:=fun op=>by cases op<;>simp [N8]
          have h1':N8 x.op=1∧N8 y.op=1:=by
            simp only [Yfz,bne_iff_ne,ne_eq,Ygt,beq_iff_eq,not_and,not_or] at hh
            have:=hh ⟨h0,h0'⟩
            rcases hr x.op with k|k|k<;>rcases hr y.op with k'|k'|k'<;>first|exact ⟨k,k'⟩|(exfalso;omega)
          simp [Zqb,p2 h1'.1,q2 h1'.2,Zbv,Zl7]
  unfold Zqb at hcalm
  simp only [Yfz,Ygu] at hcalm
  exact ⟨hap.1,hap.2,fun s hs=>⟨Zh4 hcalm.1.1 hs,Zh4 hcalm.1.2 hs⟩,fun s hs=>Zh4 hcalm.2 hs⟩
end Cod
namespace Cod
open Go
variable {E:Env} {w0:World} {O0:Nat→Prop} {σ0:A2} {L0:Lay} {P:Program} {σ:A2} {L:Lay} {w:World} {o:Oper} {a:Act}
theorem Zqx {σ σ':A2} (he:∀ s,A8 σ' s=A8 σ s):ctx σ' L w=ctx σ L w∧I6 σ' L=I6 σ L∧inS σ' L=inS σ L:=by
  have h1:Ztj σ'=Ztj σ:=by funext s;simp only [Ztj,he]
  have h2:I6 σ' L=I6 σ L:=by funext b;simp only [I6,he]
  have h3:inS σ' L=inS σ L:=by funext b;simp only [inS,he]
  exact ⟨by simp only [ctx,h1,h2],h2,h3⟩
theorem Rel.same {σ':A2} (h:Rel E w0 O0 σ0 L0 σ L w) (he:∀ s,A8 σ' s=A8 σ s):Rel E w0 O0 σ0 L0 σ' L w:=by
  obtain ⟨h1,h2,h3⟩:=Zqx (L:=L) (w:=w) he
  refine ⟨⟨fun s e k1 k2=>?_,fun s s' e e' b x x' k1 k2 k3 k4 k5 k6=>?_⟩,h.keep,fun b hb=>?_,fun n=>?_,fun x e k1 k2=>?_,fun b hb=>?_,h.lf,h.f0⟩
  · rw [h1];exact h.store.ent s e (by rw [←he];exact k1) k2
  · exact h.store.apart s s' e e' b x x' (by rw [←he];exact k1) k2 (by rw [←he];exact k3) k4 k5 k6
  · rw [h2] at hb;exact h.own b hb
  · rw [h1];exact h.glob n
  · exact h.ups x e (by rw [←he];exact k1) k2
  · rw [h3] at hb;exact h.src b hb
theorem Znj {A:Ann} {ops:Array Oper}:∀ {os:List Oper} {los:List LOper},V2 P A ops os=some los→los.length=os.length ∧
    ∀ (k:Nat) (o:Oper),os[k]? = some o→∃ p g,los[k]? = some ⟨o.dst,p,g⟩∧Zlx P A o=some p∧Zdi ops o.guard=some g:=by
  intro os
  induction os with
  | nil=>intro los h;simp only [V2,Option.some.injEq] at h;subst h;exact ⟨rfl,fun k o h=>by simp at h⟩
  | cons x os ih =>
    intro los h
    simp only [V2] at h
    split at h
    · rename_i p g r h1 h2 h3
      cases h
      obtain ⟨k1,k2⟩:=ih h3
      refine ⟨by simp [k1],fun k o hk=>?_⟩
      cases k with
      | zero=>simp only [List.getElem?_cons_zero,Option.some.injEq] at hk;subst hk;exact ⟨p,g,rfl,h1,h2⟩
      | succ k=>simp only [List.getElem?_cons_succ] at hk ⊢;exact k2 k o hk
    · cases h
theorem Zl8 {α:Type} {l:List α}:∀ {π:List Nat} {m:List α},Zex l π=some m→m.length = π.length∧∀ (k i:Nat),π[k]? = some i→∃ x,l[i]? = some x∧m[k]? = some x:=by
  intro π
  induction π with
  | nil=>intro m h;simp only [Zex,Option.some.injEq] at h;subst h;exact ⟨rfl,fun k i h=>by simp at h⟩
  | cons j π ih =>
    intro m h
    simp only [Zex] at h
    split at h
    · rename_i y ys h1 h2
      cases h
      obtain ⟨k1,k2⟩:=ih h2
      refine ⟨by simp [k1],fun k i hk=>?_⟩
      cases k with
      | zero=>simp only [List.getElem?_cons_zero,Option.some.injEq] at hk;subst hk;exact ⟨y,h1,rfl⟩
      | succ k=>simp only [List.getElem?_cons_succ] at hk ⊢;exact k2 k i hk
    · cases h
theorem Zqy {π:List Nat} {n:Nat} {os:List Oper} {los:List LOper} (h:Zhx π n os los=true) :
    π.length=n∧(∀ k,k<n→∃ i,π[k]? = some i ∧ π.idxOf i=k)∧(∀ i,i<n→i ∈ π)∧(∀ k,k<n→∃ o,os[k]? = some o∧∀ e∈o.after,Region.binds .any e=true → π.idxOf e.on<k):=by
  unfold Zhx at h
  rw [Yfz,Yfz,Yfz,Yfz] at h
  obtain ⟨⟨⟨⟨h1,h2⟩,h3⟩,h4⟩,_⟩:=h
  refine ⟨by simpa using h1,fun k hk=>?_,fun i hi=>?_,fun k hk=>?_⟩
  · have:=List.all_eq_true.1 h2 k (List.mem_range.2 hk)
    cases hp : π[k]? with
    | none=>rw [hp] at this;cases this
    | some i=>rw [hp] at this;exact ⟨i,rfl,by simpa using this⟩
  · have:=List.all_eq_true.1 h3 i (List.mem_range.2 hi)
    simpa using this
  · have:=List.all_eq_true.1 h4 k (List.mem_range.2 hk)
    cases hp:os[k]? with
    | none=>rw [hp] at this;cases this
    | some o =>
      rw [hp] at this
      simp only [Array.all_eq_true_iff_forall_mem,Ygt,Ygu,decide_eq_true_eq] at this
      refine ⟨o,rfl,fun e he hb=>?_⟩
      rcases this e he with h|h
      · rw [hb] at h;cases h
      · exact h
theorem Ybq (hm:P.follows .mixedOrders=true) {A:Ann} {N:Nat}:Zt3 P E A N:=by
  intro call hcall id ops los0 los os π hlow hp1 hp2 hdok hN sl w0 O0 σ0 L0 σ L w a r Q hr hcalm h hf hQ
  refine wp_region_any hm ?_
  obtain ⟨hlen,hget⟩:=Znj hlow
  obtain ⟨hπ,hinv,hall,hedge⟩:=Zqy hdok
  obtain ⟨q1,q2⟩:=Zl8 hp1
  obtain ⟨q3,q4⟩:=Zl8 hp2
  have hlen':los.length=ops.size:=by omega
  have hosl:os.length=ops.size:=by omega
  obtain ⟨zs,z1,z2,z3⟩:=Ybo hr
  rw [hlen'] at z2
  have hback:∀ (j:Nat) (o:Oper),os[j]? = some o→∀ e∈o.after,Region.binds .any e=true → π.idxOf e.on<j:=by
    intro j o ho e he hb
    have hj:j<ops.size:=by have:=(List.getElem?_eq_some_iff.1 ho).1;omega
    obtain ⟨o',h1,h2⟩:=hedge j hj
    rw [ho] at h1
    cases h1
    exact h2 e he hb
  -- the place of an operation
  have hpos:∀ i,i<ops.size → π.idxOf i<ops.size ∧ π[π.idxOf i]? = some i:=by
    intro i hi
    have h1:=hall i hi
    have h2:=List.idxOf_lt_length_iff.2 h1
    refine ⟨by omega,?_⟩
    rw [List.getElem?_eq_getElem h2,Yg0 h2]
  -- what an operation reads and writes
  have hop:∀ k,k<ops.size→∃ o i p g v u t,π[k]? = some i∧ops[i]? = some o∧os[k]? = some o∧los[k]? = some ⟨o.dst,p,g⟩∧Zlx P A o=some p∧Zdi ops o.guard=some g∧zs[k]? = some (o.dst,v,u)∧(N0 E call sl los ⟨[],σ⟩)[k]? = some t∧u.map (·.1)=t.2 ∧
      ∀ r2:RS,(∀ x∈V8 ⟨o.dst,p,g⟩,P2 sl r2.loc x=P2 sl ((List.range k).foldl (apE zs) ⟨[],σ⟩).loc x)→(∀ s∈t.1,A8 r2.st s=A8 ((List.range k).foldl (apE zs) ⟨[],σ⟩).st s) →
          opR E call sl ⟨o.dst,p,g⟩ r2=some (Za0 r2 o.dst v u):=by
    intro k hk
    obtain ⟨i,hi,_⟩:=hinv k hk
    obtain ⟨o,ho,ho'⟩:=q2 k i hi
    obtain ⟨p,g,k1,k2,k3⟩:=hget i o ho
    obtain ⟨lo,hlo,hlo'⟩:=q4 k i hi
    rw [k1] at hlo
    cases hlo
    obtain ⟨v,u,t,g1,g2,g3,_,_,_,g7⟩:=z3 k _ hlo'
    exact ⟨o,i,p,g,v,u,t,hi,by simpa using ho,ho',hlo',k2,k3,g1,g2,g3,g7⟩
  have hpt:∀ (k:Nat) (lo:LOper) (t:List Site × List Site),los[k]? = some lo→(N0 E call sl los ⟨[],σ⟩)[k]? = some t→(N8 lo.op=0→t=([],[]))∧(N8 lo.op=1→t.2=[]):=by
    intro k lo t h1 h2
    obtain ⟨v,u,t',g1,g2,g3,_,g5,g6,_⟩:=z3 k lo h1
    rw [h2] at g2
    cases g2
    exact ⟨g5,g6⟩
  have hapart:∀ (i j:Nat),i<j→j<ops.size→¬ (Mof π os j).testBit i=true→∀ (x y:LOper) (t u:List Site × List Site),los[i]? = some x→los[j]? = some y→(N0 E call sl los ⟨[],σ⟩)[i]? = some t→(N0 E call sl los ⟨[],σ⟩)[j]? = some u →
      (∀ d,x.dst=some d→d∉V8 y∧y.dst≠some d)∧(∀ d,y.dst=some d→d∉V8 x)∧(∀ s∈t.2,s∉u.1∧s∉u.2)∧(∀ s∈t.1,s∉u.2) :=
    fun i j hij hj hb x y t u hx hy ht hu=>Zt7 hdok hcalm hpt hij (by omega) hb hx hy ht hu
  -- two writers of one slot,of one entry
  have hwS:∀ t i j,i<j→j<ops.size→wrS zs t i=true→wrS zs t j=true→(Mof π os j).testBit i=true:=by
    intro t i j hij hj hi hj'
    refine Classical.byContradiction fun hb=>?_
    obtain ⟨o,_,p,g,v,u,tt,_,_,_,k1,_,_,k4,k5,_,_⟩:=hop i (by omega)
    obtain ⟨o',_,p',g',v',u',tt',_,_,_,m1,_,_,m4,m5,_,_⟩:=hop j hj
    have:=hapart i j hij hj hb _ _ _ _ k1 m1 k5 m5
    simp only [wrS,k4,m4,beq_iff_eq] at hi hj'
    exact (this.1 t hi).2 hj'
  have hwE:∀ s i j,i<j→j<ops.size→wrE zs s i=true→wrE zs s j=true→(Mof π os j).testBit i=true:=by
    intro t i j hij hj hi hj'
    refine Classical.byContradiction fun hb=>?_
    obtain ⟨o,_,p,g,v,u,tt,_,_,_,k1,_,_,k4,k5,k6,_⟩:=hop i (by omega)
    obtain ⟨o',_,p',g',v',u',tt',_,_,_,m1,_,_,m4,m5,m6,_⟩:=hop j hj
    have:=hapart i j hij hj hb _ _ _ _ k1 m1 k5 m5
    simp only [wrE,k4,m4,decide_eq_true_eq] at hi hj'
    rw [k6] at hi
    rw [m6] at hj'
    exact (this.2.2.1 t hi).2 hj'
  -- the end
  have hend:∀ (l:List Nat) (a:Act) (w:World) (L:Lay),Done ops.size (Mof π os) l→(∀ j,j<ops.size→j∈l)→Rel E w0 O0 σ0 L0 (l.foldl (apE zs) ⟨[],σ⟩).st L w→Fr (ctx (l.foldl (apE zs) ⟨[],σ⟩).st L w) (P2 sl (l.foldl (apE zs) ⟨[],σ⟩).loc) N a→Q .normal a w:=by
    intro l a w L hd ha k1 k2
    have hst:∀ s,A8 r.st s=A8 (l.foldl (apE zs) ⟨[],σ⟩).st s:=by
      intro s
      rw [z2,Zbi (fun r=>A8 r.st s) (wrE zs s) (valE zs s) (fun r k=>Zjk zs s r k),Zbi (fun r=>A8 r.st s) (wrE zs s) (valE zs s) (fun r k=>Zjk zs s r k),hd.all (hwE s) ha]
    have hsl:∀ t,P2 sl r.loc t=P2 sl (l.foldl (apE zs) ⟨[],σ⟩).loc t:=by
      intro t
      rw [z2,Zbi (fun r=>P2 sl r.loc t) (wrS zs t) (valS zs) (fun r k=>Zgx zs sl t r k),Zbi (fun r=>P2 sl r.loc t) (wrS zs t) (valS zs) (fun r k=>Zgx zs sl t r k),hd.all (hwS t) ha]
    refine hQ a w L (k1.same hst) ?_
    rw [(Zqx (L:=L) (w:=w) hst).1]
    exact ⟨fun t=>by rw [hsl];exact k2.slots t,k2.defers,k2.size⟩
  have main:∀ (fuel:Nat) (l:List Nat) (listed:Array Bool) (a:Act) (w:World) (L:Lay),Done ops.size (Mof π os) l→listed.size=ops.size→(∀ j,j<ops.size→listed[j]? = some (decide (π.idxOf j∈l)))→fuel+l.length=ops.size →
      Rel E w0 O0 σ0 L0 (l.foldl (apE zs) ⟨[],σ⟩).st L w→Fr (ctx (l.foldl (apE zs) ⟨[],σ⟩).st L w) (P2 sl (l.foldl (apE zs) ⟨[],σ⟩).loc) N a→wpAny P .any ops Q fuel listed a w:=by
    intro fuel
    induction fuel with
    | zero =>
      intro l listed a w L hd hs hl hfu k1 k2
      have ha:=hd.full (by omega)
      refine ⟨?_,hend l a w L hd ha k1 k2⟩
      rw [List.eq_nil_iff_forall_not_mem]
      intro j hj
      obtain ⟨m1,o,m2,_⟩:=mem_ready.1 hj
      have hjn:j<ops.size:=(Array.getElem?_eq_some_iff.1 m2).1
      rw [Array.getD_eq_getD_getElem?,hl j hjn] at m1
      simp [ha _ (hpos j hjn).1] at m1
    | succ fuel ih =>
      intro l listed a w L hd hs hl hfu k1 k2
      have hon:∀ (k:Nat) (o:Oper),os[k]? = some o→∀ e∈o.after,Region.binds .any e=true→e.on<ops.size:=by
        intro k o ho e he hb
        have h1:=hback k o ho e he hb
        have hk:k<ops.size:=by have:=(List.getElem?_eq_some_iff.1 ho).1;omega
        obtain ⟨i,h2,h3⟩:=hinv (π.idxOf e.on) (by omega)
        have h4 : π.idxOf e.on < π.length:=by omega
        rw [List.getElem?_eq_getElem h4,Yg0 h4] at h2
        cases h2
        obtain ⟨x,h5,_⟩:=q2 (π.idxOf e.on) e.on (by rw [List.getElem?_eq_getElem h4,Yg0 h4])
        have:=(List.getElem?_eq_some_iff.1 h5).1
        simpa using this
      have hrdy:∀ j,j∈Region.ready .any ops listed↔j<ops.size ∧ π.idxOf j∉l∧∃ o,os[π.idxOf j]? = some o∧ops[j]? = some o∧∀ e∈o.after,Region.binds .any e=true → π.idxOf e.on∈l:=by
        intro j
        rw [mem_ready]
        constructor
        · rintro ⟨m1,o,m2,m3⟩
          have hjn:j<ops.size:=(Array.getElem?_eq_some_iff.1 m2).1
          rw [Array.getD_eq_getD_getElem?,hl j hjn] at m1
          obtain ⟨o',n1,n2⟩:=q2 (π.idxOf j) j (hpos j hjn).2
          have:o'=o:=by
            rw [Array.getElem?_toList,m2] at n1
            exact (Option.some.inj n1).symm
          subst this
          refine ⟨hjn,by simpa using m1,o',n2,m2,fun e he hb=>?_⟩
          have h1:=m3 e he hb
          have h2:=hon _ _ n2 e he hb
          rw [Array.getD_eq_getD_getElem?,hl e.on h2] at h1
          simpa using h1
        · rintro ⟨hjn,m1,o,n2,m2,m3⟩
          refine ⟨by rw [Array.getD_eq_getD_getElem?,hl j hjn];simpa using m1,o,m2,fun e he hb=>?_⟩
          have h2:=hon _ _ n2 e he hb
          rw [Array.getD_eq_getD_getElem?,hl e.on h2]
          simpa using m3 e he hb
      refine ⟨fun hnil=>?_,fun j hj=>?_⟩
      · refine hend l a w L hd ?_ k1 k2
        intro k
        induction k using Nat.strongRecOn with
        | _ k ihk =>
          intro hkn
          refine Classical.byContradiction fun hn=>?_
          obtain ⟨o,i,p,g,v,u,t,m1,m2,m3,_⟩:=hop k hkn
          have hik : π.idxOf i=k:=by
            obtain ⟨i',x1,x2⟩:=hinv k hkn
            rw [m1] at x1
            cases x1
            exact x2
          have hin:i<ops.size:=(Array.getElem?_eq_some_iff.1 m2).1
          have:i∈Region.ready .any ops listed:=by
            rw [hrdy]
            refine ⟨hin,by rw [hik];exact hn,o,by rw [hik];exact m3,m2,fun e he hb=>?_⟩
            have h2:=hback k o m3 e he hb
            exact ihk _ h2 (by omega)
          rw [hnil] at this
          simp at this
      · obtain ⟨hjn,hn,o,ho',ho,he⟩:=(hrdy j).1 hj
        have hkn:=(hpos j hjn).1
        have hM:=Ybp hback hd ho' he
        obtain ⟨o',i',p,g,v,u,t,x1,x2,m0,m1,m2,m3,m4,m5,m6,m7⟩:=hop (π.idxOf j) hkn
        rw [ho'] at m0
        cases m0
        have hres:opR E call sl ⟨o.dst,p,g⟩ (l.foldl (apE zs) ⟨[],σ⟩)=some (Za0 (l.foldl (apE zs) ⟨[],σ⟩) o.dst v u):=by
          refine m7 _ (fun x hx=>?_) (fun s hs'=>?_)
          · rw [Zbi (fun r=>P2 sl r.loc x) (wrS zs x) (valS zs) (fun r k=>Zgx zs sl x r k),Zbi (fun r=>P2 sl r.loc x) (wrS zs x) (valS zs) (fun r k=>Zgx zs sl x r k)]
            refine congrArg (fun q=>List.foldl _ _ q) (hd.ahead (hwS x) hn (Nat.le_of_lt hkn) (fun i hi hw=>?_) (fun k hk hjk hw=>?_))
            · refine hM i (Classical.byContradiction fun hb=>?_)
              obtain ⟨oi,_,pi,gi,vi,ui,ti,_,_,_,n1,_,_,n4,n5,_,_⟩:=hop i (by omega)
              have:=hapart i _ hi hkn hb _ _ _ _ n1 m1 n5 m5
              simp only [wrS,n4,beq_iff_eq] at hw
              exact (this.1 x hw).1 hx
            · refine Classical.byContradiction fun hb=>?_
              obtain ⟨oi,_,pi,gi,vi,ui,ti,_,_,_,n1,_,_,n4,n5,_,_⟩:=hop k hk
              have:=hapart _ k hjk hk hb _ _ _ _ m1 n1 m5 n5
              simp only [wrS,n4,beq_iff_eq] at hw
              exact this.2.1 x hw hx
          · rw [Zbi (fun r=>A8 r.st s) (wrE zs s) (valE zs s) (fun r k=>Zjk zs s r k),Zbi (fun r=>A8 r.st s) (wrE zs s) (valE zs s) (fun r k=>Zjk zs s r k)]
            refine congrArg (fun q=>List.foldl _ _ q) (hd.ahead (hwE s) hn (Nat.le_of_lt hkn) (fun i hi hw=>?_) (fun k hk hjk hw=>?_))
            · refine hM i (Classical.byContradiction fun hb=>?_)
              obtain ⟨oi,_,pi,gi,vi,ui,ti,_,_,_,n1,_,_,n4,n5,n6,_⟩:=hop i (by omega)
              have:=hapart i _ hi hkn hb _ _ _ _ n1 m1 n5 m5
              simp only [wrE,n4,decide_eq_true_eq] at hw
              rw [n6] at hw
              exact (this.2.2.1 s hw).1 hs'
            · refine Classical.byContradiction fun hb=>?_
              obtain ⟨oi,_,pi,gi,vi,ui,ti,_,_,_,n1,_,_,n4,n5,n6,_⟩:=hop k hk
              have:=hapart _ k hjk hk hb _ _ _ _ m1 n1 m5 n5
              simp only [wrE,n4,decide_eq_true_eq] at hw
              rw [n6] at hw
              exact this.2.2.2 s hs' hw
        have hstep:(l++[π.idxOf j]).foldl (apE zs) ⟨[],σ⟩=Za0 (l.foldl (apE zs) ⟨[],σ⟩) o.dst v u:=by
          rw [List.foldl_append,Yfy,List.foldl_nil]
          simp only [apE,m4]
        refine Zqs k1 hcall k2 ho m2 m3 (hN o (by
          have:o∈ops:=Array.mem_of_getElem? ho
          simpa using this)) hres (fun a' w' L' n1 n2 n3=>?_)
        refine ih (l++[π.idxOf j]) (listed.setIfInBounds j true) a' w' L' (hd.snoc hkn hn hM) (by simp [hs]) (fun i hi=>?_) (by simp;omega) (by rw [hstep];exact n1) (by rw [hstep];exact n3)
        by_cases hij:j=i
        · subst hij
          simp [hs,hi]
        · rw [Array.getElem?_setIfInBounds_ne hij,hl i hi]
          have : π.idxOf i ≠ π.idxOf j:=by
            intro hc
            have a1:=(hpos i hi).2
            have a2:=(hpos j hjn).2
            rw [hc,a2] at a1
            exact hij (Option.some.inj a1)
          simp [List.mem_append,this]
  have hd2:=h.drawn (w.drawn+1)
  refine main ops.size [] (Array.replicate ops.size false) a { w with drawn:=w.drawn+1 } L (Done.nil _ _) (by simp) (fun j hj=>by simp [hj]) (by simp) hd2.1 ⟨fun t=>Y6 hd2.2 _ _ (hf.slots t),hf.defers,hf.size⟩
end Cod
namespace Cod
open Go
def LowOK (P:Program) (f:Nat) (l:LFn):Prop :=
  ∃ (A:Ann) (fn:Func),P.funcs[f]? = some fn∧Z34 P A fn=some l∧(fn.name == "runtime.NumGoroutine")=false
theorem Zt8:∀ {tab:List (Nat × LFn)} {f:Nat} {l:LFn},tab.lookup f=some l→(f,l)∈tab:=by
  intro tab
  induction tab with
  | nil=>intro f l h;simp at h
  | cons p tab ih =>
    intro f l h
    obtain ⟨g,m⟩:=p
    rw [List.lookup_cons] at h
    cases hb:(f==g) with
    | true =>
      rw [hb] at h
      simp only [cond_true,Option.some.injEq] at h
      simp only [beq_iff_eq] at hb
      subst hb h
      simp
    | false=>rw [hb] at h;exact Ygm _ (ih h)
def Zqz (P:Program):List (Nat × LFn)→Prop
  | []=>True
  | p::r=>LowOK P p.1 p.2∧Zqz P r
theorem Zqz.mem {P:Program}:∀ {tab:List (Nat × LFn)},Zqz P tab→∀ p∈tab,LowOK P p.1 p.2:=by
  intro tab
  induction tab with
  | nil=>intro _ p h;simp at h
  | cons q tab ih =>
    intro h p hp
    rcases List.mem_cons.1 hp with rfl|hp
    · exact h.1
    · exact ih h.2 p hp
theorem Zkc {P:Program} {E:Env} {tab:List (Nat × LFn)} (hm:P.follows .mixedOrders=true) (h:Zqz P tab) (hE:∀ f,E.fn f=tab.lookup f):Ziw P E:=by
  intro f l hf
  obtain ⟨A,fn,h1,h2,h3⟩:=h.mem _ (Zt8 ((hE f).symm.trans hf))
  exact ⟨A,fn,h1,h2,h3,Ybq hm⟩
theorem Zd2 {P:Program} {E:Env} (hk:Zd1 P E) (hfn:Ziw P E) {f:Nat} {args:List AV} {v:AV} {σr:A2} (h:S E f args []=some (v,σr)) (La:Lay) {w:World} {vs:List Value}
    (hr:Rel E w (I6 [] La) [] La [] La w) (hv:VRL (ctx [] La w) args vs) :
    Zja P f vs.toArray w (fun y w'=>∃ La',Rel E w (I6 [] La) [] La σr La' w'∧VR (ctx σr La' w') v y):=by
  obtain ⟨n,hn⟩:=Zel.1 h
  exact Z4y hk hfn n f args [] v σr hn La w vs hr hv (by intro x e he;simp [A8] at he)
end Cod
namespace Cod
open Go
structure Wit {α:Type} (x : α):Type where
  mk ::
def Gd {α:Type} (b:Bool) (x:Option α) (_:Wit x):Option α:=bif b then x else none
def Br {α:Type} (b:Bool) (x y:Option α) (_:Wit x) (_:Wit y):Option α:=bif b then x else y
theorem Ybr {α:Type} (x:Option α) (w:Wit x):Gd true x w=x:=rfl
theorem Ybs {α:Type} (x y:Option α) (w:Wit x) (v:Wit y):Br true x y w v=x:=rfl
theorem Z44 {α:Type} (x y:Option α) (w:Wit x) (v:Wit y):Br false x y w v=y:=rfl
theorem Br_not {α:Type} (b:Bool) (x y:Option α) (w:Wit x) (v:Wit y):Br (!b) x y w v=Br b y x v w:=by cases b<;>rfl
def W6 {α:Type} (b:Bool) (x y : α) (_:Wit x) (_:Wit y) : α:=bif b then x else y
theorem Zzv {α:Type} (x y : α) (w:Wit x) (v:Wit y):W6 true x y w v=x:=rfl
theorem Zt9 {α:Type} (x y : α) (w:Wit x) (v:Wit y):W6 false x y w v=y:=rfl
theorem Zcp {α:Type} {c:Prop} [Decidable c] (x y : α):(if c then x else y)=W6 (decide c) x y ⟨⟩ ⟨⟩:=by
  unfold W6
  by_cases h:c<;>simp [h]
def Zkd (r:Option (AV × Ups)) (f:AV→Ups→Option (AV × A2)) (_:Wit f):Option (AV × A2):=match r with|some (v,u)=>f v u|none=>none
theorem Zua (v:AV) (u:Ups) (f:AV→Ups→Option (AV × A2)) (w:Wit f):Zkd (some (v,u)) f w=f v u:=rfl
def LetA {α β:Type} (x : α) (f : α → β) (_:Wit f) : β:=f x
theorem Ybt {α β:Type} (x : α) (f : α → β) (w:Wit f):LetA x f w=f x:=rfl
def Acc.bindW {α β:Type} (x:Acc α) (f : α→Acc β) (_:Wit f):Acc β:=x.bind f
def okO (r:Option (AV × Ups)):Bool:=match r with|some _=>true|none=>false
def valO (r:Option (AV × Ups)):AV:=match r with|some (v,_)=>v|none=>.junk
def upsO (r:Option (AV × Ups)):Ups:=match r with|some (_,u)=>u|none=>[]
theorem Z45 (p:AV × Ups):okO (some p)=true:=rfl
theorem Zzw (v:AV) (u:Ups):valO (some (v,u))=v:=rfl
theorem Zzx (v:AV) (u:Ups):upsO (some (v,u))=u:=rfl
def Zub (loc:List (Nat × AV)) (d:Option Nat) (v:AV):List (Nat × AV):=match d with|some d=>(d,v)::loc|none=>loc
theorem Zzy (loc:List (Nat × AV)) (d:Nat) (v:AV):Zub loc (some d) v=(d,v)::loc:=rfl
theorem Zzz (loc:List (Nat × AV)) (v:AV):Zub loc none v=loc:=rfl
theorem Zft (loc:List (Nat × AV)) (σ:A2) (d:Option Nat) (v:AV) (u:Ups):Za0 ⟨loc,σ⟩ d v u=⟨Zub loc d v,B5 σ u⟩:=by cases d<;>rfl
noncomputable def Y (E:Env) (fn:List LRes) (sl:List (Nat × AV)) (keep:List Nat) (k:List It) (os:List LOper) (loc:List (Nat × AV)) (σ:A2):Option (AV × A2) :=
  match O8 E (S E) sl os ⟨loc,σ⟩ with|some r=>X E fn k ⟨Za1 r.loc sl keep sl,r.st⟩|none=>none
noncomputable def Z (E:Env) (fn:List LRes) (sl:List (Nat × AV)) (keep:List Nat) (pairs:List (Nat × Nat)) (k:List It) (ts:List (List Site × List Site)) (os:List LOper) (loc:List (Nat × AV)) (σ:A2):Option (AV × A2) :=
  match O8 E (S E) sl os ⟨loc,σ⟩ with
  | some r=>if X0 (ts++N0 E (S E) sl os ⟨loc,σ⟩) pairs=true then X E fn k ⟨Za1 r.loc sl keep sl,r.st⟩ else none
  | none=>none
theorem Zke {α β:Type} (x:Option (α × β)):x=none∨∃ a b,x=some (a,b):=by
  rcases x with _|⟨a,b⟩
  · exact .inl rfl
  · exact .inr ⟨a,b,rfl⟩
def gdV (x:AV):Bool:=match x with|.bool _=>true|.und=>true|_=>false
def gdB (want:Bool) (x:AV):Bool:=match x with|.bool b=>b==want|_=>false
section
variable {E:Env} {fn:List LRes} {k:List It} {st:St} {sl loc:List (Nat × AV)} {keep:List Nat} {pairs:List (Nat × Nat)} {os:List LOper} {σ:A2} {ts:List (List Site × List Site)}
theorem X_regY {ops:List LOper}:X E fn (.c (.reg ops keep)::k) st=Y E fn st.sl keep k ops [] st.st:=X_reg
theorem X_regZ {ops:List LOper} {p:Nat × Nat}:X E fn (.c (.dreg ops (p::pairs) keep)::k) st=Z E fn st.sl keep (p::pairs) k [] ops [] st.st:=Z3y
theorem Ybu {ops:List LOper}:X E fn (.c (.dreg ops [] keep)::k) st=Y E fn st.sl keep k ops [] st.st:=by
  rw [Z3y];unfold Y
  cases O8 E (S E) st.sl ops ⟨[],st.st⟩<;>rfl
theorem Y_nil:Y E fn sl keep k [] loc σ=X E fn k ⟨Za1 loc sl keep sl,σ⟩:=rfl
theorem Z_nil:Z E fn sl keep pairs k ts [] loc σ=Gd (X0 ts pairs) (X E fn k ⟨Za1 loc sl keep sl,σ⟩) ⟨⟩:=by
  simp only [Z,O8,N0,List.append_nil,Gd]
  cases X0 ts pairs<;>rfl
theorem Y_op {d:Option Nat} {op:LOp}:Y E fn sl keep k (⟨d,op,none⟩::os) loc σ =
    Zkd ((step (S E) (evR E sl loc) (U2 d) op).run σ) (fun v u=>Y E fn sl keep k os (Zub loc d v) (B5 σ u)) ⟨⟩:=by
  rcases Zke ((step (S E) (evR E sl loc) (U2 d) op).run σ) with h|⟨v,u,h⟩
  · simp only [Y,O8,opR,h,Zkd]
  · simp only [Y,O8,opR,h,Zkd,Zft]
theorem Ybv {d:Option Nat} {op:LOp} {g:Nat} {want:Bool}:Y E fn sl keep k (⟨d,op,some (g,want)⟩::os) loc σ =
    Gd (gdV (evR E sl loc (.t g))) (Br (gdB want (evR E sl loc (.t g))) (Y E fn sl keep k (⟨d,op,none⟩::os) loc σ) (Y E fn sl keep k os (Zub loc d .und) σ) ⟨⟩ ⟨⟩) ⟨⟩:=by
  obtain ⟨x,hx⟩:∃ x,evR E sl loc (.t g)=x:=⟨_,rfl⟩
  rw [hx]
  cases x with
  | und=>simp only [Y,O8,opR,hx,Zft,B5,gdV,gdB,Gd,Br,cond_true,cond_false]
  | bool b =>
    cases hb:(b==want) with
    | false=>simp only [Y,O8,opR,hx,hb,Zft,B5,gdV,gdB,Gd,Br,cond_true,cond_false]
    | true=>simp only [Y,O8,opR,hx,hb,gdV,gdB,Gd,Br,cond_true]
  | _=>simp only [Y,O8,opR,hx,gdV,Gd,Br,cond_false]
theorem Z_op {d:Option Nat} {op:LOp}:Z E fn sl keep pairs k ts (⟨d,op,none⟩::os) loc σ =
    Zkd ((step (S E) (evR E sl loc) (U2 d) op).run σ) (fun v u=>Z E fn sl keep pairs k (ts++[((step (S E) (evR E sl loc) (U2 d) op).reads σ,u.map (·.1))]) os (Zub loc d v) (B5 σ u)) ⟨⟩:=by
  rcases Zke ((step (S E) (evR E sl loc) (U2 d) op).run σ) with h|⟨v,u,h⟩
  · simp only [Z,O8,opR,h,Zkd]
  · simp only [Z,O8,opR,N0,R0,h,Zkd,Zft,Yga,Yg1]
theorem Ybw {d:Option Nat} {op:LOp} {g:Nat} {want:Bool}:Z E fn sl keep pairs k ts (⟨d,op,some (g,want)⟩::os) loc σ =
    Gd (gdV (evR E sl loc (.t g))) (Br (gdB want (evR E sl loc (.t g))) (Z E fn sl keep pairs k ts (⟨d,op,none⟩::os) loc σ) (Z E fn sl keep pairs k (ts++[([],[])]) os (Zub loc d .und) σ) ⟨⟩ ⟨⟩) ⟨⟩:=by
  obtain ⟨x,hx⟩:∃ x,evR E sl loc (.t g)=x:=⟨_,rfl⟩
  rw [hx]
  cases x with
  | und=>simp only [Z,O8,opR,N0,R0,hx,Zft,B5,gdV,gdB,Gd,Br,cond_true,cond_false,Yga,Yg1]
  | bool b =>
    cases hb:(b==want) with
    | false=>simp only [Z,O8,opR,N0,R0,hx,hb,Zft,B5,gdV,gdB,Gd,Br,cond_true,cond_false,Yga,Yg1]
    | true =>
      rcases Zke ((step (S E) (evR E sl loc) (U2 d) op).run σ) with h|⟨v,u,h⟩
      · simp only [Z,O8,opR,hx,hb,gdV,gdB,Gd,Br,cond_true,h]
      · simp only [Z,O8,opR,N0,R0,hx,hb,gdV,gdB,Gd,Br,cond_true,h]
  | _=>simp only [Z,O8,opR,hx,gdV,Gd,Br,cond_false]
end
def isB (x:AV):Bool:=match x with|.bool _=>true|_=>false
theorem Ybx {E:Env} {fn:List LRes} {k:List It} {st:St} {c:LO} {a b:LCode}:X E fn (.c (.cond c a b)::k) st =
    Gd (isB (ev E st.sl c)) (Br (gdB true (ev E st.sl c)) (X E fn (.c a::k) st) (X E fn (.c b::k) st) ⟨⟩ ⟨⟩) ⟨⟩:=by
  rw [X_cond]
  cases h:ev E st.sl c<;>simp [isB,gdB,Gd,Br]
def outO (x:Option (List It)):List It:=match x with|some k=>k|none=>[]
theorem Yby {E:Env} {fn:List LRes} {k:List It} {st:St} {n:Nat}:X E fn (.c (.exit n)::k) st=Gd (T1 n k).isSome (X E fn (outO (T1 n k)) st) ⟨⟩:=by
  rw [X_exit]
  cases T1 n k<;>rfl
theorem Ybz {E:Env} {fn:List LRes} {k:List It} {st:St} {n:Nat}:X E fn (.c (.goto n)::k) st=Gd (Y5 n k).isSome (X E fn (outO (Y5 n k)) st) ⟨⟩:=by
  rw [X_goto]
  cases Y5 n k<;>rfl
end Cod

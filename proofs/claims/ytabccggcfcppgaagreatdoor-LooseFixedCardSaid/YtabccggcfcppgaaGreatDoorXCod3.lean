/- Values made free of references: views of entries that are no longer written. -/
import Derived.Laws.MakeOwn
import Derived.Great.BuildSlice
import Derived.Laws.CopyRow
import Derived.Laws.IdiomStrings
import Derived.ChangeKeysEq
import Derived.Test.YtabccggcfcppgaaGreatDoorXCod2
set_option linter.unusedSimpArgs false
set_option linter.unusedVariables false
open List renaming append_assoc → Yga, drop_drop → Ygh, eq_nil_of_length_eq_zero → Yf6, headD_cons → Ygg, length_append → Yf9, length_drop → Yfr, length_take → Yfq, mem_singleton → Yf2, size_toArray → Yfs, take_of_length_le → Yf8
open Nat renaming add_mul → Yfx, le_refl → Yfj, le_trans → Yfk, lt_of_lt_of_le → Yfl, min_le_left → Yge, mul_le_mul_right → Yf7, zero_add → Ygc
open Int renaming natCast_mul → Ygb
open Bool renaming and_assoc → Ygf, and_eq_true → Yfz, and_true → Ygi, false_eq_true → Yf1
open Option renaming bind_eq_some_iff → Yf5, bind_some → Yfg, map_eq_some_iff → Yfp, map_some → Yfo
open Array renaming foldl_toList → Yf4, length_toList → Yf3, toList_append → Ygd
namespace Cod
open Go
variable {E:Env} {w0:World} {O0:Nat→Prop} {σ0:A2} {L0:Lay} {P:Program} {σ:A2} {L:Lay} {w:World} {o:Oper} {a:Act}
mutual
theorem Zji {c:Ctx} {T':Tab} {L':Site→Option (Nat × Nat)}:∀ (x:AV) (v:Value),M1 x=true→VR c x v→VR ⟨T',L',c.O,c.w⟩ x v
  | .junk,_,h,_=>by simp [M1] at h
  | .und,_,h,_=>by simp [M1] at h
  | .int _ _,_,_,hv=>by simpa [VR] using hv
  | .bool _,_,_,hv=>by simpa [VR] using hv
  | .str _,_,_,hv=>by simpa [VR] using hv
  | .nilp,_,_,hv=>by simpa [VR] using hv
  | .nils,_,_,hv=>by simpa [VR] using hv
  | .nilf,_,_,hv=>by simpa [VR] using hv
  | .nili,_,_,hv=>by simpa [VR] using hv
  | .nilm,_,_,hv=>by simpa [VR] using hv
  | .any _,_,_,hv=>by simpa [VR] using hv
  | .agg _,_,h,_=>by simp [M1] at h
  | .tup _,_,h,_=>by simp [M1] at h
  | .lst cs n,v,_,hv=>by
    simp only [VR] at hv ⊢
    obtain ⟨hfl,hv⟩:=hv
    refine ⟨hfl,?_⟩
    rcases hv with hv|⟨b,o,cap,h1,hn,h2,h3,h4⟩
    · exact .inl hv
    · exact .inr ⟨b,o,cap,h1,hn,h2,h3,flat_VRC b o cs hfl h4⟩
  | .fp cs off,v,_,hv=>by
    simp only [VR] at hv ⊢
    obtain ⟨hfl,b,o,h1,h2,h3,h4⟩:=hv
    exact ⟨hfl,b,o,h1,h2,h3,flat_VRC b o cs hfl h4⟩
  | .ref ..,_,h,_=>by simp [M1] at h
  | .buf ..,_,h,_=>by simp [M1] at h
  | .clo f cap,v,h,hv=>by
    simp only [VR] at hv ⊢
    simp only [M1] at h
    obtain ⟨vs,h1,h2⟩:=hv
    exact ⟨vs,h1,flat_VRL cap _ h h2⟩
  | .ifc t x,v,h,hv=>by
    simp only [VR] at hv ⊢
    simp only [M1] at h
    obtain ⟨u,h1,h2⟩:=hv
    exact ⟨u,h1,Zji x u h h2⟩
theorem flat_VRL {c:Ctx} {T':Tab} {L':Site→Option (Nat × Nat)}:∀ (xs:List AV) (vs:List Value),flats xs=true→VRL c xs vs→VRL ⟨T',L',c.O,c.w⟩ xs vs
  | [],_,_,hv=>by simpa [VRL] using hv
  | a::as,vs,h,hv=>by
    simp only [VRL] at hv ⊢
    simp only [flats,Yfz] at h
    obtain ⟨v,r,h1,h2,h3⟩:=hv
    exact ⟨v,r,h1,Zji a v h.1 h2,flat_VRL as r h.2 h3⟩
theorem flat_VRC {c:Ctx} {T':Tab} {L':Site→Option (Nat × Nat)} (b:Nat):∀ (o:Nat) (xs:List AV),flats xs=true→VRC c b o xs→VRC ⟨T',L',c.O,c.w⟩ b o xs
  | _,[],_,_=>by simp [VRC]
  | o,a::as,h,hv=>by
    simp only [VRC] at hv ⊢
    simp only [flats,Yfz] at h
    obtain ⟨⟨v,h1,h2⟩,h3⟩:=hv
    exact ⟨⟨v,h1,Zji a v h.1 h2⟩,flat_VRC b (o+1) as h.2 h3⟩
end
structure CFl (c c':Ctx):Prop where
  own:∀ b,b<c.w.heap.size→c'.O b→c.O b
  block:∀ b,b<c.w.heap.size→¬ c.O b→c'.w.heap[b]? = c.w.heap[b]?
  room:∀ b k,Zaf c.w b k→Zaf c'.w b k
  size:c.w.heap.size≤c'.w.heap.size
theorem CLe.fl {c c':Ctx} (h:CLe c c'):CFl c c':=⟨h.own,h.block,h.room,h.size⟩
theorem CFl.le {c c':Ctx} (h:CFl c c'):CLe ⟨c'.T,c'.L,c.O,c.w⟩ c':=⟨fun _ g0 al h1=>⟨g0,al,h1,Yfj _,fun _ h=>⟨h,rfl⟩⟩,h.own,h.block,h.room,h.size⟩
theorem Zfq {c c':Ctx} (h:CFl c c') {x:AV} {v:Value} (hx:M1 x=true) (hv:VR c x v):VR c' x v:=Y6 h.le x v (Zji x v hx hv)
theorem Z4d {c c':Ctx} (h:CFl c c') {xs:List AV} {vs:List Value} (hx:flats xs=true) (hv:VRL c xs vs):VRL c' xs vs:=VRL_le h.le xs vs (flat_VRL xs vs hx hv)
def Zdl (L:Lay) (ss:List Site) (b:Nat):Prop:=∃ s∈ss,∃ o,L s=some (b,o)
theorem Zj3 (h:StoreOK σ L w) {x y:AV} {v:Value} {ss:List Site} (hv:VR (ctx σ L w) x v) (hr:(V4 x).run σ=some (y,ss)) {c':Ctx} (hw:c'.w=w)
    (ho:∀ b,b<w.heap.size→c'.O b→(ctx σ L w).O b) (hs:∀ b,b<w.heap.size→Zdl L ss b→¬ c'.O b):VR c' y v∧M1 y=true:=by
  have hf:CFl (ctx σ L w) c':=⟨ho,fun _ _ _=>by rw [hw];rfl,fun _ _ hh=>by rw [hw];exact hh,by rw [hw];exact Yfj _⟩
  cases x<;>simp only [V4,M1,if_true,Yf1,if_false] at hr<;>try exact A7 hr
  case buf s g off n z =>
    obtain ⟨e,he,ha,hg,h1⟩:=J8 hr
    obtain ⟨⟨h2,h3⟩,h4⟩:=G2 h1
    have k:=A6 h4
    simp only [Prod.mk.injEq] at k
    obtain ⟨rfl,rfl⟩:=k
    refine ⟨?_,by simp [M1]⟩
    have hb:=Zbq hv he ha hg
    unfold L5 at hb
    simp only [VR]
    refine ⟨Zfk h3 _ _,?_⟩
    split at hb
    · rename_i b o' hl
      have hrm:Zaf w b 0:=by
        rcases hb with ⟨_,h6,_⟩|⟨_,_,_,h6⟩
        · exact h6
        · exact h6.zero
      have hlt:=(h.free he ha hl hrm).1.lt
      have hno:=hs b hlt ⟨s,by simp,o',hl⟩
      have hc:=flat_VRC (T':=c'.T) (L':=c'.L) b o' e.cells h3 (h.free he ha hl hrm).2
      have hc':=VRC_le hf.le b (fun _=>by rw [hw];rfl) o' e.cells hc
      rcases hb with ⟨h6,_,q,h7⟩|⟨cap,h6,h7,h8⟩
      · subst h6
        refine .inr ⟨b,q,0,h7,Yfj _,by rw [hw];exact hlt,hno,?_⟩
        simp [sub,VRC]
      · exact .inr ⟨b,o'+off,cap,h6,h7,by rw [hw];exact hlt,hno,Za8 hc' _ _⟩
    · obtain ⟨h6,h7,h8⟩:=hb
      subst h8
      exact .inl ⟨by simp [sub],rfl,h6⟩
  case ref s g off =>
    obtain ⟨e,he,ha,hg,h1⟩:=J8 hr
    obtain ⟨h3,h4⟩:=G2 h1
    have k:=A6 h4
    simp only [Prod.mk.injEq] at k
    obtain ⟨rfl,rfl⟩:=k
    refine ⟨?_,by simp [M1]⟩
    obtain ⟨b,o',hl,h5,h6,h7⟩:=Zdg h hv he ha hg
    have hlt:=h6.lt
    have hno:=hs b hlt ⟨s,by simp,o',hl⟩
    simp only [VR]
    refine ⟨h3,b,o',h5,by rw [hw];exact hlt,hno,VRC_le hf.le b (fun _=>by rw [hw];rfl) o' e.cells (flat_VRC b o' e.cells h3 h7)⟩
  case nils =>
    have k:=A6 hr
    simp only [Prod.mk.injEq] at k
    obtain ⟨rfl,rfl⟩:=k
    simp only [VR] at hv
    refine ⟨?_,by simp [M1]⟩
    subst hv
    simp [VR,flats]
  case clo f cap =>
    obtain ⟨h1,h2⟩:=G2 hr
    have k:=A6 h2
    simp only [Prod.mk.injEq] at k
    obtain ⟨rfl,rfl⟩:=k
    exact ⟨Zfq hf (by simpa [M1] using h1) hv,by simpa [M1] using h1⟩
  case ifc t x =>
    obtain ⟨h1,h2⟩:=G2 hr
    have k:=A6 h2
    simp only [Prod.mk.injEq] at k
    obtain ⟨rfl,rfl⟩:=k
    exact ⟨Zfq hf (by simpa [M1] using h1) hv,by simpa [M1] using h1⟩
  all_goals
    have k:=A6 hr
    simp only [Prod.mk.injEq] at k
    obtain ⟨rfl,rfl⟩:=k
    exact ⟨Zfq hf (by simp [M1]) hv,by simp [M1]⟩
theorem Zgo (h:StoreOK σ L w) {c':Ctx} (hw:c'.w=w) (ho:∀ b,b<w.heap.size→c'.O b→(ctx σ L w).O b):∀ {xs ys:List AV} {vs:List Value} {ss:List Site},VRL (ctx σ L w) xs vs→(views xs).run σ=some (ys,ss) →
    (∀ b,b<w.heap.size→Zdl L ss b→¬ c'.O b)→VRL c' ys vs∧flats ys=true:=by
  intro xs
  induction xs with
  | nil =>
    intro ys vs ss hv hr _
    simp only [views] at hr
    have k:=A6 hr
    simp only [Prod.mk.injEq] at k
    obtain ⟨rfl,rfl⟩:=k
    simp only [VRL] at hv ⊢
    exact ⟨hv,rfl⟩
  | cons x xs ih =>
    intro ys vs ss hv hr hs
    simp only [views] at hr
    obtain ⟨p,h1,h2⟩:=D7 hr
    obtain ⟨q,h3,h4⟩:=D7 h2
    have k:=A6 h4
    simp only [Prod.mk.injEq] at k
    obtain ⟨rfl,rfl⟩:=k
    simp only [VRL] at hv
    obtain ⟨v,r,rfl,h5,h6⟩:=hv
    obtain ⟨h7,h8⟩:=Zj3 h h5 (y:=p.1) (ss:=p.2) h1 hw ho (fun b hb ⟨s,hs1,hs2⟩=>hs b hb ⟨s,by simp [hs1],hs2⟩)
    obtain ⟨h9,h10⟩:=ih h6 (ys:=q.1) (ss:=q.2) h3 (fun b hb ⟨s,hs1,hs2⟩=>hs b hb ⟨s,by simp [hs1],hs2⟩)
    simp only [VRL,flats,Yfz]
    exact ⟨⟨v,r,rfl,h7,h9⟩,h8,h10⟩
theorem Ybd (h:StoreOK σ L w) {x y:AV} {v:Value} {ss:List Site} (hv:VR (ctx σ L w) x v) (hr:(Zbc x).run σ=some (y,ss)) {c':Ctx} (hw:c'.w=w)
    (ho:∀ b,b<w.heap.size→c'.O b→(ctx σ L w).O b) (hs:∀ b,b<w.heap.size→Zdl L ss b→¬ c'.O b):VR c' y v:=by
  have hf:CFl (ctx σ L w) c':=⟨ho,fun _ _ _=>by rw [hw];rfl,fun _ _ hh=>by rw [hw];exact hh,by rw [hw];exact Yfj _⟩
  cases x<;>simp only [Zbc] at hr<;>try exact (Zj3 h hv hr hw ho hs).1
  case agg cs =>
    simp only [VR] at hv
    obtain ⟨vs,rfl,hv⟩:=hv
    by_cases hc:flats cs=true
    · rw [if_pos hc] at hr
      have k:=A6 hr
      simp only [Prod.mk.injEq] at k
      obtain ⟨rfl,rfl⟩:=k
      simp only [VR]
      exact ⟨vs,rfl,Z4d hf hc hv⟩
    · rw [if_neg hc] at hr
      obtain ⟨p,h1,h2⟩:=D7 hr
      have k:=A6 h2
      simp only [Prod.mk.injEq] at k
      obtain ⟨rfl,rfl⟩:=k
      simp only [VR]
      exact ⟨vs,rfl,(Zgo h hw ho hv (ys:=p.1) (ss:=p.2) h1 hs).1⟩
  case clo f cs =>
    simp only [VR] at hv
    obtain ⟨vs,rfl,hv⟩:=hv
    obtain ⟨p,h1,h2⟩:=D7 hr
    have k:=A6 h2
    simp only [Prod.mk.injEq] at k
    obtain ⟨rfl,rfl⟩:=k
    simp only [VR]
    exact ⟨vs,rfl,(Zgo h hw ho hv (ys:=p.1) (ss:=p.2) h1 hs).1⟩
def Sim (σ σ':A2):Prop:=∀ t,A8 σ' t=A8 σ t∨∃ e,A8 σ t=some e∧A8 σ' t=some { e with rw:=false }
theorem Sim.refl (σ:A2):Sim σ σ:=fun _=>.inl rfl
theorem Sim.back {σ':A2} (h:Sim σ σ') {t:Site} {e':Ent} (he:A8 σ' t=some e'):∃ e,A8 σ t=some e∧e.alive=e'.alive∧e.g=e'.g∧e.cells=e'.cells∧e.var=e'.var∧(e'.rw=true→e.rw=true):=by
  rcases h t with h1|⟨e,h1,h2⟩
  · rw [he] at h1;exact ⟨e',h1.symm,rfl,rfl,rfl,rfl,id⟩
  · rw [he] at h2;cases h2;exact ⟨e,h1,rfl,rfl,rfl,rfl,fun h=>by cases h⟩
theorem Zqm:∀ {ss:List Site} {u:Ups} {σ1:A2},(Zek ss).run σ=some u→Sim σ σ1→Rel E w0 O0 σ0 L0 σ1 L w →
    Rel E w0 O0 σ0 L0 (B5 σ1 u) L w∧CLe (ctx σ1 L w) (ctx (B5 σ1 u) L w)∧Sim σ (B5 σ1 u)∧(∀ s∈ss,∀ e,A8 (B5 σ1 u) s=some e→e.rw=false) ∧
    (∀ s e,A8 σ1 s=some e→e.rw=false→∀ e',A8 (B5 σ1 u) s=some e'→e'.rw=false)∧(∀ s,s∉ss→A8 (B5 σ1 u) s=A8 σ1 s):=by
  intro ss
  induction ss with
  | nil =>
    intro u σ1 hr hs h
    simp only [Zek] at hr
    have k:=A6 hr
    subst k
    exact ⟨h,CLe.refl _,hs,by simp,fun s e h1 h2 e' h3=>by rw [show A8 (B5 σ1 []) s=A8 σ1 s from rfl,h1] at h3;cases h3;exact h2,fun _ _=>rfl⟩
  | cons s ss ih =>
    intro u σ1 hr hs h
    simp only [Zek] at hr
    obtain ⟨u',h1,h2⟩:=D7 hr
    simp only [Acc.run] at h2
    cases hge:A8 σ s with
    | none=>rw [hge] at h2;simp only [Zjo] at h2;exact A7 h2
    | some e =>
      rw [hge] at h2
      simp only [Zjo] at h2
      have k:=A6 h2
      subst k
      have hg1:∃ e1,A8 σ1 s=some e1∧e1.g=e.g∧e1.alive=e.alive∧e1.cells=e.cells∧e1.var=e.var:=by
        rcases hs s with h3|⟨e',h3,h4⟩
        · exact ⟨e,h3.trans hge,rfl,rfl,rfl,rfl⟩
        · rw [hge] at h3;cases h3;exact ⟨_,h4,rfl,rfl,rfl,rfl⟩
      obtain ⟨e1,g1,g2,g3,g4,g5⟩:=hg1
      obtain ⟨r1,r2⟩:=h.less (e' := { e with rw:=false }) g1 g2.symm (fun h=>⟨g3.trans h,g4.symm,g5.symm⟩) (fun h=>by cases h)
      have hs1:Sim σ (H9 σ1 s { e with rw:=false }):=by
        intro t
        by_cases ht:s=t
        · subst ht;exact .inr ⟨e,hge,C1 _ _ _⟩
        · rw [C6 _ _ ht];exact hs t
      obtain ⟨k1,k2,k3,k4,k5,k6⟩:=ih h1 hs1 r1
      refine ⟨k1,r2.trans k2,k3,?_,?_,?_⟩
      · intro t ht e' he'
        rcases List.mem_cons.1 ht with rfl|ht
        · exact k5 _ _ (C1 _ _ _) rfl e' he'
        · exact k4 t ht e' he'
      · intro t e2 h3 h4 e3 h5
        by_cases ht:s=t
        · subst ht;exact k5 _ _ (C1 _ _ _) rfl e3 h5
        · exact k5 t e2 (by rw [C6 _ _ ht];exact h3) h4 e3 h5
      · intro t ht
        simp only [List.mem_cons,not_or] at ht
        show A8 (B5 (H9 σ1 s _) u') t=_
        rw [k6 t ht.2,C6 _ _ (Ne.symm ht.1)]
theorem Sim.not_own (h:StoreOK σ L w) {σ':A2} (hs:Sim σ σ') {ss:List Site} (hst:∀ s∈ss,∀ e,A8 σ' s=some e→e.rw=false) (hal:∀ s∈ss,∃ e,A8 σ s=some e∧e.alive=true) {b:Nat} (hb:Zdl L ss b):¬ I6 σ' L b:=by
  intro ⟨t,e',o',h1,h2,h3,h4⟩
  obtain ⟨s,hs1,o,hs2⟩:=hb
  obtain ⟨e,he,ha⟩:=hal s hs1
  obtain ⟨e1,k1,k2,_⟩:=hs.back h1
  have:=h.apart t s e1 e b o' o k1 (k2.trans h2) he ha h4 hs2
  subst this
  rw [hst t hs1 e' h1] at h3
  cases h3
theorem Sim.own {σ':A2} (hs:Sim σ σ') {b:Nat} (hb:I6 σ' L b):I6 σ L b:=by
  obtain ⟨t,e',o',h1,h2,h3,h4⟩:=hb
  obtain ⟨e,k1,k2,_,_,_,k3⟩:=hs.back h1
  exact ⟨t,e,o',k1,k2.trans h2,k3 h3,h4⟩
theorem Zis {x y:AV} {ss:List Site} (hr:(V4 x).run σ=some (y,ss)):∀ s∈ss,∃ e,A8 σ s=some e∧e.alive=true:=by
  cases x<;>simp only [V4,M1,if_true,Yf1,if_false] at hr<;>try exact A7 hr
  case buf s g off n z =>
    obtain ⟨e,he,ha,hg,h1⟩:=J8 hr
    obtain ⟨_,h4⟩:=G2 h1
    have k:=A6 h4
    simp only [Prod.mk.injEq] at k
    obtain ⟨rfl,rfl⟩:=k
    intro t ht
    simp only [Yf2] at ht
    subst ht
    exact ⟨e,he,ha⟩
  case ref s g off =>
    obtain ⟨e,he,ha,hg,h1⟩:=J8 hr
    obtain ⟨_,h4⟩:=G2 h1
    have k:=A6 h4
    simp only [Prod.mk.injEq] at k
    obtain ⟨rfl,rfl⟩:=k
    intro t ht
    simp only [Yf2] at ht
    subst ht
    exact ⟨e,he,ha⟩
  case clo f cap =>
    obtain ⟨_,h2⟩:=G2 hr
    have k:=A6 h2
    simp only [Prod.mk.injEq] at k
    rw [k.2];simp
  case ifc t x =>
    obtain ⟨_,h2⟩:=G2 hr
    have k:=A6 h2
    simp only [Prod.mk.injEq] at k
    rw [k.2];simp
  all_goals
    have k:=A6 hr
    simp only [Prod.mk.injEq] at k
    rw [k.2];simp
theorem Zc5:∀ {xs ys:List AV} {ss:List Site},(views xs).run σ=some (ys,ss)→∀ s∈ss,∃ e,A8 σ s=some e∧e.alive=true:=by
  intro xs
  induction xs with
  | nil =>
    intro ys ss hr
    simp only [views] at hr
    have k:=A6 hr
    simp only [Prod.mk.injEq] at k
    rw [k.2];simp
  | cons x xs ih =>
    intro ys ss hr
    simp only [views] at hr
    obtain ⟨p,h1,h2⟩:=D7 hr
    obtain ⟨q,h3,h4⟩:=D7 h2
    have k:=A6 h4
    simp only [Prod.mk.injEq] at k
    obtain ⟨rfl,rfl⟩:=k
    intro s hs
    rcases List.mem_append.1 hs with hs|hs
    · exact Zis (y:=p.1) (ss:=p.2) h1 s hs
    · exact ih (ys:=q.1) (ss:=q.2) h3 s hs
theorem Zj4 (h:Rel E w0 O0 σ0 L0 σ L w) {cs cs':List AV} {u:Ups} {ss:List Site} {vs:List Value} (hv:VRL (ctx σ L w) cs vs) (hr:(fix cs).run σ=some (cs',u,ss)) :
    Rel E w0 O0 σ0 L0 (B5 σ u) L w∧CLe (ctx σ L w) (ctx (B5 σ u) L w)∧VRL (ctx (B5 σ u) L w) cs' vs∧Sim σ (B5 σ u)∧flats cs'=true∧(∀ s,s∉ss→A8 (B5 σ u) s=A8 σ s):=by
  unfold fix at hr
  by_cases hc:flats cs=true
  · rw [if_pos hc] at hr
    have k:=A6 hr
    simp only [Prod.mk.injEq] at k
    obtain ⟨rfl,rfl,rfl⟩:=k
    exact ⟨h,CLe.refl _,hv,Sim.refl _,hc,fun _ _=>rfl⟩
  · rw [if_neg hc] at hr
    obtain ⟨p,h1,h2⟩:=D7 hr
    obtain ⟨u',h3,h4⟩:=D7 h2
    have k:=A6 h4
    simp only [Prod.mk.injEq] at k
    obtain ⟨rfl,hu,rfl⟩:=k
    subst hu
    obtain ⟨k1,k2,k3,k4,_,k6⟩:=Zqm h3 (Sim.refl σ) h
    obtain ⟨h5,h6⟩:=Zgo h.store (c':=ctx (B5 σ u) L w) rfl (fun b _ hb=>hb.imp k3.own id) hv (ys:=p.1) (ss:=p.2) h1
      (fun b _ hb hO=>hO.elim (k3.not_own h.store k4 (Zc5 (ys:=p.1) (ss:=p.2) h1) hb) (h.notF (by
        obtain ⟨s,hs1,o,hs2⟩:=hb
        obtain ⟨e,he,ha⟩:=Zc5 (ys:=p.1) (ss:=p.2) h1 s hs1
        exact ⟨s,e,o,he,ha,hs2⟩)))
    exact ⟨k1,k2,h5,k3,h6,k6⟩
end Cod
namespace Cod
open Go
variable {E:Env} {w0:World} {O0:Nat→Prop} {σ0:A2} {L0:Lay} {P:Program} {σ:A2} {L:Lay} {w:World} {o:Oper} {a:Act}
theorem Zzf {c:Ctx} {x:AV} {y:Value} (hv:VR c x y) {cs:List AV} (h:J4 x=some cs):y.cells.size=cs.length:=by
  have:=H5 (Zdk hv h)
  simpa using this
theorem Ztt {cells:List AV} {off n:Nat} {ys:Option (List AV)} {r:List AV} (h:Zlm cells off n ys=some r):∃ y,ys=some y∧y.length=n∧off+n≤cells.length∧r=over cells off y:=by
  cases ys with
  | none=>simp [Zlm] at h
  | some y =>
    simp only [Zlm] at h
    split at h
    · rename_i hc;simp only [Option.some.injEq] at h;exact ⟨y,rfl,hc.1,hc.2,h.symm⟩
    · cases h
theorem Ztu {ρ:LO→AV} {l:List (Nat × Nat × LO)}:Zak ρ l none=none:=by cases l<;>rfl
theorem Zxv {c:Ctx} {off place:Nat→Option (Nat × Nat)} {ρ:LO→AV} {ev:Operand→Value} (hρ:∀ x lx,K3 x=some lx→VR c (ρ lx) (ev x)) (hp:∀ i p,off i=some p→place i=some p) :
    ∀ {parts:List (Nat × Operand)} {lps:List (Nat × Nat × LO)},Y9 off parts=some lps→∀ {cells:List AV} {cs:Array Value} {out:List AV},VRL c cells cs.toList→Zak ρ lps (some cells)=some out →
      ∃ r,Instr.fill place cs (parts.map fun p=>(p.1,ev p.2))=some r∧VRL c out r.toList:=by
  intro parts
  induction parts with
  | nil =>
    intro lps h cells cs out hv hf
    simp only [Y9,Option.some.injEq] at h
    subst h
    simp only [Zak,Option.some.injEq] at hf
    subst hf
    exact ⟨cs,rfl,hv⟩
  | cons p parts ih =>
    intro lps h cells cs out hv hf
    obtain ⟨i,x⟩:=p
    simp only [Y9] at h
    cases h1:off i with
    | none=>rw [h1] at h;simp at h
    | some q =>
      obtain ⟨of,n⟩:=q
      cases h2:K3 x with
      | none=>rw [h1,h2] at h;simp at h
      | some lx =>
        cases h3:Y9 off parts with
        | none=>rw [h1,h2,h3] at h;simp at h
        | some lps' =>
          rw [h1,h2,h3] at h
          simp only [Option.some.injEq] at h
          subst h
          simp only [Zak] at hf
          cases h4:Zlm cells of n (J4 (ρ lx)) with
          | none=>rw [h4,Ztu] at hf;cases hf
          | some r =>
            rw [h4] at hf
            obtain ⟨y,h5,h6,h7,rfl⟩:=Ztt h4
            have hx:=hρ x lx h2
            have hy:=Zdk hx h5
            have hyl:=Zzf hx h5
            have hcl:=H5 hv
            simp only [Yf3] at hcl
            simp only [List.map_cons,Instr.fill,hp i _ h1]
            rw [if_neg (by simp [hyl,h6];omega)]
            refine ih h3 ?_ hf
            have:=Zl0 (ev x).cells.toList 0 of cs (by simp [hyl];omega)
            have e:((ev x).cells.zipIdx.foldl (fun cs (p:Value × Nat)=>cs.setIfInBounds (of+p.2) p.1) cs)=(((ev x).cells.toList.zipIdx 0).foldl (fun cs (p:Value × Nat)=>cs.setIfInBounds (of+p.2) p.1) cs):=by
              rw [←Yf4];simp
            show VRL c _ (((ev x).cells.zipIdx.foldl (fun cs (p:Value × Nat)=>cs.setIfInBounds (of+p.2) p.1) cs)).toList
            rw [e,this]
            exact Z4c hv hy of
theorem Zqn (h:Rel E w0 O0 σ0 L0 σ L w) {t:TypeId} {parts:Array (Nat × Operand)} {z:List AV} {off:Nat→Option (Nat × Nat)} {lps:List (Nat × Nat × LO)} {ρ:LO→AV} (hz:Z9 P t=some z)
    (ho:o.op=.build t parts) (hρ:∀ x lx,K3 x=some lx→VR (ctx σ L w) (ρ lx) (a.eval x)) (hl:Y9 off parts.toList=some lps)
    (hu:(∃ fs places,P.underlying t=some (.struct fs)∧fs.toList.mapM (fun f=>(P.info? f.type).map fun i=>(f.offset,i.size))=some places∧off=fun i=>places.toArray[i]?) ∨
      (∃ n e m,P.underlying t=some (.array n e)∧L1 P e=some m∧off=fun i=>some (i*m,m)))
    {r:AV × Ups} (hr:(Zmy (Zak ρ lps (some z))).run σ=some r):L3 E w0 O0 σ0 L0 P σ L w o a r.1 r.2:=by
  cases hf:Zak ρ lps (some z) with
  | none=>rw [hf] at hr;exact A7 hr
  | some cs =>
    rw [hf] at hr
    have k:=A6 hr
    subst k
    unfold Z9 at hz
    cases hb:(P.info? t).bind (·.zero) with
    | none=>rw [hb] at hz;cases hz
    | some zv =>
      rw [hb] at hz
      simp only at hz
      simp only [Yf5] at hb
      obtain ⟨it,hit,hiz⟩:=hb
      obtain ⟨out,h1,h2⟩:=Zxv (place:=off) hρ (fun _ _ h=>h) hl (cs:=zv.cells) (V9 _ hz) hf
      have hbt:P.built t (parts.map fun p=>(p.1,a.eval p.2)).toList=some out:=by
        rcases hu with ⟨fs,places,hu1,hu2,rfl⟩|⟨n,e,m,hu1,hu2,rfl⟩
        · simp only [Program.built,hit,hu1,hiz,hu2]
          simpa using h1
        · unfold L1 at hu2
          simp only [Yfp] at hu2
          obtain ⟨ie,h3,h4⟩:=hu2
          simp only [Program.built,hit,hu1,hiz,h3,h4]
          simpa using h1
      refine B3 h (y:=.agg out) ?_ (by simp only [VR];exact ⟨out,rfl,h2⟩)
      have:=run_build (P:=P) w t _ out hbt
      simp [execOp,ho,this]
theorem Zj5 (z:List AV) (n:Nat):(rep z n).length=n*z.length:=by
  induction n with
  | zero=>simp [rep]
  | succ n ih=>simp [rep,ih,Yfx,Nat.add_comm]
theorem Ztv {c:Ctx}:∀ {xs:List AV} {vs:List Value},xs.length=vs.length→(∀ (i:Nat) (x:AV) (v:Value),xs[i]? = some x→vs[i]? = some v→VR c x v)→VRL c xs vs:=by
  intro xs
  induction xs with
  | nil=>intro vs h _;simp only [VRL];exact Yf6 h.symm
  | cons x xs ih =>
    intro vs h hg
    cases vs with
    | nil=>simp at h
    | cons v vs =>
      simp only [VRL]
      exact ⟨v,vs,rfl,hg 0 x v rfl rfl,ih (by simpa using h) fun i y u h1 h2=>hg (i+1) y u (by simpa using h1) (by simpa using h2)⟩
theorem Ybe (z:List AV) (n i:Nat) (h:i<n*z.length):(rep z n)[i]? = z[i%z.length]? := by
  induction n generalizing i with
  | zero=>simp at h
  | succ n ih =>
    simp only [rep]
    by_cases hi:i<z.length
    · rw [List.getElem?_append_left hi,Nat.mod_eq_of_lt hi]
    · have hge:z.length≤i:=Nat.le_of_not_lt hi
      have h':i-z.length<n*z.length:=by rw [Nat.succ_mul] at h;omega
      rw [List.getElem?_append_right hge,ih _ h',←Nat.mod_eq_sub_mod hge]
theorem Zdw {c:Ctx} {z:List AV} {zv:Array Value} (h:VRL c z zv.toList) (hz:0<z.length) (n m:Nat) (hnm:n≤m) :
    VRL c (rep z n) ((madeCells zv (m*z.length)).toList.take (n*z.length)):=by
  have hl:=H5 h
  simp only [Yf3] at hl
  have hle:n*z.length≤m*z.length:=Yf7 _ hnm
  refine Ztv (by rw [Zj5,Yfq,show (madeCells zv (m*z.length)).toList.length=m*z.length from size_madeCells _ _];omega) fun i x v h1 h2=>?_
  have hi:i<n*z.length:=by
    rcases Nat.lt_or_ge i (n*z.length) with h3|h3
    · exact h3
    · rw [List.getElem?_eq_none (by rw [Zj5];exact h3)] at h1;cases h1
  rw [Ybe _ _ _ hi] at h1
  obtain ⟨u,h3,h4⟩:=Zam h h1
  rw [List.getElem?_take,if_pos hi] at h2
  have him:i<m*z.length:=by omega
  have hmod:i%z.length<zv.size:=by rw [hl];exact Nat.mod_lt _ hz
  have e:(madeCells zv (m*z.length)).toList[i]? = some zv[i%zv.size]! := by
    simp [madeCells,him]
  rw [e] at h2
  cases h2
  have e2:zv[i%zv.size]! = u:=by
    rw [hl]
    simp only [Array.getElem?_toList] at h3
    rw [getElem!_pos zv _ hmod]
    rw [Array.getElem?_eq_getElem hmod] at h3
    exact Option.some.inj h3
  rw [e2]
  exact h4
theorem Zqo {xs:List Value} {n i:Nat} {v:Value} (h:(xs.take n)[i]? = some v):xs[i]? = some v:=by
  rw [List.getElem?_take] at h
  split at h
  · exact h
  · cases h
theorem ok_mks (h:Rel E w0 O0 σ0 L0 σ L w) {t e:TypeId} {l c:Operand} {sz by_:Nat} {z:List AV} {d:Nat} (ht:P.underlying t=some (.slice e)) (hs:L1 P e=some sz) (hb:Zdf P e=some by_) (hz:Z9 P e=some z)
    (hzl:z.length=sz) (hsz:sz≠0) (ho:o.op=.makeSlice t l c) {vl vc:AV} (hl:VR (ctx σ L w) vl (a.eval l)) (hc:VR (ctx σ L w) vc (a.eval c))
    {r:AV × Ups} (hr:(mksV (.s d 0) sz by_ z vl vc).run σ=some r):L3 E w0 O0 σ0 L0 P σ L w o a r.1 r.2:=by
  cases vl<;>try exact A7 hr
  rename_i kl nl
  cases kl<;>try exact A7 hr
  cases vc<;>try exact A7 hr
  rename_i kc nc
  cases kc<;>try exact A7 hr
  simp only [mksV] at hr
  obtain ⟨⟨h0,h1,h2,h3⟩,h4⟩:=G2 hr
  obtain ⟨g,hg,rfl⟩:=Zci h4
  simp only [VR] at hl hc
  unfold L1 at hs
  unfold Zdf at hb
  unfold Z9 at hz
  simp only [Yfp] at hs hb
  obtain ⟨ie,h5,h6⟩:=hs
  obtain ⟨ie',h7,h8⟩:=hb
  rw [h5] at h7
  cases h7
  cases hzv:ie.zero with
  | none=>rw [h5] at hz;simp only [Yfg,hzv] at hz;cases hz
  | some zv =>
    rw [h5] at hz
    simp only [Yfg,hzv] at hz
    have hrun:=run_make (P:=P) w t e ie zv ht h5 hzv .i64 .i64 nl nc h0 h1 (by rw [h8];exact h2) (by omega)
    have hvl:=V9 (ctx σ L w) hz
    have hv:=Zdw hvl (by omega) nl.toNat nc.toNat (by omega)
    rw [hzl] at hv
    rw [h6] at hrun
    obtain ⟨k1,k2⟩:=h.new hg false hv (madeCells zv.cells (nc.toNat*sz)) (fun i v hi=>by have:=Zqo hi;simpa using this) e (0,0) (by simp)
    refine J6 (y:=.slice (some ⟨w.heap.size,0,none⟩) nl.toNat nc.toNat) (by simp [execOp,ho,hl,hc,hrun]) k1 k2 ?_
    simp only [VR]
    refine ⟨rfl,g,true,J0 (C1 _ _ _),Yfj _,fun _ _=>?_⟩
    show L5 (ctx (H9 σ (.s d 0) _) (G4 L (.s d 0) (some (w.heap.size,0))) _) _ _ _ _ _
    unfold L5
    rw [show (ctx (H9 σ (.s d 0) ⟨g,true,true,false,rep z nl.toNat⟩) (G4 L (.s d 0) (some (w.heap.size,0))) (w.alloc (.cells (madeCells zv.cells (nc.toNat*sz)) e))).L (.s d 0)=some (w.heap.size,0) from G8 _ _ _]
    refine .inr ⟨nc.toNat,rfl,by omega,madeCells zv.cells (nc.toNat*sz),e,(0,0),heap_alloc_new w _,?_⟩
    rw [size_madeCells];omega
theorem Zzg (h:Rel E w0 O0 σ0 L0 σ L w) {t e:TypeId} {len sz:Nat} {parts:Array (Nat × Operand)} {z:List AV} {lps:List (Nat × Nat × LO)} {ρ:LO→AV} {d:Nat} (ht:P.underlying t=some (.slice e))
    (hs:L1 P e=some sz) (hz:Z9 P e=some z) (hzl:z.length=sz) (hsz:sz≠0) (hsm:len*sz≤16777216)
    (ho:o.op=.buildSlice t len parts) (hρ:∀ x lx,K3 x=some lx→VR (ctx σ L w) (ρ lx) (a.eval x)) (hl:Y9 (fun i=>some (i*sz,sz)) parts.toList=some lps)
    {r:AV × Ups} (hr:(Zgg (.s d 0) len sz (Zak ρ lps (some (rep z len)))).run σ=some r):L3 E w0 O0 σ0 L0 P σ L w o a r.1 r.2:=by
  cases hf:Zak ρ lps (some (rep z len)) with
  | none=>rw [hf] at hr;exact A7 hr
  | some cs =>
    rw [hf] at hr
    simp only [Zgg] at hr
    obtain ⟨⟨cs',u,ss⟩,h1,h2⟩:=D7 hr
    simp only at h2
    obtain ⟨g,hg,rfl⟩:=Zci h2
    unfold L1 at hs
    unfold Z9 at hz
    simp only [Yfp] at hs
    obtain ⟨ie,h5,h6⟩:=hs
    cases hzv:ie.zero with
    | none=>rw [h5] at hz;simp only [Yfg,hzv] at hz;cases hz
    | some zv =>
      rw [h5] at hz
      simp only [Yfg,hzv] at hz
      have hvl:=V9 (ctx σ L w) hz
      have hmade:∃ z0:Array Value,(if len*sz=0 then (pure #[]:Sem (Array Value)) else do pure (←zeroValue e).cells).run P w=.ok z0 w∧VRL (ctx σ L w) (rep z len) ((Array.range (len*sz)).map (z0[· % z0.size]!)).toList:=by
        by_cases hn:len*sz=0
        · refine ⟨#[],by simp [hn],?_⟩
          have hl0:len=0:=by rcases Nat.mul_eq_zero.1 hn with h|h<;>omega
          subst hl0
          simp [rep,VRL]
        · refine ⟨zv.cells,by simp [hn,zeroValue,typeInfo,h5,hzv],?_⟩
          have:=Zdw hvl (by omega) len len (Yfj _)
          rw [hzl,Yf8 (by simp [size_madeCells])] at this
          exact this
      obtain ⟨z0,hz0,hv0⟩:=hmade
      obtain ⟨out,h7,h8⟩:=Zxv (place:=fun i=>some (i*sz,sz)) hρ (fun _ _ h=>h) hl (cs:=(Array.range (len*sz)).map (z0[· % z0.size]!)) hv0 hf
      obtain ⟨k1,k2,k3,k4,_,_⟩:=Zj4 h h8 h1
      have hlen:∀ (ps:List (Nat × Value)) (pl:Nat→Option (Nat × Nat)) (xs out:Array Value),Instr.fill pl xs ps=some out→out.size=xs.size:=by
        intro ps pl
        induction ps with
        | nil=>intro xs out h;simp only [Instr.fill,Option.some.injEq] at h;rw [h]
        | cons p ps ih =>
          intro xs out h
          obtain ⟨i,v⟩:=p
          simp only [Instr.fill] at h
          cases hpl:pl i with
          | none=>rw [hpl] at h;cases h
          | some q =>
            rw [hpl] at h
            simp only at h
            split at h
            · cases h
            · rename_i hcond
              have:=ih _ _ h
              rw [this]
              simp only [ne_eq,Bool.or_eq_true,decide_eq_true_eq,not_or,Decidable.not_not,Nat.not_lt] at hcond
              have h9:=Zl0 v.cells.toList 0 q.1 xs (by simp;omega)
              have e:(v.cells.zipIdx.foldl (fun cs (p:Value × Nat)=>cs.setIfInBounds (q.1+p.2) p.1) xs)=((v.cells.toList.zipIdx 0).foldl (fun cs (p:Value × Nat)=>cs.setIfInBounds (q.1+p.2) p.1) xs):=by
                rw [←Yf4];simp
              show (v.cells.zipIdx.foldl (fun cs (p:Value × Nat)=>cs.setIfInBounds (q.1+p.2) p.1) xs).size=_
              rw [e,←Yf3,h9]
              simp only [Yf9,Yfq,Yfr,Yf3]
              omega
      have hsz2:=hlen _ _ _ _ h7
      simp only [Array.size_map,Array.size_range] at hsz2
      have hg':∀ e,A8 (B5 σ u) (.s d 0)=some e→e.g<g:=by
        intro e he
        obtain ⟨e1,g1,_,g2,_⟩:=k4.back he
        rw [←g2]
        exact hg e1 g1
      obtain ⟨m1,m2⟩:=k1.new (d:=d) (k:=0) hg' false k3 out (by simp) e (0,0) (by simp)
      refine J6 (w':=w.alloc (.cells out e)) (L':=G4 L (.s d 0) (some (w.heap.size,0))) (y:=.slice (some ⟨w.heap.size,0,none⟩) len len) ?_ (by rw [C8];exact m1) (by rw [C8];exact k2.trans m2) ?_
      · have hso:(Go.sizeOf e).run P w=.ok sz w:=by simp [Go.sizeOf,typeInfo,h5,h6]
        have hmap:(parts.map fun p=>(p.1,a.eval p.2)).toList=parts.toList.map fun p=>(p.1,a.eval p.2):=by simp
        have hns:¬ (16777216<len*sz):=by omega
        have hB:(Instr.buildSlice t len (parts.map fun p=>(p.1,a.eval p.2))).run P w=.ok (.slice (some ⟨w.heap.size,0,none⟩) len len) (w.alloc (.cells out e)):=by
          unfold Instr.buildSlice
          simp only [Sem.run_bind,run_underlying ht,Result.andThen_ok,hso]
          rw [hmap]
          by_cases hn:len*sz=0
          · rw [if_pos hn] at hz0
            simp only [Sem.run_pure,Result.ok.injEq,and_true] at hz0
            subst hz0
            simp [hns,hn,newRow]
            rw [hn] at h7
            simp at h7
            rw [h7]
            try simp
          · rw [if_neg hn] at hz0
            simp [hns,hn,newRow,zeroValue,typeInfo,h5,hzv] at hz0 ⊢
            subst hz0
            rw [h7]
            simp
        simp [execOp,ho,hB]
      · simp only [VR]
        refine ⟨rfl,g,true,by rw [C8];exact J0 (C1 _ _ _),Yfj _,fun _ _=>?_⟩
        rw [C8]
        show L5 (ctx (H9 (B5 σ u) (.s d 0) _) (G4 L (.s d 0) (some (w.heap.size,0))) _) _ _ _ _ _
        unfold L5
        rw [show (ctx (H9 (B5 σ u) (.s d 0) ⟨g,true,true,false,cs'⟩) (G4 L (.s d 0) (some (w.heap.size,0))) (w.alloc (.cells out e))).L (.s d 0)=some (w.heap.size,0) from G8 _ _ _]
        refine .inr ⟨len,rfl,Yfj _,out,e,(0,0),heap_alloc_new w _,by omega⟩
end Cod
namespace Cod
open Go
variable {E:Env} {w0:World} {O0:Nat→Prop} {σ0:A2} {L0:Lay} {P:Program} {σ:A2} {L:Lay} {w:World} {o:Oper} {a:Act}
theorem Zgp (P:Program) (g q:Nat) (t:TypeId) (fr:Nat × Nat):∀ (vs:List Value) (i:Nat) (cur:Array Value) (w:World),w.heap[g]? = some (.cells cur t fr)→(∀ k,k<cur.size→¬ (fr.1≤k∧k<fr.2)) →
    q+i+vs.length≤cur.size→(∀ v∈vs,v.oneCell'=true) →
    (storeCells ⟨g,q,none⟩ vs i).run P w=.ok () (w.setRow g (cur.toList.take (q+i)++vs++cur.toList.drop (q+i+vs.length)).toArray)
  | [],i,cur,w,hg,_,_,_=>by
    simp only [storeCells,List.append_nil,List.length_nil,Nat.add_zero,List.take_append_drop,Array.toArray_toList]
    rw [setRow_self w g cur t fr hg]
    rfl
  | v::rest,i,cur,w,hg,hfr,hl,h1=>by
    have hi:q+i<cur.size:=by simp at hl;omega
    have hadd:(⟨g,q,none⟩:Addr).add i=⟨g,q+i,none⟩:=by unfold Addr.add;split<;>simp_all
    have hcell:w.cell? ⟨g,q+i,none⟩=some cur[q+i]:=by simp [World.cell?,hg,hi]
    have hfro:w.frozen? ⟨g,q+i,none⟩=false:=by
      obtain ⟨lo,hi'⟩:=fr
      have:=hfr (q+i) hi
      simp only [World.frozen?,hg,Bool.and_eq_false_imp,decide_eq_true_eq,decide_eq_false_iff_not]
      intro h2 h3
      exact this ⟨h2,h3⟩
    have hst:(store ((⟨g,q,none⟩:Addr).add i) v).run P w=.ok () (w.setRow g (cur.setIfInBounds (q+i) v)):=by
      rw [hadd,run_store P w _ v _ (h1 v (by simp)),hcell]
      simp [hfro,setCell_eq_setRow w g (q+i) cur t fr v hg]
    have ih:=Zgp P g q t fr rest (i+1) (cur.setIfInBounds (q+i) v) (w.setRow g (cur.setIfInBounds (q+i) v)) (setRow_heap w g cur _ t _ hg) (by simpa using hfr) (by simp at hl ⊢;omega) (fun x hx=>h1 x (by simp [hx]))
    simp only [storeCells,Sem.run_bind,hst,Result.andThen_ok,ih,setRow_setRow]
    congr 3
    have e:=list_seg_step cur.toList (q+i) v rest (by simp at hl ⊢;omega)
    simpa [Array.toList_setIfInBounds,Nat.add_assoc] using e
theorem Zeo.roomK {b n k:Nat} (h:Zeo w b n) (hr:Zaf w b k):Zeo w b k:=by
  obtain ⟨cs,el,fr,h1,_,h3⟩:=h
  obtain ⟨cs',el',fr',h4,h5⟩:=hr
  rw [h1] at h4
  cases h4
  exact ⟨cs,el,fr,h1,h5,h3⟩
theorem Zeo.le {b n k:Nat} (h:Zeo w b n) (hk:k≤n):Zeo w b k:=by
  obtain ⟨cs,el,fr,h1,h2,h3⟩:=h
  exact ⟨cs,el,fr,h1,Yfk hk h2,h3⟩
theorem Zm9 (P:Program) {b N q:Nat} {vs:List Value} (hf:Zeo w b N) (hq:q+vs.length≤N) (h1:∀ v∈vs,v.oneCell'=true) :
    ∃ w',(storeCells ⟨b,q,none⟩ vs).run P w=.ok () w'∧Keep (fun x=>x=b) w w'∧Zeo w' b N∧(∀ i,q≤i→i<q+vs.length→w'.cell? ⟨b,i,none⟩=vs[i-q]?) ∧
      (∀ i,¬ (q≤i∧i<q+vs.length)→w'.cell? ⟨b,i,none⟩=w.cell? ⟨b,i,none⟩):=by
  obtain ⟨cs,el,fr,hg,hN,hfr⟩:=hf
  have hr:=Zgp P b q el fr vs 0 cs w hg (fun k hk=>by omega) (by omega) h1
  simp only [Nat.add_zero] at hr
  have hnew:=setRow_heap w b cs (cs.toList.take q++vs++cs.toList.drop (q+vs.length)).toArray el fr hg
  have hsize:(cs.toList.take q++vs++cs.toList.drop (q+vs.length)).toArray.size=cs.size:=by
    simp only [Yfs,Yf9,Yfq,Yfr,Yf3];omega
  refine ⟨_,hr,⟨rfl,rfl,rfl,by simp [World.setRow],fun k _ hk=>setRow_other w b k _ hk,?_⟩,⟨_,el,fr,hnew,by rw [hsize];exact hN,by rw [hsize];exact hfr⟩,?_,?_⟩
  · intro k n ⟨cs',el',fr',h4,h5⟩
    by_cases hk:k=b
    · subst hk
      rw [hg] at h4
      cases h4
      exact ⟨_,el,fr,hnew,by rw [hsize];exact h5⟩
    · exact ⟨cs',el',fr',by rw [setRow_other w b k _ hk];exact h4,h5⟩
  · intro i hi1 hi2
    simp only [World.cell?,hnew]
    simp only [List.getElem?_toArray]
    rw [Yga,List.getElem?_append_right (by simp;omega)]
    have:(cs.toList.take q).length=q:=by simp;omega
    rw [this,List.getElem?_append_left (by omega)]
    rfl
  · intro i hi
    simp only [World.cell?,hnew,hg]
    simp only [List.getElem?_toArray]
    have:(cs.toList.take q).length=q:=by simp;omega
    by_cases h3:i<q
    · rw [Yga,List.getElem?_append_left (by omega),List.getElem?_take,if_pos h3]
      simp
    · rw [List.getElem?_append_right (by simp;omega)]
      simp only [Yf9,this,List.getElem?_drop]
      rw [show q+vs.length+(i-(q+vs.length))=i by omega]
      simp
theorem Z4e {cells xs:List AV} {off:Nat} (hoff:off+xs.length≤cells.length) (i:Nat):(over cells off xs)[i]? = if i<off then cells[i]? else if i<off+xs.length then xs[i-off]? else cells[i]? := by
  unfold over
  have e1:(cells.take off).length=off:=by simp;omega
  by_cases h1:i<off
  · rw [if_pos h1,Yga,List.getElem?_append_left (by omega),List.getElem?_take,if_pos h1]
  · rw [if_neg h1]
    by_cases h2:i<off+xs.length
    · rw [if_pos h2,Yga,List.getElem?_append_right (by omega),e1,List.getElem?_append_left (by omega)]
    · rw [if_neg h2,List.getElem?_append_right (by simp;omega),Yf9,e1,List.getElem?_drop,show off+xs.length+(i-(off+xs.length))=i by omega]
theorem Zna {c c':Ctx} (hc:CLe c c') {b o' off:Nat} {cells xs:List AV} {vs:List Value} (h:VRC c b o' cells) (hx:VRL c xs vs) (hoff:off+xs.length≤cells.length)
    (hin:∀ i,o'+off≤i→i<o'+off+vs.length→c'.w.cell? ⟨b,i,none⟩=vs[i-(o'+off)]?) (hout:∀ i,¬ (o'+off≤i∧i<o'+off+vs.length)→c'.w.cell? ⟨b,i,none⟩=c.w.cell? ⟨b,i,none⟩) :
    VRC c' b o' (over cells off xs):=by
  have hl:=H5 hx
  refine Q5 fun i x hi=>?_
  rw [Z4e hoff] at hi
  by_cases h1:i<off
  · rw [if_pos h1] at hi
    obtain ⟨v,h2,h3⟩:=Za7 h hi
    exact ⟨v,by rw [hout _ (by omega)];exact h2,Y6 hc _ _ h3⟩
  · rw [if_neg h1] at hi
    by_cases h2:i<off+xs.length
    · rw [if_pos h2] at hi
      obtain ⟨v,h3,h4⟩:=Zam hx hi
      exact ⟨v,by rw [hin _ (by omega) (by omega),show o'+i-(o'+off)=i-off by omega];exact h3,Y6 hc _ _ h4⟩
    · rw [if_neg h2] at hi
      obtain ⟨v,h3,h4⟩:=Za7 h hi
      exact ⟨v,by rw [hout _ (by omega)];exact h3,Y6 hc _ _ h4⟩
theorem ok_st (h:Rel E w0 O0 σ0 L0 σ L w) {t:TypeId} {x y:Operand} {n:Nat} (ho:o.op=.store t x y) (hs:L1 P t=some n) {vx vy:AV} (hx:VR (ctx σ L w) vx (a.eval x)) (hy:VR (ctx σ L w) vy (a.eval y))
    {r:AV × Ups} (hr:(stV n vx (J4 vy)).run σ=some r):L3 E w0 O0 σ0 L0 P σ L w o a r.1 r.2:=by
  cases vx<;>try exact A7 hr
  rename_i s g off
  cases hc:J4 vy with
  | none=>rw [hc] at hr;exact A7 hr
  | some xs =>
    rw [hc] at hr
    simp only [stV] at hr
    obtain ⟨e,he,ha,hg,h1⟩:=J8 hr
    simp only [stC] at h1
    obtain ⟨⟨hrw,hxn,hoff,hh⟩,h2⟩:=G2 h1
    obtain ⟨b,o',hl,hp,hf,hcells⟩:=Zdg h.store hx he ha hg
    have hvl:=Zdk hy hc
    have hlen:=H5 hvl
    have hone:=Zfp hvl hh
    obtain ⟨w',g1,g2,g3,g4,g5⟩:=Zm9 P (b:=b) (q:=o'+off) (vs:=(a.eval y).cells.toList) hf (by rw [hlen];omega) hone
    have hrun:(execOp a.eval o).run P w=.ok .skip w':=by
      have hst:(Instr.storeAt t (a.eval x) (a.eval y)).run P w=.ok () w':=by
        have:(a.eval y).cells.size=n:=by simpa [hxn] using hlen
        simp [Instr.storeAt,Instr.sureAddr,hp,storeVar,T2 hs,this,g1]
      simp [execOp,ho,hst]
    cases hv:e.var with
    | true =>
      have hb:∀ (A B:Acc (AV × Ups)),(bif e.var then A else B)=A:=fun A B=>by rw [hv];rfl
      rw [hb] at h2
      have k:=A6 h2
      subst k
      obtain ⟨k1,k2⟩:=h.upd he ha hrw hl (cells:=over e.cells off xs) g2 (by rw [Ze0 (by omega)];exact g3)
        (fun c' hc' hw'=>Zna hc' hcells hvl (by omega) (by rw [hw'];exact g4) (by rw [hw'];exact g5))
      exact Zfn (u:=[(s,{ e with cells:=over e.cells off xs })]) hrun k1 k2
    | false =>
      have hb:∀ (A B:Acc (AV × Ups)),(bif e.var then A else B)=B:=fun A B=>by rw [hv];rfl
      rw [hb] at h2
      obtain ⟨⟨cs',u,ss⟩,h3,h4⟩:=D7 h2
      simp only at h4
      cases hcon:ss.contains s with
      | true=>rw [hcon] at h4;exact A7 h4
      | false =>
        rw [hcon] at h4
        have k:=A6 h4
        subst k
        have hns:s∉ss:=by simpa using hcon
        obtain ⟨k1,k2,k3,k4,k5,k6⟩:=Zj4 h hvl h3
        have he':A8 (B5 σ u) s=some e:=(k6 s hns).trans he
        have hlen':=H5 k3
        obtain ⟨m1,m2⟩:=k1.upd he' ha hrw hl (cells:=over e.cells off cs') g2 (by rw [Ze0 (by omega)];exact g3)
          (fun c' hc' hw'=>Zna hc' (VRC_le k2 b (fun _=>rfl) _ _ hcells) k3 (by omega) (by rw [hw'];exact g4) (by rw [hw'];exact g5))
        exact Zfn (u:=u++[(s,{ e with cells:=over e.cells off cs' })]) hrun (by rw [C8];exact m1) (by rw [C8];exact k2.trans m2)
end Cod
namespace Cod
open Go
variable {E:Env} {w0:World} {O0:Nat→Prop} {σ0:A2} {L0:Lay} {P:Program} {σ:A2} {L:Lay} {w:World} {o:Oper} {a:Act}
def Zqp (P:Program) (w:World) (tx:TypeId) (x:Value) (z:Value) (sz bytes m:Nat) (news:List Value):Prop :=
  (∃ dsc,P.underlying tx=some dsc∧(dsc=.string∨∃ e',dsc=.slice e')∧∀ w1:World,w1.heap=w.heap→(Builtin.lenOf x).run P w1=.ok m w1∧(Builtin.firstCells sz m x).run P w1=.ok news.toArray w1) ∨
  (∃ k,P.underlying tx=some (.int k)∧x=.int .i64 m∧m≤N7∧m*bytes≤N7∧news=(if m*sz=0 then #[] else Builtin.zeroCells z.cells m).toList)
section
variable {t ty e tx:TypeId} {i:TypeInfo} {z:Value} {m:Nat} {news:List Value} {x:Value}
theorem Zco {n:Nat} (h:n≤N7):IntKind.i64.wrap (n:Int)=(n:Int):=by
  rw [IntKind.wrap_i64];unfold N7 at h;omega
theorem Zbx (ht:P.underlying t=some (.slice e)) (hi:P.info? e=some i) (hz:i.zero=some z) (hx:Zqp P w tx x z i.size i.bytes m news) (b:Addr) (n cap:Nat) (hroom:n+m≤cap) {w':World} (hst:(storeCells (b.add (n*i.size)) news).run P w=.ok () w') :
    (Builtin.append_ #[t,tx] ty #[.slice (some b) n cap,x]).run P w=.ok (.slice (some b) (n+m) cap) w':=by
  have hso:∀ w1:World,(Go.sizeOf e).run P w1=.ok i.size w1:=fun w1=>by simp [Go.sizeOf,typeInfo,hi]
  rcases hx with ⟨dsc,h1,h2,h3⟩|⟨k,h1,h2,h3,h4,h5⟩
  · obtain ⟨h4,h5⟩:=h3 w rfl
    rcases h2 with rfl|⟨e',rfl⟩<;>simp [Builtin.append_,run_underlying ht,run_underlying h1,hso,h4,h5,hroom,hst]
  · subst h2
    subst h5
    have n1:¬ ((m:Int)<0):=by omega
    have n2:¬ (281474976710656<(m:Int)*(i.bytes:Int)):=by rw [←Ygb];unfold N7 at h4;omega
    by_cases hm:m*i.size=0
    · simp [Builtin.append_,run_underlying ht,run_underlying h1,hso,typeInfo,hi,asInt,asIntOf,Zco h3,n1,n2,hroom,hm]
      rw [if_pos hm] at hst
      have hst':(storeCells (b.add (n*i.size)) []).run P w=.ok () w':=hst
      rw [hst']
      rfl
    · rw [if_neg hm] at hst
      simp [Builtin.append_,run_underlying ht,run_underlying h1,hso,typeInfo,hi,zeroValue,hz,asInt,asIntOf,Zco h3,n1,n2,hroom,hm,hst]
theorem Zdx (ht:P.underlying t=some (.slice e)) (hi:P.info? e=some i) (hz:i.zero=some z) (hx:Zqp P w tx x z i.size i.bytes 0 news) :
    (Builtin.append_ #[t,tx] ty #[.slice none 0 0,x]).run P w=.ok (.slice none 0 0) w:=by
  have hso:∀ w1:World,(Go.sizeOf e).run P w1=.ok i.size w1:=fun w1=>by simp [Go.sizeOf,typeInfo,hi]
  rcases hx with ⟨dsc,h1,h2,h3⟩|⟨k,h1,h2,h3,h4,h5⟩
  · obtain ⟨h4,h5⟩:=h3 w rfl
    rcases h2 with rfl|⟨e',rfl⟩<;>simp [Builtin.append_,run_underlying ht,run_underlying h1,hso,typeInfo,hi,h4,h5]
  · subst h2
    subst h5
    have n1:¬ (((0:Nat):Int)<0):=by omega
    have w0:=Zco h3
    simp [Builtin.append_,run_underlying ht,run_underlying h1,hso,typeInfo,hi,asInt,asIntOf,show IntKind.i64.wrap 0=0 from rfl]
theorem Zby (ht:P.underlying t=some (.slice e)) (hi:P.info? e=some i) (hz:i.zero=some z) (hx:Zqp P w tx x z i.size i.bytes m news) (hb0:i.bytes≠0) (b:Option Addr) (n cap:Nat) (olds:List Value)
    (ho:(Builtin.firstCells i.size n (.slice b n cap)).run P w.drew=.ok olds.toArray w.drew) (hg:cap<n+m) (hmax:(n+m)*i.bytes≤N7) :
    (Builtin.append_ #[t,tx] ty #[.slice b n cap,x]).run P w=.ok (.slice (some ⟨w.heap.size,0,none⟩) (n+m) (grownCap w (n+m) cap e))
      (w.drew.alloc (.cells (olds.toArray++(news.toArray++Builtin.zeroCells z.cells (grownCap w (n+m) cap e-(n+m)))) e)):=by
  have hn:¬ (n+m≤cap):=by omega
  have hle:n+m≤N7:=Yfk (Nat.le_mul_of_pos_right _ (by omega)) hmax
  have h63:¬ (9223372036854775807<((n:Int)+(m:Int))):=by unfold N7 at hle;omega
  have h48:¬ (281474976710656<Builtin.nextslicecap (n+m) cap*i.bytes):=by
    have:=growslice_fits hg hmax
    omega
  have hso:∀ w1:World,(Go.sizeOf e).run P w1=.ok i.size w1:=fun w1=>by simp [Go.sizeOf,typeInfo,hi]
  rcases hx with ⟨dsc,h1,h2,h3⟩|⟨k,h1,h2,h3,h4,h5⟩
  · obtain ⟨h4,_⟩:=h3 w rfl
    obtain ⟨_,h5⟩:=h3 w.drew rfl
    rcases h2 with rfl|⟨e',rfl⟩<;>simp [Builtin.append_,run_underlying ht,run_underlying h1,hso,typeInfo,hi,zeroValue,hz,h4,h5,ho,hn,h63,h48,hb0,Question.forced,newRow,grownCap]
  · subst h2
    subst h5
    have n1:¬ ((m:Int)<0):=by omega
    have n2:¬ (281474976710656<(m:Int)*(i.bytes:Int)):=by rw [←Ygb];unfold N7 at h4;omega
    by_cases hm:m*i.size=0
    · simp [Builtin.append_,run_underlying ht,run_underlying h1,hso,typeInfo,hi,zeroValue,hz,asInt,asIntOf,Zco h3,n1,n2,ho,hn,h63,h48,hb0,Question.forced,newRow,grownCap,hm]
    · simp [Builtin.append_,run_underlying ht,run_underlying h1,hso,typeInfo,hi,zeroValue,hz,asInt,asIntOf,Zco h3,n1,n2,ho,hn,h63,h48,hb0,Question.forced,newRow,grownCap,hm]
end
theorem Zf5 (h:Rel E w0 O0 σ0 L0 σ L w) {u:Ups} {t:Nat} {g m sz:Nat} (hg:∀ e,A8 σ (.s t 0)=some e→e.g<g) {cells:List AV} {vs:List Value} (hv:VRL (ctx σ L w) cells vs) (rest:Array Value) (e:TypeId) {N cap:Nat}
    (hN:N≤cap) (hcap:cap*sz≤(vs.toArray++rest).size) {σ2:A2} (hc:CLe (ctx σ2 L w) (ctx σ L w)) (hσ:B5 σ2 (u++[((.s t 0),⟨g,true,true,false,cells⟩)])=H9 σ (.s t 0) ⟨g,true,true,false,cells⟩)
    (hr:(execOp a.eval o).run P w=.ok (.value (.slice (some ⟨w.heap.size,0,none⟩) N cap)) (w.drew.alloc (.cells (vs.toArray++rest) e))) :
    L3 E w0 O0 σ0 L0 P σ2 L w o a (.buf (.s t 0) g 0 N sz) (u++[((.s t 0),⟨g,true,true,false,cells⟩)]):=by
  obtain ⟨k1,k2⟩:=h.drawn (w.drawn+1)
  have hv':VRL (ctx σ L w.drew) cells vs:=VRL_le k2 _ _ hv
  have k1':Rel E w0 O0 σ0 L0 σ L w.drew:=k1
  obtain ⟨m1,m2⟩:=k1'.new hg false hv' (vs.toArray++rest) (fun i v hi=>by
    rw [Array.getElem?_append_left (by
      have:=(List.getElem?_eq_some_iff.1 hi).1
      simpa using this)]
    simpa using hi) e (0,0) (by simp)
  refine J6 hr (by rw [hσ];exact m1) (by rw [hσ];exact hc.trans (k2.trans m2)) ?_
  simp only [VR]
  refine ⟨rfl,g,true,by rw [hσ];exact J0 (C1 _ _ _),Yfj _,fun _ _=>?_⟩
  rw [hσ]
  unfold L5
  rw [show (ctx (H9 σ (.s t 0) ⟨g,true,true,false,cells⟩) (G4 L (.s t 0) (some (w.drew.heap.size,0))) (w.drew.alloc (.cells (vs.toArray++rest) e))).L (.s t 0)=some (w.drew.heap.size,0) from G8 _ _ _]
  exact .inr ⟨cap,rfl,hN,vs.toArray++rest,e,(0,0),heap_alloc_new w.drew _,by omega⟩
theorem Zqq (h:Rel E w0 O0 σ0 L0 σ L w) {u:Ups} {t:Nat} {g sz:Nat} (hg:∀ e,A8 σ (.s t 0)=some e→e.g<g)
    {σ2:A2} (hc:CLe (ctx σ2 L w) (ctx σ L w)) (hσ:B5 σ2 (u++[((.s t 0),⟨g,true,true,false,[]⟩)])=H9 σ (.s t 0) ⟨g,true,true,false,[]⟩)
    (hr:(execOp a.eval o).run P w=.ok (.value (.slice none 0 0)) w) :
    L3 E w0 O0 σ0 L0 P σ2 L w o a (.buf (.s t 0) g 0 0 sz) (u++[((.s t 0),⟨g,true,true,false,[]⟩)]):=by
  obtain ⟨m1,m2⟩:=h.newNil hg
  refine J6 hr (by rw [hσ];exact m1) (by rw [hσ];exact hc.trans m2) ?_
  simp only [VR]
  refine ⟨rfl,g,true,by rw [hσ];exact J0 (C1 _ _ _),Yfj _,fun _ _=>?_⟩
  rw [hσ]
  unfold L5
  rw [show (ctx (H9 σ (.s t 0) ⟨g,true,true,false,[]⟩) (G4 L (.s t 0) none) w).L (.s t 0)=none from G8 _ _ _]
  exact ⟨rfl,rfl,rfl⟩
theorem Zf6 {vs:List Value} {zv:Value} {sz N cap:Nat} (hz:zv.cells.size=sz) (hv:vs.length=N*sz) (hN:N≤cap):cap*sz≤(vs.toArray++Builtin.zeroCells zv.cells (cap-N)).size:=by
  simp only [Array.size_append,Yfs,size_zeroCells,hz,hv,←Yfx]
  exact Yf7 _ (by omega)
theorem Rel.alloc (h:Rel E w0 O0 σ0 L0 σ L w) (o:Obj):Rel E w0 O0 σ0 L0 σ L (w.alloc o)∧CLe (ctx σ L w) (ctx σ L (w.alloc o)):=by
  have hk:=Keep.alloc (I6 σ L) w o
  have hk0:=Keep.alloc (fun _=>False) w o
  have hc:CLe (ctx σ L w) (ctx σ L (w.alloc o)):=⟨fun s g0 al h=>⟨g0,al,h,Yfj _,fun _ h=>⟨h,rfl⟩⟩,fun _ _ h=>h,fun b hb _=>hk0.block b hb id,fun b k h=>hk0.room b k h,hk0.size⟩
  refine ⟨h.step ⟨fun s e he ha=>?_,h.store.apart⟩ hc hk (fun b hb=>.inl hb) (fun x e he ha=>⟨e,he,ha,rfl,rfl⟩) (fun b hb=>.inl hb) rfl,hc⟩
  have:=h.store.ent s e he ha
  unfold V1 at this ⊢
  cases hl:(ctx σ L w).L s with
  | none=>rw [hl] at this;rw [show (ctx σ L (w.alloc o)).L s=none from hl];exact this
  | some p =>
    rw [hl] at this
    rw [show (ctx σ L (w.alloc o)).L s=some p from hl]
    have hlt:=h.store.lt he ha (show L s=some (p.1,p.2) from hl)
    have hb:=hk0.block p.1 hlt id
    rcases this with h1|⟨h1,h2⟩
    · refine .inl ⟨?_,VRC_le hc _ (fun q=>?_) _ _ h1.2⟩
      · obtain ⟨cs,el,fr,q1,q2⟩:=h1.1
        exact ⟨cs,el,fr,hb.trans q1,q2⟩
      · show (w.alloc o).cell? _=w.cell? _
        simp only [World.cell?,hb]
    · exact .inr ⟨h1,h2.to hc hb⟩
theorem Z4f (h:Rel E w0 O0 σ0 L0 σ L w) {ts tx e:TypeId} {i:TypeInfo} {z:Value} {c:Call} {sx xx:Operand} {m:Nat} {news:List Value} {vs:List AV} {vsl:AV}
    (hc1:c.callee=.builtin .append) (hc2:c.args = #[sx,xx]) (hc3:c.argTypes = #[ts,tx]) (ho:o.op=.call c)
    (ht:P.underlying ts=some (.slice e)) (hi:P.info? e=some i) (hz:i.zero=some z) (hb0:i.bytes≠0)
    (hx:Zqp P w tx (a.eval xx) z i.size i.bytes m news) (hnl:news.length=m*i.size) (hone:∀ v∈news,v.oneCell'=true)
    (hv:VRL (ctx σ L w) vs news)
    (hs:VR (ctx σ L w) vsl (a.eval sx)) {r:AV × Ups} (hr:(Zp4 i.size i.bytes m vs vsl).run σ=some r):L3 E w0 O0 σ0 L0 P σ L w o a r.1 r.2:=by
  have hcall:∀ y w',(Builtin.append_ #[ts,tx] o.type #[a.eval sx,a.eval xx]).run P w=.ok y w'→(execOp a.eval o).run P w=.ok (.value y) w':=by
    intro y w' hy
    simp [execOp,ho,resolve,hc1,hc2,hc3,invoke,builtin,hy]
  have e0:∀ X:Array Value,([]:List Value).toArray++X=X:=fun X=>by simp
  have hvl:=H5 hv
  cases vsl<;>try exact A7 hr
  case buf s g0 off n z' =>
    simp only [Zp4] at hr
    obtain ⟨en,he,ha,hg0,h1⟩:=J8 hr
    simp only [Z3w] at h1
    obtain ⟨⟨hrw,hvar,rfl,hoff,hmx,hfl⟩,h2⟩:=G2 h1
    have k:=A6 h2
    subst k
    have hoff':off+n*i.size≤en.cells.length:=Nat.le_of_eq hoff
    have hb:=Zbq hs he ha hg0
    -- the entry made Zek,over a world in which it stands as before
    have hstill:∀ {w':World},Rel E w0 O0 σ0 L0 (H9 σ s en) L w'→CLe (ctx σ L w) (ctx (H9 σ s en) L w') →
        Rel E w0 O0 σ0 L0 (B5 σ [(s,en),(s,{ en with rw:=false })]) L w'∧CLe (ctx σ L w) (ctx (B5 σ [(s,en),(s,{ en with rw:=false })]) L w'):=by
      intro w' q1 q2
      obtain ⟨r1,r2⟩:=q1.less (s:=s) (e:=en) (e' := { en with rw:=false }) (C1 _ _ _) rfl (fun h=>⟨h,rfl,rfl⟩) (fun h=>by cases h)
      exact ⟨r1,q2.trans r2⟩
    have hent:∀ t e',A8 (B5 σ [(s,en),(s,{ en with rw:=false })]) t=some e'→e'.rw=true→t≠s∧A8 σ t=some e':=by
      intro t e' h3 h4
      by_cases hts:s=t
      · subst hts
        simp only [B5] at h3
        rw [C1] at h3
        cases h3;cases h4
      · simp only [B5] at h3
        rw [C6 _ _ hts,C6 _ _ hts] at h3
        exact ⟨fun h=>hts h.symm,h3⟩
    have hFlt:∀ b,L.F b→b<w.heap.size:=fun b hb=>by
      rw [h.lf] at hb
      exact Yfl (h.f0 b hb).1 h.keep.size
    have hnoNew:¬ (I6 (B5 σ [(s,en),(s,{ en with rw:=false })]) L w.heap.size∨L.F w.heap.size):=by
      rintro (⟨t,e',o',h3,h4,h5,h6⟩|h3)
      · obtain ⟨_,h7⟩:=hent t e' h3 h5
        exact Nat.lt_irrefl _ (h.store.lt h7 h4 h6)
      · exact Nat.lt_irrefl _ (hFlt _ h3)
    -- a new block
    have hgrow:∀ (bo:Option Addr) (cap:Nat) (olds:List Value),VRL (ctx σ L w) (sub en.cells off (n*i.size)) olds→olds.length=n*i.size→cap<n+m →
        (Builtin.firstCells i.size n (.slice bo n cap)).run P w.drew=.ok olds.toArray w.drew→a.eval sx=.slice bo n cap →
        L3 E w0 O0 σ0 L0 P σ L w o a (.lst (sub en.cells off (n*i.size)++vs) (n+m)) [(s,en),(s,{ en with rw:=false })]:=by
      intro bo cap olds ho1 hol hcap hq hsx
      have hrun:=Zby (ty:=o.type) ht hi hz hx hb0 bo n cap olds hq hcap hmx
      obtain ⟨k1,k2⟩:=h.drawn (w.drawn+1)
      have k1':Rel E w0 O0 σ0 L0 σ L w.drew:=k1
      obtain ⟨m1,m2⟩:=k1'.alloc (.cells (olds.toArray++(news.toArray++Builtin.zeroCells z.cells (grownCap w (n+m) cap e-(n+m)))) e)
      obtain ⟨n1,n2⟩:=m1.less (s:=s) (e:=en) (e':=en) he rfl (fun h=>⟨h,rfl,rfl⟩) id
      have hcc:CLe (ctx σ L w) (ctx (H9 σ s en) L (w.drew.alloc (.cells (olds.toArray++(news.toArray++Builtin.zeroCells z.cells (grownCap w (n+m) cap e-(n+m)))) e))):=(CLe.trans k2 m2).trans n2
      obtain ⟨p1,p2⟩:=hstill n1 hcc
      refine J6 (hcall _ _ (by rw [hsx];exact hrun)) p1 p2 ?_
      simp only [VR]
      refine ⟨hfl,.inr ⟨w.heap.size,0,grownCap w (n+m) cap e,rfl,grownCap_ge w (n+m) cap e,?_,hnoNew,?_⟩⟩
      · exact (Array.getElem?_eq_some_iff.1 (heap_alloc_new w.drew (.cells (olds.toArray++(news.toArray++Builtin.zeroCells z.cells (grownCap w (n+m) cap e-(n+m)))) e))).1
      · have hvv:=VRL_le p2 _ _ (U4 ho1 hv)
        refine Q5 fun j x hj=>?_
        obtain ⟨v,q1,q2⟩:=Zam hvv hj
        refine ⟨v,?_,q2⟩
        show (w.drew.alloc _).cell? ⟨w.heap.size,0+j,none⟩=some v
        have hget:=heap_alloc_new w.drew (.cells (olds.toArray++(news.toArray++Builtin.zeroCells z.cells (grownCap w (n+m) cap e-(n+m)))) e)
        have hget':(w.drew.alloc (.cells (olds.toArray++(news.toArray++Builtin.zeroCells z.cells (grownCap w (n+m) cap e-(n+m)))) e)).heap[w.heap.size]? = some (.cells (olds.toArray++(news.toArray++Builtin.zeroCells z.cells (grownCap w (n+m) cap e-(n+m)))) e):=hget
        simp only [World.cell?,hget',Ygc]
        have hjl:=(List.getElem?_eq_some_iff.1 q1).1
        have e2:olds.toArray++(news.toArray++Builtin.zeroCells z.cells (grownCap w (n+m) cap e-(n+m)))=(olds++news).toArray++Builtin.zeroCells z.cells (grownCap w (n+m) cap e-(n+m)):=by
          apply Array.ext';simp only [Ygd,Yga]
        rw [e2,Array.getElem?_append_left (by simpa using hjl)]
        simpa using q1
    unfold L5 at hb
    split at hb
    · rename_i b o' hl
      have hrm:=Zez hb
      obtain ⟨hf,hcells⟩:=h.store.free he ha hl hrm
      obtain ⟨olds,ho1,ho2⟩:=Zet (Za8 hcells off (n*i.size))
      have hol:=H5 ho1
      rw [Q6 hoff'] at hol
      have hlt:=h.store.lt he ha hl
      have hnob:¬ (I6 (B5 σ [(s,en),(s,{ en with rw:=false })]) L b∨L.F b):=by
        rintro (⟨t,e',o2,h3,h4,h5,h6⟩|h3)
        · obtain ⟨h7,h8⟩:=hent t e' h3 h5
          exact h7 (h.store.apart t s e' en b o2 o' h8 h4 he ha h6 hl)
        · exact h.notF ⟨s,en,o',he,ha,hl⟩ h3
      rcases hb with ⟨h6,_,q,h7⟩|⟨cap,h6,h7,h8⟩
      · subst h6
        have hol0:olds=[]:=Yf6 (by simpa using hol)
        subst hol0
        by_cases hm:m=0
        · subst hm
          have hn:news=[]:=Yf6 (by simpa using hnl)
          subst hn
          have hvs:vs=[]:=Yf6 (by simpa using hvl.symm)
          subst hvs
          have hrun:=Zbx (ty:=o.type) ht hi hz hx ⟨b,q,none⟩ 0 0 (Yfj _) (w':=w) (by simp [storeCells])
          obtain ⟨n1,n2⟩:=h.less (s:=s) (e:=en) (e':=en) he rfl (fun h=>⟨h,rfl,rfl⟩) id
          obtain ⟨p1,p2⟩:=hstill n1 n2
          have hnil:sub en.cells off (0*i.size)++[]=([]:List AV):=by simp [sub]
          rw [hnil] at hfl ⊢
          refine J6 (hcall _ _ (by rw [h7];exact hrun)) p1 p2 ?_
          simp only [VR]
          exact ⟨hfl,.inr ⟨b,q,0,rfl,Yfj _,hlt,hnob,by simp [VRC]⟩⟩
        · exact hgrow (some ⟨b,q,none⟩) 0 [] ho1 (by simp) (by omega) (by simp [Builtin.firstCells,loadCells,loadCellsFrom]) h7
      · by_cases hroom:n+m≤cap
        · have hfr:=hf.roomK h8
          have hle:(n+m)*i.size≤cap*i.size:=Yf7 _ hroom
          rw [Yfx] at hle
          obtain ⟨w',g1,g2,g3,g4,g5⟩:=Zm9 P (b:=b) (q:=o'+off+n*i.size) (vs:=news) hfr (by rw [hnl];omega) hone
          have hrun:=Zbx (ty:=o.type) ht hi hz hx ⟨b,o'+off,none⟩ n cap hroom (w':=w') (by rw [P5];exact g1)
          obtain ⟨n1,n2⟩:=h.upd he ha hrw hl (w':=w') (cells:=en.cells) g2 (g3.le (by omega)) (fun c' hc' hw'=>by
            refine Q5 fun j x hj=>?_
            have hjl:=(List.getElem?_eq_some_iff.1 hj).1
            obtain ⟨v,q1,q2⟩:=Za7 hcells hj
            refine ⟨v,?_,Y6 hc' _ _ q2⟩
            rw [hw',g5 _ (by omega)]
            exact q1)
          obtain ⟨p1,p2⟩:=hstill n1 n2
          refine J6 (hcall _ _ (by rw [h6];exact hrun)) p1 p2 ?_
          simp only [VR]
          refine ⟨hfl,.inr ⟨b,o'+off,cap,rfl,hroom,Yfl hlt g2.size,hnob,?_⟩⟩
          refine Q5 fun j x hj=>?_
          by_cases hjn:j<n*i.size
          · rw [List.getElem?_append_left (by rw [Q6 hoff'];exact hjn)] at hj
            obtain ⟨v,q1,q2⟩:=Za7 (Za8 hcells off (n*i.size)) hj
            refine ⟨v,?_,Y6 p2 _ _ q2⟩
            show w'.cell? _=_
            rw [g5 _ (by omega)]
            exact q1
          · rw [List.getElem?_append_right (by rw [Q6 hoff'];omega),Q6 hoff'] at hj
            obtain ⟨v,q1,q2⟩:=Zam hv hj
            have hjl:=(List.getElem?_eq_some_iff.1 q1).1
            refine ⟨v,?_,Y6 p2 _ _ q2⟩
            show w'.cell? _=_
            rw [g4 _ (by omega) (by omega),show o'+off+j-(o'+off+n*i.size)=j-n*i.size by omega]
            exact q1
        · refine hgrow (some ⟨b,o'+off,none⟩) cap olds ho1 hol (by omega) ?_ h6
          exact run_firstCells_some (P:=P) w.drew i.size n ⟨b,o'+off,none⟩ n cap olds hol (fun j v hj=>by rw [P5];exact ho2 j v hj)
    · rename_i hl
      obtain ⟨h6,h7,h8⟩:=hb
      subst h7 h8
      have hsub:sub en.cells 0 (0*i.size)=([]:List AV):=by simp [sub]
      by_cases hm:m=0
      · subst hm
        have hn:news=[]:=Yf6 (by simpa using hnl)
        subst hn
        have hvs:vs=[]:=Yf6 (by simpa using hvl.symm)
        subst hvs
        obtain ⟨n1,n2⟩:=h.less (s:=s) (e:=en) (e':=en) he rfl (fun h=>⟨h,rfl,rfl⟩) id
        obtain ⟨p1,p2⟩:=hstill n1 n2
        refine J6 (hcall _ _ (by rw [h6];exact Zdx ht hi hz hx)) p1 p2 ?_
        rw [hsub] at hfl ⊢
        simp only [VR]
        refine ⟨hfl,.inl ?_⟩
        simp
      · exact hgrow none 0 [] (by rw [hsub];simp [VRL]) (by simp) (by omega) (by simp [Builtin.firstCells]) h6
theorem Zxw (h:Rel E w0 O0 σ0 L0 σ L w) {ts tx e:TypeId} {i:TypeInfo} {z:Value} {c:Call} {sx xx:Operand} {m:Nat} {news:List Value} {vs:List AV} {u:Ups} {ss:List Site} {t:Nat} {vsl:AV}
    (hc1:c.callee=.builtin .append) (hc2:c.args = #[sx,xx]) (hc3:c.argTypes = #[ts,tx]) (ho:o.op=.call c)
    (ht:P.underlying ts=some (.slice e)) (hi:P.info? e=some i) (hz:i.zero=some z) (hzs:z.cells.size=i.size) (hb0:i.bytes≠0)
    (hx:Zqp P w tx (a.eval xx) z i.size i.bytes m news) (hnl:news.length=m*i.size)
    (hu:Rel E w0 O0 σ0 L0 (B5 σ u) L w) (huc:CLe (ctx σ L w) (ctx (B5 σ u) L w)) (hv:VRL (ctx (B5 σ u) L w) vs news) (hsim:Sim σ (B5 σ u)) (hns:∀ s,s∉ss→A8 (B5 σ u) s=A8 σ s)
    (hs:VR (ctx σ L w) vsl (a.eval sx)) {r:AV × Ups} (hr:(Zgi (.s t 0) i.size i.bytes m vs u ss vsl).run σ=some r):L3 E w0 O0 σ0 L0 P σ L w o a r.1 r.2:=by
  have hcall:∀ y w',(Builtin.append_ #[ts,tx] o.type #[a.eval sx,a.eval xx]).run P w=.ok y w'→(execOp a.eval o).run P w=.ok (.value y) w':=by
    intro y w' hy
    simp [execOp,ho,resolve,hc1,hc2,hc3,invoke,builtin,hy]
  have hgen:∀ {g:Nat},(∀ e,A8 σ (.s t 0)=some e→e.g<g)→∀ e,A8 (B5 σ u) (.s t 0)=some e→e.g<g:=by
    intro g hg e he
    obtain ⟨e1,g1,_,g2,_⟩:=hsim.back he
    rw [←g2];exact hg e1 g1
  have e0:∀ X:Array Value,([]:List Value).toArray++X=X:=fun X=>by simp
  have hvl:=H5 hv
  cases vsl<;>try exact A7 hr
  case nils =>
    simp only [Zgi] at hr
    obtain ⟨hmx,h2⟩:=G2 hr
    obtain ⟨g,hg,rfl⟩:=Zci h2
    simp only [VR] at hs
    by_cases hm:m=0
    · subst hm
      have hn:news=[]:=Yf6 (by simpa using hnl)
      subst hn
      have hvs:vs=[]:=Yf6 (by simpa using hvl.symm)
      subst hvs
      exact Zqq hu (hgen hg) huc (by rw [C8];rfl) (hcall _ _ (by rw [hs];exact Zdx ht hi hz hx))
    · have:=Zby (ty:=o.type) ht hi hz hx hb0 none 0 0 [] (by simp [Builtin.firstCells]) (by omega) (by simpa using hmx)
      simp only [Ygc,e0] at this
      refine Zf5 hu (m:=m) (hgen hg) hv (Builtin.zeroCells z.cells (grownCap w m 0 e-m)) e (grownCap_ge w m 0 e) (Zf6 hzs hnl (grownCap_ge w m 0 e)) huc (by rw [C8];rfl) (hcall _ _ ?_)
      rw [hs];exact this
  case buf s g0 off n z' =>
    simp only [Zgi] at hr
    obtain ⟨en,he,ha,hg0,h1⟩:=J8 hr
    simp only [appB] at h1
    obtain ⟨⟨hrw,hvar,rfl,hoff,hmx,hcon,hh⟩,h2⟩:=G2 h1
    obtain ⟨g,hg,rfl⟩:=Zci h2
    have hnss:s∉ss:=by simpa using hcon
    have he':A8 (B5 σ u) s=some en:=(hns s hnss).trans he
    -- the store with the old slice Y7
    have hdead:∃ σ1,Rel E w0 O0 σ0 L0 σ1 L w∧CLe (ctx (B5 σ u) L w) (ctx σ1 L w)∧(∀ e,A8 σ1 (.s t 0)=some e→e.g<g) ∧
        (σ1=if s=.s t 0 then B5 σ u else H9 (B5 σ u) s { en with alive:=false,cells:=[] })∧B5 σ (Zcl s (.s t 0) u en) = σ1:=by
      by_cases hst:s=.s t 0
      · refine ⟨B5 σ u,hu,CLe.refl _,hgen hg,by rw [if_pos hst],?_⟩
        simp [Zcl,hst]
      · obtain ⟨k1,k2⟩:=hu.less (e' := { en with alive:=false,cells:=[] }) he' rfl (fun h=>by cases h) id
        refine ⟨_,k1,k2,fun e1 h3=>?_,by rw [if_neg hst],?_⟩
        · rw [C6 _ _ hst] at h3;exact hgen hg e1 h3
        · simp only [Zcl,hst,decide_false,cond_false]
          rw [C8];rfl
    obtain ⟨σ1,d1,d2,d3,d4,d5⟩:=hdead
    have hcc:=huc.trans d2
    have hone:=Zfp hv hh
    have hb:=Zbq hs he ha hg0
    unfold L5 at hb
    split at hb
    · rename_i b o' hl
      have hrm:=Zez hb
      obtain ⟨hf,hcells⟩:=hu.store.free he' ha hl hrm
      obtain ⟨olds,ho1,ho2⟩:=Zet (Za8 hcells off (n*i.size))
      have hol:=H5 ho1
      rw [Q6 hoff] at hol
      have hgrow:∀ cap,cap<n+m→∀ q,(Builtin.firstCells i.size n (.slice (some q) n cap)).run P w.drew=.ok olds.toArray w.drew→a.eval sx=.slice (some q) n cap →
          L3 E w0 O0 σ0 L0 P σ L w o a (.buf (.s t 0) g 0 (n+m) i.size) (Zcl s (.s t 0) u en++[(.s t 0,⟨g,true,true,false,sub en.cells off (n*i.size)++vs⟩)]):=by
        intro cap hcap q hq hsx
        have:=Zby (ty:=o.type) ht hi hz hx hb0 (some q) n cap olds hq hcap hmx
        have hvv:VRL (ctx σ1 L w) (sub en.cells off (n*i.size)++vs) (olds++news):=VRL_le d2 _ _ (U4 ho1 hv)
        refine Zf5 d1 (m:=m) d3 hvv (Builtin.zeroCells z.cells (grownCap w (n+m) cap e-(n+m))) e (grownCap_ge w (n+m) cap e) (Zf6 hzs (by rw [Yf9,hol,hnl,Yfx]) (grownCap_ge w (n+m) cap e)) hcc
          (by rw [C8,d5];rfl) (hcall _ _ ?_)
        have e1:∀ Z:Array Value,(olds++news).toArray++Z=olds.toArray++(news.toArray++Z):=fun Z=>by apply Array.ext';simp only [Ygd,Yga]
        rw [hsx,this,e1]
      rcases hb with ⟨h6,_,q,h7⟩|⟨cap,h6,h7,h8⟩
      · subst h6
        have hol0:olds=[]:=Yf6 (by simpa using hol)
        subst hol0
        by_cases hm:m=0
        · subst hm
          have hn:news=[]:=Yf6 (by simpa using hnl)
          subst hn
          have hvs:vs=[]:=Yf6 (by simpa using hvl.symm)
          subst hvs
          have hrun:=Zbx (ty:=o.type) ht hi hz hx ⟨b,q,none⟩ 0 0 (Yfj _) (w':=w) (by simp [storeCells])
          obtain ⟨p1,p2⟩:=hu.pass he' ha hrw (d:=t) (k:=0) (hgen hg) hl (o:=o'+off) (cells:=[]) (Keep.refl _ w) (by simpa using hf.le (by omega)) (fun c' _ _=>by simp [VRC]) d4
          have hnil:sub en.cells off (0*i.size)++[]=([]:List AV):=by simp [sub]
          rw [hnil]
          refine J6 (hcall _ _ (by rw [h7];exact hrun)) (by rw [C8,d5];exact p1) (by rw [C8,d5];exact huc.trans p2) ?_
          simp only [VR]
          refine ⟨rfl,g,true,by rw [C8,d5];exact J0 (C1 _ _ _),Yfj _,fun _ _=>?_⟩
          rw [C8,d5]
          show L5 (ctx (H9 σ1 (.s t 0) _) _ _) _ _ _ _ _
          unfold L5
          rw [show (ctx (H9 σ1 (.s t 0) ⟨g,true,true,false,[]⟩) (G4 L (.s t 0) (some (b,o'+off))) w).L (.s t 0)=some (b,o'+off) from G8 _ _ _]
          exact .inl ⟨rfl,hrm,q,rfl⟩
        · exact hgrow 0 (by omega) ⟨b,q,none⟩ (by simp [Builtin.firstCells,loadCells,loadCellsFrom]) h7
      · by_cases hroom:n+m≤cap
        · have hfr:=hf.roomK h8
          have hle:(n+m)*i.size≤cap*i.size:=Yf7 _ hroom
          rw [Yfx] at hle
          obtain ⟨w',g1,g2,g3,g4,g5⟩:=Zm9 P (b:=b) (q:=o'+off+n*i.size) (vs:=news) hfr (by rw [hnl];omega) hone
          have hrun:=Zbx (ty:=o.type) ht hi hz hx ⟨b,o'+off,none⟩ n cap hroom (w':=w') (by rw [P5];exact g1)
          have hclen:(sub en.cells off (n*i.size)++vs).length=n*i.size+m*i.size:=by rw [Yf9,Q6 hoff,←hvl,hnl]
          obtain ⟨p1,p2⟩:=hu.pass he' ha hrw (d:=t) (k:=0) (hgen hg) hl (o:=o'+off) (w':=w') (cells:=sub en.cells off (n*i.size)++vs) g2 (g3.le (by rw [hclen];omega)) (fun c' hc' hw'=>by
            refine Q5 fun j x hj=>?_
            by_cases hjn:j<n*i.size
            · rw [List.getElem?_append_left (by rw [Q6 hoff];exact hjn)] at hj
              obtain ⟨v,q1,q2⟩:=Za7 (Za8 hcells off (n*i.size)) hj
              refine ⟨v,?_,Y6 hc' _ _ q2⟩
              rw [hw',g5 _ (by omega)]
              exact q1
            · rw [List.getElem?_append_right (by rw [Q6 hoff];omega),Q6 hoff] at hj
              obtain ⟨v,q1,q2⟩:=Zam hv hj
              have hjl:=(List.getElem?_eq_some_iff.1 q1).1
              refine ⟨v,?_,Y6 hc' _ _ q2⟩
              rw [hw',g4 _ (by omega) (by omega),show o'+off+j-(o'+off+n*i.size)=j-n*i.size by omega]
              exact q1) d4
          refine J6 (hcall _ _ (by rw [h6];exact hrun)) (by rw [C8,d5];exact p1) (by rw [C8,d5];exact huc.trans p2) ?_
          simp only [VR]
          refine ⟨rfl,g,true,by rw [C8,d5];exact J0 (C1 _ _ _),Yfj _,fun _ _=>?_⟩
          rw [C8,d5]
          show L5 (ctx (H9 σ1 (.s t 0) _) _ _) _ _ _ _ _
          unfold L5
          rw [show (ctx (H9 σ1 (.s t 0) ⟨g,true,true,false,sub en.cells off (n*i.size)++vs⟩) (G4 L (.s t 0) (some (b,o'+off))) w').L (.s t 0)=some (b,o'+off) from G8 _ _ _]
          exact .inr ⟨cap,rfl,hroom,g2.room _ _ h8⟩
        · refine hgrow cap (by omega) ⟨b,o'+off,none⟩ ?_ h6
          exact run_firstCells_some (P:=P) w.drew i.size n ⟨b,o'+off,none⟩ n cap olds hol (fun j v hj=>by rw [P5];exact ho2 j v hj)
    · rename_i hl
      obtain ⟨h6,h7,h8⟩:=hb
      subst h7 h8
      have hen:en.cells=[]:=by
        have:=hu.store.ent s en he' ha
        unfold V1 at this
        rw [show (ctx (B5 σ u) L w).L s=none from hl] at this
        exact this.1
      have hsub:sub en.cells 0 (0*i.size)=([]:List AV):=by simp [sub]
      rw [hsub]
      simp only [List.nil_append,Ygc]
      by_cases hm:m=0
      · subst hm
        have hn:news=[]:=Yf6 (by simpa using hnl)
        subst hn
        have hvs:vs=[]:=Yf6 (by simpa using hvl.symm)
        subst hvs
        exact Zqq d1 d3 hcc (by rw [C8,d5];rfl) (hcall _ _ (by rw [h6];exact Zdx ht hi hz hx))
      · have:=Zby (ty:=o.type) ht hi hz hx hb0 none 0 0 [] (by simp [Builtin.firstCells]) (by omega) (by simpa using hmx)
        simp only [Ygc,e0] at this
        refine Zf5 d1 (m:=m) d3 (VRL_le d2 _ _ hv) (Builtin.zeroCells z.cells (grownCap w m 0 e-m)) e (grownCap_ge w m 0 e) (Zf6 hzs hnl (grownCap_ge w m 0 e)) hcc (by rw [C8,d5];rfl) (hcall _ _ ?_)
        rw [h6];exact this
end Cod
namespace Cod
open Go
variable {E:Env} {w0:World} {O0:Nat→Prop} {σ0:A2} {L0:Lay} {P:Program} {σ:A2} {L:Lay} {w:World} {o:Oper} {a:Act}
def Zao (l:List UInt8):List Value:=l.map fun b=>.int .u8 b.toNat
theorem Zl1 (c:Ctx) (l:List UInt8):VRL c (A0 l) (Zao l):=by
  induction l with
  | nil=>simp [A0,Zao,VRL]
  | cons b l ih =>
    simp only [A0,Zao,List.map_cons,VRL,VR]
    exact ⟨_,_,rfl,rfl,ih⟩
theorem U5 (l:List UInt8):(A0 l).length=l.length:=by simp [A0]
theorem Ze1 (h:StoreOK σ L w) {sz:Nat} {v:AV} {y:Value} (hv:VR (ctx σ L w) v y) {cs:List AV} {n:Nat} (hr:(P6 sz v).run σ=some (cs,n)) :
    ∃ news,VRL (ctx σ L w) cs news∧news.length=n*sz∧∀ w1:World,w1.heap=w.heap→(Builtin.lenOf y).run P w1=.ok n w1∧∀ k,k≤n→(Builtin.firstCells sz k y).run P w1=.ok (news.take (k*sz)).toArray w1:=by
  rcases Zj0 h hv hr with ⟨l,rfl,rfl,rfl,rfl⟩|⟨_,h2,h3⟩
  · simp only [VR] at hv
    subst hv
    refine ⟨Zao l,Zl1 _ l,by simp [Zao],fun w1 _=>⟨by simp [Builtin.lenOf,ByteArray.size],fun k hk=>?_⟩⟩
    simp only [Builtin.firstCells,Sem.run_pure]
    rw [Zdv]
    simp [sub,Zao,List.map_take]
  · rcases h3 with ⟨rfl,rfl,rfl⟩|⟨b,q,cap,rfl,hcap,h4⟩
    · exact ⟨[],by simp [VRL],by simp,fun w1 _=>⟨by simp [Builtin.lenOf],fun k hk=>by simp [Builtin.firstCells]⟩⟩
    · obtain ⟨vs,h5,h6⟩:=Zet h4
      have hl:=H5 h5
      refine ⟨vs,h5,by omega,fun w1 hw1=>⟨by simp [Builtin.lenOf],fun k hk=>?_⟩⟩
      have hk':k*sz≤n*sz:=Yf7 _ hk
      refine run_firstCells_some (P:=P) w1 sz k ⟨b,q,none⟩ n cap _ (by rw [Yfq];omega) (fun j u hj=>?_)
      have:=h6 j u (Zqo hj)
      rw [P5]
      simp only [World.cell?] at this ⊢
      rw [hw1];exact this
theorem Z4g (h:Rel E w0 O0 σ0 L0 σ L w) {ts tx e:TypeId} {c:Call} {sx xx:Operand} {t sz by_:Nat} {z:List AV} {vsl vx:AV}
    (hc1:c.callee=.builtin .append) (hc2:c.args = #[sx,xx]) (hc3:c.argTypes = #[ts,tx]) (ho:o.op=.call c)
    (ht:P.underlying ts=some (.slice e)) (hsz:L1 P e=some sz) (hby:Zdf P e=some by_) (hz:Z9 P e=some z) (hzl:z.length=sz) (hb0:by_≠0)
    (hx:P.underlying tx=some .string∨∃ e',P.underlying tx=some (.slice e'))
    (hs:VR (ctx σ L w) vsl (a.eval sx)) (hvx:VR (ctx σ L w) vx (a.eval xx)) {r:AV × Ups}
    (hr:((P6 sz vx).bind fun p=>(fix p.1).bind fun q=>Zgi (.s t 0) sz by_ p.2 q.1 q.2.1 q.2.2 vsl).run σ=some r):L3 E w0 O0 σ0 L0 P σ L w o a r.1 r.2:=by
  obtain ⟨⟨cs,m⟩,h1,h2⟩:=D7 hr
  obtain ⟨⟨vs,u,ss⟩,h3,h4⟩:=D7 h2
  simp only at h3 h4
  obtain ⟨news,g1,g2,g3⟩:=Ze1 (P:=P) h.store hvx h1
  obtain ⟨k1,k2,k3,k4,_,k6⟩:=Zj4 h g1 h3
  unfold L1 at hsz
  unfold Zdf at hby
  unfold Z9 at hz
  simp only [Yfp] at hsz hby
  obtain ⟨i,hi,h6⟩:=hsz
  obtain ⟨i',h7,h8⟩:=hby
  rw [hi] at h7
  cases h7
  rw [hi] at hz
  cases hzv:i.zero with
  | none=>simp only [Yfg,hzv] at hz;cases hz
  | some zv =>
    simp only [Yfg,hzv] at hz
    have hzz:=H5 (V9 (ctx σ L w) hz)
    simp only [Yf3] at hzz
    subst h6 h8
    refine Zxw h hc1 hc2 hc3 ho ht hi hzv (by omega) hb0 ?_ g2 k1 k2 k3 k4 k6 hs h4
    refine .inl ?_
    have hg:∀ w1:World,w1.heap=w.heap→(Builtin.lenOf (a.eval xx)).run P w1=.ok m w1∧(Builtin.firstCells i.size m (a.eval xx)).run P w1=.ok news.toArray w1:=by
      intro w1 hw1
      obtain ⟨q1,q2⟩:=g3 w1 hw1
      refine ⟨q1,?_⟩
      have:=q2 m (Yfj _)
      rwa [Yf8 (by omega)] at this
    rcases hx with hx|⟨e',hx⟩
    · exact ⟨_,hx,.inl rfl,hg⟩
    · exact ⟨_,hx,.inr ⟨e',rfl⟩,hg⟩
theorem Zxx (h:Rel E w0 O0 σ0 L0 σ L w) {ts tx e:TypeId} {c:Call} {sx xx:Operand} {sz by_:Nat} {z:List AV} {vsl vx:AV}
    (hc1:c.callee=.builtin .append) (hc2:c.args = #[sx,xx]) (hc3:c.argTypes = #[ts,tx]) (ho:o.op=.call c)
    (ht:P.underlying ts=some (.slice e)) (hsz:L1 P e=some sz) (hby:Zdf P e=some by_) (hz:Z9 P e=some z) (hzl:z.length=sz) (hb0:by_≠0)
    (hx:P.underlying tx=some .string∨∃ e',P.underlying tx=some (.slice e'))
    (hs:VR (ctx σ L w) vsl (a.eval sx)) (hvx:VR (ctx σ L w) vx (a.eval xx)) {r:AV × Ups}
    (hr:((P6 sz vx).bind fun p=>Zp4 sz by_ p.2 p.1 vsl).run σ=some r):L3 E w0 O0 σ0 L0 P σ L w o a r.1 r.2:=by
  obtain ⟨⟨cs,m⟩,h1,h2⟩:=D7 hr
  simp only at h2
  obtain ⟨news,g1,g2,g3⟩:=Ze1 (P:=P) h.store hvx h1
  have hone:∀ v∈news,v.oneCell'=true:=by
    refine Zfp g1 ?_
    cases vsl<;>try exact A7 h2
    simp only [Zp4] at h2
    obtain ⟨en,he,ha,hg0,h3⟩:=J8 h2
    simp only [Z3w] at h3
    obtain ⟨⟨_,_,_,_,_,hfl⟩,_⟩:=G2 h3
    rw [Zdu,Yfz] at hfl
    exact Zir hfl.2
  unfold L1 at hsz
  unfold Zdf at hby
  unfold Z9 at hz
  simp only [Yfp] at hsz hby
  obtain ⟨i,hi,h6⟩:=hsz
  obtain ⟨i',h7,h8⟩:=hby
  rw [hi] at h7
  cases h7
  rw [hi] at hz
  cases hzv:i.zero with
  | none=>simp only [Yfg,hzv] at hz;cases hz
  | some zv =>
    subst h6 h8
    refine Z4f h hc1 hc2 hc3 ho ht hi hzv hb0 ?_ g2 hone g1 hs h2
    refine .inl ?_
    have hg:∀ w1:World,w1.heap=w.heap→(Builtin.lenOf (a.eval xx)).run P w1=.ok m w1∧(Builtin.firstCells i.size m (a.eval xx)).run P w1=.ok news.toArray w1:=by
      intro w1 hw1
      obtain ⟨q1,q2⟩:=g3 w1 hw1
      refine ⟨q1,?_⟩
      have:=q2 m (Yfj _)
      rwa [Yf8 (by omega)] at this
    rcases hx with hx|⟨e',hx⟩
    · exact ⟨_,hx,.inl rfl,hg⟩
    · exact ⟨_,hx,.inr ⟨e',rfl⟩,hg⟩
theorem ok_frz (h:Rel E w0 O0 σ0 L0 σ L w) {x:Operand} {v:AV} (ho:o.op=.move x∨o.op=.assign x) (hv:VR (ctx σ L w) v (a.eval x)) {r:AV × Ups} (hr:((fix [v]).bind frzP).run σ=some r) :
    L3 E w0 O0 σ0 L0 P σ L w o a r.1 r.2:=by
  obtain ⟨⟨cs',u,ss⟩,h1,h2⟩:=D7 hr
  obtain ⟨k1,k2,k3,_,_,_⟩:=Zj4 h (cs:=[v]) (vs:=[a.eval x]) (by simp only [VRL];exact ⟨_,_,rfl,hv,rfl⟩) h1
  cases cs' with
  | nil=>exact A7 h2
  | cons y l =>
    cases l with
    | cons _ _=>exact A7 h2
    | nil =>
      simp only [frzP] at h2
      have k:=A6 h2
      subst k
      simp only [VRL] at k3
      obtain ⟨v',l',q1,q2,q3⟩:=k3
      simp only [List.cons.injEq] at q1
      obtain ⟨rfl,_⟩:=q1
      refine J6 (y:=a.eval x) (w':=w) (L':=L) ?_ k1 k2 q2
      rcases ho with ho|ho<;>simp [execOp,ho]
theorem Z4h (h:Rel E w0 O0 σ0 L0 σ L w) {x:Operand} {b:Bool} {lx:LO} {call:M9} {ρ:LO→AV} {d:Nat} (ho:o.op=.move x∨o.op=.assign x) (hv:VR (ctx σ L w) (ρ lx) (a.eval x)) {r:AV × Ups} (hr:(step call ρ d (mvOp b lx)).run σ=some r) :
    L3 E w0 O0 σ0 L0 P σ L w o a r.1 r.2:=by
  cases b
  · exact ok_mv h ho hv hr
  · exact ok_frz h ho hv hr
theorem Ybf (h:Rel E w0 O0 σ0 L0 σ L w) {ts tx e:TypeId} {c:Call} {sx xx:Operand} {t sz by_:Nat} {z:List AV} {vsl vx:AV} {k:IntKind}
    (hc1:c.callee=.builtin .append) (hc2:c.args = #[sx,xx]) (hc3:c.argTypes = #[ts,tx]) (ho:o.op=.call c)
    (ht:P.underlying ts=some (.slice e)) (hsz:L1 P e=some sz) (hby:Zdf P e=some by_) (hz:Z9 P e=some z) (hzl:z.length=sz) (hb0:by_≠0) (hsz0:sz≠0)
    (hx:P.underlying tx=some (.int k))
    (hs:VR (ctx σ L w) vsl (a.eval sx)) (hvx:VR (ctx σ L w) vx (a.eval xx)) {r:AV × Ups}
    (hr:(Zlo (.s t 0) sz by_ z vsl vx).run σ=some r):L3 E w0 O0 σ0 L0 P σ L w o a r.1 r.2:=by
  cases vx<;>try exact A7 hr
  rename_i kx m
  cases kx<;>try exact A7 hr
  simp only [Zlo] at hr
  obtain ⟨⟨h0,h1⟩,h2⟩:=G2 hr
  simp only [VR] at hvx
  unfold L1 at hsz
  unfold Zdf at hby
  unfold Z9 at hz
  simp only [Yfp] at hsz hby
  obtain ⟨i,hi,h6⟩:=hsz
  obtain ⟨i',h7,h8⟩:=hby
  rw [hi] at h7
  cases h7
  rw [hi] at hz
  cases hzv:i.zero with
  | none=>simp only [Yfg,hzv] at hz;cases hz
  | some zv =>
    simp only [Yfg,hzv] at hz
    have hzl':=V9 (ctx σ L w) hz
    have hzz:=H5 hzl'
    simp only [Yf3] at hzz
    subst h6 h8
    have hmade:=Zdw hzl' (by omega) m.toNat m.toNat (Yfj _)
    rw [Yf8 (by rw [show (madeCells zv.cells (m.toNat*z.length)).toList.length=m.toNat*z.length from size_madeCells _ _];exact Yfj _)] at hmade
    have hnews:(if m.toNat*i.size=0 then #[] else Builtin.zeroCells zv.cells m.toNat).toList=(madeCells zv.cells (m.toNat*z.length)).toList:=by
      rw [hzl]
      by_cases hm:m.toNat*i.size=0
      · rw [if_pos hm,hm];simp [madeCells]
      · rw [if_neg hm];simp [madeCells,Builtin.zeroCells,hzz,hzl]
    have hbnd:m.toNat*i.bytes≤N7:=by
      cases vsl<;>try exact A7 h2
      case nils=>simp only [Zgi] at h2;exact (G2 h2).1
      case buf s g0 off n z' =>
        simp only [Zgi] at h2
        obtain ⟨en,_,_,_,h3⟩:=J8 h2
        simp only [appB] at h3
        obtain ⟨⟨_,_,_,_,h4,_⟩,_⟩:=G2 h3
        exact Yfk (Yf7 _ (Nat.le_add_left _ _)) h4
    refine Zxw h hc1 hc2 hc3 ho ht hi hzv (by omega) hb0 (news:=(madeCells zv.cells (m.toNat*z.length)).toList) (.inr ⟨k,hx,?_,by omega,hbnd,hnews.symm⟩) ?_ (u:=[]) (ss:=[]) h (CLe.refl _) hmade (Sim.refl _) (fun _ _=>rfl) hs h2
    · rw [hvx];congr 1;omega
    · rw [show (madeCells zv.cells (m.toNat*z.length)).toList.length=m.toNat*z.length from size_madeCells _ _,hzl]
theorem Zfr:∀ {σ:A2} {s:Site} {e:Ent},A8 σ s=some e→H9 σ s e = σ:=by
  intro σ
  induction σ with
  | nil=>intro s e h;simp [A8] at h
  | cons p σ ih =>
    intro s e h
    obtain ⟨t,f⟩:=p
    simp only [A8] at h
    simp only [H9]
    by_cases ht:t=s
    · rw [if_pos ht] at h ⊢;cases h;rw [ht]
    · rw [if_neg ht] at h ⊢;rw [ih h]
theorem Ybg (h:Rel E w0 O0 σ0 L0 σ L w) {td ts e:TypeId} {c:Call} {dx xx:Operand} {sz:Nat} {vd vx:AV}
    (hc1:c.callee=.builtin .copy) (hc2:c.args = #[dx,xx]) (hc3:c.argTypes = #[td,ts]) (ho:o.op=.call c)
    (ht:P.underlying td=some (.slice e)) (hsz:L1 P e=some sz)
    (hd:VR (ctx σ L w) vd (a.eval dx)) (hvx:VR (ctx σ L w) vx (a.eval xx)) {r:AV × Ups}
    (hr:((P6 sz vx).bind fun p=>Zp6 sz p.2 p.1 vd).run σ=some r):L3 E w0 O0 σ0 L0 P σ L w o a r.1 r.2:=by
  obtain ⟨⟨ys,m⟩,h1,h2⟩:=D7 hr
  simp only at h2
  obtain ⟨news,g1,g2,g3⟩:=Ze1 (P:=P) h.store hvx h1
  cases vd<;>try exact A7 h2
  rename_i s g off n z
  simp only [Zp6] at h2
  obtain ⟨en,he,ha,hg,h3⟩:=J8 h2
  simp only [Zxg] at h3
  obtain ⟨⟨hrw,rfl,hoff,hfl⟩,h4⟩:=G2 h3
  have k:=A6 h4
  subst k
  obtain ⟨q1,q2⟩:=g3 w rfl
  have q3:=q2 (Nat.min m n) (Yge _ _)
  have hso:=T2 hsz w
  have hcall:∀ base cap w',a.eval dx=.slice base n cap→(∀ q,base=some q→(storeCells q (news.take (Nat.min m n*z))).run P w=.ok () w')→(base=none→w'=w) →
      (execOp a.eval o).run P w=.ok (.value (.int .i64 (Nat.min m n))) w':=by
    intro base cap w' hb hst hn
    cases base with
    | none =>
      have:=hn rfl
      subst this
      simp [execOp,ho,resolve,hc1,hc2,hc3,invoke,builtin,Builtin.copy_,run_underlying ht,hb,q1,q3,hso,goInt]
    | some q =>
      have:=hst q rfl
      simp [execOp,ho,resolve,hc1,hc2,hc3,invoke,builtin,Builtin.copy_,run_underlying ht,hb,q1,q3,hso,goInt,this]
  have hm:Nat.min m n*z≤n*z:=Yf7 _ (Nat.min_le_right _ _)
  have hm':Nat.min m n*z≤m*z:=Yf7 _ (Yge _ _)
  have hyl:=H5 g1
  have htl:(ys.take (Nat.min m n*z)).length=Nat.min m n*z:=by rw [Yfq];omega
  have hsame:n=0→over en.cells off (ys.take (Nat.min m n*z))=en.cells:=by
    intro hn
    have:Nat.min m n*z=0:=by subst hn;omega
    rw [this];simp [over]
  have hb:=Zbq hd he ha hg
  unfold L5 at hb
  split at hb
  · rename_i b o' hl
    have hrm:=Zez hb
    obtain ⟨hf,hcells⟩:=h.store.free he ha hl hrm
    rcases hb with ⟨h6,_,q,h7⟩|⟨cap,h6,h7,h8⟩
    · have e1:=hsame h6
      have hE:B5 σ [(s,{ en with cells:=over en.cells off (ys.take (Nat.min m n*z)) })] = σ:=by
        rw [e1];exact Zfr he
      have h00:Nat.min m n*z=0:=by subst h6;omega
      refine J6 (w':=w) (L':=L) (y:=.int .i64 (Nat.min m n)) (hcall (some ⟨b,q,none⟩) 0 w (by rw [h7,h6]) (fun q' hq'=>by rw [h00];simp [storeCells]) (by simp)) (by rw [hE];exact h) (by rw [hE];exact CLe.refl _) (by simp [VR])
    · obtain ⟨w',s1,s2,s3,s4,s5⟩:=Zm9 P (b:=b) (q:=o'+off) (vs:=news.take (Nat.min m n*z)) hf (by rw [Yfq];omega)
        (fun v hv=>Zfp g1 (Zir hfl) v (List.mem_of_mem_take hv))
      obtain ⟨k1,k2⟩:=h.upd he ha hrw hl (cells:=over en.cells off (ys.take (Nat.min m n*z))) s2 (by rw [Ze0 (by omega)];exact s3)
        (fun c' hc' hw'=>Zna hc' hcells (Zjt g1 _) (by omega) (by rw [hw'];exact s4) (by rw [hw'];exact s5))
      exact J6 (hcall (some ⟨b,o'+off,none⟩) cap w' h6 (fun q' hq'=>by cases hq';exact s1) (by simp)) k1 k2 (by simp [VR])
  · obtain ⟨h6,h7,h8⟩:=hb
    have e1:=hsame h8
    have hE:B5 σ [(s,{ en with cells:=over en.cells off (ys.take (Nat.min m n*z)) })] = σ:=by
      rw [e1];exact Zfr he
    refine J6 (w':=w) (L':=L) (y:=.int .i64 (Nat.min m n)) (hcall none 0 w (by rw [h6,h8]) (by simp) (fun _=>rfl)) (by rw [hE];exact h) (by rw [hE];exact CLe.refl _) (by simp [VR])
theorem ok_s2b (h:Rel E w0 O0 σ0 L0 σ L w) {src dst e:TypeId} {x:Operand} {t:Nat} (hs:P.underlying src=some .string) (hd:P.underlying dst=some (.slice e)) (he:Zm3 P e=true) {vx:AV} (ho:o.op=.convert src dst x)
    (hx:VR (ctx σ L w) vx (a.eval x)) {r:AV × Ups} (hr:(s2bV (.s t 0) vx).run σ=some r):L3 E w0 O0 σ0 L0 P σ L w o a r.1 r.2:=by
  cases vx<;>try exact A7 hr
  rename_i l
  simp only [s2bV] at hr
  obtain ⟨g,hg,rfl⟩:=Zci hr
  have hu:P.underlying e=some (.int .u8):=by
    unfold Zm3 at he
    split at he
    · assumption
    · cases he
  simp only [VR] at hx
  have hrun:=run_bytes_of_string (P:=P) w src dst e ⟨l.toArray⟩ hs hd hu
  obtain ⟨k1,k2⟩:=h.drawn (w.drawn+1)
  have k1':Rel E w0 O0 σ0 L0 σ L w.drew:=k1
  have hcap:=grownCap_ge w l.length 0 e
  have hsz:(⟨l.toArray⟩:ByteArray).size=l.length:=by simp [ByteArray.size]
  rw [hsz] at hrun
  have hrow:(bytesRow ⟨l.toArray⟩ (grownCap w l.length 0 e)).toList=Zao l++List.replicate (grownCap w l.length 0 e-l.length) (.int .u8 0):=by
    simp [bytesRow,Zao,ByteArray.size]
  obtain ⟨m1,m2⟩:=k1'.new hg false (Zl1 (ctx σ L w.drew) l) (bytesRow ⟨l.toArray⟩ (grownCap w l.length 0 e)) (fun i v hi=>by
    rw [←Array.getElem?_toList,hrow,List.getElem?_append_left (List.getElem?_eq_some_iff.1 hi).1];exact hi) e
    ((bytesRow ⟨l.toArray⟩ (grownCap w l.length 0 e)).size,(bytesRow ⟨l.toArray⟩ (grownCap w l.length 0 e)).size+1) (.inr (Yfj _))
  refine J6 (y:=.slice (some ⟨w.heap.size,0,none⟩) l.length (grownCap w l.length 0 e)) (by simp [execOp,ho,hx,hrun]) m1 (k2.trans m2) ?_
  simp only [VR]
  refine ⟨rfl,g,true,J0 (C1 _ _ _),Yfj _,fun _ _=>?_⟩
  show L5 (ctx (H9 σ (.s t 0) _) (G4 L (.s t 0) (some (w.drew.heap.size,0))) _) _ _ _ _ _
  unfold L5
  rw [show ∀ w2 e2,(ctx (H9 σ (.s t 0) e2) (G4 L (.s t 0) (some (w.drew.heap.size,0))) w2).L (.s t 0)=some (w.drew.heap.size,0) from fun _ _=>G8 _ _ _]
  refine .inr ⟨grownCap w l.length 0 e,rfl,hcap,_,e,_,heap_alloc_new w.drew _,?_⟩
  have:(bytesRow ⟨l.toArray⟩ (grownCap w l.length 0 e)).size=grownCap w l.length 0 e:=by
    rw [←Yf3,hrow];simp [Zao];omega
  omega
theorem ok_b2b (h:Rel E w0 O0 σ0 L0 σ L w) {src e:TypeId} {x:Operand} (hs:P.underlying src=some (.slice e)) (he:Zm3 P e=true) {vx:AV} (ho:o.op=.convert src src x)
    (hx:VR (ctx σ L w) vx (a.eval x)) {r:AV × Ups} (hr:(b2bV vx).run σ=some r):L3 E w0 O0 σ0 L0 P σ L w o a r.1 r.2:=by
  cases vx<;>try exact A7 hr
  rename_i s g off n z
  simp only [b2bV] at hr
  obtain ⟨en,hge,hal,hgg,h1⟩:=J8 hr
  obtain ⟨⟨hrw,hne⟩,h2⟩:=G2 h1
  have k:=A6 h2
  subst k
  have hu:P.underlying e=some (.int .u8):=by
    unfold Zm3 at he
    split at he
    · assumption
    · cases he
  have hb:=Zbq hx hge hal hgg
  unfold L5 at hb
  split at hb
  · rename_i b o' hl
    have hy:∃ q m c,a.eval x=.slice (some ⟨b,q,none⟩) m c:=by
      rcases hb with ⟨_,_,q,h7⟩|⟨cap,h6,_⟩
      · exact ⟨q,0,0,h7⟩
      · exact ⟨_,n,cap,h6⟩
    obtain ⟨q,m,c,hy⟩:=hy
    have hrm:=Zez hb
    obtain ⟨⟨cs,el,fr,f1,f2,f3⟩,hcells⟩:=h.store.free hge hal hl hrm
    have hsh:w.shape? b=some (el,cs.size):=by simp [World.shape?,f1]
    obtain ⟨lo,hi⟩:=fr
    -- the block with its mark
    obtain ⟨fr',hfr',hheap⟩:∃ fr',(fr'.1=fr'.2∨cs.size≤fr'.1)∧(w.freeze ⟨b,cs.size,none⟩ 1).heap[b]? = some (.cells cs el fr'):=by
      refine ⟨if lo==hi then (cs.size,cs.size+1) else (min lo cs.size,max hi (cs.size+1)),?_,?_⟩
      · by_cases hlh:lo=hi
        · simp [hlh]
        · simp only [beq_iff_eq,hlh,if_false]
          simp only at f3
          exact .inr (by omega)
      · have hlt:b<w.heap.size:=(Array.getElem?_eq_some_iff.1 f1).1
        have hv:w.heap[b]=.cells cs el (lo,hi):=(Array.getElem?_eq_some_iff.1 f1).2
        have hlt2:b<(w.freeze ⟨b,cs.size,none⟩ 1).heap.size:=by simpa [World.freeze] using hlt
        rw [Array.getElem?_eq_getElem hlt2]
        simp [World.freeze,Array.getElem_modify,hv]
    have hother:∀ k,k≠b→(w.freeze ⟨b,cs.size,none⟩ 1).heap[k]? = w.heap[k]? := by
      intro k hk
      simp [World.freeze,Array.getElem?_modify,Ne.symm hk]
    have hcell:∀ i,(w.freeze ⟨b,cs.size,none⟩ 1).cell? ⟨b,i,none⟩=w.cell? ⟨b,i,none⟩:=by
      intro i
      simp only [World.cell?,hheap,f1]
    obtain ⟨k1,k2⟩:=h.upd hge hal hrw hl (w':=w.freeze ⟨b,cs.size,none⟩ 1) (cells:=en.cells)
      ⟨rfl,rfl,rfl,by simp [World.freeze],fun k _ hk=>hother k hk,fun k n ⟨cs',el',fr2,r1,r2⟩=>by
        by_cases hk:k=b
        · subst hk;rw [f1] at r1;cases r1;exact ⟨cs,el,fr',hheap,r2⟩
        · exact ⟨cs',el',fr2,by rw [hother k hk];exact r1,r2⟩⟩ ⟨cs,el,fr',hheap,f2,hfr'⟩
      (fun c' hc' hw'=>VRC_le hc' b (fun i=>by rw [hw'];exact hcell i) _ _ hcells)
    have hE:H9 σ s { en with cells:=en.cells } = σ:=Zfr hge
    rw [hE] at k1 k2
    refine J6 (u:=[]) (y:=a.eval x) ?_ k1 k2 (Y6 k2 _ _ hx)
    rw [hy]
    have hconv:(convert src src (.slice (some ⟨b,q,none⟩) m c)).run P w=.ok (.slice (some ⟨b,q,none⟩) m c) (w.freeze ⟨b,cs.size,none⟩ 1):=by
      simp [convert,run_underlying hs,run_underlying hu,markStringish,hsh]
    simp [execOp,ho,hy,hconv]
  · rename_i hl
    have:=h.store.ent s en hge hal
    unfold V1 at this
    rw [show (ctx σ L w).L s=none from hl] at this
    rw [this.1] at hne
    simp at hne
theorem ok_cap (h:Rel E w0 O0 σ0 L0 σ L w) {t e:TypeId} {c:Call} {x:Operand} {vx:AV} (hc1:c.callee=.builtin .cap) (hc2:c.args = #[x]) (hc3:c.argTypes = #[t]) (ho:o.op=.call c)
    (ht:P.underlying t=some (.slice e)) (hx:VR (ctx σ L w) vx (a.eval x)) {r:AV × Ups} (hr:(capV vx).run σ=some r):L3 E w0 O0 σ0 L0 P σ L w o a r.1 r.2:=by
  cases vx<;>try exact A7 hr
  have k:=A6 hr
  subst k
  simp only [VR] at hx
  refine B3 h (y:=.int .i64 0) ?_ (by simp [VR])
  simp [execOp,ho,resolve,hc1,hc2,hc3,invoke,builtin,Builtin.cap_,run_underlying ht,hx,goInt]
end Cod
namespace Cod
open Go
variable {E:Env} {w0:World} {O0:Nat→Prop} {σ0:A2} {L0:Lay} {P:Program} {σ:A2} {L:Lay} {w:World} {o:Oper} {a:Act}
theorem Zgq:∀ {k1 k2:List Nat} {xs ys:List AV} {r:Bool},M2 (k1++k2) xs ys=some r →
    ∃ x y,k1.length≤xs.length∧k1.length≤ys.length∧M2 k1 (xs.take k1.length) (ys.take k1.length)=some x∧M2 k2 (xs.drop k1.length) (ys.drop k1.length)=some y∧r=(x&&y):=by
  intro k1
  induction k1 with
  | nil=>intro k2 xs ys r h;exact ⟨true,r,by simp,by simp,by simp [M2],by simpa using h,by simp⟩
  | cons k k1 ih =>
    intro k2 xs ys r h
    simp only [List.cons_append] at h
    unfold M2 at h
    split at h
    · rename_i h0;cases h0
    · rename_i ks ka a xs' kb b ys' heq
      cases heq
      obtain ⟨hk,h'⟩:=Za9 h
      subst hk
      obtain ⟨r',h1,h2⟩:=Option.map_eq_some_iff.1 h'
      obtain ⟨x,y,h3,h4,h5,h6,rfl⟩:=ih h1
      exact ⟨a==b&&x,y,by simpa using h3,by simpa using h4,by simp [M2,h5],by simpa using h6,by rw [←h2,Ygf]⟩
    · rename_i ks a xs' b ys' heq
      cases heq
      simp only [Yfp] at h
      obtain ⟨r',h1,h2⟩:=h
      obtain ⟨x,y,h3,h4,h5,h6,rfl⟩:=ih h1
      exact ⟨a==b&&x,y,by simpa using h3,by simpa using h4,by simp [M2,h5],by simpa using h6,by rw [←h2,Ygf]⟩
    · rename_i ks a xs' b ys' heq
      cases heq
      simp only [Yfp] at h
      obtain ⟨r',h1,h2⟩:=h
      obtain ⟨x,y,h3,h4,h5,h6,rfl⟩:=ih h1
      exact ⟨a==b&&x,y,by simpa using h3,by simpa using h4,by simp [M2,h5],by simpa using h6,by rw [←h2,Ygf]⟩
    · cases h
theorem Zdy:∀ {ks:List Nat} {xs ys:List AV} {r:Bool},M2 ks xs ys=some r→xs.length=ks.length∧ys.length=ks.length:=by
  intro ks
  induction ks with
  | nil =>
    intro xs ys r h
    cases xs<;>cases ys<;>simp_all [M2]
  | cons k ks ih =>
    intro xs ys r h
    unfold M2 at h
    split at h
    · rename_i h0;cases h0
    · rename_i heq
      cases heq
      obtain ⟨_,h⟩:=Za9 h
      simp only [Yfp] at h
      obtain ⟨r',h1,_⟩:=h
      simp [ih h1]
    · rename_i heq
      cases heq
      simp only [Yfp] at h
      obtain ⟨r',h1,_⟩:=h
      simp [ih h1]
    · rename_i heq
      cases heq
      simp only [Yfp] at h
      obtain ⟨r',h1,_⟩:=h
      simp [ih h1]
    · cases h
def Zhz:Option Nat→List AV→AV
  | none,xs=>xs.headD .junk
  | some _,xs=>.agg xs
def EqOK (P:Program) (w:World) (c:Ctx) (d:Nat) (t:TypeId) (ks:List Nat):Prop :=
  ∃ g,Zep P t=some g∧(g=none→ks.length=1)∧(∀ k,g=some k→k=ks.length) ∧
    ∀ D,d≤D→∀ xs ys b,M2 ks xs ys=some b→∀ x y,VR c (Zhz g xs) x→VR c (Zhz g ys) y→(Op.equalIn D t x y).run P w=.ok b w
theorem Zfs {xs:List AV} {off n:Nat} {g:Option Nat} (h1:g=none→n=1) (h2:∀ k,g=some k→k=n) (hle:off+n≤xs.length):Ziq xs off g (Zhz g (sub xs off n)):=by
  cases g with
  | none =>
    have:=h1 rfl
    subst this
    simp only [Ziq,Zhz,sub]
    have hlt:off<xs.length:=by omega
    rw [List.drop_eq_getElem_cons hlt]
    simp only [List.take_succ_cons,Ygg]
    exact List.getElem?_eq_getElem hlt
  | some k =>
    have:=h2 k rfl
    subst this
    exact ⟨hle,rfl⟩
theorem Zzh {c:Ctx} {d:Nat} (ih:∀ t ks,Zcn P d t=some ks→EqOK P w c d t ks) {xs ys:List AV} {vs us:Array Value} (hx:VRL c xs vs.toList) (hy:VRL c ys us.toList) {D:Nat} (hD:d≤D) :
    ∀ {fs:List Field} {n:Nat} {ks:List Nat},Zju (Zcn P d) fs n=some ks→∀ {b:Bool},M2 ks (xs.drop n) (ys.drop n)=some b→(Op.eqFields D vs us fs).run P w=.ok b w:=by
  intro fs
  induction fs with
  | nil =>
    intro n ks h b hb
    simp only [Zju,Option.some.injEq] at h
    subst h
    have h1:=Zdy hb
    have e1:xs.drop n=[]:=Yf6 h1.1
    have e2:ys.drop n=[]:=Yf6 h1.2
    rw [e1,e2] at hb
    simp only [M2,Option.some.injEq] at hb
    subst hb
    simp [Op.eqFields]
  | cons f r ihf =>
    intro n ks h b hb
    simp only [Zju] at h
    cases hl:Zcn P d f.type with
    | none=>rw [hl] at h;cases h
    | some m =>
      rw [hl] at h
      simp only at h
      obtain ⟨⟨rfl,hname⟩,h4⟩:=Za9 h
      simp only [Yfp] at h4
      obtain ⟨ks',h5,rfl⟩:=h4
      obtain ⟨g,q1,q2,q3,q4⟩:=ih _ _ hl
      obtain ⟨x,y,l1,l2,hx1,hy1,rfl⟩:=Zgq hb
      simp only [Yfr] at l1 l2
      have hpos:g=none→m.length=1:=q2
      rw [Ygh,Ygh] at hy1
      rcases Nat.eq_zero_or_pos m.length with hm0|hm0
      · -- no cells at all
        have hg:g=some m.length:=by
          cases g with
          | none=>exact absurd (q2 rfl) (by omega)
          | some k=>rw [q3 k rfl]
        subst hg
        have hs:∀ zs:List AV,∀ j,sub zs j m.length=[]:=fun zs j=>by rw [hm0];simp [sub]
        have hE:∀ (vv:Array Value),(part f.type vv f.offset).run P w=.ok (.agg #[]) w:=by
          intro vv
          obtain ⟨h1,h2⟩:=Zfo q1 w
          have:=h2 _ rfl
          rw [hm0] at this
          simp [part,h1,this,Yge]
        have he:=q4 D hD [] [] x (by simpa [hm0] using hx1) (.agg #[]) (.agg #[]) (by simp [Zhz,VR,VRL]) (by simp [Zhz,VR,VRL])
        simp only [Op.eqFields]
        rw [if_pos hname]
        simp only [Sem.run_bind,hE,he,Result.andThen_ok]
        cases x with
        | false=>simp
        | true=>simpa using ihf h5 hy1
      · obtain ⟨av,a1,a2⟩:=Zdj (P:=P) (w:=w) q1 hx (Zfs q2 q3 (by omega:f.offset+m.length≤xs.length))
        obtain ⟨bv,b1,b2⟩:=Zdj (P:=P) (w:=w) q1 hy (Zfs q2 q3 (by omega:f.offset+m.length≤ys.length))
        have he:=q4 D hD _ _ _ hx1 av bv a2 b2
        simp only [Op.eqFields]
        rw [if_pos hname]
        simp only [Sem.run_bind,a1,b1,he,Result.andThen_ok]
        cases x with
        | false=>simp
        | true=>simpa using ihf h5 hy1
theorem Z4i {c:Ctx} {d:Nat} {e:TypeId} {kk:List Nat} (ih:EqOK P w c d e kk) {xs ys:List AV} {vs us:Array Value} (hx:VRL c xs vs.toList) (hy:VRL c ys us.toList) {D:Nat} (hD:d≤D) (hm:L1 P e=some kk.length) (hpos:0<kk.length) :
    ∀ {cnt j:Nat},∀ {b:Bool},M2 (Zqh kk cnt) (xs.drop (j*kk.length)) (ys.drop (j*kk.length))=some b→(Op.eqItems D e (P.cellsOf e) vs us (List.range' j cnt)).run P w=.ok b w:=by
  have hc:P.cellsOf e=kk.length:=by
    unfold L1 at hm
    simp only [Yfp] at hm
    obtain ⟨i,h1,h2⟩:=hm
    simp [Program.cellsOf,h1,h2]
  intro cnt
  induction cnt with
  | zero =>
    intro j b hb
    simp only [Zqh] at hb
    have h1:=Zdy hb
    have e1:xs.drop (j*kk.length)=[]:=Yf6 h1.1
    have e2:ys.drop (j*kk.length)=[]:=Yf6 h1.2
    rw [e1,e2] at hb
    simp only [M2,Option.some.injEq] at hb
    subst hb
    simp [Op.eqItems]
  | succ cnt ihc =>
    intro j b hb
    obtain ⟨g,q1,q2,q3,q4⟩:=ih
    simp only [Zqh] at hb
    obtain ⟨x,y,l1,l2,hx1,hy1,rfl⟩:=Zgq hb
    simp only [Yfr] at l1 l2
    rw [Ygh,Ygh] at hy1
    obtain ⟨av,a1,a2⟩:=Zdj (P:=P) (w:=w) q1 hx (Zfs q2 q3 (by omega:j*kk.length+kk.length≤xs.length))
    obtain ⟨bv,b1,b2⟩:=Zdj (P:=P) (w:=w) q1 hy (Zfs q2 q3 (by omega:j*kk.length+kk.length≤ys.length))
    have he:=q4 D hD _ _ _ hx1 av bv a2 b2
    simp only [List.range'_succ,Op.eqItems,hc,Sem.run_bind,a1,b1,he,Result.andThen_ok]
    cases x with
    | false=>simp
    | true =>
      have:=ihc (j:=j+1) (b:=y) (by rw [Yfx,Nat.one_mul];exact hy1)
      rw [hc] at this
      simpa using this
theorem eqOK (c:Ctx):∀ (d:Nat) (t:TypeId) (ks:List Nat),Zcn P d t=some ks→EqOK P w c d t ks:=by
  intro d
  induction d with
  | zero=>intro t n h;simp [Zcn] at h
  | succ d ih =>
    intro t n h
    simp only [Zcn] at h
    have one:∀ {k:Nat} {xs ys:List AV} {b:Bool},M2 [k] xs ys=some b→∃ x y,xs=[x]∧ys=[y]:=by
      intro k xs ys b hb
      obtain ⟨h1,h2⟩:=Zdy hb
      obtain ⟨x,rfl⟩:=List.length_eq_one_iff.1 h1
      obtain ⟨y,rfl⟩:=List.length_eq_one_iff.1 h2
      exact ⟨x,y,rfl,rfl⟩
    split at h
    · -- numbers
      rename_i k i hu hi
      cases h
      refine ⟨none,by simp [Zep,hu,hi],fun _=>rfl,by simp,fun D hD xs ys b hb x y hx hy=>?_⟩
      obtain ⟨x',y',rfl,rfl⟩:=one hb
      obtain ⟨D,rfl⟩:∃ D',D=D'+1:=⟨D-1,by omega⟩
      simp only [Zhz,Ygg] at hx hy
      cases x'<;>cases y'<;>simp only [M2,reduceCtorEq] at hb
      obtain ⟨hk,hb2⟩:=Za9 hb
      subst hk
      simp only [Yfo,Option.some.injEq,Ygi] at hb2
      simp only [VR] at hx hy
      rw [hx,hy,←hb2]
      exact run_equalIn_int w D t _ k _ _ hu
    · rename_i i hu hi
      cases h
      refine ⟨none,by simp [Zep,hu,hi],fun _=>rfl,by simp,fun D hD xs ys b hb x y hx hy=>?_⟩
      obtain ⟨x',y',rfl,rfl⟩:=one hb
      obtain ⟨D,rfl⟩:∃ D',D=D'+1:=⟨D-1,by omega⟩
      simp only [Zhz,Ygg] at hx hy
      cases x'<;>cases y'<;>simp only [M2,reduceCtorEq] at hb
      simp only [Yfo,Option.some.injEq,Ygi] at hb
      simp only [VR] at hx hy
      rw [hx,hy,←hb]
      exact run_equalIn_bool' w D t _ _ hu
    · rename_i i hu hi
      cases h
      refine ⟨none,by simp [Zep,hu,hi],fun _=>rfl,by simp,fun D hD xs ys b hb x y hx hy=>?_⟩
      obtain ⟨x',y',rfl,rfl⟩:=one hb
      obtain ⟨D,rfl⟩:∃ D',D=D'+1:=⟨D-1,by omega⟩
      simp only [Zhz,Ygg] at hx hy
      cases x'<;>cases y'<;>simp only [M2,reduceCtorEq] at hb
      simp only [Yfo,Option.some.injEq,Ygi] at hb
      simp only [VR] at hx hy
      rw [hx,hy,←hb,run_equalIn_string w D t _ _ hu,Zhy,Zhy]
    · rename_i fs i hu hi
      obtain ⟨hst,h⟩:=Za9 h
      simp only [Yf5] at h
      obtain ⟨ks,h1,h2⟩:=h
      obtain ⟨h3,h4⟩:=Za9 h2
      cases h4
      refine ⟨some i.size,by simp [Zep,hu,hi],by simp,fun k hk=>by cases hk;exact h3.symm,fun D hD xs ys b hb x y hx hy=>?_⟩
      obtain ⟨D,rfl⟩:∃ D',D=D'+1:=⟨D-1,by omega⟩
      simp only [Zhz,VR] at hx hy
      obtain ⟨vs,rfl,hx⟩:=hx
      obtain ⟨us,rfl,hy⟩:=hy
      have hf:P.fieldsOf t=fs:=by simp [Program.fieldsOf,hu]
      rw [run_equalIn_struct w D t vs us (by rw [hf];exact hu) hst,hf]
      exact Zzh ih hx hy (by omega) h1 (by simpa using hb)
    · rename_i cnt e i hu hi
      cases hl:Zcn P d e with
      | none=>rw [hl] at h;cases h
      | some kk =>
        cases hse:L1 P e with
        | none=>rw [hl,hse] at h;cases h
        | some m =>
          rw [hl,hse] at h
          simp only at h
          obtain ⟨⟨rfl,h3,h0⟩,h4⟩:=Za9 h
          cases h4
          have hrl:∀ n,(Zqh kk n).length=n*kk.length:=by
            intro n
            induction n with
            | zero=>simp [Zqh]
            | succ n ihn=>simp [Zqh,ihn,Yfx,Nat.add_comm]
          refine ⟨some i.size,by simp [Zep,hu,hi],by simp,fun k hk=>by cases hk;rw [h3,hrl],fun D hD xs ys b hb x y hx hy=>?_⟩
          obtain ⟨D,rfl⟩:∃ D',D=D'+1:=⟨D-1,by omega⟩
          simp only [Zhz,VR] at hx hy
          obtain ⟨vs,rfl,hx⟩:=hx
          obtain ⟨us,rfl,hy⟩:=hy
          have hse':=hse
          unfold L1 at hse'
          simp only [Yfp] at hse'
          obtain ⟨ie,h5,h6⟩:=hse'
          rw [run_equalIn_array w D vs us hu h5]
          have:=Z4i (ih e kk hl) hx hy (D:=D) (by omega) hse h0 (cnt:=cnt) (j:=0) (b:=b) (by simpa using hb)
          rw [List.range_eq_range']
          exact this
    · cases h
theorem Z4j (h:Rel E w0 O0 σ0 L0 σ L w) {op:BinOp} {neg:Bool} (hop:(op=.eql∧neg=false)∨(op=.neq∧neg=true)) {t t':TypeId} {ks:List Nat} (hu:(∃ fs,P.underlying t=some (.struct fs))∨∃ n e,P.underlying t=some (.array n e)) (hl:Zcn P 20 t=some ks) (hg:P.eqGuardType P.depth t=false) {x y:Operand} {vx vy:AV}
    (ho:o.op=.binOp op t x y t') (hx:VR (ctx σ L w) vx (a.eval x)) (hy:VR (ctx σ L w) vy (a.eval y)) {r:AV × Ups} (hr:(eqaV ks neg vx vy).run σ=some r):L3 E w0 O0 σ0 L0 P σ L w o a r.1 r.2:=by
  cases vx<;>try exact A7 hr
  cases vy<;>try exact A7 hr
  rename_i xs ys
  simp only [eqaV] at hr
  obtain ⟨v,h1,rfl⟩:=Zbe hr
  simp only [Yfp] at h1
  obtain ⟨b,h2,rfl⟩:=h1
  have hx':=hx
  have hy':=hy
  simp only [VR] at hx' hy'
  obtain ⟨vs,e1,g1⟩:=hx'
  obtain ⟨us,e2,g2⟩:=hy'
  obtain ⟨g,q1,q2,q3,q4⟩:=eqOK (P:=P) (w:=w) (ctx σ L w) 20 t ks hl
  have he:(Op.equalIn 10000 t (.agg vs) (.agg us)).run P w=.ok b w:=by
    cases g with
    | some k=>exact q4 10000 (by omega) xs ys b h2 _ _ (by simp only [Zhz,VR];exact ⟨vs,rfl,g1⟩) (by simp only [Zhz,VR];exact ⟨us,rfl,g2⟩)
    | none =>
      exfalso
      unfold Zep at q1
      cases hi:P.info? t with
      | none=>rcases hu with ⟨fs,hu⟩|⟨n,e,hu⟩<;>rw [hu,hi] at q1<;>simp at q1
      | some i=>rcases hu with ⟨fs,hu⟩|⟨n,e,hu⟩<;>rw [hu,hi] at q1<;>simp at q1
  refine B3 h (y:=.bool (bif neg then !b else b)) ?_ (by simp [VR])
  have hgd:=run_eqGuard_agg (P:=P) w op t x y vs us hg
  rcases hop with ⟨rfl,rfl⟩|⟨rfl,rfl⟩
  · simp only [execOp,ho,e1,e2,Sem.run_bind,hgd,Result.andThen_ok,run_eql_struct,he,Sem.run_pure];rfl
  · simp only [execOp,ho,e1,e2,Sem.run_bind,hgd,Result.andThen_ok,run_neq_struct,he,Sem.run_pure];rfl
end Cod

/- Each operation of the lean form does what the abstract step says. -/
import Derived.Orders
import Derived.Test.YthlnjgdoodjgoaaGreatDoorXCod3
set_option linter.unusedSimpArgs false
set_option linter.unusedVariables false
open List renaming map_cons → Yed, mem_append_left → Yez, mem_append_right → Yey, mem_cons → Ye2, mem_cons_of_mem → Yex, mem_singleton → Yeb
open Nat renaming le_refl → Ydt
open Bool renaming and_eq_true → Yd8, not_eq_true' → Ye0, or_eq_false_iff → Yew, or_eq_true → Yev
open Option renaming bind_eq_some_iff → Yef, bind_some → Ydq, getD_some → Ye1, map_eq_some_iff → Ydz, map_some → Ydy
namespace Cod
open Go
variable {E:Env} {w0:World} {O0:Nat→Prop} {σ0:A3} {L0:Lay} {P:Program} {σ:A3} {L:Lay} {w:World} {o:Oper} {a:Act}
theorem lowO2 {x y:Operand} {f:LO→LO→LOp} {lop:LOp} (h:(match H9 x,H9 y with|some a,some b=>some (f a b)|_,_=>none)=some lop):∃ a b,H9 x=some a∧H9 y=some b∧lop=f a b:=by
  split at h
  · rename_i a b h1 h2;exact ⟨a,b,h1,h2,(Option.some.inj h).symm⟩
  · cases h
theorem Z7 {lo:Option Operand} {l:List LO} (h:Zbx lo.toList=some l) {c:Ctx} {ρ:LO→AV} {ev:Operand→Value} (hρ:∀ x lx,H9 x=some lx→VR c (ρ lx) (ev x)) :
    (l.head? = none∧lo=none)∨∃ u v,l.head? = some u∧lo=some v∧VR c (ρ u) (ev v):=by
  cases lo with
  | none=>simp only [Option.toList,Zbx,Option.some.injEq] at h;subst h;exact .inl ⟨rfl,rfl⟩
  | some x =>
    simp only [Option.toList,Zbx] at h
    cases hx:H9 x with
    | none=>rw [hx] at h;cases h
    | some u=>rw [hx] at h;simp only [Option.some.injEq] at h;subst h;exact .inr ⟨u,x,rfl,rfl,hρ x u hx⟩
theorem Zha {α:Type} {xs:Array α} {x : α} (h:xs.toList=[x]):xs = #[x]:=by
  apply Array.ext';simpa using h
theorem Zhb {α:Type} {xs:Array α} {x y : α} (h:xs.toList=[x,y]):xs = #[x,y]:=by
  apply Array.ext';simpa using h
theorem T0 {t e:TypeId} (h:Zc6 P t=some e):P.underlying t=some (.slice e):=by
  unfold Zc6 at h
  split at h
  · cases h;assumption
  · cases h
theorem Zws (h:Rel E w0 O0 σ0 L0 σ L w) {op:BinOp} {neg:Bool} (hop:(op=.eql∧neg=false)∨(op=.neq∧neg=true)) {t t':TypeId} {x y:Operand} (ho:o.op=.binOp op t x y t') {ρ:LO→AV}
    (hρ:∀ x lx,H9 x=some lx→VR (ctx σ L w) (ρ lx) (a.eval x)) {lop:LOp} (hl:Zwe P op neg t x y=some lop) {call:J2} {d:Nat} {r:AV × Ups} (hr:(step call ρ d lop).run σ=some r):J7 E w0 O0 σ0 L0 P σ L w o a r.1 r.2:=by
  unfold Zwe at hl
  split at hl
  · rename_i lx ly h1 h2
    split at hl
    · cases hl;exact Zr7 h ho (hρ _ _ h1) (hρ _ _ h2) hr
    · cases hl;exact Zr7 h ho (hρ _ _ h1) (hρ _ _ h2) hr
    · rename_i hu;cases hl;exact ok_eqb h hop hu ho (hρ _ _ h1) (hρ _ _ h2) hr
    · rename_i e hu;cases hl;exact Zh1 h hop hu (kd:=0) ⟨e,rfl⟩ (by simp) ho (hρ _ _ h1) (hρ _ _ h2) hr
    · rename_i e hu;cases hl;exact Zh1 h hop hu (kd:=1) ⟨e,rfl⟩ (by simp) ho (hρ _ _ h1) (hρ _ _ h2) hr
    · rename_i k e hu;cases hl;exact Zh1 h hop hu (kd:=2) ⟨k,e,rfl⟩ (by simp) ho (hρ _ _ h1) (hρ _ _ h2) hr
    · rename_i p q v hu;cases hl;exact Zh1 h hop hu (kd:=3) ⟨p,q,v,rfl⟩ (by simp) ho (hρ _ _ h1) (hρ _ _ h2) hr
    · rename_i ms hu
      split at hl
      · rename_i hc
        cases hl
        refine Zh1 h hop hu (kd:=4) ⟨ms,rfl⟩ (fun _=>?_) ho (hρ _ _ h1) (hρ _ _ h2) hr
        rw [Yev] at hc
        rcases hc with hc|hc
        · left;cases x<;>first|exact ⟨_,rfl⟩|(simp [Zhg] at hc;done)
        · right;cases y<;>first|exact ⟨_,rfl⟩|(simp [Zhg] at hc;done)
      · cases hl
    · rename_i fs hu
      split at hl
      · rename_i ks hk
        split at hl
        · cases hl
        · rename_i hg;cases hl;exact Z21 h hop (.inl ⟨fs,hu⟩) hk (by simpa using hg) ho (hρ _ _ h1) (hρ _ _ h2) hr
      · cases hl
    · rename_i n e hu
      split at hl
      · rename_i ks hk
        split at hl
        · cases hl
        · rename_i hg;cases hl;exact Z21 h hop (.inr ⟨n,e,hu⟩) hk (by simpa using hg) ho (hρ _ _ h1) (hρ _ _ h2) hr
      · cases hl
    · cases hl
  · cases hl
theorem Z9y (h:Rel E w0 O0 σ0 L0 σ L w) {sl loc:List (Nat × AV)} {N:Nat} (hfr:Fr (ctx σ L w) (M2 sl loc) N a) {A:Ann} {lop:LOp} (hl:Zjl P A o=some lop) {call:J2}
    (HC:∀ (c:Call) (f:Operand) (lf:LO) (las:List LO) (take:List Nat),o.op=.call c→c.callee=.value f→H9 f=some lf→Zbx c.args.toList=some las →
      ∀ r,(Zeq call (R0 o.dst) take (las.map (evR E sl loc)) (evR E sl loc lf)).run σ=some r→J7 E w0 O0 σ0 L0 P σ L w o a r.1 r.2)
    {r:AV × Ups} (hr:(step call (evR E sl loc) (R0 o.dst) lop).run σ=some r):J7 E w0 O0 σ0 L0 P σ L w o a r.1 r.2:=by
  have hρ:∀ x lx,H9 x=some lx→VR (ctx σ L w) (evR E sl loc lx) (a.eval x):=fun x lx hx=>Zwl hfr (fun n=>(h.glob n).1) hx
  unfold Zjl at hl
  split at hl
  · -- a nil slice
    rename_i hop
    simp only [Yef,Ydz] at hl
    obtain ⟨e,h1,sz,h2,rfl⟩:=hl
    exact Z2v h (.inl hop) rfl hr
  · rename_i hop
    simp only [Yef,Ydz] at hl
    obtain ⟨e,h1,sz,h2,rfl⟩:=hl
    exact Z2v h (.inr hop) rfl hr
  · rename_i x _ hop
    simp only [Ydz] at hl
    obtain ⟨lx,h1,rfl⟩:=hl
    exact ok_mv h (.inl hop) (hρ _ _ h1) hr
  · rename_i x _ hop
    simp only [Ydz] at hl
    obtain ⟨lx,h1,rfl⟩:=hl
    exact ok_mv h (.inr hop) (hρ _ _ h1) hr
  · -- pick
    rename_i hop
    split at hl
    · rename_i h1 h2 h3;cases hl;exact Z9n h hop (hρ _ _ h1) (hρ _ _ h2) (hρ _ _ h3) hr
    · cases hl
  · -- alloc
    rename_i hop
    simp only [Ydz] at hl
    obtain ⟨z,h1,rfl⟩:=hl
    exact ok_new h h1 hop hr
  · rename_i hop
    simp only [Ydz] at hl
    obtain ⟨lx,h1,rfl⟩:=hl
    exact ok_box h (hρ _ _ h1) hop hr
  · -- build
    rename_i t parts hop
    split at hl
    · rename_i fs z hu hz
      simp only [Yef,Ydz] at hl
      obtain ⟨places,h1,lps,h2,rfl⟩:=hl
      exact Zo7 h hz hop hρ h2 (.inl ⟨fs,places,hu,h1,rfl⟩) hr
    · rename_i n e z hu hz
      simp only [Yef,Ydz] at hl
      obtain ⟨m,h1,lps,h2,rfl⟩:=hl
      exact Zo7 h hz hop hρ h2 (.inr ⟨n,e,m,hu,h1,rfl⟩) hr
    · cases hl
  · -- buildSlice
    rename_i t len parts hop
    simp only [Yef] at hl
    obtain ⟨e,h1,hl⟩:=hl
    split at hl
    · rename_i n z hs hz
      split at hl
      · cases hl
      · rename_i hc
        simp only [Ydz] at hl
        obtain ⟨lps,h2,rfl⟩:=hl
        simp only [not_or,Decidable.not_not,Nat.not_lt] at hc
        exact Zxz h (T0 h1) hs hz hc.2.1 hc.1 hc.2.2 hop hρ h2 hr
    · cases hl
  · -- load
    rename_i hop
    split at hl
    · rename_i h1 h2;cases hl;exact ok_ld h hop h1 (hρ _ _ h2) hr
    · cases hl
  · -- store
    rename_i hop
    split at hl
    · rename_i h1 h2 h3;cases hl;exact ok_st h hop h1 (hρ _ _ h2) (hρ _ _ h3) hr
    · cases hl
  · rename_i hop
    simp only [Ydz] at hl
    obtain ⟨lx,h1,rfl⟩:=hl
    exact Z2r h hop (hρ _ _ h1) hr
  · -- binOp
    rename_i op t x y t' hop
    split at hl
    · exact Zws h (.inl ⟨rfl,rfl⟩) hop hρ hl hr
    · exact Zws h (.inr ⟨rfl,rfl⟩) hop hρ hl hr
    · split at hl
      · rename_i h1 h2;cases hl;exact Zr7 h hop (hρ _ _ h1) (hρ _ _ h2) hr
      · cases hl
  · rename_i hop
    simp only [Ydz] at hl
    obtain ⟨lx,h1,rfl⟩:=hl
    exact ok_un h hop (hρ _ _ h1) hr
  · -- convert
    rename_i src dst x hop
    unfold Zhy at hl
    split at hl
    · rename_i h1 h2 h3;cases hl;exact ok_cvi h h2 h3 hop (hρ _ _ h1) hr
    · rename_i h1 h2 h3;cases hl;exact ok_s2s h h2 h3 hop (hρ _ _ h1) hr
    · rename_i h1 h2 h3;cases hl;exact ok_r2s h h2 h3 hop (hρ _ _ h1) hr
    · rename_i h1 h2 h3
      split at hl
      · rename_i hu;cases hl;exact ok_s2b h h2 h3 hu hop (hρ _ _ h1) hr
      · cases hl
    · rename_i h1 h2 h3
      split at hl
      · rename_i hu;cases hl;exact ok_b2s h h2 hu h3 hop (hρ _ _ h1) hr
      · cases hl
    · rename_i h1 h2 h3
      split at hl
      · rename_i hu
        cases hl
        simp only [Yd8,beq_iff_eq] at hu
        obtain ⟨rfl,hu⟩:=hu
        exact ok_b2b h h3 hu hop (hρ _ _ h1) hr
      · cases hl
    · cases hl
  · -- slice to array pointer
    rename_i arr x hop
    split at hl
    · rename_i n e hu
      split at hl
      · rename_i sz lx h1 h2
        split at hl
        · cases hl
        · cases hl;exact ok_s2a h hu hop (hρ _ _ h2) hr
      · cases hl
    · cases hl
  · -- makeInterface
    rename_i t x hop
    split at hl
    · cases hl
    · cases hl
    · rename_i h1 h2
      simp only [Ydz] at hl
      obtain ⟨lx,h3,rfl⟩:=hl
      cases hd:P.underlying t with
      | none=>exact absurd hd h2
      | some d=>exact Z9o h hd (fun ms hm=>h1 ms (by rw [hd,hm])) hop (hρ _ _ h3) hr
  · -- makeFunc
    rename_i f first cap hop
    split at hl
    · rename_i hf
      simp only [Ydz] at hl
      obtain ⟨las,h1,rfl⟩:=hl
      exact Z9p h (by simpa using hf) hop (Z2p hfr (fun n=>(h.glob n).1) h1) hr
    · cases hl
  · -- makeSlice
    rename_i t l c hop
    simp only [Yef] at hl
    obtain ⟨e,h1,hl⟩:=hl
    split at hl
    · rename_i n b z ll lc hs hb hz h2 h3
      split at hl
      · cases hl
      · rename_i hc
        cases hl
        simp only [not_or,Decidable.not_not] at hc
        exact ok_mks h (T0 h1) hs hb hz hc.2 hc.1 hop (hρ _ _ h2) (hρ _ _ h3) hr
    · cases hl
  · -- slice
    rename_i t x lo hi hop
    unfold Zo1 at hl
    split at hl
    · rename_i lx llo lhi h1 h2 h3
      split at hl
      · rename_i n e hu
        simp only [Yef] at hl
        obtain ⟨sz,hs,hl⟩:=hl
        split at hl
        · cases hl
        · cases hl
          exact ok_sl h (arr:=some n) ⟨e,hu,hs⟩ hop (hρ _ _ h1) (Z7 h2 hρ) (Z7 h3 hρ) hr
      · rename_i hu
        cases hl
        exact ok_sls h hu hop (hρ _ _ h1) (Z7 h2 hρ) (Z7 h3 hρ) hr
      · rename_i e hu
        simp only [Yef] at hl
        obtain ⟨sz,hs,hl⟩:=hl
        split at hl
        · cases hl
        · cases hl
          exact ok_sl h (arr:=none) ⟨e,hu,hs⟩ hop (hρ _ _ h1) (Z7 h2 hρ) (Z7 h3 hρ) hr
      · cases hl
    · cases hl
  · -- fieldAddr
    rename_i s x i hop
    split at hl
    · rename_i fs hu
      split at hl
      · rename_i f hf
        split at hl
        · rename_i n lx hs h1
          split at hl
          · cases hl
          · rename_i hn;cases hl;exact ok_fa h hu hf hs hn hop (hρ _ _ h1) hr
        · cases hl
      · cases hl
    · cases hl
  · -- field
    rename_i s x i hop
    split at hl
    · rename_i fs hu
      split at hl
      · rename_i f hf
        split at hl
        · rename_i n lx hs h1;cases hl;exact ok_fld h hu hf hs hop (hρ _ _ h1) hr
        · cases hl
      · cases hl
    · cases hl
  · -- indexAddr
    rename_i t x i hop
    split at hl
    · rename_i n e lx li hu h1 h2
      simp only [Ydz] at hl
      obtain ⟨sz,hs,rfl⟩:=hl
      exact ok_ia h (arr:=some n) hs hu hop (hρ _ _ h1) (hρ _ _ h2) hr
    · rename_i e lx li hu h1 h2
      simp only [Ydz] at hl
      obtain ⟨sz,hs,rfl⟩:=hl
      exact ok_ia h (arr:=none) hs hu hop (hρ _ _ h1) (hρ _ _ h2) hr
    · cases hl
  · -- index
    rename_i t x i hop
    split at hl
    · rename_i n e lx li hu h1 h2
      split at hl
      · rename_i sz g hs hg;cases hl;exact Zxw h hu hs hg hop (hρ _ _ h1) (hρ _ _ h2) hr
      · cases hl
    · rename_i lx li hu h1 h2
      cases hl
      exact Zxv h hu hop (hρ _ _ h1) (hρ _ _ h2) hr
    · cases hl
  · -- extract
    rename_i hop
    simp only [Ydz] at hl
    obtain ⟨lx,h1,rfl⟩:=hl
    exact ok_ext h hop (hρ _ _ h1) hr
  · cases hl;exact A9 hr
  · -- range
    rename_i hop
    split at hl
    · rename_i ht
      simp only [Ydz] at hl
      obtain ⟨lx,h1,rfl⟩:=hl
      exact ok_rng h ht hop (hρ _ _ h1) hr
    · cases hl
  · -- next
    rename_i x str hop
    split at hl
    · rename_i ht
      simp only [Ydz] at hl
      obtain ⟨lx,h1,rfl⟩:=hl
      subst ht
      exact ok_nxt h hop (hρ _ _ h1) hr
    · cases hl
  · rename_i hop;cases hl;exact Z27 h hop hr
  · -- lookup
    rename_i hop
    unfold Zwi at hl
    split at hl
    · rename_i kt e lm lk hu h1 h2
      split at hl
      · rename_i str z h3 h4;cases hl;exact Z9v h hu h3 h4 hop (hρ _ _ h1) (hρ _ _ h2) hr
      · cases hl
    · cases hl
  · -- mapUpdate
    rename_i hop
    unfold Zk0 at hl
    split at hl
    · rename_i kt e lm lk lx hu h1 h2 h3
      simp only [Ydz] at hl
      obtain ⟨str,h4,rfl⟩:=hl
      exact Zwr h hu h4 (.inl hop) (hρ _ _ h1) (hρ _ _ h2) (hρ _ _ h3) hr
    · cases hl
  · rename_i hop
    unfold Zk0 at hl
    split at hl
    · rename_i kt e lm lk lx hu h1 h2 h3
      simp only [Ydz] at hl
      obtain ⟨str,h4,rfl⟩:=hl
      exact Zwr h hu h4 (.inr hop) (hρ _ _ h1) (hρ _ _ h2) (hρ _ _ h3) hr
    · cases hl
  · -- call
    rename_i c hop
    split at hl
    · rename_i f hf
      unfold Zwf at hl
      split at hl
      · rename_i lf las h1 h2
        cases hl
        exact HC c f lf las _ hop hf h1 h2 r hr
      · cases hl
    · -- append
      rename_i hc
      unfold Zjk at hl
      split at hl
      · rename_i s x ts tx h1 h2
        split at hl
        · rename_i e ls lx h3 h4 h5
          split at hl
          · rename_i sz b z hs hb hz
            split at hl
            · cases hl
            · rename_i hcond
              simp only [not_or,Decidable.not_not] at hcond
              split at hl
              · rename_i k hk
                cases hl
                exact Z9t h hc (Zhb h1) (Zhb h2) hop (T0 h3) hs hb hz hcond.2.2 hcond.2.1 hcond.1 hk (hρ _ _ h4) (hρ _ _ h5) hr
              · rename_i hk
                cases hl
                exact Z2z h hc (Zhb h1) (Zhb h2) hop (T0 h3) hs hb hz hcond.2.2 hcond.2.1 (.inl hk) (hρ _ _ h4) (hρ _ _ h5) hr
              · rename_i e' hk
                cases hl
                exact Z2z h hc (Zhb h1) (Zhb h2) hop (T0 h3) hs hb hz hcond.2.2 hcond.2.1 (.inr ⟨e',hk⟩) (hρ _ _ h4) (hρ _ _ h5) hr
              · cases hl
          · cases hl
        · cases hl
      · cases hl
    · -- len
      rename_i hc
      unfold Z2m at hl
      split at hl
      · rename_i x t h1 h2
        split at hl
        · rename_i n e lx hu h3;cases hl;exact Zr8 h (arr:=some n) hc (Zha h1) (Zha h2) (.inl hu) hop (hρ _ _ h3) hr
        · rename_i lx hu h3;cases hl;exact Z9q h hc (Zha h1) (Zha h2) hu hop (hρ _ _ h3) hr
        · rename_i e lx hu h3;cases hl;exact Zr8 h (arr:=none) (t':=0) hc (Zha h1) (Zha h2) ⟨e,hu⟩ hop (hρ _ _ h3) hr
        · rename_i kt e lx hu h3;cases hl;exact Z9w h hc (Zha h1) (Zha h2) hop hu (hρ _ _ h3) hr
        · rename_i p lx hu h3
          split at hl
          · rename_i n e hu2;cases hl;exact Zr8 h (arr:=some n) hc (Zha h1) (Zha h2) (.inr ⟨p,hu,hu2⟩) hop (hρ _ _ h3) hr
          · cases hl
        · cases hl
      · cases hl
    · rename_i hc
      unfold low2 at hl
      split at hl
      · rename_i x y h1
        obtain ⟨la,lb,h2,h3,rfl⟩:=lowO2 hl
        exact ok_min h hc (Zhb h1) hop (hρ _ _ h2) (hρ _ _ h3) hr
      · cases hl
    · rename_i hc
      unfold low2 at hl
      split at hl
      · rename_i x y h1
        obtain ⟨la,lb,h2,h3,rfl⟩:=lowO2 hl
        exact ok_max h hc (Zhb h1) hop (hρ _ _ h2) (hρ _ _ h3) hr
      · cases hl
    · -- copy
      rename_i hc
      unfold Zwg at hl
      split at hl
      · rename_i d s td ts h1 h2
        split at hl
        · rename_i e ld ls h3 h4 h5
          split at hl
          · rename_i sz hs
            split at hl
            · cases hl
            · cases hl
              exact Z9u h hc (Zhb h1) (Zhb h2) hop (T0 h3) hs (hρ _ _ h4) (hρ _ _ h5) hr
          · cases hl
        · cases hl
      · cases hl
    · -- cap
      rename_i hc
      split at hl
      · rename_i x t h1 h2
        split at hl
        · rename_i e lx h3 h4;cases hl;exact ok_cap h hc (Zha h1) (Zha h2) hop (T0 h3) (hρ _ _ h4) hr
        · cases hl
      · cases hl
    · -- delete
      rename_i hc
      unfold Zwj at hl
      split at hl
      · rename_i m k t t' h1 h2
        split at hl
        · rename_i kt e lm lk hu h3 h4
          simp only [Ydz] at hl
          obtain ⟨str,h5,rfl⟩:=hl
          exact Z9x h hc (Zhb h1) (Zhb h2) hop hu h5 (hρ _ _ h3) (hρ _ _ h4) hr
        · cases hl
      · cases hl
    · cases hl;exact A9 hr
    · cases hl
  · cases hl
end Cod
namespace Cod
open Go
variable {E:Env} {w0:World} {O0:Nat→Prop} {σ0:A3} {L0:Lay} {P:Program} {σ:A3} {L:Lay} {w:World} {o:Oper} {a:Act}
abbrev Zak:=Site→Nat→Option (Site × Nat)
def RN (c c':Ctx) (f:Zak):Prop :=
  ∀ s g s' g',f s g=some (s',g')→∀ g0 al,c.T s=some (g0,al)→g≤g0 →
    ∃ g0' al',c'.T s'=some (g0',al')∧g'≤g0'∧(al'=true→g'=g0'→al=true∧g=g0∧c'.L s'=c.L s)
theorem Zx2 {c c':Ctx} {s s':Site} (hr:∀ b k,X0 c.w b k→X0 c'.w b k) (hl:c'.L s'=c.L s) {off n z:Nat} {y:Value} (hb:K1 c s off n z y):K1 c' s' off n z y:=by
  unfold K1 at *
  rw [hl]
  split at hb
  · rcases hb with ⟨h1,h2,h3⟩|⟨cap,h1,h2,h3⟩
    · exact .inl ⟨h1,hr _ _ h2,h3⟩
    · exact .inr ⟨cap,h1,h2,hr _ _ h3⟩
  · exact hb
mutual
theorem Zed {c c':Ctx} {f:Zak} {K:Prop} (hK:K→CFl c c') (hr:RN c c' f) (hm:∀ b k,X0 c.w b k→X0 c'.w b k):∀ (x:AV) (v:Value),(K∨O1 x=false)→VR c x v→VR c' (ren f x) v
  | .junk,_,_,_=>by simp [ren,VR]
  | .und,_,_,hv=>by simpa [ren,VR] using hv
  | .int _ _,_,_,hv=>by simpa [ren,VR] using hv
  | .bool _,_,_,hv=>by simpa [ren,VR] using hv
  | .str _,_,_,hv=>by simpa [ren,VR] using hv
  | .nilp,_,_,hv=>by simpa [ren,VR] using hv
  | .nils,_,_,hv=>by simpa [ren,VR] using hv
  | .nilf,_,_,hv=>by simpa [ren,VR] using hv
  | .nili,_,_,hv=>by simpa [ren,VR] using hv
  | .nilm,_,_,hv=>by simpa [ren,VR] using hv
  | .any _,_,_,hv=>by simpa [ren,VR] using hv
  | .agg cs,v,h,hv=>by
    simp only [ren,VR] at hv ⊢
    obtain ⟨vs,h1,h2⟩:=hv
    exact ⟨vs,h1,rens_VRL hK hr hm cs _ (by simpa [O1] using h) h2⟩
  | .tup cs,v,h,hv=>by
    simp only [ren,VR] at hv ⊢
    obtain ⟨vs,h1,h2⟩:=hv
    exact ⟨vs,h1,rens_VRL hK hr hm cs _ (by simpa [O1] using h) h2⟩
  | .lst cs n,v,h,hv=>by
    simp only [ren]
    rcases h with h|h
    · exact Zdx (hK h) (by simp [J6]) hv
    · simp [O1] at h
  | .fp cs off,v,h,hv=>by
    simp only [ren]
    rcases h with h|h
    · exact Zdx (hK h) (by simp [J6]) hv
    · simp [O1] at h
  | .ref s g off,v,h,hv=>by
    simp only [ren]
    cases hf:f s g with
    | none=>simp [VR]
    | some p =>
      obtain ⟨s',g'⟩:=p
      simp only [VR] at hv ⊢
      obtain ⟨hone,g0,al,h1,h2,h3⟩:=hv
      obtain ⟨g0',al',k1,k2,k3⟩:=hr s g s' g' hf g0 al h1 h2
      refine ⟨hone,g0',al',k1,k2,fun ha hg=>?_⟩
      obtain ⟨a1,a2,a3⟩:=k3 ha hg
      rw [a3]
      obtain ⟨b,o,e1,e2,e3⟩:=h3 a1 a2
      exact ⟨b,o,e1,e2,hm _ _ e3⟩
  | .it s g,v,h,hv=>by
    simp only [ren]
    cases hf:f s g with
    | none=>simp [VR]
    | some p =>
      obtain ⟨s',g'⟩:=p
      simp only [VR] at hv ⊢
      obtain ⟨g0,al,h1,h2,h3⟩:=hv
      obtain ⟨g0',al',k1,k2,k3⟩:=hr s g s' g' hf g0 al h1 h2
      refine ⟨g0',al',k1,k2,fun ha hg=>?_⟩
      obtain ⟨a1,a2,a3⟩:=k3 ha hg
      rw [a3]
      exact h3 a1 a2
  | .mpr s g,v,h,hv=>by
    simp only [ren]
    cases hf:f s g with
    | none=>simp [VR]
    | some p =>
      obtain ⟨s',g'⟩:=p
      simp only [VR] at hv ⊢
      obtain ⟨h0,g0,al,h1,h2,h3⟩:=hv
      obtain ⟨g0',al',k1,k2,k3⟩:=hr s g s' g' hf g0 al h1 h2
      refine ⟨h0,g0',al',k1,k2,fun ha hg=>?_⟩
      obtain ⟨a1,a2,a3⟩:=k3 ha hg
      rw [a3]
      exact h3 a1 a2
  | .itr _ _,_,_,hv=>by simp [VR] at hv
  | .mp _ _,_,_,hv=>by simp [VR] at hv
  | .buf s g off n z,v,h,hv=>by
    simp only [ren]
    cases hf:f s g with
    | none=>simp [VR]
    | some p =>
      obtain ⟨s',g'⟩:=p
      simp only [VR] at hv ⊢
      obtain ⟨hone,g0,al,h1,h2,h3⟩:=hv
      obtain ⟨g0',al',k1,k2,k3⟩:=hr s g s' g' hf g0 al h1 h2
      refine ⟨hone,g0',al',k1,k2,fun ha hg=>?_⟩
      obtain ⟨a1,a2,a3⟩:=k3 ha hg
      exact Zx2 hm a3 (h3 a1 a2)
  | .clo g cap,v,h,hv=>by
    simp only [ren,VR] at hv ⊢
    obtain ⟨vs,h1,h2⟩:=hv
    exact ⟨vs,h1,rens_VRL hK hr hm cap _ (by simpa [O1] using h) h2⟩
  | .ifc t x,v,h,hv=>by
    simp only [ren,VR] at hv ⊢
    obtain ⟨u,h1,h2⟩:=hv
    exact ⟨u,h1,Zed hK hr hm x u (by simpa [O1] using h) h2⟩
theorem rens_VRL {c c':Ctx} {f:Zak} {K:Prop} (hK:K→CFl c c') (hr:RN c c' f) (hm:∀ b k,X0 c.w b k→X0 c'.w b k):∀ (xs:List AV) (vs:List Value),(K∨leadss xs=false)→VRL c xs vs→VRL c' (rens f xs) vs
  | [],_,_,hv=>by simpa [rens,VRL] using hv
  | x::xs,vs,h,hv=>by
    simp only [rens,VRL] at hv ⊢
    simp only [leadss,Yew] at h
    obtain ⟨v,r,h1,h2,h3⟩:=hv
    exact ⟨v,r,h1,Zed hK hr hm x v (h.imp id (·.1)) h2,rens_VRL hK hr hm xs r (h.imp id (·.2)) h3⟩
end
theorem Zdc {f:Zak}:∀ {xs:List AV},(rens f xs).length=xs.length:=by
  intro xs
  induction xs with
  | nil=>rfl
  | cons x xs ih=>simp [rens,ih]
theorem Z29 {f:Zak}:∀ {xs:List AV} {i:Nat},(rens f xs)[i]? = (xs[i]?).map (ren f):=by
  intro xs
  induction xs with
  | nil=>intro i;simp [rens]
  | cons x xs ih=>intro i;cases i with|zero=>simp [rens]|succ i=>simp [rens,ih]
theorem Zsh:∀ {xs:List AV} {i:Nat} {x:AV},leadss xs=false→xs[i]? = some x→O1 x=false:=by
  intro xs
  induction xs with
  | nil=>intro i x _ h;simp at h
  | cons y ys ih =>
    intro i x h hx
    simp only [leadss,Yew] at h
    cases i with
    | zero=>simp at hx;subst hx;exact h.1
    | succ i=>exact ih h.2 (by simpa using hx)
theorem Zia {c c':Ctx} {f:Zak} {K:Prop} (hK:K→CFl c c') (hr:RN c c' f) (hm:∀ b k,X0 c.w b k→X0 c'.w b k) {b o':Nat} (hc:∀ i,c'.w.cell? ⟨b,i,none⟩=c.w.cell? ⟨b,i,none⟩) {xs:List AV} (h:K∨leadss xs=false) (hv:VRC c b o' xs):VRC c' b o' (rens f xs):=by
  refine S5 fun i x hx=>?_
  rw [Z29] at hx
  simp only [Ydz] at hx
  obtain ⟨y,h1,rfl⟩:=hx
  obtain ⟨v,h2,h3⟩:=Zbm hv h1
  exact ⟨v,by rw [hc];exact h2,Zed hK hr hm y v (h.imp id (Zsh · h1)) h3⟩
mutual
theorem Ze6 {f:Zak}:∀ (x:AV),J6 x=true→ren f x=x
  | .junk,_=>rfl
  | .und,_=>rfl
  | .int _ _,_=>rfl
  | .bool _,_=>rfl
  | .str _,_=>rfl
  | .nilp,_=>rfl
  | .nils,_=>rfl
  | .nilf,_=>rfl
  | .nili,_=>rfl
  | .nilm,_=>rfl
  | .any _,_=>rfl
  | .agg _,h=>by simp [J6] at h
  | .tup _,h=>by simp [J6] at h
  | .lst _ _,_=>rfl
  | .fp _ _,_=>rfl
  | .ref ..,h=>by simp [J6] at h
  | .buf ..,h=>by simp [J6] at h
  | .it ..,h=>by simp [J6] at h
  | .itr ..,h=>by simp [J6] at h
  | .mpr ..,h=>by simp [J6] at h
  | .mp ..,h=>by simp [J6] at h
  | .clo g cs,h=>by simp only [J6] at h;simp only [ren,rens_flats cs h]
  | .ifc t x,h=>by simp only [J6] at h;simp only [ren,Ze6 x h]
theorem rens_flats {f:Zak}:∀ (xs:List AV),flats xs=true→rens f xs=xs
  | [],_=>rfl
  | x::xs,h=>by simp only [flats,Yd8] at h;simp only [rens,Ze6 x h.1,rens_flats xs h.2]
end
theorem Zgv {f:Zak}:∀ (xs:List AV),N7 xs=true→rens f xs=xs:=by
  intro xs
  induction xs with
  | nil=>intro _;rfl
  | cons x xs ih =>
    intro h
    simp only [N7,Yd8] at h
    simp only [rens,ih h.2]
    have h1:=h.1
    unfold Zbk at h1
    split at h1
    · simp only [ren,rens_flats _ h1]
    · rw [Ze6 _ h1]
theorem V9.ren {c c':Ctx} {f:Zak} {K:Prop} (hK:K→CFl c c') (hr:RN c c' f) (hm:∀ b k,X0 c.w b k→X0 c'.w b k) {b:Nat} {e e':Ent} (hb:c'.w.heap[b]? = c.w.heap[b]?) (hl:K∨leadss e.cells=false)
    (he:e'.cells=rens f e.cells) (h:V9 c b e):V9 c' b e':=by
  rcases h with ⟨s,p,h0,h1⟩|⟨ks,vs,es,cl,h0,hk,hv,h1,h2,h3⟩
  · exact .inl ⟨s,p,by rw [he,h0];rfl,hb.trans h1⟩
  · have hl':K∨(leadss ks=false∧leadss vs=false):=hl.imp id fun h=>by
      rw [h0] at h
      simpa [leadss,O1] using h
    refine .inr ⟨ks,vs,es,cl,by rw [he,h0];rfl,hk,hv,hb.trans h1,?_,?_⟩
    · have:=rens_VRL hK hr hm ks _ (hl'.imp id (·.1)) h2
      rwa [Zgv _ hk] at this
    · have:=rens_VRL hK hr hm vs _ (hl'.imp id (·.2)) h3
      rwa [Zgv _ hv] at this
theorem Zsi (h:StoreOK σ L w) {x y:AV} {v:Value} {ss:List Site} (hv:VR (ctx σ L w) x v) (hr:(Zag x).run σ=some (y,ss)) (f:Zak):ren f y=y:=by
  let c0:Ctx:=⟨fun _=>none,fun _=>none,fun _=>False,w⟩
  have h1:=fun {x y:AV} {v:Value} {ss:List Site} (hv:VR (ctx σ L w) x v) (hr:(S0 x).run σ=some (y,ss))=>(Zh6 h hv hr (c':=c0) rfl (fun _ _ h=>h.elim) (fun _ _ _ h=>h)).2
  have h2:=fun {x y:List AV} {v:List Value} {ss:List Site} (hv:VRL (ctx σ L w) x v) (hr:(views x).run σ=some (y,ss))=>(Zez h (c':=c0) rfl (fun _ _ h=>h.elim) hv hr (fun _ _ _ h=>h)).2
  cases x<;>simp only [Zag] at hr<;>try exact Ze6 _ (h1 hv hr)
  case agg cs =>
    simp only [VR] at hv
    obtain ⟨vs,rfl,hv⟩:=hv
    by_cases hc:flats cs=true
    · rw [if_pos hc] at hr
      have k:=A7 hr
      simp only [Prod.mk.injEq] at k
      obtain ⟨rfl,rfl⟩:=k
      simp only [ren,rens_flats cs hc]
    · rw [if_neg hc] at hr
      obtain ⟨p,k1,k2⟩:=F5 hr
      have k:=A7 k2
      simp only [Prod.mk.injEq] at k
      obtain ⟨rfl,rfl⟩:=k
      simp only [ren,rens_flats _ (h2 hv (y:=p.1) (ss:=p.2) k1)]
  case clo g cs =>
    simp only [VR] at hv
    obtain ⟨vs,rfl,hv⟩:=hv
    obtain ⟨p,k1,k2⟩:=F5 hr
    have k:=A7 k2
    simp only [Prod.mk.injEq] at k
    obtain ⟨rfl,rfl⟩:=k
    simp only [ren,rens_flats _ (h2 hv (y:=p.1) (ss:=p.2) k1)]
theorem Zsj {x y:AV} {ss:List Site} (hr:(Zag x).run σ=some (y,ss)):∀ s∈ss,∃ e,A6 σ s=some e∧e.alive=true:=by
  cases x<;>simp only [Zag] at hr<;>try exact Zgt hr
  case agg cs =>
    by_cases hc:flats cs=true
    · rw [if_pos hc] at hr
      have k:=A7 hr
      simp only [Prod.mk.injEq] at k
      rw [k.2];simp
    · rw [if_neg hc] at hr
      obtain ⟨p,k1,k2⟩:=F5 hr
      have k:=A7 k2
      simp only [Prod.mk.injEq] at k
      obtain ⟨rfl,rfl⟩:=k
      exact Zbp (ys:=p.1) (ss:=p.2) k1
  case clo g cs =>
    obtain ⟨p,k1,k2⟩:=F5 hr
    have k:=A7 k2
    simp only [Prod.mk.injEq] at k
    obtain ⟨rfl,rfl⟩:=k
    exact Zbp (ys:=p.1) (ss:=p.2) k1
theorem Zdd:∀ {σ:A3} {s:Site} {e:Ent},A6 σ s=some e→(s,e) ∈ σ:=by
  intro σ
  induction σ with
  | nil=>intro s e h;simp [A6] at h
  | cons p σ ih =>
    intro s e h
    obtain ⟨t,f⟩:=p
    simp only [A6] at h
    split at h
    · rename_i ht;cases h;subst ht;simp
    · exact Yex _ (ih h)
theorem Zx3:∀ {n:Nat} {rs:List (Site × Nat)} {seen:List Site} {es:List (Site × Ent)},(X1 n rs seen).run σ=some es→∀ s e,(s,e)∈es→A6 σ s=some e∧e.alive=true:=by
  intro n
  induction n with
  | zero=>intro rs seen es h;exact A9 h
  | succ n ih =>
    intro rs seen es h s e hm
    cases rs with
    | nil=>simp only [X1] at h;have k:=A7 h;subst k;simp at hm
    | cons p r =>
      obtain ⟨t,g⟩:=p
      simp only [X1] at h
      cases hc:seen.contains t with
      | true=>rw [hc] at h;exact ih h s e hm
      | false =>
        rw [hc] at h
        simp only [cond_false] at h
        obtain ⟨e',h1,h2,h3,h4⟩:=H8 h
        obtain ⟨u,h5,h6⟩:=F5 h4
        have k:=A7 h6
        subst k
        rcases List.mem_cons.1 hm with hm|hm
        · cases hm;exact ⟨h1,h2⟩
        · exact ih h5 s e hm
theorem Zcc {es0:List (Site × Ent)}:∀ {l:List (Site × Ent)} {t:Site},A6 (K0 es0 l) t=match t with|.up s=>(A6 l s).map (fun e => { e with cells:=rens (V2 es0) e.cells })|_=>none:=by
  intro l
  induction l with
  | nil=>intro t;cases t<;>simp [K0,A6]
  | cons p l ih =>
    intro t
    obtain ⟨s,e⟩:=p
    simp only [K0,A6]
    cases t with
    | up x =>
      by_cases hx:s=x
      · subst hx;simp
      · simp [hx,ih]
    | s n k=>simp [ih]
    | r k=>simp [ih]
end Cod
namespace Cod
open Go
variable {E:Env} {w0:World} {O0:Nat→Prop} {σ0:A3} {L0:Lay} {P:Program} {σ:A3} {L:Lay} {w:World} {o:Oper} {a:Act}
def inE (es:List (Site × Ent)) (L:Lay) (b:Nat):Prop:=∃ s e o,A6 es s=some e∧L s=some (b,o)
def Zal (σ:A3) (L:Lay) (es:List (Site × Ent)) (ss:List Site):Lay :=
  ⟨fun t=>match t with|.up s=>L s|_=>none,fun b=>(G7 σ L b∨L.F b)∧¬ inE es L b∧¬ Zb1 L ss b⟩
structure Hand (σ:A3) (es:List (Site × Ent)) (ss:List Site):Prop where
  ents:∀ s e,A6 es s=some e→A6 σ s=some e∧e.alive=true
  seen:∀ s∈ss,∃ e,A6 σ s=some e∧e.alive=true
  apart:∀ s∈ss,A6 es s=none
theorem Zwt {c c':Ctx} (h:CFl c c') {cs:List AV} {y:Value} (hv:VR c (Zd9 cs) y):VR c' (Zd9 cs) y:=by
  cases cs with
  | nil=>simp [Zd9,VR]
  | cons x cs=>exact Zdx h (by simp [Zd9,J6]) hv
theorem Hand.own {es:List (Site × Ent)} {ss:List Site} (hh:Hand σ es ss) {b:Nat} (hb:G7 (K0 es es) (Zal σ L es ss) b):∃ s e o,A6 es s=some e∧e.rw=true∧L s=some (b,o):=by
  obtain ⟨t,e,o,h1,h2,h3,h4⟩:=hb
  rw [Zcc] at h1
  cases t with
  | up x =>
    simp only [Ydz] at h1
    obtain ⟨e1,h5,rfl⟩:=h1
    exact ⟨x,e1,o,h5,h3,h4⟩
  | s n k=>simp at h1
  | r k=>simp at h1
theorem Hand.own' {es:List (Site × Ent)} {ss:List Site} (hh:Hand σ es ss) {b:Nat} (hb:G7 (K0 es es) (Zal σ L es ss) b):G7 σ L b:=by
  obtain ⟨s,e,o,h1,h2,h3⟩:=hh.own hb
  obtain ⟨h4,h5⟩:=hh.ents s e h1
  exact ⟨s,e,o,h4,h5,h2,h3⟩
theorem Hand.inS {es:List (Site × Ent)} {ss:List Site} {b:Nat} (hb:inS (K0 es es) (Zal σ L es ss) b):inE es L b:=by
  obtain ⟨t,e,o,h1,h2,h4⟩:=hb
  rw [Zcc] at h1
  cases t with
  | up x =>
    simp only [Ydz] at h1
    obtain ⟨e1,h5,rfl⟩:=h1
    exact ⟨x,e1,o,h5,h4⟩
  | s n k=>simp at h1
  | r k=>simp at h1
theorem Hand.views {es:List (Site × Ent)} {ss:List Site} (hh:Hand σ es ss) (h:StoreOK σ L w) {b:Nat} (hb:Zb1 L ss b):¬ (ctx (K0 es es) (Zal σ L es ss) w).O b:=by
  intro hO
  rcases hO with hO|hO
  · obtain ⟨s,e,o,h1,h2,h3⟩:=hh.own hO
    obtain ⟨h4,h5⟩:=hh.ents s e h1
    obtain ⟨t,h6,o',h7⟩:=hb
    obtain ⟨e',h8,h9⟩:=hh.seen t h6
    have:=h.apart s t e e' b o o' h4 h5 h8 h9 h3 h7
    subst this
    rw [hh.apart s h6] at h1
    cases h1
  · exact hO.2.2 hb
theorem Hand.fl {es:List (Site × Ent)} {ss:List Site} (hh:Hand σ es ss):CFl (ctx σ L w) (ctx (K0 es es) (Zal σ L es ss) w) :=
  ⟨fun _ _ hO=>hO.elim (fun hO=>.inl (hh.own' hO)) (fun hO=>hO.1),fun _ _ _=>rfl,fun _ _ h=>h,Ydt _⟩
theorem Hand.names {es:List (Site × Ent)} {ss:List Site} (hh:Hand σ es ss):RN (ctx σ L w) (ctx (K0 es es) (Zal σ L es ss) w) (V2 es):=by
  intro s g s' g' hf g0 al hT hg
  unfold V2 at hf
  cases he:A6 es s with
  | none=>rw [he] at hf;cases hf
  | some e =>
    rw [he] at hf
    simp only at hf
    split at hf
    · rename_i hge
      cases hf
      obtain ⟨h1,h2⟩:=hh.ents s e he
      have hT':(A6 σ s).map (fun e=>(e.g,e.alive))=some (g0,al):=hT
      rw [h1] at hT'
      simp only [Ydy,Option.some.injEq,Prod.mk.injEq] at hT'
      obtain ⟨h3,h4⟩:=hT'
      refine ⟨e.g,e.alive,?_,by omega,fun _ _=>⟨by rw [←h4];exact h2,by omega,rfl⟩⟩
      show (A6 (K0 es es) (.up s)).map (fun e=>(e.g,e.alive))=some (e.g,e.alive)
      rw [Zcc]
      simp [he]
    · cases hf
theorem Hand.start {es:List (Site × Ent)} {ss:List Site} (hh:Hand σ es ss) (h:Rel E w0 O0 σ0 L0 σ L w) :
    Rel E w (G7 (K0 es es) (Zal σ L es ss)) (K0 es es) (Zal σ L es ss) (K0 es es) (Zal σ L es ss) w where
  store :=
    { ent:=by
        intro s e he ha
        rw [Zcc] at he
        cases s with
        | up x =>
          simp only [Ydz] at he
          obtain ⟨e1,h1,rfl⟩:=he
          obtain ⟨h2,h3⟩:=hh.ents x e1 h1
          have h4:=h.store.ent x e1 h2 h3
          unfold S1 at h4 ⊢
          rw [show (ctx (K0 es es) (Zal σ L es ss) w).L (.up x)=(ctx σ L w).L x from rfl]
          cases hl:(ctx σ L w).L x with
          | none=>rw [hl] at h4;exact ⟨by rw [show ({ e1 with cells:=rens (V2 es) e1.cells }:Ent).cells=rens (V2 es) e1.cells from rfl,h4.1];rfl,h4.2⟩
          | some p =>
            rw [hl] at h4
            obtain ⟨b,o⟩:=p
            simp only at h4 ⊢
            rcases h4 with h4|⟨h5,h4⟩
            · exact .inl ⟨by rw [Zdc];exact h4.1,Zia (K:=True) (fun _=>hh.fl) hh.names (fun _ _ h=>h) (fun _=>rfl) (.inl trivial) h4.2⟩
            · exact .inr ⟨h5,h4.ren (K:=True) (fun _=>hh.fl) hh.names (fun _ _ h=>h) rfl (.inl trivial) rfl⟩
        | s n k=>simp at he
        | r k=>simp at he
      apart:=by
        intro s s' e e' b o o' h1 a1 h2 a2 l1 l2
        rw [Zcc] at h1 h2
        cases s with
        | up x =>
          cases s' with
          | up y =>
            simp only [Ydz] at h1 h2
            obtain ⟨e1,h3,_⟩:=h1
            obtain ⟨e2,h4,_⟩:=h2
            obtain ⟨h5,h6⟩:=hh.ents x e1 h3
            obtain ⟨h7,h8⟩:=hh.ents y e2 h4
            rw [h.store.apart x y e1 e2 b o o' h5 h6 h7 h8 l1 l2]
          | s n k=>simp at h2
          | r k=>simp at h2
        | s n k=>simp at h1
        | r k=>simp at h1 }
  keep:=Keep.refl _ _
  own b hb:=.inl hb
  glob n:=⟨Zwt hh.fl (h.glob n).1,(h.glob n).2⟩
  ups x e he ha:=⟨e,he,ha,rfl,rfl⟩
  src b hb:=.inl hb
  lf:=rfl
  f0 b hb:=by
    refine ⟨?_,fun hi=>hb.2.1 (Hand.inS hi)⟩
    rcases hb.1 with h1|h1
    · exact h.store.own_lt h1
    · rw [h.lf] at h1
      exact Nat.lt_of_lt_of_le (h.f0 b h1).1 h.keep.size
theorem Zsk (h:StoreOK σ L w) {es:List (Site × Ent)} {ss:List Site} (hh:Hand σ es ss) (take:List Nat):∀ {args:List AV} {i:Nat} {args':List AV} {rs:List (Site × Nat)} {ss':List Site} {vs:List Value},
    (O6 i take args).run σ=some (args',rs,ss')→(∀ s∈ss',s∈ss)→VRL (ctx σ L w) args vs→VRL (ctx (K0 es es) (Zal σ L es ss) w) (rens (V2 es) args') vs:=by
  intro args
  induction args with
  | nil =>
    intro i args' rs ss' vs hr _ hv
    simp only [O6] at hr
    have k:=A7 hr
    simp only [Prod.mk.injEq] at k
    obtain ⟨rfl,_⟩:=k
    simpa [rens,VRL] using hv
  | cons x args ih =>
    intro i args' rs ss' vs hr hs hv
    simp only [VRL] at hv
    obtain ⟨v,r,rfl,h1,h2⟩:=hv
    simp only [O6] at hr
    cases ht:take.contains i with
    | true =>
      rw [ht] at hr
      simp only [cond_true] at hr
      obtain ⟨p,h3,h4⟩:=F5 hr
      have k:=A7 h4
      simp only [Prod.mk.injEq] at k
      obtain ⟨rfl,rfl,rfl⟩:=k
      simp only [rens,VRL]
      exact ⟨v,r,rfl,Zed (K:=True) (fun _=>hh.fl) hh.names (fun _ _ h=>h) x v (.inl trivial) h1,ih (args':=p.1) (rs:=p.2.1) (ss':=p.2.2) h3 hs h2⟩
    | false =>
      rw [ht] at hr
      simp only [cond_false] at hr
      obtain ⟨q,h3,h4⟩:=F5 hr
      obtain ⟨p,h5,h6⟩:=F5 h4
      have k:=A7 h6
      simp only [Prod.mk.injEq] at k
      obtain ⟨rfl,rfl,rfl⟩:=k
      simp only [rens,VRL]
      refine ⟨v,r,rfl,?_,ih (args':=p.1) (rs:=p.2.1) (ss':=p.2.2) h5 (fun s hs'=>hs s (Yey _ hs')) h2⟩
      rw [Zsi h h1 (y:=q.1) (ss:=q.2) h3]
      refine Z9r h h1 (y:=q.1) (ss:=q.2) h3 rfl (hh.fl.own) (fun b _ hb=>hh.views h ?_)
      obtain ⟨s,hs1,o,hs2⟩:=hb
      exact ⟨s,hs s (Yez _ hs1),o,hs2⟩
theorem Zk8:∀ {args:List AV} {i:Nat} {take:List Nat} {args':List AV} {rs:List (Site × Nat)} {ss':List Site},
    (O6 i take args).run σ=some (args',rs,ss')→∀ s∈ss',∃ e,A6 σ s=some e∧e.alive=true:=by
  intro args
  induction args with
  | nil =>
    intro i take args' rs ss' hr
    simp only [O6] at hr
    have k:=A7 hr
    simp only [Prod.mk.injEq] at k
    obtain ⟨_,_,rfl⟩:=k
    simp
  | cons x args ih =>
    intro i take args' rs ss' hr
    simp only [O6] at hr
    cases ht:take.contains i with
    | true =>
      rw [ht] at hr
      simp only [cond_true] at hr
      obtain ⟨p,h3,h4⟩:=F5 hr
      have k:=A7 h4
      simp only [Prod.mk.injEq] at k
      obtain ⟨rfl,rfl,rfl⟩:=k
      exact ih (args':=p.1) (rs:=p.2.1) (ss':=p.2.2) h3
    | false =>
      rw [ht] at hr
      simp only [cond_false] at hr
      obtain ⟨q,h3,h4⟩:=F5 hr
      obtain ⟨p,h5,h6⟩:=F5 h4
      have k:=A7 h6
      simp only [Prod.mk.injEq] at k
      obtain ⟨rfl,rfl,rfl⟩:=k
      intro s hs
      rcases List.mem_append.1 hs with hs|hs
      · exact Zsj (y:=q.1) (ss:=q.2) h3 s hs
      · exact ih (args':=p.1) (rs:=p.2.1) (ss':=p.2.2) h5 s hs
end Cod
namespace Cod
open Go
variable {E:Env} {w0:World} {O0:Nat→Prop} {σ0:A3} {L0:Lay} {P:Program} {σ:A3} {L:Lay} {w:World} {o:Oper} {a:Act}
theorem Zf6 {σ:Ups} {s:Site}:Zoj σ s=true↔A6 σ s=none:=by simp [Zoj]
theorem Zjt:∀ {σ:A3} {s:Site},A6 σ s=none→∀ e,(s,e) ∉ σ:=by
  intro σ
  induction σ with
  | nil=>intro s _ e h;simp at h
  | cons p σ ih =>
    intro s h e hm
    obtain ⟨t,f⟩:=p
    simp only [A6] at h
    split at h
    · cases h
    · rename_i ht
      rcases List.mem_cons.1 hm with hm|hm
      · cases hm;exact ht rfl
      · exact ih h e hm
theorem Ze7:∀ {B:Ups},R5 B=true→∀ {s:Site} {e:Ent},(s,e)∈B→A6 B s=some e:=by
  intro B
  induction B with
  | nil=>intro _ s e h;simp at h
  | cons p B ih =>
    intro hd s e hm
    obtain ⟨t,f⟩:=p
    simp only [R5,Yd8] at hd
    simp only [A6]
    rcases List.mem_cons.1 hm with hm|hm
    · cases hm;simp
    · have h1:=ih hd.2 hm
      have h2:=Zf6.1 hd.1
      have hne:t≠s:=by rintro rfl;rw [h1] at h2;cases h2
      rw [if_neg hne];exact h1
theorem Zad:∀ {σr:A3},tidy σr=true→∀ {s:Site} {e:Ent},(s,e) ∈ σr→A6 σr s=some e∧e.alive=true∧((∃ x,s=.up x)∨∃ k,s=.r k∧e.g=0):=by
  intro σr
  induction σr with
  | nil=>intro _ s e h;simp at h
  | cons p σr ih =>
    intro hd s e hm
    obtain ⟨t,f⟩:=p
    simp only [tidy,Yd8] at hd
    obtain ⟨⟨hd1,hd2⟩,hd3⟩:=hd
    simp only [A6]
    rcases List.mem_cons.1 hm with hm|hm
    · cases hm
      refine ⟨by simp,?_⟩
      cases s with
      | up x=>simp only [Zok] at hd1;exact ⟨hd1,.inl ⟨x,rfl⟩⟩
      | r k=>simp only [Zok,Yd8,beq_iff_eq] at hd1;exact ⟨hd1.1,.inr ⟨k,rfl,hd1.2⟩⟩
      | s n k=>simp [Zok] at hd1
    · obtain ⟨h1,h2⟩:=ih hd3 hm
      have h3:=Zf6.1 hd2
      have hne:t≠s:=by rintro rfl;rw [h1] at h3;cases h3
      rw [if_neg hne];exact ⟨h1,h2⟩
theorem Zib:∀ {X:Ups} {σ:A3} {t:Site},(∃ x,(t,x)∈X∧A6 (B2 σ X) t=some x)∨((∀ x,(t,x)∉X)∧A6 (B2 σ X) t=A6 σ t):=by
  intro X
  induction X with
  | nil=>intro σ t;exact .inr ⟨by simp,rfl⟩
  | cons p X ih =>
    intro σ t
    obtain ⟨s,e⟩:=p
    simp only [B2]
    rcases ih (σ:=G3 σ s e) (t:=t) with ⟨x,h1,h2⟩|⟨h1,h2⟩
    · exact .inl ⟨x,Yex _ h1,h2⟩
    · by_cases hs:s=t
      · subst hs
        rw [C0] at h2
        exact .inl ⟨e,by simp,h2⟩
      · rw [C7 _ _ hs] at h2
        refine .inr ⟨fun x hx=>?_,h2⟩
        rcases List.mem_cons.1 hx with hx|hx
        · cases hx;exact hs rfl
        · exact h1 x hx
theorem Zpa:∀ {es:List (Site × Ent)} {B:Ups} {t:Site} {x:Ent},(t,x)∈U8 B es→A6 B t=none∧∃ e,(t,e)∈es∧x = { e with alive:=false,cells:=[] }:=by
  intro es
  induction es with
  | nil=>intro B t x h;simp [U8] at h
  | cons p es ih =>
    intro B t x h
    obtain ⟨s,e⟩:=p
    simp only [U8] at h
    split at h
    · obtain ⟨h1,e',h2,h3⟩:=ih h
      exact ⟨h1,e',Yex _ h2,h3⟩
    · rename_i hb
      rcases List.mem_cons.1 h with h|h
      · cases h;exact ⟨hb,e,by simp,rfl⟩
      · obtain ⟨h1,e',h2,h3⟩:=ih h
        exact ⟨h1,e',Yex _ h2,h3⟩
theorem Z3a:∀ {es:List (Site × Ent)} {B:Ups} {t:Site} {e:Ent},(t,e)∈es→A6 B t=none→(t,{ e with alive:=false,cells:=[] })∈U8 B es:=by
  intro es
  induction es with
  | nil=>intro B t e h;simp at h
  | cons p es ih =>
    intro B t e h hb
    obtain ⟨s,e'⟩:=p
    simp only [U8]
    rcases List.mem_cons.1 h with h|h
    · cases h;rw [hb];simp
    · split
      · exact ih h hb
      · exact Yex _ (ih h hb)
theorem Zk9 {d:Nat} {gs:List (Nat × Nat)}:∀ {σr:A3} {t:Site} {x:Ent},(t,x)∈B3 d gs σr→∃ s e g',(s,e) ∈ σr∧F7 d gs s e.g=some (t,g')∧x = { e with g:=g',cells:=rens (F7 d gs) e.cells }:=by
  intro σr
  induction σr with
  | nil=>intro t x h;simp [B3] at h
  | cons p σr ih =>
    intro t x h
    obtain ⟨s,e⟩:=p
    simp only [B3] at h
    split at h
    · rename_i s' g' hb
      rcases List.mem_cons.1 h with h|h
      · cases h;exact ⟨s,e,g',by simp,hb,rfl⟩
      · obtain ⟨s1,e1,g1,h1,h2⟩:=ih h
        exact ⟨s1,e1,g1,Yex _ h1,h2⟩
    · obtain ⟨s1,e1,g1,h1,h2⟩:=ih h
      exact ⟨s1,e1,g1,Yex _ h1,h2⟩
theorem X7 {d:Nat} {gs:List (Nat × Nat)}:∀ {σr:A3} {s:Site} {e:Ent} {t:Site} {g':Nat},(s,e) ∈ σr→F7 d gs s e.g=some (t,g')→(t,{ e with g:=g',cells:=rens (F7 d gs) e.cells })∈B3 d gs σr:=by
  intro σr
  induction σr with
  | nil=>intro s e t g' h;simp at h
  | cons p σr ih =>
    intro s e t g' h hb
    obtain ⟨s1,e1⟩:=p
    simp only [B3]
    rcases List.mem_cons.1 h with h|h
    · cases h;rw [hb];simp
    · split
      · exact Yex _ (ih h hb)
      · exact ih h hb
theorem Zla {d:Nat} {gs:List (Nat × Nat)}:∀ {σr:A3},R5 (B3 d gs σr)=true→∀ {s1 s2:Site} {e1 e2:Ent} {t:Site} {g1 g2:Nat},(s1,e1) ∈ σr→(s2,e2) ∈ σr →
    F7 d gs s1 e1.g=some (t,g1)→F7 d gs s2 e2.g=some (t,g2)→s1=s2:=by
  intro σr
  induction σr with
  | nil=>intro _ s1 s2 e1 e2 t g1 g2 h;simp at h
  | cons p σr ih =>
    intro hd s1 s2 e1 e2 t g1 g2 h1 h2 b1 b2
    obtain ⟨s,e⟩:=p
    simp only [B3] at hd
    have key:∀ {s':Site} {e':Ent} {g' gg:Nat},(s',e') ∈ σr→F7 d gs s' e'.g=some (t,g')→F7 d gs s e.g=some (t,gg)→False:=by
      intro s' e' g' gg hm hb hb0
      rw [hb0] at hd
      simp only [R5,Yd8] at hd
      have:=Zf6.1 hd.1
      exact Zjt this _ (X7 hm hb)
    have hd':R5 (B3 d gs σr)=true:=by
      split at hd
      · simp only [R5,Yd8] at hd;exact hd.2
      · exact hd
    rcases List.mem_cons.1 h1 with k1|k1<;>rcases List.mem_cons.1 h2 with k2|k2
    · cases k1;cases k2;rfl
    · cases k1;exact (key k2 b2 b1).elim
    · cases k2;exact (key k1 b1 b2).elim
    · exact ih hd' k1 k2 b1 b2
theorem Zgw {d:Nat}:∀ {σr:A3} {gs:List (Nat × Nat)},(N8 d σr).run σ=some gs→(∀ k g',gs.lookup k=some g'→∀ e,A6 σ (.s d k)=some e→e.g<g')∧(∀ k e,(.r k,e) ∈ σr→∃ g',gs.lookup k=some g'):=by
  intro σr
  induction σr with
  | nil =>
    intro gs h
    simp only [N8] at h
    have k:=A7 h
    subst k
    exact ⟨by simp,by simp⟩
  | cons p σr ih =>
    intro gs h
    obtain ⟨s,e0⟩:=p
    cases s with
    | r k0 =>
      simp only [N8] at h
      obtain ⟨l,h1,h2⟩:=F5 h
      obtain ⟨i1,i2⟩:=ih h1
      simp only [Acc.run] at h2
      have h3:∃ g0,gs=(k0,g0)::l∧∀ e,A6 σ (.s d k0)=some e→e.g<g0:=by
        cases hge:A6 σ (.s d k0) with
        | none=>rw [hge] at h2;simp only [genE] at h2;have k:=A7 h2;exact ⟨0,k,by simp⟩
        | some e=>rw [hge] at h2;simp only [genE] at h2;have k:=A7 h2;exact ⟨e.g+1,k,fun e' he'=>by cases he';omega⟩
      obtain ⟨g0,rfl,h4⟩:=h3
      refine ⟨fun k g' hk e he=>?_,fun k e hk=>?_⟩
      · by_cases hkk:k=k0
        · subst hkk
          simp at hk
          subst hk
          exact h4 e he
        · have:(k==k0)=false:=by simpa using hkk
          simp only [List.lookup,this] at hk
          exact i1 k g' hk e he
      · by_cases hkk:k=k0
        · subst hkk;exact ⟨g0,by simp⟩
        · have hb:(k==k0)=false:=by simpa using hkk
          rcases List.mem_cons.1 hk with hk|hk
          · cases hk;exact absurd rfl hkk
          · obtain ⟨g',h5⟩:=i2 k e hk
            exact ⟨g',by simp only [List.lookup,hb];exact h5⟩
    | up x =>
      simp only [N8] at h
      obtain ⟨i1,i2⟩:=ih h
      refine ⟨i1,fun k e hk=>?_⟩
      rcases List.mem_cons.1 hk with hk|hk
      · cases hk
      · exact i2 k e hk
    | s n x =>
      simp only [N8] at h
      obtain ⟨i1,i2⟩:=ih h
      refine ⟨i1,fun k e hk=>?_⟩
      rcases List.mem_cons.1 hk with hk|hk
      · cases hk
      · exact i2 k e hk
mutual
theorem Zf7 {f:Zak}:∀ (x:AV),O1 (ren f x)=false→O1 x=false
  | .junk,h=>by simp [ren,O1] at h
  | .und,_=>rfl
  | .int _ _,_=>rfl
  | .bool _,_=>rfl
  | .str _,_=>rfl
  | .nilp,_=>rfl
  | .nils,_=>rfl
  | .nilf,_=>rfl
  | .nili,_=>rfl
  | .nilm,_=>rfl
  | .any _,_=>rfl
  | .agg cs,h=>by simp only [ren,O1] at h ⊢;exact leadss_ren cs h
  | .tup cs,h=>by simp only [ren,O1] at h ⊢;exact leadss_ren cs h
  | .lst _ _,h=>by simp [ren,O1] at h
  | .fp _ _,h=>by simp [ren,O1] at h
  | .ref ..,_=>rfl
  | .buf ..,_=>rfl
  | .it ..,_=>rfl
  | .itr ..,_=>rfl
  | .mpr ..,_=>rfl
  | .mp ..,h=>by simpa only [ren] using h
  | .clo g cs,h=>by simp only [ren,O1] at h ⊢;exact leadss_ren cs h
  | .ifc t x,h=>by simp only [ren,O1] at h ⊢;exact Zf7 x h
theorem leadss_ren {f:Zak}:∀ (xs:List AV),leadss (rens f xs)=false→leadss xs=false
  | [],_=>rfl
  | x::xs,h=>by
    simp only [rens,leadss,Yew] at h ⊢
    exact ⟨Zf7 x h.1,leadss_ren xs h.2⟩
end
theorem Zlb:∀ {B:Ups},X2 B=false→∀ {s:Site} {e:Ent},(s,e)∈B→leadss e.cells=false:=by
  intro B
  induction B with
  | nil=>intro _ s e h;simp at h
  | cons p B ih =>
    intro h s e hm
    obtain ⟨t,f⟩:=p
    simp only [X2,Yew] at h
    rcases List.mem_cons.1 hm with hm|hm
    · cases hm;exact h.1
    · exact ih h.2 hm
end Cod
namespace Cod
open Go
variable {E:Env} {w0:World} {O0:Nat→Prop} {σ0:A3} {L0:Lay} {P:Program} {σ:A3} {L:Lay} {w:World} {o:Oper} {a:Act}
open Classical in
noncomputable def Zat (d:Nat) (L:Lay) (σr:A3) (La':Lay):Lay :=
  ⟨fun t=>match t with|.s d' k=>if d'=d∧∃ e,(Site.r k,e) ∈ σr then La' (.r k) else L t|t=>L t,L.F⟩
structure Back (E:Env) (d:Nat) (σ σ1:A3) (L:Lay) (w:World) (es:List (Site × Ent)) (ss:List Site) (σr:A3) (La':Lay) (w':World) (gs:List (Nat × Nat)) (K:Prop):Prop where
  hand:Hand σ es ss
  mem:∀ s e,(s,e)∈es→A6 σ s=some e
  sim:Sim σ σ1
  same:∀ s,s∉ss→A6 σ1 s=A6 σ s
  quiet:K→∀ s∈ss,∀ e,A6 σ1 s=some e→e.rw=false
  tidy:tidy σr=true
  gens:(N8 d σr).run σ=some gs
  dist:R5 (B3 d gs σr)=true
  callee:Rel E w (G7 (K0 es es) (Zal σ L es ss)) (K0 es es) (Zal σ L es ss) σr La' w'
  store:StoreOK σ L w
section
variable {d:Nat} {σ1:A3} {es:List (Site × Ent)} {ss:List Site} {σr:A3} {La':Lay} {w':World} {gs:List (Nat × Nat)} {K:Prop}
open Classical in
theorem Back.name (hb:Back E d σ σ1 L w es ss σr La' w' gs K) {s:Site} {e:Ent} (hm:(s,e) ∈ σr):∃ t g',F7 d gs s e.g=some (t,g')∧(Zat d L σr La') t=La' s ∧
    ((∃ x e0,s=.up x∧t=x∧g'=e.g∧A6 es x=some e0∧e0.g=e.g∧La' s=L x)∨(∃ k,s=.r k∧t=.s d k∧e.g=0∧gs.lookup k=some g')):=by
  obtain ⟨h1,h2,h3⟩:=Zad hb.tidy hm
  obtain ⟨i1,i2⟩:=Zgw hb.gens
  rcases h3 with ⟨x,rfl⟩|⟨k,rfl,h0⟩
  · obtain ⟨e0,k1,k2,k3,k4⟩:=hb.callee.ups x e h1 h2
    rw [Zcc] at k1
    simp only [Ydz] at k1
    obtain ⟨e1,k5,rfl⟩:=k1
    have hL:La' (.up x)=L x:=k4
    refine ⟨x,e.g,rfl,?_,.inl ⟨x,e1,rfl,rfl,rfl,k5,k3,hL⟩⟩
    cases x with
    | s d' k =>
      show (if d'=d∧∃ e,(Site.r k,e) ∈ σr then La' (.r k) else L (.s d' k))=_
      split
      · rename_i hc
        obtain ⟨rfl,e',he'⟩:=hc
        obtain ⟨g',hg'⟩:=i2 k e' he'
        have h0:=(Zad hb.tidy he').2.2
        have h00:e'.g=0:=by
          rcases h0 with ⟨x,hx⟩|⟨k',hk',h0⟩
          · cases hx
          · exact h0
        have:=Zla hb.dist hm he' (t:=.s d' k) (g1:=e.g) (g2:=g') rfl (by simp [F7,hg',h00])
        cases this
      · exact hL.symm
    | up y=>exact hL.symm
    | r k=>exact hL.symm
  · obtain ⟨g',hg'⟩:=i2 k e hm
    refine ⟨.s d k,g',by simp [F7,hg',h0],?_,.inr ⟨k,rfl,rfl,h0,hg'⟩⟩
    show (if d=d∧∃ e,(Site.r k,e) ∈ σr then La' (.r k) else L (.s d k))=_
    rw [if_pos ⟨rfl,e,hm⟩]
theorem Back.cases (hb:Back E d σ σ1 L w es ss σr La' w' gs K) (t:Site) :
    (∃ s e g',(s,e) ∈ σr∧F7 d gs s e.g=some (t,g')∧A6 (B2 σ1 (B3 d gs σr++U8 (B3 d gs σr) es)) t=some { e with g:=g',cells:=rens (F7 d gs) e.cells }) ∨
    (∃ e,A6 es t=some e∧A6 (B2 σ1 (B3 d gs σr++U8 (B3 d gs σr) es)) t=some { e with alive:=false,cells:=[] }) ∨
    (A6 es t=none∧(∀ s e g',(s,e) ∈ σr→F7 d gs s e.g≠some (t,g'))∧A6 (B2 σ1 (B3 d gs σr++U8 (B3 d gs σr) es)) t=A6 σ1 t):=by
  rcases Zib (X:=B3 d gs σr++U8 (B3 d gs σr) es) (σ := σ1) (t:=t) with ⟨x,h1,h2⟩|⟨h1,h2⟩
  · rcases List.mem_append.1 h1 with h1|h1
    · obtain ⟨s,e,g',h3,h4,rfl⟩:=Zk9 h1
      exact .inl ⟨s,e,g',h3,h4,h2⟩
    · obtain ⟨h3,e,h4,rfl⟩:=Zpa h1
      refine .inr (.inl ⟨e,?_,h2⟩)
      cases he:A6 es t with
      | none=>exact absurd h4 (Zjt he e)
      | some e' =>
        have a1:=hb.mem t e h4
        have a2:=(hb.hand.ents t e' he).1
        rw [a1] at a2
        cases a2
        rfl
  · refine .inr (.inr ⟨?_,fun s e g' h3 h4=>h1 _ (Yez _ (X7 h3 h4)),h2⟩)
    cases he:A6 es t with
    | none=>rfl
    | some e =>
      exfalso
      have hm:=Zdd he
      cases hB:A6 (B3 d gs σr) t with
      | none=>exact h1 _ (Yey _ (Z3a hm hB))
      | some x=>exact h1 x (Yez _ (Zdd hB))
theorem Back.at (hb:Back E d σ σ1 L w es ss σr La' w' gs K) {s:Site} {e:Ent} {t:Site} {g':Nat} (hm:(s,e) ∈ σr) (hn:F7 d gs s e.g=some (t,g')) :
    A6 (B2 σ1 (B3 d gs σr++U8 (B3 d gs σr) es)) t=some { e with g:=g',cells:=rens (F7 d gs) e.cells }:=by
  have hB:=Ze7 hb.dist (X7 hm hn)
  rcases Zib (X:=B3 d gs σr++U8 (B3 d gs σr) es) (σ := σ1) (t:=t) with ⟨x,h1,h2⟩|⟨h1,_⟩
  · rcases List.mem_append.1 h1 with h1|h1
    · have:=Ze7 hb.dist h1
      rw [hB] at this
      cases this
      exact h2
    · obtain ⟨h3,_⟩:=Zpa h1
      rw [hB] at h3;cases h3
  · exact absurd (Yez _ (X7 hm hn)) (h1 _)
open Classical in
theorem Back.kept (hb:Back E d σ σ1 L w es ss σr La' w' gs K) {t:Site} (hn:∀ s e g',(s,e) ∈ σr→F7 d gs s e.g≠some (t,g')):(Zat d L σr La') t=L t:=by
  cases t with
  | s d' k =>
    show (if d'=d∧∃ e,(Site.r k,e) ∈ σr then La' (.r k) else L (.s d' k))=_
    split
    · rename_i hc
      obtain ⟨rfl,e,he⟩:=hc
      obtain ⟨t',g',h1,_,h3⟩:=hb.name he
      rcases h3 with ⟨x,_,h4,_⟩|⟨k',h4,h5,_⟩
      · cases h4
      · cases h4;subst h5;exact absurd h1 (hn _ _ _ he)
    · rfl
  | up x=>rfl
  | r k=>rfl
theorem Back.names (hb:Back E d σ σ1 L w es ss σr La' w' gs K) :
    RN (ctx σr La' w') (ctx (B2 σ1 (B3 d gs σr++U8 (B3 d gs σr) es)) (Zat d L σr La') w') (F7 d gs):=by
  intro s g t g' hf g0 al hT hg
  have hT':(A6 σr s).map (fun e=>(e.g,e.alive))=some (g0,al):=hT
  simp only [Ydz,Prod.mk.injEq] at hT'
  obtain ⟨e,h1,rfl,rfl⟩:=hT'
  have hm:=Zdd h1
  obtain ⟨_,hal,_⟩:=Zad hb.tidy hm
  obtain ⟨t1,g1,h2,h3,h4⟩:=hb.name hm
  have hat:=hb.at hm h2
  have ht:t1=t∧g'≤g1∧(g'=g1→g=e.g):=by
    rcases h4 with ⟨x,e0,rfl,rfl,rfl,_⟩|⟨k,rfl,rfl,h0,hl⟩
    · simp only [F7,Option.some.injEq,Prod.mk.injEq] at hf
      exact ⟨hf.1,by omega,by omega⟩
    · simp only [F7,hl] at hf
      split at hf
      · cases hf;exact ⟨rfl,Ydt _,by omega⟩
      · cases hf
  obtain ⟨rfl,h5,h6⟩:=ht
  refine ⟨g1,e.alive,?_,h5,fun ha hgg=>⟨ha,h6 hgg,h3⟩⟩
  show (A6 _ t1).map _=_
  rw [hat]
  rfl
theorem Back.es1 (hb:Back E d σ σ1 L w es ss σr La' w' gs K) {t:Site} {e:Ent} (he:A6 es t=some e):A6 σ1 t=some e∧e.alive=true:=by
  obtain ⟨h1,h2⟩:=hb.hand.ents t e he
  refine ⟨?_,h2⟩
  rw [hb.same t (fun hs=>by rw [hb.hand.apart t hs] at he;cases he)]
  exact h1
theorem Back.own1 (hb:Back E d σ σ1 L w es ss σr La' w' gs K) {b:Nat} (h:G7 (K0 es es) (Zal σ L es ss) b):G7 σ1 L b:=by
  obtain ⟨s,e,o,h1,h2,h3⟩:=hb.hand.own h
  obtain ⟨h4,h5⟩:=hb.es1 h1
  exact ⟨s,e,o,h4,h5,h2,h3⟩
theorem Back.own2 (hb:Back E d σ σ1 L w es ss σr La' w' gs K) {b:Nat} (h:G7 (B2 σ1 (B3 d gs σr++U8 (B3 d gs σr) es)) (Zat d L σr La') b) :
    G7 σr La' b∨∃ t e o,A6 es t=none∧A6 σ1 t=some e∧e.alive=true∧e.rw=true∧L t=some (b,o):=by
  obtain ⟨t,e2,o,h1,h2,h3,h4⟩:=h
  rcases hb.cases t with ⟨s,e,g',k1,k2,k3⟩|⟨e,k1,k2⟩|⟨k1,k2,k3⟩
  · rw [k3] at h1
    cases h1
    obtain ⟨t1,g1,m1,m2,_⟩:=hb.name k1
    rw [k2] at m1
    cases m1
    exact .inl ⟨s,e,o,(Zad hb.tidy k1).1,h2,h3,by rw [←m2];exact h4⟩
  · rw [k2] at h1;cases h1;cases h2
  · rw [k3] at h1
    rw [hb.kept k2] at h4
    exact .inr ⟨t,e2,o,k1,h1,h2,h3,h4⟩
theorem Back.in2 (hb:Back E d σ σ1 L w es ss σr La' w' gs K) {b:Nat} (h:inS (B2 σ1 (B3 d gs σr++U8 (B3 d gs σr) es)) (Zat d L σr La') b) :
    inS σr La' b∨inS σ1 L b:=by
  obtain ⟨t,e2,o,h1,h2,h4⟩:=h
  rcases hb.cases t with ⟨s,e,g',k1,k2,k3⟩|⟨e,k1,k2⟩|⟨k1,k2,k3⟩
  · rw [k3] at h1
    cases h1
    obtain ⟨t1,g1,m1,m2,_⟩:=hb.name k1
    rw [k2] at m1
    cases m1
    exact .inl ⟨s,e,o,(Zad hb.tidy k1).1,h2,by rw [←m2];exact h4⟩
  · rw [k2] at h1;cases h1;cases h2
  · rw [k3] at h1
    rw [hb.kept k2] at h4
    exact .inr ⟨t,e2,o,h1,h2,h4⟩
theorem Back.inE1 (hb:Back E d σ σ1 L w es ss σr La' w' gs K) {b:Nat} (h:inE es L b):inS σ1 L b:=by
  obtain ⟨s,e,o,h1,h2⟩:=h
  obtain ⟨h3,h4⟩:=hb.es1 h1
  exact ⟨s,e,o,h3,h4,h2⟩
end
end Cod
namespace Cod
open Go
variable {E:Env} {w0:World} {O0:Nat→Prop} {σ0:A3} {L0:Lay} {P:Program} {σ:A3} {L:Lay} {w:World} {o:Oper} {a:Act}
section
variable {d:Nat} {σ1:A3} {es:List (Site × Ent)} {ss:List Site} {σr:A3} {La':Lay} {w':World} {gs:List (Nat × Nat)} {K:Prop}
theorem Back.keep (hb:Back E d σ σ1 L w es ss σr La' w' gs K):Keep (G7 σ1 L) w w':=hb.callee.keep.mono fun _ h=>hb.own1 h
theorem Back.ownB (hb:Back E d σ σ1 L w es ss σr La' w' gs K) {b:Nat} (h:G7 (B2 σ1 (B3 d gs σr++U8 (B3 d gs σr) es)) (Zat d L σr La') b):G7 σ1 L b∨w.heap.size≤b:=by
  rcases hb.own2 h with h1|⟨t,e,o,_,h2,h3,h4,h5⟩
  · rcases hb.callee.own b h1 with h2|h2
    · exact .inl (hb.own1 h2)
    · exact .inr h2
  · exact .inl ⟨t,e,o,h2,h3,h4,h5⟩
theorem Back.le (hb:Back E d σ σ1 L w es ss σr La' w' gs K):CLe (ctx σ1 L w) (ctx (B2 σ1 (B3 d gs σr++U8 (B3 d gs σr) es)) (Zat d L σr La') w') where
  tab t g0 al hT:=by
    have hT':(A6 σ1 t).map (fun e=>(e.g,e.alive))=some (g0,al):=hT
    simp only [Ydz,Prod.mk.injEq] at hT'
    obtain ⟨e1,h1,rfl,rfl⟩:=hT'
    rcases hb.cases t with ⟨s,e,g',k1,k2,k3⟩|⟨e,k1,k2⟩|⟨k1,k2,k3⟩
    · obtain ⟨t1,g1,m1,m2,m3⟩:=hb.name k1
      rw [k2] at m1
      cases m1
      refine ⟨g',e.alive,by show (A6 _ t).map _=_;rw [k3];rfl,?_⟩
      rcases m3 with ⟨x,e0,rfl,rfl,rfl,q1,q2,q3⟩|⟨k,rfl,rfl,q1,q2⟩
      · obtain ⟨p1,p2⟩:=hb.es1 q1
        rw [h1] at p1
        cases p1
        exact ⟨by omega,fun _ _=>⟨p2,m2.trans q3⟩⟩
      · obtain ⟨i1,_⟩:=Zgw hb.gens
        obtain ⟨e2,r1,_,r2,_⟩:=hb.sim.back h1
        have:=i1 k g' q2 e2 r1
        exact ⟨by omega,fun hh=>by omega⟩
    · obtain ⟨p1,p2⟩:=hb.es1 k1
      rw [h1] at p1
      cases p1
      refine ⟨e1.g,false,by show (A6 _ t).map _=_;rw [k2];rfl,Ydt _,fun _ h=>by cases h⟩
    · refine ⟨e1.g,e1.alive,by show (A6 _ t).map _=_;rw [k3,h1];rfl,Ydt _,fun _ h=>⟨h,hb.kept k2⟩⟩
  own b hlt hO:=by
    rcases hO with hO|hO
    · exact .inl ((hb.ownB hO).resolve_right (Nat.not_le.2 hlt))
    · exact .inr hO
  block b hlt hn:=hb.keep.block b hlt (fun h=>hn (.inl h))
  room:=hb.keep.room
  size:=hb.keep.size
theorem Back.apartE (hb:Back E d σ σ1 L w es ss σr La' w' gs K) (h1:StoreOK σ1 L w) {t:Site} {e:Ent} {b o':Nat} (he:A6 σ1 t=some e) (ha:e.alive=true) (hl:L t=some (b,o')) (hn:A6 es t=none):¬ inE es L b:=by
  rintro ⟨s,e',o2,h2,h3⟩
  obtain ⟨h4,h5⟩:=hb.es1 h2
  have:=h1.apart s t e' e b o2 o' h4 h5 he ha h3 hl
  subst this
  rw [h2] at hn;cases hn
theorem Back.fl (hb:Back E d σ σ1 L w es ss σr La' w' gs K) (h1:Rel E w0 O0 σ0 L0 σ1 L w) (hK:K):CFl (ctx σr La' w') (ctx (B2 σ1 (B3 d gs σr++U8 (B3 d gs σr) es)) (Zat d L σr La') w') where
  own b hlt hO:=by
    show G7 σr La' b∨La'.F b
    have hF:La'.F=(Zal σ L es ss).F:=hb.callee.lf
    rcases hO with hO|hO
    · rcases hb.own2 hO with h2|⟨t,e,o,hn,h2,h3,h4,h5⟩
      · exact .inl h2
      · refine .inr ?_
        rw [hF]
        refine ⟨.inl (hb.sim.own ⟨t,e,o,h2,h3,h4,h5⟩),hb.apartE h1.store h2 h3 h5 hn,?_⟩
        rintro ⟨s,hs1,o2,hs2⟩
        obtain ⟨e',he',ha'⟩:=hb.hand.seen s hs1
        obtain ⟨e'',g1,g2,_⟩:=hb.sim.back h2
        have:=hb.store.apart s t e' e'' b o2 o he' ha' g1 (g2.trans h3) hs2 h5
        subst this
        rw [hb.quiet hK s hs1 e h2] at h4;cases h4
    · refine .inr ?_
      rw [hF]
      have hOF:L.F b:=hO
      refine ⟨.inr hOF,fun hi=>h1.notF (hb.inE1 hi) hOF,?_⟩
      rintro ⟨s,hs1,o2,hs2⟩
      obtain ⟨e',he',ha'⟩:=hb.hand.seen s hs1
      rcases hb.sim s with q|⟨e2,q1,q2⟩
      · exact h1.notF ⟨s,e',o2,q.trans he',ha',hs2⟩ hOF
      · rw [he'] at q1;cases q1
        exact h1.notF ⟨s,_,o2,q2,ha',hs2⟩ hOF
  block _ _ _:=rfl
  room _ _ h:=h
  size:=Ydt _
theorem Back.storeOK (hb:Back E d σ σ1 L w es ss σr La' w' gs K) (h1:Rel E w0 O0 σ0 L0 σ1 L w) (hk:K∨X2 (B3 d gs σr)=false):StoreOK (B2 σ1 (B3 d gs σr++U8 (B3 d gs σr) es)) (Zat d L σr La') w' where
  ent t e2 he ha:=by
    rcases hb.cases t with ⟨s,e,g',k1,k2,k3⟩|⟨e,k1,k2⟩|⟨k1,k2,k3⟩
    · rw [k3] at he
      cases he
      obtain ⟨t1,g1,m1,m2,_⟩:=hb.name k1
      rw [k2] at m1
      cases m1
      have h2:=hb.callee.store.ent s e (Zad hb.tidy k1).1 ha
      unfold S1 at h2 ⊢
      rw [show (ctx (B2 σ1 (B3 d gs σr++U8 (B3 d gs σr) es)) (Zat d L σr La') w').L t=(ctx σr La' w').L s from m2]
      cases hl:(ctx σr La' w').L s with
      | none=>rw [hl] at h2;exact ⟨by rw [show ({ e with g:=g',cells:=rens (F7 d gs) e.cells }:Ent).cells=rens (F7 d gs) e.cells from rfl,h2.1];rfl,h2.2⟩
      | some p =>
        rw [hl] at h2
        obtain ⟨b,o'⟩:=p
        simp only at h2 ⊢
        have hkl:K∨leadss e.cells=false:=hk.imp id fun hk=>leadss_ren _ (Zlb hk (X7 k1 k2))
        rcases h2 with h2|⟨h3,h2⟩
        · exact .inl ⟨by rw [Zdc];exact h2.1,Zia (K:=K) (hb.fl h1) hb.names (fun _ _ h=>h) (fun _=>rfl) hkl h2.2⟩
        · exact .inr ⟨h3,h2.ren (K:=K) (hb.fl h1) hb.names (fun _ _ h=>h) rfl hkl rfl⟩
    · rw [k2] at he;cases he;cases ha
    · rw [k3] at he
      have h2:=h1.store.ent t e2 he ha
      unfold S1 at h2 ⊢
      rw [show (ctx (B2 σ1 (B3 d gs σr++U8 (B3 d gs σr) es)) (Zat d L σr La') w').L t=(ctx σ1 L w).L t from hb.kept k2]
      cases hl:(ctx σ1 L w).L t with
      | none=>rw [hl] at h2;exact h2
      | some p =>
        rw [hl] at h2
        obtain ⟨b,o'⟩:=p
        simp only at h2 ⊢
        have hblk:w'.heap[b]? = w.heap[b]? := by
          refine hb.callee.keep.block b (h1.store.lt he ha hl) fun hO=>?_
          obtain ⟨s,e3,o3,q1,_,q3⟩:=hb.hand.own hO
          exact hb.apartE h1.store he ha hl k1 ⟨s,e3,o3,q1,q3⟩
        rcases h2.symm with ⟨h3,h2⟩|h2
        · exact .inr ⟨h3,h2.to hb.le hblk⟩
        refine .inl ⟨?_,VRC_le hb.le b (fun i=>by simp only [World.cell?];rw [show (ctx (B2 σ1 (B3 d gs σr++U8 (B3 d gs σr) es)) (Zat d L σr La') w').w=w' from rfl,hblk];rfl) o' _ h2.2⟩
        obtain ⟨cs,el,fr,f1,f2,f3⟩:=h2.1
        exact ⟨cs,el,fr,hblk.trans f1,f2,f3⟩
  apart t t' e1 e2 b o1 o2 he1 a1 he2 a2 l1 l2:=by
    have key:∀ {s:Site} {e:Ent} {t t':Site} {g':Nat} {e2:Ent} {b o1 o2:Nat},(s,e) ∈ σr→F7 d gs s e.g=some (t,g')→(Zat d L σr La') t=some (b,o1) →
        A6 σ1 t'=some e2→e2.alive=true→L t'=some (b,o2)→A6 es t'=none→False:=by
      intro s e t t' g' e2 b o1 o2 k1 k2 l1 q1 q2 q3 q4
      obtain ⟨t1,g1,m1,m2,_⟩:=hb.name k1
      rw [k2] at m1
      cases m1
      have hin:inS σr La' b:=⟨s,e,o1,(Zad hb.tidy k1).1,(Zad hb.tidy k1).2.1,by rw [←m2];exact l1⟩
      rcases hb.callee.src b hin with h2|h2
      · exact hb.apartE h1.store q1 q2 q3 q4 (Hand.inS h2)
      · have:=h1.store.lt q1 q2 q3
        omega
    rcases hb.cases t with ⟨s,e,g',k1,k2,k3⟩|⟨e,k1,k2⟩|⟨k1,k2,k3⟩
    · rcases hb.cases t' with ⟨s',e',g'',r1,r2,r3⟩|⟨e',r1,r2⟩|⟨r1,r2,r3⟩
      · obtain ⟨t1,g1,m1,m2,_⟩:=hb.name k1
        obtain ⟨t2,g2,n1,n2,_⟩:=hb.name r1
        rw [k2] at m1;cases m1
        rw [r2] at n1;cases n1
        obtain ⟨p1,p2,_⟩:=Zad hb.tidy k1
        obtain ⟨p3,p4,_⟩:=Zad hb.tidy r1
        have:=hb.callee.store.apart s s' e e' b o1 o2 p1 p2 p3 p4 (by rw [←m2];exact l1) (by rw [←n2];exact l2)
        subst this
        rw [p1] at p3;cases p3
        rw [k2] at r2;cases r2
        rfl
      · rw [r2] at he2;cases he2;cases a2
      · rw [r3] at he2
        rw [hb.kept r2] at l2
        exact (key k1 k2 l1 he2 a2 l2 r1).elim
    · rw [k2] at he1;cases he1;cases a1
    · rw [k3] at he1
      rw [hb.kept k2] at l1
      rcases hb.cases t' with ⟨s',e',g'',r1,r2,r3⟩|⟨e',r1,r2⟩|⟨r1,r2,r3⟩
      · exact (key r1 r2 l2 he1 a1 l1 k1).elim
      · rw [r2] at he2;cases he2;cases a2
      · rw [r3] at he2
        rw [hb.kept r2] at l2
        exact h1.store.apart t t' e1 e2 b o1 o2 he1 a1 he2 a2 l1 l2
theorem Back.rel (hb:Back E d σ σ1 L w es ss σr La' w' gs K) (h1:Rel E w0 O0 σ0 L0 σ1 L w) (hk:K∨X2 (B3 d gs σr)=false) :
    Rel E w0 O0 σ0 L0 (B2 σ1 (B3 d gs σr++U8 (B3 d gs σr) es)) (Zat d L σr La') w':=by
  refine h1.step (hb.storeOK h1 hk) hb.le hb.keep (fun b h=>hb.ownB h) ?_ ?_ rfl
  · intro x e2 he ha
    rcases hb.cases (.up x) with ⟨s,e,g',k1,k2,k3⟩|⟨e,k1,k2⟩|⟨k1,k2,k3⟩
    · rw [k3] at he
      cases he
      obtain ⟨t1,g1,m1,m2,m3⟩:=hb.name k1
      rw [k2] at m1
      cases m1
      rcases m3 with ⟨y,e0,rfl,hy,rfl,q1,q2,q3⟩|⟨k,rfl,hy,_⟩
      · subst hy
        obtain ⟨p1,p2⟩:=hb.es1 q1
        exact ⟨e0,p1,p2,q2,rfl⟩
      · cases hy
    · rw [k2] at he;cases he;cases ha
    · rw [k3] at he
      exact ⟨e2,he,ha,rfl,rfl⟩
  · intro b hi
    rcases hb.in2 hi with h2|h2
    · rcases hb.callee.src b h2 with h3|h3
      · exact .inl (hb.inE1 (Hand.inS h3))
      · exact .inr h3
    · exact .inl h2
end
end Cod
namespace Cod
open Go
variable {E:Env} {w0:World} {O0:Nat→Prop} {σ0:A3} {L0:Lay} {P:Program} {σ:A3} {L:Lay} {w:World} {o:Oper} {a:Act}
def Zhc (P:Program) (f:FuncId) (args:Array Value) (w:World) (R:Value→World→Prop):Prop :=
  ∀ (o:Oper) (a:Act) (next:Act→World→Prop) (Q:Exit→Act→World→Prop),(∀ y w',R y w'→next (a.put o.dst y) w')→o.upon P a next Q ((callFunc f args).run P w)
def Zee (P:Program) (E:Env) (call:J2):Prop :=
  ∀ (f:Nat) (args:List AV) (σa:A3) (v:AV) (σr:A3),call f args σa=some (v,σr)→∀ (La:Lay) (w:World) (vs:List Value),Rel E w (G7 σa La) σa La σa La w→VRL (ctx σa La w) args vs →
    (∀ s e,A6 σa s=some e→∃ x,s=.up x)→Zhc P f vs.toArray w (fun y w'=>∃ La',Rel E w (G7 σa La) σa La σr La' w'∧VR (ctx σr La' w') v y)
theorem Zsl {es:List (Site × Ent)}:∀ {ss:List Site},Zhs es ss=false→∀ s∈ss,A6 es s=none:=by
  intro ss
  induction ss with
  | nil=>intro _ s h;simp at h
  | cons t ss ih =>
    intro h s hs
    simp only [Zhs,Yew] at h
    rcases List.mem_cons.1 hs with rfl|hs
    · simpa using h.1
    · exact ih h.2 s hs
theorem Z9z (h:Rel E w0 O0 σ0 L0 σ L w) {call:J2} (hcall:Zee P E call) {c:Call} {f:Operand} {take:List Nat} {d:Nat} {args:List AV} {vf:AV} (ho:o.op=.call c) (hc:c.callee=.value f)
    (hf:VR (ctx σ L w) vf (a.eval f)) (hargs:VRL (ctx σ L w) args (c.args.toList.map a.eval)) {r:AV × Ups} (hr:(Zeq call d take args vf).run σ=some r):J7 E w0 O0 σ0 L0 P σ L w o a r.1 r.2:=by
  cases vf<;>try exact A9 hr
  rename_i fn cap
  simp only [Zeq,Z4] at hr
  simp only [VR] at hf
  obtain ⟨vs,hfe,hcap⟩:=hf
  obtain ⟨⟨args',rs,ss⟩,h1,h2⟩:=F5 hr
  simp only at h2
  obtain ⟨es,h3,h4⟩:=F5 h2
  have hall:=S4 hargs hcap
  cases hcl:call fn (rens (V2 es) args') (K0 es es) with
  | none=>rw [hcl] at h4;exact A9 h4
  | some p =>
    obtain ⟨v,σr⟩:=p
    rw [hcl] at h4
    simp only [Zv6] at h4
    cases ht:(tidy σr && !(Zhs es ss)) with
    | false=>rw [ht] at h4;exact A9 h4
    | true =>
      rw [ht] at h4
      simp only [cond_true] at h4
      simp only [Yd8,Ye0] at ht
      obtain ⟨gs,h5,h6⟩:=F5 h4
      cases hd:R5 (B3 d gs σr) with
      | false=>rw [hd] at h6;exact A9 h6
      | true =>
        rw [hd] at h6
        simp only [cond_true] at h6
        have hg:=Zx3 h3
        have hh:Hand σ es ss:=⟨fun s e he=>hg s e (Zdd he),Zk8 h1,Zsl ht.2⟩
        have hstart:=hh.start h
        have hpass:=Zsk h.store hh take h1 (fun s hs=>hs) hall
        have hup:∀ s e,A6 (K0 es es) s=some e→∃ x,s=.up x:=by
          intro s e he
          rw [Zcc] at he
          cases s with
          | up x=>exact ⟨x,rfl⟩
          | s n k=>simp at he
          | r k=>simp at he
        have hfn:=hcall _ _ _ _ _ hcl _ _ _ hstart hpass hup
        -- behind the call
        have hfin:∀ y w',(∃ La',Rel E w (G7 (K0 es es) (Zal σ L es ss)) (K0 es es) (Zal σ L es ss) σr La' w'∧VR (ctx σr La' w') v y) →
            ∃ L',Rel E w0 O0 σ0 L0 (B2 σ r.2) L' w'∧CLe (ctx σ L w) (ctx (B2 σ r.2) L' w')∧VR (ctx (B2 σ r.2) L' w') r.1 y:=by
          rintro y w' ⟨La',q1,q2⟩
          simp only [Zv5] at h6
          cases hk:(O1 (ren (F7 d gs) v)||X2 (B3 d gs σr)) with
          | true =>
            rw [hk] at h6
            simp only [cond_true] at h6
            obtain ⟨u,h7,h8⟩:=F5 h6
            have k:=A7 h8
            subst k
            obtain ⟨s1,s2,s3,s4,_,s6⟩:=Zo6 h7 (Sim.refl σ) h
            have hb:Back E d σ (B2 σ u) L w es ss σr La' w' gs True:=⟨hh,fun s e hm=>(hg s e hm).1,s3,s6,fun _=>s4,ht.1,h5,hd,q1,h.store⟩
            refine ⟨Zat d L σr La',?_,?_,?_⟩
            · show Rel _ _ _ _ _ (B2 σ (u++_)) _ _
              rw [C4]
              exact hb.rel s1 (.inl trivial)
            · show CLe _ (ctx (B2 σ (u++_)) _ _)
              rw [C4]
              exact s2.trans hb.le
            · show VR (ctx (B2 σ (u++_)) _ _) _ _
              rw [C4]
              exact Zed (K:=True) (hb.fl s1) hb.names (fun _ _ h=>h) v y (.inl trivial) q2
          | false =>
            rw [hk] at h6
            have k:=A7 h6
            subst k
            simp only [Yew] at hk
            have hb:Back E d σ σ L w es ss σr La' w' gs False:=⟨hh,fun s e hm=>(hg s e hm).1,Sim.refl σ,fun _ _=>rfl,fun h=>h.elim,ht.1,h5,hd,q1,h.store⟩
            exact ⟨Zat d L σr La',hb.rel h (.inr hk.2),hb.le,Zed (K:=False) (hb.fl h) hb.names (fun _ _ h=>h) v y (.inr (Zf7 _ hk.1)) q2⟩
        intro next Q hn
        have hrun:(execOp a.eval o).run P w=(callFunc fn (c.args.toList.map a.eval++vs.toList).toArray).run P w:=by
          have e1:(c.args.toList.map a.eval++vs.toList).toArray=c.args.map a.eval++vs:=by
            apply Array.ext';simp
          rw [e1]
          simp [execOp,ho,resolve,hc,hfe,Deferred.ofValue,invoke]
        unfold Oper.wp
        rw [hrun]
        refine hfn o a next Q fun y w' hR=>?_
        obtain ⟨L',k1,k2,k3⟩:=hfin y w' hR
        exact hn y w' L' k1 k2 k3
end Cod
namespace Cod
open Go
variable {E:Env} {w0:World} {O0:Nat→Prop} {σ0:A3} {L0:Lay} {P:Program} {σ:A3} {L:Lay} {w:World} {o:Oper} {a:Act}
theorem Fr.put {c c':Ctx} {sl loc:List (Nat × AV)} {N:Nat} (hf:Fr c (M2 sl loc) N a) (hc:CLe c c') {dst:Option Nat} {v:AV} {y:Value} (hv:VR c' v y) (hd:∀ d,dst=some d→d<N) {st:A3} {u:Ups} :
    Fr c' (M2 sl (Y7 ⟨loc,st⟩ dst v u).loc) N (a.put dst y):=by
  cases dst with
  | none=>exact ⟨fun t=>V8 hc _ _ (hf.slots t),hf.defers,hf.size⟩
  | some d =>
    refine ⟨fun t=>?_,hf.defers,by simp [Act.put,hf.size]⟩
    simp only [Y7,M2,Act.put]
    by_cases ht:d=t
    · subst ht
      rw [if_pos rfl]
      have:d<a.tmps.size:=by rw [hf.size];exact hd d rfl
      simpa [this] using hv
    · rw [if_neg ht]
      have:=V8 hc _ _ (hf.slots t)
      rw [Array.getD_eq_getD_getElem?] at this ⊢
      rw [Array.getElem?_setIfInBounds_ne ht]
      exact this
theorem Zpb (h:Rel E w0 O0 σ0 L0 σ L w) {call:J2} (hcall:Zee P E call) {sl loc:List (Nat × AV)} {N:Nat} (hfr:Fr (ctx σ L w) (M2 sl loc) N a) {A:Ann} {lop:LOp} {ops:Array Oper} {i:Nat} (hi:ops[i]? = some o)
    (hl:Zjl P A o=some lop) {g:Option (Nat × Bool)} (hg:Zby ops o.guard=some g) (hd:∀ d,o.dst=some d→d<N) {r:RS} (hr:opR E call sl ⟨o.dst,lop,g⟩ ⟨loc,σ⟩=some r)
    {K:Act→World→Prop} {Q:Exit→Act→World→Prop}
    (hK:∀ a' w' L',Rel E w0 O0 σ0 L0 r.st L' w'→CLe (ctx σ L w) (ctx r.st L' w')→Fr (ctx r.st L' w') (M2 sl r.loc) N a'→K a' w'):wpOp P ops Q i K a w:=by
  unfold wpOp
  rw [hi]
  simp only
  have hgo:∀ {x:AV × Ups},(step call (evR E sl loc) (R0 o.dst) lop).run σ=some x→r=Y7 ⟨loc,σ⟩ o.dst x.1 x.2→o.wp P a w K Q:=by
    intro x hx hrx
    refine Z9y h hfr hl (fun c f lf las take ho hc hf hargs rr hrr=>?_) hx K Q (fun y w' L' k1 k2 k3=>?_)
    · exact Z9z h hcall ho hc (Zwl hfr (fun n=>(h.glob n).1) hf) (Z2p hfr (fun n=>(h.glob n).1) hargs) hrr
    · subst hrx
      have hst:(Y7 ⟨loc,σ⟩ o.dst x.1 x.2).st=B2 σ x.2:=by cases o.dst<;>rfl
      refine hK _ w' L' (by rw [hst];exact k1) (by rw [hst];exact k2) ?_
      rw [hst]
      exact hfr.put k2 k3 hd
  have hskip:r=Y7 ⟨loc,σ⟩ o.dst .und []→K (a.put o.dst undef) w:=by
    intro hrx
    subst hrx
    have hst:(Y7 ⟨loc,σ⟩ o.dst .und []).st = σ:=by cases o.dst<;>rfl
    refine hK _ w L (by rw [hst];exact h) (by rw [hst];exact CLe.refl _) ?_
    rw [hst]
    exact hfr.put (CLe.refl _) (by simp [VR]) hd
  unfold opR at hr
  cases hgd:o.guard with
  | none =>
    rw [hgd] at hg
    simp only [Zby,Option.some.injEq] at hg
    subst hg
    try simp only at hr
    have hw:Region.wanted o (yielded ops a.tmps)=true:=by simp [Region.wanted,hgd]
    rw [if_pos hw]
    split at hr
    · rename_i v u hx;cases hr;exact .inl (hgo hx rfl)
    · cases hr
  | some jw =>
    obtain ⟨j,want⟩:=jw
    rw [hgd] at hg
    simp only [Zby] at hg
    cases hj:(ops[j]?).bind (·.dst) with
    | none=>rw [hj] at hg;cases hg
    | some d =>
      rw [hj] at hg
      simp only [Option.some.injEq] at hg
      subst hg
      try simp only at hr
      have hs:=hfr.slots d
      have hev:evR E sl loc (.t d)=M2 sl loc d:=rfl
      rw [hev] at hr
      cases hv:M2 sl loc d<;>rw [hv] at hr hs<;>try (simp only at hr;cases hr;done)
      case bool b =>
        simp only [VR] at hs
        have hy:yielded ops a.tmps j=some b:=by
          simp only [yielded,hj,Ydq]
          rw [Array.getD_eq_getD_getElem?] at hs
          cases ht:a.tmps[d]? with
          | none=>rw [ht] at hs;cases hs
          | some x=>rw [ht] at hs;simp only [Ye1] at hs;subst hs;rfl
        cases hbw:(b==want) with
        | true =>
          simp only [hbw,cond_true] at hr
          have hw:Region.wanted o (yielded ops a.tmps)=true:=by
            simp only [beq_iff_eq] at hbw
            simp [Region.wanted,hgd,hy,hbw]
          rw [if_pos hw]
          split at hr
          · rename_i v u hx;cases hr;exact .inl (hgo hx rfl)
          · cases hr
        | false =>
          simp only [hbw,cond_false,Option.some.injEq] at hr
          have hw:¬ (Region.wanted o (yielded ops a.tmps)=true):=by
            simp only [beq_eq_false_iff_ne] at hbw
            simp [Region.wanted,hgd,hy,hbw]
          rw [if_neg hw]
          exact hskip hr.symm
      case und =>
        simp only [Option.some.injEq] at hr
        simp only [VR] at hs
        have hy:yielded ops a.tmps j=none:=by
          simp only [yielded,hj,Ydq]
          rw [Array.getD_eq_getD_getElem?] at hs
          cases ht:a.tmps[d]? with
          | none=>rfl
          | some x=>rw [ht] at hs;simp only [Ye1] at hs;subst hs;rfl
        have hw:¬ (Region.wanted o (yielded ops a.tmps)=true):=by simp [Region.wanted,hgd,hy]
        rw [if_neg hw]
        exact hskip hr.symm
end Cod
namespace Cod
open Go
variable {E:Env} {w0:World} {O0:Nat→Prop} {σ0:A3} {L0:Lay} {P:Program} {σ:A3} {L:Lay} {w:World} {o:Oper} {a:Act}
def dom (sl:List (Nat × AV)):List Nat:=sl.map (·.1)
theorem Zx4:∀ {sl:List (Nat × AV)} {t:Nat},t∉dom sl→Q5 sl t=.junk:=by
  intro sl
  induction sl with
  | nil=>intro t _;rfl
  | cons p sl ih =>
    intro t h
    obtain ⟨k,v⟩:=p
    simp only [dom,Yed,Ye2,not_or] at h
    simp only [Q5]
    rw [if_neg (Ne.symm h.1)]
    exact ih h.2
theorem Zx5:∀ {sl:List (Nat × AV)} {s t:Nat} {v:AV},Q5 (Zg9 sl s v) t=if s=t then v else Q5 sl t:=by
  intro sl
  induction sl with
  | nil=>intro s t v;simp [Zg9,Q5]
  | cons p sl ih =>
    intro s t v
    obtain ⟨k,u⟩:=p
    simp only [Zg9]
    by_cases hk:k=s
    · subst hk
      simp only [if_pos,Q5]
      by_cases ht:k=t<;>simp [ht]
    · simp only [if_neg hk,Q5,ih]
      by_cases ht:k=t
      · subst ht;simp [Ne.symm hk]
      · simp [ht]
theorem Z3b:∀ {sl:List (Nat × AV)} {s:Nat} {v:AV} {t:Nat},t∈dom (Zg9 sl s v)→t=s∨t∈dom sl:=by
  intro sl
  induction sl with
  | nil=>intro s v t h;simp only [Zg9,dom,Yed,List.map_nil,Yeb] at h;exact .inl h
  | cons p sl ih =>
    intro s v t h
    obtain ⟨k,u⟩:=p
    simp only [Zg9] at h
    split at h
    · rename_i hk
      simp only [dom,Yed,Ye2] at h
      rcases h with h|h
      · exact .inl h
      · exact .inr (Yex _ h)
    · simp only [dom,Yed,Ye2] at h
      rcases h with h|h
      · exact .inr (by simp [dom,h])
      · rcases ih h with h|h
        · exact .inl h
        · exact .inr (Yex _ h)
theorem Zsm {loc sl0:List (Nat × AV)}:∀ {ks:List Nat} {sl:List (Nat × AV)} {t:Nat},Q5 (Y8 loc sl0 ks sl) t=if t∈ks then M2 sl0 loc t else Q5 sl t:=by
  intro ks
  induction ks with
  | nil=>intro sl t;simp [Y8]
  | cons k ks ih =>
    intro sl t
    simp only [Y8]
    rw [ih,Zx5]
    by_cases h1:t∈ks
    · simp [h1]
    · by_cases h2:k=t
      · subst h2;simp [h1]
      · have h3:t∉k::ks:=by simp [h1,Ne.symm h2]
        rw [if_neg h1,if_neg h2,if_neg h3]
theorem Zx6 {loc sl0:List (Nat × AV)}:∀ {ks:List Nat} {sl:List (Nat × AV)} {t:Nat},t∈dom (Y8 loc sl0 ks sl)→t∈ks∨t∈dom sl:=by
  intro ks
  induction ks with
  | nil=>intro sl t h;exact .inr h
  | cons k ks ih =>
    intro sl t h
    simp only [Y8] at h
    rcases ih h with h|h
    · exact .inl (Yex _ h)
    · rcases Z3b h with h|h
      · exact .inl (by simp [h])
      · exact .inr h
theorem Z3c {sl:List (Nat × AV)}:∀ {loc:List (Nat × AV)} {t:Nat},t∉dom loc→M2 sl loc t=Q5 sl t:=by
  intro loc
  induction loc with
  | nil=>intro t _;rfl
  | cons p loc ih =>
    intro t h
    obtain ⟨k,v⟩:=p
    simp only [dom,Yed,Ye2,not_or] at h
    simp only [M2]
    rw [if_neg (Ne.symm h.1)]
    exact ih h.2
theorem Ze8 {r:RS} {d:Option Nat} {v:AV} {u:Ups} {t:Nat} (h:t∈dom (Y7 r d v u).loc):d=some t∨t∈dom r.loc:=by
  cases d with
  | none=>exact .inr h
  | some d =>
    simp only [Y7,dom,Yed,Ye2] at h
    rcases h with h|h
    · exact .inl (by rw [h])
    · exact .inr h
theorem Z90 {call:J2} {sl:List (Nat × AV)} {lo:LOper} {r r':RS} (h:opR E call sl lo r=some r') {t:Nat} (ht:t∈dom r'.loc):lo.dst=some t∨t∈dom r.loc:=by
  unfold opR at h
  split at h
  · split at h
    · cases h;exact Ze8 ht
    · cases h
  · split at h
    · rename_i b _
      cases hb:(b==_)<;>rw [hb] at h
      · simp only [cond_false,Option.some.injEq] at h;subst h;exact Ze8 ht
      · simp only [cond_true] at h
        split at h
        · cases h;exact Ze8 ht
        · cases h
    · cases h;exact Ze8 ht
    · cases h
theorem Z3d {call:J2} {sl:List (Nat × AV)}:∀ {los:List LOper} {r r':RS},L9 E call sl los r=some r'→∀ {t:Nat},t∈dom r'.loc→(∃ lo∈los,lo.dst=some t)∨t∈dom r.loc:=by
  intro los
  induction los with
  | nil=>intro r r' h t ht;simp only [L9,Option.some.injEq] at h;subst h;exact .inr ht
  | cons lo los ih =>
    intro r r' h t ht
    simp only [L9] at h
    split at h
    · rename_i r1 h1
      rcases ih h ht with ⟨l,h2,h3⟩|h2
      · exact .inl ⟨l,Yex _ h2,h3⟩
      · rcases Z90 h1 h2 with h3|h3
        · exact .inl ⟨lo,by simp,h3⟩
        · exact .inr h3
    · cases h
theorem Zlc {A:Ann} {ops:Array Oper}:∀ {os:List Oper} {los:List LOper},R6 P A ops os=some los→∀ lo∈los,∃ o∈os,lo.dst=o.dst:=by
  intro os
  induction os with
  | nil=>intro los h lo hlo;simp only [R6,Option.some.injEq] at h;subst h;simp at hlo
  | cons o os ih =>
    intro los h lo hlo
    simp only [R6] at h
    split at h
    · rename_i p g r h1 h2 h3
      cases h
      rcases List.mem_cons.1 hlo with rfl|hlo
      · exact ⟨o,by simp,rfl⟩
      · obtain ⟨o',h4,h5⟩:=ih h3 lo hlo
        exact ⟨o',Yex _ h4,h5⟩
    · cases h
structure Fx (A:Ann) (c:Ctx) (sl:List (Nat × AV)) (N:Nat) (a:Act):Prop where
  fr:Fr c (Q5 sl) N a
  cross:∀ t∈dom sl,t∈A.cross
theorem Fx.region {A:Ann} {c:Ctx} {sl:List (Nat × AV)} {N:Nat} (hx:∀ t∈dom sl,t∈A.cross) {loc:List (Nat × AV)} (hf:Fr c (M2 sl loc) N a) {ops:List Oper} {keep:List Nat} (hk:Zhz A N ops keep=true)
    (hd:∀ t∈dom loc,∃ o∈ops,o.dst=some t):Fx A c (Y8 loc sl keep sl) N a:=by
  simp only [Zhz,Yd8,List.all_eq_true] at hk
  obtain ⟨hk1,hk2⟩:=hk
  refine ⟨⟨fun t=>?_,hf.defers,hf.size⟩,fun t ht=>?_⟩
  · rw [Zsm]
    split
    · exact hf.slots t
    · rename_i hnk
      by_cases hts:t∈dom sl
      · have hcross:=hx t hts
        have hnl:t∉dom loc:=by
          intro hl
          obtain ⟨o,ho,hod⟩:=hd t hl
          have:=hk1 o ho
          rw [hod] at this
          simp only [Yd8,Yev,Ye0,List.contains_eq_mem,decide_eq_false_iff_not,decide_eq_true_eq] at this
          rcases this.2 with h|h
          · exact h hcross
          · exact hnk h
        rw [←Z3c hnl]
        exact hf.slots t
      · rw [Zx4 hts];simp [VR]
  · rcases Zx6 ht with h|h
    · have:=hk2 t h
      simpa using this
    · exact hx t h
theorem Zx7 {call:J2} (hcall:Zee P E call) {sl:List (Nat × AV)} {N:Nat} {A:Ann} {ops:Array Oper} {Q:Exit→Act→World→Prop} (hd:∀ o∈ops.toList,∀ d,o.dst=some d→d<N) :
    ∀ {os:List Oper} {k:Nat} {los:List LOper} {loc:List (Nat × AV)} {σ:A3} {L:Lay} {w:World} {a:Act} {r:RS},os=ops.toList.drop k→R6 P A ops os=some los→Rel E w0 O0 σ0 L0 σ L w→Fr (ctx σ L w) (M2 sl loc) N a →
      L9 E call sl los ⟨loc,σ⟩=some r→(∀ a' w' L',Rel E w0 O0 σ0 L0 r.st L' w'→CLe (ctx σ L w) (ctx r.st L' w')→Fr (ctx r.st L' w') (M2 sl r.loc) N a'→Q .normal a' w')→wpOps P ops Q (List.range' k os.length) a w:=by
  intro os
  induction os with
  | nil =>
    intro k los loc σ L w a r _ hl h hf hr hQ
    simp only [R6,Option.some.injEq] at hl
    subst hl
    simp only [L9,Option.some.injEq] at hr
    subst hr
    exact hQ a w L h (CLe.refl _) hf
  | cons o os ih =>
    intro k los loc σ L w a r hk hl h hf hr hQ
    have hki:ops[k]? = some o:=by
      have:=congrArg (fun l=>l[0]?) hk
      simp only [List.getElem?_cons_zero,List.getElem?_drop,Nat.add_zero] at this
      rw [←Array.getElem?_toList];exact this.symm
    have hos:os=ops.toList.drop (k+1):=by
      have:=congrArg List.tail hk
      simpa using this
    simp only [R6] at hl
    split at hl
    · rename_i p g los' h1 h2 h3
      cases hl
      simp only [L9] at hr
      split at hr
      · rename_i r1 hr1
        rw [List.length_cons,List.range'_succ,wpOps_cons]
        refine Zpb h hcall hf hki h1 h2 (hd o (by rw [←Array.getElem?_toList] at hki;exact List.mem_of_getElem? hki)) hr1 (fun a' w' L' k1 k2 k3=>?_)
        obtain ⟨loc1,st1⟩:=r1
        exact ih hos h3 k1 k3 hr (fun a2 w2 L2 m1 m2 m3=>hQ a2 w2 L2 m1 (k2.trans m2) m3)
      · cases hr
    · cases hl
end Cod
namespace Cod
open Go
variable {E:Env} {w0:World} {O0:Nat→Prop} {σ0:A3} {L0:Lay} {P:Program} {σ:A3} {L:Lay} {w:World} {o:Oper} {a:Act}
structure RenStore (σ σ':A3) (f:Zak):Prop where
  fwd:∀ t e',A6 σ' t=some e'→∃ s e g',A6 σ s=some e∧e.alive=true∧f s e.g=some (t,g')∧e' = { e with g:=g',cells:=rens f e.cells }
  bwd:∀ s g t g',f s g=some (t,g')→∃ e,A6 σ s=some e∧e.alive=true∧e.g=g∧A6 σ' t=some { e with g:=g',cells:=rens f e.cells }
  inj:∀ s1 s2 g1 g2 t h1 h2,f s1 g1=some (t,h1)→f s2 g2=some (t,h2)→s1=s2
  up:∀ s g x g',f s g=some (.up x,g')→s=.up x∧g'=g
open Classical in
noncomputable def Zi4 (L:Lay) (f:Zak):Lay :=
  ⟨fun t=>if h:∃ s g g',f s g=some (t,g') then L (Classical.choose h) else none,L.F⟩
section
variable {σ':A3} {f:Zak}
open Classical in
theorem RenStore.lay (hr:RenStore σ σ' f) {s:Site} {g:Nat} {t:Site} {g':Nat} (h:f s g=some (t,g')):(Zi4 L f) t=L s:=by
  have hex:∃ s g g',f s g=some (t,g'):=⟨s,g,g',h⟩
  have:(Zi4 L f) t=L (Classical.choose hex):=by
    show dite _ _ _=_
    rw [dif_pos hex]
  rw [this]
  obtain ⟨g1,g1',h1⟩:=Classical.choose_spec hex
  rw [hr.inj _ _ _ _ _ _ _ h1 h]
theorem RenStore.own (hr:RenStore σ σ' f) {b:Nat} (h:G7 σ' (Zi4 L f) b):G7 σ L b:=by
  obtain ⟨t,e',o,h1,h2,h3,h4⟩:=h
  obtain ⟨s,e,g',k1,k2,k3,rfl⟩:=hr.fwd t e' h1
  rw [hr.lay k3] at h4
  exact ⟨s,e,o,k1,k2,h3,h4⟩
theorem RenStore.in (hr:RenStore σ σ' f) {b:Nat} (h:inS σ' (Zi4 L f) b):inS σ L b:=by
  obtain ⟨t,e',o,h1,h2,h4⟩:=h
  obtain ⟨s,e,g',k1,k2,k3,rfl⟩:=hr.fwd t e' h1
  rw [hr.lay k3] at h4
  exact ⟨s,e,o,k1,k2,h4⟩
theorem RenStore.fl (hr:RenStore σ σ' f):CFl (ctx σ L w) (ctx σ' (Zi4 L f) w) :=
  ⟨fun _ _ hO=>hO.imp hr.own id,fun _ _ _=>rfl,fun _ _ h=>h,Ydt _⟩
theorem RenStore.names (hr:RenStore σ σ' f):RN (ctx σ L w) (ctx σ' (Zi4 L f) w) f:=by
  intro s g t g' hf g0 al hT hg
  obtain ⟨e,h1,h2,rfl,h4⟩:=hr.bwd s g t g' hf
  have hT':(A6 σ s).map (fun e=>(e.g,e.alive))=some (g0,al):=hT
  rw [h1] at hT'
  simp only [Ydy,Option.some.injEq,Prod.mk.injEq] at hT'
  obtain ⟨rfl,rfl⟩:=hT'
  refine ⟨g',e.alive,?_,Ydt _,fun ha _=>⟨ha,rfl,hr.lay hf⟩⟩
  show (A6 σ' t).map _=_
  rw [h4];rfl
theorem RenStore.rel (hr:RenStore σ σ' f) (h:Rel E w0 O0 σ0 L0 σ L w):Rel E w0 O0 σ0 L0 σ' (Zi4 L f) w where
  store :=
    { ent:=by
        intro t e' he ha
        obtain ⟨s,e,g',k1,k2,k3,rfl⟩:=hr.fwd t e' he
        have h2:=h.store.ent s e k1 k2
        unfold S1 at h2 ⊢
        rw [show (ctx σ' (Zi4 L f) w).L t=(ctx σ L w).L s from hr.lay k3]
        cases hl:(ctx σ L w).L s with
        | none=>rw [hl] at h2;exact ⟨by rw [show ({ e with g:=g',cells:=rens f e.cells }:Ent).cells=rens f e.cells from rfl,h2.1];rfl,h2.2⟩
        | some p =>
          rw [hl] at h2
          obtain ⟨b,o'⟩:=p
          simp only at h2 ⊢
          rcases h2 with h2|⟨h3,h2⟩
          · exact .inl ⟨by rw [Zdc];exact h2.1,Zia (K:=True) (fun _=>hr.fl) hr.names (fun _ _ h=>h) (fun _=>rfl) (.inl trivial) h2.2⟩
          · exact .inr ⟨h3,h2.ren (K:=True) (fun _=>hr.fl) hr.names (fun _ _ h=>h) rfl (.inl trivial) rfl⟩
      apart:=by
        intro t t' e1 e2 b o1 o2 h1 a1 h2 a2 l1 l2
        obtain ⟨s,e,g',k1,k2,k3,rfl⟩:=hr.fwd t e1 h1
        obtain ⟨s',e',g'',m1,m2,m3,rfl⟩:=hr.fwd t' e2 h2
        rw [hr.lay k3] at l1
        rw [hr.lay m3] at l2
        have:=h.store.apart s s' e e' b o1 o2 k1 k2 m1 m2 l1 l2
        subst this
        rw [k1] at m1
        cases m1
        rw [k3] at m3
        cases m3
        rfl }
  keep:=h.keep
  own b hb:=h.own b (hr.own hb)
  glob n:=⟨Zwt hr.fl (h.glob n).1,(h.glob n).2⟩
  ups x e' he ha:=by
    obtain ⟨s,e,g',k1,k2,k3,rfl⟩:=hr.fwd _ e' he
    obtain ⟨rfl,rfl⟩:=hr.up _ _ _ _ k3
    obtain ⟨e0,m1,m2,m3,m4⟩:=h.ups x e k1 k2
    exact ⟨e0,m1,m2,m3,(hr.lay k3).trans m4⟩
  src b hb:=h.src b (hr.in hb)
  lf:=h.lf
  f0:=h.f0
theorem RenStore.value (hr:RenStore σ σ' f) {x:AV} {v:Value} (hv:VR (ctx σ L w) x v):VR (ctx σ' (Zi4 L f) w) (ren f x) v :=
  Zed (K:=True) (fun _=>hr.fl) hr.names (fun _ _ h=>h) x v (.inl trivial) hv
theorem RenStore.values (hr:RenStore σ σ' f) {x:List AV} {v:List Value} (hv:VRL (ctx σ L w) x v):VRL (ctx σ' (Zi4 L f) w) (rens f x) v :=
  rens_VRL (K:=True) (fun _=>hr.fl) hr.names (fun _ _ h=>h) x v (.inl trivial) hv
end
structure Found (σ:A3) (acc:List (Site × Nat)):Prop where
  ok:∀ s g,(s,g)∈acc→∃ e,A6 σ s=some e∧e.alive=true∧e.g=g
  nodup:acc.Nodup
theorem Zic:∀ {n:Nat} {rs acc:List (Site × Nat)},Found σ acc→Found σ (J5 σ n rs acc):=by
  intro n
  induction n with
  | zero=>intro rs acc h;simpa [J5] using h
  | succ n ih =>
    intro rs acc h
    cases rs with
    | nil=>simpa [J5] using h
    | cons p r =>
      obtain ⟨s,g⟩:=p
      simp only [J5]
      split
      · exact ih h
      · rename_i hc
        cases he:A6 σ s with
        | none=>simpa [he] using ih h
        | some e =>
          simp only
          split
          · rename_i hg
            refine ih ⟨?_,?_⟩
            · intro s' g' hm
              rcases List.mem_append.1 hm with hm|hm
              · exact h.ok s' g' hm
              · simp only [Yeb,Prod.mk.injEq] at hm
                obtain ⟨rfl,rfl⟩:=hm
                exact ⟨e,he,hg⟩
            · rw [List.nodup_append]
              refine ⟨h.nodup,by simp,?_⟩
              intro x hx y hy
              simp only [Yeb] at hy
              subst hy
              rintro rfl
              exact hc (by simpa using hx)
          · exact ih h
theorem Zaw {base:Nat→Site}:∀ {acc:List (Site × Nat)} {j:Nat} {s:Site} {g:Nat} {t:Site} {g':Nat},K8 base j acc s g=some (t,g') →
    (s,g)∈acc∧((∃ x,s=.up x∧t=s∧g'=g)∨((∀ x,s≠.up x)∧∃ i,acc[i]? = some (s,g)∧t=base (j+i)∧g'=0)):=by
  intro acc
  induction acc with
  | nil=>intro j s g t g' h;simp [K8] at h
  | cons p r ih =>
    intro j s g t g' h
    obtain ⟨s1,g1⟩:=p
    simp only [K8] at h
    split at h
    · rename_i hc
      obtain ⟨rfl,rfl⟩:=hc
      refine ⟨by simp,?_⟩
      cases s1 with
      | up x=>simp only [Option.some.injEq,Prod.mk.injEq] at h;exact .inl ⟨x,rfl,h.1.symm,h.2.symm⟩
      | s n k=>simp only [Option.some.injEq,Prod.mk.injEq] at h;exact .inr ⟨by simp,0,rfl,h.1.symm,h.2.symm⟩
      | r k=>simp only [Option.some.injEq,Prod.mk.injEq] at h;exact .inr ⟨by simp,0,rfl,h.1.symm,h.2.symm⟩
    · obtain ⟨h1,h2⟩:=ih h
      refine ⟨Yex _ h1,?_⟩
      rcases h2 with h2|⟨h2,i,h3,h4,h5⟩
      · exact .inl h2
      · exact .inr ⟨h2,i+1,by simpa using h3,by rw [h4];congr 1;omega,h5⟩
theorem Zde {f:Zak}:∀ {acc:List (Site × Nat)} {t:Site} {x:Ent},(t,x)∈R1 σ f acc↔∃ s g e g',(s,g)∈acc∧A6 σ s=some e∧f s g=some (t,g')∧x = { e with g:=g',cells:=rens f e.cells }:=by
  intro acc
  induction acc with
  | nil=>intro t x;simp [R1]
  | cons p r ih =>
    intro t x
    obtain ⟨s,g⟩:=p
    constructor
    · intro h
      simp only [R1] at h
      split at h
      · rename_i e s' g' h1 h2
        rcases List.mem_cons.1 h with h|h
        · cases h;exact ⟨s,g,e,g',by simp,h1,h2,rfl⟩
        · obtain ⟨s1,g1,e1,g2,k1,k2⟩:=ih.1 h
          exact ⟨s1,g1,e1,g2,Yex _ k1,k2⟩
      · obtain ⟨s1,g1,e1,g2,k1,k2⟩:=ih.1 h
        exact ⟨s1,g1,e1,g2,Yex _ k1,k2⟩
    · rintro ⟨s1,g1,e1,g2,k1,k2,k3,k4⟩
      simp only [R1]
      rcases List.mem_cons.1 k1 with k1|k1
      · cases k1
        rw [k2,k3]
        simp [k4]
      · have:=ih.2 ⟨s1,g1,e1,g2,k1,k2,k3,k4⟩
        split
        · exact Yex _ this
        · exact this
theorem Zpc:∀ {σ:A3} {t:Site} {x:Ent},(t,x) ∈ σ→(∀ y,(t,y) ∈ σ→y=x)→A6 σ t=some x:=by
  intro σ
  induction σ with
  | nil=>intro t x h;simp at h
  | cons p σ ih =>
    intro t x h hu
    obtain ⟨s,e⟩:=p
    simp only [A6]
    by_cases hs:s=t
    · subst hs
      rw [if_pos rfl,hu e (by simp)]
    · rw [if_neg hs]
      rcases List.mem_cons.1 h with h|h
      · cases h;exact absurd rfl hs
      · exact ih h fun y hy=>hu y (Yex _ hy)
theorem Zgx {base:Nat→Site} (hinj:∀ i j,base i=base j→i=j) (hup:∀ i x,base i≠.up x) {acc:List (Site × Nat)} (hf:Found σ acc):RenStore σ (R1 σ (K8 base 0 acc) acc) (K8 base 0 acc):=by
  have inj:∀ s1 s2 g1 g2 t h1 h2,K8 base 0 acc s1 g1=some (t,h1)→K8 base 0 acc s2 g2=some (t,h2)→s1=s2:=by
    intro s1 s2 g1 g2 t h1 h2 n1 n2
    obtain ⟨_,k1⟩:=Zaw n1
    obtain ⟨_,k2⟩:=Zaw n2
    rcases k1 with ⟨x,rfl,rfl,_⟩|⟨_,i,p1,p2,_⟩<;>rcases k2 with ⟨y,rfl,q2,_⟩|⟨_,j,q1,q2,_⟩
    · exact q2
    · exact absurd q2.symm (hup _ _)
    · exact absurd (p2.symm.trans q2) (hup _ _)
    · have:=hinj _ _ (p2.symm.trans q2)
      have hij:i=j:=by omega
      subst hij
      rw [p1] at q1
      cases q1
      rfl
  refine ⟨?_,?_,inj,?_⟩
  · intro t e' h
    obtain ⟨s,g,e,g',k1,k2,k3,k4⟩:=Zde.1 (Zdd h)
    obtain ⟨e2,m1,m2,m3⟩:=hf.ok s g k1
    rw [k2] at m1
    cases m1
    exact ⟨s,e,g',k2,m2,by rw [m3];exact k3,k4⟩
  · intro s g t g' h
    obtain ⟨k1,_⟩:=Zaw h
    obtain ⟨e,m1,m2,m3⟩:=hf.ok s g k1
    refine ⟨e,m1,m2,m3,Zpc (Zde.2 ⟨s,g,e,g',k1,m1,h,rfl⟩) fun y hy=>?_⟩
    obtain ⟨s2,g2,e2,g2',q1,q2,q3,q4⟩:=Zde.1 hy
    have:=inj _ _ _ _ _ _ _ q3 h
    subst this
    rw [m1] at q2
    cases q2
    obtain ⟨e3,r1,_,r3⟩:=hf.ok _ g2 q1
    rw [m1] at r1
    cases r1
    have:g2=g:=by omega
    subst this
    rw [h] at q3
    cases q3
    exact q4
  · intro s g x g' h
    obtain ⟨_,k⟩:=Zaw h
    rcases k with ⟨y,rfl,h1,h2⟩|⟨_,i,_,h2,_⟩
    · exact ⟨h1.symm,h2⟩
    · exact absurd h2.symm (hup _ _)
end Cod
namespace Cod
open Go
variable {E:Env} {w0:World} {O0:Nat→Prop} {σ0:A3} {L0:Lay} {P:Program} {σ:A3} {L:Lay} {w:World} {o:Oper} {a:Act}
theorem Z3e {f:Nat→AV}:∀ {ks:List Nat} {t:Nat},Q5 (ks.map fun k=>(k,f k)) t=if t∈ks then f t else .junk:=by
  intro ks
  induction ks with
  | nil=>intro t;simp [Q5]
  | cons k ks ih =>
    intro t
    simp only [Yed,Q5,ih]
    by_cases hk:k=t
    · subst hk;simp
    · have:t∈k::ks↔t∈ks:=by simp [Ne.symm hk]
      rw [if_neg hk]
      by_cases ht:t∈ks
      · rw [if_pos ht,if_pos (this.2 ht)]
      · rw [if_neg ht,if_neg (fun h=>ht (this.1 h))]
theorem Zju:Found σ []:=⟨by simp,by simp⟩
theorem Zwu {A:Ann} {live:List Nat} (hl:∀ t∈live,t∈A.cross) {st:St} {N:Nat} (h:Rel E w0 O0 σ0 L0 st.st L w) (hx:Fx A (ctx st.st L w) st.sl N a) :
    ∃ L',Rel E w0 O0 σ0 L0 (Zou live st).st L' w∧Fx A (ctx (Zou live st).st L' w) (Zou live st).sl N a:=by
  have hr:=Zgx (σ:=st.st) (base:=Site.s 1000000) (fun i j h=>by cases h;rfl) (fun i x h=>by cases h)
    (Zic (n:=64) (rs:=ups st.st++live.flatMap fun t=>U7 (Q5 st.sl t)) (σ:=st.st) Zju)
  refine ⟨_,hr.rel h,⟨⟨fun t=>?_,hx.fr.defers,hx.fr.size⟩,fun t ht=>?_⟩⟩
  · show VR _ (Q5 (live.map fun t=>(t,ren _ (Q5 st.sl t))) t) _
    rw [Z3e (f:=fun t=>ren _ (Q5 st.sl t))]
    split
    · exact hr.value (hx.fr.slots t)
    · simp [VR]
  · refine hl t ?_
    have:t∈dom (live.map fun t=>(t,ren (K8 (Site.s 1000000) 0 (J5 st.st 64 (ups st.st++live.flatMap fun t=>U7 (Q5 st.sl t)) [])) (Q5 st.sl t))):=ht
    simpa [dom] using this
theorem res_ok {A:Ann} {st:St} {N:Nat} (h:Rel E w0 O0 σ0 L0 st.st L w) (hx:Fx A (ctx st.st L w) st.sl N a):∀ {rs:List ResultVar} {ls:List LRes} {vs:List AV},Zdu P rs=some ls→Zaq st ls=some vs →
    ∃ ys,((rs.mapM fun|.tmp t=>pure (a.tmps.getD t undef)|.cell b t=>do loadVar t (←asAddr (a.tmps.getD b undef)):Sem (List Value))).run P w=.ok ys w∧VRL (ctx st.st L w) vs ys:=by
  intro rs
  induction rs with
  | nil =>
    intro ls vs hl hv
    simp only [Zdu,Option.some.injEq] at hl
    subst hl
    simp only [Zaq,Option.some.injEq] at hv
    subst hv
    exact ⟨[],by simp,by simp [VRL]⟩
  | cons r rs ih =>
    intro ls vs hl hv
    simp only [Zdu] at hl
    split at hl
    · rename_i l ls' h1 h2
      cases hl
      simp only [Zaq] at hv
      split at hv
      · rename_i v vs' h3 h4
        cases hv
        obtain ⟨ys,k1,k2⟩:=ih h2 h4
        have key:∃ y,((match r with|.tmp t=>pure (a.tmps.getD t undef)|.cell b t=>do loadVar t (←asAddr (a.tmps.getD b undef)):Sem Value)).run P w=.ok y w∧VR (ctx st.st L w) v y:=by
          cases r with
          | tmp t =>
            simp only [Zr4,Option.some.injEq] at h1
            subst h1
            simp only [Zgq,Option.some.injEq] at h3
            subst h3
            exact ⟨a.tmps.getD t undef,by simp,hx.fr.slots t⟩
          | cell b t =>
            simp only [Zr4,Ydz] at h1
            obtain ⟨n,hn,rfl⟩:=h1
            simp only [Zgq] at h3
            have hs:=hx.fr.slots b
            split at h3
            · rename_i s g off hg
              rw [hg] at hs
              simp only [Yef] at h3
              obtain ⟨e,h5,h6⟩:=h3
              have h5':((O4 s g).bind fun e=>Acc.ret e).run st.st=some e:=by
                rw [Acc.run_bind,h5];rfl
              obtain ⟨e',he,ha,hgg,h7⟩:=H8 h5'
              have k:=A7 h7
              subst k
              obtain ⟨bb,o',m1,m2,m3,m4⟩:=Zb8 h.store hs he ha hgg
              have hout:Zgs e.cells off n v:=by
                cases n with
                | none=>exact h6
                | some n=>obtain ⟨p1,p2⟩:=Zab h6;cases p2;exact ⟨p1,rfl⟩
              obtain ⟨y,q1,q2⟩:=Zew (P:=P) (w:=w) (c:=ctx st.st L w) rfl hn m4 hout
              exact ⟨y,by simp [m2,asAddr,q1],q2⟩
            · cases h3
        obtain ⟨y,k3,k4⟩:=key
        refine ⟨y::ys,?_,by simp only [VRL];exact ⟨y,ys,rfl,k4,k2⟩⟩
        simp only [List.mapM_cons,Sem.run_bind,k3,Result.andThen_ok,k1,Sem.run_pure]
      · cases hv
    · cases hl
theorem Zx8 {A:Ann} {st:St} {N:Nat} (h:Rel E w0 O0 σ0 L0 st.st L w) (hx:Fx A (ctx st.st L w) st.sl N a) {fn:Func} {ls:List LRes} (hl:Zdu P fn.results.toList=some ls) {v:AV} {σr:A3} (hv:Zbc ls st=some (v,σr)) :
    ∃ y L',(results fn a.tmps).run P w=.ok y w∧Rel E w0 O0 σ0 L0 σr L' w∧VR (ctx σr L' w) v y:=by
  unfold Zbc at hv
  split at hv
  · rename_i vs hvs
    simp only [Option.some.injEq,Prod.mk.injEq] at hv
    obtain ⟨rfl,rfl⟩:=hv
    obtain ⟨ys,k1,k2⟩:=res_ok (P:=P) h hx hl hvs
    have hr:=Zgx (σ:=st.st) (base:=Site.r) (fun i j h=>by cases h;rfl) (fun i x h=>by cases h)
      (Zic (n:=64) (rs:=ups st.st++refsOfs vs) (σ:=st.st) Zju)
    refine ⟨if h:ys.toArray.size=1 then ys.toArray[0] else .tuple ys.toArray,_,?_,hr.rel h,?_⟩
    · unfold results
      have k1':((fn.results.toList.mapM fun|.tmp t=>pure (a.tmps.getD t undef)|.cell b t=>do loadVar t (←asAddr (a.tmps.getD b undef)):Sem (List Value)) >>= fun ys=>pure ys.toArray).run P w=.ok ys.toArray w:=by
        rw [Sem.run_bind,k1];rfl
      rw [Array.mapM_eq_mapM_toList,Sem.run_bind]
      have e:∀ (m:Sem (List Value)),(List.toArray <$> m)=(m >>= fun ys=>pure ys.toArray):=fun m=>by rw [map_eq_pure_bind]
      rw [e]
      erw [k1']
      rfl
    · have hv:=hr.values k2
      generalize rens (K8 Site.r 0 (J5 st.st 64 (ups st.st++refsOfs vs) [])) vs=us at hv ⊢
      have hlen:=G4 hv
      cases us with
      | nil =>
        have:ys=[]:=List.eq_nil_of_length_eq_zero (by simpa using hlen)
        subst this
        simp [Zkw,VR,VRL]
      | cons u us =>
        cases us with
        | nil =>
          simp only [VRL] at hv
          obtain ⟨y,r,rfl,h1,rfl⟩:=hv
          simpa [Zkw] using h1
        | cons u2 us =>
          have hne:ys.toArray.size≠1:=by simp [hlen]
          rw [dif_neg hne]
          simp only [Zkw,VR]
          exact ⟨_,rfl,hv⟩
  · cases hv
end Cod

/- Iterators over strings, and maps: the operations do what the abstract step says. -/
import Derived.MapKept
import Derived.Orders
import Derived.Test.YtabccggcfcppgaaGreatDoorXCod3
set_option linter.unusedSimpArgs false
set_option linter.unusedVariables false
open List renaming mem_append_left → Ygo, mem_append_right → Ygn, mem_cons_of_mem → Ygm
open Nat renaming le_refl → Yfj, sub_zero → Ygk
open Bool renaming and_eq_true → Yfz, or_eq_false_iff → Ygl
open Option renaming bind_eq_some_iff → Yf5, bind_none → Ygj, bind_some → Yfg, getD_some → Ygp, map_eq_some_iff → Yfp, map_some → Yfo
open Array renaming length_toList → Yf3
namespace Cod
open Go
variable {E:Env} {w0:World} {O0:Nat→Prop} {σ0:A2} {L0:Lay} {P:Program} {σ:A2} {L:Lay} {w:World} {o:Oper} {a:Act}
theorem Zh0 {s:Site} {c:AV} {f:Nat→AV} {r:AV × Ups} (h:(Zf3 s c f).run σ=some r) :
    ∃ g,(∀ e,A8 σ s=some e→e.g<g)∧r=(f g,[(s,⟨g,true,true,true,[c]⟩)]):=by
  obtain ⟨p,h1,h2⟩:=D7 h
  obtain ⟨h3,h4⟩:=Zts h1
  have k:=A6 h2
  subst k
  exact ⟨p.1,h3,by rw [h4]⟩
theorem Rel.newObj (h:Rel E w0 O0 σ0 L0 σ L w) {d k:Nat} {g:Nat} (hg:∀ e,A8 σ (.s d k)=some e→e.g<g) {cells:List AV} (ob:Obj)
    (ho:∀ c':Ctx,CLe (ctx σ L w) c'→c'.w.heap[w.heap.size]? = some ob→Z8 c' w.heap.size ⟨g,true,true,true,cells⟩) :
    Rel E w0 O0 σ0 L0 (H9 σ (.s d k) ⟨g,true,true,true,cells⟩) (G4 L (.s d k) (some (w.heap.size,0))) (w.alloc ob) ∧
    CLe (ctx σ L w) (ctx (H9 σ (.s d k) ⟨g,true,true,true,cells⟩) (G4 L (.s d k) (some (w.heap.size,0))) (w.alloc ob)):=by
  have hk:=Keep.alloc (I6 σ L) w ob
  have hown:∀ b,I6 (H9 σ (.s d k) ⟨g,true,true,true,cells⟩) (G4 L (.s d k) (some (w.heap.size,0))) b→I6 σ L b∨w.heap.size≤b:=by
    intro b hb
    rcases Zfl hb with h1|⟨_,_,o,h1⟩
    · exact .inl h1
    · simp only [Option.some.injEq,Prod.mk.injEq] at h1;exact .inr (by omega)
  have hc:CLe (ctx σ L w) (ctx (H9 σ (.s d k) ⟨g,true,true,true,cells⟩) (G4 L (.s d k) (some (w.heap.size,0))) (w.alloc ob)) :=
    Zhv (fun e he=>.inl (hg e he)) (fun b hb ho=>(hown b ho).resolve_right (by omega)) hk
  have hget:(w.alloc ob).heap[w.heap.size]? = some ob:=by simp only [World.alloc,Array.getElem?_push];rw [if_pos trivial]
  refine ⟨h.step (Zhu h.store hc ?_ ?_ ?_) hc hk hown ?_ (fun b hb=>(Zhw hb).imp id fun ⟨_,o,h1⟩=>by simp only [Option.some.injEq,Prod.mk.injEq] at h1;omega) rfl,hc⟩
  · intro t e b o _ he ha hl
    have:=h.store.lt he ha hl
    simp only [World.alloc,Array.getElem?_push];rw [if_neg (by omega)]
  · intro _
    unfold V1
    rw [show (ctx (H9 σ (.s d k) ⟨g,true,true,true,cells⟩) (G4 L (.s d k) (some (w.heap.size,0))) (w.alloc ob)).L (.s d k)=some (w.heap.size,0) from G8 _ _ _]
    exact .inr ⟨rfl,ho _ hc hget⟩
  · intro b o _ hx t e o' _ he ha hl
    simp only [Option.some.injEq,Prod.mk.injEq] at hx
    have:=h.store.lt he ha hl
    omega
  · intro x e he ha
    rw [C6 _ _ (by simp)] at he
    exact ⟨e,he,ha,rfl,O9 _ _ (by simp)⟩
theorem Rel.updObj (h:Rel E w0 O0 σ0 L0 σ L w) {s:Site} {e:Ent} (he:A8 σ s=some e) (ha:e.alive=true) (hr:e.rw=true) {b:Nat} (hl:L s=some (b,0)) {w':World} {cells:List AV}
    (hk:Keep (fun x=>x=b) w w') (hv:∀ c':Ctx,CLe (ctx σ L w) c'→c'.w=w'→Z8 c' b { e with cells:=cells }) :
    Rel E w0 O0 σ0 L0 (H9 σ s { e with cells:=cells }) L w'∧CLe (ctx σ L w) (ctx (H9 σ s { e with cells:=cells }) L w'):=by
  have hL:=Zeu L s
  have hob:I6 σ L b:=⟨s,e,0,he,ha,hr,hl⟩
  have hk':Keep (I6 σ L) w w':=hk.mono fun x hx=>by rw [hx];exact hob
  have hown:∀ x,I6 (H9 σ s { e with cells:=cells }) L x→I6 σ L x∨w.heap.size≤x:=by
    intro x hx
    rw [←hL] at hx
    rcases Zfl hx with h1|⟨h1,h2,o,h3⟩
    · exact .inl h1
    · exact .inl ⟨s,e,o,he,h1,h2,h3⟩
  have hc:CLe (ctx σ L w) (ctx (H9 σ s { e with cells:=cells }) L w'):=by
    have:=Zhv (σ := σ) (L:=L) (w:=w) (w':=w') (s:=s) (e' := { e with cells:=cells }) (x:=L s)
      (fun e1 h1=>.inr ⟨by rw [he] at h1;cases h1;rfl,fun h2=>⟨by rw [he] at h1;cases h1;exact h2,rfl⟩⟩)
      (fun b hb ho=>by rw [hL] at ho;exact (hown b ho).resolve_right (by omega)) hk'
    rwa [hL] at this
  have hin:∀ x,inS (H9 σ s { e with cells:=cells }) L x→inS σ L x∨w.heap.size≤x:=by
    intro x hx
    rw [←hL] at hx
    rcases Zhw hx with h1|⟨h1,o,h3⟩
    · exact .inl h1
    · exact .inl ⟨s,e,o,he,h1,h3⟩
  refine ⟨h.step ?_ hc hk' hown ?_ hin rfl,hc⟩
  · have:=Zhu h.store (s:=s) (e' := { e with cells:=cells }) (x:=L s) (w':=w') (by rw [hL];exact hc) ?_ ?_ ?_
    · rwa [hL] at this
    · intro t e1 b1 o1 hne h1 a1 l1
      refine hk.block b1 (h.store.lt h1 a1 l1) fun hbb=>hne ?_
      subst hbb
      exact h.store.apart t s e1 e b1 o1 0 h1 a1 he ha l1 hl
    · intro _
      rw [hL]
      unfold V1
      rw [show (ctx (H9 σ s { e with cells:=cells }) L w').L s=some (b,0) from hl]
      exact .inr ⟨rfl,hv _ hc rfl⟩
    · intro b1 o1 _ hx t e1 o' hne he1 ha1 hl1
      exact hne (h.store.apart t s e1 e b1 o' o1 he1 ha1 he ha hl1 hx)
  · intro x e1 he1 ha1
    by_cases hx:s=.up x
    · subst hx
      rw [C1] at he1
      cases he1
      exact ⟨e,he,ha,rfl,rfl⟩
    · rw [C6 _ _ hx] at he1
      exact ⟨e1,he1,ha1,rfl,rfl⟩
theorem Zbf {b:Nat} {o0:Obj} (h0:w.heap[b]? = some o0) (hn:∀ cs el fr,o0≠.cells cs el fr) (o1:Obj):Keep (fun x=>x=b) w { w with heap:=w.heap.setIfInBounds b o1 }∧({ w with heap:=w.heap.setIfInBounds b o1 }:World).heap[b]? = some o1:=by
  have hlt:b<w.heap.size:=(Array.getElem?_eq_some_iff.1 h0).1
  refine ⟨⟨rfl,rfl,rfl,by simp,fun x hx hne=>?_,fun x k ⟨cs,el,fr,h1,h2⟩=>⟨cs,el,fr,?_,h2⟩⟩,?_⟩
  · simp only [Array.getElem?_setIfInBounds];rw [if_neg (fun h=>hne h.symm)]
  · simp only [Array.getElem?_setIfInBounds]
    rw [if_neg (fun h=>by subst h;rw [h0] at h1;exact hn _ _ _ (Option.some.inj h1))]
    exact h1
  · simp only [Array.getElem?_setIfInBounds];rw [if_pos trivial,if_pos hlt]
theorem Z4k (h:StoreOK σ L w) {s:Site} {e:Ent} (he:A8 σ s=some e) (ha:e.alive=true) {b:Nat} (hl:L s=some (b,0)) {x:AV} {rest:List AV} (hc:e.cells=x::rest) (hx:R1 x=false) (hu:x≠.junk∧x≠.und∧(∀ l,x≠.agg l)∧(∀ l,x≠.tup l)∧(∀ s g,x≠.it s g)):Z8 (ctx σ L w) b e:=by
  rcases h.lies he ha hl with ⟨_,h1⟩|⟨_,h1⟩
  · rw [hc] at h1
    simp only [VRC] at h1
    obtain ⟨⟨v,_,h2⟩,_⟩:=h1
    cases x<;>simp_all [VR,R1]
  · exact h1
theorem it_at {s:Site} {g:Nat} {y:Value} (hv:VR (ctx σ L w) (.it s g) y) {e:Ent} (he:A8 σ s=some e) (ha:e.alive=true) (hg:e.g=g):∃ b,L s=some (b,0)∧y=.pointer (some ⟨b,0,none⟩):=by
  simp only [VR] at hv
  obtain ⟨g0,al,h1,_,h3⟩:=hv
  rw [J0 he] at h1
  simp only [Option.some.injEq,Prod.mk.injEq] at h1
  obtain ⟨h4,h5⟩:=h1
  exact h3 (by rw [←h5];exact ha) (by omega)
theorem Znb {s:Site} {g:Nat} {y:Value} (hv:VR (ctx σ L w) (.mpr s g) y) {e:Ent} (he:A8 σ s=some e) (ha:e.alive=true) (hg:e.g=g):∃ b,L s=some (b,0)∧y=.map (some b):=by
  simp only [VR] at hv
  obtain ⟨_,g0,al,h1,_,h3⟩:=hv
  rw [J0 he] at h1
  simp only [Option.some.injEq,Prod.mk.injEq] at h1
  obtain ⟨h4,h5⟩:=h1
  exact h3 (by rw [←h5];exact ha) (by omega)
theorem ok_r2s (h:Rel E w0 O0 σ0 L0 σ L w) {s t:TypeId} {k:IntKind} {x:Operand} (hs:P.underlying s=some (.int k)) (ht:P.underlying t=some .string) {vx:AV} (ho:o.op=.convert s t x)
    (hx:VR (ctx σ L w) vx (a.eval x)) {r:AV × Ups} (hr:(r2sV vx).run σ=some r):L3 E w0 O0 σ0 L0 P σ L w o a r.1 r.2:=by
  cases vx<;>try exact A7 hr
  rename_i k' n
  have kk:=A6 hr
  subst kk
  simp only [VR] at hx
  refine B3 h (y:=.string (Utf8.encode n)) ?_ ?_
  · simp [execOp,ho,convert,run_underlying hs,run_underlying ht,hx,Conv.intToString,asIntOf]
  · simp [VR,Zi7]
theorem ok_rng (h:Rel E w0 O0 σ0 L0 σ L w) {d:Nat} {t:TypeId} {x:Operand} (ht:Z30 P t=true) (ho:o.op=.range t x) {vx:AV} (hx:VR (ctx σ L w) vx (a.eval x))
    {r:AV × Ups} (hr:(rngV (.s d 0) vx).run σ=some r):L3 E w0 O0 σ0 L0 P σ L w o a r.1 r.2:=by
  cases vx<;>try exact A7 hr
  rename_i l
  obtain ⟨g,hg,rfl⟩:=Zh0 hr
  have hu:P.underlying t=some .string:=by
    unfold Z30 at ht
    split at ht
    · assumption
    · cases ht
  simp only [VR] at hx
  obtain ⟨h1,h2⟩:=h.newObj hg (cells:=[.itr l 0]) (.stringIter ⟨l.toArray⟩ 0) (fun c' _ hc=>.inl ⟨l,0,rfl,hc⟩)
  refine J6 (w':=w.alloc (.stringIter ⟨l.toArray⟩ 0)) (L':=G4 L (.s d 0) (some (w.heap.size,0))) (y:=.pointer (some ⟨w.heap.size,0,none⟩)) ?_ h1 h2 ?_
  · simp [execOp,ho,Instr.range,hx,run_underlying hu]
  · simp only [VR]
    exact ⟨g,true,J0 (C1 _ _ _),Yfj _,fun _ _=>⟨w.heap.size,G8 _ _ _,rfl⟩⟩
theorem Z4l {s:Site} {e:Ent} {r:AV × Ups} (hr:(nxtC s e).run σ=some r):∃ l p,e.cells=[.itr l p]∧e.rw=true ∧
    ((p<l.length∧r=(.tup [.bool true,.int .i64 p,.int .i32 (Zbb l p).1],[(s,{ e with cells:=[.itr l (p+(Zbb l p).2)] })]))∨(¬ p<l.length∧r=(.tup [.bool false],[]))):=by
  unfold nxtC at hr
  split at hr
  · rename_i l p hc
    obtain ⟨h1,h2⟩:=G2 hr
    refine ⟨l,p,hc,h1,?_⟩
    by_cases hp:p<l.length
    · rw [if_pos hp] at h2;exact .inl ⟨hp,A6 h2⟩
    · rw [if_neg hp] at h2;exact .inr ⟨hp,A6 h2⟩
  · exact A7 hr
theorem ok_nxt (h:Rel E w0 O0 σ0 L0 σ L w) {x:Operand} (ho:o.op=.next x true) {vx:AV} (hx:VR (ctx σ L w) vx (a.eval x))
    {r:AV × Ups} (hr:(nxtV vx).run σ=some r):L3 E w0 O0 σ0 L0 P σ L w o a r.1 r.2:=by
  cases vx<;>try exact A7 hr
  rename_i s g
  obtain ⟨e,he,ha,hg,h1⟩:=J8 hr
  obtain ⟨l,p,hc,hrw,h2⟩:=Z4l h1
  obtain ⟨b,hl,hy⟩:=it_at hx he ha hg
  have hob:=Z4k h.store he ha hl hc rfl (by simp)
  have hheap:w.heap[b]? = some (.stringIter ⟨l.toArray⟩ p):=by
    rcases hob with ⟨l',p',h3,h4⟩|⟨ks,vs,es,cl,h3,_⟩
    · rw [hc] at h3;simp only [List.cons.injEq,AV.itr.injEq,and_true] at h3;obtain ⟨rfl,rfl⟩:=h3;exact h4
    · rw [hc] at h3;simp at h3
  rcases h2 with ⟨hp,rfl⟩|⟨hp,rfl⟩
  · obtain ⟨k1,k2⟩:=Zbf hheap (by simp) (.stringIter ⟨l.toArray⟩ (p+(Zbb l p).2))
    obtain ⟨m1,m2⟩:=h.updObj he ha hrw hl (cells:=[.itr l (p+(Zbb l p).2)]) k1 (fun c' _ hw=>.inl ⟨l,_,rfl,by rw [hw];exact k2⟩)
    refine J6 (u:=[(s,{ e with cells:=[.itr l (p+(Zbb l p).2)] })]) (y:=.tuple #[.bool true,goInt p,.int .i32 (Zbb l p).1]) ?_ m1 m2 (by simp [VR,VRL,goInt])
    have hp':p<(⟨l.toArray⟩:ByteArray).size:=by simpa [ByteArray.size] using hp
    simp [execOp,ho,Instr.next,hy,getObj,setObj,Sem.run,hheap,hp',Zbb]
  · refine B3 h (y:=.tuple #[.bool false]) ?_ (by simp [VR,VRL])
    have hp':¬ p<(⟨l.toArray⟩:ByteArray).size:=by simpa [ByteArray.size] using hp
    simp [execOp,ho,Instr.next,hy,getObj,Sem.run,hheap,hp']
theorem Z4m (x y:List UInt8):((⟨x.toArray⟩:ByteArray) == ⟨y.toArray⟩)=(x==y):=by
  show (x.toArray==y.toArray)=(x==y)
  simp
def keyD (str:Bool) (d:TypeDesc):Prop:=(str=false∧∃ q,d=.int q)∨(str=true∧d=.string)
theorem Z4n {c:Ctx} {str:Bool} {d:TypeDesc} (hd:keyD str d) {k x:AV} {kv xv:Value} (hk:VR c k kv) (hx:VR c x xv) {b:Bool} (h:Zge str k x=some b) :
    Instr.sameNow d kv xv=some b∧(b=true→xv=kv):=by
  unfold Zge at h
  split at h
  · rename_i k1 a1 k2 a2
    simp only [VR] at hk hx
    subst hk hx
    split at h
    · rename_i hkk
      cases h
      subst hkk
      rcases hd with ⟨_,q,rfl⟩|⟨h1,_⟩
      · exact ⟨by simp [Instr.sameNow],fun hb=>by simp at hb;rw [hb]⟩
      · cases h1
    · cases h
  · simp only [VR] at hk hx
    subst hk hx
    cases h
    rcases hd with ⟨h1,_⟩|⟨_,rfl⟩
    · cases h1
    · exact ⟨by simp only [Instr.sameNow];rw [Z4m],fun hb=>by simp at hb;rw [hb]⟩
  · cases h
theorem Zj6 {c:Ctx} {str:Bool} {d:TypeDesc} (hd:keyD str d) {k:AV} {kv:Value} (hk:VR c k kv):∀ {ks:List AV} {es:List MapEntry} {i:Nat} {r:Option Nat},VRL c ks (es.map (·.key))→Zah str k ks i=some r →
    Instr.findNow d kv es i=some (r.bind fun j=>(es[j-i]?).map fun e=>(j,e.val))∧∀ j,r=some j→i≤j∧∃ e,es[j-i]? = some e∧e.key=kv:=by
  intro ks
  induction ks with
  | nil =>
    intro es i r h1 h2
    cases es with
    | nil=>simp only [Zah,Option.some.injEq] at h2;subst h2;exact ⟨by simp [Instr.findNow],by simp⟩
    | cons e es=>simp [VRL] at h1
  | cons x ks ih =>
    intro es i r h1 h2
    cases es with
    | nil=>simp [VRL] at h1
    | cons e es =>
      simp only [VRL,List.map_cons,List.cons.injEq] at h1
      obtain ⟨v,r',⟨rfl,rfl⟩,h3,h4⟩:=h1
      simp only [Zah] at h2
      cases hb:Zge str k x with
      | none=>rw [hb] at h2;cases h2
      | some b =>
        rw [hb] at h2
        obtain ⟨h5,h6⟩:=Z4n hd hk h3 hb
        cases b with
        | true =>
          simp only [Option.some.injEq] at h2
          subst h2
          exact ⟨by simp [Instr.findNow,h5],fun j hj=>by cases hj;exact ⟨Yfj _,e,by simp,h6 rfl⟩⟩
        | false =>
          simp only at h2
          obtain ⟨h7,h8⟩:=ih h4 h2
          refine ⟨?_,fun j hj=>?_⟩
          · simp only [Instr.findNow,h5,h7]
            cases r with
            | none=>rfl
            | some j =>
              obtain ⟨h9,_⟩:=h8 j rfl
              simp only [Yfg]
              rw [show j-i=(j-(i+1))+1 by omega,List.getElem?_cons_succ]
          · obtain ⟨h9,e',h10,h11⟩:=h8 j hj
            exact ⟨by omega,e',by rw [show j-i=(j-(i+1))+1 by omega,List.getElem?_cons_succ];exact h10,h11⟩
theorem Ze2 {kt:TypeId} {str:Bool} (h:Zew P kt=some str):∃ d,P.underlying kt=some d∧keyD str d:=by
  unfold Zew at h
  split at h
  · rename_i q hq;cases h;exact ⟨_,hq,.inl ⟨rfl,q,rfl⟩⟩
  · rename_i hq;cases h;exact ⟨_,hq,.inr ⟨rfl,rfl⟩⟩
  · cases h
theorem W5 {kt:TypeId} {d:TypeDesc} (hu:P.underlying kt=some d) {kv:Value} {es:List MapEntry} {r:Option (Nat × Value)} (h:Instr.findNow d kv es 0=some r):(Instr.findKey kt kv es).run P w=.ok r w:=by
  simp [Instr.findKey,run_underlying hu,h]
theorem R3 {str:Bool} {kt:TypeId} {d:TypeDesc} (hu:P.underlying kt=some d) (hd:keyD str d) (kv:Value) (e:Bool):(Instr.checkKey e 10000 kt kv).run P w=.ok () w:=by
  unfold Instr.checkKey
  rcases hd with ⟨_,q,rfl⟩|⟨_,rfl⟩<;>simp [run_underlying hu]
theorem Z4o (c:Ctx) {e:TypeId} {z:AV} (h:Zxp P e=some z):∃ zv,(∀ w:World,(zeroValue e).run P w=.ok zv w)∧VR c z zv:=by
  unfold Zxp at h
  simp only [Yf5] at h
  obtain ⟨zv,⟨i,h1,h2⟩,h3⟩:=h
  exact ⟨zv,fun w=>by simp [zeroValue,typeInfo,h1,h2],Zip c h3⟩
theorem Ztw {c:Ctx} {ok b:Bool} {v:AV} {y:Value} (h:VR c v y):VR c (okV ok b v) (if ok then .tuple #[y,.bool b] else y):=by
  cases ok
  · exact h
  · simp only [okV,cond_true,if_true,VR,VRL]
    exact ⟨_,rfl,y,_,rfl,h,.bool b,[],rfl,by simp [VR],rfl⟩
theorem Zjj {s:Site} {e:Ent} (h:StoreOK σ L w) (he:A8 σ s=some e) (ha:e.alive=true) {b:Nat} (hl:L s=some (b,0)) {ks vs:List AV} (hc:e.cells=[.mp ks vs]) :
    ∃ es cl,w.heap[b]? = some (.map es cl)∧Q3 ks=true∧Q3 vs=true∧VRL (ctx σ L w) ks (es.toList.map (·.key))∧VRL (ctx σ L w) vs (es.toList.map (·.val)):=by
  have hob:=Z4k h he ha hl hc rfl (by simp)
  rcases hob with ⟨l',p',h3,h4⟩|⟨ks',vs',es,cl,h3,h4,h5,h6,h7,h8⟩
  · rw [hc] at h3;simp at h3
  · rw [hc] at h3;simp only [List.cons.injEq,AV.mp.injEq,and_true] at h3;obtain ⟨rfl,rfl⟩:=h3;exact ⟨es,cl,h6,h4,h5,h7,h8⟩
theorem Z4p (h:Rel E w0 O0 σ0 L0 σ L w) {d:Nat} {t:TypeId} (ho:o.op=.makeMap t none) {r:AV × Ups} (hr:(Zf3 (.s d 0) (.mp [] []) (.mpr (.s d 0))).run σ=some r):L3 E w0 O0 σ0 L0 P σ L w o a r.1 r.2:=by
  obtain ⟨g,hg,rfl⟩:=Zh0 hr
  obtain ⟨h1,h2⟩:=h.newObj hg (cells:=[.mp [] []]) (.map #[] 0) (fun c' _ hc=>.inr ⟨[],[],#[],0,rfl,rfl,rfl,hc,by simp [VRL],by simp [VRL]⟩)
  refine J6 (w':=w.alloc (.map #[] 0)) (L':=G4 L (.s d 0) (some (w.heap.size,0))) (y:=.map (some w.heap.size)) ?_ h1 h2 ?_
  · simp [execOp,ho,Instr.makeMap]
  · simp only [VR]
    exact ⟨rfl,g,true,J0 (C1 _ _ _),Yfj _,fun _ _=>⟨w.heap.size,G8 _ _ _,rfl⟩⟩
theorem Zzi (h:Rel E w0 O0 σ0 L0 σ L w) {d:Nat} {t kt et:TypeId} {x:Operand} {k:IntKind} {n:Int} (ht:P.underlying t=some (.map kt et)) (ho:o.op=.makeMap t (some x)) (hx:VR (ctx σ L w) (.int k n) (a.eval x)) {r:AV × Ups} (hr:(Zf3 (.s d 0) (.mp [] []) (.mpr (.s d 0))).run σ=some r):L3 E w0 O0 σ0 L0 P σ L w o a r.1 r.2:=by
  obtain ⟨g,hg,rfl⟩:=Zh0 hr
  obtain ⟨h1,h2⟩:=h.newObj hg (cells:=[.mp [] []]) (.map #[] 0) (fun c' _ hc=>.inr ⟨[],[],#[],0,rfl,rfl,rfl,hc,by simp [VRL],by simp [VRL]⟩)
  simp only [VR] at hx
  refine J6 (w':=w.alloc (.map #[] 0)) (L':=G4 L (.s d 0) (some (w.heap.size,0))) (y:=.map (some w.heap.size)) ?_ h1 h2 ?_
  · simp [execOp,ho,Instr.makeMap,run_underlying ht,hx,asInt,asIntOf]
  · simp only [VR]
    exact ⟨rfl,g,true,J0 (C1 _ _ _),Yfj _,fun _ _=>⟨w.heap.size,G8 _ _ _,rfl⟩⟩
theorem Ybh (h:Rel E w0 O0 σ0 L0 σ L w) {t kt e:TypeId} {m k:Operand} {ok str:Bool} {z:AV} (ht:P.underlying t=some (.map kt e)) (hk:Zew P kt=some str) (hz:Zxp P e=some z) (ho:o.op=.lookup t m k ok) {vm vk:AV}
    (hm:VR (ctx σ L w) vm (a.eval m)) (hkv:VR (ctx σ L w) vk (a.eval k)) {r:AV × Ups} (hr:(Zp7 str z ok vk vm).run σ=some r):L3 E w0 O0 σ0 L0 P σ L w o a r.1 r.2:=by
  obtain ⟨d,hd,hkd⟩:=Ze2 hk
  obtain ⟨zv,hz1,hz2⟩:=Z4o (P:=P) (ctx σ L w) hz
  cases vm<;>try exact A7 hr
  case nilm =>
    have kk:=A6 hr
    subst kk
    simp only [VR] at hm
    refine B3 h ?_ (Ztw hz2)
    simp [execOp,ho,Instr.lookup,hm,run_underlying ht,R3 hd hkd,W5 hd (kv:=a.eval k) (es:=[]) (r:=none) (by simp [Instr.findNow]),hz1]
  case mpr s g =>
    obtain ⟨en,he,ha,hg,h1⟩:=J8 hr
    unfold Zxh at h1
    split at h1
    · rename_i ks vs hc
      obtain ⟨b,hl,hy⟩:=Znb hm he ha hg
      obtain ⟨es,cl,hh,_,_,hks,hvs⟩:=Zjj h.store he ha hl hc
      cases hf:Zah str vk ks 0 with
      | none=>rw [hf] at h1;exact A7 h1
      | some fr =>
        rw [hf] at h1
        obtain ⟨h2,h3⟩:=Zj6 hkd hkv hks hf
        cases fr with
        | none =>
          simp only [Zim] at h1
          have kk:=A6 h1
          subst kk
          refine B3 h ?_ (Ztw hz2)
          have h4:=W5 (w:=w) hd h2
          simp only [Ygj] at h4
          simp [execOp,ho,Instr.lookup,hy,getObj,Sem.run,hh,run_underlying ht,R3 hd hkd,h4,hz1]
        | some i =>
          obtain ⟨_,en',h5,h6⟩:=h3 i rfl
          simp only [Ygk] at h5
          simp only [Zim] at h1
          obtain ⟨v,h7,h8⟩:=Zbe h1
          simp only [Yfp] at h7
          obtain ⟨x,h9,rfl⟩:=h7
          obtain ⟨v',h10,h11⟩:=Zam hvs h9
          rw [List.getElem?_map,h5] at h10
          cases h10
          rw [h8]
          refine B3 h ?_ (Ztw h11)
          have h4:=W5 (w:=w) hd h2
          simp only [Yfg,Ygk,h5,Yfo] at h4
          simp [execOp,ho,Instr.lookup,hy,getObj,Sem.run,hh,run_underlying ht,R3 hd hkd,h4]
    · exact A7 h1
theorem Ybi (h:Rel E w0 O0 σ0 L0 σ L w) {t kt e:TypeId} {c:Call} {x:Operand} {vx:AV} (hc1:c.callee=.builtin .len) (hc2:c.args = #[x]) (hc3:c.argTypes = #[t]) (ho:o.op=.call c) (ht:P.underlying t=some (.map kt e))
    (hx:VR (ctx σ L w) vx (a.eval x)) {r:AV × Ups} (hr:(Zqa vx).run σ=some r):L3 E w0 O0 σ0 L0 P σ L w o a r.1 r.2:=by
  cases vx<;>try exact A7 hr
  case nilm =>
    have kk:=A6 hr
    subst kk
    simp only [VR] at hx
    refine B3 h (y:=goInt 0) ?_ (by simp [VR,goInt])
    simp [execOp,ho,resolve,hc1,hc2,hc3,invoke,builtin,Builtin.len_,run_underlying ht,hx]
  case mpr s g =>
    obtain ⟨en,he,ha,hg,h1⟩:=J8 hr
    unfold Zxk at h1
    split at h1
    · rename_i ks vs hc
      obtain ⟨b,hl,hy⟩:=Znb hx he ha hg
      obtain ⟨es,cl,hh,_,_,hks,hvs⟩:=Zjj h.store he ha hl hc
      have kk:=A6 h1
      subst kk
      have:=H5 hks
      simp only [List.length_map,Yf3] at this
      refine B3 h (y:=goInt ks.length) ?_ (by simp [VR,goInt])
      simp [execOp,ho,resolve,hc1,hc2,hc3,invoke,builtin,Builtin.len_,run_underlying ht,hy,getObj,Sem.run,hh,this]
    · exact A7 h1
theorem Zzj {c:Ctx} {str:Bool} {k:AV} {kv:Value} (hk:VR c k kv):∀ {ks:List AV} {i j:Nat},Zah str k ks i=some (some j)→Instr.sameBits 10000 kv kv=true:=by
  intro ks
  induction ks with
  | nil=>intro i j h;simp [Zah] at h
  | cons x ks ih =>
    intro i j h
    simp only [Zah] at h
    cases hb:Zge str k x with
    | none=>rw [hb] at h;cases h
    | some b =>
      rw [hb] at h
      cases b with
      | false=>exact ih h
      | true =>
        unfold Zge at hb
        split at hb
        · simp only [VR] at hk;subst hk;unfold Instr.sameBits;simp
        · simp only [VR] at hk;subst hk;unfold Instr.sameBits;rw [Z4m];simp
        · cases hb
theorem Zxy {c:Ctx} {x:AV} {v:Value} (hx:VR c x v):∀ {xs:List AV} {vs:List Value} {i:Nat},VRL c xs vs→VRL c (xs.set i x) (vs.set i v):=by
  intro xs
  induction xs with
  | nil=>intro vs i h;simp only [VRL] at h;subst h;simp [VRL]
  | cons y ys ih =>
    intro vs i h
    simp only [VRL] at h
    obtain ⟨u,r,rfl,h1,h2⟩:=h
    cases i with
    | zero=>simp only [List.set_cons_zero,VRL];exact ⟨v,r,rfl,hx,h2⟩
    | succ i=>simp only [List.set_cons_succ,VRL];exact ⟨u,_,rfl,h1,ih h2⟩
theorem Zl2 {c:Ctx}:∀ {xs:List AV} {vs:List Value} {i:Nat},VRL c xs vs→VRL c (xs.eraseIdx i) (vs.eraseIdx i):=by
  intro xs
  induction xs with
  | nil=>intro vs i h;simp only [VRL] at h;subst h;simp [VRL]
  | cons y ys ih =>
    intro vs i h
    simp only [VRL] at h
    obtain ⟨u,r,rfl,h1,h2⟩:=h
    cases i with
    | zero=>simpa using h2
    | succ i=>simp only [List.eraseIdx_cons_succ,VRL];exact ⟨u,_,rfl,h1,ih h2⟩
theorem Zj7 {x:AV} (hx:Zbt x=true):∀ {xs:List AV} {i:Nat},Q3 xs=true→Q3 (xs.set i x)=true:=by
  intro xs
  induction xs with
  | nil=>intro i h;simpa using h
  | cons y ys ih =>
    intro i h
    simp only [Q3,Yfz] at h
    cases i with
    | zero=>simp [Q3,hx,h.2]
    | succ i=>simp [Q3,h.1,ih h.2]
theorem Zl3 {α β:Type} (f : α → β):∀ (l:List α) (i:Nat),(l.eraseIdx i).map f=(l.map f).eraseIdx i
  | [],_=>by simp
  | _::_,0=>by simp
  | x::l,i+1=>by simp [Zl3 f l i]
theorem Zgr:∀ {xs:List AV} {i:Nat},Q3 xs=true→Q3 (xs.eraseIdx i)=true:=by
  intro xs
  induction xs with
  | nil=>intro i h;simpa using h
  | cons y ys ih =>
    intro i h
    simp only [Q3,Yfz] at h
    cases i with
    | zero=>simpa using h.2
    | succ i=>simp [Q3,h.1,ih h.2]
theorem Zgs:∀ {xs ys:List AV},Q3 xs=true→Q3 ys=true→Q3 (xs++ys)=true:=by
  intro xs
  induction xs with
  | nil=>intro ys _ h;exact h
  | cons x xs ih=>intro ys h k;simp only [Q3,Yfz] at h;simp [Q3,h.1,ih h.2 k]
theorem Z4q {c c':Ctx} {vx:AV} {y:Value} (hv:VR c vx y) {xs ys:List AV} (hc:J4 vx=some xs) (hl:ys.length=xs.length) (h:VRL c' ys y.cells.toList) (hf:Zbt (Zf2 (V7 vx) ys)=true):VR c' (Zf2 (V7 vx) ys) y:=by
  cases hx:R1 vx with
  | true =>
    have h1:xs=[vx]:=by cases vx<;>simp_all [J4,R1]
    have h2:V7 vx=false:=by cases vx<;>simp_all [V7,R1]
    subst h1
    rw [h2]
    rw [Zlz (Zj1 hv hx)] at h
    match ys,hl with
    | [z],_ =>
      simp only [VRL] at h
      obtain ⟨v,r,h3,h4,_⟩:=h
      simp only [List.cons.injEq] at h3
      simp only [Zf2]
      rw [h3.1];exact h4
  | false =>
    cases vx<;>simp [J4,R1] at hc hx
    simp only [VR] at hv
    obtain ⟨vs,rfl,h2⟩:=hv
    simp only [V7,Zf2,VR]
    exact ⟨vs,rfl,h⟩
theorem Zxz (h:Rel E w0 O0 σ0 L0 σ L w) {t kt e:TypeId} {m k x:Operand} {str:Bool} (ht:P.underlying t=some (.map kt e)) (hk:Zew P kt=some str) (ho:o.op=.mapUpdate t m k x∨o.op=.insert t m k x) {vm vk vx:AV}
    (hm:VR (ctx σ L w) vm (a.eval m)) (hkv:VR (ctx σ L w) vk (a.eval k)) (hx:VR (ctx σ L w) vx (a.eval x)) {r:AV × Ups} (hr:(Zp8 str (V7 vx) vk (J4 vx) vm).run σ=some r):L3 E w0 O0 σ0 L0 P σ L w o a r.1 r.2:=by
  obtain ⟨d,hd,hkd⟩:=Ze2 hk
  cases vm<;>try exact A7 hr
  rename_i s g
  cases hcs:J4 vx with
  | none=>rw [hcs] at hr;exact A7 hr
  | some xs =>
    rw [hcs] at hr
    simp only [Zp8] at hr
    obtain ⟨⟨ys,u,ss⟩,h1,h2⟩:=D7 hr
    obtain ⟨en,he,ha,hg,h3⟩:=J8 h2
    have hcl:=Zdk hx hcs
    obtain ⟨k1,k2,k3,k4,k5,k6⟩:=Zj4 h hcl h1
    have hyl:ys.length=xs.length:=by rw [←H5 k3,H5 hcl]
    unfold Zxi at h3
    split at h3
    · rename_i ks vs hc
      obtain ⟨⟨hrw,hfk,hfy,hns⟩,h4⟩:=G2 h3
      obtain ⟨b,hl,hy⟩:=Znb hm he ha hg
      obtain ⟨es,cl,hh,q1,q2,hks,hvs⟩:=Zjj h.store he ha hl hc
      have hsn:s∉ss:=by simpa using hns
      have he':A8 (B5 σ u) s=some en:=(k6 s hsn).trans he
      have hval:=Z4q hx hcs hyl k3 hfy
      cases hf:Zah str vk ks 0 with
      | none=>rw [hf] at h4;exact A7 h4
      | some fr =>
        rw [hf] at h4
        obtain ⟨g2,g3⟩:=Zj6 hkd hkv hks hf
        cases fr with
        | none =>
          simp only [Zin] at h4
          have kk:=A6 h4
          subst kk
          have g4:=W5 (w:=w) hd g2
          simp only [Ygj] at g4
          obtain ⟨m1,m2⟩:=Zbf hh (by simp) (.map (es.push { key:=a.eval k,val:=a.eval x,born:=cl }) (cl+1))
          obtain ⟨n1,n2⟩:=k1.updObj he' ha hrw hl (cells:=[.mp (ks++[vk]) (vs++[Zf2 (V7 vx) ys])]) m1 (fun c' hc' hw=>.inr ⟨_,_,_,_,rfl,Zgs q1 (by simp [Q3,hfk]),Zgs q2 (by simp [Q3,hfy]),by rw [hw];exact m2,
            by simpa using U4 (VRL_le (k2.trans hc') _ _ hks) (Zc2 (Y6 (k2.trans hc') _ _ hkv)),by simpa using U4 (VRL_le (k2.trans hc') _ _ hvs) (Zc2 (Y6 hc' _ _ hval))⟩)
          refine Zfn (w' := { w with heap:=w.heap.setIfInBounds b (.map (es.push { key:=a.eval k,val:=a.eval x,born:=cl }) (cl+1)) }) ?_ (by rw [C8];exact n1) (by rw [C8];exact k2.trans n2)
          rcases ho with ho|ho<;>simp [execOp,ho,Instr.mapUpdate,hy,getObj,setObj,Sem.run,hh,run_underlying ht,R3 hd hkd,g4]
        | some i =>
          obtain ⟨_,en',h5,h6⟩:=g3 i rfl
          simp only [Ygk] at h5
          simp only [Zin] at h4
          have kk:=A6 h4
          subst kk
          have g4:=W5 (w:=w) hd g2
          simp only [Yfg,Ygk,h5,Yfo] at g4
          have hsame:=Zzj hkv hf
          have hkeep:(Instr.keyThatStays (((es[i]?).map (·.key)).getD (a.eval k)) (a.eval k)).run P w=.ok (a.eval k) w:=by
            have h7:es[i]? = some en':=by rw [←Array.getElem?_toList];exact h5
            simp [Instr.keyThatStays,h7,h6,hsame]
          obtain ⟨m1,m2⟩:=Zbf hh (by simp) (.map (es.modify i fun e => { e with key:=a.eval k,val:=a.eval x }) cl)
          have hmod:(es.modify i fun e => { e with key:=a.eval k,val:=a.eval x }).toList=es.toList.set i { en' with key:=a.eval k,val:=a.eval x }:=by
            rw [Array.toList_modify]
            apply List.ext_getElem?
            intro j
            rw [List.getElem?_modify,List.getElem?_set]
            by_cases hij:i=j
            · subst hij
              rw [h5]
              have hlt:=(List.getElem?_eq_some_iff.1 h5).1
              rw [Yf3] at hlt
              simp [hlt]
            · simp [hij]
          obtain ⟨n1,n2⟩:=k1.updObj he' ha hrw hl (cells:=[.mp (ks.set i vk) (vs.set i (Zf2 (V7 vx) ys))]) m1 (fun c' hc' hw=>.inr ⟨_,_,_,_,rfl,Zj7 hfk q1,Zj7 hfy q2,by rw [hw];exact m2,
            by rw [hmod,List.map_set];exact Zxy (Y6 (k2.trans hc') _ _ hkv) (VRL_le (k2.trans hc') _ _ hks),by rw [hmod,List.map_set];exact Zxy (Y6 hc' _ _ hval) (VRL_le (k2.trans hc') _ _ hvs)⟩)
          refine Zfn (w' := { w with heap:=w.heap.setIfInBounds b (.map (es.modify i fun e => { e with key:=a.eval k,val:=a.eval x }) cl) }) ?_ (by rw [C8];exact n1) (by rw [C8];exact k2.trans n2)
          rcases ho with ho|ho<;>simp [execOp,ho,Instr.mapUpdate,hy,getObj,setObj,Sem.run,hh,run_underlying ht,R3 hd hkd,g4,hkeep]
    · exact A7 h3
theorem Ybj (h:Rel E w0 O0 σ0 L0 σ L w) {t t' kt e:TypeId} {c:Call} {m k:Operand} {str:Bool} (hc1:c.callee=.builtin .delete) (hc2:c.args = #[m,k]) (hc3:c.argTypes = #[t,t']) (ho:o.op=.call c) (ht:P.underlying t=some (.map kt e)) (hk:Zew P kt=some str) {vm vk:AV}
    (hm:VR (ctx σ L w) vm (a.eval m)) (hkv:VR (ctx σ L w) vk (a.eval k)) {r:AV × Ups} (hr:(Zp9 str vk vm).run σ=some r):L3 E w0 O0 σ0 L0 P σ L w o a r.1 r.2:=by
  obtain ⟨d,hd,hkd⟩:=Ze2 hk
  cases vm<;>try exact A7 hr
  case nilm =>
    have kk:=A6 hr
    subst kk
    simp only [VR] at hm
    refine B3 h (y:=.tuple #[]) ?_ (by simp [VR,VRL])
    simp [execOp,ho,resolve,hc1,hc2,hc3,invoke,builtin,Builtin.delete_,hm,run_underlying ht,R3 hd hkd]
  case mpr s g =>
    obtain ⟨en,he,ha,hg,h1⟩:=J8 hr
    unfold Zxj at h1
    split at h1
    · rename_i ks vs hc
      obtain ⟨hrw,h1⟩:=G2 h1
      obtain ⟨b,hl,hy⟩:=Znb hm he ha hg
      obtain ⟨es,cl,hh,q1,q2,hks,hvs⟩:=Zjj h.store he ha hl hc
      cases hf:Zah str vk ks 0 with
      | none=>rw [hf] at h1;exact A7 h1
      | some fr =>
        rw [hf] at h1
        obtain ⟨g2,g3⟩:=Zj6 hkd hkv hks hf
        cases fr with
        | none =>
          simp only [Zlp] at h1
          have kk:=A6 h1
          subst kk
          have g4:=W5 (w:=w) hd g2
          simp only [Ygj] at g4
          have hE:H9 σ s { en with cells:=[.mp ks vs] } = σ:=by rw [←hc];exact Zfr he
          obtain ⟨m1,m2⟩:=Zbf hh (by simp) (.map es cl)
          obtain ⟨n1,n2⟩:=h.updObj he ha hrw hl (cells:=[.mp ks vs]) m1 (fun c' hc' hw=>.inr ⟨_,_,_,_,rfl,q1,q2,by rw [hw];exact m2,VRL_le hc' _ _ hks,VRL_le hc' _ _ hvs⟩)
          rw [hE] at n1 n2
          refine J6 (u:=[]) (w' := { w with heap:=w.heap.setIfInBounds b (.map es cl) }) (y:=.tuple #[]) ?_ n1 n2 (by simp [VR,VRL])
          simp [execOp,ho,resolve,hc1,hc2,hc3,invoke,builtin,Builtin.delete_,hy,getObj,setObj,Sem.run,hh,run_underlying ht,R3 hd hkd,g4]
        | some i =>
          obtain ⟨_,en',h5,h6⟩:=g3 i rfl
          simp only [Ygk] at h5
          simp only [Zlp] at h1
          have kk:=A6 h1
          subst kk
          have g4:=W5 (w:=w) hd g2
          simp only [Yfg,Ygk,h5,Yfo] at g4
          obtain ⟨m1,m2⟩:=Zbf hh (by simp) (.map (es.eraseIdxIfInBounds i) cl)
          have her:(es.eraseIdxIfInBounds i).toList=es.toList.eraseIdx i:=by simp
          have hmm:∀ (f:MapEntry→Value) (l:List MapEntry),(l.eraseIdx i).map f=(l.map f).eraseIdx i:=by
            intro f l
            exact Zl3 f l i
          obtain ⟨n1,n2⟩:=h.updObj he ha hrw hl (cells:=[.mp (ks.eraseIdx i) (vs.eraseIdx i)]) m1 (fun c' hc' hw=>.inr ⟨_,_,_,_,rfl,Zgr q1,Zgr q2,by rw [hw];exact m2,
            by rw [her,hmm];exact Zl2 (VRL_le hc' _ _ hks),by rw [her,hmm];exact Zl2 (VRL_le hc' _ _ hvs)⟩)
          refine J6 (u:=[(s,{ en with cells:=[.mp (ks.eraseIdx i) (vs.eraseIdx i)] })]) (w' := { w with heap:=w.heap.setIfInBounds b (.map (es.eraseIdxIfInBounds i) cl) }) (y:=.tuple #[]) ?_ n1 n2 (by simp [VR,VRL])
          simp [execOp,ho,resolve,hc1,hc2,hc3,invoke,builtin,Builtin.delete_,hy,getObj,setObj,Sem.run,hh,run_underlying ht,R3 hd hkd,g4]
    · exact A7 h1
end Cod
namespace Cod
open Go
variable {E:Env} {w0:World} {O0:Nat→Prop} {σ0:A2} {L0:Lay} {P:Program} {σ:A2} {L:Lay} {w:World} {o:Oper} {a:Act}
theorem lowO2 {x y:Operand} {f:LO→LO→LOp} {lop:LOp} (h:(match K3 x,K3 y with|some a,some b=>some (f a b)|_,_=>none)=some lop):∃ a b,K3 x=some a∧K3 y=some b∧lop=f a b:=by
  split at h
  · rename_i a b h1 h2;exact ⟨a,b,h1,h2,(Option.some.inj h).symm⟩
  · cases h
theorem Z4 {lo:Option Operand} {l:List LO} (h:Zc3 lo.toList=some l) {c:Ctx} {ρ:LO→AV} {ev:Operand→Value} (hρ:∀ x lx,K3 x=some lx→VR c (ρ lx) (ev x)) :
    (l.head? = none∧lo=none)∨∃ u v,l.head? = some u∧lo=some v∧VR c (ρ u) (ev v):=by
  cases lo with
  | none=>simp only [Option.toList,Zc3,Option.some.injEq] at h;subst h;exact .inl ⟨rfl,rfl⟩
  | some x =>
    simp only [Option.toList,Zc3] at h
    cases hx:K3 x with
    | none=>rw [hx] at h;cases h
    | some u=>rw [hx] at h;simp only [Option.some.injEq] at h;subst h;exact .inr ⟨u,x,rfl,rfl,hρ x u hx⟩
theorem Zi9 {α:Type} {xs:Array α} {x : α} (h:xs.toList=[x]):xs = #[x]:=by
  apply Array.ext';simpa using h
theorem Zf0 {α:Type} {xs:Array α} {x y : α} (h:xs.toList=[x,y]):xs = #[x,y]:=by
  apply Array.ext';simpa using h
theorem R4 {t e:TypeId} (h:Zev P t=some e):P.underlying t=some (.slice e):=by
  unfold Zev at h
  split at h
  · cases h;assumption
  · cases h
theorem Zx0 (h:Rel E w0 O0 σ0 L0 σ L w) {op:BinOp} {neg:Bool} (hop:(op=.eql∧neg=false)∨(op=.neq∧neg=true)) {t t':TypeId} {x y:Operand} (ho:o.op=.binOp op t x y t') {ρ:LO→AV}
    (hρ:∀ x lx,K3 x=some lx→VR (ctx σ L w) (ρ lx) (a.eval x)) {lop:LOp} (hl:Zxm P op neg t x y=some lop) {call:M9} {d:Nat} {r:AV × Ups} (hr:(step call ρ d lop).run σ=some r):L3 E w0 O0 σ0 L0 P σ L w o a r.1 r.2:=by
  unfold Zxm at hl
  split at hl
  · rename_i lx ly h1 h2
    split at hl
    · cases hl;exact Zto h ho (hρ _ _ h1) (hρ _ _ h2) hr
    · cases hl;exact Zto h ho (hρ _ _ h1) (hρ _ _ h2) hr
    · rename_i hu;cases hl;exact ok_eqb h hop hu ho (hρ _ _ h1) (hρ _ _ h2) hr
    · rename_i e hu;cases hl;exact Zjy h hop hu (kd:=0) ⟨e,rfl⟩ (by simp) ho (hρ _ _ h1) (hρ _ _ h2) hr
    · rename_i e hu;cases hl;exact Zjy h hop hu (kd:=1) ⟨e,rfl⟩ (by simp) ho (hρ _ _ h1) (hρ _ _ h2) hr
    · rename_i k e hu;cases hl;exact Zjy h hop hu (kd:=2) ⟨k,e,rfl⟩ (by simp) ho (hρ _ _ h1) (hρ _ _ h2) hr
    · rename_i p q v hu;cases hl;exact Zjy h hop hu (kd:=3) ⟨p,q,v,rfl⟩ (by simp) ho (hρ _ _ h1) (hρ _ _ h2) hr
    · rename_i ms hu
      split at hl
      · rename_i hc
        cases hl
        refine Zjy h hop hu (kd:=4) ⟨ms,rfl⟩ (fun _=>?_) ho (hρ _ _ h1) (hρ _ _ h2) hr
        rw [Bool.or_eq_true] at hc
        rcases hc with hc|hc
        · left;cases x<;>first|exact ⟨_,rfl⟩|(simp [Zjh] at hc;done)
        · right;cases y<;>first|exact ⟨_,rfl⟩|(simp [Zjh] at hc;done)
      · cases hl
    · rename_i fs hu
      split at hl
      · rename_i ks hk
        split at hl
        · cases hl
        · rename_i hg;cases hl;exact Z4j h hop (.inl ⟨fs,hu⟩) hk (by simpa using hg) ho (hρ _ _ h1) (hρ _ _ h2) hr
      · cases hl
    · rename_i n e hu
      split at hl
      · rename_i ks hk
        split at hl
        · cases hl
        · rename_i hg;cases hl;exact Z4j h hop (.inr ⟨n,e,hu⟩) hk (by simpa using hg) ho (hρ _ _ h1) (hρ _ _ h2) hr
      · cases hl
    · cases hl
  · cases hl
theorem Ybk (h:Rel E w0 O0 σ0 L0 σ L w) {sl loc:List (Nat × AV)} {N:Nat} (hfr:Fr (ctx σ L w) (P2 sl loc) N a) {A:Ann} {lop:LOp} (hl:Zlx P A o=some lop) {call:M9}
    (HC:∀ (c:Call) (f:Operand) (lf:LO) (las:List LO) (take:List Nat),o.op=.call c→c.callee=.value f→K3 f=some lf→Zc3 c.args.toList=some las →
      ∀ r,(Zgh call (U2 o.dst) take (las.map (evR E sl loc)) (evR E sl loc lf)).run σ=some r→L3 E w0 O0 σ0 L0 P σ L w o a r.1 r.2)
    {r:AV × Ups} (hr:(step call (evR E sl loc) (U2 o.dst) lop).run σ=some r):L3 E w0 O0 σ0 L0 P σ L w o a r.1 r.2:=by
  have hρ:∀ x lx,K3 x=some lx→VR (ctx σ L w) (evR E sl loc lx) (a.eval x):=fun x lx hx=>Zxt hfr (fun n=>(h.glob n).1) hx
  unfold Zlx at hl
  split at hl
  · -- a nil slice
    rename_i hop
    simp only [Yf5,Yfp] at hl
    obtain ⟨e,h1,sz,h2,rfl⟩:=hl
    exact Z4b h (.inl hop) rfl hr
  · rename_i hop
    simp only [Yf5,Yfp] at hl
    obtain ⟨e,h1,sz,h2,rfl⟩:=hl
    exact Z4b h (.inr hop) rfl hr
  · rename_i x _ hop
    simp only [Yfp] at hl
    obtain ⟨lx,h1,rfl⟩:=hl
    exact Z4h h (.inl hop) (hρ _ _ h1) hr
  · rename_i x _ hop
    simp only [Yfp] at hl
    obtain ⟨lx,h1,rfl⟩:=hl
    exact Z4h h (.inr hop) (hρ _ _ h1) hr
  · -- pick
    rename_i hop
    split at hl
    · rename_i h1 h2 h3;cases hl;exact Ya9 h hop (hρ _ _ h1) (hρ _ _ h2) (hρ _ _ h3) hr
    · cases hl
  · -- alloc
    rename_i hop
    simp only [Yfp] at hl
    obtain ⟨z,h1,rfl⟩:=hl
    exact ok_new h h1 hop hr
  · rename_i hop
    simp only [Yfp] at hl
    obtain ⟨lx,h1,rfl⟩:=hl
    exact ok_box h (hρ _ _ h1) hop hr
  · -- build
    rename_i t parts hop
    split at hl
    · rename_i fs z hu hz
      simp only [Yf5,Yfp] at hl
      obtain ⟨places,h1,lps,h2,rfl⟩:=hl
      exact Zqn h hz hop hρ h2 (.inl ⟨fs,places,hu,h1,rfl⟩) hr
    · rename_i n e z hu hz
      simp only [Yf5,Yfp] at hl
      obtain ⟨m,h1,lps,h2,rfl⟩:=hl
      exact Zqn h hz hop hρ h2 (.inr ⟨n,e,m,hu,h1,rfl⟩) hr
    · cases hl
  · -- buildSlice
    rename_i t len parts hop
    simp only [Yf5] at hl
    obtain ⟨e,h1,hl⟩:=hl
    split at hl
    · rename_i n z hs hz
      split at hl
      · cases hl
      · rename_i hc
        simp only [Yfp] at hl
        obtain ⟨lps,h2,rfl⟩:=hl
        simp only [not_or,Decidable.not_not,Nat.not_lt] at hc
        exact Zzg h (R4 h1) hs hz hc.2.1 hc.1 hc.2.2 hop hρ h2 hr
    · cases hl
  · -- load
    rename_i hop
    split at hl
    · rename_i h1 h2;cases hl;exact ok_ld h hop h1 (hρ _ _ h2) hr
    · cases hl
  · -- store
    rename_i hop
    split at hl
    · rename_i h1 h2 h3;cases hl;exact ok_st h hop h1 (hρ _ _ h2) (hρ _ _ h3) hr
    · cases hl
  · rename_i hop
    simp only [Yfp] at hl
    obtain ⟨lx,h1,rfl⟩:=hl
    exact Z37 h hop (hρ _ _ h1) hr
  · -- binOp
    rename_i op t x y t' hop
    split at hl
    · exact Zx0 h (.inl ⟨rfl,rfl⟩) hop hρ hl hr
    · exact Zx0 h (.inr ⟨rfl,rfl⟩) hop hρ hl hr
    · split at hl
      · rename_i h1 h2;cases hl;exact Zto h hop (hρ _ _ h1) (hρ _ _ h2) hr
      · cases hl
  · rename_i hop
    simp only [Yfp] at hl
    obtain ⟨lx,h1,rfl⟩:=hl
    exact ok_un h hop (hρ _ _ h1) hr
  · -- convert
    rename_i src dst x hop
    unfold Zjv at hl
    split at hl
    · rename_i h1 h2 h3;cases hl;exact ok_cvi h h2 h3 hop (hρ _ _ h1) hr
    · rename_i h1 h2 h3;cases hl;exact ok_s2s h h2 h3 hop (hρ _ _ h1) hr
    · rename_i h1 h2 h3;cases hl;exact ok_r2s h h2 h3 hop (hρ _ _ h1) hr
    · rename_i h1 h2 h3
      split at hl
      · rename_i hu;cases hl;exact ok_s2b h h2 h3 hu hop (hρ _ _ h1) hr
      · cases hl
    · rename_i h1 h2 h3
      split at hl
      · rename_i hu;cases hl;exact ok_b2s h h2 hu h3 hop (hρ _ _ h1) hr
      · cases hl
    · rename_i h1 h2 h3
      split at hl
      · rename_i hu
        cases hl
        simp only [Yfz,beq_iff_eq] at hu
        obtain ⟨rfl,hu⟩:=hu
        exact ok_b2b h h3 hu hop (hρ _ _ h1) hr
      · cases hl
    · cases hl
  · -- slice to array pointer
    rename_i arr x hop
    split at hl
    · rename_i n e hu
      split at hl
      · rename_i sz lx h1 h2
        split at hl
        · cases hl
        · cases hl;exact ok_s2a h hu hop (hρ _ _ h2) hr
      · cases hl
    · cases hl
  · -- makeInterface
    rename_i t x hop
    split at hl
    · cases hl
    · cases hl
    · rename_i h1 h2
      simp only [Yfp] at hl
      obtain ⟨lx,h3,rfl⟩:=hl
      cases hd:P.underlying t with
      | none=>exact absurd hd h2
      | some d=>exact Yba h hd (fun ms hm=>h1 ms (by rw [hd,hm])) hop (hρ _ _ h3) hr
  · -- makeFunc
    rename_i f first cap hop
    split at hl
    · rename_i hf
      simp only [Yfp] at hl
      obtain ⟨las,h1,rfl⟩:=hl
      exact Ybb h (by simpa using hf) hop (Z35 hfr (fun n=>(h.glob n).1) h1) hr
    · cases hl
  · -- makeSlice
    rename_i t l c hop
    simp only [Yf5] at hl
    obtain ⟨e,h1,hl⟩:=hl
    split at hl
    · rename_i n b z ll lc hs hb hz h2 h3
      split at hl
      · cases hl
      · rename_i hc
        cases hl
        simp only [not_or,Decidable.not_not] at hc
        exact ok_mks h (R4 h1) hs hb hz hc.2 hc.1 hop (hρ _ _ h2) (hρ _ _ h3) hr
    · cases hl
  · -- slice
    rename_i t x lo hi hop
    unfold Zqi at hl
    split at hl
    · rename_i lx llo lhi h1 h2 h3
      split at hl
      · rename_i n e hu
        simp only [Yf5] at hl
        obtain ⟨sz,hs,hl⟩:=hl
        split at hl
        · cases hl
        · cases hl
          exact ok_sl h (arr:=some n) ⟨e,hu,hs⟩ hop (hρ _ _ h1) (Z4 h2 hρ) (Z4 h3 hρ) hr
      · rename_i hu
        cases hl
        exact ok_sls h hu hop (hρ _ _ h1) (Z4 h2 hρ) (Z4 h3 hρ) hr
      · rename_i e hu
        simp only [Yf5] at hl
        obtain ⟨sz,hs,hl⟩:=hl
        split at hl
        · cases hl
        · cases hl
          exact ok_sl h (arr:=none) ⟨e,hu,hs⟩ hop (hρ _ _ h1) (Z4 h2 hρ) (Z4 h3 hρ) hr
      · cases hl
    · cases hl
  · -- slice with room
    rename_i t x lo hi mx hop
    unfold Z32 at hl
    split at hl
    · rename_i lx llo lhi lmx h1 h2 h3 h4
      split at hl
      · rename_i e hu
        simp only [Yf5] at hl
        obtain ⟨sz,hs,hl⟩:=hl
        split at hl
        · cases hl
        · cases hl
          exact ok_slm h hu hs hop (hρ _ _ h1) (Z4 h2 hρ) (hρ _ _ h3) (hρ _ _ h4) hr
      · cases hl
    · cases hl
  · -- fieldAddr
    rename_i s x i hop
    split at hl
    · rename_i fs hu
      split at hl
      · rename_i f hf
        split at hl
        · rename_i n lx hs h1
          split at hl
          · cases hl
          · rename_i hn;cases hl;exact ok_fa h hu hf hs hn hop (hρ _ _ h1) hr
        · cases hl
      · cases hl
    · cases hl
  · -- field
    rename_i s x i hop
    split at hl
    · rename_i fs hu
      split at hl
      · rename_i f hf
        split at hl
        · rename_i n lx hs h1;cases hl;exact ok_fld h hu hf hs hop (hρ _ _ h1) hr
        · cases hl
      · cases hl
    · cases hl
  · -- indexAddr
    rename_i t x i hop
    split at hl
    · rename_i n e lx li hu h1 h2
      simp only [Yfp] at hl
      obtain ⟨sz,hs,rfl⟩:=hl
      exact ok_ia h (arr:=some n) hs hu hop (hρ _ _ h1) (hρ _ _ h2) hr
    · rename_i e lx li hu h1 h2
      simp only [Yfp] at hl
      obtain ⟨sz,hs,rfl⟩:=hl
      exact ok_ia h (arr:=none) hs hu hop (hρ _ _ h1) (hρ _ _ h2) hr
    · cases hl
  · -- index
    rename_i t x i hop
    split at hl
    · rename_i n e lx li hu h1 h2
      split at hl
      · rename_i sz g hs hg;cases hl;exact Zzd h hu hs hg hop (hρ _ _ h1) (hρ _ _ h2) hr
      · cases hl
    · rename_i lx li hu h1 h2
      cases hl
      exact Zzc h hu hop (hρ _ _ h1) (hρ _ _ h2) hr
    · cases hl
  · -- extract
    rename_i hop
    simp only [Yfp] at hl
    obtain ⟨lx,h1,rfl⟩:=hl
    exact ok_ext h hop (hρ _ _ h1) hr
  · cases hl;exact A7 hr
  · -- range
    rename_i hop
    split at hl
    · rename_i ht
      simp only [Yfp] at hl
      obtain ⟨lx,h1,rfl⟩:=hl
      exact ok_rng h ht hop (hρ _ _ h1) hr
    · cases hl
  · -- next
    rename_i x str hop
    split at hl
    · rename_i ht
      simp only [Yfp] at hl
      obtain ⟨lx,h1,rfl⟩:=hl
      subst ht
      exact ok_nxt h hop (hρ _ _ h1) hr
    · cases hl
  · rename_i hop;cases hl;exact Z4p h hop hr
  · rename_i t x hop
    split at hl
    · rename_i kt et lx hu h1
      cases hl
      have hx:=hρ _ _ h1
      cases hv:evR E sl loc lx<;>simp only [step,hv,Zjg] at hr<;>try exact A7 hr
      rw [hv] at hx
      exact Zzi h hu hop hx hr
    · cases hl
  · -- lookup
    rename_i hop
    unfold Zxq at hl
    split at hl
    · rename_i kt e lm lk hu h1 h2
      split at hl
      · rename_i str z h3 h4;cases hl;exact Ybh h hu h3 h4 hop (hρ _ _ h1) (hρ _ _ h2) hr
      · cases hl
    · cases hl
  · -- mapUpdate
    rename_i hop
    unfold Zm4 at hl
    split at hl
    · rename_i kt e lm lk lx hu h1 h2 h3
      simp only [Yfp] at hl
      obtain ⟨str,h4,rfl⟩:=hl
      exact Zxz h hu h4 (.inl hop) (hρ _ _ h1) (hρ _ _ h2) (hρ _ _ h3) hr
    · cases hl
  · rename_i hop
    unfold Zm4 at hl
    split at hl
    · rename_i kt e lm lk lx hu h1 h2 h3
      simp only [Yfp] at hl
      obtain ⟨str,h4,rfl⟩:=hl
      exact Zxz h hu h4 (.inr hop) (hρ _ _ h1) (hρ _ _ h2) (hρ _ _ h3) hr
    · cases hl
  · -- call
    rename_i c hop
    split at hl
    · rename_i f hf
      unfold Zxn at hl
      split at hl
      · rename_i lf las h1 h2
        cases hl
        exact HC c f lf las _ hop hf h1 h2 r hr
      · cases hl
    · -- append
      rename_i hc
      unfold Zlw at hl
      split at hl
      · rename_i s x ts tx h1 h2
        split at hl
        · rename_i e ls lx h3 h4 h5
          split at hl
          · rename_i sz b z hs hb hz
            split at hl
            · cases hl
            · rename_i hcond
              simp only [not_or,Decidable.not_not] at hcond
              split at hl
              · rename_i k hk
                cases hl
                exact Ybf h hc (Zf0 h1) (Zf0 h2) hop (R4 h3) hs hb hz hcond.2.2 hcond.2.1 hcond.1 hk (hρ _ _ h4) (hρ _ _ h5) hr
              · rename_i hk
                cases hl
                cases hkp:Ztk A o.dst<;>rw [hkp] at hr
                · exact Z4g h hc (Zf0 h1) (Zf0 h2) hop (R4 h3) hs hb hz hcond.2.2 hcond.2.1 (.inl hk) (hρ _ _ h4) (hρ _ _ h5) hr
                · exact Zxx h hc (Zf0 h1) (Zf0 h2) hop (R4 h3) hs hb hz hcond.2.2 hcond.2.1 (.inl hk) (hρ _ _ h4) (hρ _ _ h5) hr
              · rename_i e' hk
                cases hl
                cases hkp:Ztk A o.dst<;>rw [hkp] at hr
                · exact Z4g h hc (Zf0 h1) (Zf0 h2) hop (R4 h3) hs hb hz hcond.2.2 hcond.2.1 (.inr ⟨e',hk⟩) (hρ _ _ h4) (hρ _ _ h5) hr
                · exact Zxx h hc (Zf0 h1) (Zf0 h2) hop (R4 h3) hs hb hz hcond.2.2 hcond.2.1 (.inr ⟨e',hk⟩) (hρ _ _ h4) (hρ _ _ h5) hr
              · cases hl
          · cases hl
        · cases hl
      · cases hl
    · -- len
      rename_i hc
      unfold Z31 at hl
      split at hl
      · rename_i x t h1 h2
        split at hl
        · rename_i n e lx hu h3;cases hl;exact Ztp h (arr:=some n) hc (Zi9 h1) (Zi9 h2) (.inl hu) hop (hρ _ _ h3) hr
        · rename_i lx hu h3;cases hl;exact Ybc h hc (Zi9 h1) (Zi9 h2) hu hop (hρ _ _ h3) hr
        · rename_i e lx hu h3;cases hl;exact Ztp h (arr:=none) (t':=0) hc (Zi9 h1) (Zi9 h2) ⟨e,hu⟩ hop (hρ _ _ h3) hr
        · rename_i kt e lx hu h3;cases hl;exact Ybi h hc (Zi9 h1) (Zi9 h2) hop hu (hρ _ _ h3) hr
        · rename_i p lx hu h3
          split at hl
          · rename_i n e hu2;cases hl;exact Ztp h (arr:=some n) hc (Zi9 h1) (Zi9 h2) (.inr ⟨p,hu,hu2⟩) hop (hρ _ _ h3) hr
          · cases hl
        · cases hl
      · cases hl
    · rename_i hc
      unfold low2 at hl
      split at hl
      · rename_i x y h1
        obtain ⟨la,lb,h2,h3,rfl⟩:=lowO2 hl
        exact ok_min h hc (Zf0 h1) hop (hρ _ _ h2) (hρ _ _ h3) hr
      · cases hl
    · rename_i hc
      unfold low2 at hl
      split at hl
      · rename_i x y h1
        obtain ⟨la,lb,h2,h3,rfl⟩:=lowO2 hl
        exact ok_max h hc (Zf0 h1) hop (hρ _ _ h2) (hρ _ _ h3) hr
      · cases hl
    · -- copy
      rename_i hc
      unfold Zxo at hl
      split at hl
      · rename_i d s td ts h1 h2
        split at hl
        · rename_i e ld ls h3 h4 h5
          split at hl
          · rename_i sz hs
            split at hl
            · cases hl
            · cases hl
              exact Ybg h hc (Zf0 h1) (Zf0 h2) hop (R4 h3) hs (hρ _ _ h4) (hρ _ _ h5) hr
          · cases hl
        · cases hl
      · cases hl
    · -- cap
      rename_i hc
      split at hl
      · rename_i x t h1 h2
        split at hl
        · rename_i e lx h3 h4;cases hl;exact ok_cap h hc (Zi9 h1) (Zi9 h2) hop (R4 h3) (hρ _ _ h4) hr
        · cases hl
      · cases hl
    · -- delete
      rename_i hc
      unfold Zxr at hl
      split at hl
      · rename_i m k t t' h1 h2
        split at hl
        · rename_i kt e lm lk hu h3 h4
          simp only [Yfp] at hl
          obtain ⟨str,h5,rfl⟩:=hl
          exact Ybj h hc (Zf0 h1) (Zf0 h2) hop hu h5 (hρ _ _ h3) (hρ _ _ h4) hr
        · cases hl
      · cases hl
    · cases hl;exact A7 hr
    · cases hl
  · cases hl
end Cod
namespace Cod
open Go
variable {E:Env} {w0:World} {O0:Nat→Prop} {σ0:A2} {L0:Lay} {P:Program} {σ:A2} {L:Lay} {w:World} {o:Oper} {a:Act}
abbrev Zbg:=Site→Nat→Option (Site × Nat)
def RN (c c':Ctx) (f:Zbg):Prop :=
  ∀ s g s' g',f s g=some (s',g')→∀ g0 al,c.T s=some (g0,al)→g≤g0 →
    ∃ g0' al',c'.T s'=some (g0',al')∧g'≤g0'∧(al'=true→g'=g0'→al=true∧g=g0∧c'.L s'=c.L s)
theorem Zzk {c c':Ctx} {s s':Site} (hr:∀ b k,Zaf c.w b k→Zaf c'.w b k) (hl:c'.L s'=c.L s) {off n z:Nat} {y:Value} (hb:L5 c s off n z y):L5 c' s' off n z y:=by
  unfold L5 at *
  rw [hl]
  split at hb
  · rcases hb with ⟨h1,h2,h3⟩|⟨cap,h1,h2,h3⟩
    · exact .inl ⟨h1,hr _ _ h2,h3⟩
    · exact .inr ⟨cap,h1,h2,hr _ _ h3⟩
  · exact hb
mutual
theorem Zf7 {c c':Ctx} {f:Zbg} {K:Prop} (hK:K→CFl c c') (hr:RN c c' f) (hm:∀ b k,Zaf c.w b k→Zaf c'.w b k):∀ (x:AV) (v:Value),(K∨leads x=false)→VR c x v→VR c' (ren f x) v
  | .junk,_,_,_=>by simp [ren,VR]
  | .und,_,_,hv=>by simpa [ren,VR] using hv
  | .int _ _,_,_,hv=>by simpa [ren,VR] using hv
  | .bool _,_,_,hv=>by simpa [ren,VR] using hv
  | .str _,_,_,hv=>by simpa [ren,VR] using hv
  | .nilp,_,_,hv=>by simpa [ren,VR] using hv
  | .nils,_,_,hv=>by simpa [ren,VR] using hv
  | .nilf,_,_,hv=>by simpa [ren,VR] using hv
  | .nili,_,_,hv=>by simpa [ren,VR] using hv
  | .nilm,_,_,hv=>by simpa [ren,VR] using hv
  | .any _,_,_,hv=>by simpa [ren,VR] using hv
  | .agg cs,v,h,hv=>by
    simp only [ren,VR] at hv ⊢
    obtain ⟨vs,h1,h2⟩:=hv
    exact ⟨vs,h1,rens_VRL hK hr hm cs _ (by simpa [leads] using h) h2⟩
  | .tup cs,v,h,hv=>by
    simp only [ren,VR] at hv ⊢
    obtain ⟨vs,h1,h2⟩:=hv
    exact ⟨vs,h1,rens_VRL hK hr hm cs _ (by simpa [leads] using h) h2⟩
  | .lst cs n,v,h,hv=>by
    simp only [ren]
    rcases h with h|h
    · exact Zfq (hK h) (by simp [M1]) hv
    · simp [leads] at h
  | .fp cs off,v,h,hv=>by
    simp only [ren]
    rcases h with h|h
    · exact Zfq (hK h) (by simp [M1]) hv
    · simp [leads] at h
  | .ref s g off,v,h,hv=>by
    simp only [ren]
    cases hf:f s g with
    | none=>simp [VR]
    | some p =>
      obtain ⟨s',g'⟩:=p
      simp only [VR] at hv ⊢
      obtain ⟨hone,g0,al,h1,h2,h3⟩:=hv
      obtain ⟨g0',al',k1,k2,k3⟩:=hr s g s' g' hf g0 al h1 h2
      refine ⟨hone,g0',al',k1,k2,fun ha hg=>?_⟩
      obtain ⟨a1,a2,a3⟩:=k3 ha hg
      rw [a3]
      obtain ⟨b,o,e1,e2,e3⟩:=h3 a1 a2
      exact ⟨b,o,e1,e2,hm _ _ e3⟩
  | .it s g,v,h,hv=>by
    simp only [ren]
    cases hf:f s g with
    | none=>simp [VR]
    | some p =>
      obtain ⟨s',g'⟩:=p
      simp only [VR] at hv ⊢
      obtain ⟨g0,al,h1,h2,h3⟩:=hv
      obtain ⟨g0',al',k1,k2,k3⟩:=hr s g s' g' hf g0 al h1 h2
      refine ⟨g0',al',k1,k2,fun ha hg=>?_⟩
      obtain ⟨a1,a2,a3⟩:=k3 ha hg
      rw [a3]
      exact h3 a1 a2
  | .mpr s g,v,h,hv=>by
    simp only [ren]
    cases hf:f s g with
    | none=>simp [VR]
    | some p =>
      obtain ⟨s',g'⟩:=p
      simp only [VR] at hv ⊢
      obtain ⟨h0,g0,al,h1,h2,h3⟩:=hv
      obtain ⟨g0',al',k1,k2,k3⟩:=hr s g s' g' hf g0 al h1 h2
      refine ⟨h0,g0',al',k1,k2,fun ha hg=>?_⟩
      obtain ⟨a1,a2,a3⟩:=k3 ha hg
      rw [a3]
      exact h3 a1 a2
  | .itr _ _,_,_,hv=>by simp [VR] at hv
  | .mp _ _,_,_,hv=>by simp [VR] at hv
  | .buf s g off n z,v,h,hv=>by
    simp only [ren]
    cases hf:f s g with
    | none=>simp [VR]
    | some p =>
      obtain ⟨s',g'⟩:=p
      simp only [VR] at hv ⊢
      obtain ⟨hone,g0,al,h1,h2,h3⟩:=hv
      obtain ⟨g0',al',k1,k2,k3⟩:=hr s g s' g' hf g0 al h1 h2
      refine ⟨hone,g0',al',k1,k2,fun ha hg=>?_⟩
      obtain ⟨a1,a2,a3⟩:=k3 ha hg
      exact Zzk hm a3 (h3 a1 a2)
  | .clo g cap,v,h,hv=>by
    simp only [ren,VR] at hv ⊢
    obtain ⟨vs,h1,h2⟩:=hv
    exact ⟨vs,h1,rens_VRL hK hr hm cap _ (by simpa [leads] using h) h2⟩
  | .ifc t x,v,h,hv=>by
    simp only [ren,VR] at hv ⊢
    obtain ⟨u,h1,h2⟩:=hv
    exact ⟨u,h1,Zf7 hK hr hm x u (by simpa [leads] using h) h2⟩
theorem rens_VRL {c c':Ctx} {f:Zbg} {K:Prop} (hK:K→CFl c c') (hr:RN c c' f) (hm:∀ b k,Zaf c.w b k→Zaf c'.w b k):∀ (xs:List AV) (vs:List Value),(K∨leadss xs=false)→VRL c xs vs→VRL c' (rens f xs) vs
  | [],_,_,hv=>by simpa [rens,VRL] using hv
  | x::xs,vs,h,hv=>by
    simp only [rens,VRL] at hv ⊢
    simp only [leadss,Ygl] at h
    obtain ⟨v,r,h1,h2,h3⟩:=hv
    exact ⟨v,r,h1,Zf7 hK hr hm x v (h.imp id (·.1)) h2,rens_VRL hK hr hm xs r (h.imp id (·.2)) h3⟩
end
theorem Ze3 {f:Zbg}:∀ {xs:List AV},(rens f xs).length=xs.length:=by
  intro xs
  induction xs with
  | nil=>rfl
  | cons x xs ih=>simp [rens,ih]
theorem Z4r {f:Zbg}:∀ {xs:List AV} {i:Nat},(rens f xs)[i]? = (xs[i]?).map (ren f):=by
  intro xs
  induction xs with
  | nil=>intro i;simp [rens]
  | cons x xs ih=>intro i;cases i with|zero=>simp [rens]|succ i=>simp [rens,ih]
theorem Ztx:∀ {xs:List AV} {i:Nat} {x:AV},leadss xs=false→xs[i]? = some x→leads x=false:=by
  intro xs
  induction xs with
  | nil=>intro i x _ h;simp at h
  | cons y ys ih =>
    intro i x h hx
    simp only [leadss,Ygl] at h
    cases i with
    | zero=>simp at hx;subst hx;exact h.1
    | succ i=>exact ih h.2 (by simpa using hx)
theorem Zj8 {c c':Ctx} {f:Zbg} {K:Prop} (hK:K→CFl c c') (hr:RN c c' f) (hm:∀ b k,Zaf c.w b k→Zaf c'.w b k) {b o':Nat} (hc:∀ i,c'.w.cell? ⟨b,i,none⟩=c.w.cell? ⟨b,i,none⟩) {xs:List AV} (h:K∨leadss xs=false) (hv:VRC c b o' xs):VRC c' b o' (rens f xs):=by
  refine Q5 fun i x hx=>?_
  rw [Z4r] at hx
  simp only [Yfp] at hx
  obtain ⟨y,h1,rfl⟩:=hx
  obtain ⟨v,h2,h3⟩:=Za7 hv h1
  exact ⟨v,by rw [hc];exact h2,Zf7 hK hr hm y v (h.imp id (Ztx · h1)) h3⟩
mutual
theorem Zgt {f:Zbg}:∀ (x:AV),M1 x=true→ren f x=x
  | .junk,_=>rfl
  | .und,_=>rfl
  | .int _ _,_=>rfl
  | .bool _,_=>rfl
  | .str _,_=>rfl
  | .nilp,_=>rfl
  | .nils,_=>rfl
  | .nilf,_=>rfl
  | .nili,_=>rfl
  | .nilm,_=>rfl
  | .any _,_=>rfl
  | .agg _,h=>by simp [M1] at h
  | .tup _,h=>by simp [M1] at h
  | .lst _ _,_=>rfl
  | .fp _ _,_=>rfl
  | .ref ..,h=>by simp [M1] at h
  | .buf ..,h=>by simp [M1] at h
  | .it ..,h=>by simp [M1] at h
  | .itr ..,h=>by simp [M1] at h
  | .mpr ..,h=>by simp [M1] at h
  | .mp ..,h=>by simp [M1] at h
  | .clo g cs,h=>by simp only [M1] at h;simp only [ren,rens_flats cs h]
  | .ifc t x,h=>by simp only [M1] at h;simp only [ren,Zgt x h]
theorem rens_flats {f:Zbg}:∀ (xs:List AV),flats xs=true→rens f xs=xs
  | [],_=>rfl
  | x::xs,h=>by simp only [flats,Yfz] at h;simp only [rens,Zgt x h.1,rens_flats xs h.2]
end
theorem Zit {f:Zbg}:∀ (xs:List AV),Q3 xs=true→rens f xs=xs:=by
  intro xs
  induction xs with
  | nil=>intro _;rfl
  | cons x xs ih =>
    intro h
    simp only [Q3,Yfz] at h
    simp only [rens,ih h.2]
    have h1:=h.1
    unfold Zbt at h1
    split at h1
    · simp only [ren,rens_flats _ h1]
    · rw [Zgt _ h1]
theorem Z8.ren {c c':Ctx} {f:Zbg} {K:Prop} (hK:K→CFl c c') (hr:RN c c' f) (hm:∀ b k,Zaf c.w b k→Zaf c'.w b k) {b:Nat} {e e':Ent} (hb:c'.w.heap[b]? = c.w.heap[b]?) (hl:K∨leadss e.cells=false)
    (he:e'.cells=rens f e.cells) (h:Z8 c b e):Z8 c' b e':=by
  rcases h with ⟨s,p,h0,h1⟩|⟨ks,vs,es,cl,h0,hk,hv,h1,h2,h3⟩
  · exact .inl ⟨s,p,by rw [he,h0];rfl,hb.trans h1⟩
  · have hl':K∨(leadss ks=false∧leadss vs=false):=hl.imp id fun h=>by
      rw [h0] at h
      simpa [leadss,leads] using h
    refine .inr ⟨ks,vs,es,cl,by rw [he,h0];rfl,hk,hv,hb.trans h1,?_,?_⟩
    · have:=rens_VRL hK hr hm ks _ (hl'.imp id (·.1)) h2
      rwa [Zit _ hk] at this
    · have:=rens_VRL hK hr hm vs _ (hl'.imp id (·.2)) h3
      rwa [Zit _ hv] at this
theorem Zty (h:StoreOK σ L w) {x y:AV} {v:Value} {ss:List Site} (hv:VR (ctx σ L w) x v) (hr:(Zbc x).run σ=some (y,ss)) (f:Zbg):ren f y=y:=by
  let c0:Ctx:=⟨fun _=>none,fun _=>none,fun _=>False,w⟩
  have h1:=fun {x y:AV} {v:Value} {ss:List Site} (hv:VR (ctx σ L w) x v) (hr:(V4 x).run σ=some (y,ss))=>(Zj3 h hv hr (c':=c0) rfl (fun _ _ h=>h.elim) (fun _ _ _ h=>h)).2
  have h2:=fun {x y:List AV} {v:List Value} {ss:List Site} (hv:VRL (ctx σ L w) x v) (hr:(views x).run σ=some (y,ss))=>(Zgo h (c':=c0) rfl (fun _ _ h=>h.elim) hv hr (fun _ _ _ h=>h)).2
  cases x<;>simp only [Zbc] at hr<;>try exact Zgt _ (h1 hv hr)
  case agg cs =>
    simp only [VR] at hv
    obtain ⟨vs,rfl,hv⟩:=hv
    by_cases hc:flats cs=true
    · rw [if_pos hc] at hr
      have k:=A6 hr
      simp only [Prod.mk.injEq] at k
      obtain ⟨rfl,rfl⟩:=k
      simp only [ren,rens_flats cs hc]
    · rw [if_neg hc] at hr
      obtain ⟨p,k1,k2⟩:=D7 hr
      have k:=A6 k2
      simp only [Prod.mk.injEq] at k
      obtain ⟨rfl,rfl⟩:=k
      simp only [ren,rens_flats _ (h2 hv (y:=p.1) (ss:=p.2) k1)]
  case clo g cs =>
    simp only [VR] at hv
    obtain ⟨vs,rfl,hv⟩:=hv
    obtain ⟨p,k1,k2⟩:=D7 hr
    have k:=A6 k2
    simp only [Prod.mk.injEq] at k
    obtain ⟨rfl,rfl⟩:=k
    simp only [ren,rens_flats _ (h2 hv (y:=p.1) (ss:=p.2) k1)]
theorem Ztz {x y:AV} {ss:List Site} (hr:(Zbc x).run σ=some (y,ss)):∀ s∈ss,∃ e,A8 σ s=some e∧e.alive=true:=by
  cases x<;>simp only [Zbc] at hr<;>try exact Zis hr
  case agg cs =>
    by_cases hc:flats cs=true
    · rw [if_pos hc] at hr
      have k:=A6 hr
      simp only [Prod.mk.injEq] at k
      rw [k.2];simp
    · rw [if_neg hc] at hr
      obtain ⟨p,k1,k2⟩:=D7 hr
      have k:=A6 k2
      simp only [Prod.mk.injEq] at k
      obtain ⟨rfl,rfl⟩:=k
      exact Zc5 (ys:=p.1) (ss:=p.2) k1
  case clo g cs =>
    obtain ⟨p,k1,k2⟩:=D7 hr
    have k:=A6 k2
    simp only [Prod.mk.injEq] at k
    obtain ⟨rfl,rfl⟩:=k
    exact Zc5 (ys:=p.1) (ss:=p.2) k1
theorem Ze4:∀ {σ:A2} {s:Site} {e:Ent},A8 σ s=some e→(s,e) ∈ σ:=by
  intro σ
  induction σ with
  | nil=>intro s e h;simp [A8] at h
  | cons p σ ih =>
    intro s e h
    obtain ⟨t,f⟩:=p
    simp only [A8] at h
    split at h
    · rename_i ht;cases h;subst ht;simp
    · exact Ygm _ (ih h)
theorem Zzl:∀ {n:Nat} {rs:List (Site × Nat)} {seen:List Site} {es:List (Site × Ent)},(Zai n rs seen).run σ=some es→∀ s e,(s,e)∈es→A8 σ s=some e∧e.alive=true:=by
  intro n
  induction n with
  | zero=>intro rs seen es h;exact A7 h
  | succ n ih =>
    intro rs seen es h s e hm
    cases rs with
    | nil=>simp only [Zai] at h;have k:=A6 h;subst k;simp at hm
    | cons p r =>
      obtain ⟨t,g⟩:=p
      simp only [Zai] at h
      cases hc:seen.contains t with
      | true=>rw [hc] at h;exact ih h s e hm
      | false =>
        rw [hc] at h
        simp only [cond_false] at h
        obtain ⟨e',h1,h2,h3,h4⟩:=J8 h
        obtain ⟨u,h5,h6⟩:=D7 h4
        have k:=A6 h6
        subst k
        rcases List.mem_cons.1 hm with hm|hm
        · cases hm;exact ⟨h1,h2⟩
        · exact ih h5 s e hm
theorem Zdz {es0:List (Site × Ent)}:∀ {l:List (Site × Ent)} {t:Site},A8 (N2 es0 l) t=match t with|.up s=>(A8 l s).map (fun e => { e with cells:=rens (Z3 es0) e.cells })|_=>none:=by
  intro l
  induction l with
  | nil=>intro t;cases t<;>simp [N2,A8]
  | cons p l ih =>
    intro t
    obtain ⟨s,e⟩:=p
    simp only [N2,A8]
    cases t with
    | up x =>
      by_cases hx:s=x
      · subst hx;simp
      · simp [hx,ih]
    | s n k=>simp [ih]
    | r k=>simp [ih]
end Cod
namespace Cod
open Go
variable {E:Env} {w0:World} {O0:Nat→Prop} {σ0:A2} {L0:Lay} {P:Program} {σ:A2} {L:Lay} {w:World} {o:Oper} {a:Act}
def inE (es:List (Site × Ent)) (L:Lay) (b:Nat):Prop:=∃ s e o,A8 es s=some e∧L s=some (b,o)
def Zbh (σ:A2) (L:Lay) (es:List (Site × Ent)) (ss:List Site):Lay :=
  ⟨fun t=>match t with|.up s=>L s|_=>none,fun b=>(I6 σ L b∨L.F b)∧¬ inE es L b∧¬ Zdl L ss b⟩
structure Hand (σ:A2) (es:List (Site × Ent)) (ss:List Site):Prop where
  ents:∀ s e,A8 es s=some e→A8 σ s=some e∧e.alive=true
  seen:∀ s∈ss,∃ e,A8 σ s=some e∧e.alive=true
  apart:∀ s∈ss,A8 es s=none
theorem Zx1 {c c':Ctx} (h:CFl c c') {cs:List AV} {y:Value} (hv:VR c (Zgf cs) y):VR c' (Zgf cs) y:=by
  cases cs with
  | nil=>simp [Zgf,VR]
  | cons x cs=>exact Zfq h (by simp [Zgf,M1]) hv
theorem Hand.own {es:List (Site × Ent)} {ss:List Site} (hh:Hand σ es ss) {b:Nat} (hb:I6 (N2 es es) (Zbh σ L es ss) b):∃ s e o,A8 es s=some e∧e.rw=true∧L s=some (b,o):=by
  obtain ⟨t,e,o,h1,h2,h3,h4⟩:=hb
  rw [Zdz] at h1
  cases t with
  | up x =>
    simp only [Yfp] at h1
    obtain ⟨e1,h5,rfl⟩:=h1
    exact ⟨x,e1,o,h5,h3,h4⟩
  | s n k=>simp at h1
  | r k=>simp at h1
theorem Hand.own' {es:List (Site × Ent)} {ss:List Site} (hh:Hand σ es ss) {b:Nat} (hb:I6 (N2 es es) (Zbh σ L es ss) b):I6 σ L b:=by
  obtain ⟨s,e,o,h1,h2,h3⟩:=hh.own hb
  obtain ⟨h4,h5⟩:=hh.ents s e h1
  exact ⟨s,e,o,h4,h5,h2,h3⟩
theorem Hand.inS {es:List (Site × Ent)} {ss:List Site} {b:Nat} (hb:inS (N2 es es) (Zbh σ L es ss) b):inE es L b:=by
  obtain ⟨t,e,o,h1,h2,h4⟩:=hb
  rw [Zdz] at h1
  cases t with
  | up x =>
    simp only [Yfp] at h1
    obtain ⟨e1,h5,rfl⟩:=h1
    exact ⟨x,e1,o,h5,h4⟩
  | s n k=>simp at h1
  | r k=>simp at h1
theorem Hand.views {es:List (Site × Ent)} {ss:List Site} (hh:Hand σ es ss) (h:StoreOK σ L w) {b:Nat} (hb:Zdl L ss b):¬ (ctx (N2 es es) (Zbh σ L es ss) w).O b:=by
  intro hO
  rcases hO with hO|hO
  · obtain ⟨s,e,o,h1,h2,h3⟩:=hh.own hO
    obtain ⟨h4,h5⟩:=hh.ents s e h1
    obtain ⟨t,h6,o',h7⟩:=hb
    obtain ⟨e',h8,h9⟩:=hh.seen t h6
    have:=h.apart s t e e' b o o' h4 h5 h8 h9 h3 h7
    subst this
    rw [hh.apart s h6] at h1
    cases h1
  · exact hO.2.2 hb
theorem Hand.fl {es:List (Site × Ent)} {ss:List Site} (hh:Hand σ es ss):CFl (ctx σ L w) (ctx (N2 es es) (Zbh σ L es ss) w) :=
  ⟨fun _ _ hO=>hO.elim (fun hO=>.inl (hh.own' hO)) (fun hO=>hO.1),fun _ _ _=>rfl,fun _ _ h=>h,Yfj _⟩
theorem Hand.names {es:List (Site × Ent)} {ss:List Site} (hh:Hand σ es ss):RN (ctx σ L w) (ctx (N2 es es) (Zbh σ L es ss) w) (Z3 es):=by
  intro s g s' g' hf g0 al hT hg
  unfold Z3 at hf
  cases he:A8 es s with
  | none=>rw [he] at hf;cases hf
  | some e =>
    rw [he] at hf
    simp only at hf
    split at hf
    · rename_i hge
      cases hf
      obtain ⟨h1,h2⟩:=hh.ents s e he
      have hT':(A8 σ s).map (fun e=>(e.g,e.alive))=some (g0,al):=hT
      rw [h1] at hT'
      simp only [Yfo,Option.some.injEq,Prod.mk.injEq] at hT'
      obtain ⟨h3,h4⟩:=hT'
      refine ⟨e.g,e.alive,?_,by omega,fun _ _=>⟨by rw [←h4];exact h2,by omega,rfl⟩⟩
      show (A8 (N2 es es) (.up s)).map (fun e=>(e.g,e.alive))=some (e.g,e.alive)
      rw [Zdz]
      simp [he]
    · cases hf
theorem Hand.start {es:List (Site × Ent)} {ss:List Site} (hh:Hand σ es ss) (h:Rel E w0 O0 σ0 L0 σ L w) :
    Rel E w (I6 (N2 es es) (Zbh σ L es ss)) (N2 es es) (Zbh σ L es ss) (N2 es es) (Zbh σ L es ss) w where
  store :=
    { ent:=by
        intro s e he ha
        rw [Zdz] at he
        cases s with
        | up x =>
          simp only [Yfp] at he
          obtain ⟨e1,h1,rfl⟩:=he
          obtain ⟨h2,h3⟩:=hh.ents x e1 h1
          have h4:=h.store.ent x e1 h2 h3
          unfold V1 at h4 ⊢
          rw [show (ctx (N2 es es) (Zbh σ L es ss) w).L (.up x)=(ctx σ L w).L x from rfl]
          cases hl:(ctx σ L w).L x with
          | none=>rw [hl] at h4;exact ⟨by rw [show ({ e1 with cells:=rens (Z3 es) e1.cells }:Ent).cells=rens (Z3 es) e1.cells from rfl,h4.1];rfl,h4.2⟩
          | some p =>
            rw [hl] at h4
            obtain ⟨b,o⟩:=p
            simp only at h4 ⊢
            rcases h4 with h4|⟨h5,h4⟩
            · exact .inl ⟨by rw [Ze3];exact h4.1,Zj8 (K:=True) (fun _=>hh.fl) hh.names (fun _ _ h=>h) (fun _=>rfl) (.inl trivial) h4.2⟩
            · exact .inr ⟨h5,h4.ren (K:=True) (fun _=>hh.fl) hh.names (fun _ _ h=>h) rfl (.inl trivial) rfl⟩
        | s n k=>simp at he
        | r k=>simp at he
      apart:=by
        intro s s' e e' b o o' h1 a1 h2 a2 l1 l2
        rw [Zdz] at h1 h2
        cases s with
        | up x =>
          cases s' with
          | up y =>
            simp only [Yfp] at h1 h2
            obtain ⟨e1,h3,_⟩:=h1
            obtain ⟨e2,h4,_⟩:=h2
            obtain ⟨h5,h6⟩:=hh.ents x e1 h3
            obtain ⟨h7,h8⟩:=hh.ents y e2 h4
            rw [h.store.apart x y e1 e2 b o o' h5 h6 h7 h8 l1 l2]
          | s n k=>simp at h2
          | r k=>simp at h2
        | s n k=>simp at h1
        | r k=>simp at h1 }
  keep:=Keep.refl _ _
  own b hb:=.inl hb
  glob n:=⟨Zx1 hh.fl (h.glob n).1,(h.glob n).2⟩
  ups x e he ha:=⟨e,he,ha,rfl,rfl⟩
  src b hb:=.inl hb
  lf:=rfl
  f0 b hb:=by
    refine ⟨?_,fun hi=>hb.2.1 (Hand.inS hi)⟩
    rcases hb.1 with h1|h1
    · exact h.store.own_lt h1
    · rw [h.lf] at h1
      exact Nat.lt_of_lt_of_le (h.f0 b h1).1 h.keep.size
theorem Zt0 (h:StoreOK σ L w) {es:List (Site × Ent)} {ss:List Site} (hh:Hand σ es ss) (take:List Nat):∀ {args:List AV} {i:Nat} {args':List AV} {rs:List (Site × Nat)} {ss':List Site} {vs:List Value},
    (R2 i take args).run σ=some (args',rs,ss')→(∀ s∈ss',s∈ss)→VRL (ctx σ L w) args vs→VRL (ctx (N2 es es) (Zbh σ L es ss) w) (rens (Z3 es) args') vs:=by
  intro args
  induction args with
  | nil =>
    intro i args' rs ss' vs hr _ hv
    simp only [R2] at hr
    have k:=A6 hr
    simp only [Prod.mk.injEq] at k
    obtain ⟨rfl,_⟩:=k
    simpa [rens,VRL] using hv
  | cons x args ih =>
    intro i args' rs ss' vs hr hs hv
    simp only [VRL] at hv
    obtain ⟨v,r,rfl,h1,h2⟩:=hv
    simp only [R2] at hr
    cases ht:take.contains i with
    | true =>
      rw [ht] at hr
      simp only [cond_true] at hr
      obtain ⟨p,h3,h4⟩:=D7 hr
      have k:=A6 h4
      simp only [Prod.mk.injEq] at k
      obtain ⟨rfl,rfl,rfl⟩:=k
      simp only [rens,VRL]
      exact ⟨v,r,rfl,Zf7 (K:=True) (fun _=>hh.fl) hh.names (fun _ _ h=>h) x v (.inl trivial) h1,ih (args':=p.1) (rs:=p.2.1) (ss':=p.2.2) h3 hs h2⟩
    | false =>
      rw [ht] at hr
      simp only [cond_false] at hr
      obtain ⟨q,h3,h4⟩:=D7 hr
      obtain ⟨p,h5,h6⟩:=D7 h4
      have k:=A6 h6
      simp only [Prod.mk.injEq] at k
      obtain ⟨rfl,rfl,rfl⟩:=k
      simp only [rens,VRL]
      refine ⟨v,r,rfl,?_,ih (args':=p.1) (rs:=p.2.1) (ss':=p.2.2) h5 (fun s hs'=>hs s (Ygn _ hs')) h2⟩
      rw [Zty h h1 (y:=q.1) (ss:=q.2) h3]
      refine Ybd h h1 (y:=q.1) (ss:=q.2) h3 rfl (hh.fl.own) (fun b _ hb=>hh.views h ?_)
      obtain ⟨s,hs1,o,hs2⟩:=hb
      exact ⟨s,hs s (Ygo _ hs1),o,hs2⟩
theorem Znc:∀ {args:List AV} {i:Nat} {take:List Nat} {args':List AV} {rs:List (Site × Nat)} {ss':List Site},
    (R2 i take args).run σ=some (args',rs,ss')→∀ s∈ss',∃ e,A8 σ s=some e∧e.alive=true:=by
  intro args
  induction args with
  | nil =>
    intro i take args' rs ss' hr
    simp only [R2] at hr
    have k:=A6 hr
    simp only [Prod.mk.injEq] at k
    obtain ⟨_,_,rfl⟩:=k
    simp
  | cons x args ih =>
    intro i take args' rs ss' hr
    simp only [R2] at hr
    cases ht:take.contains i with
    | true =>
      rw [ht] at hr
      simp only [cond_true] at hr
      obtain ⟨p,h3,h4⟩:=D7 hr
      have k:=A6 h4
      simp only [Prod.mk.injEq] at k
      obtain ⟨rfl,rfl,rfl⟩:=k
      exact ih (args':=p.1) (rs:=p.2.1) (ss':=p.2.2) h3
    | false =>
      rw [ht] at hr
      simp only [cond_false] at hr
      obtain ⟨q,h3,h4⟩:=D7 hr
      obtain ⟨p,h5,h6⟩:=D7 h4
      have k:=A6 h6
      simp only [Prod.mk.injEq] at k
      obtain ⟨rfl,rfl,rfl⟩:=k
      intro s hs
      rcases List.mem_append.1 hs with hs|hs
      · exact Ztz (y:=q.1) (ss:=q.2) h3 s hs
      · exact ih (args':=p.1) (rs:=p.2.1) (ss':=p.2.2) h5 s hs
end Cod
namespace Cod
open Go
variable {E:Env} {w0:World} {O0:Nat→Prop} {σ0:A2} {L0:Lay} {P:Program} {σ:A2} {L:Lay} {w:World} {o:Oper} {a:Act}
theorem Zh1 {σ:Ups} {s:Site}:Zp0 σ s=true↔A8 σ s=none:=by simp [Zp0]
theorem Zl4:∀ {σ:A2} {s:Site},A8 σ s=none→∀ e,(s,e) ∉ σ:=by
  intro σ
  induction σ with
  | nil=>intro s _ e h;simp at h
  | cons p σ ih =>
    intro s h e hm
    obtain ⟨t,f⟩:=p
    simp only [A8] at h
    split at h
    · cases h
    · rename_i ht
      rcases List.mem_cons.1 hm with hm|hm
      · cases hm;exact ht rfl
      · exact ih h e hm
theorem Zgu:∀ {B:Ups},V0 B=true→∀ {s:Site} {e:Ent},(s,e)∈B→A8 B s=some e:=by
  intro B
  induction B with
  | nil=>intro _ s e h;simp at h
  | cons p B ih =>
    intro hd s e hm
    obtain ⟨t,f⟩:=p
    simp only [V0,Yfz] at hd
    simp only [A8]
    rcases List.mem_cons.1 hm with hm|hm
    · cases hm;simp
    · have h1:=ih hd.2 hm
      have h2:=Zh1.1 hd.1
      have hne:t≠s:=by rintro rfl;rw [h1] at h2;cases h2
      rw [if_neg hne];exact h1
theorem Zba:∀ {σr:A2},tidy σr=true→∀ {s:Site} {e:Ent},(s,e) ∈ σr→A8 σr s=some e∧e.alive=true∧((∃ x,s=.up x)∨∃ k,s=.r k∧e.g=0):=by
  intro σr
  induction σr with
  | nil=>intro _ s e h;simp at h
  | cons p σr ih =>
    intro hd s e hm
    obtain ⟨t,f⟩:=p
    simp only [tidy,Yfz] at hd
    obtain ⟨⟨hd1,hd2⟩,hd3⟩:=hd
    simp only [A8]
    rcases List.mem_cons.1 hm with hm|hm
    · cases hm
      refine ⟨by simp,?_⟩
      cases s with
      | up x=>simp only [Zp1] at hd1;exact ⟨hd1,.inl ⟨x,rfl⟩⟩
      | r k=>simp only [Zp1,Yfz,beq_iff_eq] at hd1;exact ⟨hd1.1,.inr ⟨k,rfl,hd1.2⟩⟩
      | s n k=>simp [Zp1] at hd1
    · obtain ⟨h1,h2⟩:=ih hd3 hm
      have h3:=Zh1.1 hd2
      have hne:t≠s:=by rintro rfl;rw [h1] at h3;cases h3
      rw [if_neg hne];exact ⟨h1,h2⟩
theorem Zj9:∀ {X:Ups} {σ:A2} {t:Site},(∃ x,(t,x)∈X∧A8 (B5 σ X) t=some x)∨((∀ x,(t,x)∉X)∧A8 (B5 σ X) t=A8 σ t):=by
  intro X
  induction X with
  | nil=>intro σ t;exact .inr ⟨by simp,rfl⟩
  | cons p X ih =>
    intro σ t
    obtain ⟨s,e⟩:=p
    simp only [B5]
    rcases ih (σ:=H9 σ s e) (t:=t) with ⟨x,h1,h2⟩|⟨h1,h2⟩
    · exact .inl ⟨x,Ygm _ h1,h2⟩
    · by_cases hs:s=t
      · subst hs
        rw [C1] at h2
        exact .inl ⟨e,by simp,h2⟩
      · rw [C6 _ _ hs] at h2
        refine .inr ⟨fun x hx=>?_,h2⟩
        rcases List.mem_cons.1 hx with hx|hx
        · cases hx;exact hs rfl
        · exact h1 x hx
theorem Zqr:∀ {es:List (Site × Ent)} {B:Ups} {t:Site} {x:Ent},(t,x)∈Y7 B es→A8 B t=none∧∃ e,(t,e)∈es∧x = { e with alive:=false,cells:=[] }:=by
  intro es
  induction es with
  | nil=>intro B t x h;simp [Y7] at h
  | cons p es ih =>
    intro B t x h
    obtain ⟨s,e⟩:=p
    simp only [Y7] at h
    split at h
    · obtain ⟨h1,e',h2,h3⟩:=ih h
      exact ⟨h1,e',Ygm _ h2,h3⟩
    · rename_i hb
      rcases List.mem_cons.1 h with h|h
      · cases h;exact ⟨hb,e,by simp,rfl⟩
      · obtain ⟨h1,e',h2,h3⟩:=ih h
        exact ⟨h1,e',Ygm _ h2,h3⟩
theorem Z4s:∀ {es:List (Site × Ent)} {B:Ups} {t:Site} {e:Ent},(t,e)∈es→A8 B t=none→(t,{ e with alive:=false,cells:=[] })∈Y7 B es:=by
  intro es
  induction es with
  | nil=>intro B t e h;simp at h
  | cons p es ih =>
    intro B t e h hb
    obtain ⟨s,e'⟩:=p
    simp only [Y7]
    rcases List.mem_cons.1 h with h|h
    · cases h;rw [hb];simp
    · split
      · exact ih h hb
      · exact Ygm _ (ih h hb)
theorem Znd {d:Nat} {gs:List (Nat × Nat)}:∀ {σr:A2} {t:Site} {x:Ent},(t,x)∈B8 d gs σr→∃ s e g',(s,e) ∈ σr∧H1 d gs s e.g=some (t,g')∧x = { e with g:=g',cells:=rens (H1 d gs) e.cells }:=by
  intro σr
  induction σr with
  | nil=>intro t x h;simp [B8] at h
  | cons p σr ih =>
    intro t x h
    obtain ⟨s,e⟩:=p
    simp only [B8] at h
    split at h
    · rename_i s' g' hb
      rcases List.mem_cons.1 h with h|h
      · cases h;exact ⟨s,e,g',by simp,hb,rfl⟩
      · obtain ⟨s1,e1,g1,h1,h2⟩:=ih h
        exact ⟨s1,e1,g1,Ygm _ h1,h2⟩
    · obtain ⟨s1,e1,g1,h1,h2⟩:=ih h
      exact ⟨s1,e1,g1,Ygm _ h1,h2⟩
theorem Zap {d:Nat} {gs:List (Nat × Nat)}:∀ {σr:A2} {s:Site} {e:Ent} {t:Site} {g':Nat},(s,e) ∈ σr→H1 d gs s e.g=some (t,g')→(t,{ e with g:=g',cells:=rens (H1 d gs) e.cells })∈B8 d gs σr:=by
  intro σr
  induction σr with
  | nil=>intro s e t g' h;simp at h
  | cons p σr ih =>
    intro s e t g' h hb
    obtain ⟨s1,e1⟩:=p
    simp only [B8]
    rcases List.mem_cons.1 h with h|h
    · cases h;rw [hb];simp
    · split
      · exact Ygm _ (ih h hb)
      · exact ih h hb
theorem Zne {d:Nat} {gs:List (Nat × Nat)}:∀ {σr:A2},V0 (B8 d gs σr)=true→∀ {s1 s2:Site} {e1 e2:Ent} {t:Site} {g1 g2:Nat},(s1,e1) ∈ σr→(s2,e2) ∈ σr →
    H1 d gs s1 e1.g=some (t,g1)→H1 d gs s2 e2.g=some (t,g2)→s1=s2:=by
  intro σr
  induction σr with
  | nil=>intro _ s1 s2 e1 e2 t g1 g2 h;simp at h
  | cons p σr ih =>
    intro hd s1 s2 e1 e2 t g1 g2 h1 h2 b1 b2
    obtain ⟨s,e⟩:=p
    simp only [B8] at hd
    have key:∀ {s':Site} {e':Ent} {g' gg:Nat},(s',e') ∈ σr→H1 d gs s' e'.g=some (t,g')→H1 d gs s e.g=some (t,gg)→False:=by
      intro s' e' g' gg hm hb hb0
      rw [hb0] at hd
      simp only [V0,Yfz] at hd
      have:=Zh1.1 hd.1
      exact Zl4 this _ (Zap hm hb)
    have hd':V0 (B8 d gs σr)=true:=by
      split at hd
      · simp only [V0,Yfz] at hd;exact hd.2
      · exact hd
    rcases List.mem_cons.1 h1 with k1|k1<;>rcases List.mem_cons.1 h2 with k2|k2
    · cases k1;cases k2;rfl
    · cases k1;exact (key k2 b2 b1).elim
    · cases k2;exact (key k1 b1 b2).elim
    · exact ih hd' k1 k2 b1 b2
theorem Ziu {d:Nat}:∀ {σr:A2} {gs:List (Nat × Nat)},(Q4 d σr).run σ=some gs→(∀ k g',gs.lookup k=some g'→∀ e,A8 σ (.s d k)=some e→e.g<g')∧(∀ k e,(.r k,e) ∈ σr→∃ g',gs.lookup k=some g'):=by
  intro σr
  induction σr with
  | nil =>
    intro gs h
    simp only [Q4] at h
    have k:=A6 h
    subst k
    exact ⟨by simp,by simp⟩
  | cons p σr ih =>
    intro gs h
    obtain ⟨s,e0⟩:=p
    cases s with
    | r k0 =>
      simp only [Q4] at h
      obtain ⟨l,h1,h2⟩:=D7 h
      obtain ⟨i1,i2⟩:=ih h1
      simp only [Acc.run] at h2
      have h3:∃ g0,gs=(k0,g0)::l∧∀ e,A8 σ (.s d k0)=some e→e.g<g0:=by
        cases hge:A8 σ (.s d k0) with
        | none=>rw [hge] at h2;simp only [genE] at h2;have k:=A6 h2;exact ⟨0,k,by simp⟩
        | some e=>rw [hge] at h2;simp only [genE] at h2;have k:=A6 h2;exact ⟨e.g+1,k,fun e' he'=>by cases he';omega⟩
      obtain ⟨g0,rfl,h4⟩:=h3
      refine ⟨fun k g' hk e he=>?_,fun k e hk=>?_⟩
      · by_cases hkk:k=k0
        · subst hkk
          simp at hk
          subst hk
          exact h4 e he
        · have:(k==k0)=false:=by simpa using hkk
          simp only [List.lookup,this] at hk
          exact i1 k g' hk e he
      · by_cases hkk:k=k0
        · subst hkk;exact ⟨g0,by simp⟩
        · have hb:(k==k0)=false:=by simpa using hkk
          rcases List.mem_cons.1 hk with hk|hk
          · cases hk;exact absurd rfl hkk
          · obtain ⟨g',h5⟩:=i2 k e hk
            exact ⟨g',by simp only [List.lookup,hb];exact h5⟩
    | up x =>
      simp only [Q4] at h
      obtain ⟨i1,i2⟩:=ih h
      refine ⟨i1,fun k e hk=>?_⟩
      rcases List.mem_cons.1 hk with hk|hk
      · cases hk
      · exact i2 k e hk
    | s n x =>
      simp only [Q4] at h
      obtain ⟨i1,i2⟩:=ih h
      refine ⟨i1,fun k e hk=>?_⟩
      rcases List.mem_cons.1 hk with hk|hk
      · cases hk
      · exact i2 k e hk
mutual
theorem Zh2 {f:Zbg}:∀ (x:AV),leads (ren f x)=false→leads x=false
  | .junk,h=>by simp [ren,leads] at h
  | .und,_=>rfl
  | .int _ _,_=>rfl
  | .bool _,_=>rfl
  | .str _,_=>rfl
  | .nilp,_=>rfl
  | .nils,_=>rfl
  | .nilf,_=>rfl
  | .nili,_=>rfl
  | .nilm,_=>rfl
  | .any _,_=>rfl
  | .agg cs,h=>by simp only [ren,leads] at h ⊢;exact leadss_ren cs h
  | .tup cs,h=>by simp only [ren,leads] at h ⊢;exact leadss_ren cs h
  | .lst _ _,h=>by simp [ren,leads] at h
  | .fp _ _,h=>by simp [ren,leads] at h
  | .ref ..,_=>rfl
  | .buf ..,_=>rfl
  | .it ..,_=>rfl
  | .itr ..,_=>rfl
  | .mpr ..,_=>rfl
  | .mp ..,h=>by simpa only [ren] using h
  | .clo g cs,h=>by simp only [ren,leads] at h ⊢;exact leadss_ren cs h
  | .ifc t x,h=>by simp only [ren,leads] at h ⊢;exact Zh2 x h
theorem leadss_ren {f:Zbg}:∀ (xs:List AV),leadss (rens f xs)=false→leadss xs=false
  | [],_=>rfl
  | x::xs,h=>by
    simp only [rens,leadss,Ygl] at h ⊢
    exact ⟨Zh2 x h.1,leadss_ren xs h.2⟩
end
theorem Znf:∀ {B:Ups},Zaj B=false→∀ {s:Site} {e:Ent},(s,e)∈B→leadss e.cells=false:=by
  intro B
  induction B with
  | nil=>intro _ s e h;simp at h
  | cons p B ih =>
    intro h s e hm
    obtain ⟨t,f⟩:=p
    simp only [Zaj,Ygl] at h
    rcases List.mem_cons.1 hm with hm|hm
    · cases hm;exact h.1
    · exact ih h.2 hm
end Cod
namespace Cod
open Go
variable {E:Env} {w0:World} {O0:Nat→Prop} {σ0:A2} {L0:Lay} {P:Program} {σ:A2} {L:Lay} {w:World} {o:Oper} {a:Act}
open Classical in
noncomputable def Zbw (d:Nat) (L:Lay) (σr:A2) (La':Lay):Lay :=
  ⟨fun t=>match t with|.s d' k=>if d'=d∧∃ e,(Site.r k,e) ∈ σr then La' (.r k) else L t|t=>L t,L.F⟩
structure Back (E:Env) (d:Nat) (σ σ1:A2) (L:Lay) (w:World) (es:List (Site × Ent)) (ss:List Site) (σr:A2) (La':Lay) (w':World) (gs:List (Nat × Nat)) (K:Prop):Prop where
  hand:Hand σ es ss
  mem:∀ s e,(s,e)∈es→A8 σ s=some e
  sim:Sim σ σ1
  same:∀ s,s∉ss→A8 σ1 s=A8 σ s
  quiet:K→∀ s∈ss,∀ e,A8 σ1 s=some e→e.rw=false
  tidy:tidy σr=true
  gens:(Q4 d σr).run σ=some gs
  dist:V0 (B8 d gs σr)=true
  callee:Rel E w (I6 (N2 es es) (Zbh σ L es ss)) (N2 es es) (Zbh σ L es ss) σr La' w'
  store:StoreOK σ L w
section
variable {d:Nat} {σ1:A2} {es:List (Site × Ent)} {ss:List Site} {σr:A2} {La':Lay} {w':World} {gs:List (Nat × Nat)} {K:Prop}
open Classical in
theorem Back.name (hb:Back E d σ σ1 L w es ss σr La' w' gs K) {s:Site} {e:Ent} (hm:(s,e) ∈ σr):∃ t g',H1 d gs s e.g=some (t,g')∧(Zbw d L σr La') t=La' s ∧
    ((∃ x e0,s=.up x∧t=x∧g'=e.g∧A8 es x=some e0∧e0.g=e.g∧La' s=L x)∨(∃ k,s=.r k∧t=.s d k∧e.g=0∧gs.lookup k=some g')):=by
  obtain ⟨h1,h2,h3⟩:=Zba hb.tidy hm
  obtain ⟨i1,i2⟩:=Ziu hb.gens
  rcases h3 with ⟨x,rfl⟩|⟨k,rfl,h0⟩
  · obtain ⟨e0,k1,k2,k3,k4⟩:=hb.callee.ups x e h1 h2
    rw [Zdz] at k1
    simp only [Yfp] at k1
    obtain ⟨e1,k5,rfl⟩:=k1
    have hL:La' (.up x)=L x:=k4
    refine ⟨x,e.g,rfl,?_,.inl ⟨x,e1,rfl,rfl,rfl,k5,k3,hL⟩⟩
    cases x with
    | s d' k =>
      show (if d'=d∧∃ e,(Site.r k,e) ∈ σr then La' (.r k) else L (.s d' k))=_
      split
      · rename_i hc
        obtain ⟨rfl,e',he'⟩:=hc
        obtain ⟨g',hg'⟩:=i2 k e' he'
        have h0:=(Zba hb.tidy he').2.2
        have h00:e'.g=0:=by
          rcases h0 with ⟨x,hx⟩|⟨k',hk',h0⟩
          · cases hx
          · exact h0
        have:=Zne hb.dist hm he' (t:=.s d' k) (g1:=e.g) (g2:=g') rfl (by simp [H1,hg',h00])
        cases this
      · exact hL.symm
    | up y=>exact hL.symm
    | r k=>exact hL.symm
  · obtain ⟨g',hg'⟩:=i2 k e hm
    refine ⟨.s d k,g',by simp [H1,hg',h0],?_,.inr ⟨k,rfl,rfl,h0,hg'⟩⟩
    show (if d=d∧∃ e,(Site.r k,e) ∈ σr then La' (.r k) else L (.s d k))=_
    rw [if_pos ⟨rfl,e,hm⟩]
theorem Back.cases (hb:Back E d σ σ1 L w es ss σr La' w' gs K) (t:Site) :
    (∃ s e g',(s,e) ∈ σr∧H1 d gs s e.g=some (t,g')∧A8 (B5 σ1 (B8 d gs σr++Y7 (B8 d gs σr) es)) t=some { e with g:=g',cells:=rens (H1 d gs) e.cells }) ∨
    (∃ e,A8 es t=some e∧A8 (B5 σ1 (B8 d gs σr++Y7 (B8 d gs σr) es)) t=some { e with alive:=false,cells:=[] }) ∨
    (A8 es t=none∧(∀ s e g',(s,e) ∈ σr→H1 d gs s e.g≠some (t,g'))∧A8 (B5 σ1 (B8 d gs σr++Y7 (B8 d gs σr) es)) t=A8 σ1 t):=by
  rcases Zj9 (X:=B8 d gs σr++Y7 (B8 d gs σr) es) (σ := σ1) (t:=t) with ⟨x,h1,h2⟩|⟨h1,h2⟩
  · rcases List.mem_append.1 h1 with h1|h1
    · obtain ⟨s,e,g',h3,h4,rfl⟩:=Znd h1
      exact .inl ⟨s,e,g',h3,h4,h2⟩
    · obtain ⟨h3,e,h4,rfl⟩:=Zqr h1
      refine .inr (.inl ⟨e,?_,h2⟩)
      cases he:A8 es t with
      | none=>exact absurd h4 (Zl4 he e)
      | some e' =>
        have a1:=hb.mem t e h4
        have a2:=(hb.hand.ents t e' he).1
        rw [a1] at a2
        cases a2
        rfl
  · refine .inr (.inr ⟨?_,fun s e g' h3 h4=>h1 _ (Ygo _ (Zap h3 h4)),h2⟩)
    cases he:A8 es t with
    | none=>rfl
    | some e =>
      exfalso
      have hm:=Ze4 he
      cases hB:A8 (B8 d gs σr) t with
      | none=>exact h1 _ (Ygn _ (Z4s hm hB))
      | some x=>exact h1 x (Ygo _ (Ze4 hB))
theorem Back.at (hb:Back E d σ σ1 L w es ss σr La' w' gs K) {s:Site} {e:Ent} {t:Site} {g':Nat} (hm:(s,e) ∈ σr) (hn:H1 d gs s e.g=some (t,g')) :
    A8 (B5 σ1 (B8 d gs σr++Y7 (B8 d gs σr) es)) t=some { e with g:=g',cells:=rens (H1 d gs) e.cells }:=by
  have hB:=Zgu hb.dist (Zap hm hn)
  rcases Zj9 (X:=B8 d gs σr++Y7 (B8 d gs σr) es) (σ := σ1) (t:=t) with ⟨x,h1,h2⟩|⟨h1,_⟩
  · rcases List.mem_append.1 h1 with h1|h1
    · have:=Zgu hb.dist h1
      rw [hB] at this
      cases this
      exact h2
    · obtain ⟨h3,_⟩:=Zqr h1
      rw [hB] at h3;cases h3
  · exact absurd (Ygo _ (Zap hm hn)) (h1 _)
open Classical in
theorem Back.kept (hb:Back E d σ σ1 L w es ss σr La' w' gs K) {t:Site} (hn:∀ s e g',(s,e) ∈ σr→H1 d gs s e.g≠some (t,g')):(Zbw d L σr La') t=L t:=by
  cases t with
  | s d' k =>
    show (if d'=d∧∃ e,(Site.r k,e) ∈ σr then La' (.r k) else L (.s d' k))=_
    split
    · rename_i hc
      obtain ⟨rfl,e,he⟩:=hc
      obtain ⟨t',g',h1,_,h3⟩:=hb.name he
      rcases h3 with ⟨x,_,h4,_⟩|⟨k',h4,h5,_⟩
      · cases h4
      · cases h4;subst h5;exact absurd h1 (hn _ _ _ he)
    · rfl
  | up x=>rfl
  | r k=>rfl
theorem Back.names (hb:Back E d σ σ1 L w es ss σr La' w' gs K) :
    RN (ctx σr La' w') (ctx (B5 σ1 (B8 d gs σr++Y7 (B8 d gs σr) es)) (Zbw d L σr La') w') (H1 d gs):=by
  intro s g t g' hf g0 al hT hg
  have hT':(A8 σr s).map (fun e=>(e.g,e.alive))=some (g0,al):=hT
  simp only [Yfp,Prod.mk.injEq] at hT'
  obtain ⟨e,h1,rfl,rfl⟩:=hT'
  have hm:=Ze4 h1
  obtain ⟨_,hal,_⟩:=Zba hb.tidy hm
  obtain ⟨t1,g1,h2,h3,h4⟩:=hb.name hm
  have hat:=hb.at hm h2
  have ht:t1=t∧g'≤g1∧(g'=g1→g=e.g):=by
    rcases h4 with ⟨x,e0,rfl,rfl,rfl,_⟩|⟨k,rfl,rfl,h0,hl⟩
    · simp only [H1,Option.some.injEq,Prod.mk.injEq] at hf
      exact ⟨hf.1,by omega,by omega⟩
    · simp only [H1,hl] at hf
      split at hf
      · cases hf;exact ⟨rfl,Yfj _,by omega⟩
      · cases hf
  obtain ⟨rfl,h5,h6⟩:=ht
  refine ⟨g1,e.alive,?_,h5,fun ha hgg=>⟨ha,h6 hgg,h3⟩⟩
  show (A8 _ t1).map _=_
  rw [hat]
  rfl
theorem Back.es1 (hb:Back E d σ σ1 L w es ss σr La' w' gs K) {t:Site} {e:Ent} (he:A8 es t=some e):A8 σ1 t=some e∧e.alive=true:=by
  obtain ⟨h1,h2⟩:=hb.hand.ents t e he
  refine ⟨?_,h2⟩
  rw [hb.same t (fun hs=>by rw [hb.hand.apart t hs] at he;cases he)]
  exact h1
theorem Back.own1 (hb:Back E d σ σ1 L w es ss σr La' w' gs K) {b:Nat} (h:I6 (N2 es es) (Zbh σ L es ss) b):I6 σ1 L b:=by
  obtain ⟨s,e,o,h1,h2,h3⟩:=hb.hand.own h
  obtain ⟨h4,h5⟩:=hb.es1 h1
  exact ⟨s,e,o,h4,h5,h2,h3⟩
theorem Back.own2 (hb:Back E d σ σ1 L w es ss σr La' w' gs K) {b:Nat} (h:I6 (B5 σ1 (B8 d gs σr++Y7 (B8 d gs σr) es)) (Zbw d L σr La') b) :
    I6 σr La' b∨∃ t e o,A8 es t=none∧A8 σ1 t=some e∧e.alive=true∧e.rw=true∧L t=some (b,o):=by
  obtain ⟨t,e2,o,h1,h2,h3,h4⟩:=h
  rcases hb.cases t with ⟨s,e,g',k1,k2,k3⟩|⟨e,k1,k2⟩|⟨k1,k2,k3⟩
  · rw [k3] at h1
    cases h1
    obtain ⟨t1,g1,m1,m2,_⟩:=hb.name k1
    rw [k2] at m1
    cases m1
    exact .inl ⟨s,e,o,(Zba hb.tidy k1).1,h2,h3,by rw [←m2];exact h4⟩
  · rw [k2] at h1;cases h1;cases h2
  · rw [k3] at h1
    rw [hb.kept k2] at h4
    exact .inr ⟨t,e2,o,k1,h1,h2,h3,h4⟩
theorem Back.in2 (hb:Back E d σ σ1 L w es ss σr La' w' gs K) {b:Nat} (h:inS (B5 σ1 (B8 d gs σr++Y7 (B8 d gs σr) es)) (Zbw d L σr La') b) :
    inS σr La' b∨inS σ1 L b:=by
  obtain ⟨t,e2,o,h1,h2,h4⟩:=h
  rcases hb.cases t with ⟨s,e,g',k1,k2,k3⟩|⟨e,k1,k2⟩|⟨k1,k2,k3⟩
  · rw [k3] at h1
    cases h1
    obtain ⟨t1,g1,m1,m2,_⟩:=hb.name k1
    rw [k2] at m1
    cases m1
    exact .inl ⟨s,e,o,(Zba hb.tidy k1).1,h2,by rw [←m2];exact h4⟩
  · rw [k2] at h1;cases h1;cases h2
  · rw [k3] at h1
    rw [hb.kept k2] at h4
    exact .inr ⟨t,e2,o,h1,h2,h4⟩
theorem Back.inE1 (hb:Back E d σ σ1 L w es ss σr La' w' gs K) {b:Nat} (h:inE es L b):inS σ1 L b:=by
  obtain ⟨s,e,o,h1,h2⟩:=h
  obtain ⟨h3,h4⟩:=hb.es1 h1
  exact ⟨s,e,o,h3,h4,h2⟩
end
end Cod
namespace Cod
open Go
variable {E:Env} {w0:World} {O0:Nat→Prop} {σ0:A2} {L0:Lay} {P:Program} {σ:A2} {L:Lay} {w:World} {o:Oper} {a:Act}
section
variable {d:Nat} {σ1:A2} {es:List (Site × Ent)} {ss:List Site} {σr:A2} {La':Lay} {w':World} {gs:List (Nat × Nat)} {K:Prop}
theorem Back.keep (hb:Back E d σ σ1 L w es ss σr La' w' gs K):Keep (I6 σ1 L) w w':=hb.callee.keep.mono fun _ h=>hb.own1 h
theorem Back.ownB (hb:Back E d σ σ1 L w es ss σr La' w' gs K) {b:Nat} (h:I6 (B5 σ1 (B8 d gs σr++Y7 (B8 d gs σr) es)) (Zbw d L σr La') b):I6 σ1 L b∨w.heap.size≤b:=by
  rcases hb.own2 h with h1|⟨t,e,o,_,h2,h3,h4,h5⟩
  · rcases hb.callee.own b h1 with h2|h2
    · exact .inl (hb.own1 h2)
    · exact .inr h2
  · exact .inl ⟨t,e,o,h2,h3,h4,h5⟩
theorem Back.le (hb:Back E d σ σ1 L w es ss σr La' w' gs K):CLe (ctx σ1 L w) (ctx (B5 σ1 (B8 d gs σr++Y7 (B8 d gs σr) es)) (Zbw d L σr La') w') where
  tab t g0 al hT:=by
    have hT':(A8 σ1 t).map (fun e=>(e.g,e.alive))=some (g0,al):=hT
    simp only [Yfp,Prod.mk.injEq] at hT'
    obtain ⟨e1,h1,rfl,rfl⟩:=hT'
    rcases hb.cases t with ⟨s,e,g',k1,k2,k3⟩|⟨e,k1,k2⟩|⟨k1,k2,k3⟩
    · obtain ⟨t1,g1,m1,m2,m3⟩:=hb.name k1
      rw [k2] at m1
      cases m1
      refine ⟨g',e.alive,by show (A8 _ t).map _=_;rw [k3];rfl,?_⟩
      rcases m3 with ⟨x,e0,rfl,rfl,rfl,q1,q2,q3⟩|⟨k,rfl,rfl,q1,q2⟩
      · obtain ⟨p1,p2⟩:=hb.es1 q1
        rw [h1] at p1
        cases p1
        exact ⟨by omega,fun _ _=>⟨p2,m2.trans q3⟩⟩
      · obtain ⟨i1,_⟩:=Ziu hb.gens
        obtain ⟨e2,r1,_,r2,_⟩:=hb.sim.back h1
        have:=i1 k g' q2 e2 r1
        exact ⟨by omega,fun hh=>by omega⟩
    · obtain ⟨p1,p2⟩:=hb.es1 k1
      rw [h1] at p1
      cases p1
      refine ⟨e1.g,false,by show (A8 _ t).map _=_;rw [k2];rfl,Yfj _,fun _ h=>by cases h⟩
    · refine ⟨e1.g,e1.alive,by show (A8 _ t).map _=_;rw [k3,h1];rfl,Yfj _,fun _ h=>⟨h,hb.kept k2⟩⟩
  own b hlt hO:=by
    rcases hO with hO|hO
    · exact .inl ((hb.ownB hO).resolve_right (Nat.not_le.2 hlt))
    · exact .inr hO
  block b hlt hn:=hb.keep.block b hlt (fun h=>hn (.inl h))
  room:=hb.keep.room
  size:=hb.keep.size
theorem Back.apartE (hb:Back E d σ σ1 L w es ss σr La' w' gs K) (h1:StoreOK σ1 L w) {t:Site} {e:Ent} {b o':Nat} (he:A8 σ1 t=some e) (ha:e.alive=true) (hl:L t=some (b,o')) (hn:A8 es t=none):¬ inE es L b:=by
  rintro ⟨s,e',o2,h2,h3⟩
  obtain ⟨h4,h5⟩:=hb.es1 h2
  have:=h1.apart s t e' e b o2 o' h4 h5 he ha h3 hl
  subst this
  rw [h2] at hn;cases hn
theorem Back.fl (hb:Back E d σ σ1 L w es ss σr La' w' gs K) (h1:Rel E w0 O0 σ0 L0 σ1 L w) (hK:K):CFl (ctx σr La' w') (ctx (B5 σ1 (B8 d gs σr++Y7 (B8 d gs σr) es)) (Zbw d L σr La') w') where
  own b hlt hO:=by
    show I6 σr La' b∨La'.F b
    have hF:La'.F=(Zbh σ L es ss).F:=hb.callee.lf
    rcases hO with hO|hO
    · rcases hb.own2 hO with h2|⟨t,e,o,hn,h2,h3,h4,h5⟩
      · exact .inl h2
      · refine .inr ?_
        rw [hF]
        refine ⟨.inl (hb.sim.own ⟨t,e,o,h2,h3,h4,h5⟩),hb.apartE h1.store h2 h3 h5 hn,?_⟩
        rintro ⟨s,hs1,o2,hs2⟩
        obtain ⟨e',he',ha'⟩:=hb.hand.seen s hs1
        obtain ⟨e'',g1,g2,_⟩:=hb.sim.back h2
        have:=hb.store.apart s t e' e'' b o2 o he' ha' g1 (g2.trans h3) hs2 h5
        subst this
        rw [hb.quiet hK s hs1 e h2] at h4;cases h4
    · refine .inr ?_
      rw [hF]
      have hOF:L.F b:=hO
      refine ⟨.inr hOF,fun hi=>h1.notF (hb.inE1 hi) hOF,?_⟩
      rintro ⟨s,hs1,o2,hs2⟩
      obtain ⟨e',he',ha'⟩:=hb.hand.seen s hs1
      rcases hb.sim s with q|⟨e2,q1,q2⟩
      · exact h1.notF ⟨s,e',o2,q.trans he',ha',hs2⟩ hOF
      · rw [he'] at q1;cases q1
        exact h1.notF ⟨s,_,o2,q2,ha',hs2⟩ hOF
  block _ _ _:=rfl
  room _ _ h:=h
  size:=Yfj _
theorem Back.storeOK (hb:Back E d σ σ1 L w es ss σr La' w' gs K) (h1:Rel E w0 O0 σ0 L0 σ1 L w) (hk:K∨Zaj (B8 d gs σr)=false):StoreOK (B5 σ1 (B8 d gs σr++Y7 (B8 d gs σr) es)) (Zbw d L σr La') w' where
  ent t e2 he ha:=by
    rcases hb.cases t with ⟨s,e,g',k1,k2,k3⟩|⟨e,k1,k2⟩|⟨k1,k2,k3⟩
    · rw [k3] at he
      cases he
      obtain ⟨t1,g1,m1,m2,_⟩:=hb.name k1
      rw [k2] at m1
      cases m1
      have h2:=hb.callee.store.ent s e (Zba hb.tidy k1).1 ha
      unfold V1 at h2 ⊢
      rw [show (ctx (B5 σ1 (B8 d gs σr++Y7 (B8 d gs σr) es)) (Zbw d L σr La') w').L t=(ctx σr La' w').L s from m2]
      cases hl:(ctx σr La' w').L s with
      | none=>rw [hl] at h2;exact ⟨by rw [show ({ e with g:=g',cells:=rens (H1 d gs) e.cells }:Ent).cells=rens (H1 d gs) e.cells from rfl,h2.1];rfl,h2.2⟩
      | some p =>
        rw [hl] at h2
        obtain ⟨b,o'⟩:=p
        simp only at h2 ⊢
        have hkl:K∨leadss e.cells=false:=hk.imp id fun hk=>leadss_ren _ (Znf hk (Zap k1 k2))
        rcases h2 with h2|⟨h3,h2⟩
        · exact .inl ⟨by rw [Ze3];exact h2.1,Zj8 (K:=K) (hb.fl h1) hb.names (fun _ _ h=>h) (fun _=>rfl) hkl h2.2⟩
        · exact .inr ⟨h3,h2.ren (K:=K) (hb.fl h1) hb.names (fun _ _ h=>h) rfl hkl rfl⟩
    · rw [k2] at he;cases he;cases ha
    · rw [k3] at he
      have h2:=h1.store.ent t e2 he ha
      unfold V1 at h2 ⊢
      rw [show (ctx (B5 σ1 (B8 d gs σr++Y7 (B8 d gs σr) es)) (Zbw d L σr La') w').L t=(ctx σ1 L w).L t from hb.kept k2]
      cases hl:(ctx σ1 L w).L t with
      | none=>rw [hl] at h2;exact h2
      | some p =>
        rw [hl] at h2
        obtain ⟨b,o'⟩:=p
        simp only at h2 ⊢
        have hblk:w'.heap[b]? = w.heap[b]? := by
          refine hb.callee.keep.block b (h1.store.lt he ha hl) fun hO=>?_
          obtain ⟨s,e3,o3,q1,_,q3⟩:=hb.hand.own hO
          exact hb.apartE h1.store he ha hl k1 ⟨s,e3,o3,q1,q3⟩
        rcases h2.symm with ⟨h3,h2⟩|h2
        · exact .inr ⟨h3,h2.to hb.le hblk⟩
        refine .inl ⟨?_,VRC_le hb.le b (fun i=>by simp only [World.cell?];rw [show (ctx (B5 σ1 (B8 d gs σr++Y7 (B8 d gs σr) es)) (Zbw d L σr La') w').w=w' from rfl,hblk];rfl) o' _ h2.2⟩
        obtain ⟨cs,el,fr,f1,f2,f3⟩:=h2.1
        exact ⟨cs,el,fr,hblk.trans f1,f2,f3⟩
  apart t t' e1 e2 b o1 o2 he1 a1 he2 a2 l1 l2:=by
    have key:∀ {s:Site} {e:Ent} {t t':Site} {g':Nat} {e2:Ent} {b o1 o2:Nat},(s,e) ∈ σr→H1 d gs s e.g=some (t,g')→(Zbw d L σr La') t=some (b,o1) →
        A8 σ1 t'=some e2→e2.alive=true→L t'=some (b,o2)→A8 es t'=none→False:=by
      intro s e t t' g' e2 b o1 o2 k1 k2 l1 q1 q2 q3 q4
      obtain ⟨t1,g1,m1,m2,_⟩:=hb.name k1
      rw [k2] at m1
      cases m1
      have hin:inS σr La' b:=⟨s,e,o1,(Zba hb.tidy k1).1,(Zba hb.tidy k1).2.1,by rw [←m2];exact l1⟩
      rcases hb.callee.src b hin with h2|h2
      · exact hb.apartE h1.store q1 q2 q3 q4 (Hand.inS h2)
      · have:=h1.store.lt q1 q2 q3
        omega
    rcases hb.cases t with ⟨s,e,g',k1,k2,k3⟩|⟨e,k1,k2⟩|⟨k1,k2,k3⟩
    · rcases hb.cases t' with ⟨s',e',g'',r1,r2,r3⟩|⟨e',r1,r2⟩|⟨r1,r2,r3⟩
      · obtain ⟨t1,g1,m1,m2,_⟩:=hb.name k1
        obtain ⟨t2,g2,n1,n2,_⟩:=hb.name r1
        rw [k2] at m1;cases m1
        rw [r2] at n1;cases n1
        obtain ⟨p1,p2,_⟩:=Zba hb.tidy k1
        obtain ⟨p3,p4,_⟩:=Zba hb.tidy r1
        have:=hb.callee.store.apart s s' e e' b o1 o2 p1 p2 p3 p4 (by rw [←m2];exact l1) (by rw [←n2];exact l2)
        subst this
        rw [p1] at p3;cases p3
        rw [k2] at r2;cases r2
        rfl
      · rw [r2] at he2;cases he2;cases a2
      · rw [r3] at he2
        rw [hb.kept r2] at l2
        exact (key k1 k2 l1 he2 a2 l2 r1).elim
    · rw [k2] at he1;cases he1;cases a1
    · rw [k3] at he1
      rw [hb.kept k2] at l1
      rcases hb.cases t' with ⟨s',e',g'',r1,r2,r3⟩|⟨e',r1,r2⟩|⟨r1,r2,r3⟩
      · exact (key r1 r2 l2 he1 a1 l1 k1).elim
      · rw [r2] at he2;cases he2;cases a2
      · rw [r3] at he2
        rw [hb.kept r2] at l2
        exact h1.store.apart t t' e1 e2 b o1 o2 he1 a1 he2 a2 l1 l2
theorem Back.rel (hb:Back E d σ σ1 L w es ss σr La' w' gs K) (h1:Rel E w0 O0 σ0 L0 σ1 L w) (hk:K∨Zaj (B8 d gs σr)=false) :
    Rel E w0 O0 σ0 L0 (B5 σ1 (B8 d gs σr++Y7 (B8 d gs σr) es)) (Zbw d L σr La') w':=by
  refine h1.step (hb.storeOK h1 hk) hb.le hb.keep (fun b h=>hb.ownB h) ?_ ?_ rfl
  · intro x e2 he ha
    rcases hb.cases (.up x) with ⟨s,e,g',k1,k2,k3⟩|⟨e,k1,k2⟩|⟨k1,k2,k3⟩
    · rw [k3] at he
      cases he
      obtain ⟨t1,g1,m1,m2,m3⟩:=hb.name k1
      rw [k2] at m1
      cases m1
      rcases m3 with ⟨y,e0,rfl,hy,rfl,q1,q2,q3⟩|⟨k,rfl,hy,_⟩
      · subst hy
        obtain ⟨p1,p2⟩:=hb.es1 q1
        exact ⟨e0,p1,p2,q2,rfl⟩
      · cases hy
    · rw [k2] at he;cases he;cases ha
    · rw [k3] at he
      exact ⟨e2,he,ha,rfl,rfl⟩
  · intro b hi
    rcases hb.in2 hi with h2|h2
    · rcases hb.callee.src b h2 with h3|h3
      · exact .inl (hb.inE1 (Hand.inS h3))
      · exact .inr h3
    · exact .inl h2
end
end Cod
namespace Cod
open Go
variable {E:Env} {w0:World} {O0:Nat→Prop} {σ0:A2} {L0:Lay} {P:Program} {σ:A2} {L:Lay} {w:World} {o:Oper} {a:Act}
def Zja (P:Program) (f:FuncId) (args:Array Value) (w:World) (R:Value→World→Prop):Prop :=
  ∀ (o:Oper) (a:Act) (next:Act→World→Prop) (Q:Exit→Act→World→Prop),(∀ y w',R y w'→next (a.put o.dst y) w')→o.upon P a next Q ((callFunc f args).run P w)
def Zf8 (P:Program) (E:Env) (call:M9):Prop :=
  ∀ (f:Nat) (args:List AV) (σa:A2) (v:AV) (σr:A2),call f args σa=some (v,σr)→∀ (La:Lay) (w:World) (vs:List Value),Rel E w (I6 σa La) σa La σa La w→VRL (ctx σa La w) args vs →
    (∀ s e,A8 σa s=some e→∃ x,s=.up x)→Zja P f vs.toArray w (fun y w'=>∃ La',Rel E w (I6 σa La) σa La σr La' w'∧VR (ctx σr La' w') v y)
theorem Zt1 {es:List (Site × Ent)}:∀ {ss:List Site},Zjq es ss=false→∀ s∈ss,A8 es s=none:=by
  intro ss
  induction ss with
  | nil=>intro _ s h;simp at h
  | cons t ss ih =>
    intro h s hs
    simp only [Zjq,Ygl] at h
    rcases List.mem_cons.1 hs with rfl|hs
    · simpa using h.1
    · exact ih h.2 s hs
theorem Ybl (h:Rel E w0 O0 σ0 L0 σ L w) {call:M9} (hcall:Zf8 P E call) {c:Call} {f:Operand} {take:List Nat} {d:Nat} {args:List AV} {vf:AV} (ho:o.op=.call c) (hc:c.callee=.value f)
    (hf:VR (ctx σ L w) vf (a.eval f)) (hargs:VRL (ctx σ L w) args (c.args.toList.map a.eval)) {r:AV × Ups} (hr:(Zgh call d take args vf).run σ=some r):L3 E w0 O0 σ0 L0 P σ L w o a r.1 r.2:=by
  cases vf<;>try exact A7 hr
  rename_i fn cap
  simp only [Zgh,Za3] at hr
  simp only [VR] at hf
  obtain ⟨vs,hfe,hcap⟩:=hf
  obtain ⟨⟨args',rs,ss⟩,h1,h2⟩:=D7 hr
  simp only at h2
  obtain ⟨es,h3,h4⟩:=D7 h2
  have hall:=U4 hargs hcap
  cases hcl:call fn (rens (Z3 es) args') (N2 es es) with
  | none=>rw [hcl] at h4;exact A7 h4
  | some p =>
    obtain ⟨v,σr⟩:=p
    rw [hcl] at h4
    simp only [Zxe] at h4
    cases ht:(tidy σr && !(Zjq es ss)) with
    | false=>rw [ht] at h4;exact A7 h4
    | true =>
      rw [ht] at h4
      simp only [cond_true] at h4
      simp only [Yfz,Bool.not_eq_true'] at ht
      obtain ⟨gs,h5,h6⟩:=D7 h4
      cases hd:V0 (B8 d gs σr) with
      | false=>rw [hd] at h6;exact A7 h6
      | true =>
        rw [hd] at h6
        simp only [cond_true] at h6
        have hg:=Zzl h3
        have hh:Hand σ es ss:=⟨fun s e he=>hg s e (Ze4 he),Znc h1,Zt1 ht.2⟩
        have hstart:=hh.start h
        have hpass:=Zt0 h.store hh take h1 (fun s hs=>hs) hall
        have hup:∀ s e,A8 (N2 es es) s=some e→∃ x,s=.up x:=by
          intro s e he
          rw [Zdz] at he
          cases s with
          | up x=>exact ⟨x,rfl⟩
          | s n k=>simp at he
          | r k=>simp at he
        have hfn:=hcall _ _ _ _ _ hcl _ _ _ hstart hpass hup
        -- behind the call
        have hfin:∀ y w',(∃ La',Rel E w (I6 (N2 es es) (Zbh σ L es ss)) (N2 es es) (Zbh σ L es ss) σr La' w'∧VR (ctx σr La' w') v y) →
            ∃ L',Rel E w0 O0 σ0 L0 (B5 σ r.2) L' w'∧CLe (ctx σ L w) (ctx (B5 σ r.2) L' w')∧VR (ctx (B5 σ r.2) L' w') r.1 y:=by
          rintro y w' ⟨La',q1,q2⟩
          simp only [Zxd] at h6
          cases hk:(leads (ren (H1 d gs) v)||Zaj (B8 d gs σr)) with
          | true =>
            rw [hk] at h6
            simp only [cond_true] at h6
            obtain ⟨u,h7,h8⟩:=D7 h6
            have k:=A6 h8
            subst k
            obtain ⟨s1,s2,s3,s4,_,s6⟩:=Zqm h7 (Sim.refl σ) h
            have hb:Back E d σ (B5 σ u) L w es ss σr La' w' gs True:=⟨hh,fun s e hm=>(hg s e hm).1,s3,s6,fun _=>s4,ht.1,h5,hd,q1,h.store⟩
            refine ⟨Zbw d L σr La',?_,?_,?_⟩
            · show Rel _ _ _ _ _ (B5 σ (u++_)) _ _
              rw [C8]
              exact hb.rel s1 (.inl trivial)
            · show CLe _ (ctx (B5 σ (u++_)) _ _)
              rw [C8]
              exact s2.trans hb.le
            · show VR (ctx (B5 σ (u++_)) _ _) _ _
              rw [C8]
              exact Zf7 (K:=True) (hb.fl s1) hb.names (fun _ _ h=>h) v y (.inl trivial) q2
          | false =>
            rw [hk] at h6
            have k:=A6 h6
            subst k
            simp only [Ygl] at hk
            have hb:Back E d σ σ L w es ss σr La' w' gs False:=⟨hh,fun s e hm=>(hg s e hm).1,Sim.refl σ,fun _ _=>rfl,fun h=>h.elim,ht.1,h5,hd,q1,h.store⟩
            exact ⟨Zbw d L σr La',hb.rel h (.inr hk.2),hb.le,Zf7 (K:=False) (hb.fl h) hb.names (fun _ _ h=>h) v y (.inr (Zh2 _ hk.1)) q2⟩
        intro next Q hn
        have hrun:(execOp a.eval o).run P w=(callFunc fn (c.args.toList.map a.eval++vs.toList).toArray).run P w:=by
          have e1:(c.args.toList.map a.eval++vs.toList).toArray=c.args.map a.eval++vs:=by
            apply Array.ext';simp
          rw [e1]
          simp [execOp,ho,resolve,hc,hfe,Deferred.ofValue,invoke]
        unfold Oper.wp
        rw [hrun]
        refine hfn o a next Q fun y w' hR=>?_
        obtain ⟨L',k1,k2,k3⟩:=hfin y w' hR
        exact hn y w' L' k1 k2 k3
end Cod
namespace Cod
open Go
variable {E:Env} {w0:World} {O0:Nat→Prop} {σ0:A2} {L0:Lay} {P:Program} {σ:A2} {L:Lay} {w:World} {o:Oper} {a:Act}
theorem Fr.put {c c':Ctx} {sl loc:List (Nat × AV)} {N:Nat} (hf:Fr c (P2 sl loc) N a) (hc:CLe c c') {dst:Option Nat} {v:AV} {y:Value} (hv:VR c' v y) (hd:∀ d,dst=some d→d<N) {st:A2} {u:Ups} :
    Fr c' (P2 sl (Za0 ⟨loc,st⟩ dst v u).loc) N (a.put dst y):=by
  cases dst with
  | none=>exact ⟨fun t=>Y6 hc _ _ (hf.slots t),hf.defers,hf.size⟩
  | some d =>
    refine ⟨fun t=>?_,hf.defers,by simp [Act.put,hf.size]⟩
    simp only [Za0,P2,Act.put]
    by_cases ht:d=t
    · subst ht
      rw [if_pos rfl]
      have:d<a.tmps.size:=by rw [hf.size];exact hd d rfl
      simpa [this] using hv
    · rw [if_neg ht]
      have:=Y6 hc _ _ (hf.slots t)
      rw [Array.getD_eq_getD_getElem?] at this ⊢
      rw [Array.getElem?_setIfInBounds_ne ht]
      exact this
theorem Zqs (h:Rel E w0 O0 σ0 L0 σ L w) {call:M9} (hcall:Zf8 P E call) {sl loc:List (Nat × AV)} {N:Nat} (hfr:Fr (ctx σ L w) (P2 sl loc) N a) {A:Ann} {lop:LOp} {ops:Array Oper} {i:Nat} (hi:ops[i]? = some o)
    (hl:Zlx P A o=some lop) {g:Option (Nat × Bool)} (hg:Zdi ops o.guard=some g) (hd:∀ d,o.dst=some d→d<N) {r:RS} (hr:opR E call sl ⟨o.dst,lop,g⟩ ⟨loc,σ⟩=some r)
    {K:Act→World→Prop} {Q:Exit→Act→World→Prop}
    (hK:∀ a' w' L',Rel E w0 O0 σ0 L0 r.st L' w'→CLe (ctx σ L w) (ctx r.st L' w')→Fr (ctx r.st L' w') (P2 sl r.loc) N a'→K a' w'):wpOp P ops Q i K a w:=by
  unfold wpOp
  rw [hi]
  simp only
  have hgo:∀ {x:AV × Ups},(step call (evR E sl loc) (U2 o.dst) lop).run σ=some x→r=Za0 ⟨loc,σ⟩ o.dst x.1 x.2→o.wp P a w K Q:=by
    intro x hx hrx
    refine Ybk h hfr hl (fun c f lf las take ho hc hf hargs rr hrr=>?_) hx K Q (fun y w' L' k1 k2 k3=>?_)
    · exact Ybl h hcall ho hc (Zxt hfr (fun n=>(h.glob n).1) hf) (Z35 hfr (fun n=>(h.glob n).1) hargs) hrr
    · subst hrx
      have hst:(Za0 ⟨loc,σ⟩ o.dst x.1 x.2).st=B5 σ x.2:=by cases o.dst<;>rfl
      refine hK _ w' L' (by rw [hst];exact k1) (by rw [hst];exact k2) ?_
      rw [hst]
      exact hfr.put k2 k3 hd
  have hskip:r=Za0 ⟨loc,σ⟩ o.dst .und []→K (a.put o.dst undef) w:=by
    intro hrx
    subst hrx
    have hst:(Za0 ⟨loc,σ⟩ o.dst .und []).st = σ:=by cases o.dst<;>rfl
    refine hK _ w L (by rw [hst];exact h) (by rw [hst];exact CLe.refl _) ?_
    rw [hst]
    exact hfr.put (CLe.refl _) (by simp [VR]) hd
  unfold opR at hr
  cases hgd:o.guard with
  | none =>
    rw [hgd] at hg
    simp only [Zdi,Option.some.injEq] at hg
    subst hg
    try simp only at hr
    have hw:Region.wanted o (yielded ops a.tmps)=true:=by simp [Region.wanted,hgd]
    rw [if_pos hw]
    split at hr
    · rename_i v u hx;cases hr;exact .inl (hgo hx rfl)
    · cases hr
  | some jw =>
    obtain ⟨j,want⟩:=jw
    rw [hgd] at hg
    simp only [Zdi] at hg
    cases hj:(ops[j]?).bind (·.dst) with
    | none=>rw [hj] at hg;cases hg
    | some d =>
      rw [hj] at hg
      simp only [Option.some.injEq] at hg
      subst hg
      try simp only at hr
      have hs:=hfr.slots d
      have hev:evR E sl loc (.t d)=P2 sl loc d:=rfl
      rw [hev] at hr
      cases hv:P2 sl loc d<;>rw [hv] at hr hs<;>try (simp only at hr;cases hr;done)
      case bool b =>
        simp only [VR] at hs
        have hy:yielded ops a.tmps j=some b:=by
          simp only [yielded,hj,Yfg]
          rw [Array.getD_eq_getD_getElem?] at hs
          cases ht:a.tmps[d]? with
          | none=>rw [ht] at hs;cases hs
          | some x=>rw [ht] at hs;simp only [Ygp] at hs;subst hs;rfl
        cases hbw:(b==want) with
        | true =>
          simp only [hbw,cond_true] at hr
          have hw:Region.wanted o (yielded ops a.tmps)=true:=by
            simp only [beq_iff_eq] at hbw
            simp [Region.wanted,hgd,hy,hbw]
          rw [if_pos hw]
          split at hr
          · rename_i v u hx;cases hr;exact .inl (hgo hx rfl)
          · cases hr
        | false =>
          simp only [hbw,cond_false,Option.some.injEq] at hr
          have hw:¬ (Region.wanted o (yielded ops a.tmps)=true):=by
            simp only [beq_eq_false_iff_ne] at hbw
            simp [Region.wanted,hgd,hy,hbw]
          rw [if_neg hw]
          exact hskip hr.symm
      case und =>
        simp only [Option.some.injEq] at hr
        simp only [VR] at hs
        have hy:yielded ops a.tmps j=none:=by
          simp only [yielded,hj,Yfg]
          rw [Array.getD_eq_getD_getElem?] at hs
          cases ht:a.tmps[d]? with
          | none=>rfl
          | some x=>rw [ht] at hs;simp only [Ygp] at hs;subst hs;rfl
        have hw:¬ (Region.wanted o (yielded ops a.tmps)=true):=by simp [Region.wanted,hgd,hy]
        rw [if_neg hw]
        exact hskip hr.symm
end Cod

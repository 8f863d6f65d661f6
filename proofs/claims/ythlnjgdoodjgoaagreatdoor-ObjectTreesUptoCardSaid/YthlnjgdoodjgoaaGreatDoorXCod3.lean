/- Values put together, slices made, stores. -/
import Derived.Laws.MakeOwn
import Derived.Great.BuildSlice
import Derived.Laws.CopyRow
import Derived.Laws.IdiomStrings
import Derived.ChangeKeysEq
import Derived.MapKept
import Derived.Test.YthlnjgdoodjgoaaGreatDoorXCod2
set_option linter.unusedSimpArgs false
set_option linter.unusedVariables false
open List renaming append_assoc → Yel, drop_drop → Yer, eq_nil_of_length_eq_zero → Yeh, headD_cons → Yeq, length_append → Yek, length_drop → Yd1, length_take → Yd0, map_cons → Yed, size_toArray → Yd2, take_of_length_le → Yej
open Nat renaming add_mul → Yeg, le_refl → Ydt, le_trans → Ydu, min_le_left → Yeo, mul_le_mul_right → Yei, sub_zero → Yeu, zero_add → Yen
open Int renaming natCast_mul → Yem
open Bool renaming and_assoc → Yep, and_eq_true → Yd8, and_true → Yes
open Option renaming bind_eq_some_iff → Yef, bind_none → Yet, bind_some → Ydq, map_eq_some_iff → Ydz, map_some → Ydy
open Array renaming foldl_toList → Yee, length_toList → Yec
namespace Cod
open Go
variable {E:Env} {w0:World} {O0:Nat→Prop} {σ0:A3} {L0:Lay} {P:Program} {σ:A3} {L:Lay} {w:World} {o:Oper} {a:Act}
theorem Zxy {c:Ctx} {x:AV} {y:Value} (hv:VR c x y) {cs:List AV} (h:H3 x=some cs):y.cells.size=cs.length:=by
  have:=G4 (Zb0 hv h)
  simpa using this
theorem Zsc {cells:List AV} {off n:Nat} {ys:Option (List AV)} {r:List AV} (h:Zi8 cells off n ys=some r):∃ y,ys=some y∧y.length=n∧off+n≤cells.length∧r=over cells off y:=by
  cases ys with
  | none=>simp [Zi8] at h
  | some y =>
    simp only [Zi8] at h
    split at h
    · rename_i hc;simp only [Option.some.injEq] at h;exact ⟨y,rfl,hc.1,hc.2,h.symm⟩
    · cases h
theorem Zsd {ρ:LO→AV} {l:List (Nat × Nat × LO)}:X3 ρ l none=none:=by cases l<;>rfl
theorem Zwn {c:Ctx} {off place:Nat→Option (Nat × Nat)} {ρ:LO→AV} {ev:Operand→Value} (hρ:∀ x lx,H9 x=some lx→VR c (ρ lx) (ev x)) (hp:∀ i p,off i=some p→place i=some p) :
    ∀ {parts:List (Nat × Operand)} {lps:List (Nat × Nat × LO)},U9 off parts=some lps→∀ {cells:List AV} {cs:Array Value} {out:List AV},VRL c cells cs.toList→X3 ρ lps (some cells)=some out →
      ∃ r,Instr.fill place cs (parts.map fun p=>(p.1,ev p.2))=some r∧VRL c out r.toList:=by
  intro parts
  induction parts with
  | nil =>
    intro lps h cells cs out hv hf
    simp only [U9,Option.some.injEq] at h
    subst h
    simp only [X3,Option.some.injEq] at hf
    subst hf
    exact ⟨cs,rfl,hv⟩
  | cons p parts ih =>
    intro lps h cells cs out hv hf
    obtain ⟨i,x⟩:=p
    simp only [U9] at h
    cases h1:off i with
    | none=>rw [h1] at h;simp at h
    | some q =>
      obtain ⟨of,n⟩:=q
      cases h2:H9 x with
      | none=>rw [h1,h2] at h;simp at h
      | some lx =>
        cases h3:U9 off parts with
        | none=>rw [h1,h2,h3] at h;simp at h
        | some lps' =>
          rw [h1,h2,h3] at h
          simp only [Option.some.injEq] at h
          subst h
          simp only [X3] at hf
          cases h4:Zi8 cells of n (H3 (ρ lx)) with
          | none=>rw [h4,Zsd] at hf;cases hf
          | some r =>
            rw [h4] at hf
            obtain ⟨y,h5,h6,h7,rfl⟩:=Zsc h4
            have hx:=hρ x lx h2
            have hy:=Zb0 hx h5
            have hyl:=Zxy hx h5
            have hcl:=G4 hv
            simp only [Yec] at hcl
            simp only [Yed,Instr.fill,hp i _ h1]
            rw [if_neg (by simp [hyl,h6];omega)]
            refine ih h3 ?_ hf
            have:=Zjo (ev x).cells.toList 0 of cs (by simp [hyl];omega)
            have e:((ev x).cells.zipIdx.foldl (fun cs (p:Value × Nat)=>cs.setIfInBounds (of+p.2) p.1) cs)=(((ev x).cells.toList.zipIdx 0).foldl (fun cs (p:Value × Nat)=>cs.setIfInBounds (of+p.2) p.1) cs):=by
              rw [←Yee];simp
            show VRL c _ (((ev x).cells.zipIdx.foldl (fun cs (p:Value × Nat)=>cs.setIfInBounds (of+p.2) p.1) cs)).toList
            rw [e,this]
            exact Z2w hv hy of
theorem Zo7 (h:Rel E w0 O0 σ0 L0 σ L w) {t:TypeId} {parts:Array (Nat × Operand)} {z:List AV} {off:Nat→Option (Nat × Nat)} {lps:List (Nat × Nat × LO)} {ρ:LO→AV} (hz:Y9 P t=some z)
    (ho:o.op=.build t parts) (hρ:∀ x lx,H9 x=some lx→VR (ctx σ L w) (ρ lx) (a.eval x)) (hl:U9 off parts.toList=some lps)
    (hu:(∃ fs places,P.underlying t=some (.struct fs)∧fs.toList.mapM (fun f=>(P.info? f.type).map fun i=>(f.offset,i.size))=some places∧off=fun i=>places.toArray[i]?) ∨
      (∃ n e m,P.underlying t=some (.array n e)∧J9 P e=some m∧off=fun i=>some (i*m,m)))
    {r:AV × Ups} (hr:(Zku (X3 ρ lps (some z))).run σ=some r):J7 E w0 O0 σ0 L0 P σ L w o a r.1 r.2:=by
  cases hf:X3 ρ lps (some z) with
  | none=>rw [hf] at hr;exact A9 hr
  | some cs =>
    rw [hf] at hr
    have k:=A7 hr
    subst k
    unfold Y9 at hz
    cases hb:(P.info? t).bind (·.zero) with
    | none=>rw [hb] at hz;cases hz
    | some zv =>
      rw [hb] at hz
      simp only at hz
      simp only [Yef] at hb
      obtain ⟨it,hit,hiz⟩:=hb
      obtain ⟨out,h1,h2⟩:=Zwn (place:=off) hρ (fun _ _ h=>h) hl (cs:=zv.cells) (S7 _ hz) hf
      have hbt:P.built t (parts.map fun p=>(p.1,a.eval p.2)).toList=some out:=by
        rcases hu with ⟨fs,places,hu1,hu2,rfl⟩|⟨n,e,m,hu1,hu2,rfl⟩
        · simp only [Program.built,hit,hu1,hiz,hu2]
          simpa using h1
        · unfold J9 at hu2
          simp only [Ydz] at hu2
          obtain ⟨ie,h3,h4⟩:=hu2
          simp only [Program.built,hit,hu1,hiz,h3,h4]
          simpa using h1
      refine B0 h (y:=.agg out) ?_ (by simp only [VR];exact ⟨out,rfl,h2⟩)
      have:=run_build (P:=P) w t _ out hbt
      simp [execOp,ho,this]
theorem Zh7 (z:List AV) (n:Nat):(rep z n).length=n*z.length:=by
  induction n with
  | zero=>simp [rep]
  | succ n ih=>simp [rep,ih,Yeg,Nat.add_comm]
theorem Zse {c:Ctx}:∀ {xs:List AV} {vs:List Value},xs.length=vs.length→(∀ (i:Nat) (x:AV) (v:Value),xs[i]? = some x→vs[i]? = some v→VR c x v)→VRL c xs vs:=by
  intro xs
  induction xs with
  | nil=>intro vs h _;simp only [VRL];exact Yeh h.symm
  | cons x xs ih =>
    intro vs h hg
    cases vs with
    | nil=>simp at h
    | cons v vs =>
      simp only [VRL]
      exact ⟨v,vs,rfl,hg 0 x v rfl rfl,ih (by simpa using h) fun i y u h1 h2=>hg (i+1) y u (by simpa using h1) (by simpa using h2)⟩
theorem Z9s (z:List AV) (n i:Nat) (h:i<n*z.length):(rep z n)[i]? = z[i%z.length]? := by
  induction n generalizing i with
  | zero=>simp at h
  | succ n ih =>
    simp only [rep]
    by_cases hi:i<z.length
    · rw [List.getElem?_append_left hi,Nat.mod_eq_of_lt hi]
    · have hge:z.length≤i:=Nat.le_of_not_lt hi
      have h':i-z.length<n*z.length:=by rw [Nat.succ_mul] at h;omega
      rw [List.getElem?_append_right hge,ih _ h',←Nat.mod_eq_sub_mod hge]
theorem Zb9 {c:Ctx} {z:List AV} {zv:Array Value} (h:VRL c z zv.toList) (hz:0<z.length) (n m:Nat) (hnm:n≤m) :
    VRL c (rep z n) ((madeCells zv (m*z.length)).toList.take (n*z.length)):=by
  have hl:=G4 h
  simp only [Yec] at hl
  have hle:n*z.length≤m*z.length:=Yei _ hnm
  refine Zse (by rw [Zh7,Yd0,show (madeCells zv (m*z.length)).toList.length=m*z.length from size_madeCells _ _];omega) fun i x v h1 h2=>?_
  have hi:i<n*z.length:=by
    rcases Nat.lt_or_ge i (n*z.length) with h3|h3
    · exact h3
    · rw [List.getElem?_eq_none (by rw [Zh7];exact h3)] at h1;cases h1
  rw [Z9s _ _ _ hi] at h1
  obtain ⟨u,h3,h4⟩:=Zav h h1
  rw [List.getElem?_take,if_pos hi] at h2
  have him:i<m*z.length:=by omega
  have hmod:i%z.length<zv.size:=by rw [hl];exact Nat.mod_lt _ hz
  have e:(madeCells zv (m*z.length)).toList[i]? = some zv[i%zv.size]! := by
    simp [madeCells,him]
  rw [e] at h2
  cases h2
  have e2:zv[i%zv.size]! = u:=by
    rw [hl]
    simp only [Array.getElem?_toList] at h3
    rw [getElem!_pos zv _ hmod]
    rw [Array.getElem?_eq_getElem hmod] at h3
    exact Option.some.inj h3
  rw [e2]
  exact h4
theorem Zo8 {xs:List Value} {n i:Nat} {v:Value} (h:(xs.take n)[i]? = some v):xs[i]? = some v:=by
  rw [List.getElem?_take] at h
  split at h
  · exact h
  · cases h
theorem ok_mks (h:Rel E w0 O0 σ0 L0 σ L w) {t e:TypeId} {l c:Operand} {sz by_:Nat} {z:List AV} {d:Nat} (ht:P.underlying t=some (.slice e)) (hs:J9 P e=some sz) (hb:Zc5 P e=some by_) (hz:Y9 P e=some z)
    (hzl:z.length=sz) (hsz:sz≠0) (ho:o.op=.makeSlice t l c) {vl vc:AV} (hl:VR (ctx σ L w) vl (a.eval l)) (hc:VR (ctx σ L w) vc (a.eval c))
    {r:AV × Ups} (hr:(mksV (.s d 0) sz by_ z vl vc).run σ=some r):J7 E w0 O0 σ0 L0 P σ L w o a r.1 r.2:=by
  cases vl<;>try exact A9 hr
  rename_i kl nl
  cases kl<;>try exact A9 hr
  cases vc<;>try exact A9 hr
  rename_i kc nc
  cases kc<;>try exact A9 hr
  simp only [mksV] at hr
  obtain ⟨⟨h0,h1,h2,h3⟩,h4⟩:=G0 hr
  obtain ⟨g,hg,rfl⟩:=Za8 h4
  simp only [VR] at hl hc
  unfold J9 at hs
  unfold Zc5 at hb
  unfold Y9 at hz
  simp only [Ydz] at hs hb
  obtain ⟨ie,h5,h6⟩:=hs
  obtain ⟨ie',h7,h8⟩:=hb
  rw [h5] at h7
  cases h7
  cases hzv:ie.zero with
  | none=>rw [h5] at hz;simp only [Ydq,hzv] at hz;cases hz
  | some zv =>
    rw [h5] at hz
    simp only [Ydq,hzv] at hz
    have hrun:=run_make (P:=P) w t e ie zv ht h5 hzv .i64 .i64 nl nc h0 h1 (by rw [h8];exact h2) (by omega)
    have hvl:=S7 (ctx σ L w) hz
    have hv:=Zb9 hvl (by omega) nl.toNat nc.toNat (by omega)
    rw [hzl] at hv
    rw [h6] at hrun
    obtain ⟨k1,k2⟩:=h.new hg false hv (madeCells zv.cells (nc.toNat*sz)) (fun i v hi=>by have:=Zo8 hi;simpa using this) e (0,0) (by simp)
    refine K2 (y:=.slice (some ⟨w.heap.size,0,none⟩) nl.toNat nc.toNat) (by simp [execOp,ho,hl,hc,hrun]) k1 k2 ?_
    simp only [VR]
    refine ⟨rfl,g,true,H4 (C0 _ _ _),Ydt _,fun _ _=>?_⟩
    show K1 (ctx (G3 σ (.s d 0) _) (F6 L (.s d 0) (some (w.heap.size,0))) _) _ _ _ _ _
    unfold K1
    rw [show (ctx (G3 σ (.s d 0) ⟨g,true,true,false,rep z nl.toNat⟩) (F6 L (.s d 0) (some (w.heap.size,0))) (w.alloc (.cells (madeCells zv.cells (nc.toNat*sz)) e))).L (.s d 0)=some (w.heap.size,0) from F9 _ _ _]
    refine .inr ⟨nc.toNat,rfl,by omega,madeCells zv.cells (nc.toNat*sz),e,(0,0),heap_alloc_new w _,?_⟩
    rw [size_madeCells];omega
theorem Zxz (h:Rel E w0 O0 σ0 L0 σ L w) {t e:TypeId} {len sz:Nat} {parts:Array (Nat × Operand)} {z:List AV} {lps:List (Nat × Nat × LO)} {ρ:LO→AV} {d:Nat} (ht:P.underlying t=some (.slice e))
    (hs:J9 P e=some sz) (hz:Y9 P e=some z) (hzl:z.length=sz) (hsz:sz≠0) (hsm:len*sz≤16777216)
    (ho:o.op=.buildSlice t len parts) (hρ:∀ x lx,H9 x=some lx→VR (ctx σ L w) (ρ lx) (a.eval x)) (hl:U9 (fun i=>some (i*sz,sz)) parts.toList=some lps)
    {r:AV × Ups} (hr:(Zep (.s d 0) len sz (X3 ρ lps (some (rep z len)))).run σ=some r):J7 E w0 O0 σ0 L0 P σ L w o a r.1 r.2:=by
  cases hf:X3 ρ lps (some (rep z len)) with
  | none=>rw [hf] at hr;exact A9 hr
  | some cs =>
    rw [hf] at hr
    simp only [Zep] at hr
    obtain ⟨⟨cs',u,ss⟩,h1,h2⟩:=F5 hr
    simp only at h2
    obtain ⟨g,hg,rfl⟩:=Za8 h2
    unfold J9 at hs
    unfold Y9 at hz
    simp only [Ydz] at hs
    obtain ⟨ie,h5,h6⟩:=hs
    cases hzv:ie.zero with
    | none=>rw [h5] at hz;simp only [Ydq,hzv] at hz;cases hz
    | some zv =>
      rw [h5] at hz
      simp only [Ydq,hzv] at hz
      have hvl:=S7 (ctx σ L w) hz
      have hmade:∃ z0:Array Value,(if len*sz=0 then (pure #[]:Sem (Array Value)) else do pure (←zeroValue e).cells).run P w=.ok z0 w∧VRL (ctx σ L w) (rep z len) ((Array.range (len*sz)).map (z0[· % z0.size]!)).toList:=by
        by_cases hn:len*sz=0
        · refine ⟨#[],by simp [hn],?_⟩
          have hl0:len=0:=by rcases Nat.mul_eq_zero.1 hn with h|h<;>omega
          subst hl0
          simp [rep,VRL]
        · refine ⟨zv.cells,by simp [hn,zeroValue,typeInfo,h5,hzv],?_⟩
          have:=Zb9 hvl (by omega) len len (Ydt _)
          rw [hzl,Yej (by simp [size_madeCells])] at this
          exact this
      obtain ⟨z0,hz0,hv0⟩:=hmade
      obtain ⟨out,h7,h8⟩:=Zwn (place:=fun i=>some (i*sz,sz)) hρ (fun _ _ h=>h) hl (cs:=(Array.range (len*sz)).map (z0[· % z0.size]!)) hv0 hf
      obtain ⟨k1,k2,k3,k4,_,_⟩:=Zk5 h h8 h1
      have hlen:∀ (ps:List (Nat × Value)) (pl:Nat→Option (Nat × Nat)) (xs out:Array Value),Instr.fill pl xs ps=some out→out.size=xs.size:=by
        intro ps pl
        induction ps with
        | nil=>intro xs out h;simp only [Instr.fill,Option.some.injEq] at h;rw [h]
        | cons p ps ih =>
          intro xs out h
          obtain ⟨i,v⟩:=p
          simp only [Instr.fill] at h
          cases hpl:pl i with
          | none=>rw [hpl] at h;cases h
          | some q =>
            rw [hpl] at h
            simp only at h
            split at h
            · cases h
            · rename_i hcond
              have:=ih _ _ h
              rw [this]
              simp only [ne_eq,Bool.or_eq_true,decide_eq_true_eq,not_or,Decidable.not_not,Nat.not_lt] at hcond
              have h9:=Zjo v.cells.toList 0 q.1 xs (by simp;omega)
              have e:(v.cells.zipIdx.foldl (fun cs (p:Value × Nat)=>cs.setIfInBounds (q.1+p.2) p.1) xs)=((v.cells.toList.zipIdx 0).foldl (fun cs (p:Value × Nat)=>cs.setIfInBounds (q.1+p.2) p.1) xs):=by
                rw [←Yee];simp
              show (v.cells.zipIdx.foldl (fun cs (p:Value × Nat)=>cs.setIfInBounds (q.1+p.2) p.1) xs).size=_
              rw [e,←Yec,h9]
              simp only [Yek,Yd0,Yd1,Yec]
              omega
      have hsz2:=hlen _ _ _ _ h7
      simp only [Array.size_map,Array.size_range] at hsz2
      have hg':∀ e,A6 (B2 σ u) (.s d 0)=some e→e.g<g:=by
        intro e he
        obtain ⟨e1,g1,_,g2,_⟩:=k4.back he
        rw [←g2]
        exact hg e1 g1
      obtain ⟨m1,m2⟩:=k1.new (d:=d) (k:=0) hg' false k3 out (by simp) e (0,0) (by simp)
      refine K2 (w':=w.alloc (.cells out e)) (L':=F6 L (.s d 0) (some (w.heap.size,0))) (y:=.slice (some ⟨w.heap.size,0,none⟩) len len) ?_ (by rw [C4];exact m1) (by rw [C4];exact k2.trans m2) ?_
      · have hso:(Go.sizeOf e).run P w=.ok sz w:=by simp [Go.sizeOf,typeInfo,h5,h6]
        have hmap:(parts.map fun p=>(p.1,a.eval p.2)).toList=parts.toList.map fun p=>(p.1,a.eval p.2):=by simp
        have hns:¬ (16777216<len*sz):=by omega
        have hB:(Instr.buildSlice t len (parts.map fun p=>(p.1,a.eval p.2))).run P w=.ok (.slice (some ⟨w.heap.size,0,none⟩) len len) (w.alloc (.cells out e)):=by
          unfold Instr.buildSlice
          simp only [Sem.run_bind,run_underlying ht,Result.andThen_ok,hso]
          rw [hmap]
          by_cases hn:len*sz=0
          · rw [if_pos hn] at hz0
            simp only [Sem.run_pure,Result.ok.injEq,and_true] at hz0
            subst hz0
            simp [hns,hn,newRow]
            rw [hn] at h7
            simp at h7
            rw [h7]
            try simp
          · rw [if_neg hn] at hz0
            simp [hns,hn,newRow,zeroValue,typeInfo,h5,hzv] at hz0 ⊢
            subst hz0
            rw [h7]
            simp
        simp [execOp,ho,hB]
      · simp only [VR]
        refine ⟨rfl,g,true,by rw [C4];exact H4 (C0 _ _ _),Ydt _,fun _ _=>?_⟩
        rw [C4]
        show K1 (ctx (G3 (B2 σ u) (.s d 0) _) (F6 L (.s d 0) (some (w.heap.size,0))) _) _ _ _ _ _
        unfold K1
        rw [show (ctx (G3 (B2 σ u) (.s d 0) ⟨g,true,true,false,cs'⟩) (F6 L (.s d 0) (some (w.heap.size,0))) (w.alloc (.cells out e))).L (.s d 0)=some (w.heap.size,0) from F9 _ _ _]
        refine .inr ⟨len,rfl,Ydt _,out,e,(0,0),heap_alloc_new w _,by omega⟩
end Cod
namespace Cod
open Go
variable {E:Env} {w0:World} {O0:Nat→Prop} {σ0:A3} {L0:Lay} {P:Program} {σ:A3} {L:Lay} {w:World} {o:Oper} {a:Act}
theorem Ze0 (P:Program) (g q:Nat) (t:TypeId) (fr:Nat × Nat):∀ (vs:List Value) (i:Nat) (cur:Array Value) (w:World),w.heap[g]? = some (.cells cur t fr)→(∀ k,k<cur.size→¬ (fr.1≤k∧k<fr.2)) →
    q+i+vs.length≤cur.size→(∀ v∈vs,v.oneCell'=true) →
    (storeCells ⟨g,q,none⟩ vs i).run P w=.ok () (w.setRow g (cur.toList.take (q+i)++vs++cur.toList.drop (q+i+vs.length)).toArray)
  | [],i,cur,w,hg,_,_,_=>by
    simp only [storeCells,List.append_nil,List.length_nil,Nat.add_zero,List.take_append_drop,Array.toArray_toList]
    rw [setRow_self w g cur t fr hg]
    rfl
  | v::rest,i,cur,w,hg,hfr,hl,h1=>by
    have hi:q+i<cur.size:=by simp at hl;omega
    have hadd:(⟨g,q,none⟩:Addr).add i=⟨g,q+i,none⟩:=by unfold Addr.add;split<;>simp_all
    have hcell:w.cell? ⟨g,q+i,none⟩=some cur[q+i]:=by simp [World.cell?,hg,hi]
    have hfro:w.frozen? ⟨g,q+i,none⟩=false:=by
      obtain ⟨lo,hi'⟩:=fr
      have:=hfr (q+i) hi
      simp only [World.frozen?,hg,Bool.and_eq_false_imp,decide_eq_true_eq,decide_eq_false_iff_not]
      intro h2 h3
      exact this ⟨h2,h3⟩
    have hst:(store ((⟨g,q,none⟩:Addr).add i) v).run P w=.ok () (w.setRow g (cur.setIfInBounds (q+i) v)):=by
      rw [hadd,run_store P w _ v _ (h1 v (by simp)),hcell]
      simp [hfro,setCell_eq_setRow w g (q+i) cur t fr v hg]
    have ih:=Ze0 P g q t fr rest (i+1) (cur.setIfInBounds (q+i) v) (w.setRow g (cur.setIfInBounds (q+i) v)) (setRow_heap w g cur _ t _ hg) (by simpa using hfr) (by simp at hl ⊢;omega) (fun x hx=>h1 x (by simp [hx]))
    simp only [storeCells,Sem.run_bind,hst,Result.andThen_ok,ih,setRow_setRow]
    congr 3
    have e:=list_seg_step cur.toList (q+i) v rest (by simp at hl ⊢;omega)
    simpa [Array.toList_setIfInBounds,Nat.add_assoc] using e
theorem Zcx.roomK {b n k:Nat} (h:Zcx w b n) (hr:X0 w b k):Zcx w b k:=by
  obtain ⟨cs,el,fr,h1,_,h3⟩:=h
  obtain ⟨cs',el',fr',h4,h5⟩:=hr
  rw [h1] at h4
  cases h4
  exact ⟨cs,el,fr,h1,h5,h3⟩
theorem Zcx.le {b n k:Nat} (h:Zcx w b n) (hk:k≤n):Zcx w b k:=by
  obtain ⟨cs,el,fr,h1,h2,h3⟩:=h
  exact ⟨cs,el,fr,h1,Ydu hk h2,h3⟩
theorem Zsf (P:Program) {b N q:Nat} {vs:List Value} (hf:Zcx w b N) (hq:q+vs.length≤N) (h1:∀ v∈vs,v.oneCell'=true) :
    ∃ w',(storeCells ⟨b,q,none⟩ vs).run P w=.ok () w'∧Keep (fun x=>x=b) w w'∧Zcx w' b N∧(∀ i,q≤i→i<q+vs.length→w'.cell? ⟨b,i,none⟩=vs[i-q]?) ∧
      (∀ i,¬ (q≤i∧i<q+vs.length)→w'.cell? ⟨b,i,none⟩=w.cell? ⟨b,i,none⟩):=by
  obtain ⟨cs,el,fr,hg,hN,hfr⟩:=hf
  have hr:=Ze0 P b q el fr vs 0 cs w hg (fun k hk=>by omega) (by omega) h1
  simp only [Nat.add_zero] at hr
  have hnew:=setRow_heap w b cs (cs.toList.take q++vs++cs.toList.drop (q+vs.length)).toArray el fr hg
  have hsize:(cs.toList.take q++vs++cs.toList.drop (q+vs.length)).toArray.size=cs.size:=by
    simp only [Yd2,Yek,Yd0,Yd1,Yec];omega
  refine ⟨_,hr,⟨rfl,rfl,rfl,by simp [World.setRow],fun k _ hk=>setRow_other w b k _ hk,?_⟩,⟨_,el,fr,hnew,by rw [hsize];exact hN,by rw [hsize];exact hfr⟩,?_,?_⟩
  · intro k n ⟨cs',el',fr',h4,h5⟩
    by_cases hk:k=b
    · subst hk
      rw [hg] at h4
      cases h4
      exact ⟨_,el,fr,hnew,by rw [hsize];exact h5⟩
    · exact ⟨cs',el',fr',by rw [setRow_other w b k _ hk];exact h4,h5⟩
  · intro i hi1 hi2
    simp only [World.cell?,hnew]
    simp only [List.getElem?_toArray]
    rw [Yel,List.getElem?_append_right (by simp;omega)]
    have:(cs.toList.take q).length=q:=by simp;omega
    rw [this,List.getElem?_append_left (by omega)]
    rfl
  · intro i hi
    simp only [World.cell?,hnew,hg]
    simp only [List.getElem?_toArray]
    have:(cs.toList.take q).length=q:=by simp;omega
    by_cases h3:i<q
    · rw [Yel,List.getElem?_append_left (by omega),List.getElem?_take,if_pos h3]
      simp
    · rw [List.getElem?_append_right (by simp;omega)]
      simp only [Yek,this,List.getElem?_drop]
      rw [show q+vs.length+(i-(q+vs.length))=i by omega]
      simp
theorem Z2y {cells xs:List AV} {off:Nat} (hoff:off+xs.length≤cells.length) (i:Nat):(over cells off xs)[i]? = if i<off then cells[i]? else if i<off+xs.length then xs[i-off]? else cells[i]? := by
  unfold over
  have e1:(cells.take off).length=off:=by simp;omega
  by_cases h1:i<off
  · rw [if_pos h1,Yel,List.getElem?_append_left (by omega),List.getElem?_take,if_pos h1]
  · rw [if_neg h1]
    by_cases h2:i<off+xs.length
    · rw [if_pos h2,Yel,List.getElem?_append_right (by omega),e1,List.getElem?_append_left (by omega)]
    · rw [if_neg h2,List.getElem?_append_right (by simp;omega),Yek,e1,List.getElem?_drop,show off+xs.length+(i-(off+xs.length))=i by omega]
theorem Zk6 {c c':Ctx} (hc:CLe c c') {b o' off:Nat} {cells xs:List AV} {vs:List Value} (h:VRC c b o' cells) (hx:VRL c xs vs) (hoff:off+xs.length≤cells.length)
    (hin:∀ i,o'+off≤i→i<o'+off+vs.length→c'.w.cell? ⟨b,i,none⟩=vs[i-(o'+off)]?) (hout:∀ i,¬ (o'+off≤i∧i<o'+off+vs.length)→c'.w.cell? ⟨b,i,none⟩=c.w.cell? ⟨b,i,none⟩) :
    VRC c' b o' (over cells off xs):=by
  have hl:=G4 hx
  refine S5 fun i x hi=>?_
  rw [Z2y hoff] at hi
  by_cases h1:i<off
  · rw [if_pos h1] at hi
    obtain ⟨v,h2,h3⟩:=Zbm h hi
    exact ⟨v,by rw [hout _ (by omega)];exact h2,V8 hc _ _ h3⟩
  · rw [if_neg h1] at hi
    by_cases h2:i<off+xs.length
    · rw [if_pos h2] at hi
      obtain ⟨v,h3,h4⟩:=Zav hx hi
      exact ⟨v,by rw [hin _ (by omega) (by omega),show o'+i-(o'+off)=i-off by omega];exact h3,V8 hc _ _ h4⟩
    · rw [if_neg h2] at hi
      obtain ⟨v,h3,h4⟩:=Zbm h hi
      exact ⟨v,by rw [hout _ (by omega)];exact h3,V8 hc _ _ h4⟩
theorem ok_st (h:Rel E w0 O0 σ0 L0 σ L w) {t:TypeId} {x y:Operand} {n:Nat} (ho:o.op=.store t x y) (hs:J9 P t=some n) {vx vy:AV} (hx:VR (ctx σ L w) vx (a.eval x)) (hy:VR (ctx σ L w) vy (a.eval y))
    {r:AV × Ups} (hr:(stV n vx (H3 vy)).run σ=some r):J7 E w0 O0 σ0 L0 P σ L w o a r.1 r.2:=by
  cases vx<;>try exact A9 hr
  rename_i s g off
  cases hc:H3 vy with
  | none=>rw [hc] at hr;exact A9 hr
  | some xs =>
    rw [hc] at hr
    simp only [stV] at hr
    obtain ⟨e,he,ha,hg,h1⟩:=H8 hr
    simp only [stC] at h1
    obtain ⟨⟨hrw,hxn,hoff,hh⟩,h2⟩:=G0 h1
    obtain ⟨b,o',hl,hp,hf,hcells⟩:=Zb8 h.store hx he ha hg
    have hvl:=Zb0 hy hc
    have hlen:=G4 hvl
    have hone:=Zf4 hvl hh
    obtain ⟨w',g1,g2,g3,g4,g5⟩:=Zsf P (b:=b) (q:=o'+off) (vs:=(a.eval y).cells.toList) hf (by rw [hlen];omega) hone
    have hrun:(execOp a.eval o).run P w=.ok .skip w':=by
      have hst:(Instr.storeAt t (a.eval x) (a.eval y)).run P w=.ok () w':=by
        have:(a.eval y).cells.size=n:=by simpa [hxn] using hlen
        simp [Instr.storeAt,Instr.sureAddr,hp,storeVar,R2 hs,this,g1]
      simp [execOp,ho,hst]
    cases hv:e.var with
    | true =>
      have hb:∀ (A B:Acc (AV × Ups)),(bif e.var then A else B)=A:=fun A B=>by rw [hv];rfl
      rw [hb] at h2
      have k:=A7 h2
      subst k
      obtain ⟨k1,k2⟩:=h.upd he ha hrw hl (cells:=over e.cells off xs) g2 (by rw [Zda (by omega)];exact g3)
        (fun c' hc' hw'=>Zk6 hc' hcells hvl (by omega) (by rw [hw'];exact g4) (by rw [hw'];exact g5))
      exact Zdv (u:=[(s,{ e with cells:=over e.cells off xs })]) hrun k1 k2
    | false =>
      have hb:∀ (A B:Acc (AV × Ups)),(bif e.var then A else B)=B:=fun A B=>by rw [hv];rfl
      rw [hb] at h2
      obtain ⟨⟨cs',u,ss⟩,h3,h4⟩:=F5 h2
      simp only at h4
      cases hcon:ss.contains s with
      | true=>rw [hcon] at h4;exact A9 h4
      | false =>
        rw [hcon] at h4
        have k:=A7 h4
        subst k
        have hns:s∉ss:=by simpa using hcon
        obtain ⟨k1,k2,k3,k4,k5,k6⟩:=Zk5 h hvl h3
        have he':A6 (B2 σ u) s=some e:=(k6 s hns).trans he
        have hlen':=G4 k3
        obtain ⟨m1,m2⟩:=k1.upd he' ha hrw hl (cells:=over e.cells off cs') g2 (by rw [Zda (by omega)];exact g3)
          (fun c' hc' hw'=>Zk6 hc' (VRC_le k2 b (fun _=>rfl) _ _ hcells) k3 (by omega) (by rw [hw'];exact g4) (by rw [hw'];exact g5))
        exact Zdv (u:=u++[(s,{ e with cells:=over e.cells off cs' })]) hrun (by rw [C4];exact m1) (by rw [C4];exact k2.trans m2)
end Cod
namespace Cod
open Go
variable {E:Env} {w0:World} {O0:Nat→Prop} {σ0:A3} {L0:Lay} {P:Program} {σ:A3} {L:Lay} {w:World} {o:Oper} {a:Act}
def Zwo (P:Program) (w:World) (tx:TypeId) (x:Value) (z:Value) (sz bytes m:Nat) (news:List Value):Prop :=
  (∃ dsc,P.underlying tx=some dsc∧(dsc=.string∨∃ e',dsc=.slice e')∧∀ w1:World,w1.heap=w.heap→(Builtin.lenOf x).run P w1=.ok m w1∧(Builtin.firstCells sz m x).run P w1=.ok news.toArray w1) ∨
  (∃ k,P.underlying tx=some (.int k)∧x=.int .i64 m∧m≤L7∧m*bytes≤L7∧news=(if m*sz=0 then #[] else Builtin.zeroCells z.cells m).toList)
section
variable {t ty e tx:TypeId} {i:TypeInfo} {z:Value} {m:Nat} {news:List Value} {x:Value}
theorem Zbe {n:Nat} (h:n≤L7):IntKind.i64.wrap (n:Int)=(n:Int):=by
  rw [IntKind.wrap_i64];unfold L7 at h;omega
theorem Ze1 (ht:P.underlying t=some (.slice e)) (hi:P.info? e=some i) (hz:i.zero=some z) (hx:Zwo P w tx x z i.size i.bytes m news) (b:Addr) (n cap:Nat) (hroom:n+m≤cap) {w':World} (hst:(storeCells (b.add (n*i.size)) news).run P w=.ok () w') :
    (Builtin.append_ #[t,tx] ty #[.slice (some b) n cap,x]).run P w=.ok (.slice (some b) (n+m) cap) w':=by
  have hso:∀ w1:World,(Go.sizeOf e).run P w1=.ok i.size w1:=fun w1=>by simp [Go.sizeOf,typeInfo,hi]
  rcases hx with ⟨dsc,h1,h2,h3⟩|⟨k,h1,h2,h3,h4,h5⟩
  · obtain ⟨h4,h5⟩:=h3 w rfl
    rcases h2 with rfl|⟨e',rfl⟩<;>simp [Builtin.append_,run_underlying ht,run_underlying h1,hso,h4,h5,hroom,hst]
  · subst h2
    subst h5
    have n1:¬ ((m:Int)<0):=by omega
    have n2:¬ (281474976710656<(m:Int)*(i.bytes:Int)):=by rw [←Yem];unfold L7 at h4;omega
    by_cases hm:m*i.size=0
    · simp [Builtin.append_,run_underlying ht,run_underlying h1,hso,typeInfo,hi,asInt,asIntOf,Zbe h3,n1,n2,hroom,hm]
      rw [if_pos hm] at hst
      have hst':(storeCells (b.add (n*i.size)) []).run P w=.ok () w':=hst
      rw [hst']
      rfl
    · rw [if_neg hm] at hst
      simp [Builtin.append_,run_underlying ht,run_underlying h1,hso,typeInfo,hi,zeroValue,hz,asInt,asIntOf,Zbe h3,n1,n2,hroom,hm,hst]
theorem Ze2 (ht:P.underlying t=some (.slice e)) (hi:P.info? e=some i) (hz:i.zero=some z) (hx:Zwo P w tx x z i.size i.bytes 0 news) :
    (Builtin.append_ #[t,tx] ty #[.slice none 0 0,x]).run P w=.ok (.slice none 0 0) w:=by
  have hso:∀ w1:World,(Go.sizeOf e).run P w1=.ok i.size w1:=fun w1=>by simp [Go.sizeOf,typeInfo,hi]
  rcases hx with ⟨dsc,h1,h2,h3⟩|⟨k,h1,h2,h3,h4,h5⟩
  · obtain ⟨h4,h5⟩:=h3 w rfl
    rcases h2 with rfl|⟨e',rfl⟩<;>simp [Builtin.append_,run_underlying ht,run_underlying h1,hso,typeInfo,hi,h4,h5]
  · subst h2
    subst h5
    have n1:¬ (((0:Nat):Int)<0):=by omega
    have w0:=Zbe h3
    simp [Builtin.append_,run_underlying ht,run_underlying h1,hso,typeInfo,hi,asInt,asIntOf,show IntKind.i64.wrap 0=0 from rfl]
theorem Zca (ht:P.underlying t=some (.slice e)) (hi:P.info? e=some i) (hz:i.zero=some z) (hx:Zwo P w tx x z i.size i.bytes m news) (hb0:i.bytes≠0) (b:Option Addr) (n cap:Nat) (olds:List Value)
    (ho:(Builtin.firstCells i.size n (.slice b n cap)).run P w.drew=.ok olds.toArray w.drew) (hg:cap<n+m) (hmax:(n+m)*i.bytes≤L7) :
    (Builtin.append_ #[t,tx] ty #[.slice b n cap,x]).run P w=.ok (.slice (some ⟨w.heap.size,0,none⟩) (n+m) (grownCap w (n+m) cap e))
      (w.drew.alloc (.cells (olds.toArray++(news.toArray++Builtin.zeroCells z.cells (grownCap w (n+m) cap e-(n+m)))) e)):=by
  have hn:¬ (n+m≤cap):=by omega
  have hle:n+m≤L7:=Ydu (Nat.le_mul_of_pos_right _ (by omega)) hmax
  have h63:¬ (9223372036854775807<((n:Int)+(m:Int))):=by unfold L7 at hle;omega
  have h48:¬ (281474976710656<Builtin.nextslicecap (n+m) cap*i.bytes):=by
    have:=growslice_fits hg hmax
    omega
  have hso:∀ w1:World,(Go.sizeOf e).run P w1=.ok i.size w1:=fun w1=>by simp [Go.sizeOf,typeInfo,hi]
  rcases hx with ⟨dsc,h1,h2,h3⟩|⟨k,h1,h2,h3,h4,h5⟩
  · obtain ⟨h4,_⟩:=h3 w rfl
    obtain ⟨_,h5⟩:=h3 w.drew rfl
    rcases h2 with rfl|⟨e',rfl⟩<;>simp [Builtin.append_,run_underlying ht,run_underlying h1,hso,typeInfo,hi,zeroValue,hz,h4,h5,ho,hn,h63,h48,hb0,Question.forced,newRow,grownCap]
  · subst h2
    subst h5
    have n1:¬ ((m:Int)<0):=by omega
    have n2:¬ (281474976710656<(m:Int)*(i.bytes:Int)):=by rw [←Yem];unfold L7 at h4;omega
    by_cases hm:m*i.size=0
    · simp [Builtin.append_,run_underlying ht,run_underlying h1,hso,typeInfo,hi,zeroValue,hz,asInt,asIntOf,Zbe h3,n1,n2,ho,hn,h63,h48,hb0,Question.forced,newRow,grownCap,hm]
    · simp [Builtin.append_,run_underlying ht,run_underlying h1,hso,typeInfo,hi,zeroValue,hz,asInt,asIntOf,Zbe h3,n1,n2,ho,hn,h63,h48,hb0,Question.forced,newRow,grownCap,hm]
end
theorem Zeb (h:Rel E w0 O0 σ0 L0 σ L w) {u:Ups} {t:Nat} {g m sz:Nat} (hg:∀ e,A6 σ (.s t 0)=some e→e.g<g) {cells:List AV} {vs:List Value} (hv:VRL (ctx σ L w) cells vs) (rest:Array Value) (e:TypeId) {N cap:Nat}
    (hN:N≤cap) (hcap:cap*sz≤(vs.toArray++rest).size) {σ2:A3} (hc:CLe (ctx σ2 L w) (ctx σ L w)) (hσ:B2 σ2 (u++[((.s t 0),⟨g,true,true,false,cells⟩)])=G3 σ (.s t 0) ⟨g,true,true,false,cells⟩)
    (hr:(execOp a.eval o).run P w=.ok (.value (.slice (some ⟨w.heap.size,0,none⟩) N cap)) (w.drew.alloc (.cells (vs.toArray++rest) e))) :
    J7 E w0 O0 σ0 L0 P σ2 L w o a (.buf (.s t 0) g 0 N sz) (u++[((.s t 0),⟨g,true,true,false,cells⟩)]):=by
  obtain ⟨k1,k2⟩:=h.drawn (w.drawn+1)
  have hv':VRL (ctx σ L w.drew) cells vs:=VRL_le k2 _ _ hv
  have k1':Rel E w0 O0 σ0 L0 σ L w.drew:=k1
  obtain ⟨m1,m2⟩:=k1'.new hg false hv' (vs.toArray++rest) (fun i v hi=>by
    rw [Array.getElem?_append_left (by
      have:=(List.getElem?_eq_some_iff.1 hi).1
      simpa using this)]
    simpa using hi) e (0,0) (by simp)
  refine K2 hr (by rw [hσ];exact m1) (by rw [hσ];exact hc.trans (k2.trans m2)) ?_
  simp only [VR]
  refine ⟨rfl,g,true,by rw [hσ];exact H4 (C0 _ _ _),Ydt _,fun _ _=>?_⟩
  rw [hσ]
  unfold K1
  rw [show (ctx (G3 σ (.s t 0) ⟨g,true,true,false,cells⟩) (F6 L (.s t 0) (some (w.drew.heap.size,0))) (w.drew.alloc (.cells (vs.toArray++rest) e))).L (.s t 0)=some (w.drew.heap.size,0) from F9 _ _ _]
  exact .inr ⟨cap,rfl,hN,vs.toArray++rest,e,(0,0),heap_alloc_new w.drew _,by omega⟩
theorem Zo9 (h:Rel E w0 O0 σ0 L0 σ L w) {u:Ups} {t:Nat} {g sz:Nat} (hg:∀ e,A6 σ (.s t 0)=some e→e.g<g)
    {σ2:A3} (hc:CLe (ctx σ2 L w) (ctx σ L w)) (hσ:B2 σ2 (u++[((.s t 0),⟨g,true,true,false,[]⟩)])=G3 σ (.s t 0) ⟨g,true,true,false,[]⟩)
    (hr:(execOp a.eval o).run P w=.ok (.value (.slice none 0 0)) w) :
    J7 E w0 O0 σ0 L0 P σ2 L w o a (.buf (.s t 0) g 0 0 sz) (u++[((.s t 0),⟨g,true,true,false,[]⟩)]):=by
  obtain ⟨m1,m2⟩:=h.newNil hg
  refine K2 hr (by rw [hσ];exact m1) (by rw [hσ];exact hc.trans m2) ?_
  simp only [VR]
  refine ⟨rfl,g,true,by rw [hσ];exact H4 (C0 _ _ _),Ydt _,fun _ _=>?_⟩
  rw [hσ]
  unfold K1
  rw [show (ctx (G3 σ (.s t 0) ⟨g,true,true,false,[]⟩) (F6 L (.s t 0) none) w).L (.s t 0)=none from F9 _ _ _]
  exact ⟨rfl,rfl,rfl⟩
theorem Zec {vs:List Value} {zv:Value} {sz N cap:Nat} (hz:zv.cells.size=sz) (hv:vs.length=N*sz) (hN:N≤cap):cap*sz≤(vs.toArray++Builtin.zeroCells zv.cells (cap-N)).size:=by
  simp only [Array.size_append,Yd2,size_zeroCells,hz,hv,←Yeg]
  exact Yei _ (by omega)
theorem Zwp (h:Rel E w0 O0 σ0 L0 σ L w) {ts tx e:TypeId} {i:TypeInfo} {z:Value} {c:Call} {sx xx:Operand} {m:Nat} {news:List Value} {vs:List AV} {u:Ups} {ss:List Site} {t:Nat} {vsl:AV}
    (hc1:c.callee=.builtin .append) (hc2:c.args = #[sx,xx]) (hc3:c.argTypes = #[ts,tx]) (ho:o.op=.call c)
    (ht:P.underlying ts=some (.slice e)) (hi:P.info? e=some i) (hz:i.zero=some z) (hzs:z.cells.size=i.size) (hb0:i.bytes≠0)
    (hx:Zwo P w tx (a.eval xx) z i.size i.bytes m news) (hnl:news.length=m*i.size)
    (hu:Rel E w0 O0 σ0 L0 (B2 σ u) L w) (huc:CLe (ctx σ L w) (ctx (B2 σ u) L w)) (hv:VRL (ctx (B2 σ u) L w) vs news) (hsim:Sim σ (B2 σ u)) (hns:∀ s,s∉ss→A6 (B2 σ u) s=A6 σ s)
    (hs:VR (ctx σ L w) vsl (a.eval sx)) {r:AV × Ups} (hr:(Zer (.s t 0) i.size i.bytes m vs u ss vsl).run σ=some r):J7 E w0 O0 σ0 L0 P σ L w o a r.1 r.2:=by
  have hcall:∀ y w',(Builtin.append_ #[ts,tx] o.type #[a.eval sx,a.eval xx]).run P w=.ok y w'→(execOp a.eval o).run P w=.ok (.value y) w':=by
    intro y w' hy
    simp [execOp,ho,resolve,hc1,hc2,hc3,invoke,builtin,hy]
  have hgen:∀ {g:Nat},(∀ e,A6 σ (.s t 0)=some e→e.g<g)→∀ e,A6 (B2 σ u) (.s t 0)=some e→e.g<g:=by
    intro g hg e he
    obtain ⟨e1,g1,_,g2,_⟩:=hsim.back he
    rw [←g2];exact hg e1 g1
  have e0:∀ X:Array Value,([]:List Value).toArray++X=X:=fun X=>by simp
  have hvl:=G4 hv
  cases vsl<;>try exact A9 hr
  case nils =>
    simp only [Zer] at hr
    obtain ⟨hmx,h2⟩:=G0 hr
    obtain ⟨g,hg,rfl⟩:=Za8 h2
    simp only [VR] at hs
    by_cases hm:m=0
    · subst hm
      have hn:news=[]:=Yeh (by simpa using hnl)
      subst hn
      have hvs:vs=[]:=Yeh (by simpa using hvl.symm)
      subst hvs
      exact Zo9 hu (hgen hg) huc (by rw [C4];rfl) (hcall _ _ (by rw [hs];exact Ze2 ht hi hz hx))
    · have:=Zca (ty:=o.type) ht hi hz hx hb0 none 0 0 [] (by simp [Builtin.firstCells]) (by omega) (by simpa using hmx)
      simp only [Yen,e0] at this
      refine Zeb hu (m:=m) (hgen hg) hv (Builtin.zeroCells z.cells (grownCap w m 0 e-m)) e (grownCap_ge w m 0 e) (Zec hzs hnl (grownCap_ge w m 0 e)) huc (by rw [C4];rfl) (hcall _ _ ?_)
      rw [hs];exact this
  case buf s g0 off n z' =>
    simp only [Zer] at hr
    obtain ⟨en,he,ha,hg0,h1⟩:=H8 hr
    simp only [appB] at h1
    obtain ⟨⟨hrw,hvar,rfl,hoff,hmx,hcon,hh⟩,h2⟩:=G0 h1
    obtain ⟨g,hg,rfl⟩:=Za8 h2
    have hnss:s∉ss:=by simpa using hcon
    have he':A6 (B2 σ u) s=some en:=(hns s hnss).trans he
    -- the store with the old slice U8
    have hdead:∃ σ1,Rel E w0 O0 σ0 L0 σ1 L w∧CLe (ctx (B2 σ u) L w) (ctx σ1 L w)∧(∀ e,A6 σ1 (.s t 0)=some e→e.g<g) ∧
        (σ1=if s=.s t 0 then B2 σ u else G3 (B2 σ u) s { en with alive:=false,cells:=[] })∧B2 σ (Zbb s (.s t 0) u en) = σ1:=by
      by_cases hst:s=.s t 0
      · refine ⟨B2 σ u,hu,CLe.refl _,hgen hg,by rw [if_pos hst],?_⟩
        simp [Zbb,hst]
      · obtain ⟨k1,k2⟩:=hu.less (e' := { en with alive:=false,cells:=[] }) he' rfl (fun h=>by cases h) id
        refine ⟨_,k1,k2,fun e1 h3=>?_,by rw [if_neg hst],?_⟩
        · rw [C7 _ _ hst] at h3;exact hgen hg e1 h3
        · simp only [Zbb,hst,decide_false,cond_false]
          rw [C4];rfl
    obtain ⟨σ1,d1,d2,d3,d4,d5⟩:=hdead
    have hcc:=huc.trans d2
    have hone:=Zf4 hv hh
    have hb:=Zbt hs he ha hg0
    unfold K1 at hb
    split at hb
    · rename_i b o' hl
      have hrm:=Zex hb
      obtain ⟨hf,hcells⟩:=hu.store.free he' ha hl hrm
      obtain ⟨olds,ho1,ho2⟩:=Zc3 (Zbn hcells off (n*i.size))
      have hol:=G4 ho1
      rw [V3 hoff] at hol
      have hgrow:∀ cap,cap<n+m→∀ q,(Builtin.firstCells i.size n (.slice (some q) n cap)).run P w.drew=.ok olds.toArray w.drew→a.eval sx=.slice (some q) n cap →
          J7 E w0 O0 σ0 L0 P σ L w o a (.buf (.s t 0) g 0 (n+m) i.size) (Zbb s (.s t 0) u en++[(.s t 0,⟨g,true,true,false,sub en.cells off (n*i.size)++vs⟩)]):=by
        intro cap hcap q hq hsx
        have:=Zca (ty:=o.type) ht hi hz hx hb0 (some q) n cap olds hq hcap hmx
        have hvv:VRL (ctx σ1 L w) (sub en.cells off (n*i.size)++vs) (olds++news):=VRL_le d2 _ _ (S4 ho1 hv)
        refine Zeb d1 (m:=m) d3 hvv (Builtin.zeroCells z.cells (grownCap w (n+m) cap e-(n+m))) e (grownCap_ge w (n+m) cap e) (Zec hzs (by rw [Yek,hol,hnl,Yeg]) (grownCap_ge w (n+m) cap e)) hcc
          (by rw [C4,d5];rfl) (hcall _ _ ?_)
        have e1:∀ Z:Array Value,(olds++news).toArray++Z=olds.toArray++(news.toArray++Z):=fun Z=>by apply Array.ext';simp only [Array.toList_append,Yel]
        rw [hsx,this,e1]
      rcases hb with ⟨h6,_,q,h7⟩|⟨cap,h6,h7,h8⟩
      · subst h6
        have hol0:olds=[]:=Yeh (by simpa using hol)
        subst hol0
        by_cases hm:m=0
        · subst hm
          have hn:news=[]:=Yeh (by simpa using hnl)
          subst hn
          have hvs:vs=[]:=Yeh (by simpa using hvl.symm)
          subst hvs
          have hrun:=Ze1 (ty:=o.type) ht hi hz hx ⟨b,q,none⟩ 0 0 (Ydt _) (w':=w) (by simp [storeCells])
          obtain ⟨p1,p2⟩:=hu.pass he' ha hrw (d:=t) (k:=0) (hgen hg) hl (o:=o'+off) (cells:=[]) (Keep.refl _ w) (by simpa using hf.le (by omega)) (fun c' _ _=>by simp [VRC]) d4
          have hnil:sub en.cells off (0*i.size)++[]=([]:List AV):=by simp [sub]
          rw [hnil]
          refine K2 (hcall _ _ (by rw [h7];exact hrun)) (by rw [C4,d5];exact p1) (by rw [C4,d5];exact huc.trans p2) ?_
          simp only [VR]
          refine ⟨rfl,g,true,by rw [C4,d5];exact H4 (C0 _ _ _),Ydt _,fun _ _=>?_⟩
          rw [C4,d5]
          show K1 (ctx (G3 σ1 (.s t 0) _) _ _) _ _ _ _ _
          unfold K1
          rw [show (ctx (G3 σ1 (.s t 0) ⟨g,true,true,false,[]⟩) (F6 L (.s t 0) (some (b,o'+off))) w).L (.s t 0)=some (b,o'+off) from F9 _ _ _]
          exact .inl ⟨rfl,hrm,q,rfl⟩
        · exact hgrow 0 (by omega) ⟨b,q,none⟩ (by simp [Builtin.firstCells,loadCells,loadCellsFrom]) h7
      · by_cases hroom:n+m≤cap
        · have hfr:=hf.roomK h8
          have hle:(n+m)*i.size≤cap*i.size:=Yei _ hroom
          rw [Yeg] at hle
          obtain ⟨w',g1,g2,g3,g4,g5⟩:=Zsf P (b:=b) (q:=o'+off+n*i.size) (vs:=news) hfr (by rw [hnl];omega) hone
          have hrun:=Ze1 (ty:=o.type) ht hi hz hx ⟨b,o'+off,none⟩ n cap hroom (w':=w') (by rw [R7];exact g1)
          have hclen:(sub en.cells off (n*i.size)++vs).length=n*i.size+m*i.size:=by rw [Yek,V3 hoff,←hvl,hnl]
          obtain ⟨p1,p2⟩:=hu.pass he' ha hrw (d:=t) (k:=0) (hgen hg) hl (o:=o'+off) (w':=w') (cells:=sub en.cells off (n*i.size)++vs) g2 (g3.le (by rw [hclen];omega)) (fun c' hc' hw'=>by
            refine S5 fun j x hj=>?_
            by_cases hjn:j<n*i.size
            · rw [List.getElem?_append_left (by rw [V3 hoff];exact hjn)] at hj
              obtain ⟨v,q1,q2⟩:=Zbm (Zbn hcells off (n*i.size)) hj
              refine ⟨v,?_,V8 hc' _ _ q2⟩
              rw [hw',g5 _ (by omega)]
              exact q1
            · rw [List.getElem?_append_right (by rw [V3 hoff];omega),V3 hoff] at hj
              obtain ⟨v,q1,q2⟩:=Zav hv hj
              have hjl:=(List.getElem?_eq_some_iff.1 q1).1
              refine ⟨v,?_,V8 hc' _ _ q2⟩
              rw [hw',g4 _ (by omega) (by omega),show o'+off+j-(o'+off+n*i.size)=j-n*i.size by omega]
              exact q1) d4
          refine K2 (hcall _ _ (by rw [h6];exact hrun)) (by rw [C4,d5];exact p1) (by rw [C4,d5];exact huc.trans p2) ?_
          simp only [VR]
          refine ⟨rfl,g,true,by rw [C4,d5];exact H4 (C0 _ _ _),Ydt _,fun _ _=>?_⟩
          rw [C4,d5]
          show K1 (ctx (G3 σ1 (.s t 0) _) _ _) _ _ _ _ _
          unfold K1
          rw [show (ctx (G3 σ1 (.s t 0) ⟨g,true,true,false,sub en.cells off (n*i.size)++vs⟩) (F6 L (.s t 0) (some (b,o'+off))) w').L (.s t 0)=some (b,o'+off) from F9 _ _ _]
          exact .inr ⟨cap,rfl,hroom,g2.room _ _ h8⟩
        · refine hgrow cap (by omega) ⟨b,o'+off,none⟩ ?_ h6
          exact run_firstCells_some (P:=P) w.drew i.size n ⟨b,o'+off,none⟩ n cap olds hol (fun j v hj=>by rw [R7];exact ho2 j v hj)
    · rename_i hl
      obtain ⟨h6,h7,h8⟩:=hb
      subst h7 h8
      have hen:en.cells=[]:=by
        have:=hu.store.ent s en he' ha
        unfold S1 at this
        rw [show (ctx (B2 σ u) L w).L s=none from hl] at this
        exact this.1
      have hsub:sub en.cells 0 (0*i.size)=([]:List AV):=by simp [sub]
      rw [hsub]
      simp only [List.nil_append,Yen]
      by_cases hm:m=0
      · subst hm
        have hn:news=[]:=Yeh (by simpa using hnl)
        subst hn
        have hvs:vs=[]:=Yeh (by simpa using hvl.symm)
        subst hvs
        exact Zo9 d1 d3 hcc (by rw [C4,d5];rfl) (hcall _ _ (by rw [h6];exact Ze2 ht hi hz hx))
      · have:=Zca (ty:=o.type) ht hi hz hx hb0 none 0 0 [] (by simp [Builtin.firstCells]) (by omega) (by simpa using hmx)
        simp only [Yen,e0] at this
        refine Zeb d1 (m:=m) d3 (VRL_le d2 _ _ hv) (Builtin.zeroCells z.cells (grownCap w m 0 e-m)) e (grownCap_ge w m 0 e) (Zec hzs hnl (grownCap_ge w m 0 e)) hcc (by rw [C4,d5];rfl) (hcall _ _ ?_)
        rw [h6];exact this
end Cod
namespace Cod
open Go
variable {E:Env} {w0:World} {O0:Nat→Prop} {σ0:A3} {L0:Lay} {P:Program} {σ:A3} {L:Lay} {w:World} {o:Oper} {a:Act}
def X6 (l:List UInt8):List Value:=l.map fun b=>.int .u8 b.toNat
theorem Zjp (c:Ctx) (l:List UInt8):VRL c (A1 l) (X6 l):=by
  induction l with
  | nil=>simp [A1,X6,VRL]
  | cons b l ih =>
    simp only [A1,X6,Yed,VRL,VR]
    exact ⟨_,_,rfl,rfl,ih⟩
theorem L4 (l:List UInt8):(A1 l).length=l.length:=by simp [A1]
theorem Zgu (h:StoreOK σ L w) {sz:Nat} {v:AV} {y:Value} (hv:VR (ctx σ L w) v y) {cs:List AV} {n:Nat} (hr:(O5 sz v).run σ=some (cs,n)) :
    ∃ news,VRL (ctx σ L w) cs news∧news.length=n*sz∧∀ w1:World,w1.heap=w.heap→(Builtin.lenOf y).run P w1=.ok n w1∧∀ k,k≤n→(Builtin.firstCells sz k y).run P w1=.ok (news.take (k*sz)).toArray w1:=by
  rcases Zh3 h hv hr with ⟨l,rfl,rfl,rfl,rfl⟩|⟨_,h2,h3⟩
  · simp only [VR] at hv
    subst hv
    refine ⟨X6 l,Zjp _ l,by simp [X6],fun w1 _=>⟨by simp [Builtin.lenOf,ByteArray.size],fun k hk=>?_⟩⟩
    simp only [Builtin.firstCells,Sem.run_pure]
    rw [Zh2]
    simp [sub,X6,List.map_take]
  · rcases h3 with ⟨rfl,rfl,rfl⟩|⟨b,q,cap,rfl,hcap,h4⟩
    · exact ⟨[],by simp [VRL],by simp,fun w1 _=>⟨by simp [Builtin.lenOf],fun k hk=>by simp [Builtin.firstCells]⟩⟩
    · obtain ⟨vs,h5,h6⟩:=Zc3 h4
      have hl:=G4 h5
      refine ⟨vs,h5,by omega,fun w1 hw1=>⟨by simp [Builtin.lenOf],fun k hk=>?_⟩⟩
      have hk':k*sz≤n*sz:=Yei _ hk
      refine run_firstCells_some (P:=P) w1 sz k ⟨b,q,none⟩ n cap _ (by rw [Yd0];omega) (fun j u hj=>?_)
      have:=h6 j u (Zo8 hj)
      rw [R7]
      simp only [World.cell?] at this ⊢
      rw [hw1];exact this
theorem Z2z (h:Rel E w0 O0 σ0 L0 σ L w) {ts tx e:TypeId} {c:Call} {sx xx:Operand} {t sz by_:Nat} {z:List AV} {vsl vx:AV}
    (hc1:c.callee=.builtin .append) (hc2:c.args = #[sx,xx]) (hc3:c.argTypes = #[ts,tx]) (ho:o.op=.call c)
    (ht:P.underlying ts=some (.slice e)) (hsz:J9 P e=some sz) (hby:Zc5 P e=some by_) (hz:Y9 P e=some z) (hzl:z.length=sz) (hb0:by_≠0)
    (hx:P.underlying tx=some .string∨∃ e',P.underlying tx=some (.slice e'))
    (hs:VR (ctx σ L w) vsl (a.eval sx)) (hvx:VR (ctx σ L w) vx (a.eval xx)) {r:AV × Ups}
    (hr:((O5 sz vx).bind fun p=>(fix p.1).bind fun q=>Zer (.s t 0) sz by_ p.2 q.1 q.2.1 q.2.2 vsl).run σ=some r):J7 E w0 O0 σ0 L0 P σ L w o a r.1 r.2:=by
  obtain ⟨⟨cs,m⟩,h1,h2⟩:=F5 hr
  obtain ⟨⟨vs,u,ss⟩,h3,h4⟩:=F5 h2
  simp only at h3 h4
  obtain ⟨news,g1,g2,g3⟩:=Zgu (P:=P) h.store hvx h1
  obtain ⟨k1,k2,k3,k4,_,k6⟩:=Zk5 h g1 h3
  unfold J9 at hsz
  unfold Zc5 at hby
  unfold Y9 at hz
  simp only [Ydz] at hsz hby
  obtain ⟨i,hi,h6⟩:=hsz
  obtain ⟨i',h7,h8⟩:=hby
  rw [hi] at h7
  cases h7
  rw [hi] at hz
  cases hzv:i.zero with
  | none=>simp only [Ydq,hzv] at hz;cases hz
  | some zv =>
    simp only [Ydq,hzv] at hz
    have hzz:=G4 (S7 (ctx σ L w) hz)
    simp only [Yec] at hzz
    subst h6 h8
    refine Zwp h hc1 hc2 hc3 ho ht hi hzv (by omega) hb0 ?_ g2 k1 k2 k3 k4 k6 hs h4
    refine .inl ?_
    have hg:∀ w1:World,w1.heap=w.heap→(Builtin.lenOf (a.eval xx)).run P w1=.ok m w1∧(Builtin.firstCells i.size m (a.eval xx)).run P w1=.ok news.toArray w1:=by
      intro w1 hw1
      obtain ⟨q1,q2⟩:=g3 w1 hw1
      refine ⟨q1,?_⟩
      have:=q2 m (Ydt _)
      rwa [Yej (by omega)] at this
    rcases hx with hx|⟨e',hx⟩
    · exact ⟨_,hx,.inl rfl,hg⟩
    · exact ⟨_,hx,.inr ⟨e',rfl⟩,hg⟩
theorem Z9t (h:Rel E w0 O0 σ0 L0 σ L w) {ts tx e:TypeId} {c:Call} {sx xx:Operand} {t sz by_:Nat} {z:List AV} {vsl vx:AV} {k:IntKind}
    (hc1:c.callee=.builtin .append) (hc2:c.args = #[sx,xx]) (hc3:c.argTypes = #[ts,tx]) (ho:o.op=.call c)
    (ht:P.underlying ts=some (.slice e)) (hsz:J9 P e=some sz) (hby:Zc5 P e=some by_) (hz:Y9 P e=some z) (hzl:z.length=sz) (hb0:by_≠0) (hsz0:sz≠0)
    (hx:P.underlying tx=some (.int k))
    (hs:VR (ctx σ L w) vsl (a.eval sx)) (hvx:VR (ctx σ L w) vx (a.eval xx)) {r:AV × Ups}
    (hr:(Zja (.s t 0) sz by_ z vsl vx).run σ=some r):J7 E w0 O0 σ0 L0 P σ L w o a r.1 r.2:=by
  cases vx<;>try exact A9 hr
  rename_i kx m
  cases kx<;>try exact A9 hr
  simp only [Zja] at hr
  obtain ⟨⟨h0,h1⟩,h2⟩:=G0 hr
  simp only [VR] at hvx
  unfold J9 at hsz
  unfold Zc5 at hby
  unfold Y9 at hz
  simp only [Ydz] at hsz hby
  obtain ⟨i,hi,h6⟩:=hsz
  obtain ⟨i',h7,h8⟩:=hby
  rw [hi] at h7
  cases h7
  rw [hi] at hz
  cases hzv:i.zero with
  | none=>simp only [Ydq,hzv] at hz;cases hz
  | some zv =>
    simp only [Ydq,hzv] at hz
    have hzl':=S7 (ctx σ L w) hz
    have hzz:=G4 hzl'
    simp only [Yec] at hzz
    subst h6 h8
    have hmade:=Zb9 hzl' (by omega) m.toNat m.toNat (Ydt _)
    rw [Yej (by rw [show (madeCells zv.cells (m.toNat*z.length)).toList.length=m.toNat*z.length from size_madeCells _ _];exact Ydt _)] at hmade
    have hnews:(if m.toNat*i.size=0 then #[] else Builtin.zeroCells zv.cells m.toNat).toList=(madeCells zv.cells (m.toNat*z.length)).toList:=by
      rw [hzl]
      by_cases hm:m.toNat*i.size=0
      · rw [if_pos hm,hm];simp [madeCells]
      · rw [if_neg hm];simp [madeCells,Builtin.zeroCells,hzz,hzl]
    have hbnd:m.toNat*i.bytes≤L7:=by
      cases vsl<;>try exact A9 h2
      case nils=>simp only [Zer] at h2;exact (G0 h2).1
      case buf s g0 off n z' =>
        simp only [Zer] at h2
        obtain ⟨en,_,_,_,h3⟩:=H8 h2
        simp only [appB] at h3
        obtain ⟨⟨_,_,_,_,h4,_⟩,_⟩:=G0 h3
        exact Ydu (Yei _ (Nat.le_add_left _ _)) h4
    refine Zwp h hc1 hc2 hc3 ho ht hi hzv (by omega) hb0 (news:=(madeCells zv.cells (m.toNat*z.length)).toList) (.inr ⟨k,hx,?_,by omega,hbnd,hnews.symm⟩) ?_ (u:=[]) (ss:=[]) h (CLe.refl _) hmade (Sim.refl _) (fun _ _=>rfl) hs h2
    · rw [hvx];congr 1;omega
    · rw [show (madeCells zv.cells (m.toNat*z.length)).toList.length=m.toNat*z.length from size_madeCells _ _,hzl]
theorem Zdy:∀ {σ:A3} {s:Site} {e:Ent},A6 σ s=some e→G3 σ s e = σ:=by
  intro σ
  induction σ with
  | nil=>intro s e h;simp [A6] at h
  | cons p σ ih =>
    intro s e h
    obtain ⟨t,f⟩:=p
    simp only [A6] at h
    simp only [G3]
    by_cases ht:t=s
    · rw [if_pos ht] at h ⊢;cases h;rw [ht]
    · rw [if_neg ht] at h ⊢;rw [ih h]
theorem Z9u (h:Rel E w0 O0 σ0 L0 σ L w) {td ts e:TypeId} {c:Call} {dx xx:Operand} {sz:Nat} {vd vx:AV}
    (hc1:c.callee=.builtin .copy) (hc2:c.args = #[dx,xx]) (hc3:c.argTypes = #[td,ts]) (ho:o.op=.call c)
    (ht:P.underlying td=some (.slice e)) (hsz:J9 P e=some sz)
    (hd:VR (ctx σ L w) vd (a.eval dx)) (hvx:VR (ctx σ L w) vx (a.eval xx)) {r:AV × Ups}
    (hr:((O5 sz vx).bind fun p=>Zoo sz p.2 p.1 vd).run σ=some r):J7 E w0 O0 σ0 L0 P σ L w o a r.1 r.2:=by
  obtain ⟨⟨ys,m⟩,h1,h2⟩:=F5 hr
  simp only at h2
  obtain ⟨news,g1,g2,g3⟩:=Zgu (P:=P) h.store hvx h1
  cases vd<;>try exact A9 h2
  rename_i s g off n z
  simp only [Zoo] at h2
  obtain ⟨en,he,ha,hg,h3⟩:=H8 h2
  simp only [Zv8] at h3
  obtain ⟨⟨hrw,rfl,hoff,hfl⟩,h4⟩:=G0 h3
  have k:=A7 h4
  subst k
  obtain ⟨q1,q2⟩:=g3 w rfl
  have q3:=q2 (Nat.min m n) (Yeo _ _)
  have hso:=R2 hsz w
  have hcall:∀ base cap w',a.eval dx=.slice base n cap→(∀ q,base=some q→(storeCells q (news.take (Nat.min m n*z))).run P w=.ok () w')→(base=none→w'=w) →
      (execOp a.eval o).run P w=.ok (.value (.int .i64 (Nat.min m n))) w':=by
    intro base cap w' hb hst hn
    cases base with
    | none =>
      have:=hn rfl
      subst this
      simp [execOp,ho,resolve,hc1,hc2,hc3,invoke,builtin,Builtin.copy_,run_underlying ht,hb,q1,q3,hso,goInt]
    | some q =>
      have:=hst q rfl
      simp [execOp,ho,resolve,hc1,hc2,hc3,invoke,builtin,Builtin.copy_,run_underlying ht,hb,q1,q3,hso,goInt,this]
  have hm:Nat.min m n*z≤n*z:=Yei _ (Nat.min_le_right _ _)
  have hm':Nat.min m n*z≤m*z:=Yei _ (Yeo _ _)
  have hyl:=G4 g1
  have htl:(ys.take (Nat.min m n*z)).length=Nat.min m n*z:=by rw [Yd0];omega
  have hsame:n=0→over en.cells off (ys.take (Nat.min m n*z))=en.cells:=by
    intro hn
    have:Nat.min m n*z=0:=by subst hn;omega
    rw [this];simp [over]
  have hb:=Zbt hd he ha hg
  unfold K1 at hb
  split at hb
  · rename_i b o' hl
    have hrm:=Zex hb
    obtain ⟨hf,hcells⟩:=h.store.free he ha hl hrm
    rcases hb with ⟨h6,_,q,h7⟩|⟨cap,h6,h7,h8⟩
    · have e1:=hsame h6
      have hE:B2 σ [(s,{ en with cells:=over en.cells off (ys.take (Nat.min m n*z)) })] = σ:=by
        rw [e1];exact Zdy he
      have h00:Nat.min m n*z=0:=by subst h6;omega
      refine K2 (w':=w) (L':=L) (y:=.int .i64 (Nat.min m n)) (hcall (some ⟨b,q,none⟩) 0 w (by rw [h7,h6]) (fun q' hq'=>by rw [h00];simp [storeCells]) (by simp)) (by rw [hE];exact h) (by rw [hE];exact CLe.refl _) (by simp [VR])
    · obtain ⟨w',s1,s2,s3,s4,s5⟩:=Zsf P (b:=b) (q:=o'+off) (vs:=news.take (Nat.min m n*z)) hf (by rw [Yd0];omega)
        (fun v hv=>Zf4 g1 (Zo5 hfl) v (List.mem_of_mem_take hv))
      obtain ⟨k1,k2⟩:=h.upd he ha hrw hl (cells:=over en.cells off (ys.take (Nat.min m n*z))) s2 (by rw [Zda (by omega)];exact s3)
        (fun c' hc' hw'=>Zk6 hc' hcells (Zhw g1 _) (by omega) (by rw [hw'];exact s4) (by rw [hw'];exact s5))
      exact K2 (hcall (some ⟨b,o'+off,none⟩) cap w' h6 (fun q' hq'=>by cases hq';exact s1) (by simp)) k1 k2 (by simp [VR])
  · obtain ⟨h6,h7,h8⟩:=hb
    have e1:=hsame h8
    have hE:B2 σ [(s,{ en with cells:=over en.cells off (ys.take (Nat.min m n*z)) })] = σ:=by
      rw [e1];exact Zdy he
    refine K2 (w':=w) (L':=L) (y:=.int .i64 (Nat.min m n)) (hcall none 0 w (by rw [h6,h8]) (by simp) (fun _=>rfl)) (by rw [hE];exact h) (by rw [hE];exact CLe.refl _) (by simp [VR])
theorem ok_s2b (h:Rel E w0 O0 σ0 L0 σ L w) {src dst e:TypeId} {x:Operand} {t:Nat} (hs:P.underlying src=some .string) (hd:P.underlying dst=some (.slice e)) (he:Zkz P e=true) {vx:AV} (ho:o.op=.convert src dst x)
    (hx:VR (ctx σ L w) vx (a.eval x)) {r:AV × Ups} (hr:(s2bV (.s t 0) vx).run σ=some r):J7 E w0 O0 σ0 L0 P σ L w o a r.1 r.2:=by
  cases vx<;>try exact A9 hr
  rename_i l
  simp only [s2bV] at hr
  obtain ⟨g,hg,rfl⟩:=Za8 hr
  have hu:P.underlying e=some (.int .u8):=by
    unfold Zkz at he
    split at he
    · assumption
    · cases he
  simp only [VR] at hx
  have hrun:=run_bytes_of_string (P:=P) w src dst e ⟨l.toArray⟩ hs hd hu
  obtain ⟨k1,k2⟩:=h.drawn (w.drawn+1)
  have k1':Rel E w0 O0 σ0 L0 σ L w.drew:=k1
  have hcap:=grownCap_ge w l.length 0 e
  have hsz:(⟨l.toArray⟩:ByteArray).size=l.length:=by simp [ByteArray.size]
  rw [hsz] at hrun
  have hrow:(bytesRow ⟨l.toArray⟩ (grownCap w l.length 0 e)).toList=X6 l++List.replicate (grownCap w l.length 0 e-l.length) (.int .u8 0):=by
    simp [bytesRow,X6,ByteArray.size]
  obtain ⟨m1,m2⟩:=k1'.new hg false (Zjp (ctx σ L w.drew) l) (bytesRow ⟨l.toArray⟩ (grownCap w l.length 0 e)) (fun i v hi=>by
    rw [←Array.getElem?_toList,hrow,List.getElem?_append_left (List.getElem?_eq_some_iff.1 hi).1];exact hi) e
    ((bytesRow ⟨l.toArray⟩ (grownCap w l.length 0 e)).size,(bytesRow ⟨l.toArray⟩ (grownCap w l.length 0 e)).size+1) (.inr (Ydt _))
  refine K2 (y:=.slice (some ⟨w.heap.size,0,none⟩) l.length (grownCap w l.length 0 e)) (by simp [execOp,ho,hx,hrun]) m1 (k2.trans m2) ?_
  simp only [VR]
  refine ⟨rfl,g,true,H4 (C0 _ _ _),Ydt _,fun _ _=>?_⟩
  show K1 (ctx (G3 σ (.s t 0) _) (F6 L (.s t 0) (some (w.drew.heap.size,0))) _) _ _ _ _ _
  unfold K1
  rw [show ∀ w2 e2,(ctx (G3 σ (.s t 0) e2) (F6 L (.s t 0) (some (w.drew.heap.size,0))) w2).L (.s t 0)=some (w.drew.heap.size,0) from fun _ _=>F9 _ _ _]
  refine .inr ⟨grownCap w l.length 0 e,rfl,hcap,_,e,_,heap_alloc_new w.drew _,?_⟩
  have:(bytesRow ⟨l.toArray⟩ (grownCap w l.length 0 e)).size=grownCap w l.length 0 e:=by
    rw [←Yec,hrow];simp [X6];omega
  omega
theorem ok_b2b (h:Rel E w0 O0 σ0 L0 σ L w) {src e:TypeId} {x:Operand} (hs:P.underlying src=some (.slice e)) (he:Zkz P e=true) {vx:AV} (ho:o.op=.convert src src x)
    (hx:VR (ctx σ L w) vx (a.eval x)) {r:AV × Ups} (hr:(b2bV vx).run σ=some r):J7 E w0 O0 σ0 L0 P σ L w o a r.1 r.2:=by
  cases vx<;>try exact A9 hr
  rename_i s g off n z
  simp only [b2bV] at hr
  obtain ⟨en,hge,hal,hgg,h1⟩:=H8 hr
  obtain ⟨⟨hrw,hne⟩,h2⟩:=G0 h1
  have k:=A7 h2
  subst k
  have hu:P.underlying e=some (.int .u8):=by
    unfold Zkz at he
    split at he
    · assumption
    · cases he
  have hb:=Zbt hx hge hal hgg
  unfold K1 at hb
  split at hb
  · rename_i b o' hl
    have hy:∃ q m c,a.eval x=.slice (some ⟨b,q,none⟩) m c:=by
      rcases hb with ⟨_,_,q,h7⟩|⟨cap,h6,_⟩
      · exact ⟨q,0,0,h7⟩
      · exact ⟨_,n,cap,h6⟩
    obtain ⟨q,m,c,hy⟩:=hy
    have hrm:=Zex hb
    obtain ⟨⟨cs,el,fr,f1,f2,f3⟩,hcells⟩:=h.store.free hge hal hl hrm
    have hsh:w.shape? b=some (el,cs.size):=by simp [World.shape?,f1]
    obtain ⟨lo,hi⟩:=fr
    -- the block with its mark
    obtain ⟨fr',hfr',hheap⟩:∃ fr',(fr'.1=fr'.2∨cs.size≤fr'.1)∧(w.freeze ⟨b,cs.size,none⟩ 1).heap[b]? = some (.cells cs el fr'):=by
      refine ⟨if lo==hi then (cs.size,cs.size+1) else (min lo cs.size,max hi (cs.size+1)),?_,?_⟩
      · by_cases hlh:lo=hi
        · simp [hlh]
        · simp only [beq_iff_eq,hlh,if_false]
          simp only at f3
          exact .inr (by omega)
      · have hlt:b<w.heap.size:=(Array.getElem?_eq_some_iff.1 f1).1
        have hv:w.heap[b]=.cells cs el (lo,hi):=(Array.getElem?_eq_some_iff.1 f1).2
        have hlt2:b<(w.freeze ⟨b,cs.size,none⟩ 1).heap.size:=by simpa [World.freeze] using hlt
        rw [Array.getElem?_eq_getElem hlt2]
        simp [World.freeze,Array.getElem_modify,hv]
    have hother:∀ k,k≠b→(w.freeze ⟨b,cs.size,none⟩ 1).heap[k]? = w.heap[k]? := by
      intro k hk
      simp [World.freeze,Array.getElem?_modify,Ne.symm hk]
    have hcell:∀ i,(w.freeze ⟨b,cs.size,none⟩ 1).cell? ⟨b,i,none⟩=w.cell? ⟨b,i,none⟩:=by
      intro i
      simp only [World.cell?,hheap,f1]
    obtain ⟨k1,k2⟩:=h.upd hge hal hrw hl (w':=w.freeze ⟨b,cs.size,none⟩ 1) (cells:=en.cells)
      ⟨rfl,rfl,rfl,by simp [World.freeze],fun k _ hk=>hother k hk,fun k n ⟨cs',el',fr2,r1,r2⟩=>by
        by_cases hk:k=b
        · subst hk;rw [f1] at r1;cases r1;exact ⟨cs,el,fr',hheap,r2⟩
        · exact ⟨cs',el',fr2,by rw [hother k hk];exact r1,r2⟩⟩ ⟨cs,el,fr',hheap,f2,hfr'⟩
      (fun c' hc' hw'=>VRC_le hc' b (fun i=>by rw [hw'];exact hcell i) _ _ hcells)
    have hE:G3 σ s { en with cells:=en.cells } = σ:=Zdy hge
    rw [hE] at k1 k2
    refine K2 (u:=[]) (y:=a.eval x) ?_ k1 k2 (V8 k2 _ _ hx)
    rw [hy]
    have hconv:(convert src src (.slice (some ⟨b,q,none⟩) m c)).run P w=.ok (.slice (some ⟨b,q,none⟩) m c) (w.freeze ⟨b,cs.size,none⟩ 1):=by
      simp [convert,run_underlying hs,run_underlying hu,markStringish,hsh]
    simp [execOp,ho,hy,hconv]
  · rename_i hl
    have:=h.store.ent s en hge hal
    unfold S1 at this
    rw [show (ctx σ L w).L s=none from hl] at this
    rw [this.1] at hne
    simp at hne
theorem ok_cap (h:Rel E w0 O0 σ0 L0 σ L w) {t e:TypeId} {c:Call} {x:Operand} {vx:AV} (hc1:c.callee=.builtin .cap) (hc2:c.args = #[x]) (hc3:c.argTypes = #[t]) (ho:o.op=.call c)
    (ht:P.underlying t=some (.slice e)) (hx:VR (ctx σ L w) vx (a.eval x)) {r:AV × Ups} (hr:(capV vx).run σ=some r):J7 E w0 O0 σ0 L0 P σ L w o a r.1 r.2:=by
  cases vx<;>try exact A9 hr
  have k:=A7 hr
  subst k
  simp only [VR] at hx
  refine B0 h (y:=.int .i64 0) ?_ (by simp [VR])
  simp [execOp,ho,resolve,hc1,hc2,hc3,invoke,builtin,Builtin.cap_,run_underlying ht,hx,goInt]
end Cod
namespace Cod
open Go
variable {E:Env} {w0:World} {O0:Nat→Prop} {σ0:A3} {L0:Lay} {P:Program} {σ:A3} {L:Lay} {w:World} {o:Oper} {a:Act}
theorem Ze3:∀ {k1 k2:List Nat} {xs ys:List AV} {r:Bool},G5 (k1++k2) xs ys=some r →
    ∃ x y,k1.length≤xs.length∧k1.length≤ys.length∧G5 k1 (xs.take k1.length) (ys.take k1.length)=some x∧G5 k2 (xs.drop k1.length) (ys.drop k1.length)=some y∧r=(x&&y):=by
  intro k1
  induction k1 with
  | nil=>intro k2 xs ys r h;exact ⟨true,r,by simp,by simp,by simp [G5],by simpa using h,by simp⟩
  | cons k k1 ih =>
    intro k2 xs ys r h
    simp only [List.cons_append] at h
    unfold G5 at h
    split at h
    · rename_i h0;cases h0
    · rename_i ks ka a xs' kb b ys' heq
      cases heq
      obtain ⟨hk,h'⟩:=Zab h
      subst hk
      obtain ⟨r',h1,h2⟩:=Option.map_eq_some_iff.1 h'
      obtain ⟨x,y,h3,h4,h5,h6,rfl⟩:=ih h1
      exact ⟨a==b&&x,y,by simpa using h3,by simpa using h4,by simp [G5,h5],by simpa using h6,by rw [←h2,Yep]⟩
    · rename_i ks a xs' b ys' heq
      cases heq
      simp only [Ydz] at h
      obtain ⟨r',h1,h2⟩:=h
      obtain ⟨x,y,h3,h4,h5,h6,rfl⟩:=ih h1
      exact ⟨a==b&&x,y,by simpa using h3,by simpa using h4,by simp [G5,h5],by simpa using h6,by rw [←h2,Yep]⟩
    · rename_i ks a xs' b ys' heq
      cases heq
      simp only [Ydz] at h
      obtain ⟨r',h1,h2⟩:=h
      obtain ⟨x,y,h3,h4,h5,h6,rfl⟩:=ih h1
      exact ⟨a==b&&x,y,by simpa using h3,by simpa using h4,by simp [G5,h5],by simpa using h6,by rw [←h2,Yep]⟩
    · cases h
theorem Zcb:∀ {ks:List Nat} {xs ys:List AV} {r:Bool},G5 ks xs ys=some r→xs.length=ks.length∧ys.length=ks.length:=by
  intro ks
  induction ks with
  | nil =>
    intro xs ys r h
    cases xs<;>cases ys<;>simp_all [G5]
  | cons k ks ih =>
    intro xs ys r h
    unfold G5 at h
    split at h
    · rename_i h0;cases h0
    · rename_i heq
      cases heq
      obtain ⟨_,h⟩:=Zab h
      simp only [Ydz] at h
      obtain ⟨r',h1,_⟩:=h
      simp [ih h1]
    · rename_i heq
      cases heq
      simp only [Ydz] at h
      obtain ⟨r',h1,_⟩:=h
      simp [ih h1]
    · rename_i heq
      cases heq
      simp only [Ydz] at h
      obtain ⟨r',h1,_⟩:=h
      simp [ih h1]
    · cases h
def Zf5:Option Nat→List AV→AV
  | none,xs=>xs.headD .junk
  | some _,xs=>.agg xs
def EqOK (P:Program) (w:World) (c:Ctx) (d:Nat) (t:TypeId) (ks:List Nat):Prop :=
  ∃ g,Zcy P t=some g∧(g=none→ks.length=1)∧(∀ k,g=some k→k=ks.length) ∧
    ∀ D,d≤D→∀ xs ys b,G5 ks xs ys=some b→∀ x y,VR c (Zf5 g xs) x→VR c (Zf5 g ys) y→(Op.equalIn D t x y).run P w=.ok b w
theorem Zdz {xs:List AV} {off n:Nat} {g:Option Nat} (h1:g=none→n=1) (h2:∀ k,g=some k→k=n) (hle:off+n≤xs.length):Zgs xs off g (Zf5 g (sub xs off n)):=by
  cases g with
  | none =>
    have:=h1 rfl
    subst this
    simp only [Zgs,Zf5,sub]
    have hlt:off<xs.length:=by omega
    rw [List.drop_eq_getElem_cons hlt]
    simp only [List.take_succ_cons,Yeq]
    exact List.getElem?_eq_getElem hlt
  | some k =>
    have:=h2 k rfl
    subst this
    exact ⟨hle,rfl⟩
theorem Zx0 {c:Ctx} {d:Nat} (ih:∀ t ks,Zbd P d t=some ks→EqOK P w c d t ks) {xs ys:List AV} {vs us:Array Value} (hx:VRL c xs vs.toList) (hy:VRL c ys us.toList) {D:Nat} (hD:d≤D) :
    ∀ {fs:List Field} {n:Nat} {ks:List Nat},Zhx (Zbd P d) fs n=some ks→∀ {b:Bool},G5 ks (xs.drop n) (ys.drop n)=some b→(Op.eqFields D vs us fs).run P w=.ok b w:=by
  intro fs
  induction fs with
  | nil =>
    intro n ks h b hb
    simp only [Zhx,Option.some.injEq] at h
    subst h
    have h1:=Zcb hb
    have e1:xs.drop n=[]:=Yeh h1.1
    have e2:ys.drop n=[]:=Yeh h1.2
    rw [e1,e2] at hb
    simp only [G5,Option.some.injEq] at hb
    subst hb
    simp [Op.eqFields]
  | cons f r ihf =>
    intro n ks h b hb
    simp only [Zhx] at h
    cases hl:Zbd P d f.type with
    | none=>rw [hl] at h;cases h
    | some m =>
      rw [hl] at h
      simp only at h
      obtain ⟨⟨rfl,hname⟩,h4⟩:=Zab h
      simp only [Ydz] at h4
      obtain ⟨ks',h5,rfl⟩:=h4
      obtain ⟨g,q1,q2,q3,q4⟩:=ih _ _ hl
      obtain ⟨x,y,l1,l2,hx1,hy1,rfl⟩:=Ze3 hb
      simp only [Yd1] at l1 l2
      have hpos:g=none→m.length=1:=q2
      rw [Yer,Yer] at hy1
      rcases Nat.eq_zero_or_pos m.length with hm0|hm0
      · -- no cells at all
        have hg:g=some m.length:=by
          cases g with
          | none=>exact absurd (q2 rfl) (by omega)
          | some k=>rw [q3 k rfl]
        subst hg
        have hs:∀ zs:List AV,∀ j,sub zs j m.length=[]:=fun zs j=>by rw [hm0];simp [sub]
        have hE:∀ (vv:Array Value),(part f.type vv f.offset).run P w=.ok (.agg #[]) w:=by
          intro vv
          obtain ⟨h1,h2⟩:=Zdw q1 w
          have:=h2 _ rfl
          rw [hm0] at this
          simp [part,h1,this,Yeo]
        have he:=q4 D hD [] [] x (by simpa [hm0] using hx1) (.agg #[]) (.agg #[]) (by simp [Zf5,VR,VRL]) (by simp [Zf5,VR,VRL])
        simp only [Op.eqFields]
        rw [if_pos hname]
        simp only [Sem.run_bind,hE,he,Result.andThen_ok]
        cases x with
        | false=>simp
        | true=>simpa using ihf h5 hy1
      · obtain ⟨av,a1,a2⟩:=Zbz (P:=P) (w:=w) q1 hx (Zdz q2 q3 (by omega:f.offset+m.length≤xs.length))
        obtain ⟨bv,b1,b2⟩:=Zbz (P:=P) (w:=w) q1 hy (Zdz q2 q3 (by omega:f.offset+m.length≤ys.length))
        have he:=q4 D hD _ _ _ hx1 av bv a2 b2
        simp only [Op.eqFields]
        rw [if_pos hname]
        simp only [Sem.run_bind,a1,b1,he,Result.andThen_ok]
        cases x with
        | false=>simp
        | true=>simpa using ihf h5 hy1
theorem Z20 {c:Ctx} {d:Nat} {e:TypeId} {kk:List Nat} (ih:EqOK P w c d e kk) {xs ys:List AV} {vs us:Array Value} (hx:VRL c xs vs.toList) (hy:VRL c ys us.toList) {D:Nat} (hD:d≤D) (hm:J9 P e=some kk.length) (hpos:0<kk.length) :
    ∀ {cnt j:Nat},∀ {b:Bool},G5 (Zo0 kk cnt) (xs.drop (j*kk.length)) (ys.drop (j*kk.length))=some b→(Op.eqItems D e (P.cellsOf e) vs us (List.range' j cnt)).run P w=.ok b w:=by
  have hc:P.cellsOf e=kk.length:=by
    unfold J9 at hm
    simp only [Ydz] at hm
    obtain ⟨i,h1,h2⟩:=hm
    simp [Program.cellsOf,h1,h2]
  intro cnt
  induction cnt with
  | zero =>
    intro j b hb
    simp only [Zo0] at hb
    have h1:=Zcb hb
    have e1:xs.drop (j*kk.length)=[]:=Yeh h1.1
    have e2:ys.drop (j*kk.length)=[]:=Yeh h1.2
    rw [e1,e2] at hb
    simp only [G5,Option.some.injEq] at hb
    subst hb
    simp [Op.eqItems]
  | succ cnt ihc =>
    intro j b hb
    obtain ⟨g,q1,q2,q3,q4⟩:=ih
    simp only [Zo0] at hb
    obtain ⟨x,y,l1,l2,hx1,hy1,rfl⟩:=Ze3 hb
    simp only [Yd1] at l1 l2
    rw [Yer,Yer] at hy1
    obtain ⟨av,a1,a2⟩:=Zbz (P:=P) (w:=w) q1 hx (Zdz q2 q3 (by omega:j*kk.length+kk.length≤xs.length))
    obtain ⟨bv,b1,b2⟩:=Zbz (P:=P) (w:=w) q1 hy (Zdz q2 q3 (by omega:j*kk.length+kk.length≤ys.length))
    have he:=q4 D hD _ _ _ hx1 av bv a2 b2
    simp only [List.range'_succ,Op.eqItems,hc,Sem.run_bind,a1,b1,he,Result.andThen_ok]
    cases x with
    | false=>simp
    | true =>
      have:=ihc (j:=j+1) (b:=y) (by rw [Yeg,Nat.one_mul];exact hy1)
      rw [hc] at this
      simpa using this
theorem eqOK (c:Ctx):∀ (d:Nat) (t:TypeId) (ks:List Nat),Zbd P d t=some ks→EqOK P w c d t ks:=by
  intro d
  induction d with
  | zero=>intro t n h;simp [Zbd] at h
  | succ d ih =>
    intro t n h
    simp only [Zbd] at h
    have one:∀ {k:Nat} {xs ys:List AV} {b:Bool},G5 [k] xs ys=some b→∃ x y,xs=[x]∧ys=[y]:=by
      intro k xs ys b hb
      obtain ⟨h1,h2⟩:=Zcb hb
      obtain ⟨x,rfl⟩:=List.length_eq_one_iff.1 h1
      obtain ⟨y,rfl⟩:=List.length_eq_one_iff.1 h2
      exact ⟨x,y,rfl,rfl⟩
    split at h
    · -- numbers
      rename_i k i hu hi
      cases h
      refine ⟨none,by simp [Zcy,hu,hi],fun _=>rfl,by simp,fun D hD xs ys b hb x y hx hy=>?_⟩
      obtain ⟨x',y',rfl,rfl⟩:=one hb
      obtain ⟨D,rfl⟩:∃ D',D=D'+1:=⟨D-1,by omega⟩
      simp only [Zf5,Yeq] at hx hy
      cases x'<;>cases y'<;>simp only [G5,reduceCtorEq] at hb
      obtain ⟨hk,hb2⟩:=Zab hb
      subst hk
      simp only [Ydy,Option.some.injEq,Yes] at hb2
      simp only [VR] at hx hy
      rw [hx,hy,←hb2]
      exact run_equalIn_int w D t _ k _ _ hu
    · rename_i i hu hi
      cases h
      refine ⟨none,by simp [Zcy,hu,hi],fun _=>rfl,by simp,fun D hD xs ys b hb x y hx hy=>?_⟩
      obtain ⟨x',y',rfl,rfl⟩:=one hb
      obtain ⟨D,rfl⟩:∃ D',D=D'+1:=⟨D-1,by omega⟩
      simp only [Zf5,Yeq] at hx hy
      cases x'<;>cases y'<;>simp only [G5,reduceCtorEq] at hb
      simp only [Ydy,Option.some.injEq,Yes] at hb
      simp only [VR] at hx hy
      rw [hx,hy,←hb]
      exact run_equalIn_bool' w D t _ _ hu
    · rename_i i hu hi
      cases h
      refine ⟨none,by simp [Zcy,hu,hi],fun _=>rfl,by simp,fun D hD xs ys b hb x y hx hy=>?_⟩
      obtain ⟨x',y',rfl,rfl⟩:=one hb
      obtain ⟨D,rfl⟩:∃ D',D=D'+1:=⟨D-1,by omega⟩
      simp only [Zf5,Yeq] at hx hy
      cases x'<;>cases y'<;>simp only [G5,reduceCtorEq] at hb
      simp only [Ydy,Option.some.injEq,Yes] at hb
      simp only [VR] at hx hy
      rw [hx,hy,←hb,run_equalIn_string w D t _ _ hu,Zf3,Zf3]
    · rename_i fs i hu hi
      obtain ⟨hst,h⟩:=Zab h
      simp only [Yef] at h
      obtain ⟨ks,h1,h2⟩:=h
      obtain ⟨h3,h4⟩:=Zab h2
      cases h4
      refine ⟨some i.size,by simp [Zcy,hu,hi],by simp,fun k hk=>by cases hk;exact h3.symm,fun D hD xs ys b hb x y hx hy=>?_⟩
      obtain ⟨D,rfl⟩:∃ D',D=D'+1:=⟨D-1,by omega⟩
      simp only [Zf5,VR] at hx hy
      obtain ⟨vs,rfl,hx⟩:=hx
      obtain ⟨us,rfl,hy⟩:=hy
      have hf:P.fieldsOf t=fs:=by simp [Program.fieldsOf,hu]
      rw [run_equalIn_struct w D t vs us (by rw [hf];exact hu) hst,hf]
      exact Zx0 ih hx hy (by omega) h1 (by simpa using hb)
    · rename_i cnt e i hu hi
      cases hl:Zbd P d e with
      | none=>rw [hl] at h;cases h
      | some kk =>
        cases hse:J9 P e with
        | none=>rw [hl,hse] at h;cases h
        | some m =>
          rw [hl,hse] at h
          simp only at h
          obtain ⟨⟨rfl,h3,h0⟩,h4⟩:=Zab h
          cases h4
          have hrl:∀ n,(Zo0 kk n).length=n*kk.length:=by
            intro n
            induction n with
            | zero=>simp [Zo0]
            | succ n ihn=>simp [Zo0,ihn,Yeg,Nat.add_comm]
          refine ⟨some i.size,by simp [Zcy,hu,hi],by simp,fun k hk=>by cases hk;rw [h3,hrl],fun D hD xs ys b hb x y hx hy=>?_⟩
          obtain ⟨D,rfl⟩:∃ D',D=D'+1:=⟨D-1,by omega⟩
          simp only [Zf5,VR] at hx hy
          obtain ⟨vs,rfl,hx⟩:=hx
          obtain ⟨us,rfl,hy⟩:=hy
          have hse':=hse
          unfold J9 at hse'
          simp only [Ydz] at hse'
          obtain ⟨ie,h5,h6⟩:=hse'
          rw [run_equalIn_array w D vs us hu h5]
          have:=Z20 (ih e kk hl) hx hy (D:=D) (by omega) hse h0 (cnt:=cnt) (j:=0) (b:=b) (by simpa using hb)
          rw [List.range_eq_range']
          exact this
    · cases h
theorem Z21 (h:Rel E w0 O0 σ0 L0 σ L w) {op:BinOp} {neg:Bool} (hop:(op=.eql∧neg=false)∨(op=.neq∧neg=true)) {t t':TypeId} {ks:List Nat} (hu:(∃ fs,P.underlying t=some (.struct fs))∨∃ n e,P.underlying t=some (.array n e)) (hl:Zbd P 20 t=some ks) (hg:P.eqGuardType P.depth t=false) {x y:Operand} {vx vy:AV}
    (ho:o.op=.binOp op t x y t') (hx:VR (ctx σ L w) vx (a.eval x)) (hy:VR (ctx σ L w) vy (a.eval y)) {r:AV × Ups} (hr:(eqaV ks neg vx vy).run σ=some r):J7 E w0 O0 σ0 L0 P σ L w o a r.1 r.2:=by
  cases vx<;>try exact A9 hr
  cases vy<;>try exact A9 hr
  rename_i xs ys
  simp only [eqaV] at hr
  obtain ⟨v,h1,rfl⟩:=Zai hr
  simp only [Ydz] at h1
  obtain ⟨b,h2,rfl⟩:=h1
  have hx':=hx
  have hy':=hy
  simp only [VR] at hx' hy'
  obtain ⟨vs,e1,g1⟩:=hx'
  obtain ⟨us,e2,g2⟩:=hy'
  obtain ⟨g,q1,q2,q3,q4⟩:=eqOK (P:=P) (w:=w) (ctx σ L w) 20 t ks hl
  have he:(Op.equalIn 10000 t (.agg vs) (.agg us)).run P w=.ok b w:=by
    cases g with
    | some k=>exact q4 10000 (by omega) xs ys b h2 _ _ (by simp only [Zf5,VR];exact ⟨vs,rfl,g1⟩) (by simp only [Zf5,VR];exact ⟨us,rfl,g2⟩)
    | none =>
      exfalso
      unfold Zcy at q1
      cases hi:P.info? t with
      | none=>rcases hu with ⟨fs,hu⟩|⟨n,e,hu⟩<;>rw [hu,hi] at q1<;>simp at q1
      | some i=>rcases hu with ⟨fs,hu⟩|⟨n,e,hu⟩<;>rw [hu,hi] at q1<;>simp at q1
  refine B0 h (y:=.bool (bif neg then !b else b)) ?_ (by simp [VR])
  have hgd:=run_eqGuard_agg (P:=P) w op t x y vs us hg
  rcases hop with ⟨rfl,rfl⟩|⟨rfl,rfl⟩
  · simp only [execOp,ho,e1,e2,Sem.run_bind,hgd,Result.andThen_ok,run_eql_struct,he,Sem.run_pure];rfl
  · simp only [execOp,ho,e1,e2,Sem.run_bind,hgd,Result.andThen_ok,run_neq_struct,he,Sem.run_pure];rfl
end Cod
namespace Cod
open Go
variable {E:Env} {w0:World} {O0:Nat→Prop} {σ0:A3} {L0:Lay} {P:Program} {σ:A3} {L:Lay} {w:World} {o:Oper} {a:Act}
theorem Zjq {s:Site} {c:AV} {f:Nat→AV} {r:AV × Ups} (h:(Zht s c f).run σ=some r) :
    ∃ g,(∀ e,A6 σ s=some e→e.g<g)∧r=(f g,[(s,⟨g,true,true,true,[c]⟩)]):=by
  obtain ⟨p,h1,h2⟩:=F5 h
  obtain ⟨h3,h4⟩:=Zsb h1
  have k:=A7 h2
  subst k
  exact ⟨p.1,h3,by rw [h4]⟩
theorem Rel.newObj (h:Rel E w0 O0 σ0 L0 σ L w) {d k:Nat} {g:Nat} (hg:∀ e,A6 σ (.s d k)=some e→e.g<g) {cells:List AV} (ob:Obj)
    (ho:∀ c':Ctx,CLe (ctx σ L w) c'→c'.w.heap[w.heap.size]? = some ob→V9 c' w.heap.size ⟨g,true,true,true,cells⟩) :
    Rel E w0 O0 σ0 L0 (G3 σ (.s d k) ⟨g,true,true,true,cells⟩) (F6 L (.s d k) (some (w.heap.size,0))) (w.alloc ob) ∧
    CLe (ctx σ L w) (ctx (G3 σ (.s d k) ⟨g,true,true,true,cells⟩) (F6 L (.s d k) (some (w.heap.size,0))) (w.alloc ob)):=by
  have hk:=Keep.alloc (G7 σ L) w ob
  have hown:∀ b,G7 (G3 σ (.s d k) ⟨g,true,true,true,cells⟩) (F6 L (.s d k) (some (w.heap.size,0))) b→G7 σ L b∨w.heap.size≤b:=by
    intro b hb
    rcases Zdt hb with h1|⟨_,_,o,h1⟩
    · exact .inl h1
    · simp only [Option.some.injEq,Prod.mk.injEq] at h1;exact .inr (by omega)
  have hc:CLe (ctx σ L w) (ctx (G3 σ (.s d k) ⟨g,true,true,true,cells⟩) (F6 L (.s d k) (some (w.heap.size,0))) (w.alloc ob)) :=
    Zf0 (fun e he=>.inl (hg e he)) (fun b hb ho=>(hown b ho).resolve_right (by omega)) hk
  have hget:(w.alloc ob).heap[w.heap.size]? = some ob:=by simp only [World.alloc,Array.getElem?_push];rw [if_pos trivial]
  refine ⟨h.step (Zfz h.store hc ?_ ?_ ?_) hc hk hown ?_ (fun b hb=>(Zf1 hb).imp id fun ⟨_,o,h1⟩=>by simp only [Option.some.injEq,Prod.mk.injEq] at h1;omega) rfl,hc⟩
  · intro t e b o _ he ha hl
    have:=h.store.lt he ha hl
    simp only [World.alloc,Array.getElem?_push];rw [if_neg (by omega)]
  · intro _
    unfold S1
    rw [show (ctx (G3 σ (.s d k) ⟨g,true,true,true,cells⟩) (F6 L (.s d k) (some (w.heap.size,0))) (w.alloc ob)).L (.s d k)=some (w.heap.size,0) from F9 _ _ _]
    exact .inr ⟨rfl,ho _ hc hget⟩
  · intro b o _ hx t e o' _ he ha hl
    simp only [Option.some.injEq,Prod.mk.injEq] at hx
    have:=h.store.lt he ha hl
    omega
  · intro x e he ha
    rw [C7 _ _ (by simp)] at he
    exact ⟨e,he,ha,rfl,M0 _ _ (by simp)⟩
theorem Rel.updObj (h:Rel E w0 O0 σ0 L0 σ L w) {s:Site} {e:Ent} (he:A6 σ s=some e) (ha:e.alive=true) (hr:e.rw=true) {b:Nat} (hl:L s=some (b,0)) {w':World} {cells:List AV}
    (hk:Keep (fun x=>x=b) w w') (hv:∀ c':Ctx,CLe (ctx σ L w) c'→c'.w=w'→V9 c' b { e with cells:=cells }) :
    Rel E w0 O0 σ0 L0 (G3 σ s { e with cells:=cells }) L w'∧CLe (ctx σ L w) (ctx (G3 σ s { e with cells:=cells }) L w'):=by
  have hL:=Zc4 L s
  have hob:G7 σ L b:=⟨s,e,0,he,ha,hr,hl⟩
  have hk':Keep (G7 σ L) w w':=hk.mono fun x hx=>by rw [hx];exact hob
  have hown:∀ x,G7 (G3 σ s { e with cells:=cells }) L x→G7 σ L x∨w.heap.size≤x:=by
    intro x hx
    rw [←hL] at hx
    rcases Zdt hx with h1|⟨h1,h2,o,h3⟩
    · exact .inl h1
    · exact .inl ⟨s,e,o,he,h1,h2,h3⟩
  have hc:CLe (ctx σ L w) (ctx (G3 σ s { e with cells:=cells }) L w'):=by
    have:=Zf0 (σ := σ) (L:=L) (w:=w) (w':=w') (s:=s) (e' := { e with cells:=cells }) (x:=L s)
      (fun e1 h1=>.inr ⟨by rw [he] at h1;cases h1;rfl,fun h2=>⟨by rw [he] at h1;cases h1;exact h2,rfl⟩⟩)
      (fun b hb ho=>by rw [hL] at ho;exact (hown b ho).resolve_right (by omega)) hk'
    rwa [hL] at this
  have hin:∀ x,inS (G3 σ s { e with cells:=cells }) L x→inS σ L x∨w.heap.size≤x:=by
    intro x hx
    rw [←hL] at hx
    rcases Zf1 hx with h1|⟨h1,o,h3⟩
    · exact .inl h1
    · exact .inl ⟨s,e,o,he,h1,h3⟩
  refine ⟨h.step ?_ hc hk' hown ?_ hin rfl,hc⟩
  · have:=Zfz h.store (s:=s) (e' := { e with cells:=cells }) (x:=L s) (w':=w') (by rw [hL];exact hc) ?_ ?_ ?_
    · rwa [hL] at this
    · intro t e1 b1 o1 hne h1 a1 l1
      refine hk.block b1 (h.store.lt h1 a1 l1) fun hbb=>hne ?_
      subst hbb
      exact h.store.apart t s e1 e b1 o1 0 h1 a1 he ha l1 hl
    · intro _
      rw [hL]
      unfold S1
      rw [show (ctx (G3 σ s { e with cells:=cells }) L w').L s=some (b,0) from hl]
      exact .inr ⟨rfl,hv _ hc rfl⟩
    · intro b1 o1 _ hx t e1 o' hne he1 ha1 hl1
      exact hne (h.store.apart t s e1 e b1 o' o1 he1 ha1 he ha hl1 hx)
  · intro x e1 he1 ha1
    by_cases hx:s=.up x
    · subst hx
      rw [C0] at he1
      cases he1
      exact ⟨e,he,ha,rfl,rfl⟩
    · rw [C7 _ _ hx] at he1
      exact ⟨e1,he1,ha1,rfl,rfl⟩
theorem Zaj {b:Nat} {o0:Obj} (h0:w.heap[b]? = some o0) (hn:∀ cs el fr,o0≠.cells cs el fr) (o1:Obj):Keep (fun x=>x=b) w { w with heap:=w.heap.setIfInBounds b o1 }∧({ w with heap:=w.heap.setIfInBounds b o1 }:World).heap[b]? = some o1:=by
  have hlt:b<w.heap.size:=(Array.getElem?_eq_some_iff.1 h0).1
  refine ⟨⟨rfl,rfl,rfl,by simp,fun x hx hne=>?_,fun x k ⟨cs,el,fr,h1,h2⟩=>⟨cs,el,fr,?_,h2⟩⟩,?_⟩
  · simp only [Array.getElem?_setIfInBounds];rw [if_neg (fun h=>hne h.symm)]
  · simp only [Array.getElem?_setIfInBounds]
    rw [if_neg (fun h=>by subst h;rw [h0] at h1;exact hn _ _ _ (Option.some.inj h1))]
    exact h1
  · simp only [Array.getElem?_setIfInBounds];rw [if_pos trivial,if_pos hlt]
theorem Z22 (h:StoreOK σ L w) {s:Site} {e:Ent} (he:A6 σ s=some e) (ha:e.alive=true) {b:Nat} (hl:L s=some (b,0)) {x:AV} {rest:List AV} (hc:e.cells=x::rest) (hx:P9 x=false) (hu:x≠.junk∧x≠.und∧(∀ l,x≠.agg l)∧(∀ l,x≠.tup l)∧(∀ s g,x≠.it s g)):V9 (ctx σ L w) b e:=by
  rcases h.lies he ha hl with ⟨_,h1⟩|⟨_,h1⟩
  · rw [hc] at h1
    simp only [VRC] at h1
    obtain ⟨⟨v,_,h2⟩,_⟩:=h1
    cases x<;>simp_all [VR,P9]
  · exact h1
theorem it_at {s:Site} {g:Nat} {y:Value} (hv:VR (ctx σ L w) (.it s g) y) {e:Ent} (he:A6 σ s=some e) (ha:e.alive=true) (hg:e.g=g):∃ b,L s=some (b,0)∧y=.pointer (some ⟨b,0,none⟩):=by
  simp only [VR] at hv
  obtain ⟨g0,al,h1,_,h3⟩:=hv
  rw [H4 he] at h1
  simp only [Option.some.injEq,Prod.mk.injEq] at h1
  obtain ⟨h4,h5⟩:=h1
  exact h3 (by rw [←h5];exact ha) (by omega)
theorem Zk7 {s:Site} {g:Nat} {y:Value} (hv:VR (ctx σ L w) (.mpr s g) y) {e:Ent} (he:A6 σ s=some e) (ha:e.alive=true) (hg:e.g=g):∃ b,L s=some (b,0)∧y=.map (some b):=by
  simp only [VR] at hv
  obtain ⟨_,g0,al,h1,_,h3⟩:=hv
  rw [H4 he] at h1
  simp only [Option.some.injEq,Prod.mk.injEq] at h1
  obtain ⟨h4,h5⟩:=h1
  exact h3 (by rw [←h5];exact ha) (by omega)
theorem ok_r2s (h:Rel E w0 O0 σ0 L0 σ L w) {s t:TypeId} {k:IntKind} {x:Operand} (hs:P.underlying s=some (.int k)) (ht:P.underlying t=some .string) {vx:AV} (ho:o.op=.convert s t x)
    (hx:VR (ctx σ L w) vx (a.eval x)) {r:AV × Ups} (hr:(r2sV vx).run σ=some r):J7 E w0 O0 σ0 L0 P σ L w o a r.1 r.2:=by
  cases vx<;>try exact A9 hr
  rename_i k' n
  have kk:=A7 hr
  subst kk
  simp only [VR] at hx
  refine B0 h (y:=.string (Utf8.encode n)) ?_ ?_
  · simp [execOp,ho,convert,run_underlying hs,run_underlying ht,hx,Conv.intToString,asIntOf]
  · simp [VR,Zg8]
theorem ok_rng (h:Rel E w0 O0 σ0 L0 σ L w) {d:Nat} {t:TypeId} {x:Operand} (ht:Z2l P t=true) (ho:o.op=.range t x) {vx:AV} (hx:VR (ctx σ L w) vx (a.eval x))
    {r:AV × Ups} (hr:(rngV (.s d 0) vx).run σ=some r):J7 E w0 O0 σ0 L0 P σ L w o a r.1 r.2:=by
  cases vx<;>try exact A9 hr
  rename_i l
  obtain ⟨g,hg,rfl⟩:=Zjq hr
  have hu:P.underlying t=some .string:=by
    unfold Z2l at ht
    split at ht
    · assumption
    · cases ht
  simp only [VR] at hx
  obtain ⟨h1,h2⟩:=h.newObj hg (cells:=[.itr l 0]) (.stringIter ⟨l.toArray⟩ 0) (fun c' _ hc=>.inl ⟨l,0,rfl,hc⟩)
  refine K2 (w':=w.alloc (.stringIter ⟨l.toArray⟩ 0)) (L':=F6 L (.s d 0) (some (w.heap.size,0))) (y:=.pointer (some ⟨w.heap.size,0,none⟩)) ?_ h1 h2 ?_
  · simp [execOp,ho,Instr.range,hx,run_underlying hu]
  · simp only [VR]
    exact ⟨g,true,H4 (C0 _ _ _),Ydt _,fun _ _=>⟨w.heap.size,F9 _ _ _,rfl⟩⟩
theorem Z23 {s:Site} {e:Ent} {r:AV × Ups} (hr:(nxtC s e).run σ=some r):∃ l p,e.cells=[.itr l p]∧e.rw=true ∧
    ((p<l.length∧r=(.tup [.bool true,.int .i64 p,.int .i32 (Zaf l p).1],[(s,{ e with cells:=[.itr l (p+(Zaf l p).2)] })]))∨(¬ p<l.length∧r=(.tup [.bool false],[]))):=by
  unfold nxtC at hr
  split at hr
  · rename_i l p hc
    obtain ⟨h1,h2⟩:=G0 hr
    refine ⟨l,p,hc,h1,?_⟩
    by_cases hp:p<l.length
    · rw [if_pos hp] at h2;exact .inl ⟨hp,A7 h2⟩
    · rw [if_neg hp] at h2;exact .inr ⟨hp,A7 h2⟩
  · exact A9 hr
theorem ok_nxt (h:Rel E w0 O0 σ0 L0 σ L w) {x:Operand} (ho:o.op=.next x true) {vx:AV} (hx:VR (ctx σ L w) vx (a.eval x))
    {r:AV × Ups} (hr:(nxtV vx).run σ=some r):J7 E w0 O0 σ0 L0 P σ L w o a r.1 r.2:=by
  cases vx<;>try exact A9 hr
  rename_i s g
  obtain ⟨e,he,ha,hg,h1⟩:=H8 hr
  obtain ⟨l,p,hc,hrw,h2⟩:=Z23 h1
  obtain ⟨b,hl,hy⟩:=it_at hx he ha hg
  have hob:=Z22 h.store he ha hl hc rfl (by simp)
  have hheap:w.heap[b]? = some (.stringIter ⟨l.toArray⟩ p):=by
    rcases hob with ⟨l',p',h3,h4⟩|⟨ks,vs,es,cl,h3,_⟩
    · rw [hc] at h3;simp only [List.cons.injEq,AV.itr.injEq,and_true] at h3;obtain ⟨rfl,rfl⟩:=h3;exact h4
    · rw [hc] at h3;simp at h3
  rcases h2 with ⟨hp,rfl⟩|⟨hp,rfl⟩
  · obtain ⟨k1,k2⟩:=Zaj hheap (by simp) (.stringIter ⟨l.toArray⟩ (p+(Zaf l p).2))
    obtain ⟨m1,m2⟩:=h.updObj he ha hrw hl (cells:=[.itr l (p+(Zaf l p).2)]) k1 (fun c' _ hw=>.inl ⟨l,_,rfl,by rw [hw];exact k2⟩)
    refine K2 (u:=[(s,{ e with cells:=[.itr l (p+(Zaf l p).2)] })]) (y:=.tuple #[.bool true,goInt p,.int .i32 (Zaf l p).1]) ?_ m1 m2 (by simp [VR,VRL,goInt])
    have hp':p<(⟨l.toArray⟩:ByteArray).size:=by simpa [ByteArray.size] using hp
    simp [execOp,ho,Instr.next,hy,getObj,setObj,Sem.run,hheap,hp',Zaf]
  · refine B0 h (y:=.tuple #[.bool false]) ?_ (by simp [VR,VRL])
    have hp':¬ p<(⟨l.toArray⟩:ByteArray).size:=by simpa [ByteArray.size] using hp
    simp [execOp,ho,Instr.next,hy,getObj,Sem.run,hheap,hp']
theorem Z24 (x y:List UInt8):((⟨x.toArray⟩:ByteArray) == ⟨y.toArray⟩)=(x==y):=by
  show (x.toArray==y.toArray)=(x==y)
  simp
def keyD (str:Bool) (d:TypeDesc):Prop:=(str=false∧∃ q,d=.int q)∨(str=true∧d=.string)
theorem Z25 {c:Ctx} {str:Bool} {d:TypeDesc} (hd:keyD str d) {k x:AV} {kv xv:Value} (hk:VR c k kv) (hx:VR c x xv) {b:Bool} (h:Zen str k x=some b) :
    Instr.sameNow d kv xv=some b∧(b=true→xv=kv):=by
  unfold Zen at h
  split at h
  · rename_i k1 a1 k2 a2
    simp only [VR] at hk hx
    subst hk hx
    split at h
    · rename_i hkk
      cases h
      subst hkk
      rcases hd with ⟨_,q,rfl⟩|⟨h1,_⟩
      · exact ⟨by simp [Instr.sameNow],fun hb=>by simp at hb;rw [hb]⟩
      · cases h1
    · cases h
  · simp only [VR] at hk hx
    subst hk hx
    cases h
    rcases hd with ⟨h1,_⟩|⟨_,rfl⟩
    · cases h1
    · exact ⟨by simp only [Instr.sameNow];rw [Z24],fun hb=>by simp at hb;rw [hb]⟩
  · cases h
theorem Zh8 {c:Ctx} {str:Bool} {d:TypeDesc} (hd:keyD str d) {k:AV} {kv:Value} (hk:VR c k kv):∀ {ks:List AV} {es:List MapEntry} {i:Nat} {r:Option Nat},VRL c ks (es.map (·.key))→U5 str k ks i=some r →
    Instr.findNow d kv es i=some (r.bind fun j=>(es[j-i]?).map fun e=>(j,e.val))∧∀ j,r=some j→i≤j∧∃ e,es[j-i]? = some e∧e.key=kv:=by
  intro ks
  induction ks with
  | nil =>
    intro es i r h1 h2
    cases es with
    | nil=>simp only [U5,Option.some.injEq] at h2;subst h2;exact ⟨by simp [Instr.findNow],by simp⟩
    | cons e es=>simp [VRL] at h1
  | cons x ks ih =>
    intro es i r h1 h2
    cases es with
    | nil=>simp [VRL] at h1
    | cons e es =>
      simp only [VRL,Yed,List.cons.injEq] at h1
      obtain ⟨v,r',⟨rfl,rfl⟩,h3,h4⟩:=h1
      simp only [U5] at h2
      cases hb:Zen str k x with
      | none=>rw [hb] at h2;cases h2
      | some b =>
        rw [hb] at h2
        obtain ⟨h5,h6⟩:=Z25 hd hk h3 hb
        cases b with
        | true =>
          simp only [Option.some.injEq] at h2
          subst h2
          exact ⟨by simp [Instr.findNow,h5],fun j hj=>by cases hj;exact ⟨Ydt _,e,by simp,h6 rfl⟩⟩
        | false =>
          simp only at h2
          obtain ⟨h7,h8⟩:=ih h4 h2
          refine ⟨?_,fun j hj=>?_⟩
          · simp only [Instr.findNow,h5,h7]
            cases r with
            | none=>rfl
            | some j =>
              obtain ⟨h9,_⟩:=h8 j rfl
              simp only [Ydq]
              rw [show j-i=(j-(i+1))+1 by omega,List.getElem?_cons_succ]
          · obtain ⟨h9,e',h10,h11⟩:=h8 j hj
            exact ⟨by omega,e',by rw [show j-i=(j-(i+1))+1 by omega,List.getElem?_cons_succ];exact h10,h11⟩
theorem Zdb {kt:TypeId} {str:Bool} (h:Zc7 P kt=some str):∃ d,P.underlying kt=some d∧keyD str d:=by
  unfold Zc7 at h
  split at h
  · rename_i q hq;cases h;exact ⟨_,hq,.inl ⟨rfl,q,rfl⟩⟩
  · rename_i hq;cases h;exact ⟨_,hq,.inr ⟨rfl,rfl⟩⟩
  · cases h
theorem S9 {kt:TypeId} {d:TypeDesc} (hu:P.underlying kt=some d) {kv:Value} {es:List MapEntry} {r:Option (Nat × Value)} (h:Instr.findNow d kv es 0=some r):(Instr.findKey kt kv es).run P w=.ok r w:=by
  simp [Instr.findKey,run_underlying hu,h]
theorem O7 {str:Bool} {kt:TypeId} {d:TypeDesc} (hu:P.underlying kt=some d) (hd:keyD str d) (kv:Value) (e:Bool):(Instr.checkKey e 10000 kt kv).run P w=.ok () w:=by
  unfold Instr.checkKey
  rcases hd with ⟨_,q,rfl⟩|⟨_,rfl⟩<;>simp [run_underlying hu]
theorem Z26 (c:Ctx) {e:TypeId} {z:AV} (h:Zwh P e=some z):∃ zv,(∀ w:World,(zeroValue e).run P w=.ok zv w)∧VR c z zv:=by
  unfold Zwh at h
  simp only [Yef] at h
  obtain ⟨zv,⟨i,h1,h2⟩,h3⟩:=h
  exact ⟨zv,fun w=>by simp [zeroValue,typeInfo,h1,h2],Zgr c h3⟩
theorem Zsg {c:Ctx} {ok b:Bool} {v:AV} {y:Value} (h:VR c v y):VR c (okV ok b v) (if ok then .tuple #[y,.bool b] else y):=by
  cases ok
  · exact h
  · simp only [okV,cond_true,if_true,VR,VRL]
    exact ⟨_,rfl,y,_,rfl,h,.bool b,[],rfl,by simp [VR],rfl⟩
theorem Zhi {s:Site} {e:Ent} (h:StoreOK σ L w) (he:A6 σ s=some e) (ha:e.alive=true) {b:Nat} (hl:L s=some (b,0)) {ks vs:List AV} (hc:e.cells=[.mp ks vs]) :
    ∃ es cl,w.heap[b]? = some (.map es cl)∧N7 ks=true∧N7 vs=true∧VRL (ctx σ L w) ks (es.toList.map (·.key))∧VRL (ctx σ L w) vs (es.toList.map (·.val)):=by
  have hob:=Z22 h he ha hl hc rfl (by simp)
  rcases hob with ⟨l',p',h3,h4⟩|⟨ks',vs',es,cl,h3,h4,h5,h6,h7,h8⟩
  · rw [hc] at h3;simp at h3
  · rw [hc] at h3;simp only [List.cons.injEq,AV.mp.injEq,and_true] at h3;obtain ⟨rfl,rfl⟩:=h3;exact ⟨es,cl,h6,h4,h5,h7,h8⟩
theorem Z27 (h:Rel E w0 O0 σ0 L0 σ L w) {d:Nat} {t:TypeId} (ho:o.op=.makeMap t none) {r:AV × Ups} (hr:(Zht (.s d 0) (.mp [] []) (.mpr (.s d 0))).run σ=some r):J7 E w0 O0 σ0 L0 P σ L w o a r.1 r.2:=by
  obtain ⟨g,hg,rfl⟩:=Zjq hr
  obtain ⟨h1,h2⟩:=h.newObj hg (cells:=[.mp [] []]) (.map #[] 0) (fun c' _ hc=>.inr ⟨[],[],#[],0,rfl,rfl,rfl,hc,by simp [VRL],by simp [VRL]⟩)
  refine K2 (w':=w.alloc (.map #[] 0)) (L':=F6 L (.s d 0) (some (w.heap.size,0))) (y:=.map (some w.heap.size)) ?_ h1 h2 ?_
  · simp [execOp,ho,Instr.makeMap]
  · simp only [VR]
    exact ⟨rfl,g,true,H4 (C0 _ _ _),Ydt _,fun _ _=>⟨w.heap.size,F9 _ _ _,rfl⟩⟩
theorem Z9v (h:Rel E w0 O0 σ0 L0 σ L w) {t kt e:TypeId} {m k:Operand} {ok str:Bool} {z:AV} (ht:P.underlying t=some (.map kt e)) (hk:Zc7 P kt=some str) (hz:Zwh P e=some z) (ho:o.op=.lookup t m k ok) {vm vk:AV}
    (hm:VR (ctx σ L w) vm (a.eval m)) (hkv:VR (ctx σ L w) vk (a.eval k)) {r:AV × Ups} (hr:(Zop str z ok vk vm).run σ=some r):J7 E w0 O0 σ0 L0 P σ L w o a r.1 r.2:=by
  obtain ⟨d,hd,hkd⟩:=Zdb hk
  obtain ⟨zv,hz1,hz2⟩:=Z26 (P:=P) (ctx σ L w) hz
  cases vm<;>try exact A9 hr
  case nilm =>
    have kk:=A7 hr
    subst kk
    simp only [VR] at hm
    refine B0 h ?_ (Zsg hz2)
    simp [execOp,ho,Instr.lookup,hm,run_underlying ht,O7 hd hkd,S9 hd (kv:=a.eval k) (es:=[]) (r:=none) (by simp [Instr.findNow]),hz1]
  case mpr s g =>
    obtain ⟨en,he,ha,hg,h1⟩:=H8 hr
    unfold Zv9 at h1
    split at h1
    · rename_i ks vs hc
      obtain ⟨b,hl,hy⟩:=Zk7 hm he ha hg
      obtain ⟨es,cl,hh,_,_,hks,hvs⟩:=Zhi h.store he ha hl hc
      cases hf:U5 str vk ks 0 with
      | none=>rw [hf] at h1;exact A9 h1
      | some fr =>
        rw [hf] at h1
        obtain ⟨h2,h3⟩:=Zh8 hkd hkv hks hf
        cases fr with
        | none =>
          simp only [Zjb] at h1
          have kk:=A7 h1
          subst kk
          refine B0 h ?_ (Zsg hz2)
          have h4:=S9 (w:=w) hd h2
          simp only [Yet] at h4
          simp [execOp,ho,Instr.lookup,hy,getObj,Sem.run,hh,run_underlying ht,O7 hd hkd,h4,hz1]
        | some i =>
          obtain ⟨_,en',h5,h6⟩:=h3 i rfl
          simp only [Yeu] at h5
          simp only [Zjb] at h1
          obtain ⟨v,h7,h8⟩:=Zai h1
          simp only [Ydz] at h7
          obtain ⟨x,h9,rfl⟩:=h7
          obtain ⟨v',h10,h11⟩:=Zav hvs h9
          rw [List.getElem?_map,h5] at h10
          cases h10
          rw [h8]
          refine B0 h ?_ (Zsg h11)
          have h4:=S9 (w:=w) hd h2
          simp only [Ydq,Yeu,h5,Ydy] at h4
          simp [execOp,ho,Instr.lookup,hy,getObj,Sem.run,hh,run_underlying ht,O7 hd hkd,h4]
    · exact A9 h1
theorem Z9w (h:Rel E w0 O0 σ0 L0 σ L w) {t kt e:TypeId} {c:Call} {x:Operand} {vx:AV} (hc1:c.callee=.builtin .len) (hc2:c.args = #[x]) (hc3:c.argTypes = #[t]) (ho:o.op=.call c) (ht:P.underlying t=some (.map kt e))
    (hx:VR (ctx σ L w) vx (a.eval x)) {r:AV × Ups} (hr:(Zos vx).run σ=some r):J7 E w0 O0 σ0 L0 P σ L w o a r.1 r.2:=by
  cases vx<;>try exact A9 hr
  case nilm =>
    have kk:=A7 hr
    subst kk
    simp only [VR] at hx
    refine B0 h (y:=goInt 0) ?_ (by simp [VR,goInt])
    simp [execOp,ho,resolve,hc1,hc2,hc3,invoke,builtin,Builtin.len_,run_underlying ht,hx]
  case mpr s g =>
    obtain ⟨en,he,ha,hg,h1⟩:=H8 hr
    unfold Zwc at h1
    split at h1
    · rename_i ks vs hc
      obtain ⟨b,hl,hy⟩:=Zk7 hx he ha hg
      obtain ⟨es,cl,hh,_,_,hks,hvs⟩:=Zhi h.store he ha hl hc
      have kk:=A7 h1
      subst kk
      have:=G4 hks
      simp only [List.length_map,Yec] at this
      refine B0 h (y:=goInt ks.length) ?_ (by simp [VR,goInt])
      simp [execOp,ho,resolve,hc1,hc2,hc3,invoke,builtin,Builtin.len_,run_underlying ht,hy,getObj,Sem.run,hh,this]
    · exact A9 h1
theorem Zx1 {c:Ctx} {str:Bool} {k:AV} {kv:Value} (hk:VR c k kv):∀ {ks:List AV} {i j:Nat},U5 str k ks i=some (some j)→Instr.sameBits 10000 kv kv=true:=by
  intro ks
  induction ks with
  | nil=>intro i j h;simp [U5] at h
  | cons x ks ih =>
    intro i j h
    simp only [U5] at h
    cases hb:Zen str k x with
    | none=>rw [hb] at h;cases h
    | some b =>
      rw [hb] at h
      cases b with
      | false=>exact ih h
      | true =>
        unfold Zen at hb
        split at hb
        · simp only [VR] at hk;subst hk;unfold Instr.sameBits;simp
        · simp only [VR] at hk;subst hk;unfold Instr.sameBits;rw [Z24];simp
        · cases hb
theorem Zwq {c:Ctx} {x:AV} {v:Value} (hx:VR c x v):∀ {xs:List AV} {vs:List Value} {i:Nat},VRL c xs vs→VRL c (xs.set i x) (vs.set i v):=by
  intro xs
  induction xs with
  | nil=>intro vs i h;simp only [VRL] at h;subst h;simp [VRL]
  | cons y ys ih =>
    intro vs i h
    simp only [VRL] at h
    obtain ⟨u,r,rfl,h1,h2⟩:=h
    cases i with
    | zero=>simp only [List.set_cons_zero,VRL];exact ⟨v,r,rfl,hx,h2⟩
    | succ i=>simp only [List.set_cons_succ,VRL];exact ⟨u,_,rfl,h1,ih h2⟩
theorem Zjr {c:Ctx}:∀ {xs:List AV} {vs:List Value} {i:Nat},VRL c xs vs→VRL c (xs.eraseIdx i) (vs.eraseIdx i):=by
  intro xs
  induction xs with
  | nil=>intro vs i h;simp only [VRL] at h;subst h;simp [VRL]
  | cons y ys ih =>
    intro vs i h
    simp only [VRL] at h
    obtain ⟨u,r,rfl,h1,h2⟩:=h
    cases i with
    | zero=>simpa using h2
    | succ i=>simp only [List.eraseIdx_cons_succ,VRL];exact ⟨u,_,rfl,h1,ih h2⟩
theorem Zh9 {x:AV} (hx:Zbk x=true):∀ {xs:List AV} {i:Nat},N7 xs=true→N7 (xs.set i x)=true:=by
  intro xs
  induction xs with
  | nil=>intro i h;simpa using h
  | cons y ys ih =>
    intro i h
    simp only [N7,Yd8] at h
    cases i with
    | zero=>simp [N7,hx,h.2]
    | succ i=>simp [N7,h.1,ih h.2]
theorem Zjs {α β:Type} (f : α → β):∀ (l:List α) (i:Nat),(l.eraseIdx i).map f=(l.map f).eraseIdx i
  | [],_=>by simp
  | _::_,0=>by simp
  | x::l,i+1=>by simp [Zjs f l i]
theorem Ze4:∀ {xs:List AV} {i:Nat},N7 xs=true→N7 (xs.eraseIdx i)=true:=by
  intro xs
  induction xs with
  | nil=>intro i h;simpa using h
  | cons y ys ih =>
    intro i h
    simp only [N7,Yd8] at h
    cases i with
    | zero=>simpa using h.2
    | succ i=>simp [N7,h.1,ih h.2]
theorem Ze5:∀ {xs ys:List AV},N7 xs=true→N7 ys=true→N7 (xs++ys)=true:=by
  intro xs
  induction xs with
  | nil=>intro ys _ h;exact h
  | cons x xs ih=>intro ys h k;simp only [N7,Yd8] at h;simp [N7,h.1,ih h.2 k]
theorem Z28 {c c':Ctx} {vx:AV} {y:Value} (hv:VR c vx y) {xs ys:List AV} (hc:H3 vx=some xs) (hl:ys.length=xs.length) (h:VRL c' ys y.cells.toList) (hf:Zbk (Zd6 (S3 vx) ys)=true):VR c' (Zd6 (S3 vx) ys) y:=by
  cases hx:P9 vx with
  | true =>
    have h1:xs=[vx]:=by cases vx<;>simp_all [H3,P9]
    have h2:S3 vx=false:=by cases vx<;>simp_all [S3,P9]
    subst h1
    rw [h2]
    rw [Zjn (Zh4 hv hx)] at h
    match ys,hl with
    | [z],_ =>
      simp only [VRL] at h
      obtain ⟨v,r,h3,h4,_⟩:=h
      simp only [List.cons.injEq] at h3
      simp only [Zd6]
      rw [h3.1];exact h4
  | false =>
    cases vx<;>simp [H3,P9] at hc hx
    simp only [VR] at hv
    obtain ⟨vs,rfl,h2⟩:=hv
    simp only [S3,Zd6,VR]
    exact ⟨vs,rfl,h⟩
theorem Zwr (h:Rel E w0 O0 σ0 L0 σ L w) {t kt e:TypeId} {m k x:Operand} {str:Bool} (ht:P.underlying t=some (.map kt e)) (hk:Zc7 P kt=some str) (ho:o.op=.mapUpdate t m k x∨o.op=.insert t m k x) {vm vk vx:AV}
    (hm:VR (ctx σ L w) vm (a.eval m)) (hkv:VR (ctx σ L w) vk (a.eval k)) (hx:VR (ctx σ L w) vx (a.eval x)) {r:AV × Ups} (hr:(Zoq str (S3 vx) vk (H3 vx) vm).run σ=some r):J7 E w0 O0 σ0 L0 P σ L w o a r.1 r.2:=by
  obtain ⟨d,hd,hkd⟩:=Zdb hk
  cases vm<;>try exact A9 hr
  rename_i s g
  cases hcs:H3 vx with
  | none=>rw [hcs] at hr;exact A9 hr
  | some xs =>
    rw [hcs] at hr
    simp only [Zoq] at hr
    obtain ⟨⟨ys,u,ss⟩,h1,h2⟩:=F5 hr
    obtain ⟨en,he,ha,hg,h3⟩:=H8 h2
    have hcl:=Zb0 hx hcs
    obtain ⟨k1,k2,k3,k4,k5,k6⟩:=Zk5 h hcl h1
    have hyl:ys.length=xs.length:=by rw [←G4 k3,G4 hcl]
    unfold Zwa at h3
    split at h3
    · rename_i ks vs hc
      obtain ⟨⟨hrw,hfk,hfy,hns⟩,h4⟩:=G0 h3
      obtain ⟨b,hl,hy⟩:=Zk7 hm he ha hg
      obtain ⟨es,cl,hh,q1,q2,hks,hvs⟩:=Zhi h.store he ha hl hc
      have hsn:s∉ss:=by simpa using hns
      have he':A6 (B2 σ u) s=some en:=(k6 s hsn).trans he
      have hval:=Z28 hx hcs hyl k3 hfy
      cases hf:U5 str vk ks 0 with
      | none=>rw [hf] at h4;exact A9 h4
      | some fr =>
        rw [hf] at h4
        obtain ⟨g2,g3⟩:=Zh8 hkd hkv hks hf
        cases fr with
        | none =>
          simp only [Zjc] at h4
          have kk:=A7 h4
          subst kk
          have g4:=S9 (w:=w) hd g2
          simp only [Yet] at g4
          obtain ⟨m1,m2⟩:=Zaj hh (by simp) (.map (es.push { key:=a.eval k,val:=a.eval x,born:=cl }) (cl+1))
          obtain ⟨n1,n2⟩:=k1.updObj he' ha hrw hl (cells:=[.mp (ks++[vk]) (vs++[Zd6 (S3 vx) ys])]) m1 (fun c' hc' hw=>.inr ⟨_,_,_,_,rfl,Ze5 q1 (by simp [N7,hfk]),Ze5 q2 (by simp [N7,hfy]),by rw [hw];exact m2,
            by simpa using S4 (VRL_le (k2.trans hc') _ _ hks) (Zbl (V8 (k2.trans hc') _ _ hkv)),by simpa using S4 (VRL_le (k2.trans hc') _ _ hvs) (Zbl (V8 hc' _ _ hval))⟩)
          refine Zdv (w' := { w with heap:=w.heap.setIfInBounds b (.map (es.push { key:=a.eval k,val:=a.eval x,born:=cl }) (cl+1)) }) ?_ (by rw [C4];exact n1) (by rw [C4];exact k2.trans n2)
          rcases ho with ho|ho<;>simp [execOp,ho,Instr.mapUpdate,hy,getObj,setObj,Sem.run,hh,run_underlying ht,O7 hd hkd,g4]
        | some i =>
          obtain ⟨_,en',h5,h6⟩:=g3 i rfl
          simp only [Yeu] at h5
          simp only [Zjc] at h4
          have kk:=A7 h4
          subst kk
          have g4:=S9 (w:=w) hd g2
          simp only [Ydq,Yeu,h5,Ydy] at g4
          have hsame:=Zx1 hkv hf
          have hkeep:(Instr.keyThatStays (((es[i]?).map (·.key)).getD (a.eval k)) (a.eval k)).run P w=.ok (a.eval k) w:=by
            have h7:es[i]? = some en':=by rw [←Array.getElem?_toList];exact h5
            simp [Instr.keyThatStays,h7,h6,hsame]
          obtain ⟨m1,m2⟩:=Zaj hh (by simp) (.map (es.modify i fun e => { e with key:=a.eval k,val:=a.eval x }) cl)
          have hmod:(es.modify i fun e => { e with key:=a.eval k,val:=a.eval x }).toList=es.toList.set i { en' with key:=a.eval k,val:=a.eval x }:=by
            rw [Array.toList_modify]
            apply List.ext_getElem?
            intro j
            rw [List.getElem?_modify,List.getElem?_set]
            by_cases hij:i=j
            · subst hij
              rw [h5]
              have hlt:=(List.getElem?_eq_some_iff.1 h5).1
              rw [Yec] at hlt
              simp [hlt]
            · simp [hij]
          obtain ⟨n1,n2⟩:=k1.updObj he' ha hrw hl (cells:=[.mp (ks.set i vk) (vs.set i (Zd6 (S3 vx) ys))]) m1 (fun c' hc' hw=>.inr ⟨_,_,_,_,rfl,Zh9 hfk q1,Zh9 hfy q2,by rw [hw];exact m2,
            by rw [hmod,List.map_set];exact Zwq (V8 (k2.trans hc') _ _ hkv) (VRL_le (k2.trans hc') _ _ hks),by rw [hmod,List.map_set];exact Zwq (V8 hc' _ _ hval) (VRL_le (k2.trans hc') _ _ hvs)⟩)
          refine Zdv (w' := { w with heap:=w.heap.setIfInBounds b (.map (es.modify i fun e => { e with key:=a.eval k,val:=a.eval x }) cl) }) ?_ (by rw [C4];exact n1) (by rw [C4];exact k2.trans n2)
          rcases ho with ho|ho<;>simp [execOp,ho,Instr.mapUpdate,hy,getObj,setObj,Sem.run,hh,run_underlying ht,O7 hd hkd,g4,hkeep]
    · exact A9 h3
theorem Z9x (h:Rel E w0 O0 σ0 L0 σ L w) {t t' kt e:TypeId} {c:Call} {m k:Operand} {str:Bool} (hc1:c.callee=.builtin .delete) (hc2:c.args = #[m,k]) (hc3:c.argTypes = #[t,t']) (ho:o.op=.call c) (ht:P.underlying t=some (.map kt e)) (hk:Zc7 P kt=some str) {vm vk:AV}
    (hm:VR (ctx σ L w) vm (a.eval m)) (hkv:VR (ctx σ L w) vk (a.eval k)) {r:AV × Ups} (hr:(Zor str vk vm).run σ=some r):J7 E w0 O0 σ0 L0 P σ L w o a r.1 r.2:=by
  obtain ⟨d,hd,hkd⟩:=Zdb hk
  cases vm<;>try exact A9 hr
  case nilm =>
    have kk:=A7 hr
    subst kk
    simp only [VR] at hm
    refine B0 h (y:=.tuple #[]) ?_ (by simp [VR,VRL])
    simp [execOp,ho,resolve,hc1,hc2,hc3,invoke,builtin,Builtin.delete_,hm,run_underlying ht,O7 hd hkd]
  case mpr s g =>
    obtain ⟨en,he,ha,hg,h1⟩:=H8 hr
    unfold Zwb at h1
    split at h1
    · rename_i ks vs hc
      obtain ⟨hrw,h1⟩:=G0 h1
      obtain ⟨b,hl,hy⟩:=Zk7 hm he ha hg
      obtain ⟨es,cl,hh,q1,q2,hks,hvs⟩:=Zhi h.store he ha hl hc
      cases hf:U5 str vk ks 0 with
      | none=>rw [hf] at h1;exact A9 h1
      | some fr =>
        rw [hf] at h1
        obtain ⟨g2,g3⟩:=Zh8 hkd hkv hks hf
        cases fr with
        | none =>
          simp only [Zjd] at h1
          have kk:=A7 h1
          subst kk
          have g4:=S9 (w:=w) hd g2
          simp only [Yet] at g4
          have hE:G3 σ s { en with cells:=[.mp ks vs] } = σ:=by rw [←hc];exact Zdy he
          obtain ⟨m1,m2⟩:=Zaj hh (by simp) (.map es cl)
          obtain ⟨n1,n2⟩:=h.updObj he ha hrw hl (cells:=[.mp ks vs]) m1 (fun c' hc' hw=>.inr ⟨_,_,_,_,rfl,q1,q2,by rw [hw];exact m2,VRL_le hc' _ _ hks,VRL_le hc' _ _ hvs⟩)
          rw [hE] at n1 n2
          refine K2 (u:=[]) (w' := { w with heap:=w.heap.setIfInBounds b (.map es cl) }) (y:=.tuple #[]) ?_ n1 n2 (by simp [VR,VRL])
          simp [execOp,ho,resolve,hc1,hc2,hc3,invoke,builtin,Builtin.delete_,hy,getObj,setObj,Sem.run,hh,run_underlying ht,O7 hd hkd,g4]
        | some i =>
          obtain ⟨_,en',h5,h6⟩:=g3 i rfl
          simp only [Yeu] at h5
          simp only [Zjd] at h1
          have kk:=A7 h1
          subst kk
          have g4:=S9 (w:=w) hd g2
          simp only [Ydq,Yeu,h5,Ydy] at g4
          obtain ⟨m1,m2⟩:=Zaj hh (by simp) (.map (es.eraseIdxIfInBounds i) cl)
          have her:(es.eraseIdxIfInBounds i).toList=es.toList.eraseIdx i:=by simp
          have hmm:∀ (f:MapEntry→Value) (l:List MapEntry),(l.eraseIdx i).map f=(l.map f).eraseIdx i:=by
            intro f l
            exact Zjs f l i
          obtain ⟨n1,n2⟩:=h.updObj he ha hrw hl (cells:=[.mp (ks.eraseIdx i) (vs.eraseIdx i)]) m1 (fun c' hc' hw=>.inr ⟨_,_,_,_,rfl,Ze4 q1,Ze4 q2,by rw [hw];exact m2,
            by rw [her,hmm];exact Zjr (VRL_le hc' _ _ hks),by rw [her,hmm];exact Zjr (VRL_le hc' _ _ hvs)⟩)
          refine K2 (u:=[(s,{ en with cells:=[.mp (ks.eraseIdx i) (vs.eraseIdx i)] })]) (w' := { w with heap:=w.heap.setIfInBounds b (.map (es.eraseIdxIfInBounds i) cl) }) (y:=.tuple #[]) ?_ n1 n2 (by simp [VR,VRL])
          simp [execOp,ho,resolve,hc1,hc2,hc3,invoke,builtin,Builtin.delete_,hy,getObj,setObj,Sem.run,hh,run_underlying ht,O7 hd hkd,g4]
    · exact A9 h1
end Cod

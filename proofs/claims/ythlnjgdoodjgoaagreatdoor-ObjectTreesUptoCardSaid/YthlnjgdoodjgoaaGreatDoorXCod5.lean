/- Code. -/
import Derived.LoopN
import Derived.Scope
import Derived.Test.YthlnjgdoodjgoaaGreatDoorXCod4
import Derived.Test.YthlnjgdoodjgoaaGreatDoorXCod1
set_option linter.unusedSimpArgs false
set_option linter.unusedVariables false
open List renaming all_eq_true → Ye3, append_assoc → Yel, contains_eq_mem → Ye8, foldl_cons → Yd7, getElem_idxOf → Ye9, length_cons → Yd9, length_nil → Ye6, map_congr_left → Ye5, map_cons → Yed, mem_append_left → Yez, mem_cons → Ye2, mem_cons_of_mem → Yex, mem_filter → Ye7, mem_range → Ye4, singleton_append → Yfa
open Bool renaming and_eq_true → Yd8, not_eq_true' → Ye0, or_eq_true → Yev
open Option renaming getD_some → Ye1, map_eq_some_iff → Ydz
namespace Cod
open Go
variable {E:Env} {w0:World} {O0:Nat→Prop} {σ0:A3} {L0:Lay} {P:Program} {σ:A3} {L:Lay} {w:World} {o:Oper} {a:Act}
def Zsn (P:Program) (E:Env) (A:Ann) (N:Nat):Prop :=
  ∀ (call:J2),Zee P E call→∀ (id:Nat) (ops:Array Oper) (los los':List LOper) (os':List Oper) (π:List Nat),R6 P A ops ops.toList=some los→Zc8 ops.toList π=some os'→Zc8 los π=some los' →
    Zf2 π ops.size os' los'=true→(∀ o∈ops.toList,∀ d,o.dst=some d→d<N) →
    ∀ (sl:List (Nat × AV)) (w0:World) (O0:Nat→Prop) (σ0:A3) (L0:Lay) (σ:A3) (L:Lay) (w:World) (a:Act) (r:RS) (Q:Exit→Act→World→Prop),L9 E call sl los' ⟨[],σ⟩=some r →
      T9 (J4 E call sl los' ⟨[],σ⟩) (Zjm los' (W0 π os'))=true→Rel E w0 O0 σ0 L0 σ L w→Fr (ctx σ L w) (M2 sl []) N a →
      (∀ a' w' L',Rel E w0 O0 σ0 L0 r.st L' w'→Fr (ctx r.st L' w') (M2 sl r.loc) N a'→Q .normal a' w')→(Code.region id ops true).wp P Q a w
theorem Zx9 {α:Type} {l:List α}:∀ {π:List Nat} {m:List α},Zc8 l π=some m→∀ x∈m,x∈l:=by
  intro π
  induction π with
  | nil=>intro m h x hx;simp only [Zc8,Option.some.injEq] at h;subst h;simp at hx
  | cons i π ih =>
    intro m h x hx
    simp only [Zc8] at h
    split at h
    · rename_i y ys h1 h2
      cases h
      rcases List.mem_cons.1 hx with rfl|hx
      · exact List.mem_of_getElem? h1
      · exact ih h2 x hx
    · cases h
section
variable (E) (w0) (O0) (σ0) (L0) (P)
structure Fit (A:Ann) (N:Nat) (ls:List LRes) (res:AV × A3) (n:Nat) (k:List It) (Q:Exit→Act→World→Prop):Prop where
  nrm:∀ m,m≤n→∀ (st:St) (a:Act) (w:World) (L:Lay),X4 E m ls k st=some res→Rel E w0 O0 σ0 L0 st.st L w→Fx A (ctx st.st L w) st.sl N a→Q .normal a w
  ext:∀ m,m≤n→∀ j k',Q0 j k=some k'→∀ (st:St) (a:Act) (w:World) (L:Lay),X4 E m ls k' st=some res→Rel E w0 O0 σ0 L0 st.st L w→Fx A (ctx st.st L w) st.sl N a→Q (.exit j) a w
  gto:∀ m,m<n→∀ j k',U6 j k=some k'→∀ (st:St) (a:Act) (w:World) (L:Lay),X4 E m ls k' st=some res→Rel E w0 O0 σ0 L0 st.st L w→Fx A (ctx st.st L w) st.sl N a→Q (.goto j) a w
  ret:∀ (st:St) (a:Act) (w:World) (L:Lay),Zbc ls st=some res→Rel E w0 O0 σ0 L0 st.st L w→Fx A (ctx st.st L w) st.sl N a→Q .ret a w
end
theorem Fit.le {A:Ann} {N:Nat} {ls:List LRes} {res:AV × A3} {n m:Nat} {k:List It} {Q:Exit→Act→World→Prop} (h:Fit E w0 O0 σ0 L0 A N ls res n k Q) (hm:m≤n):Fit E w0 O0 σ0 L0 A N ls res m k Q :=
  ⟨fun j hj=>h.nrm j (Nat.le_trans hj hm),fun j hj=>h.ext j (Nat.le_trans hj hm),fun j hj=>h.gto j (Nat.lt_of_lt_of_le hj hm),h.ret⟩
theorem Zpd {c:Code} {Q:Exit→Act→World→Prop}:∀ {n m:Nat} {a:Act} {w:World},n≤m→Code.rounds P c Q n a w→Code.rounds P c Q m a w:=by
  intro n
  induction n with
  | zero=>intro m a w _ h;exact h.elim
  | succ n ih =>
    intro m a w hm h
    obtain ⟨m,rfl⟩:∃ m',m=m'+1:=⟨m-1,by omega⟩
    rw [rounds_succ] at h ⊢
    exact Code.wp_mono (fun e a w q=>by cases e<;>first|exact ih (by omega) q|exact q) h
def Zcd (P:Program) (c:Code) (Q:Exit→Act→World→Prop):Nat→Code→Act→World→Prop
  | 0,_,_,_=>False
  | n+1,x,a,w=>x.wp P (fun e a' w'=>match e with
    | .goto l=>(match findLabel c l with|some rest=>Zcd P c Q n rest a' w'|none=>Q (.goto l) a' w')
    | e=>Q e a' w') a w
theorem Zpe {c:Code} {Q:Exit→Act→World→Prop}:∀ {n m:Nat} {x:Code} {a:Act} {w:World},n≤m→Zcd P c Q n x a w→Zcd P c Q m x a w:=by
  intro n
  induction n with
  | zero=>intro m x a w _ h;exact h.elim
  | succ n ih =>
    intro m x a w hm h
    obtain ⟨m,rfl⟩:∃ m',m=m'+1:=⟨m-1,by omega⟩
    rw [Zcd] at h ⊢
    refine Code.wp_mono (fun e a w q=>?_) h
    cases e<;>try exact q
    rename_i l
    simp only at q ⊢
    cases hf:findLabel c l with
    | none=>rw [hf] at q;exact q
    | some rest=>rw [hf] at q;exact ih (by omega) q
theorem Zso {c:Code} {Q:Exit→Act→World→Prop} {n:Nat} {a:Act} {w:World} (h:Zcd P c Q n c a w):(Code.scope c).wp P Q a w:=by
  intro b k cs
  have key:∀ n x a w,Zcd P c Q n x a w→∃ e a' w',Q e a' w'∧Arrives P (lone (b.at a (.code x::.inScope c::k)) cs w) b k cs e a' w':=by
    intro n
    induction n with
    | zero=>intro x a w h;exact h.elim
    | succ n ih =>
      intro x a w h
      rw [Zcd] at h
      obtain ⟨e,a₁,w₁,hq,harr⟩:=h b (.inScope c::k) cs
      cases e with
      | normal=>exact ⟨.normal,a₁,w₁,hq,Steps.trans harr (.one step_inScope)⟩
      | exit id=>exact ⟨.exit id,a₁,w₁,hq,fun k' hk=>harr k' (by simp [exitTo,hk])⟩
      | goto l =>
        simp only at hq
        cases hf:findLabel c l with
        | none =>
          rw [hf] at hq
          exact ⟨.goto l,a₁,w₁,hq,fun k' hk=>harr k' (by simp [gotoIn,hf,hk])⟩
        | some rest =>
          rw [hf] at hq
          obtain ⟨e₂,a₂,w₂,hq₂,harr₂⟩:=ih rest a₁ w₁ hq
          exact ⟨e₂,a₂,w₂,hq₂,.of_steps (harr _ (by simp [gotoIn,hf])) harr₂⟩
      | ret=>exact ⟨_,a₁,w₁,hq,harr⟩
      | panic ch=>exact ⟨_,a₁,w₁,hq,harr⟩
      | outgrown=>exact ⟨_,a₁,w₁,hq,harr⟩
  obtain ⟨e,a₁,w₁,hq,harr⟩:=key n c a w h
  exact ⟨e,a₁,w₁,hq,.of_steps (.one step_scope) harr⟩
theorem Z3f {A:Ann} {N:Nat}:∀ {c:Code} {lc:LCode} (l:Nat),low P A N c=some lc→(∀ rest,findLabel c l=some rest→∃ lr,N4 lc l=some lr∧low P A N rest=some lr)∧(findLabel c l=none→N4 lc l=none):=by
  intro c
  induction c with
  | seq a b iha ihb =>
    intro lc l h
    simp only [low] at h
    split at h
    · rename_i x y h1 h2
      cases h
      obtain ⟨a1,a2⟩:=iha l h1
      obtain ⟨b1,b2⟩:=ihb l h2
      cases hf:findLabel a l with
      | some r =>
        obtain ⟨lr,k1,k2⟩:=a1 r hf
        refine ⟨fun rest hr=>?_,fun hn=>?_⟩
        · simp only [findLabel,hf,Option.some.injEq] at hr
          subst hr
          exact ⟨.seq lr y,by simp [N4,k1],by simp [low,k2,h2]⟩
        · simp [findLabel,hf] at hn
      | none =>
        have k0:=a2 hf
        refine ⟨fun rest hr=>?_,fun hn=>?_⟩
        · simp only [findLabel,hf] at hr
          obtain ⟨lr,k1,k2⟩:=b1 rest hr
          exact ⟨lr,by simp [N4,k0,k1],k2⟩
        · simp only [findLabel,hf] at hn
          simp [N4,k0,b2 hn]
    · cases h
  | label m =>
    intro lc l h
    simp only [low,Option.some.injEq] at h
    subst h
    by_cases hm:m=l
    · subst hm
      exact ⟨fun rest hr=>by simp [findLabel] at hr;subst hr;exact ⟨.skip,by simp [N4],rfl⟩,fun hn=>by simp [findLabel] at hn⟩
    · exact ⟨fun rest hr=>by simp [findLabel,hm] at hr,fun _=>by simp [N4,hm]⟩
  | skip=>intro lc l h;simp only [low,Option.some.injEq] at h;subst h;exact ⟨fun rest hr=>by simp [findLabel] at hr,fun _=>rfl⟩
  | ret=>intro lc l h;simp only [low,Option.some.injEq] at h;subst h;exact ⟨fun rest hr=>by simp [findLabel] at hr,fun _=>rfl⟩
  | exit n=>intro lc l h;simp only [low,Option.some.injEq] at h;subst h;exact ⟨fun rest hr=>by simp [findLabel] at hr,fun _=>rfl⟩
  | goto n=>intro lc l h;simp only [low,Option.some.injEq] at h;subst h;exact ⟨fun rest hr=>by simp [findLabel] at hr,fun _=>rfl⟩
  | refuse s=>intro lc l h;simp [low] at h
  | rangeFunc f p a b _ _=>intro lc l h;simp [low] at h
  | scope a _ =>
    intro lc l h
    simp only [low,Ydz] at h
    obtain ⟨x,_,rfl⟩:=h
    exact ⟨fun rest hr=>by simp [findLabel] at hr,fun _=>rfl⟩
  | block k a _ =>
    intro lc l h
    simp only [low,Ydz] at h
    obtain ⟨x,_,rfl⟩:=h
    exact ⟨fun rest hr=>by simp [findLabel] at hr,fun _=>rfl⟩
  | loop a _ =>
    intro lc l h
    simp only [low] at h
    split at h
    · simp only [Ydz] at h
      obtain ⟨x,_,rfl⟩:=h
      exact ⟨fun rest hr=>by simp [findLabel] at hr,fun _=>rfl⟩
    · cases h
  | cond c a b _ _ =>
    intro lc l h
    simp only [low] at h
    split at h
    · cases h;exact ⟨fun rest hr=>by simp [findLabel] at hr,fun _=>rfl⟩
    · cases h
  | region id ops draw =>
    intro lc l h
    refine ⟨fun rest hr=>by simp [findLabel] at hr,fun _=>?_⟩
    simp only [low] at h
    split at h
    · split at h
      · cases h
      · split at h
        · split at h
          · split at h
            · cases h;rfl
            · cases h
          · cases h
        · cases h;rfl
    · cases h
theorem Zb2 {n:Nat} {ls:List LRes} {k:List It} {st:St} {res:AV × A3} (h:X4 E n ls k st=some res):∃ m,n=m+1∧(match move E (acall E m) st k with|.go k' st'=>X4 E m ls k' st'|.done=>Zbc ls st|.stuck=>none)=some res:=by
  cases n with
  | zero=>simp [X4] at h
  | succ m=>exact ⟨m,rfl,by rw [X4] at h;exact h⟩
theorem Z91 {A:Ann} {N:Nat} {ls:List LRes} {res:AV × A3} (hdraw:Zsn P E A N):∀ (n:Nat),(∀ m,m<n→Zee P E (acall E m))→∀ (code:Code) (lc:LCode) (k:List It) (st:St) (a:Act) (w:World) (L:Lay) (Q:Exit→Act→World→Prop),
    low P A N code=some lc→X4 E n ls (.c lc::k) st=some res→Rel E w0 O0 σ0 L0 st.st L w→Fx A (ctx st.st L w) st.sl N a→Fit E w0 O0 σ0 L0 A N ls res n k Q→code.wp P Q a w:=by
  intro n
  induction n using Nat.strongRecOn with
  | _ n ih =>
    intro hcall code lc k st a w L Q hl hx h hf hfit
    obtain ⟨m,hm0,hy⟩:=Zb2 hx
    clear hx
    subst hm0
    have hx:=hy
    clear hy
    have hcm:∀ j,j<m→Zee P E (acall E j):=fun j hj=>hcall j (by omega)
    cases code<;>simp only [low] at hl<;>try (cases hl;done)
    case skip =>
      cases hl
      simp only [move] at hx
      exact Go.wp_skip (hfit.nrm m (by omega) st a w L hx h hf)
    case ret =>
      cases hl
      simp only [move] at hx
      exact Go.wp_ret (hfit.ret st a w L hx h hf)
    case exit j =>
      cases hl
      simp only [move] at hx
      cases hk:Q0 j k with
      | none=>rw [hk] at hx;cases hx
      | some k'=>rw [hk] at hx;exact Go.wp_exit (hfit.ext m (by omega) j k' hk st a w L hx h hf)
    case goto j =>
      cases hl
      simp only [move] at hx
      cases hk:U6 j k with
      | none=>rw [hk] at hx;cases hx
      | some k'=>rw [hk] at hx;exact Go.wp_goto (hfit.gto m (by omega) j k' hk st a w L hx h hf)
    case label j =>
      cases hl
      simp only [move] at hx
      exact Go.wp_label (hfit.nrm m (by omega) st a w L hx h hf)
    case scope x =>
      simp only [Ydz] at hl
      obtain ⟨lx,h1,rfl⟩:=hl
      simp only [move] at hx
      have inner:∀ i,i≤m→∀ (y:Code) (ly:LCode),low P A N y=some ly→∀ (st:St) (a:Act) (w:World) (L:Lay),X4 E i ls (.c ly::.scp lx::k) st=some res→Rel E w0 O0 σ0 L0 st.st L w→Fx A (ctx st.st L w) st.sl N a →
          Zcd P x Q (i+1) y a w:=by
        intro i
        induction i using Nat.strongRecOn with
        | _ i ihi =>
          intro hi y ly hy st a w L hx h hf
          rw [Zcd]
          refine ih i (by omega) (fun j hj=>hcall j (by omega)) y ly _ st a w L _ hy hx h hf ⟨?_,?_,?_,?_⟩
          · intro j hj st' a' w' L' hx' h' hf'
            obtain ⟨j',hm1,hyy⟩:=Zb2 hx'
            clear hx'
            subst hm1
            have hx':=hyy
            clear hyy
            simp only [move] at hx'
            exact hfit.nrm j' (by omega) st' a' w' L' hx' h' hf'
          · intro j hj j' k' hk st' a' w' L' hx' h' hf'
            exact hfit.ext j (by omega) j' k' hk st' a' w' L' hx' h' hf'
          · intro j hj j' k' hk st' a' w' L' hx' h' hf'
            obtain ⟨f1,f2⟩:=Z3f j' h1
            simp only [U6] at hk
            simp only
            cases hfl:findLabel x j' with
            | none =>
              rw [f2 hfl] at hk
              exact hfit.gto j (by omega) j' k' hk st' a' w' L' hx' h' hf'
            | some rest =>
              obtain ⟨lr,k1,k2⟩:=f1 rest hfl
              rw [k1] at hk
              cases hk
              exact Zpe (by omega) (ihi j hj (by omega) rest lr k2 st' a' w' L' hx' h' hf')
          · intro st' a' w' L' hx' h' hf'
            exact hfit.ret st' a' w' L' hx' h' hf'
      exact Zso (inner m (Nat.le_refl _) x lx h1 st a w L hx h hf)
    case seq x y =>
      split at hl
      · rename_i lx ly h1 h2
        cases hl
        simp only [move] at hx
        refine Go.wp_seq (ih m (by omega) hcm x lx (.c ly::k) st a w L _ h1 hx h hf ⟨?_,?_,?_,?_⟩)
        · intro j hj st' a' w' L' hx' h' hf'
          exact ih j (by omega) (fun i hi=>hcall i (by omega)) y ly k st' a' w' L' Q h2 hx' h' hf' (hfit.le (by omega))
        · intro j hj i k' hk st' a' w' L' hx' h' hf'
          exact hfit.ext j (by omega) i k' hk st' a' w' L' hx' h' hf'
        · intro j hj i k' hk st' a' w' L' hx' h' hf'
          exact hfit.gto j (by omega) i k' hk st' a' w' L' hx' h' hf'
        · intro st' a' w' L' hx' h' hf'
          exact hfit.ret st' a' w' L' hx' h' hf'
      · cases hl
    case cond c x y =>
      split at hl
      · rename_i lc' lx ly h0 h1 h2
        cases hl
        simp only [move] at hx
        cases hv:ev E st.sl lc'<;>rw [hv] at hx<;>try (cases hx;done)
        rename_i t
        have hfr:Fr (ctx st.st L w) (M2 st.sl []) N a:=⟨hf.fr.slots,hf.fr.defers,hf.fr.size⟩
        have hc:=Zwl (E:=E) hfr (fun n=>(h.glob n).1) h0
        have hev:evR E st.sl [] lc'=ev E st.sl lc':=by cases lc'<;>rfl
        rw [hev,hv] at hc
        simp only [VR] at hc
        refine Go.wp_cond hc ?_
        cases t with
        | true=>simp only [cond_true,if_true] at hx ⊢;exact ih m (by omega) hcm x lx k st a w L Q h1 hx h hf (hfit.le (by omega))
        | false=>simp only [cond_false,Bool.false_eq_true,if_false] at hx ⊢;exact ih m (by omega) hcm y ly k st a w L Q h2 hx h hf (hfit.le (by omega))
      · cases hl
    case block j x =>
      simp only [Ydz] at hl
      obtain ⟨lx,h1,rfl⟩:=hl
      simp only [move] at hx
      refine Go.wp_block (ih m (by omega) hcm x lx (.blk j::k) st a w L _ h1 hx h hf ⟨?_,?_,?_,?_⟩)
      · intro i hi st' a' w' L' hx' h' hf'
        obtain ⟨i',hm1,hy⟩:=Zb2 hx'
        clear hx'
        subst hm1
        have hx':=hy
        clear hy
        simp only [move] at hx'
        exact hfit.nrm i' (by omega) st' a' w' L' hx' h' hf'
      · intro i hi j' k' hk st' a' w' L' hx' h' hf'
        simp only [Q0] at hk
        simp only [Exit.inBlock]
        by_cases hj:j=j'
        · subst hj
          rw [if_pos rfl] at hk ⊢
          cases hk
          exact hfit.nrm i (by omega) st' a' w' L' hx' h' hf'
        · rw [if_neg hj] at hk
          rw [if_neg (Ne.symm hj)]
          exact hfit.ext i (by omega) j' k' hk st' a' w' L' hx' h' hf'
      · intro i hi j' k' hk st' a' w' L' hx' h' hf'
        exact hfit.gto i (by omega) j' k' hk st' a' w' L' hx' h' hf'
      · intro st' a' w' L' hx' h' hf'
        exact hfit.ret st' a' w' L' hx' h' hf'
    case loop x =>
      split at hl
      · rename_i hlive
        simp only [Ydz] at hl
        obtain ⟨lx,h1,rfl⟩:=hl
        simp only [move] at hx
        have hlive':∀ t∈tab A.live (X5 x),t∈A.cross:=by
          simpa [Ye3] using hlive
        have inner:∀ i,i≤m→∀ (st:St) (a:Act) (w:World) (L:Lay),X4 E i ls (.c lx::.lp (tab A.live (X5 x)) lx::k) st=some res→Rel E w0 O0 σ0 L0 st.st L w→Fx A (ctx st.st L w) st.sl N a →
            Code.rounds P x Q (i+1) a w:=by
          intro i
          induction i using Nat.strongRecOn with
          | _ i ihi =>
            intro hi st a w L hx h hf
            rw [rounds_succ]
            refine ih i (by omega) (fun j hj=>hcall j (by omega)) x lx _ st a w L _ h1 hx h hf ⟨?_,?_,?_,?_⟩
            · intro j hj st' a' w' L' hx' h' hf'
              obtain ⟨j',hm1,hy⟩:=Zb2 hx'
              clear hx'
              subst hm1
              have hx':=hy
              clear hy
              simp only [move] at hx'
              obtain ⟨L2,h2,hf2⟩:=Zwu hlive' h' hf'
              exact Zpd (by omega) (ihi j' (by omega) (by omega) _ a' w' L2 hx' h2 hf2)
            · intro j hj j' k' hk st' a' w' L' hx' h' hf'
              exact hfit.ext j (by omega) j' k' hk st' a' w' L' hx' h' hf'
            · intro j hj j' k' hk st' a' w' L' hx' h' hf'
              exact hfit.gto j (by omega) j' k' hk st' a' w' L' hx' h' hf'
            · intro st' a' w' L' hx' h' hf'
              exact hfit.ret st' a' w' L' hx' h' hf'
        obtain ⟨L2,h2,hf2⟩:=Zwu hlive' h hf
        exact wp_loop_rounds (m+1) (inner m (Nat.le_refl _) _ a w L2 hx h2 hf2)
      · cases hl
    case region id ops draw =>
      split at hl
      · rename_i los h1
        split at hl
        · cases hl
        · rename_i hk
          simp only [Ye0,Bool.not_eq_false] at hk
          have hk':Zhz A N ops.toList (tab A.keep id)=true:=by simpa using hk
          have hd:∀ o∈ops.toList,∀ d,o.dst=some d→d<N:=by
            intro o ho d hod
            simp only [Zhz,Yd8,Ye3] at hk'
            have:=hk'.1 o ho
            rw [hod] at this
            simp only [Yd8,decide_eq_true_eq] at this
            exact this.1
          have hfr:Fr (ctx st.st L w) (M2 st.sl []) N a:=⟨hf.fr.slots,hf.fr.defers,hf.fr.size⟩
          have hdom:∀ {l:List LOper} {r:RS},(∀ x∈l,x∈los)→L9 E (acall E m) st.sl l ⟨[],st.st⟩=some r→∀ t∈dom r.loc,∃ o∈ops.toList,o.dst=some t:=by
            intro l r hlm hr t ht
            rcases Z3d hr ht with ⟨lo,h2,h3⟩|h2
            · obtain ⟨o,ho,hod⟩:=Zlc h1 lo (hlm lo h2)
              exact ⟨o,ho,hod.symm.trans h3⟩
            · simp [dom] at h2
          split at hl
          · rename_i hdr
            split at hl
            · rename_i os ls hp1 hp2
              split at hl
              · rename_i hdok
                cases hl
                simp only [move] at hx
                cases hr:L9 E (acall E m) st.sl ls ⟨[],st.st⟩ with
                | none=>rw [hr] at hx;cases hx
                | some r =>
                  rw [hr] at hx
                  simp only at hx
                  by_cases hcalm:T9 (J4 E (acall E m) st.sl ls ⟨[],st.st⟩) (Zjm ls (W0 (Zo2 A id ops.size) os))=true
                  · rw [if_pos hcalm] at hx
                    subst hdr
                    refine hdraw (acall E m) (hcall m (by omega)) id ops los ls os _ h1 hp1 hp2 hdok hd st.sl w0 O0 σ0 L0 st.st L w a r Q hr hcalm h hfr (fun a' w' L' k1 k2=>?_)
                    exact hfit.nrm m (by omega) ⟨Y8 r.loc st.sl (tab A.keep id) st.sl,r.st⟩ a' w' L' hx k1 (Fx.region hf.cross k2 hk' (hdom (Zx9 hp2) hr))
                  · rw [if_neg hcalm] at hx;cases hx
              · cases hl
            · cases hl
          · rename_i hdr
            cases hl
            simp only [move] at hx
            have hdr':draw=false:=by simpa using hdr
            subst hdr'
            cases hr:L9 E (acall E m) st.sl los ⟨[],st.st⟩ with
            | none=>rw [hr] at hx;cases hx
            | some r =>
              rw [hr] at hx
              refine wp_region ?_
              rw [List.range_eq_range',show ops.size=ops.toList.length from rfl]
              exact Zx7 (hcall m (by omega)) hd (k:=0) (by simp) h1 h hfr hr (fun a' w' L' k1 k2 k3 =>
                hfit.nrm m (by omega) ⟨Y8 r.loc st.sl (tab A.keep id) st.sl,r.st⟩ a' w' L' hx k1 (Fx.region hf.cross k3 hk' (hdom (fun _ h=>h) hr)))
      · cases hl
end Cod
namespace Cod
open Go
variable {E:Env} {w0:World} {O0:Nat→Prop} {σ0:A3} {L0:Lay} {P:Program} {σ:A3} {L:Lay} {w:World} {o:Oper} {a:Act}
def Zce (P:Program) (E:Env):Prop :=
  ∀ (f:Nat) (h:List AV→A3→Option (AV × A3)),E.known f=some h→∀ (args:List AV) (σa:A3) (v:AV) (σr:A3),h args σa=some (v,σr)→∀ (La:Lay) (w:World) (vs:List Value),Rel E w (G7 σa La) σa La σa La w→VRL (ctx σa La w) args vs →
    (∀ s e,A6 σa s=some e→∃ x,s=.up x)→Zhc P f vs.toArray w (fun y w'=>∃ La',Rel E w (G7 σa La) σa La σr La' w'∧VR (ctx σr La' w') v y)
def Zgy (P:Program) (E:Env):Prop :=
  ∀ (f:Nat) (l:LFn),E.fn f=some l→∃ (A:Ann) (fn:Func),P.funcs[f]? = some fn∧Z2o P A fn=some l∧(fn.name == "runtime.NumGoroutine")=false∧Zsn P E A fn.ntmps
theorem Zpf:∀ {args:List AV} {i t:Nat},Q5 (params i args) t=if t<i then .junk else (args[t-i]?).getD .junk:=by
  intro args
  induction args with
  | nil=>intro i t;simp [params,Q5]
  | cons x args ih =>
    intro i t
    simp only [params,Q5,ih]
    by_cases h1:i=t
    · subst h1;simp
    · by_cases h2:t<i
      · rw [if_neg h1,if_pos (by omega),if_pos h2]
      · rw [if_neg h1,if_neg (by omega),if_neg h2]
        obtain ⟨k,hk⟩:∃ k,t-i=k+1:=⟨t-i-1,by omega⟩
        rw [hk,show t-(i+1)=k by omega]
        simp
theorem Zsp:∀ {args:List AV} {i t:Nat},t∈dom (params i args)→i≤t∧t<i+args.length:=by
  intro args
  induction args with
  | nil=>intro i t h;simp [params,dom] at h
  | cons x args ih =>
    intro i t h
    simp only [params,dom,Yed,Ye2] at h
    rcases h with h|h
    · subst h;simp
    · obtain ⟨h1,h2⟩:=ih h
      simp only [Yd9]
      omega
theorem W7 {f:Nat} {fn:Func} {c:Code} (hf:P.funcs[f]? = some fn) (hb:fn.body=some c) (hn:(fn.name == "runtime.NumGoroutine")=false) {args:Array Value} {R:Value→World→Prop}
    (h:Calls P f args w (fun e w'=>∃ y,e=.returned y∧R y w')):Zhc P f args w R:=by
  intro o a next Q hn'
  have hrun:(callFunc f args).run P w=.ok (.enter f args) w:=by
    have hn2:¬ (fn.name = "runtime.NumGoroutine"):=by simpa using hn
    simp [callFunc,run_program,hf,hn2,hb]
  rw [hrun]
  show Calls P f args w _
  refine Calls.mono h fun e w' hR=>?_
  obtain ⟨y,rfl,hR⟩:=hR
  exact hn' y w' hR
theorem Z3g (hk:Zce P E) (hfn:Zgy P E):∀ n,Zee P E (acall E n):=by
  intro n
  induction n using Nat.strongRecOn with
  | _ n ih =>
    intro f args σa v σr hc La w vs h hv hup
    cases n with
    | zero=>simp [acall] at hc
    | succ n =>
      rw [acall] at hc
      cases hkn:E.known f with
      | some g =>
        rw [hkn] at hc
        exact hk f g hkn args σa v σr hc La w vs h hv hup
      | none =>
        rw [hkn] at hc
        simp only at hc
        cases hl:E.fn f with
        | none=>rw [hl] at hc;cases hc
        | some l =>
          rw [hl] at hc
          simp only at hc
          obtain ⟨A,fn,hf,hlow,hname,hdraw⟩:=hfn f l hl
          cases hnp:(args.length==l.np) with
          | false=>rw [hnp] at hc;cases hc
          | true =>
            rw [hnp] at hc
            simp only [cond_true] at hc
            simp only [beq_iff_eq] at hnp
            unfold Z2o at hlow
            split at hlow
            · rename_i c hb
              split at hlow
              · rename_i hchk
                simp only [Yd8,decide_eq_true_eq,Ye3,Ye4] at hchk
                split at hlow
                · rename_i lc lr hlc hlr
                  cases hlow
                  simp only at hc hnp
                  refine W7 hf hb hname (calls_of_wp hf hb ?_)
                  have hvl:=G4 hv
                  have hfin:∀ (st:St) (a:Act) (w':World) (L:Lay),Zbc lr st=some (v,σr)→Rel E w (G7 σa La) σa La st.st L w'→Fx A (ctx st.st L w') st.sl fn.ntmps a →
                      a.defers=[]∧∃ y,(results fn a.tmps).run P w'=.ok y w'∧∃ y',Ending.returned y=.returned y'∧∃ La',Rel E w (G7 σa La) σa La σr La' w'∧VR (ctx σr La' w') v y':=by
                    intro st a w' L hfi hr hx
                    obtain ⟨y,L',k1,k2,k3⟩:=Zx8 (P:=P) hr hx hlr hfi
                    exact ⟨hx.fr.defers,y,k1,y,rfl,L',k2,k3⟩
                  refine Z91 (w0:=w) (O0:=G7 σa La) (σ0 := σa) (L0:=La) (ls:=lr) (res:=(v,σr)) hdraw n (fun m hm=>ih m (by omega)) c lc [] ⟨params 0 args,σa⟩ _ w La _ hlc hc h ?_ ⟨?_,?_,?_,?_⟩
                  · refine ⟨⟨fun t=>?_,rfl,?_⟩,fun t ht=>?_⟩
                    · show VR _ (Q5 (params 0 args) t) _
                      rw [Zpf]
                      simp only [Nat.not_lt_zero,if_false,Nat.sub_zero]
                      cases ha:args[t]? with
                      | none=>simp [VR]
                      | some x =>
                        obtain ⟨y,h1,h2⟩:=Zav hv ha
                        have hlt:=(List.getElem?_eq_some_iff.1 h1).1
                        simp only [Ye1]
                        rw [Array.getD_eq_getD_getElem?,Array.getElem?_append_left (by simpa using hlt)]
                        rw [show vs.toArray[t]? = some y by simpa using h1]
                        exact h2
                    · simp only [Array.size_append,List.size_toArray,Array.size_replicate]
                      omega
                    · have:=Zsp ht
                      have h2:=hchk.1 t (by omega)
                      simpa using h2
                  · intro m hm st a w' L hx hr hxx
                    obtain ⟨m',hm',hy⟩:=Zb2 hx
                    exact hfin st a w' L hy hr hxx
                  · intro m hm j k' hk' st a w' L hx
                    simp [Q0] at hk'
                  · intro m hm j k' hk' st a w' L hx
                    simp [U6] at hk'
                  · intro st a w' L hx hr hxx
                    exact hfin st a w' L hx hr hxx
                · cases hlow
              · cases hlow
            · cases hlow
end Cod
namespace Cod
open Go
variable {E:Env}
theorem Zf8 {α:Type}:∀ (x:Acc α) {σ σ':A3},(∀ s∈x.reads σ,A6 σ' s=A6 σ s)→x.run σ'=x.run σ∧x.reads σ'=x.reads σ
  | .ret _,_,_,_=>⟨rfl,rfl⟩
  | .fail,_,_,_=>⟨rfl,rfl⟩
  | .get s k,σ,σ',h=>by
    have h1:A6 σ' s=A6 σ s:=h s (by simp [Acc.reads])
    have h2:=Zf8 (k (A6 σ s)) (σ := σ) (σ' := σ') (fun t ht=>h t (by simp [Acc.reads,ht]))
    simp only [Acc.run,Acc.reads,h1]
    exact ⟨h2.1,by rw [h2.2]⟩
theorem Zgz {ρ ρ':LO→AV}:∀ {ps:List (Nat × Nat × LO)} {r:Option (List AV)},(∀ x∈ps.map (·.2.2),ρ x = ρ' x)→X3 ρ ps r=X3 ρ' ps r:=by
  intro ps
  induction ps with
  | nil=>intro r _;rfl
  | cons p ps ih =>
    intro r h
    obtain ⟨o,n,x⟩:=p
    cases r with
    | none=>rfl
    | some cells =>
      simp only [X3]
      rw [h x (by simp)]
      exact ih fun y hy=>h y (by simp [hy])
theorem Zsq {call:J2} {d:Nat} {ρ ρ':LO→AV} (op:LOp) (h:∀ x∈Zwk op,ρ x = ρ' x):step call ρ d op=step call ρ' d op:=by
  cases op<;>simp only [Zwk] at h<;>simp only [step]
  case build z ps=>rw [Zgz h]
  case bslice z n c ps=>rw [Zgz h]
  case mkfn f xs=>rw [Ye5 h]
  case call f xs t=>rw [h f (by simp),Ye5 (fun x hx=>h x (by simp [hx]))]
  case sl sz arr x lo hi =>
    rw [h x (by simp)]
    congr 1
    · cases lo with|none=>rfl|some l=>simp [h l (by simp)]
    · cases hi with|none=>rfl|some l=>simp [h l (by simp)]
  case sls x lo hi =>
    rw [h x (by simp)]
    congr 1
    · cases lo with|none=>rfl|some l=>simp [h l (by simp)]
    · cases hi with|none=>rfl|some l=>simp [h l (by simp)]
  all_goals (try simp_all)
end Cod
namespace Cod
open Go
variable {E:Env}
def Lt:Acc (AV × Ups)→Prop
  | .ret r=>r.2=[]
  | .fail=>True
  | .get _ k=>∀ e,Lt (k e)
def Pu {α:Type}:Acc α→Prop
  | .get _ _=>False
  | _=>True
theorem Lt.run:∀ {x:Acc (AV × Ups)},Lt x→∀ {σ:A3} {r:AV × Ups},x.run σ=some r→r.2=[]
  | .ret r,h,σ,r',hr=>by have k:=A7 hr;subst k;exact h
  | .fail,_,σ,r',hr=>A9 hr
  | .get s k,h,σ,r',hr=>Lt.run (h (A6 σ s)) hr
theorem Pu.reads {α:Type}:∀ {x:Acc α},Pu x→∀ {σ:A3},x.reads σ=[]
  | .ret _,_,_=>rfl
  | .fail,_,_=>rfl
  | .get _ _,h,_=>h.elim
theorem Lt.one {x:AV}:Lt (one x):=rfl
theorem Lt.ite {c:Prop} [Decidable c] {x y:Acc (AV × Ups)} (hx:Lt x) (hy:Lt y):Lt (if c then x else y):=by split<;>assumption
theorem Lt.optV {x:Option AV}:Lt (optV x):=by cases x<;>first|trivial|rfl
theorem Lt.bind {α:Type}:∀ {x:Acc α} {f : α→Acc (AV × Ups)},(∀ a,Lt (f a))→Lt (x.bind f)
  | .ret a,f,h=>h a
  | .fail,_,_=>trivial
  | .get s k,f,h=>fun e=>Lt.bind (x:=k e) h
theorem Lt.still1 {s:Site} {g:Nat} {x:AV}:Lt (still1 s g x):=Lt.bind fun _=>rfl
theorem Lt.aggV {cs:List AV} {o n:Nat}:Lt (aggV cs o n):=Lt.ite rfl trivial
theorem Pu.ite {α:Type} {c:Prop} [Decidable c] {x y:Acc α} (hx:Pu x) (hy:Pu y):Pu (if c then x else y):=by split<;>assumption
theorem Pu.optV {x:Option AV}:Pu (optV x):=by cases x<;>trivial
theorem Pu.aggV {cs:List AV} {o n:Nat}:Pu (aggV cs o n):=Pu.ite trivial trivial
theorem Zwv {c:Prop} [Decidable c] {r:AV × Ups} (h:r.2=[]):Pu (if c then Acc.ret r else .fail)∧Lt (if c then Acc.ret r else .fail):=⟨Pu.ite trivial trivial,Lt.ite h trivial⟩
theorem Zww {call:J2} {ρ:LO→AV} {d:Nat} {op:LOp} (h:L1 op=0):Pu (step call ρ d op)∧Lt (step call ρ d op):=by
  cases op<;>(try (simp [L1] at h;done))<;>simp only [step]
  case mv x=>exact ⟨trivial,rfl⟩
  case pick c a b=>cases ρ c<;>first|exact ⟨trivial,trivial⟩|exact ⟨trivial,rfl⟩
  case build z ps=>cases X3 ρ ps (some z)<;>first|exact ⟨trivial,trivial⟩|exact ⟨trivial,rfl⟩
  case bin op x y=>exact ⟨Pu.optV,Lt.optV⟩
  case eqb n x y=>exact ⟨Pu.optV,Lt.optV⟩
  case eqa n x y z=>cases ρ y<;>cases ρ z<;>first|exact ⟨trivial,trivial⟩|exact ⟨Pu.optV,Lt.optV⟩
  case un op x=>exact ⟨Pu.optV,Lt.optV⟩
  case cvi k x=>cases ρ x<;>first|exact ⟨trivial,trivial⟩|exact ⟨trivial,rfl⟩
  case r2s x=>cases ρ x<;>first|exact ⟨trivial,trivial⟩|exact ⟨trivial,rfl⟩
  case s2s x=>cases ρ x<;>first|exact ⟨trivial,trivial⟩|exact ⟨trivial,rfl⟩
  case mkif t x =>
    cases ρ x<;>simp only [Zi9,one]<;>exact Zwv rfl
  case mkfn f xs=>exact ⟨trivial,rfl⟩
  case fld x o n=>cases n<;>cases ρ x<;>first|exact ⟨trivial,trivial⟩|exact ⟨Pu.optV,Lt.optV⟩|exact ⟨Pu.aggV,Lt.aggV⟩
  case ix sz arr agg x i =>
    cases arr with
    | none =>
      cases ρ x<;>cases ρ i<;>first|exact ⟨trivial,trivial⟩|skip
      rename_i t k j
      simp only [ixV]
      split
      · cases t[j.toNat]? <;> first|exact ⟨trivial,trivial⟩|exact ⟨trivial,rfl⟩
      · exact ⟨trivial,trivial⟩
    | some n =>
      cases ρ x<;>cases ρ i<;>first|exact ⟨trivial,trivial⟩|skip
      simp only [ixV]
      split
      · cases agg
        · exact ⟨Pu.optV,Lt.optV⟩
        · exact ⟨trivial,rfl⟩
      · exact ⟨trivial,trivial⟩
  case sls x lo hi =>
    generalize loV (lo.map ρ)=l
    generalize hiV (Zba none (ρ x)) (hi.map ρ)=h
    cases ρ x<;>first|exact ⟨trivial,trivial⟩|skip
    cases l<;>first|exact ⟨trivial,trivial⟩|skip
    cases h<;>first|exact ⟨trivial,trivial⟩|exact Zwv rfl
  case ext x i=>cases ρ x<;>first|exact ⟨trivial,trivial⟩|exact ⟨Pu.optV,Lt.optV⟩
  case lens x=>cases ρ x<;>first|exact ⟨trivial,trivial⟩|exact ⟨trivial,rfl⟩
  case min x y=>cases ρ x<;>cases ρ y<;>first|exact ⟨trivial,trivial⟩|exact Zwv rfl
  case max x y=>cases ρ x<;>cases ρ y<;>first|exact ⟨trivial,trivial⟩|exact Zwv rfl
  case cap x=>cases ρ x<;>first|exact ⟨trivial,trivial⟩|exact ⟨trivial,rfl⟩
  case stop=>exact ⟨trivial,trivial⟩
theorem Zpg {c:Prop} [Decidable c] {r:AV × Ups} (h:r.2=[]):Lt (if c then Acc.ret r else .fail):=Lt.ite h trivial
theorem Zsr {c:Prop} [Decidable c] {s:Site} {g:Nat} {x:AV}:Lt (if c then still1 s g x else .fail):=Lt.ite Lt.still1 trivial
theorem Z3h {x:AV}:Lt (Zr2 x):=by
  cases x<;>first|trivial|(refine Lt.bind fun p=>?_;cases bytesOf p.1<;>first|trivial|rfl)
theorem Z3i {call:J2} {ρ:LO→AV} {d:Nat} {op:LOp} (h:L1 op=1):Lt (step call ρ d op):=by
  cases op<;>(try (simp [L1] at h;done))<;>simp only [step]
  case ld n x =>
    cases ρ x<;>cases n<;>first|trivial|exact Lt.optV|exact Lt.aggV|exact Lt.bind fun _=>Lt.optV|exact Lt.bind fun _=>Lt.aggV
  case nilck x=>cases ρ x<;>first|trivial|rfl|exact Lt.still1
  case eqn kd neg x y =>
    refine Lt.bind fun p=>Lt.bind fun q=>?_
    unfold eqnB
    cases (p||q)<;>first|trivial|rfl
  case b2s x=>exact Z3h
  case b2b x=>cases ρ x<;>first|trivial|exact Lt.bind fun _=>Zpg rfl
  case sl sz arr x lo hi =>
    generalize loV (lo.map ρ)=l
    generalize hiV (Zba arr (ρ x)) (hi.map ρ)=h
    generalize ρ x=v
    cases l<;>first|trivial|skip
    cases h<;>first|trivial|skip
    rename_i k i k' j
    simp only [slV]
    refine Lt.ite ?_ trivial
    cases arr<;>cases v<;>first|trivial|rfl|exact Lt.bind fun _=>Zpg rfl|exact Zpg rfl|exact Zsr
  case fa x o=>cases ρ x<;>first|trivial|rfl|exact Lt.still1
  case ia sz arr x i =>
    cases arr<;>cases ρ x<;>cases ρ i<;>first|trivial|exact Zpg rfl|exact Zsr
  case s2a n sz x=>cases ρ x<;>first|trivial|exact Zpg rfl|exact Zsr
  case len arr x=>cases arr<;>cases ρ x<;>first|trivial|rfl|exact Lt.still1
end Cod
namespace Cod
open Go
theorem Zld {π:List Nat}:∀ {os:List Oper} {acc:List Nat},∃ r,Zev π os acc=acc++r:=by
  intro os
  induction os with
  | nil=>intro acc;exact ⟨[],by simp [Zev]⟩
  | cons o os ih =>
    intro acc
    obtain ⟨r,h⟩:=ih (acc:=acc++[Zc9 π acc o])
    exact ⟨Zc9 π acc o::r,by rw [Zev,h];simp⟩
theorem Zya {π:List Nat}:∀ {os:List Oper} {acc:List Nat} {k:Nat} {o:Oper},os[k]? = some o→∃ acc',acc'.length=acc.length+k∧(∀ i,i<acc'.length→acc'[i]? = (Zev π os acc)[i]?)∧(Zev π os acc)[acc.length+k]? = some (Zc9 π acc' o):=by
  intro os
  induction os with
  | nil=>intro acc k o h;simp at h
  | cons x os ih =>
    intro acc k o h
    simp only [Zev]
    cases k with
    | zero =>
      simp only [List.getElem?_cons_zero,Option.some.injEq] at h
      subst h
      obtain ⟨r,hr⟩:=Zld (os:=os) (acc:=acc++[Zc9 π acc x])
      refine ⟨acc,by simp,fun i hi=>?_,?_⟩
      · rw [hr,Yel,List.getElem?_append_left hi]
      · rw [hr];simp
    | succ k =>
      obtain ⟨acc',h1,h2,h3⟩:=ih (acc:=acc++[Zc9 π acc x]) (k:=k) (o:=o) (by simpa using h)
      simp only [List.length_append,Yd9,Ye6] at h1 h3
      exact ⟨acc',by omega,h2,by rw [show acc.length+(k+1)=acc.length+(0+1)+k by omega];exact h3⟩
theorem Z3j {π acc:List Nat} {o:Oper} {i:Nat} (h:(Zc9 π acc o).testBit i=true):∃ e∈o.after,Region.binds .any e=true∧(i = π.idxOf e.on∨(acc.getD (π.idxOf e.on) 0).testBit i=true):=by
  unfold Zc9 at h
  have key:∀ (l:List _) (s:Nat),(l.foldl (fun s e=>if Region.binds .any e then s ||| 2 ^ π.idxOf e.on ||| acc.getD (π.idxOf e.on) 0 else s) s).testBit i=true →
      s.testBit i=true∨∃ e∈l,Region.binds .any e=true∧(i = π.idxOf e.on∨(acc.getD (π.idxOf e.on) 0).testBit i=true):=by
    intro l
    induction l with
    | nil=>intro s h;exact .inl h
    | cons e l ih =>
      intro s h
      simp only [Yd7] at h
      rcases ih _ h with h1|⟨e',h1,h2⟩
      · split at h1
        · rename_i hb
          rw [Nat.testBit_or,Nat.testBit_or,Nat.testBit_two_pow] at h1
          simp only [Yev,decide_eq_true_eq] at h1
          rcases h1 with (h1|h1)|h1
          · exact .inl h1
          · exact .inr ⟨e,by simp,hb,.inl h1.symm⟩
          · exact .inr ⟨e,by simp,hb,.inr h1⟩
        · exact .inl h1
      · exact .inr ⟨e',Yex _ h1,h2⟩
  rcases key _ 0 h with h1|⟨e,h1,h2⟩
  · simp at h1
  · exact ⟨e,by simpa using h1,h2⟩
end Cod
namespace Cod
open Go
variable {E:Env}
theorem Zyb {sl loc loc':List (Nat × AV)} {x:LO} (h:∀ n,x=.t n→M2 sl loc' n=M2 sl loc n):evR E sl loc' x=evR E sl loc x:=by
  cases x with
  | t n=>exact h n rfl
  | _=>rfl
theorem Z3k {lo:LOper} {n:Nat} (h:LO.t n∈Zwk lo.op):n∈S6 lo:=by
  unfold S6
  exact Yez _ (List.mem_filterMap.2 ⟨.t n,h,rfl⟩)
theorem effect {call:J2} {sl:List (Nat × AV)} {lo:LOper} {r r':RS} (h:opR E call sl lo r=some r') :
    ∃ v u,r'=Y7 r lo.dst v u∧u.map (·.1)=(O2 E call sl lo r).2 ∧
      ∀ r2:RS,(∀ t∈S6 lo,M2 sl r2.loc t=M2 sl r.loc t)→(∀ s∈(O2 E call sl lo r).1,A6 r2.st s=A6 r.st s)→opR E call sl lo r2=some (Y7 r2 lo.dst v u):=by
  have hstep:∀ r2:RS,(∀ t∈S6 lo,M2 sl r2.loc t=M2 sl r.loc t)→step call (evR E sl r2.loc) (R0 lo.dst) lo.op=step call (evR E sl r.loc) (R0 lo.dst) lo.op:=by
    intro r2 h1
    exact Zsq lo.op fun x hx=>Zyb fun n hn=>h1 n (Z3k (by rw [←hn];exact hx))
  unfold opR at h
  cases hg:lo.guard with
  | none =>
    rw [hg] at h
    simp only at h
    split at h
    · rename_i v u hr
      cases h
      refine ⟨v,u,rfl,by simp [O2,hg,hr],fun r2 h1 h2=>?_⟩
      have hl:=Zf8 (step call (evR E sl r.loc) (R0 lo.dst) lo.op) (σ:=r.st) (σ':=r2.st) (fun s hs=>h2 s (by simpa [O2,hg] using hs))
      simp only [opR,hg,hstep r2 h1,hl.1,hr]
    · cases h
  | some gw =>
    obtain ⟨g,want⟩:=gw
    rw [hg] at h
    simp only at h
    have hgs:g∈S6 lo:=by simp [S6,hg]
    have hgv:∀ r2:RS,(∀ t∈S6 lo,M2 sl r2.loc t=M2 sl r.loc t)→evR E sl r2.loc (.t g)=evR E sl r.loc (.t g):=fun r2 h1=>h1 g hgs
    split at h
    · rename_i b hb
      cases hbw:(b==want) with
      | true =>
        rw [hbw] at h
        simp only [cond_true] at h
        split at h
        · rename_i v u hr
          cases h
          refine ⟨v,u,rfl,by simp [O2,hg,hb,hbw,hr],fun r2 h1 h2=>?_⟩
          have hl:=Zf8 (step call (evR E sl r.loc) (R0 lo.dst) lo.op) (σ:=r.st) (σ':=r2.st) (fun s hs=>h2 s (by simpa [O2,hg,hb,hbw] using hs))
          simp only [opR,hg,hgv r2 h1,hb,hbw,cond_true,hstep r2 h1,hl.1,hr]
        · cases h
      | false =>
        rw [hbw] at h
        simp only [cond_false,Option.some.injEq] at h
        subst h
        refine ⟨.und,[],rfl,by simp [O2,hg,hb,hbw],fun r2 h1 h2=>?_⟩
        simp only [opR,hg,hgv r2 h1,hb,hbw,cond_false]
    · rename_i hb
      cases h
      refine ⟨.und,[],rfl,by simp [O2,hg,hb],fun r2 h1 h2=>?_⟩
      simp only [opR,hg,hgv r2 h1,hb]
    · cases h
end Cod
namespace Cod
open Go
variable {E:Env}
theorem Zjv:∀ {l m:List Nat},l.Pairwise (· < ·)→m.Pairwise (· < ·)→(∀ x,x∈l↔x∈m)→l=m:=by
  intro l
  induction l with
  | nil =>
    intro m _ _ h
    cases m with
    | nil=>rfl
    | cons y m=>have:=(h y).2 (by simp);simp at this
  | cons x l ih =>
    intro m hl hm h
    cases m with
    | nil=>have:=(h x).1 (by simp);simp at this
    | cons y m =>
      rw [List.pairwise_cons] at hl hm
      have hxy:x=y:=by
        have h1:=(h x).1 (by simp)
        have h2:=(h y).2 (by simp)
        rcases List.mem_cons.1 h1 with h1|h1
        · exact h1
        · rcases List.mem_cons.1 h2 with h2|h2
          · exact h2.symm
          · have a1:=hm.1 x h1
            have a2:=hl.1 y h2
            omega
      subst hxy
      refine congrArg (x :: ·) (ih hl.2 hm.2 fun z=>⟨fun hz=>?_,fun hz=>?_⟩)
      · rcases List.mem_cons.1 ((h z).1 (Yex _ hz)) with h1|h1
        · subst h1;exact absurd (hl.1 z hz) (by omega)
        · exact h1
      · rcases List.mem_cons.1 ((h z).2 (Yex _ hz)) with h1|h1
        · subst h1;exact absurd (hm.1 z hz) (by omega)
        · exact h1
theorem Ze9 (n:Nat):(List.range n).Pairwise (· < ·):=List.pairwise_lt_range
abbrev Eff:=Option Nat × AV × Ups
def apE (zs:List Eff) (r:RS) (k:Nat):RS:=match zs[k]? with|some (d,v,u)=>Y7 r d v u|none=>r
theorem Zam {β:Type} {zs:List Eff} (g:RS → β) (w:Nat→Bool) (val:Nat → β) (h:∀ r k,g (apE zs r k)=if w k then val k else g r) :
    ∀ (l:List Nat) (r:RS),g (l.foldl (apE zs) r)=(l.filter w).foldl (fun _ k=>val k) (g r):=by
  intro l
  induction l with
  | nil=>intro r;rfl
  | cons k l ih =>
    intro r
    rw [Yd7,ih,h]
    cases hw:w k with
    | true=>rw [List.filter_cons_of_pos hw];simp
    | false=>rw [List.filter_cons_of_neg (by simp [hw])];simp
def wrS (zs:List Eff) (t:Nat) (k:Nat):Bool:=match zs[k]? with|some (d,_,_)=>d==some t|none=>false
def valS (zs:List Eff) (k:Nat):AV:=match zs[k]? with|some (_,v,_)=>v|none=>.junk
theorem Zfa (zs:List Eff) (sl:List (Nat × AV)) (t:Nat) (r:RS) (k:Nat):M2 sl (apE zs r k).loc t=if wrS zs t k then valS zs k else M2 sl r.loc t:=by
  unfold apE wrS valS
  cases zs[k]? with
  | none=>simp
  | some x =>
    obtain ⟨d,v,u⟩:=x
    cases d with
    | none=>simp [Y7]
    | some d=>by_cases h:d=t<;>simp [Y7,M2,h]
theorem Zef:∀ {u:Ups} {σ:A3} {s:Site},s∉u.map (·.1)→A6 (B2 σ u) s=A6 σ s:=by
  intro u
  induction u with
  | nil=>intro σ s _;rfl
  | cons p u ih =>
    intro σ s h
    obtain ⟨t,e⟩:=p
    simp only [Yed,Ye2,not_or] at h
    simp only [B2]
    rw [ih h.2,C7 _ _ (Ne.symm h.1)]
theorem Zyc:∀ {u:Ups} {σ σ':A3} {s:Site},s∈u.map (·.1)→A6 (B2 σ u) s=A6 (B2 σ' u) s:=by
  intro u
  induction u with
  | nil=>intro σ σ' s h;simp at h
  | cons p u ih =>
    intro σ σ' s h
    obtain ⟨t,e⟩:=p
    simp only [B2]
    by_cases hu:s∈u.map (·.1)
    · exact ih hu
    · rw [Zef hu,Zef hu]
      simp only [Yed,Ye2] at h
      have:=h.resolve_right hu
      subst this
      rw [C0,C0]
def wrE (zs:List Eff) (s:Site) (k:Nat):Bool:=match zs[k]? with|some (_,_,u)=>decide (s∈u.map (·.1))|none=>false
def valE (zs:List Eff) (s:Site) (k:Nat):Option Ent:=match zs[k]? with|some (_,_,u)=>A6 (B2 [] u) s|none=>none
theorem Zhj (zs:List Eff) (s:Site) (r:RS) (k:Nat):A6 (apE zs r k).st s=if wrE zs s k then valE zs s k else A6 r.st s:=by
  unfold apE wrE valE
  cases zs[k]? with
  | none=>simp
  | some x =>
    obtain ⟨d,v,u⟩:=x
    have:(Y7 r d v u).st=B2 r.st u:=by cases d<;>rfl
    simp only [this]
    by_cases h:s∈u.map (·.1)
    · rw [if_pos (by simpa using h)];exact Zyc h
    · rw [if_neg (by simpa using h)];exact Zef h
theorem Z92 {call:J2} {sl:List (Nat × AV)}:∀ {los:List LOper} {r0 r:RS},L9 E call sl los r0=some r →
    ∃ zs:List Eff,zs.length=los.length∧r=(List.range los.length).foldl (apE zs) r0 ∧
      ∀ k lo,los[k]? = some lo→∃ v u t,zs[k]? = some (lo.dst,v,u)∧(J4 E call sl los r0)[k]? = some t∧u.map (·.1)=t.2 ∧
        (∀ call' ρ d,L1 lo.op=0→Pu (step call' ρ d lo.op)) ∧
        (L1 lo.op=0→t=([],[]))∧(L1 lo.op=1→t.2=[]) ∧
        ∀ r2:RS,(∀ x∈S6 lo,M2 sl r2.loc x=M2 sl ((List.range k).foldl (apE zs) r0).loc x)→(∀ s∈t.1,A6 r2.st s=A6 ((List.range k).foldl (apE zs) r0).st s) →
          opR E call sl lo r2=some (Y7 r2 lo.dst v u):=by
  intro los
  induction los with
  | nil=>intro r0 r h;simp only [L9,Option.some.injEq] at h;subst h;exact ⟨[],rfl,rfl,fun k lo h=>by simp at h⟩
  | cons lo los ih =>
    intro r0 r h
    simp only [L9] at h
    cases h1:opR E call sl lo r0 with
    | none=>rw [h1] at h;cases h
    | some r1 =>
      rw [h1] at h
      simp only at h
      obtain ⟨v,u,e1,e2,e3⟩:=effect h1
      obtain ⟨zs,f1,f2,f3⟩:=ih h
      have hshift:∀ n,(List.range (n+1)).foldl (apE ((lo.dst,v,u)::zs)) r0=(List.range n).foldl (apE zs) r1:=by
        intro n
        rw [List.range_succ_eq_map,Yd7,List.foldl_map]
        have:apE ((lo.dst,v,u)::zs) r0 0=r1:=by simp [apE,e1]
        rw [this]
        rfl
      refine ⟨(lo.dst,v,u)::zs,by simp [f1],by rw [Yd9,hshift];exact f2,?_⟩
      intro k lo' hk
      cases k with
      | zero =>
        simp only [List.getElem?_cons_zero,Option.some.injEq] at hk
        subst hk
        refine ⟨v,u,O2 E call sl lo r0,rfl,rfl,e2,fun c ρ d ht=>(Zww ht).1,fun ht=>?_,fun ht=>?_,fun r2 k1 k2=>e3 r2 (by simpa using k1) (by simpa using k2)⟩
        · have hp:∀ c ρ d,Pu (step c ρ d lo.op)∧Lt (step c ρ d lo.op):=fun c ρ d=>Zww ht
          have hr:=(hp call (evR E sl r0.loc) (R0 lo.dst)).1.reads (σ:=r0.st)
          have hw:∀ x,(step call (evR E sl r0.loc) (R0 lo.dst) lo.op).run r0.st=some x→x.2=[]:=fun x hx=>(hp _ _ _).2.run hx
          unfold O2
          have hbase:(((step call (evR E sl r0.loc) (R0 lo.dst) lo.op).reads r0.st,match (step call (evR E sl r0.loc) (R0 lo.dst) lo.op).run r0.st with|some (_,u)=>u.map (·.1)|none=>[]):List Site × List Site)=([],[]):=by
            rw [hr]
            cases hx:(step call (evR E sl r0.loc) (R0 lo.dst) lo.op).run r0.st with
            | none=>rfl
            | some x=>have:=hw x hx;obtain ⟨x1,x2⟩:=x;simp only at this;subst this;rfl
          cases lo.guard with
          | none=>exact hbase
          | some gw =>
            obtain ⟨g,want⟩:=gw
            simp only
            split
            · rename_i b _
              cases (b==want)
              · rfl
              · exact hbase
            · rfl
        · have hw:∀ x,(step call (evR E sl r0.loc) (R0 lo.dst) lo.op).run r0.st=some x→x.2=[]:=fun x hx=>(Z3i ht).run hx
          unfold O2
          have hbase:(((step call (evR E sl r0.loc) (R0 lo.dst) lo.op).reads r0.st,match (step call (evR E sl r0.loc) (R0 lo.dst) lo.op).run r0.st with|some (_,u)=>u.map (·.1)|none=>[]):List Site × List Site).2=[]:=by
            cases hx:(step call (evR E sl r0.loc) (R0 lo.dst) lo.op).run r0.st with
            | none=>rfl
            | some x=>have:=hw x hx;obtain ⟨x1,x2⟩:=x;simp only at this;subst this;rfl
          cases lo.guard with
          | none=>exact hbase
          | some gw =>
            obtain ⟨g,want⟩:=gw
            simp only
            split
            · rename_i b _
              cases (b==want)
              · rfl
              · exact hbase
            · rfl
      | succ k =>
        simp only [List.getElem?_cons_succ] at hk
        obtain ⟨v',u',t,g1,g2,g3,g4,g5,g6,g7⟩:=f3 k lo' hk
        refine ⟨v',u',t,by simpa using g1,?_,g3,g4,g5,g6,fun r2 k1 k2=>g7 r2 (by rw [hshift] at k1;exact k1) (by rw [hshift] at k2;exact k2)⟩
        simp only [J4,h1,List.getElem?_cons_succ]
        exact g2
end Cod
namespace Cod
open Go
structure Done (n:Nat) (M:Nat→Nat) (l:List Nat):Prop where
  lt:∀ k∈l,k<n
  closed:∀ k∈l,∀ i,(M k).testBit i=true→i∈l
  pw:l.Pairwise fun k k'=>k≠k'∧(M k).testBit k'=false
theorem Done.nil (n:Nat) (M:Nat→Nat):Done n M []:=⟨by simp,by simp,List.Pairwise.nil⟩
theorem Done.snoc {n:Nat} {M:Nat→Nat} {l:List Nat} (h:Done n M l) {j:Nat} (hj:j<n) (hn:j∉l) (hM:∀ i,(M j).testBit i=true→i∈l):Done n M (l++[j]):=by
  refine ⟨fun k hk=>?_,fun k hk i hi=>?_,?_⟩
  · rcases List.mem_append.1 hk with hk|hk
    · exact h.lt k hk
    · rw [List.mem_singleton.1 hk];exact hj
  · rcases List.mem_append.1 hk with hk|hk
    · exact Yez _ (h.closed k hk i hi)
    · rw [List.mem_singleton.1 hk] at hi;exact Yez _ (hM i hi)
  · rw [List.pairwise_append]
    refine ⟨h.pw,List.pairwise_singleton _ _,fun k hk k' hk'=>?_⟩
    rw [List.mem_singleton.1 hk']
    refine ⟨fun e=>hn (e▸hk),?_⟩
    cases hb:(M k).testBit j with
    | false=>rfl
    | true=>exact absurd (h.closed k hk j hb) hn
theorem Done.filter {n:Nat} {M:Nat→Nat} {l:List Nat} (h:Done n M l) {w:Nat→Bool} (hw:∀ i j,i<j→j<n→w i=true→w j=true→(M j).testBit i=true):(l.filter w).Pairwise (· < ·):=by
  rw [List.pairwise_filter]
  refine List.Pairwise.imp_of_mem (fun {k k'} hk hk' hr h1 h2=>?_) h.pw
  obtain ⟨hne,hb⟩:=hr
  rcases Nat.lt_or_ge k k' with h3|h3
  · exact h3
  · have:=hw k' k (by omega) (h.lt k hk) h2 h1
    rw [hb] at this
    cases this
theorem Done.ahead {n:Nat} {M:Nat→Nat} {l:List Nat} (h:Done n M l) {w:Nat→Bool} (hw:∀ i j,i<j→j<n→w i=true→w j=true→(M j).testBit i=true) {j:Nat} (hn:j∉l)
    (hjn:j≤n) (h1:∀ i,i<j→w i=true→i∈l) (h2:∀ k,k<n→j<k→w k=true→(M k).testBit j=true):l.filter w=(List.range j).filter w:=by
  refine Zjv (h.filter hw) (List.Pairwise.filter _ (Ze9 j)) fun x=>?_
  rw [Ye7,Ye7,Ye4]
  constructor
  · rintro ⟨hx,hwx⟩
    refine ⟨?_,hwx⟩
    rcases Nat.lt_trichotomy x j with h3|h3|h3
    · exact h3
    · subst h3;exact absurd hx hn
    · exact absurd (h.closed x hx j (h2 x (h.lt x hx) h3 hwx)) hn
  · rintro ⟨hx,hwx⟩
    exact ⟨h1 x hx hwx,hwx⟩
theorem Done.all {n:Nat} {M:Nat→Nat} {l:List Nat} (h:Done n M l) {w:Nat→Bool} (hw:∀ i j,i<j→j<n→w i=true→w j=true→(M j).testBit i=true) (ha:∀ j,j<n→j∈l):l.filter w=(List.range n).filter w:=by
  refine Zjv (h.filter hw) (List.Pairwise.filter _ (Ze9 n)) fun x=>?_
  rw [Ye7,Ye7,Ye4]
  exact ⟨fun ⟨hx,k⟩=>⟨h.lt x hx,k⟩,fun ⟨hx,k⟩=>⟨ha x hx,k⟩⟩
theorem pigeon:∀ {n:Nat} {l:List Nat},l.Nodup→(∀ x∈l,x<n)→l.length≤n:=by
  intro n
  induction n with
  | zero=>intro l _ h;cases l with|nil=>simp|cons x l=>have:=h x (by simp);omega
  | succ n ih =>
    intro l hn h
    have h1:(l.erase n).length≤n:=ih (hn.erase n) fun x hx=>by
      have h2:=(hn.mem_erase_iff).1 hx
      have:=h x h2.2
      omega
    by_cases hm:n∈l
    · rw [List.length_erase_of_mem hm] at h1;omega
    · rw [List.erase_of_not_mem hm] at h1;omega
theorem Done.nodup {n:Nat} {M:Nat→Nat} {l:List Nat} (h:Done n M l):l.Nodup:=h.pw.imp fun ⟨k,_⟩=>k
theorem Done.full {n:Nat} {M:Nat→Nat} {l:List Nat} (h:Done n M l) (hl:l.length=n):∀ j,j<n→j∈l:=by
  intro j hj
  by_cases hm:j∈l
  · exact hm
  · have:=pigeon (n:=n) (l:=j::l) (List.nodup_cons.2 ⟨hm,h.nodup⟩) (fun x hx=>by
      rcases List.mem_cons.1 hx with rfl|hx
      · exact hj
      · exact h.lt x hx)
    simp at this
    omega
def Mof (π:List Nat) (os:List Oper) (j:Nat):Nat:=(Zev π os []).getD j 0
theorem Z93 {π:List Nat} {os:List Oper} (hback:∀ (j:Nat) (o:Oper),os[j]? = some o→∀ e∈o.after,Region.binds .any e=true → π.idxOf e.on<j) {n:Nat} {l:List Nat} (h:Done n (Mof π os) l) {j:Nat} {o:Oper} (ho:os[j]? = some o)
    (he:∀ e∈o.after,Region.binds .any e=true → π.idxOf e.on∈l):∀ i,(Mof π os j).testBit i=true→i∈l:=by
  intro i hb
  obtain ⟨acc',h1,h2,h3⟩:=Zya (π := π) (acc:=[]) (k:=j) (o:=o) (os:=os) ho
  simp only [Ye6,Nat.zero_add] at h1 h3
  unfold Mof at hb
  rw [List.getD_eq_getElem?_getD,h3] at hb
  simp only [Ye1] at hb
  obtain ⟨e,hea,hbe,hor⟩:=Z3j hb
  have hel:=he e hea hbe
  rcases hor with rfl|hor
  · exact hel
  · have hlt:=hback j o ho e hea hbe
    refine h.closed _ hel i ?_
    unfold Mof
    rw [List.getD_eq_getElem?_getD,←h2 _ (by omega),←List.getD_eq_getElem?_getD]
    exact hor
theorem Z3l {π:List Nat} {os:List Oper} {i j:Nat} (hij:i<j) (hj:j<os.length) (hb:¬ (Mof π os j).testBit i=true):(i,j)∈W0 π os:=by
  unfold W0
  rw [List.mem_flatMap]
  refine ⟨j,List.mem_range.2 hj,?_⟩
  rw [List.mem_filterMap]
  refine ⟨i,List.mem_range.2 hij,?_⟩
  unfold Mof at hb
  rw [if_neg hb]
theorem Zjw (s:List Site):Zas s []=false:=by
  induction s with
  | nil=>rfl
  | cons x s ih=>simp [Zas,ih]
theorem Zf9 {s t:List Site} (h:Zas s t=false) {x:Site} (hx:x∈s):x∉t:=by
  induction s with
  | nil=>simp at hx
  | cons y s ih =>
    simp only [Zas,Bool.or_eq_false_iff] at h
    rcases List.mem_cons.1 hx with rfl|hx
    · simpa using h.1
    · exact ih h.2 hx
theorem Zss {π:List Nat} {n:Nat} {os:List Oper} {los:List LOper} (hd:Zf2 π n os los=true) {ts:List (List Site × List Site)} (hc:T9 ts (Zjm los (W0 π os))=true)
    (hp:∀ (k:Nat) (lo:LOper) (t:List Site × List Site),los[k]? = some lo→ts[k]? = some t→(L1 lo.op=0→t=([],[]))∧(L1 lo.op=1→t.2=[])) {i j:Nat} (hij:i<j) (hj:j<os.length) (hb:¬ (Mof π os j).testBit i=true)
    {x y:LOper} (hx:los[i]? = some x) (hy:los[j]? = some y) {t u:List Site × List Site} (ht:ts[i]? = some t) (hu:ts[j]? = some u) :
    (∀ d,x.dst=some d→d∉S6 y∧y.dst≠some d)∧(∀ d,y.dst=some d→d∉S6 x)∧(∀ s∈t.2,s∉u.1∧s∉u.2)∧(∀ s∈t.1,s∉u.2):=by
  have hm:=Z3l hij hj hb
  unfold Zf2 at hd
  rw [Yd8] at hd
  have h1:=List.all_eq_true.1 hd.2 (i,j) hm
  simp only [hx,hy] at h1
  have hap:(∀ d,x.dst=some d→d∉S6 y∧y.dst≠some d)∧(∀ d,y.dst=some d→d∉S6 x):=by
    unfold Z2n at h1
    rw [Yd8] at h1
    refine ⟨fun d hd'=>?_,fun d hd'=>?_⟩
    · have:=h1.1
      rw [hd'] at this
      simp only [Yd8,Ye0,Ye8,decide_eq_false_iff_not,bne_iff_ne] at this
      exact this
    · have:=h1.2
      rw [hd'] at this
      simp only [Ye0,Ye8,decide_eq_false_iff_not] at this
      exact this
  have hcalm:Zot t u=true:=by
    by_cases hh:(L1 x.op != 0&&L1 y.op != 0&&(L1 x.op==2||L1 y.op==2))=true
    · have hmem:(i,j)∈Zjm los (W0 π os):=by
        unfold Zjm
        rw [Ye7]
        exact ⟨hm,by simp only [hx,hy];exact hh⟩
      unfold T9 at hc
      rw [Ye3] at hc
      have:=hc (i,j) hmem
      simp only [List.getD_eq_getElem?_getD,ht,hu,Ye1] at this
      exact this
    · obtain ⟨p1,p2⟩:=hp i x t hx ht
      obtain ⟨q1,q2⟩:=hp j y u hy hu
      by_cases h0:L1 x.op=0
      · rw [p1 h0];simp [Zot,Zas]
      · by_cases h0':L1 y.op=0
        · rw [q1 h0'];simp [Zot,Zjw]
        · have hr:∀ op:LOp,L1 op=0∨L1 op=1∨L1 op=2:=fun op=>by cases op<;>simp [L1]
          have h1':L1 x.op=1∧L1 y.op=1:=by
            simp only [Yd8,bne_iff_ne,ne_eq,Yev,beq_iff_eq,not_and,not_or] at hh
            have:=hh ⟨h0,h0'⟩
            rcases hr x.op with k|k|k<;>rcases hr y.op with k'|k'|k'<;>first|exact ⟨k,k'⟩|(exfalso;omega)
          simp [Zot,p2 h1'.1,q2 h1'.2,Zas,Zjw]
  unfold Zot at hcalm
  simp only [Yd8,Ye0] at hcalm
  exact ⟨hap.1,hap.2,fun s hs=>⟨Zf9 hcalm.1.1 hs,Zf9 hcalm.1.2 hs⟩,fun s hs=>Zf9 hcalm.2 hs⟩
end Cod
namespace Cod
open Go
variable {E:Env} {w0:World} {O0:Nat→Prop} {σ0:A3} {L0:Lay} {P:Program} {σ:A3} {L:Lay} {w:World} {o:Oper} {a:Act}
theorem Zph {σ σ':A3} (he:∀ s,A6 σ' s=A6 σ s):ctx σ' L w=ctx σ L w∧G7 σ' L=G7 σ L∧inS σ' L=inS σ L:=by
  have h1:Zoy σ'=Zoy σ:=by funext s;simp only [Zoy,he]
  have h2:G7 σ' L=G7 σ L:=by funext b;simp only [G7,he]
  have h3:inS σ' L=inS σ L:=by funext b;simp only [inS,he]
  exact ⟨by simp only [ctx,h1,h2],h2,h3⟩
theorem Rel.same {σ':A3} (h:Rel E w0 O0 σ0 L0 σ L w) (he:∀ s,A6 σ' s=A6 σ s):Rel E w0 O0 σ0 L0 σ' L w:=by
  obtain ⟨h1,h2,h3⟩:=Zph (L:=L) (w:=w) he
  refine ⟨⟨fun s e k1 k2=>?_,fun s s' e e' b x x' k1 k2 k3 k4 k5 k6=>?_⟩,h.keep,fun b hb=>?_,fun n=>?_,fun x e k1 k2=>?_,fun b hb=>?_,h.lf,h.f0⟩
  · rw [h1];exact h.store.ent s e (by rw [←he];exact k1) k2
  · exact h.store.apart s s' e e' b x x' (by rw [←he];exact k1) k2 (by rw [←he];exact k3) k4 k5 k6
  · rw [h2] at hb;exact h.own b hb
  · rw [h1];exact h.glob n
  · exact h.ups x e (by rw [←he];exact k1) k2
  · rw [h3] at hb;exact h.src b hb
theorem Zle {A:Ann} {ops:Array Oper}:∀ {os:List Oper} {los:List LOper},R6 P A ops os=some los→los.length=os.length ∧
    ∀ (k:Nat) (o:Oper),os[k]? = some o→∃ p g,los[k]? = some ⟨o.dst,p,g⟩∧Zjl P A o=some p∧Zby ops o.guard=some g:=by
  intro os
  induction os with
  | nil=>intro los h;simp only [R6,Option.some.injEq] at h;subst h;exact ⟨rfl,fun k o h=>by simp at h⟩
  | cons x os ih =>
    intro los h
    simp only [R6] at h
    split at h
    · rename_i p g r h1 h2 h3
      cases h
      obtain ⟨k1,k2⟩:=ih h3
      refine ⟨by simp [k1],fun k o hk=>?_⟩
      cases k with
      | zero=>simp only [List.getElem?_cons_zero,Option.some.injEq] at hk;subst hk;exact ⟨p,g,rfl,h1,h2⟩
      | succ k=>simp only [List.getElem?_cons_succ] at hk ⊢;exact k2 k o hk
    · cases h
theorem Zjx {α:Type} {l:List α}:∀ {π:List Nat} {m:List α},Zc8 l π=some m→m.length = π.length∧∀ (k i:Nat),π[k]? = some i→∃ x,l[i]? = some x∧m[k]? = some x:=by
  intro π
  induction π with
  | nil=>intro m h;simp only [Zc8,Option.some.injEq] at h;subst h;exact ⟨rfl,fun k i h=>by simp at h⟩
  | cons j π ih =>
    intro m h
    simp only [Zc8] at h
    split at h
    · rename_i y ys h1 h2
      cases h
      obtain ⟨k1,k2⟩:=ih h2
      refine ⟨by simp [k1],fun k i hk=>?_⟩
      cases k with
      | zero=>simp only [List.getElem?_cons_zero,Option.some.injEq] at hk;subst hk;exact ⟨y,h1,rfl⟩
      | succ k=>simp only [List.getElem?_cons_succ] at hk ⊢;exact k2 k i hk
    · cases h
theorem Zpi {π:List Nat} {n:Nat} {os:List Oper} {los:List LOper} (h:Zf2 π n os los=true) :
    π.length=n∧(∀ k,k<n→∃ i,π[k]? = some i ∧ π.idxOf i=k)∧(∀ i,i<n→i ∈ π)∧(∀ k,k<n→∃ o,os[k]? = some o∧∀ e∈o.after,Region.binds .any e=true → π.idxOf e.on<k):=by
  unfold Zf2 at h
  rw [Yd8,Yd8,Yd8,Yd8] at h
  obtain ⟨⟨⟨⟨h1,h2⟩,h3⟩,h4⟩,_⟩:=h
  refine ⟨by simpa using h1,fun k hk=>?_,fun i hi=>?_,fun k hk=>?_⟩
  · have:=List.all_eq_true.1 h2 k (List.mem_range.2 hk)
    cases hp : π[k]? with
    | none=>rw [hp] at this;cases this
    | some i=>rw [hp] at this;exact ⟨i,rfl,by simpa using this⟩
  · have:=List.all_eq_true.1 h3 i (List.mem_range.2 hi)
    simpa using this
  · have:=List.all_eq_true.1 h4 k (List.mem_range.2 hk)
    cases hp:os[k]? with
    | none=>rw [hp] at this;cases this
    | some o =>
      rw [hp] at this
      simp only [Array.all_eq_true_iff_forall_mem,Yev,Ye0,decide_eq_true_eq] at this
      refine ⟨o,rfl,fun e he hb=>?_⟩
      rcases this e he with h|h
      · rw [hb] at h;cases h
      · exact h
theorem Z94 (hm:P.follows .mixedOrders=true) {A:Ann} {N:Nat}:Zsn P E A N:=by
  intro call hcall id ops los0 los os π hlow hp1 hp2 hdok hN sl w0 O0 σ0 L0 σ L w a r Q hr hcalm h hf hQ
  refine wp_region_any hm ?_
  obtain ⟨hlen,hget⟩:=Zle hlow
  obtain ⟨hπ,hinv,hall,hedge⟩:=Zpi hdok
  obtain ⟨q1,q2⟩:=Zjx hp1
  obtain ⟨q3,q4⟩:=Zjx hp2
  have hlen':los.length=ops.size:=by omega
  have hosl:os.length=ops.size:=by omega
  obtain ⟨zs,z1,z2,z3⟩:=Z92 hr
  rw [hlen'] at z2
  have hback:∀ (j:Nat) (o:Oper),os[j]? = some o→∀ e∈o.after,Region.binds .any e=true → π.idxOf e.on<j:=by
    intro j o ho e he hb
    have hj:j<ops.size:=by have:=(List.getElem?_eq_some_iff.1 ho).1;omega
    obtain ⟨o',h1,h2⟩:=hedge j hj
    rw [ho] at h1
    cases h1
    exact h2 e he hb
  -- the place of an operation
  have hpos:∀ i,i<ops.size → π.idxOf i<ops.size ∧ π[π.idxOf i]? = some i:=by
    intro i hi
    have h1:=hall i hi
    have h2:=List.idxOf_lt_length_iff.2 h1
    refine ⟨by omega,?_⟩
    rw [List.getElem?_eq_getElem h2,Ye9 h2]
  -- what an operation reads and writes
  have hop:∀ k,k<ops.size→∃ o i p g v u t,π[k]? = some i∧ops[i]? = some o∧os[k]? = some o∧los[k]? = some ⟨o.dst,p,g⟩∧Zjl P A o=some p∧Zby ops o.guard=some g∧zs[k]? = some (o.dst,v,u)∧(J4 E call sl los ⟨[],σ⟩)[k]? = some t∧u.map (·.1)=t.2 ∧
      ∀ r2:RS,(∀ x∈S6 ⟨o.dst,p,g⟩,M2 sl r2.loc x=M2 sl ((List.range k).foldl (apE zs) ⟨[],σ⟩).loc x)→(∀ s∈t.1,A6 r2.st s=A6 ((List.range k).foldl (apE zs) ⟨[],σ⟩).st s) →
          opR E call sl ⟨o.dst,p,g⟩ r2=some (Y7 r2 o.dst v u):=by
    intro k hk
    obtain ⟨i,hi,_⟩:=hinv k hk
    obtain ⟨o,ho,ho'⟩:=q2 k i hi
    obtain ⟨p,g,k1,k2,k3⟩:=hget i o ho
    obtain ⟨lo,hlo,hlo'⟩:=q4 k i hi
    rw [k1] at hlo
    cases hlo
    obtain ⟨v,u,t,g1,g2,g3,_,_,_,g7⟩:=z3 k _ hlo'
    exact ⟨o,i,p,g,v,u,t,hi,by simpa using ho,ho',hlo',k2,k3,g1,g2,g3,g7⟩
  have hpt:∀ (k:Nat) (lo:LOper) (t:List Site × List Site),los[k]? = some lo→(J4 E call sl los ⟨[],σ⟩)[k]? = some t→(L1 lo.op=0→t=([],[]))∧(L1 lo.op=1→t.2=[]):=by
    intro k lo t h1 h2
    obtain ⟨v,u,t',g1,g2,g3,_,g5,g6,_⟩:=z3 k lo h1
    rw [h2] at g2
    cases g2
    exact ⟨g5,g6⟩
  have hapart:∀ (i j:Nat),i<j→j<ops.size→¬ (Mof π os j).testBit i=true→∀ (x y:LOper) (t u:List Site × List Site),los[i]? = some x→los[j]? = some y→(J4 E call sl los ⟨[],σ⟩)[i]? = some t→(J4 E call sl los ⟨[],σ⟩)[j]? = some u →
      (∀ d,x.dst=some d→d∉S6 y∧y.dst≠some d)∧(∀ d,y.dst=some d→d∉S6 x)∧(∀ s∈t.2,s∉u.1∧s∉u.2)∧(∀ s∈t.1,s∉u.2) :=
    fun i j hij hj hb x y t u hx hy ht hu=>Zss hdok hcalm hpt hij (by omega) hb hx hy ht hu
  -- two writers of one slot,of one entry
  have hwS:∀ t i j,i<j→j<ops.size→wrS zs t i=true→wrS zs t j=true→(Mof π os j).testBit i=true:=by
    intro t i j hij hj hi hj'
    refine Classical.byContradiction fun hb=>?_
    obtain ⟨o,_,p,g,v,u,tt,_,_,_,k1,_,_,k4,k5,_,_⟩:=hop i (by omega)
    obtain ⟨o',_,p',g',v',u',tt',_,_,_,m1,_,_,m4,m5,_,_⟩:=hop j hj
    have:=hapart i j hij hj hb _ _ _ _ k1 m1 k5 m5
    simp only [wrS,k4,m4,beq_iff_eq] at hi hj'
    exact (this.1 t hi).2 hj'
  have hwE:∀ s i j,i<j→j<ops.size→wrE zs s i=true→wrE zs s j=true→(Mof π os j).testBit i=true:=by
    intro t i j hij hj hi hj'
    refine Classical.byContradiction fun hb=>?_
    obtain ⟨o,_,p,g,v,u,tt,_,_,_,k1,_,_,k4,k5,k6,_⟩:=hop i (by omega)
    obtain ⟨o',_,p',g',v',u',tt',_,_,_,m1,_,_,m4,m5,m6,_⟩:=hop j hj
    have:=hapart i j hij hj hb _ _ _ _ k1 m1 k5 m5
    simp only [wrE,k4,m4,decide_eq_true_eq] at hi hj'
    rw [k6] at hi
    rw [m6] at hj'
    exact (this.2.2.1 t hi).2 hj'
  -- the end
  have hend:∀ (l:List Nat) (a:Act) (w:World) (L:Lay),Done ops.size (Mof π os) l→(∀ j,j<ops.size→j∈l)→Rel E w0 O0 σ0 L0 (l.foldl (apE zs) ⟨[],σ⟩).st L w→Fr (ctx (l.foldl (apE zs) ⟨[],σ⟩).st L w) (M2 sl (l.foldl (apE zs) ⟨[],σ⟩).loc) N a→Q .normal a w:=by
    intro l a w L hd ha k1 k2
    have hst:∀ s,A6 r.st s=A6 (l.foldl (apE zs) ⟨[],σ⟩).st s:=by
      intro s
      rw [z2,Zam (fun r=>A6 r.st s) (wrE zs s) (valE zs s) (fun r k=>Zhj zs s r k),Zam (fun r=>A6 r.st s) (wrE zs s) (valE zs s) (fun r k=>Zhj zs s r k),hd.all (hwE s) ha]
    have hsl:∀ t,M2 sl r.loc t=M2 sl (l.foldl (apE zs) ⟨[],σ⟩).loc t:=by
      intro t
      rw [z2,Zam (fun r=>M2 sl r.loc t) (wrS zs t) (valS zs) (fun r k=>Zfa zs sl t r k),Zam (fun r=>M2 sl r.loc t) (wrS zs t) (valS zs) (fun r k=>Zfa zs sl t r k),hd.all (hwS t) ha]
    refine hQ a w L (k1.same hst) ?_
    rw [(Zph (L:=L) (w:=w) hst).1]
    exact ⟨fun t=>by rw [hsl];exact k2.slots t,k2.defers,k2.size⟩
  have main:∀ (fuel:Nat) (l:List Nat) (listed:Array Bool) (a:Act) (w:World) (L:Lay),Done ops.size (Mof π os) l→listed.size=ops.size→(∀ j,j<ops.size→listed[j]? = some (decide (π.idxOf j∈l)))→fuel+l.length=ops.size →
      Rel E w0 O0 σ0 L0 (l.foldl (apE zs) ⟨[],σ⟩).st L w→Fr (ctx (l.foldl (apE zs) ⟨[],σ⟩).st L w) (M2 sl (l.foldl (apE zs) ⟨[],σ⟩).loc) N a→wpAny P .any ops Q fuel listed a w:=by
    intro fuel
    induction fuel with
    | zero =>
      intro l listed a w L hd hs hl hfu k1 k2
      have ha:=hd.full (by omega)
      refine ⟨?_,hend l a w L hd ha k1 k2⟩
      rw [List.eq_nil_iff_forall_not_mem]
      intro j hj
      obtain ⟨m1,o,m2,_⟩:=mem_ready.1 hj
      have hjn:j<ops.size:=(Array.getElem?_eq_some_iff.1 m2).1
      rw [Array.getD_eq_getD_getElem?,hl j hjn] at m1
      simp [ha _ (hpos j hjn).1] at m1
    | succ fuel ih =>
      intro l listed a w L hd hs hl hfu k1 k2
      have hon:∀ (k:Nat) (o:Oper),os[k]? = some o→∀ e∈o.after,Region.binds .any e=true→e.on<ops.size:=by
        intro k o ho e he hb
        have h1:=hback k o ho e he hb
        have hk:k<ops.size:=by have:=(List.getElem?_eq_some_iff.1 ho).1;omega
        obtain ⟨i,h2,h3⟩:=hinv (π.idxOf e.on) (by omega)
        have h4 : π.idxOf e.on < π.length:=by omega
        rw [List.getElem?_eq_getElem h4,Ye9 h4] at h2
        cases h2
        obtain ⟨x,h5,_⟩:=q2 (π.idxOf e.on) e.on (by rw [List.getElem?_eq_getElem h4,Ye9 h4])
        have:=(List.getElem?_eq_some_iff.1 h5).1
        simpa using this
      have hrdy:∀ j,j∈Region.ready .any ops listed↔j<ops.size ∧ π.idxOf j∉l∧∃ o,os[π.idxOf j]? = some o∧ops[j]? = some o∧∀ e∈o.after,Region.binds .any e=true → π.idxOf e.on∈l:=by
        intro j
        rw [mem_ready]
        constructor
        · rintro ⟨m1,o,m2,m3⟩
          have hjn:j<ops.size:=(Array.getElem?_eq_some_iff.1 m2).1
          rw [Array.getD_eq_getD_getElem?,hl j hjn] at m1
          obtain ⟨o',n1,n2⟩:=q2 (π.idxOf j) j (hpos j hjn).2
          have:o'=o:=by
            rw [Array.getElem?_toList,m2] at n1
            exact (Option.some.inj n1).symm
          subst this
          refine ⟨hjn,by simpa using m1,o',n2,m2,fun e he hb=>?_⟩
          have h1:=m3 e he hb
          have h2:=hon _ _ n2 e he hb
          rw [Array.getD_eq_getD_getElem?,hl e.on h2] at h1
          simpa using h1
        · rintro ⟨hjn,m1,o,n2,m2,m3⟩
          refine ⟨by rw [Array.getD_eq_getD_getElem?,hl j hjn];simpa using m1,o,m2,fun e he hb=>?_⟩
          have h2:=hon _ _ n2 e he hb
          rw [Array.getD_eq_getD_getElem?,hl e.on h2]
          simpa using m3 e he hb
      refine ⟨fun hnil=>?_,fun j hj=>?_⟩
      · refine hend l a w L hd ?_ k1 k2
        intro k
        induction k using Nat.strongRecOn with
        | _ k ihk =>
          intro hkn
          refine Classical.byContradiction fun hn=>?_
          obtain ⟨o,i,p,g,v,u,t,m1,m2,m3,_⟩:=hop k hkn
          have hik : π.idxOf i=k:=by
            obtain ⟨i',x1,x2⟩:=hinv k hkn
            rw [m1] at x1
            cases x1
            exact x2
          have hin:i<ops.size:=(Array.getElem?_eq_some_iff.1 m2).1
          have:i∈Region.ready .any ops listed:=by
            rw [hrdy]
            refine ⟨hin,by rw [hik];exact hn,o,by rw [hik];exact m3,m2,fun e he hb=>?_⟩
            have h2:=hback k o m3 e he hb
            exact ihk _ h2 (by omega)
          rw [hnil] at this
          simp at this
      · obtain ⟨hjn,hn,o,ho',ho,he⟩:=(hrdy j).1 hj
        have hkn:=(hpos j hjn).1
        have hM:=Z93 hback hd ho' he
        obtain ⟨o',i',p,g,v,u,t,x1,x2,m0,m1,m2,m3,m4,m5,m6,m7⟩:=hop (π.idxOf j) hkn
        rw [ho'] at m0
        cases m0
        have hres:opR E call sl ⟨o.dst,p,g⟩ (l.foldl (apE zs) ⟨[],σ⟩)=some (Y7 (l.foldl (apE zs) ⟨[],σ⟩) o.dst v u):=by
          refine m7 _ (fun x hx=>?_) (fun s hs'=>?_)
          · rw [Zam (fun r=>M2 sl r.loc x) (wrS zs x) (valS zs) (fun r k=>Zfa zs sl x r k),Zam (fun r=>M2 sl r.loc x) (wrS zs x) (valS zs) (fun r k=>Zfa zs sl x r k)]
            refine congrArg (fun q=>List.foldl _ _ q) (hd.ahead (hwS x) hn (Nat.le_of_lt hkn) (fun i hi hw=>?_) (fun k hk hjk hw=>?_))
            · refine hM i (Classical.byContradiction fun hb=>?_)
              obtain ⟨oi,_,pi,gi,vi,ui,ti,_,_,_,n1,_,_,n4,n5,_,_⟩:=hop i (by omega)
              have:=hapart i _ hi hkn hb _ _ _ _ n1 m1 n5 m5
              simp only [wrS,n4,beq_iff_eq] at hw
              exact (this.1 x hw).1 hx
            · refine Classical.byContradiction fun hb=>?_
              obtain ⟨oi,_,pi,gi,vi,ui,ti,_,_,_,n1,_,_,n4,n5,_,_⟩:=hop k hk
              have:=hapart _ k hjk hk hb _ _ _ _ m1 n1 m5 n5
              simp only [wrS,n4,beq_iff_eq] at hw
              exact this.2.1 x hw hx
          · rw [Zam (fun r=>A6 r.st s) (wrE zs s) (valE zs s) (fun r k=>Zhj zs s r k),Zam (fun r=>A6 r.st s) (wrE zs s) (valE zs s) (fun r k=>Zhj zs s r k)]
            refine congrArg (fun q=>List.foldl _ _ q) (hd.ahead (hwE s) hn (Nat.le_of_lt hkn) (fun i hi hw=>?_) (fun k hk hjk hw=>?_))
            · refine hM i (Classical.byContradiction fun hb=>?_)
              obtain ⟨oi,_,pi,gi,vi,ui,ti,_,_,_,n1,_,_,n4,n5,n6,_⟩:=hop i (by omega)
              have:=hapart i _ hi hkn hb _ _ _ _ n1 m1 n5 m5
              simp only [wrE,n4,decide_eq_true_eq] at hw
              rw [n6] at hw
              exact (this.2.2.1 s hw).1 hs'
            · refine Classical.byContradiction fun hb=>?_
              obtain ⟨oi,_,pi,gi,vi,ui,ti,_,_,_,n1,_,_,n4,n5,n6,_⟩:=hop k hk
              have:=hapart _ k hjk hk hb _ _ _ _ m1 n1 m5 n5
              simp only [wrE,n4,decide_eq_true_eq] at hw
              rw [n6] at hw
              exact this.2.2.2 s hs' hw
        have hstep:(l++[π.idxOf j]).foldl (apE zs) ⟨[],σ⟩=Y7 (l.foldl (apE zs) ⟨[],σ⟩) o.dst v u:=by
          rw [List.foldl_append,Yd7,List.foldl_nil]
          simp only [apE,m4]
        refine Zpb k1 hcall k2 ho m2 m3 (hN o (by
          have:o∈ops:=Array.mem_of_getElem? ho
          simpa using this)) hres (fun a' w' L' n1 n2 n3=>?_)
        refine ih (l++[π.idxOf j]) (listed.setIfInBounds j true) a' w' L' (hd.snoc hkn hn hM) (by simp [hs]) (fun i hi=>?_) (by simp;omega) (by rw [hstep];exact n1) (by rw [hstep];exact n3)
        by_cases hij:j=i
        · subst hij
          simp [hs,hi]
        · rw [Array.getElem?_setIfInBounds_ne hij,hl i hi]
          have : π.idxOf i ≠ π.idxOf j:=by
            intro hc
            have a1:=(hpos i hi).2
            have a2:=(hpos j hjn).2
            rw [hc,a2] at a1
            exact hij (Option.some.inj a1)
          simp [List.mem_append,this]
  have hd2:=h.drawn (w.drawn+1)
  refine main ops.size [] (Array.replicate ops.size false) a { w with drawn:=w.drawn+1 } L (Done.nil _ _) (by simp) (fun j hj=>by simp [hj]) (by simp) hd2.1 ⟨fun t=>V8 hd2.2 _ _ (hf.slots t),hf.defers,hf.size⟩
end Cod
namespace Cod
open Go
def LowOK (P:Program) (f:Nat) (l:LFn):Prop :=
  ∃ (A:Ann) (fn:Func),P.funcs[f]? = some fn∧Z2o P A fn=some l∧(fn.name == "runtime.NumGoroutine")=false
theorem Zst:∀ {tab:List (Nat × LFn)} {f:Nat} {l:LFn},tab.lookup f=some l→(f,l)∈tab:=by
  intro tab
  induction tab with
  | nil=>intro f l h;simp at h
  | cons p tab ih =>
    intro f l h
    obtain ⟨g,m⟩:=p
    rw [List.lookup_cons] at h
    cases hb:(f==g) with
    | true =>
      rw [hb] at h
      simp only [cond_true,Option.some.injEq] at h
      simp only [beq_iff_eq] at hb
      subst hb h
      simp
    | false=>rw [hb] at h;exact Yex _ (ih h)
def Zpj (P:Program):List (Nat × LFn)→Prop
  | []=>True
  | p::r=>LowOK P p.1 p.2∧Zpj P r
theorem Zpj.mem {P:Program}:∀ {tab:List (Nat × LFn)},Zpj P tab→∀ p∈tab,LowOK P p.1 p.2:=by
  intro tab
  induction tab with
  | nil=>intro _ p h;simp at h
  | cons q tab ih =>
    intro h p hp
    rcases List.mem_cons.1 hp with rfl|hp
    · exact h.1
    · exact ih h.2 p hp
theorem Zid {P:Program} {E:Env} {tab:List (Nat × LFn)} (hm:P.follows .mixedOrders=true) (h:Zpj P tab) (hE:∀ f,E.fn f=tab.lookup f):Zgy P E:=by
  intro f l hf
  obtain ⟨A,fn,h1,h2,h3⟩:=h.mem _ (Zst ((hE f).symm.trans hf))
  exact ⟨A,fn,h1,h2,h3,Z94 hm⟩
theorem Zeg {P:Program} {E:Env} (hk:Zce P E) (hfn:Zgy P E) {f:Nat} {args:List AV} {v:AV} {σr:A3} (h:S E f args []=some (v,σr)) (La:Lay) {w:World} {vs:List Value}
    (hr:Rel E w (G7 [] La) [] La [] La w) (hv:VRL (ctx [] La w) args vs) :
    Zhc P f vs.toArray w (fun y w'=>∃ La',Rel E w (G7 [] La) [] La σr La' w'∧VR (ctx σr La' w') v y):=by
  obtain ⟨n,hn⟩:=Zbw.1 h
  exact Z3g hk hfn n f args [] v σr hn La w vs hr hv (by intro x e he;simp [A6] at he)
end Cod
namespace Cod
open Go
structure Wit {α:Type} (x : α):Type where
  mk ::
def Gd {α:Type} (b:Bool) (x:Option α) (_:Wit x):Option α:=bif b then x else none
def Br {α:Type} (b:Bool) (x y:Option α) (_:Wit x) (_:Wit y):Option α:=bif b then x else y
theorem Z95 {α:Type} (x:Option α) (w:Wit x):Gd true x w=x:=rfl
theorem Z96 {α:Type} (x y:Option α) (w:Wit x) (v:Wit y):Br true x y w v=x:=rfl
theorem Z3m {α:Type} (x y:Option α) (w:Wit x) (v:Wit y):Br false x y w v=y:=rfl
theorem Br_not {α:Type} (b:Bool) (x y:Option α) (w:Wit x) (v:Wit y):Br (!b) x y w v=Br b y x v w:=by cases b<;>rfl
theorem Zpk {α:Type} {b:Bool} {x y z:Option α} {w:Wit x} {v:Wit y} (h1:b=true→x=z) (h2:b=false→y=z):Br b x y w v=z:=by
  cases b
  · exact h2 rfl
  · exact h1 rfl
def T3 {α:Type} (b:Bool) (x y : α) (_:Wit x) (_:Wit y) : α:=bif b then x else y
theorem Zyd {α:Type} (x y : α) (w:Wit x) (v:Wit y):T3 true x y w v=x:=rfl
theorem Zsu {α:Type} (x y : α) (w:Wit x) (v:Wit y):T3 false x y w v=y:=rfl
theorem Zbf {α:Type} {c:Prop} [Decidable c] (x y : α):(if c then x else y)=T3 (decide c) x y ⟨⟩ ⟨⟩:=by
  unfold T3
  by_cases h:c<;>simp [h]
def Zie (r:Option (AV × Ups)) (f:AV→Ups→Option (AV × A3)) (_:Wit f):Option (AV × A3):=match r with|some (v,u)=>f v u|none=>none
theorem Zsv (v:AV) (u:Ups) (f:AV→Ups→Option (AV × A3)) (w:Wit f):Zie (some (v,u)) f w=f v u:=rfl
def LetA {α β:Type} (x : α) (f : α → β) (_:Wit f) : β:=f x
theorem Z97 {α β:Type} (x : α) (f : α → β) (w:Wit f):LetA x f w=f x:=rfl
def Acc.bindW {α β:Type} (x:Acc α) (f : α→Acc β) (_:Wit f):Acc β:=x.bind f
def okO (r:Option (AV × Ups)):Bool:=match r with|some _=>true|none=>false
def valO (r:Option (AV × Ups)):AV:=match r with|some (v,_)=>v|none=>.junk
def upsO (r:Option (AV × Ups)):Ups:=match r with|some (_,u)=>u|none=>[]
theorem Z3n (p:AV × Ups):okO (some p)=true:=rfl
theorem Zye (v:AV) (u:Ups):valO (some (v,u))=v:=rfl
theorem Zyf (v:AV) (u:Ups):upsO (some (v,u))=u:=rfl
def Zsw (loc:List (Nat × AV)) (d:Option Nat) (v:AV):List (Nat × AV):=match d with|some d=>(d,v)::loc|none=>loc
theorem Zyg (loc:List (Nat × AV)) (d:Nat) (v:AV):Zsw loc (some d) v=(d,v)::loc:=rfl
theorem Zyh (loc:List (Nat × AV)) (v:AV):Zsw loc none v=loc:=rfl
theorem Zd0 (loc:List (Nat × AV)) (σ:A3) (d:Option Nat) (v:AV) (u:Ups):Y7 ⟨loc,σ⟩ d v u=⟨Zsw loc d v,B2 σ u⟩:=by cases d<;>rfl
noncomputable def Y (E:Env) (fn:List LRes) (sl:List (Nat × AV)) (keep:List Nat) (k:List It) (os:List LOper) (loc:List (Nat × AV)) (σ:A3):Option (AV × A3) :=
  match L9 E (S E) sl os ⟨loc,σ⟩ with|some r=>X E fn k ⟨Y8 r.loc sl keep sl,r.st⟩|none=>none
noncomputable def Z (E:Env) (fn:List LRes) (sl:List (Nat × AV)) (keep:List Nat) (pairs:List (Nat × Nat)) (k:List It) (ts:List (List Site × List Site)) (os:List LOper) (loc:List (Nat × AV)) (σ:A3):Option (AV × A3) :=
  match L9 E (S E) sl os ⟨loc,σ⟩ with
  | some r=>if T9 (ts++J4 E (S E) sl os ⟨loc,σ⟩) pairs=true then X E fn k ⟨Y8 r.loc sl keep sl,r.st⟩ else none
  | none=>none
theorem Zif {α β:Type} (x:Option (α × β)):x=none∨∃ a b,x=some (a,b):=by
  rcases x with _|⟨a,b⟩
  · exact .inl rfl
  · exact .inr ⟨a,b,rfl⟩
def gdV (x:AV):Bool:=match x with|.bool _=>true|.und=>true|_=>false
def gdB (want:Bool) (x:AV):Bool:=match x with|.bool b=>b==want|_=>false
section
variable {E:Env} {fn:List LRes} {k:List It} {st:St} {sl loc:List (Nat × AV)} {keep:List Nat} {pairs:List (Nat × Nat)} {os:List LOper} {σ:A3} {ts:List (List Site × List Site)}
theorem X_regY {ops:List LOper}:X E fn (.c (.reg ops keep)::k) st=Y E fn st.sl keep k ops [] st.st:=X_reg
theorem X_regZ {ops:List LOper} {p:Nat × Nat}:X E fn (.c (.dreg ops (p::pairs) keep)::k) st=Z E fn st.sl keep (p::pairs) k [] ops [] st.st:=Z2i
theorem Z98 {ops:List LOper}:X E fn (.c (.dreg ops [] keep)::k) st=Y E fn st.sl keep k ops [] st.st:=by
  rw [Z2i];unfold Y
  cases L9 E (S E) st.sl ops ⟨[],st.st⟩<;>rfl
theorem Y_nil:Y E fn sl keep k [] loc σ=X E fn k ⟨Y8 loc sl keep sl,σ⟩:=rfl
theorem Z_nil:Z E fn sl keep pairs k ts [] loc σ=Gd (T9 ts pairs) (X E fn k ⟨Y8 loc sl keep sl,σ⟩) ⟨⟩:=by
  simp only [Z,L9,J4,List.append_nil,Gd]
  cases T9 ts pairs<;>rfl
theorem Y_op {d:Option Nat} {op:LOp}:Y E fn sl keep k (⟨d,op,none⟩::os) loc σ =
    Zie ((step (S E) (evR E sl loc) (R0 d) op).run σ) (fun v u=>Y E fn sl keep k os (Zsw loc d v) (B2 σ u)) ⟨⟩:=by
  rcases Zif ((step (S E) (evR E sl loc) (R0 d) op).run σ) with h|⟨v,u,h⟩
  · simp only [Y,L9,opR,h,Zie]
  · simp only [Y,L9,opR,h,Zie,Zd0]
theorem Z99 {d:Option Nat} {op:LOp} {g:Nat} {want:Bool}:Y E fn sl keep k (⟨d,op,some (g,want)⟩::os) loc σ =
    Gd (gdV (evR E sl loc (.t g))) (Br (gdB want (evR E sl loc (.t g))) (Y E fn sl keep k (⟨d,op,none⟩::os) loc σ) (Y E fn sl keep k os (Zsw loc d .und) σ) ⟨⟩ ⟨⟩) ⟨⟩:=by
  obtain ⟨x,hx⟩:∃ x,evR E sl loc (.t g)=x:=⟨_,rfl⟩
  rw [hx]
  cases x with
  | und=>simp only [Y,L9,opR,hx,Zd0,B2,gdV,gdB,Gd,Br,cond_true,cond_false]
  | bool b =>
    cases hb:(b==want) with
    | false=>simp only [Y,L9,opR,hx,hb,Zd0,B2,gdV,gdB,Gd,Br,cond_true,cond_false]
    | true=>simp only [Y,L9,opR,hx,hb,gdV,gdB,Gd,Br,cond_true]
  | _=>simp only [Y,L9,opR,hx,gdV,Gd,Br,cond_false]
theorem Z_op {d:Option Nat} {op:LOp}:Z E fn sl keep pairs k ts (⟨d,op,none⟩::os) loc σ =
    Zie ((step (S E) (evR E sl loc) (R0 d) op).run σ) (fun v u=>Z E fn sl keep pairs k (ts++[((step (S E) (evR E sl loc) (R0 d) op).reads σ,u.map (·.1))]) os (Zsw loc d v) (B2 σ u)) ⟨⟩:=by
  rcases Zif ((step (S E) (evR E sl loc) (R0 d) op).run σ) with h|⟨v,u,h⟩
  · simp only [Z,L9,opR,h,Zie]
  · simp only [Z,L9,opR,J4,O2,h,Zie,Zd0,Yel,Yfa]
theorem Yaa {d:Option Nat} {op:LOp} {g:Nat} {want:Bool}:Z E fn sl keep pairs k ts (⟨d,op,some (g,want)⟩::os) loc σ =
    Gd (gdV (evR E sl loc (.t g))) (Br (gdB want (evR E sl loc (.t g))) (Z E fn sl keep pairs k ts (⟨d,op,none⟩::os) loc σ) (Z E fn sl keep pairs k (ts++[([],[])]) os (Zsw loc d .und) σ) ⟨⟩ ⟨⟩) ⟨⟩:=by
  obtain ⟨x,hx⟩:∃ x,evR E sl loc (.t g)=x:=⟨_,rfl⟩
  rw [hx]
  cases x with
  | und=>simp only [Z,L9,opR,J4,O2,hx,Zd0,B2,gdV,gdB,Gd,Br,cond_true,cond_false,Yel,Yfa]
  | bool b =>
    cases hb:(b==want) with
    | false=>simp only [Z,L9,opR,J4,O2,hx,hb,Zd0,B2,gdV,gdB,Gd,Br,cond_true,cond_false,Yel,Yfa]
    | true =>
      rcases Zif ((step (S E) (evR E sl loc) (R0 d) op).run σ) with h|⟨v,u,h⟩
      · simp only [Z,L9,opR,hx,hb,gdV,gdB,Gd,Br,cond_true,h]
      · simp only [Z,L9,opR,J4,O2,hx,hb,gdV,gdB,Gd,Br,cond_true,h]
  | _=>simp only [Z,L9,opR,hx,gdV,Gd,Br,cond_false]
end
def isB (x:AV):Bool:=match x with|.bool _=>true|_=>false
theorem Yab {E:Env} {fn:List LRes} {k:List It} {st:St} {c:LO} {a b:LCode}:X E fn (.c (.cond c a b)::k) st =
    Gd (isB (ev E st.sl c)) (Br (gdB true (ev E st.sl c)) (X E fn (.c a::k) st) (X E fn (.c b::k) st) ⟨⟩ ⟨⟩) ⟨⟩:=by
  rw [X_cond]
  cases h:ev E st.sl c<;>simp [isB,gdB,Gd,Br]
def outO (x:Option (List It)):List It:=match x with|some k=>k|none=>[]
theorem Yac {E:Env} {fn:List LRes} {k:List It} {st:St} {n:Nat}:X E fn (.c (.exit n)::k) st=Gd (Q0 n k).isSome (X E fn (outO (Q0 n k)) st) ⟨⟩:=by
  rw [X_exit]
  cases Q0 n k<;>rfl
theorem Yad {E:Env} {fn:List LRes} {k:List It} {st:St} {n:Nat}:X E fn (.c (.goto n)::k) st=Gd (U6 n k).isSome (X E fn (outO (U6 n k)) st) ⟨⟩:=by
  rw [X_goto]
  cases U6 n k<;>rfl
end Cod

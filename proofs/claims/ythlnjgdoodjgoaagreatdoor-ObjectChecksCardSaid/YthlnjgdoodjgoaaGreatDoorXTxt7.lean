/- object.PutCommit as a known function. -/
import Derived.Test.YthlnjgdoodjgoaaGreatDoorXTxt6
import Derived.Test.YthlnjgdoodjgoaaGreatDoorXTxt2
import Derived.Test.YthlnjgdoodjgoaaGreatDoorXTxt5
import Derived.Test.YthlnjgdoodjgoaaGreatDoorXTxt3
set_option linter.unusedSimpArgs false
set_option linter.unusedVariables false
open List renaming append_assoc → Ysw, append_inj → Yvj, append_nil → Yuh, cons_append → Yr7, drop_drop → Ys2, drop_eq_getElem_cons → Yt7, drop_left → Yu7, drop_length → Yui, drop_zero → Ytn, eq_nil_of_length_eq_zero → Yss, idxOf_lt_length_of_mem → Yu6, length_append → Ysv, length_cons → Ysk, length_drop → Ysc, length_map → Yts, length_nil → Yth, length_replicate → Yul, length_set → Yut, length_singleton → Yue, length_take → Ysb, lookup_cons → Yvl, map_map → Yvk, mem_append → Yun, mem_cons_of_mem → Ys8, mem_cons_self → Yuw, nil_append → Ytw, take_left → Yu8, take_succ_eq_append_getElem → Yvd, take_zero → Yu5
open Nat renaming le_refl → Yr4, mul_le_mul_right → Yst, pow_le_pow_right → Yvn, zero_add → Ysy
open Int renaming cast_ofNat_Int → Yuk, natCast_add → Yuj
open Bool renaming and_eq_true → Ysj, and_false → Yuv, false_or → Yup, not_eq_false' → Yvo, not_false → Yug, not_true → Yuf, or_eq_false_iff → Ys7, or_false → Yvm, true_or → Yva
open Nat renaming reduceEqDiff → A9, reduceAdd → B0, reduceSub → B1, reduceMul → B2, reduceDiv → B3, reduceMod → B4, reduceBEq → B5, reduceLeDiff → B6, reduceLT → B7
open Int renaming reduceEq → B8, reduceNe → B9, reduceLT → C0, reduceLE → C1, reduceBEq → C2, reduceBNe → C3, reduceToNat → C4, reduceAdd → C5, reduceSub → C6, reduceMul → C7, reduceNeg → A2
namespace Cod
open Go Go.RowKit Go.Proofs Go.Shelf
set_option maxRecDepth 100000
theorem Yrg:∀ {a b:List Id32},ids a=ids b→a=b:=by
  intro a
  induction a with
  | nil =>
    intro b h
    have:=congrArg List.length h
    rw [Zc5,Zc5] at this
    cases b with
    | nil=>rfl
    | cons=>simp at this
  | cons x a ih =>
    intro b h
    cases b with
    | nil=>have:=congrArg List.length h;rw [Zc5,Zc5] at this;simp at this
    | cons y b =>
      have h':x.cells++ids a=y.cells++ids b:=h
      obtain ⟨h1,h2⟩:=Yvj h' (by rw [Znz,Znz])
      have h3:x=y:=by
        have:=Zl8 h1
        cases x;cases y
        simp only at this
        subst this
        rfl
      rw [h3,ih h2]
theorem pv_inj {v:AV} {a b:List Id32} (h:PV v a) (h':PV v b):a=b:=by
  rcases h with rfl|⟨rfl,rfl⟩
  · rcases h' with h'|⟨_,h'⟩
    · injection h' with h1 h2
      exact Yrg h1
    · cases h'
  · rcases h' with h'|⟨rfl,_⟩
    · cases h'
    · rfl
theorem Ylw {s s':Snap} {v v':AV} (hv:PV v s.par) (hv':PV v' s'.par) (h:snR s.tree v s.aut s.com s.msg=snR s'.tree v' s'.aut s'.com s'.msg):s=s':=by
  unfold snR at h
  obtain ⟨h1,h2⟩:=Yvj h (by rw [D9,D9,s.ht,s'.ht])
  have h0:=Zl8 h1
  simp only [List.cons.injEq,AV.str.injEq,AV.int.injEq,true_and,and_true] at h2
  obtain ⟨rfl,h3,h4,h5,h6,h7,h8,h9,h10,h11⟩:=h2
  have hp:=pv_inj hv hv'
  obtain ⟨t,ps,⟨a1,a2,a3,a4⟩,⟨c1,c2,c3,c4⟩,m,ht⟩:=s
  obtain ⟨t',ps',⟨a1',a2',a3',a4'⟩,⟨c1',c2',c3',c4'⟩,m',ht'⟩:=s'
  simp only at *
  subst h0 hp h3 h4 h5 h6 h7 h8 h9 h10 h11
  rfl
open Classical in
noncomputable def Zsa (args:List AV) (σ:A5):Option (AV × A5) :=
  if h:∃ s:Snap,(∃ v,PV v s.par∧args=[.agg (snR s.tree v s.aut s.com s.msg)]) ∧ σ=[]∧Zpu s then some (Z1g (choose h)) else none
theorem Ylx {s:Snap} {v:AV} (hv:PV v s.par) (hs:Zpu s):Zsa [.agg (snR s.tree v s.aut s.com s.msg)] []=some (Z1g s):=by
  have hx:∃ s':Snap,(∃ v',PV v' s'.par∧[AV.agg (snR s.tree v s.aut s.com s.msg)]=[.agg (snR s'.tree v' s'.aut s'.com s'.msg)])∧([]:A5)=[]∧Zpu s':=⟨s,⟨v,hv,rfl⟩,rfl,hs⟩
  unfold Zsa
  rw [dif_pos hx]
  have key:∀ s':Snap,(∃ v',PV v' s'.par∧[AV.agg (snR s.tree v s.aut s.com s.msg)]=[.agg (snR s'.tree v' s'.aut s'.com s'.msg)])→s'=s:=by
    rintro s' ⟨v',h1,h2⟩
    injection h2 with h3 _
    injection h3 with h4
    exact (Ylw hv h1 h4).symm
  rw [key _ (Classical.choose_spec hx).1]
theorem Ydy {c:Ctx}:∀ {xs ys:List AV} {vs:List Value},VRL c (xs++ys) vs→∃ a b,vs=a++b∧VRL c xs a∧VRL c ys b:=by
  intro xs
  induction xs with
  | nil=>intro ys vs h;exact ⟨[],vs,rfl,rfl,h⟩
  | cons x xs ih =>
    intro ys vs h
    rw [Yr7,VRL] at h
    obtain ⟨v,r,rfl,h1,h2⟩:=h
    obtain ⟨a,b,rfl,h3,h4⟩:=ih h2
    exact ⟨v::a,b,rfl,by rw [VRL];exact ⟨v,a,rfl,h1,h3⟩,h4⟩
theorem Yly {E:Env} {w w':World} {La:Lay} (h:Rel E w (J6 [] La) [] La [] La w) (hb:Below w.heap.size w w') {v':Value} {n:Nat} {xs:List Int} (hn:xs.length=n) (ho:Z6k w' w.heap.size v' n (xs.map (Value.int .u8))) :
    ∃ La',Rel E w (J6 [] La) [] La [(.r 0,⟨0,true,true,false,xs.map (AV.int .u8 ·)⟩)] La' w'∧VR (ctx [(.r 0,⟨0,true,true,false,xs.map (AV.int .u8 ·)⟩)] La' w') (.buf (.r 0) 0 0 n 1) v':=by
  obtain ⟨g,cap,cur,el,fr,rfl,hg,hcell,hfr,hcap,hsz,htake⟩:=ho
  refine ⟨_,Zim h hb (pos:=some (g,0)) (fun g' o hh=>by cases hh;exact hg) ?_,?_⟩
  · simp only [Zak,ctx,if_true]
    refine .inl ⟨⟨cur,el,fr,hcell,by simp only [Yts];omega,hfr⟩,Zz0 fun i hi=>?_⟩
    show w'.cell? ⟨g,i,none⟩=_
    have h1:(cur.toList.take n)[i]? = some (Value.int .u8 (xs.getD i 0)):=by rw [htake];simp [List.getD,hi]
    rw [List.getElem?_take_of_lt (by omega)] at h1
    simp only [World.cell?,hcell]
    simpa using h1
  · simp only [VR]
    refine ⟨rfl,0,true,rfl,Yr4 _,fun _ _=>?_⟩
    simp only [O9,ctx,if_true]
    exact .inr ⟨cap,rfl,hcap,cur,el,fr,hcell,by omega⟩
theorem Yrh {E:Env} (hE:E.glob=Y6):Zho Tryz.prog E F.Zbc Zsa:=by
  intro args σa v σr hk La w vs hr hv hup
  unfold Zsa at hk
  split at hk
  · rename_i hx
    obtain ⟨⟨pv,q0,q1⟩,q2,q3⟩:=Classical.choose_spec hx
    generalize Classical.choose hx=s at *
    subst q1 q2
    simp only [Option.some.injEq] at hk
    simp only [VRL] at hv
    obtain ⟨x,r,rfl,hx,rfl⟩:=hv
    simp only [VR] at hx
    obtain ⟨ws,rfl,hw⟩:=hx
    have hS:=Zz3 hE hr
    unfold snR at hw
    obtain ⟨a,b,hab,h1,h2⟩:=Ydy hw
    have ha:=Zw5 h1
    simp only [VRL,VR] at h2
    obtain ⟨x0,r0,rfl,hx0,_,_,rfl,rfl,_,_,rfl,rfl,_,_,rfl,rfl,_,_,rfl,rfl,_,_,rfl,rfl,_,_,rfl,rfl,_,_,rfl,rfl,_,_,rfl,rfl,_,_,rfl,rfl,rfl⟩:=h2
    have hcase:∃ p b0 o0 cap,x0=.slice p s.par.length cap∧(0<s.par.length→p=some ⟨b0,o0,none⟩)∧(0<s.par.length→b0<w.heap.size)∧∀ k,k<s.par.length→w.rangeAt b0 (o0+k*32) (Lib.byteCells (iat s.par k).b):=by
      rcases q0 with rfl|⟨h0,rfl⟩
      · simp only [VR] at hx0
        obtain ⟨_,h2⟩:=hx0
        rcases h2 with ⟨h3,h4,h5⟩|⟨b,o,cap,h3,_,h4,_,h5⟩
        · exact ⟨none,0,0,0,by rw [h5,h4],fun h=>by omega,fun h=>by omega,fun k hk=>by omega⟩
        · refine ⟨_,b,o,cap,h3,fun _=>rfl,fun _=>h4,fun k hk=>?_⟩
          have:=Zd2 h5 (k*32) 32
          rw [Z7u hk] at this
          obtain ⟨vs,g1,g2⟩:=Zfo this
          rw [Zw5 g1] at g2
          exact g2
      · simp only [VR] at hx0
        exact ⟨none,0,0,0,by rw [hx0,h0];rfl,fun h=>by rw [h0] at h;simp at h,fun h=>by rw [h0] at h;simp at h,fun k hk=>by rw [h0] at hk;simp at hk⟩
    obtain ⟨p,b0,o0,cap,rfl,hp,hb0,hrow⟩:=hcase
    have hws:ws=(Zlq s (.slice p s.par.length cap)).toArray:=by
      apply Array.ext'
      rw [hab,ha]
      rfl
    subst hws
    refine O3 Tryz.func22 (by rfl) (by kernel_rfl) ((Z6l q3 hS hp hrow hb0).mono fun e w' ⟨hb,hw⟩=>?_)
    unfold Z1g at hk
    rcases hw with ⟨he,rfl⟩|⟨he,v',rfl,hown⟩
    · rw [if_neg he] at hk
      cases hk
      exact ⟨_,rfl,La,Zil hr hb,by simp [VR,VRL]⟩
    · rw [if_pos he] at hk
      cases hk
      have e1:((Zbt s).map fun b=>Value.int .u8 b.toNat)=((Zbt s).map fun b=>((b.toNat:Nat):Int)).map (Value.int .u8):=by rw [Yvk];rfl
      rw [e1] at hown
      obtain ⟨La',h1,h2⟩:=Yly hr hb (by rw [Yts]) hown
      have e2:((Zbt s).map fun b=>((b.toNat:Nat):Int)).map (AV.int .u8 ·)=A0 (Zbt s):=by unfold A0;rw [Yvk];rfl
      rw [e2] at h1 h2
      refine ⟨_,rfl,La',h1,?_⟩
      simp only [VR,VRL]
      exact ⟨_,rfl,_,_,rfl,h2,_,_,rfl,rfl,rfl⟩
  · cases hk
end Cod
namespace Cod
open Go Go.RowKit Go.Proofs Go.Shelf
set_option maxRecDepth 100000
def Zp0 (l:List Ety):AV × A5:=if Zel l=0 then (.tup [.buf (.r 0) 0 0 (G9 l).length 1,.int .i64 0],[(.r 0,⟨0,true,true,false,A0 (G9 l)⟩)]) else (.tup [.nils,.int .i64 (Zel l)],[])
open Classical in
noncomputable def Zsb (args:List AV) (σ:A5):Option (AV × A5) :=
  if h:∃ l,args=[.lst (P8 l) l.length] ∧ σ=[]∧Zh6 l then some (Zp0 (choose h)) else none
theorem Yri {a b:Ety} (h:a.cells=b.cells):a=b:=by
  unfold Ety.cells at h
  simp only [List.cons.injEq,AV.int.injEq,AV.str.injEq,true_and] at h
  obtain ⟨h1,h2,h30⟩:=h
  have h3:=Zl8 h30
  clear h30
  cases a;cases b
  simp only at h1 h2 h3
  subst h1 h2 h3
  rfl
theorem Ylz:∀ {a b:List Ety},P8 a=P8 b→a=b:=by
  intro a
  induction a with
  | nil =>
    intro b h
    have:=congrArg List.length h
    rw [A4,A4] at this
    cases b with
    | nil=>rfl
    | cons=>simp at this
  | cons x a ih =>
    intro b h
    cases b with
    | nil=>have:=congrArg List.length h;rw [A4,A4] at this;simp at this
    | cons y b =>
      have h':x.cells++P8 a=y.cells++P8 b:=h
      obtain ⟨h1,h2⟩:=Yvj h' (by rw [Zdc,Zdc])
      rw [Yri h1,ih h2]
theorem Yl0 {l:List Ety} (h:Zh6 l):Zsb [.lst (P8 l) l.length] []=some (Zp0 l):=by
  have hx:∃ l',[AV.lst (P8 l) l.length]=[.lst (P8 l') l'.length]∧([]:A5)=[]∧Zh6 l':=⟨l,rfl,rfl,h⟩
  unfold Zsb
  rw [dif_pos hx]
  have key:∀ l',[AV.lst (P8 l) l.length]=[.lst (P8 l') l'.length]→l'=l:=by
    intro l' hc
    injection hc with hc1 _
    injection hc1 with h1 h2
    exact (Ylz h1).symm
  rw [key _ (Classical.choose_spec hx).1]
theorem Ydz {c':Lay} {w:World} {cs:List AV} {n:Nat} {v:Value} (h:VR (ctx [] c' w) (.lst cs n) v):VR (ctx [] LaE w) (.lst cs n) v:=by
  refine Zb2 ?_ _ _ h
  refine ⟨fun s g0 al h=>by simp [ctx,Zxx,C9] at h,fun b _ h=>?_,fun b _ _=>rfl,fun _ _ h=>h,Yr4 _⟩
  rcases h with ⟨s,e,o,he,_⟩|h
  · simp [C9] at he
  · exact h.elim
theorem Yrj {E:Env} (hE:E.glob=Y6):Zho Tryz.prog E F.Z9 Zsb:=by
  intro args σa v σr hk La w vs hr hv hup
  unfold Zsb at hk
  split at hk
  · rename_i hx
    obtain ⟨q1,q2,q3⟩:=Classical.choose_spec hx
    generalize Classical.choose hx=l at *
    subst q1 q2
    simp only [Option.some.injEq] at hk
    simp only [VRL] at hv
    obtain ⟨x,r,rfl,hx,rfl⟩:=hv
    have hS:=Zz3 hE hr
    have hx':=Ydz hx
    have hcase:∃ p b0 o0 cap,x=.slice p l.length cap∧(0<l.length→p=some ⟨b0,o0,none⟩)∧(0<l.length→b0<w.heap.size)∧∀ k,k<l.length→w.rangeAt b0 (o0+k*34) (Zf4 (eat l k)):=by
      have h2:=hx'
      simp only [VR] at h2
      obtain ⟨_,h2⟩:=h2
      rcases h2 with ⟨h3,h4,h5⟩|⟨b,o,cap,h3,_,h4,_,h5⟩
      · exact ⟨none,0,0,0,by rw [h5,h4],fun h=>by omega,fun h=>by omega,fun k hk=>by omega⟩
      · refine ⟨_,b,o,cap,h3,fun _=>rfl,fun _=>h4,fun k hk=>?_⟩
        have:=Zd2 h5 (k*34) 34
        rw [Z0g hk] at this
        exact Ydq this
    obtain ⟨p,b0,o0,cap,rfl,hp,hb0,hrow⟩:=hcase
    refine O3 Tryz.func11 (by rfl) (by kernel_rfl) ((Yls q3 hS hx' hp hrow hb0).mono fun e w' ⟨hb,hw⟩=>?_)
    unfold Zp0 at hk
    rcases hw with ⟨he,rfl⟩|⟨he,v',rfl,hown⟩
    · rw [if_neg he] at hk
      cases hk
      exact ⟨_,rfl,La,Zil hr hb,by simp [VR,VRL]⟩
    · rw [if_pos he] at hk
      cases hk
      have e1:((G9 l).map fun b=>Value.int .u8 b.toNat)=((G9 l).map fun b=>((b.toNat:Nat):Int)).map (Value.int .u8):=by rw [Yvk];rfl
      rw [e1] at hown
      obtain ⟨La',h1,h2⟩:=Z7q hr hb hown
      have e2:((G9 l).map fun b=>((b.toNat:Nat):Int)).map (AV.int .u8 ·)=A0 (G9 l):=by unfold A0;rw [Yvk];rfl
      rw [e2] at h1 h2
      refine ⟨_,rfl,La',h1,?_⟩
      simp only [VR,VRL]
      exact ⟨_,rfl,_,_,rfl,h2,_,_,rfl,rfl,rfl⟩
  · cases hk
theorem Zp1 {E:Env} {fn:Nat→Option LFn} {tab:List (Nat × (List AV→A5→Option (AV × A5)))} {glob:Nat→List AV} {f:Nat} {h:List AV→A5→Option (AV × A5)} (hx:Ext E ⟨fn,fun g=>tab.lookup g,glob⟩) (h1:E.known f=none) (h2:E.fn f=none):Ext E ⟨fn,fun g=>((f,h)::tab).lookup g,glob⟩ where
  glob:=hx.glob
  fn:=hx.fn
  known g h' hk:=by
    show ((f,h)::tab).lookup g=some h'
    rw [Yvl]
    cases hb:g==f with
    | false=>exact hx.known g h' hk
    | true =>
      rw [beq_iff_eq] at hb
      rw [hb,h1] at hk
      cases hk
  none g hk:=by
    by_cases hb:g=f
    · right;rw [hb];exact h2
    · rcases hx.none g hk with hn|hn
      · left
        show ((f,h)::tab).lookup g=none
        rw [Yvl,beq_eq_false_iff_ne.2 hb]
        exact hn
      · exact .inr hn
noncomputable def Zmr:List (Nat × (List AV→A5→Option (AV × A5))):=(F.Zbc,Zsa)::(F.Zkf,V0 kHex)::(F.Z9,Zsb)::Zfw
noncomputable def EE:Env:=⟨H0,fun f=>Zmr.lookup f,Y6⟩
theorem Yrk:Zm3 Tryz.prog EE:=Zov (by kernel_rfl) Z4w (fun _=>rfl)
theorem Yd0:Zgd Tryz.prog EE:=by
  intro f h hf
  have hm:=Zhp (show Zmr.lookup f=some h from hf)
  unfold Zmr at hm
  rcases List.mem_cons.1 hm with hm|hm
  · cases hm;exact Yrh rfl
  rcases List.mem_cons.1 hm with hm|hm
  · cases hm;exact Zen ok_hex
  rcases List.mem_cons.1 hm with hm|hm
  · cases hm;exact Yrj rfl
  · exact Z7s (E:=EE) rfl (f,h) hm
theorem Yl1:Ext E ⟨H0,fun g=>Zfw.lookup g,Y6⟩:=⟨rfl,rfl,fun _ _ hk=>hk,fun _ hk=>.inl hk⟩
theorem Zg7:Ext E EE:=Zp1 (Zp1 (Zp1 Yl1 rfl rfl) rfl rfl) rfl rfl
theorem envP:EnvP EE:=⟨Zg7,fun {id} h=>by
  rw [S_eq,show EE.known F.Zkf=some (V0 kHex) from rfl]
  show V0 kHex [.agg (A0 id)] []=_
  simp only [V0,kHex,List.isEmpty_nil,if_true,Zo6,D9,h,and_self,Zeh,Option.map_some]⟩
theorem envC:EnvC EE where
  toEnvP:=envP
  put {s v} hv hs:=by
    rw [S_eq,show EE.known F.Zbc=some Zsa from rfl]
    exact Ylx hv hs
theorem Zf5 {f:Nat} {l:LFn} (hf:H0 f=some l) (hk:EE.known f=none) {args:List AV} {σ:A5} (hn:args.length=l.np):S EE f args σ=X EE l.results [.c l.code] ⟨params 0 args,σ⟩:=S_fn hk hf hn
theorem Yl2 {l:List Ety} (h:Zh6 l):S EE F.Z9 [.lst (P8 l) l.length] []=some (Zp0 l):=by
  rw [S_eq,show EE.known F.Z9=some Zsb from rfl]
  exact Yl0 h
end Cod
namespace Cod
open Go
def wE:Ety:=⟨33188,[97],List.replicate 32 0,by simp⟩
theorem Zn7:G9 [wE]=[49,48,48,54,52,52,32,97,0]++List.replicate 32 0:=by decide +kernel
theorem wE_ent:Zel [wE]=0:=by decide +kernel
theorem wE_ok:Zh6 [wE]:=by
  refine ⟨fun i=>?_,fun i=>?_,by decide⟩
  · cases i with
    | zero=>decide
    | succ i=>show (default:Ety).name.length≤_;decide
  · cases i with
    | zero=>decide
    | succ i=>show _≤(default:Ety).mode∧(default:Ety).mode≤_;decide
theorem Yrl:S EE F.Z9 [.lst (.int .i64 33188::.str [97]::A0 (List.replicate 32 0)) 1] []=some (.tup [.buf (.r 0) 0 0 41 1,.int .i64 0],[(.r 0,⟨0,true,true,false,A0 (G9 [wE])⟩)]):=by
  have h:=Yl2 wE_ok
  have e:Zp0 [wE]=(.tup [.buf (.r 0) 0 0 41 1,.int .i64 0],[(.r 0,⟨0,true,true,false,A0 (G9 [wE])⟩)]):=by
    unfold Zp0;rw [if_pos wE_ent,Zn7];rfl
  rw [e] at h
  exact h
theorem hdr_w:Zv8 3 3=[98,108,111,98,32,51,0]:=by
  unfold Zv8
  rw [show (3:Int)=((3:Nat):Int) from rfl,Lib.itoa_nonneg,Lib.decDigits_one (by omega)];rfl
theorem obj_w:Zds 3 3=0:=by decide +kernel
theorem go_idW:S EE F.Z2 [.agg [.int .i64 3,.lst (A0 [97,98,99]) 3]] []=some (.tup [.agg (A0 (Znm [98,108,111,98,32,51,0,97,98,99])),.int .i64 0],[]):=by
  have h:=M5 Zg7 (go_oid (k:=3) (p:=[97,98,99]) (n:=3) rfl (by simp))
  unfold idV idF at h
  simp only [Ysk,Yth,Ysy,Nat.reduceAdd] at h
  rw [obj_w,if_pos rfl] at h
  rw [show (((3:Nat)):Int)=3 from rfl,hdr_w] at h
  exact h
theorem Zp2:S EE F.Z4 [] []=some (.bool true,[]):=by
  have h1:S EE F.Z2 [.agg [.int .i64 3,.lst [.int .u8 97,.int .u8 98,.int .u8 99] 3]] []=some (.tup [.agg (A0 (Znm [98,108,111,98,32,51,0,97,98,99])),.int .i64 0],[]):=go_idW
  have h2:=Yrl
  have h3:S EE F.G3 [.lst [.int .u8 98,.int .u8 108,.int .u8 111,.int .u8 98,.int .u8 32,.int .u8 51,.int .u8 0,.int .u8 97,.int .u8 98,.int .u8 99] 10] []=some (.agg (A0 (Znm [98,108,111,98,32,51,0,97,98,99])),[]):=M5 Zg7 (Ykh (p:=[98,108,111,98,32,51,0,97,98,99]) (by simp))
  have hs:(Znm [98,108,111,98,32,51,0,97,98,99]).length=32:=by unfold Znm;simp [Z0v]
  generalize Znm [98,108,111,98,32,51,0,97,98,99]=d at *
  have ht:(G9 [wE]).length=41:=by rw [Zn7];rfl
  have h9:sub (G9 [wE]) 0 9=[49,48,48,54,52,52,32,97,0]:=by rw [Zn7];rfl
  have h9':(G9 [wE]).take 9=[49,48,48,54,52,52,32,97,0]:=by rw [Zn7];rfl
  generalize G9 [wE]=tr at *
  have s3:sub [AV.int .u8 97,AV.int .u8 98,AV.int .u8 99] 0 3=[.int .u8 97,.int .u8 98,.int .u8 99]:=rfl
  have s10:sub [AV.int .u8 98,AV.int .u8 108,AV.int .u8 111,AV.int .u8 98,AV.int .u8 32,AV.int .u8 51,AV.int .u8 0,AV.int .u8 97,AV.int .u8 98,AV.int .u8 99] 0 10=[.int .u8 98,.int .u8 108,.int .u8 111,.int .u8 98,.int .u8 32,.int .u8 51,.int .u8 0,.int .u8 97,.int .u8 98,.int .u8 99]:=rfl
  have s34:sub (AV.int .i64 33188::AV.str [97]::A0 (List.replicate 32 0)) 0 34=AV.int .i64 33188::AV.str [97]::A0 (List.replicate 32 0):=rfl
  have o1:over (default:Ety).cells 0 [AV.int .i64 33188]=AV.int .i64 33188::AV.str []::A0 (List.replicate 32 0):=rfl
  have o2:over (AV.int .i64 33188::AV.str []::A0 (List.replicate 32 0)) 1 [AV.str [97]]=AV.int .i64 33188::AV.str [97]::A0 (List.replicate 32 0):=rfl
  have l34:(AV.int .i64 33188::AV.str [97]::A0 (List.replicate 32 0)).length=34:=rfl
  have o3:over (default:Ety).cells 0 (AV.int .i64 33188::AV.str [97]::A0 (List.replicate 32 0))=AV.int .i64 33188::AV.str [97]::A0 (List.replicate 32 0):=rfl
  have o4:over (A0 (List.replicate 32 0)) 0 (A0 d)=A0 d:=R3 (by rw [hs];rfl)
  have q4:J3 [0,0,0,0,0,0,0,0,0,0,0,0,0,0,0,0,0,0,0,0,0,0,0,0,0,0,0,0,0,0,0,0] (A0 d) (A0 d)=some true:=by rw [Zpa hs hs];simp
  rw [Zf5 Ztf rfl rfl]
  simp -dsimp (disch:=first|omega|(simp only [A3,A4,A1,treeB_length]<;>omega)|fail) only [L.Z4,go_sem,reduceIte,reduceCtorEq,A9,B0,B1,B2,B3,B4,B5,B6,B7,B8,B9,C0,C1,C2,C3,C4,C5,C6,C7,A2,BYs,h1,h2,h3,ht,h9,h9',List.isEmpty_cons,Yul,s3,s10,s34,o1,o2,o3,l34,o4,q4]
end Cod
namespace Cod
open Go
theorem Z8j {g:Lbl} {p:List UInt8}:isL g p=true↔Zr0 p g:=by
  unfold isL Zr0
  rw [Ysj,decide_eq_true_eq,beq_iff_eq]
theorem Yd1 {EE:Env} (hE:EnvP EE) (p:List UInt8) (hb:p.length≤1000000000000):∃ (g:Lbl) (e:Int),S EE F.E9 [.lst (A0 p) p.length] []=some (.tup [.agg g.cells,.int .i64 e],[])∧S E F.I3 [.lst (A0 p) p.length] []=some (.tup [.agg g.cells,.int .i64 e],[]):=by
  by_cases hp:1048576<p.length
  · exact ⟨Zdz,2,Zwv hE rfl hp hb,Zwy rfl hp hb⟩
  · obtain ⟨g1,b1,_,_,s1,y1⟩:=Z1e hE (p:=p) rfl (by omega)
    obtain ⟨g2,o2,s2,y2⟩:=Zwx (p:=p) rfl (by omega)
    rw [s1,s2]
    by_cases h:∃ l,Zr0 p l
    · obtain ⟨l,hl⟩:=h
      obtain ⟨rfl,rfl⟩:=y1 l hl
      obtain ⟨rfl,rfl⟩:=y2 _ hl
      have hi:=Z8j.2 hl
      unfold Z59
      rw [hi]
      exact ⟨g2,0,rfl,rfl⟩
    · have no:∀ g,isL g p=false:=fun g=>by
        cases hi:isL g p with
        | false=>rfl
        | true=>exact absurd ⟨g,Z8j.1 hi⟩ h
      unfold Z59
      rw [no,no,Yuv,Yuv]
      exact ⟨Zdz,4,rfl,rfl⟩
end Cod
namespace Cod
open Go
theorem Z8k {e:Ety} (h:e.name.length≤1000000000000):S E F.Zap [.agg e.cells] []=some (.str (Zfl e),[]):=by
  rw [S_of Zu2 rfl rfl]
  unfold Zfl
  by_cases hm:e.mode=16384
  · rw [if_pos hm]
    simp -dsimp (disch:=first|omega|(simp only [A3]<;>omega)|fail) only [L.Zap,go_sem,reduceIte,reduceCtorEq,A9,B0,B1,B2,B3,B4,B5,B6,B7,B8,B9,C0,C1,C2,C3,C4,C5,C6,C7,A2,hm]
  · rw [if_neg hm]
    simp -dsimp (disch:=first|omega|(simp only [A3]<;>omega)|fail) only [L.Zap,go_sem,reduceIte,reduceCtorEq,A9,B0,B1,B2,B3,B4,B5,B6,B7,B8,B9,C0,C1,C2,C3,C4,C5,C6,C7,A2,hm]
theorem Yd2 {a b:Ety} (ha:a.name.length≤1000000000000) (hb:b.name.length≤1000000000000):S E F.X6 [.agg a.cells,.agg b.cells] []=some (.int .i64 (Zo5 (Zfl a) (Zfl b)),[]):=by
  have h1:=Z8k ha
  have h2:=Z8k hb
  rw [S_of Zug rfl rfl]
  unfold Zo5
  generalize Zfl a=x at *
  generalize Zfl b=y at *
  by_cases he:x=y
  · subst he
    have hs:(x==x)=true:=by simp
    simp -dsimp (disch:=first|omega|(simp only [A3]<;>omega)|fail) only [L.X6,go_sem,reduceIte,reduceCtorEq,A9,B0,B1,B2,B3,B4,B5,B6,B7,B8,B9,C0,C1,C2,C3,C4,C5,C6,C7,A2,h1,h2,Zra,hs,Yuf]
  · have hs:(x==y)=false:=by simp [he]
    rw [if_neg he]
    cases c1:Op.bytesLess x y<;>simp -dsimp (disch:=first|omega|(simp only [A3]<;>omega)|fail) only [L.X6,go_sem,reduceIte,reduceCtorEq,A9,B0,B1,B2,B3,B4,B5,B6,B7,B8,B9,C0,C1,C2,C3,C4,C5,C6,C7,A2,h1,h2,c1,hs,Yug]
end Cod
namespace Cod
open Go
def mkT (v:Int) (n d:List UInt8):Ety:=if h:d.length=32 then ⟨v,n,d,h⟩ else default
theorem Zsc {v:Int} {n d:List UInt8} (h:d.length=32):(mkT v n d).cells=.int .i64 v::.str n::A0 d:=by unfold mkT;rw [dif_pos h];rfl
theorem Za9 (e:Ety) (l:List Ety):G9 (e::l)=Zjr e++G9 l:=rfl
theorem Z1o {l:List Ety} {i:Nat} (h:i<l.length):l.drop i=eat l i::l.drop (i+1):=by
  rw [Yt7 h];simp [eat,List.getD,h]
theorem Yl3 {l:List Ety} {B:Nat} (h:∀ i,(eat l i).name.length≤B):(G9 l).length≤l.length*(B+60):=by
  have:∀ m i,i+m=l.length→(G9 (l.drop i)).length≤m*(B+60):=by
    intro m
    induction m with
    | zero=>intro i hi;rw [List.drop_of_length_le (by omega)];simp [G9]
    | succ m ih =>
      intro i hi
      rw [Z1o (by omega),Za9,Ysv,Zlp,Nat.succ_mul]
      have:=ih (i+1) (by omega)
      have:=h i
      have:=Zhu (eat l i).mode
      omega
  simpa using this l.length 0 (by omega)
theorem Yl4 {l:List Ety} {B:Nat} (hb:∀ i,(eat l i).name.length≤B) (hB:B≤1000000000) (hl:l.length≤4096) (hm:∀ i,-9223372036854775808≤(eat l i).mode∧(eat l i).mode≤9223372036854775807):∀ (m i:Nat) (p:List UInt8),i+m=l.length→p.length≤i*(B+60) →
    X E [.tmp 2] (.c L.K3.x0::.lp [3,7,8,9] L.K3.x0::.blk 0::[.c L.K3.r0]) ⟨[(3,.buf (.s 1000000 0) 0 0 p.length 1),(7,.lst (P8 l) l.length),(8,.int .i64 l.length),(9,.int .i64 i)],[(.s 1000000 0,⟨0,true,true,false,A0 p⟩)]⟩ =
    some (.buf (.r 0) 0 0 (p++G9 (l.drop i)).length 1,[(.r 0,⟨0,true,true,false,A0 (p++G9 (l.drop i))⟩)]):=by
  intro m
  induction m with
  | zero =>
    intro i p hi hp
    obtain rfl:i=l.length:=by omega
    rw [G8 L.K3.x0.eq_1,Yui,show G9 []=[] from rfl,Yuh]
    simp -dsimp (disch:=first|omega|(simp only [A3,A4,A1]<;>omega)|fail) only [go_sem,reduceIte,reduceCtorEq,A9,B0,B1,B2,B3,B4,B5,B6,B7,B8,B9,C0,C1,C2,C3,C4,C5,C6,C7,A2,BYs,L.K3.r0]
  | succ m ih =>
    intro i p hi hp
    have hlt:i<l.length:=by omega
    have hf:=Zjk (hm i).1 (hm i).2
    have hol:=Zhu (eat l i).mode
    have hnl:=hb i
    have hid:=(eat l i).hid
    have hpp:p.length≤4096*(B+60):=Nat.le_trans hp (Yst _ (by omega))
    have h1:=ih (i+1) (p++Zjr (eat l i)) (by omega) (by rw [Ysv,Zlp,Nat.succ_mul];omega)
    simp only [Yuj,Yuk] at h1
    rw [Ysw,←Za9,←Z1o hlt] at h1
    rw [G8 L.K3.x0.eq_1,←h1]
    have e:p++Zjr (eat l i)=p++(Q2 (eat l i).mode++[32]++(eat l i).name++[0])++(eat l i).id:=by unfold Zjr;simp only [Ysw]
    rw [e]
    have hln:(p++(Q2 (eat l i).mode++[32]++(eat l i).name++[0])++(eat l i).id).length=p.length+(Q2 (eat l i).mode++[32]++(eat l i).name++[0]).length+32:=by rw [Ysv,Ysv,hid]
    simp -dsimp (disch:=first|omega|(simp only [A3,A4,A1]<;>omega)|fail) only [go_sem,reduceIte,reduceCtorEq,A9,B0,B1,B2,B3,B4,B5,B6,B7,B8,B9,C0,C1,C2,C3,C4,C5,C6,C7,A2,BYs,hf,Yju,hid]
    rw [hln]
theorem Z1p {l:List Ety} {B:Nat} (hb:∀ i,(eat l i).name.length≤B) (hB:B≤1000000000) (hl:l.length≤4096) (hm:∀ i,-9223372036854775808≤(eat l i).mode∧(eat l i).mode≤9223372036854775807) :
    S E F.K3 [.lst (P8 l) l.length] []=some (.buf (.r 0) 0 0 (G9 l).length 1,[(.r 0,⟨0,true,true,false,A0 (G9 l)⟩)]):=by
  have h:=Yl4 hb hB hl hm l.length 0 [] (by omega) (by simp)
  simp only [Yuk,Ytn,Ytw,Yth] at h
  rw [Zdl] at h
  rw [S_of Ztr rfl rfl]
  simp -dsimp (disch:=first|omega|(simp only [A3,A4,A1]<;>omega)|fail) only [L.K3,go_sem,reduceIte,reduceCtorEq,A9,B0,B1,B2,B3,B4,B5,B6,B7,B8,B9,C0,C1,C2,C3,C4,C5,C6,C7,A2,BYs,h]
def tw (l:List Ety):Nat→Nat→Bool
  | 0,_=>false
  | m+1,i=>decide ((eat l i).name∈(l.take i).map (·.name))||tw l m (i+1)
def twI (l:List Ety) (i:Nat):Nat→Nat→Bool
  | 0,_=>false
  | m+1,j=>decide ((eat l i).name=(eat l j).name)||twI l i m (j+1)
theorem Zw6 {l:List Ety} {i:Nat} (h:i<l.length):(l.take (i+1)).map (·.name)=(l.take i).map (·.name)++[(eat l i).name]:=by
  rw [Yvd h,List.map_append]
  simp [eat,List.getD,h]
theorem Yrm {l:List Ety} {i:Nat} (hi:i≤l.length):∀ (m j:Nat),j+m=i→(twI l i m j||decide ((eat l i).name∈(l.take j).map (·.name)))=decide ((eat l i).name∈(l.take i).map (·.name)):=by
  intro m
  induction m with
  | zero => intro j h; obtain rfl : j = i := by omega
            rw [twI,Yup]
  | succ m ih =>
    intro j h
    rw [←ih (j+1) (by omega),Zw6 (by omega),twI]
    cases twI l i m (j+1)
    · by_cases h1:(eat l i).name=(eat l j).name<;>by_cases h2:(eat l i).name∈(l.take j).map (·.name)<;>simp [h1,h2]<;>simp_all
    · simp
theorem tw_l1 {l:List Ety} (hl:l.length≤4096) {i:Nat} (hi:i<l.length):∀ (m j:Nat),j+m=i →
    X E [.tmp 2] (.c L.F0.x1::.lp [0,3,6,7,13,14] L.F0.x1::.blk 2::.blk 1::.c L.F0.r0::.lp [0,6,7] L.F0.x0::.blk 0::[.c L.F0.r1]) ⟨[(0,.lst (P8 l) l.length),(3,.int .i64 i),(6,.int .i64 l.length),(7,.int .i64 i),(13,.int .i64 i),(14,.int .i64 j)],[]⟩ =
    if twI l i m j=true then some (.bool true,[]) else X E [.tmp 2] (.c L.F0.x0::.lp [0,6,7] L.F0.x0::.blk 0::[.c L.F0.r1]) ⟨[(0,.lst (P8 l) l.length),(6,.int .i64 l.length),(7,.int .i64 ((i+1:Nat):Int))],[]⟩:=by
  intro m
  induction m with
  | zero =>
    intro j h
    obtain rfl:j=i:=by omega
    rw [G8 L.F0.x1.eq_1,twI]
    simp -dsimp (disch:=first|omega|(simp only [A3,A4,A1]<;>omega)|fail) only [go_sem,reduceIte,reduceCtorEq,A9,B0,B1,B2,B3,B4,B5,B6,B7,B8,B9,C0,C1,C2,C3,C4,C5,C6,C7,A2,L.F0.r0]
    rfl
  | succ m ih =>
    intro j h
    have h1:=ih (j+1) (by omega)
    simp only [Yuj,Yuk] at h1
    have g1:(P8 l)[i*34+1]? = some (.str (eat l i).name):=(Z7w hi (by omega)).trans (Yjs _)
    have g2:(P8 l)[j*34+1]? = some (.str (eat l j).name):=(Z7w (by omega) (by omega)).trans (Yjs _)
    rw [G8 L.F0.x1.eq_1,twI]
    by_cases hn:(eat l i).name=(eat l j).name
    · have hb:((eat l i).name==(eat l j).name)=true:=by simp [hn]
      rw [decide_eq_true hn,Yva,if_pos rfl]
      simp -dsimp (disch:=first|omega|(simp only [A3,A4,A1]<;>omega)|fail) only [go_sem,reduceIte,reduceCtorEq,A9,B0,B1,B2,B3,B4,B5,B6,B7,B8,B9,C0,C1,C2,C3,C4,C5,C6,C7,A2,g1,g2,hb]
    · have hb:((eat l i).name==(eat l j).name)=false:=by simp [hn]
      rw [decide_eq_false hn,Yup]
      simp -dsimp (disch:=first|omega|(simp only [A3,A4,A1]<;>omega)|fail) only [go_sem,reduceIte,reduceCtorEq,A9,B0,B1,B2,B3,B4,B5,B6,B7,B8,B9,C0,C1,C2,C3,C4,C5,C6,C7,A2,g1,g2,hb,h1]
      rfl
theorem tw_l0 {l:List Ety} (hl:l.length≤4096):∀ (m i:Nat),i+m=l.length →
    X E [.tmp 2] (.c L.F0.x0::.lp [0,6,7] L.F0.x0::.blk 0::[.c L.F0.r1]) ⟨[(0,.lst (P8 l) l.length),(6,.int .i64 l.length),(7,.int .i64 i)],[]⟩=some (.bool (tw l m i),[]):=by
  intro m
  induction m with
  | zero =>
    intro i h
    obtain rfl:i=l.length:=by omega
    rw [G8 L.F0.x0.eq_1,tw]
    simp -dsimp (disch:=first|omega|(simp only [A3,A4,A1]<;>omega)|fail) only [go_sem,reduceIte,reduceCtorEq,A9,B0,B1,B2,B3,B4,B5,B6,B7,B8,B9,C0,C1,C2,C3,C4,C5,C6,C7,A2,L.F0.r1]
  | succ m ih =>
    intro i h
    have h1:=tw_l1 hl (i:=i) (by omega) i 0 (by omega)
    have hm:=Yrm (l:=l) (i:=i) (by omega) i 0 (by omega)
    simp only [Yuk] at h1
    rw [ih (i+1) (by omega)] at h1
    simp only [Yu5,List.map_nil,List.not_mem_nil,decide_false,Yvm] at hm
    rw [G8 L.F0.x0.eq_1,tw,←hm]
    simp -dsimp (disch:=first|omega|(simp only [A3,A4,A1]<;>omega)|fail) only [go_sem,reduceIte,reduceCtorEq,A9,B0,B1,B2,B3,B4,B5,B6,B7,B8,B9,C0,C1,C2,C3,C4,C5,C6,C7,A2,Nat.sub_zero]
    rw [h1]
    cases twI l i i 0<;>simp
theorem Yl5 {l:List Ety} (hl:l.length≤4096):S E F.F0 [.lst (P8 l) l.length] []=some (.bool (tw l l.length 0),[]):=by
  have h:=tw_l0 hl l.length 0 (by omega)
  simp only [Yuk] at h
  rw [S_of Zui rfl rfl]
  simp -dsimp (disch:=first|omega|(simp only [A3,A4,A1]<;>omega)|fail) only [L.F0,go_sem,reduceIte,reduceCtorEq,A9,B0,B1,B2,B3,B4,B5,B6,B7,B8,B9,C0,C1,C2,C3,C4,C5,C6,C7,A2,h]
theorem Yrn (m:Int):S E F.S5 [.int .i64 m] []=some (.bool (Zb1 m),[]):=by
  rw [S_of Zuf rfl rfl]
  unfold Zb1
  by_cases a:m=16384
  · simp -dsimp (disch:=first|omega|(simp only [A3,A4,A1]<;>omega)|fail) only [L.S5,go_sem,reduceIte,reduceCtorEq,A9,B0,B1,B2,B3,B4,B5,B6,B7,B8,B9,C0,C1,C2,C3,C4,C5,C6,C7,A2,a]
  · by_cases b:m=33188
    · simp -dsimp (disch:=first|omega|(simp only [A3,A4,A1]<;>omega)|fail) only [L.S5,go_sem,reduceIte,reduceCtorEq,A9,B0,B1,B2,B3,B4,B5,B6,B7,B8,B9,C0,C1,C2,C3,C4,C5,C6,C7,A2,a,b]
    · by_cases c:m=33261
      · simp -dsimp (disch:=first|omega|(simp only [A3,A4,A1]<;>omega)|fail) only [L.S5,go_sem,reduceIte,reduceCtorEq,A9,B0,B1,B2,B3,B4,B5,B6,B7,B8,B9,C0,C1,C2,C3,C4,C5,C6,C7,A2,a,b,c]
      · by_cases d:m=40960
        · simp -dsimp (disch:=first|omega|(simp only [A3,A4,A1]<;>omega)|fail) only [L.S5,go_sem,reduceIte,reduceCtorEq,A9,B0,B1,B2,B3,B4,B5,B6,B7,B8,B9,C0,C1,C2,C3,C4,C5,C6,C7,A2,a,b,c,d]
        · simp -dsimp (disch:=first|omega|(simp only [A3,A4,A1]<;>omega)|fail) only [L.S5,go_sem,reduceIte,reduceCtorEq,A9,B0,B1,B2,B3,B4,B5,B6,B7,B8,B9,C0,C1,C2,C3,C4,C5,C6,C7,A2,a,b,c,d]
def Z6m (n f d:Bool):Int:=if n then 3 else if f then 4 else if d then 8 else 0
theorem Yd3 (n f d a b c g:Bool):Y7 [Z6m n f d,if a then 3 else 0,if b then 4 else 0,if c then 4 else 0,if g then 8 else 0]=Z6m (n||a) (f||b||c) (d||g):=by
  cases n<;>cases f<;>cases d<;>cases a<;>cases b<;>cases c<;>cases g<;>rfl
def ordB (l:List Ety) (i:Nat):Bool:=decide (0<i)&&decide (0≤Zo5 (Zfl (eat l (i-1))) (Zfl (eat l i)))
def nmI (l:List Ety):Nat→Nat→Bool→Bool
  | 0,_,n=>n
  | m+1,i,n=>nmI l m (i+1) (n || !Q1 (eat l i).name)
def fmI (l:List Ety):Nat→Nat→Bool→Bool
  | 0,_,f=>f
  | m+1,i,f=>fmI l m (i+1) (f || !Zb1 (eat l i).mode||ordB l i)
theorem Yd4 (l:List Ety):∀ (m i z:Nat) (n f d:Bool),(Zh5 l m i (Z6m n f d) z).1=Z6m (nmI l m i n) (fmI l m i f) (d||tw l m i):=by
  intro m
  induction m with
  | zero=>intro i z n f d;rw [Zh5,nmI,fmI,tw,Yvm]
  | succ m ih =>
    intro i z n f d
    have e:Y7 [Z6m n f d,Zpv (eat l i),Zpw (eat l i),Zg6 l i,Zno l i]=Z6m (n || !Q1 (eat l i).name) (f || !Zb1 (eat l i).mode||ordB l i) (d||decide ((eat l i).name∈(l.take i).map (·.name))):=Yd3 _ _ _ _ _ _ _
    rw [Zh5,e,ih,nmI,fmI,tw]
    simp only [Bool.or_assoc]
def errT (n f d s:Bool):Int:=Y7 [if n then 3 else 0,if f then 4 else 0,if d then 8 else 0,if s then 2 else 0]
theorem Z8l (l:List Ety) (h:l.length≤4096):Zel l=errT (nmI l l.length 0 false) (fmI l l.length 0 false) (tw l l.length 0) (decide (1048576<(G9 l).length)):=by
  have h2:=Z1k l l.length 0 0 0 (by omega)
  have h1:=Yd4 l l.length 0 0 false false false
  rw [show Z6m false false false=0 from rfl,Yup] at h1
  rw [Zel,if_neg (by omega),h1,h2,Ysy,Ytn]
  generalize nmI l l.length 0 false=a
  generalize fmI l l.length 0 false=b
  generalize tw l l.length 0=c
  generalize decide (1048576<(G9 l).length)=d
  cases a<;>cases b<;>cases c<;>cases d<;>rfl
theorem if_e (b:Bool) (e:Int):S E F.I8 [.bool b,.int .i64 e] []=some (.int .i64 (if b then e else 0),[]):=Zhz
theorem Yl6 {l:List Ety} {B:Nat} (hb:∀ i,(eat l i).name.length≤B) (hB:B≤1000000000) (hl:l.length≤4096) (k:List It):∀ (m i:Nat) (n f:Bool),i+m=l.length →
    X E [.tmp 2] (.c L.K2.x0::.lp [0,3,4,10,11,12] L.K2.x0::.blk 0::k) ⟨[(0,.lst (P8 l) l.length),(3,.bool n),(4,.bool f),(10,.lst (P8 l) l.length),(11,.int .i64 l.length),(12,.int .i64 i)],[]⟩ =
    X E [.tmp 2] k ⟨[(0,.lst (P8 l) l.length),(3,.bool (nmI l m i n)),(4,.bool (fmI l m i f)),(10,.lst (P8 l) l.length),(11,.int .i64 l.length),(12,.int .i64 l.length),(13,.bool false)],[]⟩:=by
  intro m
  induction m with
  | zero =>
    intro i n f h
    obtain rfl:i=l.length:=by omega
    rw [G8 L.K2.x0.eq_1,nmI,fmI]
    simp -dsimp (disch:=first|omega|(simp only [A3,A4,A1]<;>omega)|fail) only [go_sem,reduceIte,reduceCtorEq,A9,B0,B1,B2,B3,B4,B5,B6,B7,B8,B9,C0,C1,C2,C3,C4,C5,C6,C7,A2]
  | succ m ih =>
    intro i n f h
    have hlt:i<l.length:=by omega
    have h1:=ih (i+1) (n || !Q1 (eat l i).name) (f || !Zb1 (eat l i).mode||ordB l i) (by omega)
    simp only [Yuj,Yuk] at h1
    have hnm:=Ykl (s:=(eat l i).name) (by have:=hb i;omega)
    have hmd:=Yrn (eat l i).mode
    have o1:=Yd2 (a:=eat l (i-1)) (b:=eat l i) (by have:=hb (i-1);omega) (by have:=hb i;omega)
    rw [G8 L.K2.x0.eq_1,nmI,fmI,←h1]
    unfold ordB
    by_cases hi:0<i
    · have e1:((i:Int)-1).toNat=i-1:=by omega
      cases n<;>cases f<;>cases hM:Zb1 (eat l i).mode<;>simp -dsimp (disch:=first|omega|(simp only [A3,A4,A1]<;>omega)|fail) only [go_sem,reduceIte,reduceCtorEq,A9,B0,B1,B2,B3,B4,B5,B6,B7,B8,B9,C0,C1,C2,C3,C4,C5,C6,C7,A2,hnm,hmd,o1,hi,e1,hM,decide_true,Bool.true_and,Yup,Yva,Yuf,Yug]
    · cases n<;>cases f<;>cases hM:Zb1 (eat l i).mode<;>simp -dsimp (disch:=first|omega|(simp only [A3,A4,A1]<;>omega)|fail) only [go_sem,reduceIte,reduceCtorEq,A9,B0,B1,B2,B3,B4,B5,B6,B7,B8,B9,C0,C1,C2,C3,C4,C5,C6,C7,A2,hnm,hmd,hi,hM,decide_false,Bool.false_and,Yup,Yva,Yvm,Yuf,Yug]
theorem Yl7 {l:List Ety} {B:Nat} (hb:∀ i,(eat l i).name.length≤B) (hB:B≤1000000000) (hm:∀ i,-9223372036854775808≤(eat l i).mode∧(eat l i).mode≤9223372036854775807) (hl:l.length≤1000000000) :
    S E F.K2 [.lst (P8 l) l.length] []=some (.int .i64 (Zel l),[]):=by
  rw [S_of Ztq rfl rfl]
  by_cases hlen:4096<l.length
  · rw [Zel,if_pos hlen]
    simp -dsimp (disch:=first|omega|(simp only [A3,A4,A1]<;>omega)|fail) only [L.K2,go_sem,reduceIte,reduceCtorEq,A9,B0,B1,B2,B3,B4,B5,B6,B7,B8,B9,C0,C1,C2,C3,C4,C5,C6,C7,A2,hlen]
  · have h:=Yl6 hb hB (by omega) [.c L.K2.r0] l.length 0 false false (by omega)
    have ht:=Yl5 (l:=l) (by omega)
    have hT:=Z1p hb hB (by omega) hm
    have hle:=Yl3 hb
    have hle2:(G9 l).length≤4096*(B+60):=Nat.le_trans hle (Yst _ (by omega))
    have hL:=Zmi (l:=[if nmI l l.length 0 false then 3 else 0,if fmI l l.length 0 false then 4 else 0,if tw l l.length 0 then 8 else 0,if decide (1048576<(G9 l).length) then 2 else 0]) (by simp)
    simp only [O8,List.map_cons,List.map_nil,Ysk,Yth] at hL
    rw [show Y7 [if nmI l l.length 0 false then 3 else 0,if fmI l l.length 0 false then 4 else 0,if tw l l.length 0 then 8 else 0,if decide (1048576<(G9 l).length) then 2 else 0]=Zel l from (Z8l l (by omega)).symm] at hL
    simp only [Yuk] at h
    have q1:=if_e (nmI l l.length 0 false) 3
    have q2:=if_e (fmI l l.length 0 false) 4
    have q3:=if_e (tw l l.length 0) 8
    have q4:S E F.I8 [.bool (decide (1048576<((G9 l).length:Int))),.int .i64 2] []=some (.int .i64 (if decide (1048576<(G9 l).length) then 2 else 0),[]):=by
      rw [show decide (1048576<((G9 l).length:Int))=decide (1048576<(G9 l).length) from decide_eq_decide.2 (by omega)];exact if_e _ _
    simp -dsimp (disch:=first|omega|(simp only [A3,A4,A1]<;>omega)|fail) only [L.K2,go_sem,reduceIte,reduceCtorEq,A9,B0,B1,B2,B3,B4,B5,B6,B7,B8,B9,C0,C1,C2,C3,C4,C5,C6,C7,A2,hlen]
    rw [h]
    generalize nmI l l.length 0 false=a1 at *
    generalize fmI l l.length 0 false=a2 at *
    generalize tw l l.length 0=a3 at *
    generalize (if a1=true then (3:Int) else 0)=b1 at *
    generalize (if a2=true then (4:Int) else 0)=b2 at *
    generalize (if a3=true then (8:Int) else 0)=b3 at *
    generalize (if decide (1048576<(G9 l).length)=true then (2:Int) else 0)=b4 at *
    simp -dsimp (disch:=first|omega|(simp only [A3,A4,A1]<;>omega)|fail) only [L.K2.r0,go_sem,reduceIte,reduceCtorEq,A9,B0,B1,B2,B3,B4,B5,B6,B7,B8,B9,C0,C1,C2,C3,C4,C5,C6,C7,A2,BYs,q1,q2,q3,q4,ht,hT,hL]
end Cod
namespace Cod
open Go
def ocS (v:Int) (c:UInt8):Int:=8*v+((c.toNat:Int)-48)
def ocL:List UInt8→Int→Int
  | [],v=>v
  | c::r,v=>if c.toNat<48∨55<c.toNat then -1 else ocL r (ocS v c)
def Zjs (s:List UInt8):Int:=if s=[] then 0 else if 6<s.length then -1 else ocL s 0
theorem oc_l0 {s:List UInt8} (hs:s.length≤6):∀ (m i:Nat) (v:Int),i+m=s.length→0≤v→v<8^i →
    X E [.tmp 2] (.c L.G5.x0::.lp [0,3,4] L.G5.x0::.blk 0::[.c L.G5.r0]) ⟨[(0,.str s),(3,.int .i64 v),(4,.int .i64 i)],[]⟩=some (.int .i64 (ocL (s.drop i) v),[]):=by
  intro m
  induction m with
  | zero =>
    intro i v hi h0 h1
    obtain rfl:i=s.length:=by omega
    rw [G8 L.G5.x0.eq_1,Yui,ocL]
    simp -dsimp (disch:=first|omega|(simp only [A3,A4,A1]<;>omega)|fail) only [go_sem,reduceIte,reduceCtorEq,A9,B0,B1,B2,B3,B4,B5,B6,B7,B8,B9,C0,C1,C2,C3,C4,C5,C6,C7,A2,L.G5.r0]
  | succ m ih =>
    intro i v hi h0 h1
    have hp:i<s.length:=by omega
    have hd:s.drop i=s.getD i 0::s.drop (i+1):=by
      rw [Yt7 hp];simp [hp]
    rw [G8 L.G5.x0.eq_1,hd,ocL]
    have hb:=O4 s i
    have he:bat s i=((s.getD i 0).toNat:Int):=rfl
    have hpow:(8:Int)^i≤8^6:=by exact_mod_cast Yvn (by omega) (by omega)
    have hS:ocS v (s.getD i 0)=8*v+(bat s i-48):=rfl
    rw [hS]
    by_cases hc:(s.getD i 0).toNat<48∨55<(s.getD i 0).toNat
    · rw [if_pos hc]
      by_cases hc1:bat s i<48
      · simp -dsimp (disch:=first|omega|(simp only [A3,A4,A1]<;>omega)|fail) only [go_sem,reduceIte,reduceCtorEq,A9,B0,B1,B2,B3,B4,B5,B6,B7,B8,B9,C0,C1,C2,C3,C4,C5,C6,C7,A2,hp,hc1]
      · have hc2:55<bat s i:=by rw [he] at hc1 ⊢;omega
        simp -dsimp (disch:=first|omega|(simp only [A3,A4,A1]<;>omega)|fail) only [go_sem,reduceIte,reduceCtorEq,A9,B0,B1,B2,B3,B4,B5,B6,B7,B8,B9,C0,C1,C2,C3,C4,C5,C6,C7,A2,hp,hc1,hc2]
    · rw [if_neg hc]
      have hc1:¬ bat s i<48:=by rw [he];omega
      have hc2:¬ 55<bat s i:=by rw [he];omega
      have h1:=ih (i+1) (8*v+(bat s i-48)) (by omega) (by omega) (by rw [Int.pow_succ];omega)
      simp only [Yuj,Yuk] at h1
      rw [←h1]
      have hw:IntKind.u8.wrap (bat s i-48)=bat s i-48:=by rw [Zcp];omega
      simp -dsimp (disch:=first|omega|(simp only [A3,A4,A1]<;>omega)|fail) only [go_sem,reduceIte,reduceCtorEq,A9,B0,B1,B2,B3,B4,B5,B6,B7,B8,B9,C0,C1,C2,C3,C4,C5,C6,C7,A2,hp,hc1,hc2,hw]
theorem Yl8 {s:List UInt8}:S E F.G5 [.str s] []=some (.int .i64 (Zjs s),[]):=by
  rw [S_of Zul rfl rfl]
  unfold Zjs
  by_cases h0:s=[]
  · subst h0
    simp -dsimp (disch:=first|omega|(simp only [A3,A4,A1]<;>omega)|fail) only [L.G5,L.G5.x0,L.G5.r0,go_sem,reduceIte,reduceCtorEq,A9,B0,B1,B2,B3,B4,B5,B6,B7,B8,B9,C0,C1,C2,C3,C4,C5,C6,C7,A2]
  · rw [if_neg h0]
    have hpos:0<s.length:=by cases s with|nil=>exact absurd rfl h0|cons=>simp
    by_cases h1:6<s.length
    · rw [if_pos h1]
      have hb:=O4 s 0
      by_cases hc1:bat s 0<48
      · simp -dsimp (disch:=first|omega|(simp only [A3,A4,A1]<;>omega)|fail) only [L.G5,L.G5.x0,go_sem,reduceIte,reduceCtorEq,A9,B0,B1,B2,B3,B4,B5,B6,B7,B8,B9,C0,C1,C2,C3,C4,C5,C6,C7,A2,hpos,hc1]
      · by_cases hc2:55<bat s 0
        · simp -dsimp (disch:=first|omega|(simp only [A3,A4,A1]<;>omega)|fail) only [L.G5,L.G5.x0,go_sem,reduceIte,reduceCtorEq,A9,B0,B1,B2,B3,B4,B5,B6,B7,B8,B9,C0,C1,C2,C3,C4,C5,C6,C7,A2,hpos,hc1,hc2]
        · simp -dsimp (disch:=first|omega|(simp only [A3,A4,A1]<;>omega)|fail) only [L.G5,L.G5.x0,go_sem,reduceIte,reduceCtorEq,A9,B0,B1,B2,B3,B4,B5,B6,B7,B8,B9,C0,C1,C2,C3,C4,C5,C6,C7,A2,hpos,hc1,hc2,h1]
    · rw [if_neg h1]
      have h2:=oc_l0 (s:=s) (by omega) s.length 0 0 (by omega) (by omega) (by simp)
      simp only [Yuk,Ytn] at h2
      simp -dsimp (disch:=first|omega|(simp only [A3,A4,A1]<;>omega)|fail) only [L.G5,go_sem,reduceIte,reduceCtorEq,A9,B0,B1,B2,B3,B4,B5,B6,B7,B8,B9,C0,C1,C2,C3,C4,C5,C6,C7,A2,h2]
def spI (l:List UInt8) (c:UInt8):Nat→Nat→Nat
  | 0,i=>i
  | m+1,i=>if l.getD i 0=c then i else spI l c m (i+1)
theorem Yl9 (l:List UInt8) (c:UInt8):∀ (m i:Nat),i≤spI l c m i∧spI l c m i≤i+m:=by
  intro m
  induction m with
  | zero=>intro i;simp [spI]
  | succ m ih=>intro i;rw [spI];have:=ih (i+1);split<;>omega
theorem Z8m {l:List UInt8} {i:Nat} (c:UInt8) {n:Int} (h:(c.toNat:Int)=n):(bat l i != n) = !decide (l.getD i 0=c):=by
  have e:bat l i=((l.getD i 0).toNat:Int):=rfl
  rw [e,←h]
  by_cases hc:l.getD i 0=c
  · rw [hc,decide_eq_true rfl];simp
  · have h2:¬ ((l.getD i 0).toNat:Int)=c.toNat:=fun e=>hc (UInt8.toNat_inj.1 (by omega))
    rw [decide_eq_false hc]
    simpa [bne_iff_ne] using h2
theorem nx_l0 {l:List UInt8} (hl:l.length≤1048576) (k:List It):∀ (m i:Nat),i+m=l.length→∃ v,
    X E [.cell 2 (some 34),.tmp 3,.tmp 4] (.c L.E8.x0::.lp [0,2,5] L.E8.x0::.blk 0::k) ⟨[(0,.lst (A0 l) l.length),(2,.ref (.s 1000000 0) 0 0),(5,.int .i64 i)],[(.s 1000000 0,⟨0,true,true,true,(default:Ety).cells⟩)]⟩ =
    X E [.cell 2 (some 34),.tmp 3,.tmp 4] k ⟨[(0,.lst (A0 l) l.length),(2,.ref (.s 1000000 0) 0 0),(5,.int .i64 (spI l 32 m i)),(19,v)],[(.s 1000000 0,⟨0,true,true,true,(default:Ety).cells⟩)]⟩:=by
  intro m
  induction m with
  | zero =>
    intro i hi
    obtain rfl:i=l.length:=by omega
    refine ⟨.bool false,?_⟩
    rw [G8 L.E8.x0.eq_1,spI]
    simp -dsimp (disch:=first|omega|(simp only [A3,A4,A1]<;>omega)|fail) only [go_sem,reduceIte,reduceCtorEq,A9,B0,B1,B2,B3,B4,B5,B6,B7,B8,B9,C0,C1,C2,C3,C4,C5,C6,C7,A2,BYs]
  | succ m ih =>
    intro i hi
    obtain ⟨v,hv⟩:=ih (i+1) (by omega)
    simp only [Yuj,Yuk] at hv
    have hlt:i<l.length:=by omega
    by_cases hc:l.getD i 0=32
    · refine ⟨.bool false,?_⟩
      have hb:(bat l i != 32)=false:=by rw [Z8m 32 (n:=32) rfl,decide_eq_true hc];rfl
      rw [G8 L.E8.x0.eq_1,spI,if_pos hc]
      simp -dsimp (disch:=first|omega|(simp only [A3,A4,A1]<;>omega)|fail) only [go_sem,reduceIte,reduceCtorEq,A9,B0,B1,B2,B3,B4,B5,B6,B7,B8,B9,C0,C1,C2,C3,C4,C5,C6,C7,A2,BYs,hb]
    · refine ⟨v,?_⟩
      have hb:(bat l i != 32)=true:=by rw [Z8m 32 (n:=32) rfl,decide_eq_false hc];rfl
      rw [G8 L.E8.x0.eq_1,spI,if_neg hc,←hv]
      simp -dsimp (disch:=first|omega|(simp only [A3,A4,A1]<;>omega)|fail) only [go_sem,reduceIte,reduceCtorEq,A9,B0,B1,B2,B3,B4,B5,B6,B7,B8,B9,C0,C1,C2,C3,C4,C5,C6,C7,A2,BYs,hb]
theorem nx_l1 {l:List UInt8} (hl:l.length≤1048576) (k:List It) {a:Nat}:∀ (m i:Nat),i+m=l.length→∃ v,
    X E [.cell 2 (some 34),.tmp 3,.tmp 4] (.c L.E8.x1::.lp [0,2,5,6] L.E8.x1::.blk 2::k) ⟨[(0,.lst (A0 l) l.length),(2,.ref (.s 1000000 0) 0 0),(5,.int .i64 a),(6,.int .i64 i)],[(.s 1000000 0,⟨0,true,true,true,(default:Ety).cells⟩)]⟩ =
    X E [.cell 2 (some 34),.tmp 3,.tmp 4] k ⟨[(0,.lst (A0 l) l.length),(2,.ref (.s 1000000 0) 0 0),(5,.int .i64 a),(6,.int .i64 (spI l 0 m i)),(33,v)],[(.s 1000000 0,⟨0,true,true,true,(default:Ety).cells⟩)]⟩:=by
  intro m
  induction m with
  | zero =>
    intro i hi
    obtain rfl:i=l.length:=by omega
    refine ⟨.bool false,?_⟩
    rw [G8 L.E8.x1.eq_1,spI]
    simp -dsimp (disch:=first|omega|(simp only [A3,A4,A1]<;>omega)|fail) only [go_sem,reduceIte,reduceCtorEq,A9,B0,B1,B2,B3,B4,B5,B6,B7,B8,B9,C0,C1,C2,C3,C4,C5,C6,C7,A2,BYs]
  | succ m ih =>
    intro i hi
    obtain ⟨v,hv⟩:=ih (i+1) (by omega)
    simp only [Yuj,Yuk] at hv
    have hlt:i<l.length:=by omega
    by_cases hc:l.getD i 0=0
    · refine ⟨.bool false,?_⟩
      have hb:(bat l i != 0)=false:=by rw [Z8m 0 (n:=0) rfl,decide_eq_true hc];rfl
      rw [G8 L.E8.x1.eq_1,spI,if_pos hc]
      simp -dsimp (disch:=first|omega|(simp only [A3,A4,A1]<;>omega)|fail) only [go_sem,reduceIte,reduceCtorEq,A9,B0,B1,B2,B3,B4,B5,B6,B7,B8,B9,C0,C1,C2,C3,C4,C5,C6,C7,A2,BYs,hb]
    · refine ⟨v,?_⟩
      have hb:(bat l i != 0)=true:=by rw [Z8m 0 (n:=0) rfl,decide_eq_false hc];rfl
      rw [G8 L.E8.x1.eq_1,spI,if_neg hc,←hv]
      simp -dsimp (disch:=first|omega|(simp only [A3,A4,A1]<;>omega)|fail) only [go_sem,reduceIte,reduceCtorEq,A9,B0,B1,B2,B3,B4,B5,B6,B7,B8,B9,C0,C1,C2,C3,C4,C5,C6,C7,A2,BYs,hb]
def mkN (v:Int) (n d:List UInt8):List AV:=.int .i64 v::.str n::A0 d
def idL (l:List UInt8) (b:Nat):Nat→Nat→List UInt8→List UInt8
  | 0,_,d=>d
  | m+1,i,d=>idL l b m (i+1) (d.set i (l.getD (b+1+i) 0))
theorem Yma {v:Int} {n d:List UInt8} {i:Nat} {x:UInt8} (h:i<d.length):over (mkN v n d) (2+i) [.int .u8 x.toNat]=mkN v n (d.set i x):=by
  unfold mkN
  have e:UInt8.ofNat ((x.toNat:Int)).toNat=x:=by simp
  rw [show 2+i=i+1+1 by omega,Zje,Zje,Zk4 h (by omega) (by have:=x.toNat_lt;omega),e]
theorem Zsd (v:Int) (n d:List UInt8):flats (mkN v n d)=true:=by simp [mkN,flats,N9,Zae]
theorem Ymb (f:Site→Nat→Option (Site × Nat)) (v:Int) (n d:List UInt8):rens f (mkN v n d)=mkN v n d:=rens_flats _ (Zsd v n d)
theorem Ymc (v:Int) (n d:List UInt8):refsOfs (mkN v n d)=[]:=by simp [mkN,refsOfs,Zar,Zah]
theorem Yd5 (v:Int) (n d:List UInt8):K4 (mkN v n d)=true:=by simp [mkN,K4,V3,Zaf]
theorem Yd6 (v:Int) (n d:List UInt8):leadss (mkN v n d)=false:=by simp [mkN,leadss,U3,Zag]
attribute [go_sem] Zsd Ymb Ymc Yd5 Yd6
theorem Z8n {v:Int} {n d:List UInt8}:(mkN v n d).length=d.length+2:=by simp [mkN,D9]
theorem nx_l2 {l:List UInt8} (hl:l.length≤1048576) (k:List It) {b:Nat} (hb:b+33≤l.length) {z:Int} {nm:List UInt8}:∀ (m i:Nat) (d:List UInt8),i+m=32→d.length=32 →
    X E [.cell 2 (some 34),.tmp 3,.tmp 4] (.c L.E8.x2::.lp [0,2,6,7,8] L.E8.x2::.blk 4::k) ⟨[(0,.lst (A0 l) l.length),(2,.ref (.s 1000000 0) 0 0),(6,.int .i64 b),(7,.ref (.s 1000000 1) 0 0),(8,.int .i64 i)],[(.s 1000000 0,⟨0,true,true,true,(default:Ety).cells⟩),(.s 1000000 1,⟨0,true,true,true,mkN z nm d⟩)]⟩ =
    X E [.cell 2 (some 34),.tmp 3,.tmp 4] k ⟨[(0,.lst (A0 l) l.length),(2,.ref (.s 1000000 0) 0 0),(6,.int .i64 b),(7,.ref (.s 1000000 1) 0 0),(8,.int .i64 32),(60,.bool false)],[(.s 1000000 0,⟨0,true,true,true,(default:Ety).cells⟩),(.s 1000000 1,⟨0,true,true,true,mkN z nm (idL l b m i d)⟩)]⟩:=by
  intro m
  induction m with
  | zero =>
    intro i d hi hd
    obtain rfl:i=32:=by omega
    rw [G8 L.E8.x2.eq_1,idL]
    simp -dsimp (disch:=first|omega|(simp only [A3,A4,A1]<;>omega)|fail) only [go_sem,reduceIte,reduceCtorEq,A9,B0,B1,B2,B3,B4,B5,B6,B7,B8,B9,C0,C1,C2,C3,C4,C5,C6,C7,A2,BYs]
    rfl
  | succ m ih =>
    intro i d hi hd
    have h1:=ih (i+1) (d.set i (l.getD (b+1+i) 0)) (by omega) (by rw [Yut];exact hd)
    simp only [Yuj,Yuk] at h1
    have e1:((b:Int)+1+i).toNat=b+1+i:=by omega
    have e2:bat l (b+1+i)=((l.getD (b+1+i) 0).toNat:Int):=rfl
    have e3:=Yma (v:=z) (n:=nm) (d:=d) (i:=i) (x:=l.getD (b+1+i) 0) (by omega)
    have e4:=Z8n (v:=z) (n:=nm) (d:=d)
    rw [hd] at e4
    rw [G8 L.E8.x2.eq_1,idL,←h1]
    simp -dsimp (disch:=first|omega|(simp only [A3,A4,A1]<;>omega)|fail) only [go_sem,reduceIte,reduceCtorEq,A9,B0,B1,B2,B3,B4,B5,B6,B7,B8,B9,C0,C1,C2,C3,C4,C5,C6,C7,A2,BYs,e1,e2,e3,e4]
theorem idL_eq {l:List UInt8} {b:Nat} (hb:b+33≤l.length):∀ (m i:Nat) (d:List UInt8),i+m=32→d.length=32→idL l b m i d=d.take i++(l.drop (b+1+i)).take m:=by
  intro m
  induction m with
  | zero=>intro i d hi hd;rw [idL,List.take_of_length_le (by omega)];simp
  | succ m ih =>
    intro i d hi hd
    rw [idL,ih (i+1) _ (by omega) (by rw [Yut];exact hd)]
    have h1:(d.set i (l.getD (b+1+i) 0)).take (i+1)=d.take i++[l.getD (b+1+i) 0]:=by
      rw [Yvd (by rw [Yut];omega),List.getElem_set_self,List.take_set_of_le (Yr4 _)]
    have h2:(l.drop (b+1+i)).take (m+1)=l.getD (b+1+i) 0::(l.drop (b+1+(i+1))).take m:=by
      rw [Yt7 (by omega),List.take_succ_cons]
      congr 1
      simp [List.getD,show b+1+i<l.length by omega]
    rw [h1,h2,Ysw]
    rfl
def Zcx (l:List UInt8):Nat:=spI l 32 l.length 0
def Zi4 (l:List UInt8):Nat:=spI l 0 (l.length-Zcx l) (Zcx l)
def Zh8 (l:List UInt8):Option (Ety × List UInt8) :=
  if Zcx l<Zi4 l∧Zi4 l+33≤l.length then some (mkT (Zjs (l.take (Zcx l))) (sub l (Zcx l+1) (Zi4 l-(Zcx l+1))) ((l.drop (Zi4 l+1)).take 32),l.drop (Zi4 l+33)) else none
theorem Yro {v:Int} {n d:List UInt8} (h:d.length=32):mkN v n d=(mkT v n d).cells:=(Zsc h).symm
theorem Ymd {l:List UInt8} (hl:l.length≤1048576):S E F.E8 [.lst (A0 l) l.length] [] =
    match Zh8 l with
    | some (e,r)=>some (.tup [.agg e.cells,.lst (A0 r) r.length,.bool true],[])
    | none=>some (.tup [.agg (default:Ety).cells,.buf (.r 0) 0 0 0 1,.bool false],[(.r 0,⟨0,true,true,false,[]⟩)]):=by
  rw [S_of Ztu rfl rfl]
  obtain ⟨v0,h0⟩:=nx_l0 hl [.c L.E8.r0] l.length 0 (by omega)
  have a1:=Yl9 l 32 l.length 0
  rw [show spI l 32 l.length 0=Zcx l from rfl] at h0 a1
  obtain ⟨v1,h1⟩:=nx_l1 hl [.c L.E8.r1] (a:=Zcx l) (l.length-Zcx l) (Zcx l) (by omega)
  have b1:=Yl9 l 0 (l.length-Zcx l) (Zcx l)
  rw [show spI l 0 (l.length-Zcx l) (Zcx l)=Zi4 l from rfl] at h1 b1
  simp only [Yuk] at h0
  unfold Zh8
  generalize Zcx l=a at *
  generalize Zi4 l=b at *
  simp -dsimp (disch:=first|omega|(simp only [A3,A4,A1]<;>omega)|fail) only [L.E8,go_sem,reduceIte,reduceCtorEq,A9,B0,B1,B2,B3,B4,B5,B6,B7,B8,B9,C0,C1,C2,C3,C4,C5,C6,C7,A2,BYs]
  rw [h0]
  simp -dsimp (disch:=first|omega|(simp only [A3,A4,A1]<;>omega)|fail) only [L.E8.r0,go_sem,reduceIte,reduceCtorEq,A9,B0,B1,B2,B3,B4,B5,B6,B7,B8,B9,C0,C1,C2,C3,C4,C5,C6,C7,A2,BYs]
  rw [h1]
  by_cases c1:a<b
  · by_cases c2:b+33≤l.length
    · rw [if_pos ⟨c1,c2⟩]
      have ho:=Yl8 (s:=l.take a)
      have e1:sub l 0 a=l.take a:=by simp [sub]
      have e7:(l.take a).length=a:=by rw [Ysb];omega
      have e8:(sub l (a+1) (b-(a+1))).length=b-(a+1):=by simp [sub];omega
      have e3:(((b:Int))+33).toNat=b+33:=by omega
      have e4:(((a:Int))+1).toNat=a+1:=by omega
      have g1:((l.drop (b+1)).take 32).length=32:=by rw [Ysb,Ysc];omega
      have g2:=idL_eq c2 32 0 (List.replicate 32 0) (by omega) (by simp)
      rw [Yu5,Ytw,Nat.add_zero] at g2
      have g3:sub l (b+33) (l.length-(b+33))=l.drop (b+33):=D5 (by omega)
      have g4:l.length-(b+33)=(l.drop (b+33)).length:=List.length_drop.symm
      have g5:sub l (b+33) (l.drop (b+33)).length=l.drop (b+33):=D5 (by rw [Ysc];omega)
      have g6:=Yro (v:=Zjs (l.take a)) (n:=sub l (a+1) (b-(a+1))) g1
      have k1:over (default:Ety).cells 0 [AV.int .i64 (Zjs (l.take a))]=mkN (Zjs (l.take a)) [] (List.replicate 32 0):=rfl
      have k2:over (mkN (Zjs (l.take a)) [] (List.replicate 32 0)) 1 [AV.str (sub l (a+1) (b-(a+1)))]=mkN (Zjs (l.take a)) (sub l (a+1) (b-(a+1))) (List.replicate 32 0):=rfl
      have k3:over (default:Ety).cells 0 (mkN (Zjs (l.take a)) (sub l (a+1) (b-(a+1))) (List.replicate 32 0))=mkN (Zjs (l.take a)) (sub l (a+1) (b-(a+1))) (List.replicate 32 0):=rfl
      have h2:=nx_l2 hl [.c L.E8.r2] c2 (z:=Zjs (l.take a)) (nm:=sub l (a+1) (b-(a+1))) 32 0 (List.replicate 32 0) (by omega) (by simp)
      rw [g2,g6] at h2
      simp only [Yuk] at h2
      simp -dsimp (disch:=first|omega|(simp only [A3,A4,A1]<;>omega)|fail) only [L.E8.r1,go_sem,reduceIte,reduceCtorEq,A9,B0,B1,B2,B3,B4,B5,B6,B7,B8,B9,C0,C1,C2,C3,C4,C5,C6,C7,A2,BYs,c1,c2,ho,e1,e3,e4,e7,e8,k1,k2,k3,Z8n,Yul,Nat.sub_zero]
      rw [h2]
      simp -dsimp (disch:=first|omega|(simp only [A3,A4,A1]<;>omega)|fail) only [L.E8.r2,go_sem,reduceIte,reduceCtorEq,A9,B0,B1,B2,B3,B4,B5,B6,B7,B8,B9,C0,C1,C2,C3,C4,C5,C6,C7,A2,BYs,e3,g4,g5]
    · rw [if_neg (fun x=>c2 x.2)]
      simp -dsimp (disch:=first|omega|(simp only [A3,A4,A1]<;>omega)|fail) only [L.E8.r1,go_sem,reduceIte,reduceCtorEq,A9,B0,B1,B2,B3,B4,B5,B6,B7,B8,B9,C0,C1,C2,C3,C4,C5,C6,C7,A2,BYs,c1,c2]
  · rw [if_neg (fun x=>c1 x.1)]
    simp -dsimp (disch:=first|omega|(simp only [A3,A4,A1]<;>omega)|fail) only [L.E8.r1,go_sem,reduceIte,reduceCtorEq,A9,B0,B1,B2,B3,B4,B5,B6,B7,B8,B9,C0,C1,C2,C3,C4,C5,C6,C7,A2,BYs,c1]
end Cod
namespace Cod
open Go
theorem Z8o (s:List UInt8) (hs:s.length≤1000000000000):∃ a b ok,S E F.R6 [.str s,.str [32]] []=some (.tup [.str a,.str b,.bool ok],[])∧a.length≤s.length∧b.length≤s.length ∧
    ((ok=true∧32∈s∧a=s.take (s.idxOf 32)∧b=s.drop (s.idxOf 32+1))∨(ok=false∧32∉s)):=by
  have h:=Z8c (c:=32) hs
  by_cases hc:(32:UInt8)∈s
  · rw [if_pos hc] at h
    exact ⟨_,_,_,h,by rw [Ysb];omega,by rw [Ysc];omega,.inl ⟨rfl,hc,rfl,rfl⟩⟩
  · rw [if_neg hc] at h
    exact ⟨_,_,_,h,Yr4 _,by simp,.inr ⟨rfl,hc⟩⟩
def Zw7 (rest:List UInt8):Option (Ety × List UInt8) :=
  if 0∈rest∧32∈rest.take (rest.idxOf 0)∧(pi8 ((rest.take (rest.idxOf 0)).take ((rest.take (rest.idxOf 0)).idxOf 32))).2=0∧32≤(rest.drop (rest.idxOf 0+1)).length then
    some (mkT (pi8 ((rest.take (rest.idxOf 0)).take ((rest.take (rest.idxOf 0)).idxOf 32))).1 ((rest.take (rest.idxOf 0)).drop ((rest.take (rest.idxOf 0)).idxOf 32+1)) ((rest.drop (rest.idxOf 0+1)).take 32),(rest.drop (rest.idxOf 0+1)).drop 32)
  else none
def ptL:Nat→List UInt8→List Ety→Option (List Ety)
  | 0,rest,acc=>if rest=[] then some acc else none
  | m+1,rest,acc=>if rest=[] then some acc else match Zw7 rest with|none=>none|some (e,r)=>if acc.length=4096 then none else ptL m r (acc++[e])
theorem bld1 (m:Int):over (default:Ety).cells 0 [AV.int .i64 m]=(Ety.mk m [] (List.replicate 32 0) (by simp)).cells:=rfl
theorem bld2 (m:Int) (n:List UInt8):over (Ety.mk m [] (List.replicate 32 0) (by simp)).cells 1 [AV.str n]=(Ety.mk m n (List.replicate 32 0) (by simp)).cells:=rfl
theorem bld3 (m:Int) (n d:List UInt8) (h:d.length=32):over (Ety.mk m n (List.replicate 32 0) (by simp)).cells 2 (A0 d)=(mkT m n d).cells:=by
  rw [Zsc h]
  show over (AV.int .i64 m::AV.str n::A0 (List.replicate 32 0)) 2 (A0 d)=_
  rw [Zje,Zje,R3 (by rw [h];simp)]
def Zcy:AV × A5:=(.tup [.buf (.r 0) 0 0 0 34,.int .i64 4],[(.r 0,⟨0,true,true,false,[]⟩)])
theorem Yrp {p:List UInt8} (k:List It) {rest:List UInt8} {acc:List Ety} (hr:rest.length≤1048576) (h0:rest≠[]) (ha:acc.length≤4096) :
    X EE [.tmp 2,.tmp 3] (.c L.G1.x0::.lp [0,4,5] L.G1.x0::.blk 0::k) ⟨[(0,.lst (A0 p) p.length),(4,.buf (.s 1000000 0) 0 0 (acc).length 34),(5,.lst (A0 rest) (rest).length)],[(.s 1000000 0,⟨0,true,true,false,P8 acc⟩)]⟩ =
    match Zw7 rest with
    | none=>some Zcy
    | some (e,r)=>if acc.length=4096 then some Zcy else X EE [.tmp 2,.tmp 3] (.c L.G1.x0::.lp [0,4,5] L.G1.x0::.blk 0::k) ⟨[(0,.lst (A0 p) p.length),(4,.buf (.s 1000000 0) 0 0 ((acc++[e])).length 34),(5,.lst (A0 r) (r).length)],[(.s 1000000 0,⟨0,true,true,false,P8 (acc++[e])⟩)]⟩:=by
  have hpos:0<rest.length:=by cases rest with|nil=>exact absurd rfl h0|cons=>simp
  have hc:=M5 Zg7 (Yq5 (l:=rest) rfl (by omega))
  rw [G8 L.G1.x0.eq_1]
  unfold Zw7 Zcy
  by_cases hz:(0:UInt8)∈rest
  · rw [if_pos hz] at hc
    have hi:=Yu6 hz
    have hth:(rest.take (rest.idxOf 0)).length=rest.idxOf 0:=by rw [Ysb];omega
    have htl:(rest.drop (rest.idxOf 0+1)).length=rest.length-(rest.idxOf 0+1):=Ysc
    generalize rest.take (rest.idxOf 0)=head at *
    generalize rest.drop (rest.idxOf 0+1)=tail at *
    obtain ⟨a,b,ok,hs,hal,hbl,hsp⟩:=Z8o head (by omega)
    have hs:=M5 Zg7 hs
    rw [←htl,←hth] at hc
    have hp:=M5 Zg7 (Yja (s:=a) (by omega))
    unfold Zzt at hp
    rcases hsp with ⟨rfl,h32,rfl,rfl⟩|⟨rfl,h32⟩
    · generalize head.take (head.idxOf 32)=a at *
      generalize head.drop (head.idxOf 32+1)=b at *
      by_cases he:(pi8 a).2=0
      · rw [if_pos he] at hp
        by_cases h5:32≤tail.length
        · rw [if_pos ⟨hz,h32,he,h5⟩]
          generalize (pi8 a).1=v at *
          have g1:(tail.take 32).length=32:=by rw [Ysb];omega
          have g2:=bld3 v b (tail.take 32) g1
          have g3:sub tail 32 (tail.drop 32).length=tail.drop 32:=D5 (by rw [Ysc];omega)
          have g6:(acc++[mkT v b (tail.take 32)]).length=acc.length+1:=by simp
          have g4:sub tail 0 32=tail.take 32:=by simp [sub]
          have g5:tail.length-32=(tail.drop 32).length:=List.length_drop.symm
          by_cases h6:acc.length=4096
          · simp -dsimp (disch:=first|omega|(simp only [A3,A4,A1]<;>omega)|fail) only [go_sem,reduceIte,reduceCtorEq,A9,B0,B1,B2,B3,B4,B5,B6,B7,B8,B9,C0,C1,C2,C3,C4,C5,C6,C7,A2,BYs,hc,hs,hp,h6]
          · simp -dsimp (disch:=first|omega|(simp only [A3,A4,A1]<;>omega)|fail) only [go_sem,reduceIte,reduceCtorEq,A9,B0,B1,B2,B3,B4,B5,B6,B7,B8,B9,C0,C1,C2,C3,C4,C5,C6,C7,A2,BYs,hc,hs,hp,h6,g1,g2,g3,g4,g5,g6,bld1,bld2,Zrc]
        · rw [if_neg (fun x=>h5 x.2.2.2)]
          simp -dsimp (disch:=first|omega|(simp only [A3,A4,A1]<;>omega)|fail) only [go_sem,reduceIte,reduceCtorEq,A9,B0,B1,B2,B3,B4,B5,B6,B7,B8,B9,C0,C1,C2,C3,C4,C5,C6,C7,A2,BYs,hc,hs,hp,h5]
      · rw [if_neg he] at hp
        rw [if_neg (fun x=>he x.2.2.1)]
        simp -dsimp (disch:=first|omega|(simp only [A3,A4,A1]<;>omega)|fail) only [go_sem,reduceIte,reduceCtorEq,A9,B0,B1,B2,B3,B4,B5,B6,B7,B8,B9,C0,C1,C2,C3,C4,C5,C6,C7,A2,BYs,hc,hs,hp]
    · rw [if_neg (fun x=>h32 x.2.1)]
      by_cases he:(pi8 a).2=0
      · rw [if_pos he] at hp
        simp -dsimp (disch:=first|omega|(simp only [A3,A4,A1]<;>omega)|fail) only [go_sem,reduceIte,reduceCtorEq,A9,B0,B1,B2,B3,B4,B5,B6,B7,B8,B9,C0,C1,C2,C3,C4,C5,C6,C7,A2,BYs,hc,hs,hp]
      · rw [if_neg he] at hp
        simp -dsimp (disch:=first|omega|(simp only [A3,A4,A1]<;>omega)|fail) only [go_sem,reduceIte,reduceCtorEq,A9,B0,B1,B2,B3,B4,B5,B6,B7,B8,B9,C0,C1,C2,C3,C4,C5,C6,C7,A2,BYs,hc,hs,hp]
  · rw [if_neg hz] at hc
    obtain ⟨a,b,ok,hs,hal,hbl,hsp⟩:=Z8o rest (by omega)
    have hs:=M5 Zg7 hs
    have hp:=M5 Zg7 (Yja (s:=a) (by omega))
    unfold Zzt at hp
    rw [if_neg (fun x=>hz x.1)]
    by_cases he:(pi8 a).2=0
    · rw [if_pos he] at hp
      simp -dsimp (disch:=first|omega|(simp only [A3,A4,A1]<;>omega)|fail) only [go_sem,reduceIte,reduceCtorEq,A9,B0,B1,B2,B3,B4,B5,B6,B7,B8,B9,C0,C1,C2,C3,C4,C5,C6,C7,A2,BYs,hc,hs,hp]
    · rw [if_neg he] at hp
      simp -dsimp (disch:=first|omega|(simp only [A3,A4,A1]<;>omega)|fail) only [go_sem,reduceIte,reduceCtorEq,A9,B0,B1,B2,B3,B4,B5,B6,B7,B8,B9,C0,C1,C2,C3,C4,C5,C6,C7,A2,BYs,hc,hs,hp]
theorem Zw8 (b:Bool) (x:Lib.NumEnd Nat) : -2147483648≤(pr8 b x).1∧(pr8 b x).1≤2147483647:=by
  cases x with
  | range=>cases b<;>exact ⟨by decide,by decide⟩
  | ok u =>
    cases b
    · by_cases h:2147483648≤u
      · rw [pr8,if_neg (by simp),if_pos h];exact ⟨by decide,by decide⟩
      · rw [pr8,if_neg (by simp),if_neg h];simp only;omega
    · by_cases h:2147483648<u
      · rw [pr8,if_pos rfl,if_pos h];exact ⟨by decide,by decide⟩
      · rw [pr8,if_pos rfl,if_neg h];simp only;omega
  | _=>exact ⟨by show (-2147483648:Int)≤0;omega,by show (0:Int)≤2147483647;omega⟩
theorem Z8p (l:List UInt8) : -2147483648≤(pi8 l).1∧(pi8 l).1≤2147483647:=by
  cases l with
  | nil=>exact ⟨by show (-2147483648:Int)≤0;omega,by show (0:Int)≤2147483647;omega⟩
  | cons c r =>
    by_cases h:c=43
    · rw [pi8,if_pos h];exact Zw8 _ _
    · by_cases h':c=45
      · rw [pi8,if_neg h,if_pos h'];exact Zw8 _ _
      · rw [pi8,if_neg h,if_neg h'];exact Zw8 _ _
theorem Z1q {rest r:List UInt8} {e:Ety} (h:Zw7 rest=some (e,r)):r.length<rest.length∧e.name.length≤rest.length ∧ -2147483648≤e.mode∧e.mode≤2147483647:=by
  unfold Zw7 at h
  split at h
  · rename_i hc
    simp only [Option.some.injEq,Prod.mk.injEq] at h
    obtain ⟨rfl,rfl⟩:=h
    obtain ⟨h1,h2,h3,h4⟩:=hc
    have hi:=Yu6 h1
    have g1:((rest.drop (rest.idxOf 0+1)).take 32).length=32:=by rw [Ysb];omega
    unfold mkT
    rw [dif_pos g1]
    refine ⟨by simp only [Ysc];omega,by simp only [Ysc,Ysb];omega,?_,?_⟩
    · exact (Z8p _).1
    · exact (Z8p _).2
  · cases h
def Sm (acc:List Ety):Prop:=(∀ e∈acc,e.name.length≤1048576 ∧ -2147483648≤e.mode∧e.mode≤2147483647)∧acc.length≤4096
theorem Zms {l:List Ety} (h:Sm l) (i:Nat):(eat l i).name.length≤1048576 ∧ -2147483648≤(eat l i).mode∧(eat l i).mode≤2147483647:=by
  unfold eat
  by_cases hi:i<l.length
  · have:=h.1 l[i] (List.getElem_mem hi)
    simpa [List.getD,hi] using this
  · rw [List.getD,List.getElem?_eq_none (by omega)]
    exact ⟨by decide,by decide,by decide⟩
theorem Yrq {l:List Ety} (h:Sm l):Zh6 l:=⟨fun i=>by have:=(Zms h i).1;omega,fun i=>by have:=(Zms h i).2;omega,by have:=h.2;omega⟩
theorem Yrr {p:List UInt8} (k:List It):∀ (m:Nat) (rest:List UInt8) (acc:List Ety),rest.length≤m→rest.length≤1048576→Sm acc→∃ v,
    X EE [.tmp 2,.tmp 3] (.c L.G1.x0::.lp [0,4,5] L.G1.x0::.blk 0::k) ⟨[(0,.lst (A0 p) p.length),(4,.buf (.s 1000000 0) 0 0 (acc).length 34),(5,.lst (A0 rest) (rest).length)],[(.s 1000000 0,⟨0,true,true,false,P8 acc⟩)]⟩ =
    match ptL m rest acc with
    | none=>some Zcy
    | some l=>X EE [.tmp 2,.tmp 3] k ⟨[(0,.lst (A0 p) p.length),(4,.buf (.s 1000000 0) 0 0 l.length 34),(5,.lst [] 0),(22,v)],[(.s 1000000 0,⟨0,true,true,false,P8 l⟩)]⟩:=by
  intro m
  induction m with
  | zero =>
    intro rest acc hr _ ha
    obtain rfl:rest=[]:=Yss (by omega)
    refine ⟨.bool false,?_⟩
    rw [G8 L.G1.x0.eq_1,ptL,if_pos rfl]
    simp -dsimp (disch:=first|omega|(simp only [A3,A4,A1]<;>omega)|fail) only [go_sem,reduceIte,reduceCtorEq,A9,B0,B1,B2,B3,B4,B5,B6,B7,B8,B9,C0,C1,C2,C3,C4,C5,C6,C7,A2,BYs,Zdl]
  | succ m ih =>
    intro rest acc hr hr2 ha
    by_cases h0:rest=[]
    · subst h0
      refine ⟨.bool false,?_⟩
      rw [G8 L.G1.x0.eq_1,ptL,if_pos rfl]
      simp -dsimp (disch:=first|omega|(simp only [A3,A4,A1]<;>omega)|fail) only [go_sem,reduceIte,reduceCtorEq,A9,B0,B1,B2,B3,B4,B5,B6,B7,B8,B9,C0,C1,C2,C3,C4,C5,C6,C7,A2,BYs,Zdl]
    · rw [Yrp k hr2 h0 ha.2,ptL,if_neg h0]
      cases hc:Zw7 rest with
      | none=>exact ⟨.bool false,rfl⟩
      | some x =>
        obtain ⟨e,r⟩:=x
        obtain ⟨l1,l2,l3,l4⟩:=Z1q hc
        by_cases h6:acc.length=4096
        · exact ⟨.bool false,by simp only [if_pos h6]⟩
        · have hsm:Sm (acc++[e]):=by
            refine ⟨fun x hx=>?_,by rw [Ysv,Yue];have:=ha.2;omega⟩
            rcases List.mem_append.1 hx with hx|hx
            · exact ha.1 x hx
            · rw [List.mem_singleton.1 hx];exact ⟨by omega,l3,l4⟩
          obtain ⟨v,hv⟩:=ih r (acc++[e]) (by omega) (by omega) hsm
          exact ⟨v,by simp only [if_neg h6];exact hv⟩
theorem ptL_sm:∀ (m:Nat) (rest:List UInt8) (acc l:List Ety),rest.length≤1048576→Sm acc→ptL m rest acc=some l→Sm l:=by
  intro m
  induction m with
  | zero =>
    intro rest acc l _ ha h
    rw [ptL] at h
    split at h
    · cases h;exact ha
    · cases h
  | succ m ih =>
    intro rest acc l hr ha h
    rw [ptL] at h
    split at h
    · cases h;exact ha
    · cases hc:Zw7 rest with
      | none=>rw [hc] at h;cases h
      | some x =>
        obtain ⟨e,r⟩:=x
        obtain ⟨l1,l2,l3,l4⟩:=Z1q hc
        rw [hc] at h
        simp only at h
        split at h
        · cases h
        · rename_i h6
          refine ih r _ l (by omega) ?_ h
          refine ⟨fun x hx=>?_,by rw [Ysv,Yue];have:=ha.2;omega⟩
          rcases List.mem_append.1 hx with hx|hx
          · exact ha.1 x hx
          · rw [List.mem_singleton.1 hx];exact ⟨by omega,l3,l4⟩
def okTr (l:List Ety):AV × A5:=(.tup [.buf (.r 0) 0 0 l.length 34,.int .i64 0],[(.r 0,⟨0,true,true,false,P8 l⟩)])
def Zw9:AV × A5:=(.tup [.buf (.r 0) 0 0 0 34,.int .i64 2],[(.r 0,⟨0,true,true,false,[]⟩)])
open Classical in
noncomputable def Z1r (p:List UInt8):AV × A5:=if 1048576<p.length then Zw9 else match ptL p.length p [] with|none=>Zcy|some l=>if Zel l=0∧G9 l=p then okTr l else Zcy
theorem Yd7 {a b:List UInt8} {n m:Nat} (hn:n=a.length) (hm:m=b.length):S E F.L4 [.lst (A0 a) n,.lst (A0 b) m] []=some (.bool (a==b),[]):=by
  rw [S_of Zkm rfl rfl]
  simp -dsimp (disch:=first|omega|(simp only [A3,A4,A1]<;>omega)|fail) only [L.L4,go_sem,reduceIte,reduceCtorEq,A9,B0,B1,B2,B3,B4,B5,B6,B7,B8,B9,C0,C1,C2,C3,C4,C5,C6,C7,A2,BYs]
theorem Zxa {p:List UInt8} {n:Nat} (hn:n=p.length) (hp:p.length≤1000000000000):S EE F.G1 [.lst (A0 p) n] []=some (Z1r p):=by
  subst hn
  rw [Zf5 Ztg rfl rfl]
  unfold Z1r
  by_cases hl:1048576<p.length
  · rw [if_pos hl]
    unfold Zw9
    simp -dsimp (disch:=first|omega|(simp only [A3,A4,A1]<;>omega)|fail) only [L.G1,go_sem,reduceIte,reduceCtorEq,A9,B0,B1,B2,B3,B4,B5,B6,B7,B8,B9,C0,C1,C2,C3,C4,C5,C6,C7,A2,BYs,hl]
  · rw [if_neg hl]
    have hsm0:Sm []:=⟨fun e he=>by simp at he,by simp⟩
    obtain ⟨v,h⟩:=Yrr (p:=p) [.c L.G1.r0] p.length p [] (Yr4 _) (by omega) hsm0
    rw [Z0e] at h
    simp only [Yth] at h
    simp -dsimp (disch:=first|omega|(simp only [A3,A4,A1]<;>omega)|fail) only [L.G1,go_sem,reduceIte,reduceCtorEq,A9,B0,B1,B2,B3,B4,B5,B6,B7,B8,B9,C0,C1,C2,C3,C4,C5,C6,C7,A2,BYs,hl]
    rw [h]
    cases hq:ptL p.length p [] with
    | none=>rfl
    | some l =>
      have hsm:=ptL_sm _ _ _ _ (by omega) hsm0 hq
      have ht:=Yl2 (Yrq hsm)
      have hll:=hsm.2
      have hbe:=M5 Zg7 (Yd7 (a:=G9 l) (b:=p) (n:=(G9 l).length) (m:=p.length) rfl rfl)
      unfold Zp0 at ht
      simp only
      by_cases he:Zel l=0
      · rw [if_pos he] at ht
        have hts:=Zh7 he
        by_cases hb:G9 l=p
        · have hbb:(G9 l==p)=true:=by simp [hb]
          rw [hbb] at hbe
          rw [if_pos ⟨he,hb⟩]
          unfold okTr
          simp -dsimp (disch:=first|omega|(simp only [A3,A4,A1]<;>omega)|fail) only [L.G1.r0,go_sem,reduceIte,reduceCtorEq,A9,B0,B1,B2,B3,B4,B5,B6,B7,B8,B9,C0,C1,C2,C3,C4,C5,C6,C7,A2,BYs,ht,hbe]
        · have hbb:(G9 l==p)=false:=by simp [hb]
          rw [hbb] at hbe
          rw [if_neg (fun x=>hb x.2)]
          unfold Zcy
          simp -dsimp (disch:=first|omega|(simp only [A3,A4,A1]<;>omega)|fail) only [L.G1.r0,go_sem,reduceIte,reduceCtorEq,A9,B0,B1,B2,B3,B4,B5,B6,B7,B8,B9,C0,C1,C2,C3,C4,C5,C6,C7,A2,BYs,ht,hbe]
      · rw [if_neg he] at ht
        rw [if_neg (fun x=>he x.1)]
        unfold Zcy
        simp -dsimp (disch:=first|omega|(simp only [A3,A4,A1]<;>omega)|fail) only [L.G1.r0,go_sem,reduceIte,reduceCtorEq,A9,B0,B1,B2,B3,B4,B5,B6,B7,B8,B9,C0,C1,C2,C3,C4,C5,C6,C7,A2,BYs,ht,he]
end Cod
namespace Cod
open Go
theorem Yrs:∀ (s:List UInt8) (k:Nat) (v:Int),0≤v→v<8^k→k+s.length≤6 → -1≤ocL s v∧ocL s v<262144:=by
  intro s
  induction s with
  | nil =>
    intro k v h0 h1 h2
    have hpow:(8:Int)^k≤8^6:=by exact_mod_cast Yvn (by omega) (by simpa using h2)
    rw [ocL]
    omega
  | cons c r ih =>
    intro k v h0 h1 h2
    rw [ocL]
    split
    · omega
    · rw [Ysk] at h2
      refine ih (k+1) _ (by unfold ocS;omega) (by unfold ocS;rw [Int.pow_succ];omega) (by omega)
theorem Yme (s:List UInt8) : -1≤Zjs s∧Zjs s<262144:=by
  unfold Zjs
  split
  · omega
  · split
    · omega
    · exact Yrs s 0 0 (by omega) (by simp) (by omega)
theorem Ymf {v:Int} {n d:List UInt8} (h:d.length=32):(mkT v n d).name=n:=by unfold mkT;rw [dif_pos h]
theorem Ymg {v:Int} {n d:List UInt8} (h:d.length=32):(mkT v n d).mode=v:=by unfold mkT;rw [dif_pos h]
theorem Zse {rest r:List UInt8} {e:Ety} (h:Zh8 rest=some (e,r)):r.length<rest.length∧e.name.length≤rest.length ∧ -2147483648≤e.mode∧e.mode≤2147483647:=by
  unfold Zh8 at h
  split at h
  · rename_i hc
    simp only [Option.some.injEq,Prod.mk.injEq] at h
    obtain ⟨rfl,rfl⟩:=h
    have g1:((rest.drop (Zi4 rest+1)).take 32).length=32:=by rw [Ysb,Ysc];omega
    have ho:=Yme (rest.take (Zcx rest))
    rw [Ymf g1,Ymg g1]
    refine ⟨by rw [Ysc];omega,by simp only [sub,Ysb,Ysc];omega,by omega,by omega⟩
  · cases h
def rpL:Nat→List UInt8→List Ety→Option (List Ety)
  | 0,rest,acc=>if rest=[] then some acc else none
  | m+1,rest,acc=>if rest=[] then some acc else match Zh8 rest with|none=>none|some (e,r)=>if acc.length=4096 then none else rpL m r (acc++[e])
theorem Yrt {p:List UInt8} (k:List It) {rest:List UInt8} {acc:List Ety} (hr:rest.length≤1048576) (h0:rest≠[]) (ha:acc.length≤4096) :
    X E [.tmp 2,.tmp 3] (.c L.F8.x0::.lp [0,4,5] L.F8.x0::.blk 0::k) ⟨[(0,.lst (A0 p) p.length),(4,.buf (.s 1000000 0) 0 0 (acc).length 34),(5,.lst (A0 rest) (rest).length)],[(.s 1000000 0,⟨0,true,true,false,P8 acc⟩)]⟩ =
    match Zh8 rest with
    | none=>some Zcy
    | some (e,r)=>if acc.length=4096 then some Zcy else X E [.tmp 2,.tmp 3] (.c L.F8.x0::.lp [0,4,5] L.F8.x0::.blk 0::k) ⟨[(0,.lst (A0 p) p.length),(4,.buf (.s 1000000 0) 0 0 ((acc++[e])).length 34),(5,.lst (A0 r) (r).length)],[(.s 1000000 0,⟨0,true,true,false,P8 (acc++[e])⟩)]⟩:=by
  have hpos:0<rest.length:=by cases rest with|nil=>exact absurd rfl h0|cons=>simp
  have hn:=Ymd hr
  rw [G8 L.F8.x0.eq_1]
  unfold Zcy
  cases hc:Zh8 rest with
  | none =>
    rw [hc] at hn
    simp only at hn
    simp -dsimp (disch:=first|omega|(simp only [A3,A4,A1]<;>omega)|fail) only [go_sem,reduceIte,reduceCtorEq,A9,B0,B1,B2,B3,B4,B5,B6,B7,B8,B9,C0,C1,C2,C3,C4,C5,C6,C7,A2,BYs,hn]
  | some x =>
    obtain ⟨e,r⟩:=x
    rw [hc] at hn
    simp only at hn
    by_cases h6:acc.length=4096
    · simp -dsimp (disch:=first|omega|(simp only [A3,A4,A1]<;>omega)|fail) only [go_sem,reduceIte,reduceCtorEq,A9,B0,B1,B2,B3,B4,B5,B6,B7,B8,B9,C0,C1,C2,C3,C4,C5,C6,C7,A2,BYs,hn,h6]
    · have g6:(acc++[e]).length=acc.length+1:=by simp
      simp -dsimp (disch:=first|omega|(simp only [A3,A4,A1]<;>omega)|fail) only [go_sem,reduceIte,reduceCtorEq,A9,B0,B1,B2,B3,B4,B5,B6,B7,B8,B9,C0,C1,C2,C3,C4,C5,C6,C7,A2,BYs,hn,h6,g6,Zrc]
theorem Yru {p:List UInt8} (k:List It):∀ (m:Nat) (rest:List UInt8) (acc:List Ety),rest.length≤m→rest.length≤1048576→Sm acc→∃ v,
    X E [.tmp 2,.tmp 3] (.c L.F8.x0::.lp [0,4,5] L.F8.x0::.blk 0::k) ⟨[(0,.lst (A0 p) p.length),(4,.buf (.s 1000000 0) 0 0 (acc).length 34),(5,.lst (A0 rest) (rest).length)],[(.s 1000000 0,⟨0,true,true,false,P8 acc⟩)]⟩ =
    match rpL m rest acc with
    | none=>some Zcy
    | some l=>X E [.tmp 2,.tmp 3] k ⟨[(0,.lst (A0 p) p.length),(4,.buf (.s 1000000 0) 0 0 l.length 34),(5,.lst [] 0),(15,v)],[(.s 1000000 0,⟨0,true,true,false,P8 l⟩)]⟩:=by
  intro m
  induction m with
  | zero =>
    intro rest acc hr _ ha
    obtain rfl:rest=[]:=Yss (by omega)
    refine ⟨.bool false,?_⟩
    rw [G8 L.F8.x0.eq_1,rpL,if_pos rfl]
    simp -dsimp (disch:=first|omega|(simp only [A3,A4,A1]<;>omega)|fail) only [go_sem,reduceIte,reduceCtorEq,A9,B0,B1,B2,B3,B4,B5,B6,B7,B8,B9,C0,C1,C2,C3,C4,C5,C6,C7,A2,BYs,Zdl]
  | succ m ih =>
    intro rest acc hr hr2 ha
    by_cases h0:rest=[]
    · subst h0
      refine ⟨.bool false,?_⟩
      rw [G8 L.F8.x0.eq_1,rpL,if_pos rfl]
      simp -dsimp (disch:=first|omega|(simp only [A3,A4,A1]<;>omega)|fail) only [go_sem,reduceIte,reduceCtorEq,A9,B0,B1,B2,B3,B4,B5,B6,B7,B8,B9,C0,C1,C2,C3,C4,C5,C6,C7,A2,BYs,Zdl]
    · rw [Yrt k hr2 h0 ha.2,rpL,if_neg h0]
      cases hc:Zh8 rest with
      | none=>exact ⟨.bool false,rfl⟩
      | some x =>
        obtain ⟨e,r⟩:=x
        obtain ⟨l1,l2,l3,l4⟩:=Zse hc
        by_cases h6:acc.length=4096
        · exact ⟨.bool false,by simp only [if_pos h6]⟩
        · have hsm:Sm (acc++[e]):=by
            refine ⟨fun x hx=>?_,by rw [Ysv,Yue];have:=ha.2;omega⟩
            rcases List.mem_append.1 hx with hx|hx
            · exact ha.1 x hx
            · rw [List.mem_singleton.1 hx];exact ⟨by omega,l3,l4⟩
          obtain ⟨v,hv⟩:=ih r (acc++[e]) (by omega) (by omega) hsm
          exact ⟨v,by simp only [if_neg h6];exact hv⟩
theorem rpL_sm:∀ (m:Nat) (rest:List UInt8) (acc l:List Ety),rest.length≤1048576→Sm acc→rpL m rest acc=some l→Sm l:=by
  intro m
  induction m with
  | zero =>
    intro rest acc l _ ha h
    rw [rpL] at h
    split at h
    · cases h;exact ha
    · cases h
  | succ m ih =>
    intro rest acc l hr ha h
    rw [rpL] at h
    split at h
    · cases h;exact ha
    · cases hc:Zh8 rest with
      | none=>rw [hc] at h;cases h
      | some x =>
        obtain ⟨e,r⟩:=x
        obtain ⟨l1,l2,l3,l4⟩:=Zse hc
        rw [hc] at h
        simp only at h
        split at h
        · cases h
        · rename_i h6
          refine ih r _ l (by omega) ?_ h
          refine ⟨fun x hx=>?_,by rw [Ysv,Yue];have:=ha.2;omega⟩
          rcases List.mem_append.1 hx with hx|hx
          · exact ha.1 x hx
          · rw [List.mem_singleton.1 hx];exact ⟨by omega,l3,l4⟩
open Classical in
noncomputable def Zng (p:List UInt8):AV × A5:=if 1048576<p.length then Zw9 else match rpL p.length p [] with|none=>Zcy|some l=>if Zel l=0∧G9 l=p then okTr l else Zcy
theorem Ymh {a b:List UInt8} {n m:Nat} (hn:n=a.length) (hm:m=b.length):S E F.S3 [.lst (A0 a) n,.lst (A0 b) m] []=some (.bool (a==b),[]):=by
  rw [S_of Zkj rfl rfl]
  simp -dsimp (disch:=first|omega|(simp only [A3,A4,A1]<;>omega)|fail) only [L.S3,go_sem,reduceIte,reduceCtorEq,A9,B0,B1,B2,B3,B4,B5,B6,B7,B8,B9,C0,C1,C2,C3,C4,C5,C6,C7,A2,BYs]
theorem Zxb {p:List UInt8} {n:Nat} (hn:n=p.length) (hp:p.length≤1000000000000):S E F.F8 [.lst (A0 p) n] []=some (Zng p):=by
  subst hn
  rw [S_of Zth rfl rfl]
  unfold Zng
  by_cases hl:1048576<p.length
  · rw [if_pos hl]
    unfold Zw9
    simp -dsimp (disch:=first|omega|(simp only [A3,A4,A1]<;>omega)|fail) only [L.F8,go_sem,reduceIte,reduceCtorEq,A9,B0,B1,B2,B3,B4,B5,B6,B7,B8,B9,C0,C1,C2,C3,C4,C5,C6,C7,A2,BYs,hl]
  · rw [if_neg hl]
    have hsm0:Sm []:=⟨fun e he=>by simp at he,by simp⟩
    obtain ⟨v,h⟩:=Yru (p:=p) [.c L.F8.r0] p.length p [] (Yr4 _) (by omega) hsm0
    rw [Z0e] at h
    simp only [Yth] at h
    simp -dsimp (disch:=first|omega|(simp only [A3,A4,A1]<;>omega)|fail) only [L.F8,go_sem,reduceIte,reduceCtorEq,A9,B0,B1,B2,B3,B4,B5,B6,B7,B8,B9,C0,C1,C2,C3,C4,C5,C6,C7,A2,BYs,hl]
    rw [h]
    cases hq:rpL p.length p [] with
    | none=>rfl
    | some l =>
      have hsm:=rpL_sm _ _ _ _ (by omega) hsm0 hq
      have hll:=hsm.2
      have ht:=Yl7 (B:=1048576) (fun i=>(Zms hsm i).1) (by omega) (fun i=>by have:=(Zms hsm i).2;omega) (by omega)
      have hT:=Z1p (B:=1048576) (fun i=>(Zms hsm i).1) (by omega) hll (fun i=>by have:=(Zms hsm i).2;omega)
      have hbe:=Ymh (a:=G9 l) (b:=p) (n:=(G9 l).length) (m:=p.length) rfl rfl
      simp only
      by_cases he:Zel l=0
      · rw [he] at ht
        have hts:=Zh7 he
        by_cases hb:G9 l=p
        · have hbb:(G9 l==p)=true:=by simp [hb]
          rw [hbb] at hbe
          rw [if_pos ⟨he,hb⟩]
          unfold okTr
          simp -dsimp (disch:=first|omega|(simp only [A3,A4,A1]<;>omega)|fail) only [L.F8.r0,go_sem,reduceIte,reduceCtorEq,A9,B0,B1,B2,B3,B4,B5,B6,B7,B8,B9,C0,C1,C2,C3,C4,C5,C6,C7,A2,BYs,ht,hT,hbe]
        · have hbb:(G9 l==p)=false:=by simp [hb]
          rw [hbb] at hbe
          rw [if_neg (fun x=>hb x.2)]
          unfold Zcy
          simp -dsimp (disch:=first|omega|(simp only [A3,A4,A1]<;>omega)|fail) only [L.F8.r0,go_sem,reduceIte,reduceCtorEq,A9,B0,B1,B2,B3,B4,B5,B6,B7,B8,B9,C0,C1,C2,C3,C4,C5,C6,C7,A2,BYs,ht,hT,hbe]
      · rw [if_neg (fun x=>he x.1)]
        unfold Zcy
        simp -dsimp (disch:=first|omega|(simp only [A3,A4,A1]<;>omega)|fail) only [L.F8.r0,go_sem,reduceIte,reduceCtorEq,A9,B0,B1,B2,B3,B4,B5,B6,B7,B8,B9,C0,C1,C2,C3,C4,C5,C6,C7,A2,BYs,ht,he]
end Cod
namespace Cod
open Go
theorem nmI_no {l:List Ety}:∀ (m i:Nat) (n:Bool),nmI l m i n=false→n=false∧∀ j,i≤j→j<i+m→Q1 (eat l j).name=true:=by
  intro m
  induction m with
  | zero=>intro i n h;exact ⟨h,fun j h1 h2=>by omega⟩
  | succ m ih =>
    intro i n h
    rw [nmI] at h
    obtain ⟨h1,h2⟩:=ih (i+1) _ h
    rw [Ys7,Yvo] at h1
    refine ⟨h1.1,fun j h3 h4=>?_⟩
    by_cases hj:j=i
    · rw [hj];exact h1.2
    · exact h2 j (by omega) (by omega)
theorem fmI_no {l:List Ety}:∀ (m i:Nat) (f:Bool),fmI l m i f=false→f=false∧∀ j,i≤j→j<i+m→Zb1 (eat l j).mode=true:=by
  intro m
  induction m with
  | zero=>intro i n h;exact ⟨h,fun j h1 h2=>by omega⟩
  | succ m ih =>
    intro i n h
    rw [fmI] at h
    obtain ⟨h1,h2⟩:=ih (i+1) _ h
    rw [Ys7,Ys7,Yvo] at h1
    refine ⟨h1.1.1,fun j h3 h4=>?_⟩
    by_cases hj:j=i
    · rw [hj];exact h1.1.2
    · exact h2 j (by omega) (by omega)
def okE (e:Ety):Prop:=Q1 e.name=true∧Zb1 e.mode=true
theorem Zxc {l:List Ety} (h:Zel l=0):l.length≤4096∧∀ e∈l,okE e:=by
  have hl:l.length≤4096:=by
    apply Classical.byContradiction
    intro hn
    unfold Zel at h
    rw [if_pos (by omega)] at h
    omega
  refine ⟨hl,?_⟩
  rw [Z8l l hl] at h
  have h1:nmI l l.length 0 false=false∧fmI l l.length 0 false=false:=by
    generalize nmI l l.length 0 false=a at *
    generalize fmI l l.length 0 false=b at *
    generalize tw l l.length 0=c at *
    generalize decide (1048576<(G9 l).length)=d at *
    revert h
    cases a<;>cases b<;>cases c<;>cases d<;>decide
  intro e he
  obtain ⟨i,hi,rfl⟩:=List.getElem_of_mem he
  have e1:eat l i=l[i]:=by simp [eat,List.getD,hi]
  exact ⟨by rw [←e1];exact (nmI_no _ _ _ h1.1).2 i (by omega) (by omega),by rw [←e1];exact (fmI_no _ _ _ h1.2).2 i (by omega) (by omega)⟩
theorem Zp3 {m:Int} (h:Zb1 m=true):pi8 (Q2 m)=(m,0)∧Zjs (Q2 m)=m∧(32:UInt8)∉Q2 m∧(0:UInt8)∉Q2 m:=by
  unfold Zb1 at h
  simp only [Bool.or_eq_true,decide_eq_true_eq] at h
  rcases h with rfl|rfl|rfl|rfl<;>decide +kernel
theorem Z1s {s:List UInt8} (h:Q1 s=true):(0:UInt8)∉s:=by
  unfold Q1 at h
  simp only [Ysj,Bool.not_eq_true',List.contains_eq_mem,decide_eq_false_iff_not] at h
  exact h.1.1.1.2
theorem Zsf (e:Ety) (r:List UInt8):Zjr e++r=(Q2 e.mode++32::e.name)++0::(e.id++r):=by
  unfold Zjr
  simp only [Ysw,Yr7,Ytw]
theorem Ymi {c:UInt8} {H T:List UInt8} (h:c∉H):(H++c::T).idxOf c=H.length:=by
  rw [List.idxOf_append,if_neg h,List.idxOf_cons_self,Ysy]
theorem Z1t (e:Ety):mkT e.mode e.name e.id=e:=by unfold mkT;rw [dif_pos e.hid]
theorem Ymj {e:Ety} (h:okE e) (r:List UInt8):Zw7 (Zjr e++r)=some (e,r):=by
  obtain ⟨m1,m2,m3,m4⟩:=Zp3 h.2
  have n0:=Z1s h.1
  have hid:=e.hid
  rw [Zsf]
  have hH:(0:UInt8)∉Q2 e.mode++32::e.name:=by
    simp only [Yun,List.mem_cons,not_or]
    exact ⟨m4,by decide,n0⟩
  have i1:=Ymi (T:=e.id++r) hH
  have i2:=Ymi (T:=e.name) m3
  have t1:((Q2 e.mode++32::e.name)++0::(e.id++r)).take (Q2 e.mode++32::e.name).length=Q2 e.mode++32::e.name:=Yu8
  have t2:((Q2 e.mode++32::e.name)++0::(e.id++r)).drop ((Q2 e.mode++32::e.name).length+1)=e.id++r:=by
    rw [←Ys2,Yu7];rfl
  have t3:(Q2 e.mode++32::e.name).take (Q2 e.mode).length=Q2 e.mode:=Yu8
  have t4:(Q2 e.mode++32::e.name).drop ((Q2 e.mode).length+1)=e.name:=by
    rw [←Ys2,Yu7];rfl
  have t5:(e.id++r).take 32=e.id:=by rw [←hid];exact Yu8
  have t6:(e.id++r).drop 32=r:=by rw [←hid];exact Yu7
  unfold Zw7
  rw [i1,t1,i2,t2,t3,t4,t5,t6,m1,Z1t]
  rw [if_pos]
  refine ⟨by simp,by simp,rfl,by rw [Ysv,hid];omega⟩
theorem Ymk {c:UInt8} {H T:List UInt8} {i0:Nat} (hH:∀ j,i0≤j→j<H.length→H.getD j 0≠c):∀ (m i:Nat),i0≤i→i≤H.length→i+m=(H++c::T).length→spI (H++c::T) c m i=H.length:=by
  intro m
  induction m with
  | zero=>intro i _ h1 h2;rw [Ysv,Ysk] at h2;omega
  | succ m ih =>
    intro i h0 h1 h2
    rw [spI]
    by_cases hi:i=H.length
    · rw [if_pos (by subst hi;simp [List.getD])];exact hi
    · have e1:(H++c::T).getD i 0=H.getD i 0:=by
        simp only [List.getD]
        rw [List.getElem?_append_left (by omega)]
      rw [e1,if_neg (hH i h0 (by omega))]
      exact ih (i+1) (by omega) (by omega) (by omega)
theorem Z8q {c:UInt8} {H:List UInt8} (h:c∉H) (j:Nat) (hj:j<H.length):H.getD j 0≠c:=by
  intro e
  apply h
  rw [←e]
  simp [List.getD,hj]
theorem Yd8 {e:Ety} (h:okE e) (r:List UInt8):Zh8 (Zjr e++r)=some (e,r):=by
  obtain ⟨m1,m2,m3,m4⟩:=Zp3 h.2
  have n0:=Z1s h.1
  have hid:=e.hid
  rw [Zsf]
  have hH:(0:UInt8)∉Q2 e.mode++32::e.name:=by
    simp only [Yun,List.mem_cons,not_or]
    exact ⟨m4,by decide,n0⟩
  have ha:Zcx ((Q2 e.mode++32::e.name)++0::(e.id++r))=(Q2 e.mode).length:=by
    unfold Zcx
    rw [Ysw,Yr7]
    exact Ymk (i0:=0) (fun j _ hj=>Z8q m3 j hj) _ 0 (Yr4 _) (by omega) (by omega)
  have hb:Zi4 ((Q2 e.mode++32::e.name)++0::(e.id++r))=(Q2 e.mode++32::e.name).length:=by
    unfold Zi4
    rw [ha]
    refine Ymk (i0:=0) (fun j _ hj=>Z8q hH j hj) _ _ (by omega) (by rw [Ysv];omega) ?_
    simp only [Ysv,Ysk]
    omega
  have hl:(Q2 e.mode++32::e.name).length=(Q2 e.mode).length+1+e.name.length:=by simp only [Ysv,Ysk];omega
  have t1:((Q2 e.mode++32::e.name)++0::(e.id++r)).take (Q2 e.mode).length=Q2 e.mode:=by
    rw [Ysw];exact Yu8
  have t2:sub ((Q2 e.mode++32::e.name)++0::(e.id++r)) ((Q2 e.mode).length+1) ((Q2 e.mode++32::e.name).length-((Q2 e.mode).length+1))=e.name:=by
    unfold sub
    rw [Ysw,←Ys2,Yu7,hl,show (Q2 e.mode).length+1+e.name.length-((Q2 e.mode).length+1)=e.name.length by omega]
    exact Yu8
  have t3:(((Q2 e.mode++32::e.name)++0::(e.id++r)).drop ((Q2 e.mode++32::e.name).length+1)).take 32=e.id:=by
    rw [←Ys2,Yu7,←hid]
    exact Yu8
  have t4:((Q2 e.mode++32::e.name)++0::(e.id++r)).drop ((Q2 e.mode++32::e.name).length+33)=r:=by
    rw [←Ys2,Yu7,show 33=1+e.id.length by omega,←Ys2]
    exact Yu7
  unfold Zh8
  rw [ha,hb,t1,t2,t3,t4,m2,Z1t,if_pos]
  refine ⟨by omega,?_⟩
  simp only [Ysv,Ysk,hid]
  omega
theorem Z1u (e:Ety):0<(Zjr e).length:=by rw [Zlp];omega
theorem Yrv:∀ (l:List Ety) (m:Nat) (acc:List Ety),(G9 l).length≤m→acc.length+l.length≤4096→(∀ e∈l,okE e)→ptL m (G9 l) acc=some (acc++l):=by
  intro l
  induction l with
  | nil =>
    intro m acc _ _ _
    cases m<;>rw [ptL,if_pos (show G9 []=[] from rfl),Yuh]
  | cons e l ih =>
    intro m acc hm ha ho
    have hp:=Z1u e
    rw [Za9,Ysv] at hm
    rw [Ysk] at ha
    cases m with
    | zero=>omega
    | succ m =>
      have hne:G9 (e::l)≠[]:=by
        intro h
        rw [Za9] at h
        have:=congrArg List.length h
        rw [Ysv,Yth] at this
        omega
      rw [ptL,if_neg hne,Za9,Ymj (ho e (Yuw ..))]
      simp only
      rw [if_neg (by omega),ih m (acc++[e]) (by omega) (by rw [Ysv,Yue];omega) (fun x hx=>ho x (Ys8 _ hx)),Ysw]
      rfl
theorem Yrw:∀ (l:List Ety) (m:Nat) (acc:List Ety),(G9 l).length≤m→acc.length+l.length≤4096→(∀ e∈l,okE e)→rpL m (G9 l) acc=some (acc++l):=by
  intro l
  induction l with
  | nil =>
    intro m acc _ _ _
    cases m<;>rw [rpL,if_pos (show G9 []=[] from rfl),Yuh]
  | cons e l ih =>
    intro m acc hm ha ho
    have hp:=Z1u e
    rw [Za9,Ysv] at hm
    rw [Ysk] at ha
    cases m with
    | zero=>omega
    | succ m =>
      have hne:G9 (e::l)≠[]:=by
        intro h
        rw [Za9] at h
        have:=congrArg List.length h
        rw [Ysv,Yth] at this
        omega
      rw [rpL,if_neg hne,Za9,Yd8 (ho e (Yuw ..))]
      simp only
      rw [if_neg (by omega),ih m (acc++[e]) (by omega) (by rw [Ysv,Yue];omega) (fun x hx=>ho x (Ys8 _ hx)),Ysw]
      rfl
def Zh9 (p:List UInt8) (l:List Ety):Prop:=Zel l=0∧G9 l=p
theorem pt_of {p:List UInt8} {l:List Ety} (h:Zh9 p l):ptL p.length p []=some l:=by
  obtain ⟨h1,h2⟩:=Zxc h.1
  have:=Yrv l (G9 l).length [] (Yr4 _) (by simpa using h1) h2
  rw [h.2] at this
  exact this
theorem rp_of {p:List UInt8} {l:List Ety} (h:Zh9 p l):rpL p.length p []=some l:=by
  obtain ⟨h1,h2⟩:=Zxc h.1
  have:=Yrw l (G9 l).length [] (Yr4 _) (by simpa using h1) h2
  rw [h.2] at this
  exact this
theorem Yml {p:List UInt8} {l:List Ety} (h:Zh9 p l) (hp:p.length≤1048576):Z1r p=okTr l:=by
  unfold Z1r
  rw [if_neg (by omega),pt_of h]
  exact if_pos h
theorem Yd9 {p:List UInt8} {l:List Ety} (h:Zh9 p l) (hp:p.length≤1048576):Zng p=okTr l:=by
  unfold Zng
  rw [if_neg (by omega),rp_of h]
  exact if_pos h
theorem Yrx {p:List UInt8} (h:∀ l,¬ Zh9 p l) (hp:p.length≤1048576):Z1r p=Zcy:=by
  unfold Z1r
  rw [if_neg (by omega)]
  cases ptL p.length p [] with
  | none=>rfl
  | some l=>exact if_neg (h l)
theorem Ymm {p:List UInt8} (h:∀ l,¬ Zh9 p l) (hp:p.length≤1048576):Zng p=Zcy:=by
  unfold Zng
  rw [if_neg (by omega)]
  cases rpL p.length p [] with
  | none=>rfl
  | some l=>exact if_neg (h l)
end Cod
namespace Cod
open Go
def parX (l:List Ety) (e:Int):AV × A5:=(.tup [.buf (.r 0) 0 0 l.length 34,.int .i64 e],[(.r 0,⟨0,true,true,false,P8 l⟩)])
theorem Z6n (p:List UInt8):∃ l e,l.length≤4096∧Z1r p=parX l e∧Zng p=parX l e:=by
  by_cases hl:1048576<p.length
  · refine ⟨[],2,by simp,?_,?_⟩
    · unfold Z1r;rw [if_pos hl];rfl
    · unfold Zng;rw [if_pos hl];rfl
  · by_cases h:∃ l,Zh9 p l
    · obtain ⟨l,h⟩:=h
      exact ⟨l,0,(Zxc h.1).1,Yml h (by omega),Yd9 h (by omega)⟩
    · have h':∀ l,¬ Zh9 p l:=fun l hl=>h ⟨l,hl⟩
      exact ⟨[],4,by simp,Yrx h' (by omega),Ymm h' (by omega)⟩
end Cod

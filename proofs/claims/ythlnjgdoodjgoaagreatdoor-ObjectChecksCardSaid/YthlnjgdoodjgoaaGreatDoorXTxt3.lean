/- A run that knows less of the library is a run that knows more of it. -/
import Derived.KernelRfl
import Derived.Lib.ItoaLen
import Derived.Test.YthlnjgdoodjgoaaGreatDoorXCod1
import Derived.Test.YthlnjgdoodjgoaaGreatDoorXTxt1
import Derived.Test.YthlnjgdoodjgoaaGreatDoorXTxt2
set_option linter.unusedSimpArgs false
set_option linter.unusedVariables false
open List renaming append_assoc → Ysw, cons_append → Yr7, drop_drop → Ys2, drop_eq_getElem_cons → Yt7, drop_length → Yui, drop_zero → Ytn, foldl_cons → Ysi, foldl_nil → Yuu, length_append → Ysv, length_cons → Ysk, length_drop → Ysc, length_nil → Yth, length_replicate → Yul, length_set → Yut, length_take → Ysb, mem_cons_of_mem → Ys8, mem_cons_self → Yuw, nil_append → Ytw
open Nat renaming le_refl → Yr4, sub_zero → Ys5
open Int renaming cast_ofNat_Int → Yuk, natCast_add → Yuj
open Bool renaming and_eq_true → Ysj, and_false → Yuv, false_and → Yuq, false_eq_true → Ysl, true_and → Yuo
open Nat renaming reduceEqDiff → A9, reduceAdd → B0, reduceSub → B1, reduceMul → B2, reduceDiv → B3, reduceMod → B4, reduceBEq → B5, reduceLeDiff → B6, reduceLT → B7
open Int renaming reduceEq → B8, reduceNe → B9, reduceLT → C0, reduceLE → C1, reduceBEq → C2, reduceBNe → C3, reduceToNat → C4, reduceAdd → C5, reduceSub → C6, reduceMul → C7, reduceNeg → A2
namespace Cod
open Go
theorem Z7z {E E':Env} (h:E'.glob=E.glob) (sl loc:List (Nat × AV)):evR E' sl loc=evR E sl loc:=by
  funext x;cases x<;>simp [evR,h]
theorem Z70 {E E':Env} (h:E'.glob=E.glob) (c:O2) (sl:List (Nat × AV)) (o:LOper) (r:RS):opR E' c sl o r=opR E c sl o r:=by
  unfold opR;rw [Z7z h]
theorem Z5p {E E':Env} (h:E'.glob=E.glob) (c:O2) (sl:List (Nat × AV)) (o:LOper) (r:RS):V4 E' c sl o r=V4 E c sl o r:=by
  unfold V4;rw [Z7z h]
theorem Yj6 {E E':Env} (h:E'.glob=E.glob) (c:O2) (sl:List (Nat × AV)):∀ (os:List LOper) (r:RS),R8 E' c sl os r=R8 E c sl os r:=by
  intro os
  induction os with
  | nil=>intro r;rfl
  | cons o os ih=>intro r;simp only [R8,Z70 h,ih]
theorem Z0q {E E':Env} (h:E'.glob=E.glob) (c:O2) (sl:List (Nat × AV)):∀ (os:List LOper) (r:RS),O5 E' c sl os r=O5 E c sl os r:=by
  intro os
  induction os with
  | nil=>intro r;rfl
  | cons o os ih=>intro r;simp only [O5,Z70 h,Z5p h,ih]
theorem ev_env {E E':Env} (h:E'.glob=E.glob) (sl:List (Nat × AV)) (x:LO):ev E' sl x=ev E sl x:=by
  cases x<;>simp [ev,h]
theorem Yj7 {E E':Env} (h:E'.glob=E.glob) (c:O2) (st:St) (k:List It):move E' c st k=move E c st k:=by
  unfold move
  simp only [ev_env h,Yj6 h,Z0q h]
structure Ext (E E':Env):Prop where
  glob:E'.glob=E.glob
  fn:E'.fn=E.fn
  known:∀ f h,E.known f=some h→E'.known f=some h
  none:∀ f,E.known f=none→E'.known f=none∨E.fn f=none
theorem Yj8 {E E':Env} (h:Ext E E'):∀ n,(∀ fn k st r,Zcf E n fn k st=some r→Zcf E' n fn k st=some r)∧LeC (acall E n) (acall E' n):=by
  intro n
  induction n with
  | zero=>exact ⟨fun fn k st r h=>by simp [Zcf] at h,fun f a σ r h=>by simp [acall] at h⟩
  | succ n ih =>
    obtain ⟨ih1,ih2⟩:=ih
    constructor
    · intro fn k st r hx
      rw [Zcf] at hx ⊢
      rw [Yj7 h.glob]
      cases hm:move E (acall E n) st k with
      | go k' st'=>rw [hm] at hx;rw [Zc0 ih2 (by simp) hm];exact ih1 _ _ _ _ hx
      | done=>rw [hm] at hx;rw [Zc0 ih2 (by simp) hm];exact hx
      | stuck=>rw [hm] at hx;cases hx
    · intro f a σ r hx
      rw [acall] at hx ⊢
      cases hk:E.known f with
      | some g=>rw [hk] at hx;rw [h.known f g hk];exact hx
      | none =>
        rw [hk] at hx
        cases hf:E.fn f with
        | none=>rw [hf] at hx;cases hx
        | some fn =>
          have hk':E'.known f=Option.none:=(h.none f hk).resolve_right (by rw [hf];simp)
          rw [hk',h.fn,hf]
          rw [hf] at hx;simp only [] at hx ⊢
          cases hb:(a.length==fn.np)<;>rw [hb] at hx<;>simp only [cond_true,cond_false] at hx ⊢
          · cases hx
          · exact ih1 _ _ _ _ hx
theorem M5 {E E':Env} (h:Ext E E') {f:Nat} {a:List AV} {σ:A5} {r:AV × A5} (hx:S E f a σ=some r):S E' f a σ=some r:=by
  obtain ⟨n,hn⟩:=Zde.1 hx
  exact Zde.2 ⟨n,(Yj8 h n).2 _ _ _ _ hn⟩
end Cod
namespace Cod
open Go
theorem ext0:Ext E0 E where
  glob:=rfl
  fn:=rfl
  known f h hk:=hk
  none f hk:=.inl hk
end Cod
namespace Cod
open Go
def Ze4 (w e:Int):Int:=if e≠0∧(w=0∨e<w) then e else w
def Y7 (l:List Int):Int:=l.foldl Ze4 0
theorem R4 {b:Bool} {e:Int}:S E F.E4 [.bool b,.int .i64 e] []=some (.int .i64 (if b then e else 0),[]):=by
  rw [S_of Ztx rfl rfl]
  cases b<;>simp -dsimp (disch:=first|omega|(simp only [A3,A4,A1]<;>omega)|fail) only [L.E4,go_sem,reduceIte,reduceCtorEq,A9,B0,B1,B2,B3,B4,B5,B6,B7,B8,B9,C0,C1,C2,C3,C4,C5,C6,C7,A2]
theorem Z0r {l:List Int} {i:Nat} (h:i<l.length):(O8 l)[i]? = some (.int .i64 (l.getD i 0)):=by
  unfold O8
  rw [List.getElem?_map,List.getElem?_eq_getElem h]
  simp [List.getD,h]
theorem Q6:∀ l:List Int,flats (O8 l)=true:=by
  intro l;induction l with
  | nil=>rfl
  | cons a l ih=>show flats (.int .i64 a::O8 l)=true;simp [flats,N9,ih]
theorem N8:∀ l:List Int,refsOfs (O8 l)=[]:=by
  intro l;induction l with
  | nil=>rfl
  | cons a l ih=>show refsOfs (.int .i64 a::O8 l)=[];simp [refsOfs,Zar,ih]
theorem V7 (f:Site→Nat→Option (Site × Nat)):∀ l:List Int,rens f (O8 l)=O8 l:=fun l=>rens_flats _ (Q6 l)
theorem Yj9 {l:List Int} (hl:l.length≤1000000):∀ (m i:Nat) (w:Int),i+m=l.length →
    X E [.tmp 2] (.c L.F2.x0::.lp [3,6,7,8] L.F2.x0::.blk 0::[.c L.F2.r0]) ⟨[(3,.int .i64 w),(6,.lst (O8 l) l.length),(7,.int .i64 l.length),(8,.int .i64 i)],[]⟩=some (.int .i64 ((l.drop i).foldl Ze4 w),[]):=by
  intro m
  induction m with
  | zero =>
    intro i w h
    obtain rfl:i=l.length:=by omega
    rw [G8 L.F2.x0.eq_1,Yui]
    simp -dsimp (disch:=first|omega|(simp only [A3,A4,A1]<;>omega)|fail) only [go_sem,reduceIte,reduceCtorEq,A9,B0,B1,B2,B3,B4,B5,B6,B7,B8,B9,C0,C1,C2,C3,C4,C5,C6,C7,A2,L.F2.r0,Q6,N8,V7]
    rfl
  | succ m ih =>
    intro i w h
    have hlt:i<l.length:=by omega
    have h1:=ih (i+1) (Ze4 w (l.getD i 0)) (by omega)
    simp only [Yuj,Yuk] at h1
    have hg:=Z0r hlt
    rw [G8 L.F2.x0.eq_1,Yt7 hlt,Ysi,show l[i]=l.getD i 0 by simp [List.getD,hlt]]
    generalize l.getD i 0=e at *
    unfold Ze4 at h1 ⊢
    by_cases e0:e=0
    · subst e0
      rw [if_neg (by simp)] at h1 ⊢
      simp -dsimp (disch:=first|omega|(simp only [A3,A4,A1]<;>omega)|fail) only [go_sem,reduceIte,reduceCtorEq,A9,B0,B1,B2,B3,B4,B5,B6,B7,B8,B9,C0,C1,C2,C3,C4,C5,C6,C7,A2,Q6,N8,V7,hg,h1]
    · by_cases w0:w=0
      · subst w0
        rw [if_pos (by simp [e0])] at h1 ⊢
        simp -dsimp (disch:=first|omega|(simp only [A3,A4,A1]<;>omega)|fail) only [go_sem,reduceIte,reduceCtorEq,A9,B0,B1,B2,B3,B4,B5,B6,B7,B8,B9,C0,C1,C2,C3,C4,C5,C6,C7,A2,Q6,N8,V7,hg,h1,e0]
      · by_cases lt:e<w
        · rw [if_pos (by simp [e0,lt])] at h1 ⊢
          simp -dsimp (disch:=first|omega|(simp only [A3,A4,A1]<;>omega)|fail) only [go_sem,reduceIte,reduceCtorEq,A9,B0,B1,B2,B3,B4,B5,B6,B7,B8,B9,C0,C1,C2,C3,C4,C5,C6,C7,A2,Q6,N8,V7,hg,h1,e0,w0,lt]
        · rw [if_neg (by simp [e0,lt,w0])] at h1 ⊢
          simp -dsimp (disch:=first|omega|(simp only [A3,A4,A1]<;>omega)|fail) only [go_sem,reduceIte,reduceCtorEq,A9,B0,B1,B2,B3,B4,B5,B6,B7,B8,B9,C0,C1,C2,C3,C4,C5,C6,C7,A2,Q6,N8,V7,hg,h1,e0,w0,lt]
theorem Zld {l:List Int} (hl:l.length≤1000000):S E F.F2 [.lst (O8 l) l.length] []=some (.int .i64 (Y7 l),[]):=by
  have h:=Yj9 hl l.length 0 0 (by omega)
  simp only [Yuk,Ytn] at h
  rw [S_of Ztw rfl rfl]
  simp -dsimp (disch:=first|omega|(simp only [A3,A4,A1]<;>omega)|fail) only [L.F2,go_sem,reduceIte,reduceCtorEq,A9,B0,B1,B2,B3,B4,B5,B6,B7,B8,B9,C0,C1,C2,C3,C4,C5,C6,C7,A2,Q6,N8,V7,h]
  rfl
end Cod
namespace Cod
open Go
def Ze5 (x:BitVec 32) (n:Nat):BitVec 32:=x >>> n ||| x <<< (32-n)
theorem Zfm {x:BitVec 32} {k:Int} {n:Nat} (hn:n≤32) (hk:Z3s .u64 (IntKind.u64.wrap k) 31=((32-n:Nat):Int)) :
    S E F.F9 [W x,.int .i64 k] []=some (W (Ze5 x n),[]):=by
  have h1:IntKind.u64.wrap (32-((32-n:Nat):Int))=(n:Int):=by
    simp only [IntKind.wrap,IntKind.signed,IntKind.bits]
    simp
    omega
  rw [S_of Zux rfl rfl]
  simp (disch:=omega) only [L.F9,go_sem,reduceIte,reduceCtorEq,A9,B0,B1,B2,B3,B4,B5,B6,B7,B8,B9,C0,C1,C2,C3,C4,C5,C6,C7,A2,WDs,hk,h1]
  rw [Ze5,BitVec.or_comm]
theorem rot_7 {x:BitVec 32}:S E F.F9 [W x,.int .i64 (-7)] []=some (W (Ze5 x 7),[]):=Zfm (by omega) (by decide)
theorem rot_18 {x:BitVec 32}:S E F.F9 [W x,.int .i64 (-18)] []=some (W (Ze5 x 18),[]):=Zfm (by omega) (by decide)
theorem rot_17 {x:BitVec 32}:S E F.F9 [W x,.int .i64 (-17)] []=some (W (Ze5 x 17),[]):=Zfm (by omega) (by decide)
theorem rot_19 {x:BitVec 32}:S E F.F9 [W x,.int .i64 (-19)] []=some (W (Ze5 x 19),[]):=Zfm (by omega) (by decide)
theorem rot_6 {x:BitVec 32}:S E F.F9 [W x,.int .i64 (-6)] []=some (W (Ze5 x 6),[]):=Zfm (by omega) (by decide)
theorem rot_11 {x:BitVec 32}:S E F.F9 [W x,.int .i64 (-11)] []=some (W (Ze5 x 11),[]):=Zfm (by omega) (by decide)
theorem rot_25 {x:BitVec 32}:S E F.F9 [W x,.int .i64 (-25)] []=some (W (Ze5 x 25),[]):=Zfm (by omega) (by decide)
theorem rot_2 {x:BitVec 32}:S E F.F9 [W x,.int .i64 (-2)] []=some (W (Ze5 x 2),[]):=Zfm (by omega) (by decide)
theorem rot_13 {x:BitVec 32}:S E F.F9 [W x,.int .i64 (-13)] []=some (W (Ze5 x 13),[]):=Zfm (by omega) (by decide)
theorem rot_22 {x:BitVec 32}:S E F.F9 [W x,.int .i64 (-22)] []=some (W (Ze5 x 22),[]):=Zfm (by omega) (by decide)
def word4 (b:List UInt8) (i:Nat):BitVec 32:=bw b (4*i) <<< 24 ||| bw b (4*i+1) <<< 16 ||| bw b (4*i+2) <<< 8 ||| bw b (4*i+3)
def Zna (b:List UInt8):Nat→Nat→List (BitVec 32)→List (BitVec 32)
  | 0,_,ws=>ws
  | m+1,i,ws=>Zna b m (i+1) (ws.set i (word4 b i))
def sig0 (x:BitVec 32):BitVec 32:=Ze5 x 7 ^^^ Ze5 x 18 ^^^ x >>> 3
def sig1 (y:BitVec 32):BitVec 32:=Ze5 y 17 ^^^ Ze5 y 19 ^^^ y >>> 10
def sched (ws:List (BitVec 32)) (i:Nat):BitVec 32:=ws.getD (i-16) 0+sig0 (ws.getD (i-15) 0)+ws.getD (i-7) 0+sig1 (ws.getD (i-2) 0)
def Zpe:Nat→Nat→List (BitVec 32)→List (BitVec 32)
  | 0,_,ws=>ws
  | m+1,i,ws=>Zpe m (i+1) (ws.set i (sched ws i))
theorem Zle (b:List UInt8):∀ m i ws,(Zna b m i ws).length=ws.length:=by
  intro m
  induction m with
  | zero=>intro i ws;rfl
  | succ m ih=>intro i ws;simp [Zna,ih]
theorem Zv6:∀ m i ws,(Zpe m i ws).length=ws.length:=by
  intro m
  induction m with
  | zero=>intro i ws;rfl
  | succ m ih=>intro i ws;simp [Zpe,ih]
theorem Yka {h:List (BitVec 32)} {b:List UInt8} (hh:h.length=8) (hb:b.length=64) (k:List It):∀ (m i:Nat) (ws:List (BitVec 32)),i+m=16→ws.length=64 →
    X E [.cell 4 (some 8)] (.c L.F3.x0::.lp [2,3,4,5,23] L.F3.x0::.blk 0::k) ⟨[(2,.ref (.s 1000000 0) 0 0),(3,.ref (.s 1000000 1) 0 0),(4,.ref (.s 1000000 2) 0 0),(5,.ref (.s 1000000 3) 0 0),(23,.int .i64 i)],[(.s 1000000 0,⟨0,true,true,true,F6 h⟩),(.s 1000000 1,⟨0,true,true,true,A0 b⟩),(.s 1000000 2,⟨0,true,true,true,F6 (List.replicate 8 0)⟩),(.s 1000000 3,⟨0,true,true,true,F6 ws⟩)]⟩=X E [.cell 4 (some 8)] k ⟨[(2,.ref (.s 1000000 0) 0 0),(3,.ref (.s 1000000 1) 0 0),(4,.ref (.s 1000000 2) 0 0),(5,.ref (.s 1000000 3) 0 0),(23,.int .i64 16),(24,.bool false)],[(.s 1000000 0,⟨0,true,true,true,F6 h⟩),(.s 1000000 1,⟨0,true,true,true,A0 b⟩),(.s 1000000 2,⟨0,true,true,true,F6 (List.replicate 8 0)⟩),(.s 1000000 3,⟨0,true,true,true,F6 (Zna b m i ws)⟩)]⟩:=by
  intro m
  induction m with
  | zero =>
    intro i ws h1 h2
    obtain rfl:i=16:=by omega
    rw [G8 L.F3.x0.eq_1]
    simp (disch:=omega) only [go_sem,reduceIte,reduceCtorEq,A9,B0,B1,B2,B3,B4,B5,B6,B7,B8,B9,C0,C1,C2,C3,C4,C5,C6,C7,A2,E3,E2,D5,WDs,BYs,Zna,Yuk]
  | succ m ih =>
    intro i ws h1 h2
    have e0:(4*(i:Int)).toNat=4*i:=by omega
    have e1:(4*(i:Int)+1).toNat=4*i+1:=by omega
    have e2:(4*(i:Int)+2).toNat=4*i+2:=by omega
    have e3:(4*(i:Int)+3).toNat=4*i+3:=by omega
    rw [G8 L.F3.x0.eq_1]
    simp (disch:=omega) only [go_sem,reduceIte,reduceCtorEq,A9,B0,B1,B2,B3,B4,B5,B6,B7,B8,B9,C0,C1,C2,C3,C4,C5,C6,C7,A2,E3,E2,D5,WDs,BYs,Zna,e0,e1,e2,e3]
    have:=ih (i+1) (ws.set i (word4 b i)) (by omega) (by simpa using h2)
    simp only [Yuj,Yuk] at this
    exact this
theorem Ykb {h:List (BitVec 32)} (hh:h.length=8) (k:List It):∀ (m i:Nat) (ws:List (BitVec 32)),i+m=64→16≤i→ws.length=64 →
    X E [.cell 4 (some 8)] (.c L.F3.x1::.lp [2,4,5,7] L.F3.x1::.blk 2::k) ⟨[(2,.ref (.s 1000000 0) 0 0),(4,.ref (.s 1000000 1) 0 0),(5,.ref (.s 1000000 2) 0 0),(7,.int .i64 i)],[(.s 1000000 0,⟨0,true,true,true,F6 h⟩),(.s 1000000 1,⟨0,true,true,true,F6 (List.replicate 8 0)⟩),(.s 1000000 2,⟨0,true,true,true,F6 ws⟩)]⟩=X E [.cell 4 (some 8)] k ⟨[(2,.ref (.s 1000000 0) 0 0),(4,.ref (.s 1000000 1) 0 0),(5,.ref (.s 1000000 2) 0 0),(7,.int .i64 64),(59,.bool false)],[(.s 1000000 0,⟨0,true,true,true,F6 h⟩),(.s 1000000 1,⟨0,true,true,true,F6 (List.replicate 8 0)⟩),(.s 1000000 2,⟨0,true,true,true,F6 (Zpe m i ws)⟩)]⟩:=by
  intro m
  induction m with
  | zero =>
    intro i ws h1 h0 h2
    obtain rfl:i=64:=by omega
    rw [G8 L.F3.x1.eq_1]
    simp (disch:=omega) only [go_sem,reduceIte,reduceCtorEq,A9,B0,B1,B2,B3,B4,B5,B6,B7,B8,B9,C0,C1,C2,C3,C4,C5,C6,C7,A2,E3,E2,D5,WDs,BYs,Zpe,Yuk]
  | succ m ih =>
    intro i ws h1 h0 h2
    have e0:((i:Int)-16).toNat=i-16:=by omega
    have e1:((i:Int)-15).toNat=i-15:=by omega
    have e2:((i:Int)-7).toNat=i-7:=by omega
    have e3:((i:Int)-2).toNat=i-2:=by omega
    rw [G8 L.F3.x1.eq_1]
    simp (disch:=omega) only [go_sem,reduceIte,reduceCtorEq,A9,B0,B1,B2,B3,B4,B5,B6,B7,B8,B9,C0,C1,C2,C3,C4,C5,C6,C7,A2,E3,E2,D5,WDs,BYs,Zpe,e0,e1,e2,e3,rot_7,rot_18,rot_17,rot_19]
    have:=ih (i+1) (ws.set i (sched ws i)) (by omega) (by omega) (by simpa using h2)
    simp only [Yuj,Yuk] at this
    exact this
structure S8 where
  a:BitVec 32
  b:BitVec 32
  c:BitVec 32
  d:BitVec 32
  e:BitVec 32
  f:BitVec 32
  g:BitVec 32
  h:BitVec 32
def su1 (e:BitVec 32):BitVec 32:=Ze5 e 6 ^^^ Ze5 e 11 ^^^ Ze5 e 25
def su0 (a:BitVec 32):BitVec 32:=Ze5 a 2 ^^^ Ze5 a 13 ^^^ Ze5 a 22
def rndU (k w:BitVec 32) (s:S8):BitVec 32:=s.h+su1 s.e+(s.e &&& s.f ||| ~~~s.e &&& s.g)+k+w
def rndV (s:S8):BitVec 32:=su0 s.a+(s.a &&& s.b ^^^ s.a &&& s.c ^^^ s.b &&& s.c)
def rnd (k w:BitVec 32) (s:S8):S8:=⟨rndU k w s+rndV s,s.a,s.b,s.c,s.d+rndU k w s,s.e,s.f,s.g⟩
def Zmg (ws:List (BitVec 32)):Nat→Nat→S8→S8
  | 0,_,s=>s
  | m+1,i,s=>Zmg ws m (i+1) (rnd (Zvr.getD i 0) (ws.getD i 0) s)
def S8.of (h:List (BitVec 32)):S8:=⟨h.getD 0 0,h.getD 1 0,h.getD 2 0,h.getD 3 0,h.getD 4 0,h.getD 5 0,h.getD 6 0,h.getD 7 0⟩
def S8.plus (h:List (BitVec 32)) (s:S8):List (BitVec 32):=[h.getD 0 0+s.a,h.getD 1 0+s.b,h.getD 2 0+s.c,h.getD 3 0+s.d,h.getD 4 0+s.e,h.getD 5 0+s.f,h.getD 6 0+s.g,h.getD 7 0+s.h]
def msch (b:List UInt8):List (BitVec 32):=Zpe 48 16 (Zna b 16 0 (List.replicate 64 0))
def Zmh (h:List (BitVec 32)) (b:List UInt8):List (BitVec 32):=S8.plus h (Zmg (msch b) 64 0 (S8.of h))
theorem Z0s (b:List UInt8):(msch b).length=64:=by rw [msch,Zv6,Zle];simp
theorem Zcs (h:List (BitVec 32)) (b:List UInt8):(Zmh h b).length=8:=rfl
theorem Z0t:Zvr.length=64:=rfl
theorem Ykc {h ws:List (BitVec 32)} (hh:h.length=8) (hw:ws.length=64) (k:List It):∀ (m i:Nat) (s:S8),i+m=64 →
    X E [.cell 4 (some 8)] (.c L.F3.x2::.lp [2,4,5,12,13,14,15,16,17,18,19,117] L.F3.x2::.blk 4::k) ⟨[(2,.ref (.s 1000000 0) 0 0),(4,.ref (.s 1000000 1) 0 0),(5,.ref (.s 1000000 2) 0 0),(12,W s.a),(13,W s.b),(14,W s.c),(15,W s.d),(16,W s.e),(17,W s.f),(18,W s.g),(19,W s.h),(117,.int .i64 i)],[(.s 1000000 0,⟨0,true,true,true,F6 h⟩),(.s 1000000 1,⟨0,true,true,true,F6 (List.replicate 8 0)⟩),(.s 1000000 2,⟨0,true,true,true,F6 ws⟩)]⟩=X E [.cell 4 (some 8)] k ⟨[(2,.ref (.s 1000000 0) 0 0),(4,.ref (.s 1000000 1) 0 0),(5,.ref (.s 1000000 2) 0 0),(12,W (Zmg ws m i s).a),(13,W (Zmg ws m i s).b),(14,W (Zmg ws m i s).c),(15,W (Zmg ws m i s).d),(16,W (Zmg ws m i s).e),(17,W (Zmg ws m i s).f),(18,W (Zmg ws m i s).g),(19,W (Zmg ws m i s).h),(117,.int .i64 64),(118,.bool false)],[(.s 1000000 0,⟨0,true,true,true,F6 h⟩),(.s 1000000 1,⟨0,true,true,true,F6 (List.replicate 8 0)⟩),(.s 1000000 2,⟨0,true,true,true,F6 ws⟩)]⟩:=by
  intro m
  have hk:=Z0t
  induction m with
  | zero =>
    intro i s h1
    obtain rfl:i=64:=by omega
    rw [G8 L.F3.x2.eq_1]
    simp (disch:=omega) only [go_sem,reduceIte,reduceCtorEq,A9,B0,B1,B2,B3,B4,B5,B6,B7,B8,B9,C0,C1,C2,C3,C4,C5,C6,C7,A2,E3,E2,D5,WDs,BYs,Zmg,Yuk]
  | succ m ih =>
    intro i s h1
    rw [G8 L.F3.x2.eq_1]
    simp (disch:=omega) only [go_sem,reduceIte,reduceCtorEq,A9,B0,B1,B2,B3,B4,B5,B6,B7,B8,B9,C0,C1,C2,C3,C4,C5,C6,C7,A2,E3,E2,D5,WDs,BYs,Zmg,glob_k,rot_6,rot_11,rot_25,rot_2,rot_13,rot_22]
    have:=ih (i+1) (rnd (Zvr.getD i 0) (ws.getD i 0) s) (by omega)
    simp only [Yuj,Yuk] at this
    exact this
theorem Ykd {h ws:List (BitVec 32)} (hh:h.length=8) (R:S8):X E [.cell 4 (some 8)] [.c L.F3.r2] ⟨[(2,.ref (.s 1000000 0) 0 0),(4,.ref (.s 1000000 1) 0 0),(5,.ref (.s 1000000 2) 0 0),(12,W R.a),(13,W R.b),(14,W R.c),(15,W R.d),(16,W R.e),(17,W R.f),(18,W R.g),(19,W R.h),(117,.int .i64 64),(118,.bool false)],[(.s 1000000 0,⟨0,true,true,true,F6 h⟩),(.s 1000000 1,⟨0,true,true,true,F6 (List.replicate 8 0)⟩),(.s 1000000 2,⟨0,true,true,true,F6 ws⟩)]⟩=some (.agg (F6 (S8.plus h R)),[]):=by
  simp -dsimp (disch:=first|omega|(simp only [A3]<;>omega)|fail) only [L.F3.r2,go_sem,reduceIte,reduceCtorEq,A9,B0,B1,B2,B3,B4,B5,B6,B7,B8,B9,C0,C1,C2,C3,C4,C5,C6,C7,A2,E3,E2,D5,WDs,BYs,Yul,Yut]
  rfl
theorem Yke {h ws:List (BitVec 32)} (hh:h.length=8) (hw:ws.length=64):X E [.cell 4 (some 8)] [.c L.F3.r1] ⟨[(2,.ref (.s 1000000 0) 0 0),(4,.ref (.s 1000000 1) 0 0),(5,.ref (.s 1000000 2) 0 0),(7,.int .i64 64),(59,.bool false)],[(.s 1000000 0,⟨0,true,true,true,F6 h⟩),(.s 1000000 1,⟨0,true,true,true,F6 (List.replicate 8 0)⟩),(.s 1000000 2,⟨0,true,true,true,F6 ws⟩)]⟩=some (.agg (F6 (S8.plus h (Zmg ws 64 0 (S8.of h)))),[]):=by
  rw [←Ykd (ws:=ws) hh]
  have:=Ykc hh hw [.c L.F3.r2] 64 0 (S8.of h) (by omega)
  simp only [Yuk] at this
  rw [←this]
  simp -dsimp (disch:=first|omega|(simp only [A3]<;>omega)|fail) only [L.F3.r1,go_sem,reduceIte,reduceCtorEq,A9,B0,B1,B2,B3,B4,B5,B6,B7,B8,B9,C0,C1,C2,C3,C4,C5,C6,C7,A2,E3,E2,D5,WDs,BYs,S8.of]
theorem Z0u {h:List (BitVec 32)} {b:List UInt8} (hh:h.length=8) (hb:b.length=64):S E F.F3 [.agg (F6 h),.agg (A0 b)] []=some (.agg (F6 (Zmh h b)),[]):=by
  have l1:(Zna b 16 0 (List.replicate 64 0)).length=64:=by rw [Zle];simp
  rw [Zmh,←Yke hh (Z0s b),msch]
  have:=Ykb hh [.c L.F3.r1] 48 16 _ (by omega) (by omega) l1
  simp only [Yuk] at this
  rw [←this]
  rw [S_of Zt9 rfl rfl]
  simp -dsimp (disch:=first|omega|(simp only [A3]<;>omega)|fail) only [L.F3,go_sem,reduceIte,reduceCtorEq,A9,B0,B1,B2,B3,B4,B5,B6,B7,B8,B9,C0,C1,C2,C3,C4,C5,C6,C7,A2,E3,E2,D5,WDs,BYs]
  have:=Yka hh hb [.c L.F3.r0] 16 0 (List.replicate 64 0) (by omega) (by simp)
  simp only [Yuk] at this
  rw [this]
  simp -dsimp (disch:=first|omega|(simp only [A3]<;>omega)|fail) only [L.F3.r0,go_sem,reduceIte,reduceCtorEq,A9,B0,B1,B2,B3,B4,B5,B6,B7,B8,B9,C0,C1,C2,C3,C4,C5,C6,C7,A2,E3,E2,D5,WDs,BYs]
end Cod
namespace Cod
open Go
def h0w:List (BitVec 32):=[0x6a09e667,0xbb67ae85,0x3c6ef372,0xa54ff53a,0x510e527f,0x9b05688c,0x1f83d9ab,0x5be0cd19]
def Y9:Nat→List (BitVec 32)→List UInt8→List (BitVec 32)
  | 0,h,_=>h
  | m+1,h,l=>Y9 m (Zmh h (l.take 64)) (l.drop 64)
def be8 (v:Nat):List UInt8:=[UInt8.ofNat (v/2^56%256),UInt8.ofNat (v/2^48%256),UInt8.ofNat (v/2^40%256),UInt8.ofNat (v/2^32%256),UInt8.ofNat (v/2^24%256),UInt8.ofNat (v/2^16%256),UInt8.ofNat (v/2^8%256),UInt8.ofNat (v/2^0%256)]
def Znl (n:Nat):List UInt8:=128::(List.replicate ((119-n%64)%64) 0++be8 (8*n))
def Z0v (h:List (BitVec 32)):List UInt8:=(List.range 32).map fun i=>wb (h.getD (i/4) 0 >>> (24-8*(i%4)))
def Znm (p:List UInt8):List UInt8 :=
  Z0v (Y9 ((p.drop (p.length/64*64)++Znl p.length).length/64) (Y9 (p.length/64) h0w p) (p.drop (p.length/64*64)++Znl p.length))
theorem Zlf:∀ (m:Nat) (h:List (BitVec 32)) (l:List UInt8),h.length=8→(Y9 m h l).length=8:=by
  intro m
  induction m with
  | zero=>intro h l hh;exact hh
  | succ m ih=>intro h l _;exact ih _ _ (Zcs _ _)
def Zhw (n:Nat):Nat→Nat→List UInt8→List UInt8
  | 0,_,l=>l
  | m+1,i,l=>Zhw n m (i+1) (l.set (l.length-1-i) (UInt8.ofNat (8*n/2^(8*i)%256)))
theorem pad_l0 {n:Nat} (hn:n≤1000000000000) (k:List It):∀ (m i:Nat) (l:List UInt8),i+m=8→8≤l.length→l.length≤100 →
    X E [.tmp 2] (.c L.V2.x0::.lp [0,3,16] L.V2.x0::.blk 0::k) ⟨[(0,.int .i64 n),(3,.buf (.s 1000000 0) 0 0 (l).length 1),(16,.int .i64 i)],[(.s 1000000 0,⟨0,true,true,false,A0 l⟩)]⟩=X E [.tmp 2] k ⟨[(0,.int .i64 n),(3,.buf (.s 1000000 0) 0 0 ((Zhw n m i l)).length 1),(16,.int .i64 8),(17,.bool false)],[(.s 1000000 0,⟨0,true,true,false,A0 (Zhw n m i l)⟩)]⟩:=by
  intro m
  induction m with
  | zero =>
    intro i l h1 h2 h3
    obtain rfl:i=8:=by omega
    rw [G8 L.V2.x0.eq_1]
    simp -dsimp (disch:=first|omega|(simp only [A3]<;>omega)|fail) only [go_sem,reduceIte,reduceCtorEq,A9,B0,B1,B2,B3,B4,B5,B6,B7,B8,B9,C0,C1,C2,C3,C4,C5,C6,C7,A2,E3,E2,D5,BYs,Zhw,Yuk]
  | succ m ih =>
    intro i l h1 h2 h3
    have e0:((l.length:Int)-1-i).toNat=l.length-1-i:=by omega
    have e1:Zyx .u64 (Z3t .u64 (n:Int) 3) (8*(i:Int))=((8*n/2^(8*i):Nat):Int):=by
      rw [show (8*(i:Int))=((8*i:Nat):Int) by omega,Zzq (by simp [IntKind.bits];omega),show (3:Int)=((3:Nat):Int) from rfl,Yi9 (by omega),Int.natCast_ediv,Int.natCast_pow]
      congr 1
      omega
    have e2:((8*n/2^(8*i):Nat):Int)%256=((8*n/2^(8*i)%256:Nat):Int):=by omega
    have e3:(((8*n/2^(8*i)%256:Nat):Int)).toNat=8*n/2^(8*i)%256:=by omega
    rw [G8 L.V2.x0.eq_1]
    simp -dsimp (disch:=first|omega|(simp only [A3]<;>omega)|fail) only [go_sem,reduceIte,reduceCtorEq,A9,B0,B1,B2,B3,B4,B5,B6,B7,B8,B9,C0,C1,C2,C3,C4,C5,C6,C7,A2,E3,E2,D5,BYs,Zhw,e0,e1,e2,e3]
    have:=ih (i+1) (l.set (l.length-1-i) (UInt8.ofNat (8*n/2^(8*i)%256))) (by omega) (by simpa using h2) (by simpa using h3)
    simp only [Yuj,Yuk,Yut] at this
    exact this
theorem Z5q (n z:Nat) (a:List UInt8):Zhw n 8 0 (a++List.replicate 8 0)=a++be8 (8*n):=by
  have key:∀ (i:Nat) (x:UInt8) (t:List UInt8),t.length=8→i<8→(a++t).set ((a++t).length-1-i) x=a++t.set (7-i) x:=by
    intro i x t ht hi
    rw [Ysv,ht,List.set_append,if_neg (by omega)]
    congr 2
    omega
  simp only [Zhw]
  rw [key 0 _ _ (by simp) (by omega),key 1 _ _ (by simp) (by omega),key 2 _ _ (by simp) (by omega),key 3 _ _ (by simp) (by omega),key 4 _ _ (by simp) (by omega),key 5 _ _ (by simp) (by omega),key 6 _ _ (by simp) (by omega),key 7 _ _ (by simp) (by omega)]
  rfl
theorem Ykf (m:Nat):rep [AV.int .u8 0] m=A0 (List.replicate m 0):=by
  induction m with
  | zero=>rfl
  | succ m ih=>rw [rep,ih];rfl
theorem go_pad {n:Nat} (h1:n≤1000000000000):S E F.V2 [.int .i64 n] []=some (.buf (.r 0) 0 0 (Znl n).length 1,[(.r 0,⟨0,true,true,false,A0 (Znl n)⟩)]):=by
  have hm3:(1+(119-(n:Int)%64)%64+8).toNat=(119-n%64)%64+9:=by omega
  have hlt:(119-n%64)%64<64:=by omega
  have hr:List.replicate ((119-n%64)%64+9) (0:UInt8)=0::(List.replicate ((119-n%64)%64) 0++List.replicate 8 0):=by
    rw [List.replicate_append_replicate];rfl
  have hn0:¬ (n:Int)<0:=by omega
  generalize hz:(119-n%64)%64=z at *
  have hl:=pad_l0 h1 [.c L.V2.r0] 8 0 (128::(List.replicate z 0++List.replicate 8 0)) (by omega) (by simp) (by simp;omega)
  have hp:Zhw n 8 0 (128::(List.replicate z 0++List.replicate 8 0))=Znl n:=by
    have:=Z5q n z (128::List.replicate z 0)
    rw [Yr7] at this
    rw [this,Znl,hz];rfl
  rw [hp] at hl
  have hlen:(Znl n).length=z+9:=by rw [Znl,hz];simp [be8]
  simp only [Yuk] at hl
  rw [S_of Z4v rfl rfl]
  simp -dsimp (disch:=first|omega|(simp only [A3]<;>omega)|fail) only [L.V2,go_sem,reduceIte,reduceCtorEq,A9,B0,B1,B2,B3,B4,B5,B6,B7,B8,B9,C0,C1,C2,C3,C4,C5,C6,C7,A2,E3,E2,D5,BYs,hn0,hm3,Ykf,hr,List.set_cons_zero,Int.toNat_zero,UInt8.reduceOfNat]
  have hb:(128::(List.replicate z 0++List.replicate 8 (0:UInt8))).length=z+9:=by simp
  rw [hb] at hl
  rw [hl]
  simp -dsimp (disch:=first|omega|(simp only [A3]<;>omega)|fail) only [L.V2.r0,go_sem,reduceIte,reduceCtorEq,A9,B0,B1,B2,B3,B4,B5,B6,B7,B8,B9,C0,C1,C2,C3,C4,C5,C6,C7,A2,E3,E2,D5,BYs,hlen]
theorem sum_l0 {p:List UInt8} (k:List It):∀ (m:Nat) (r:List UInt8) (n:Nat) (h:List (BitVec 32)),n=r.length→n/64=m→n≤1000000000000→h.length=8 →
    X E [.cell 2 (some 32)] (.c L.G3.x0::.lp [0,2,3,4] L.G3.x0::.blk 0::k) ⟨[(0,.lst (A0 p) p.length),(2,.ref (.s 1000000 0) 0 0),(3,.ref (.s 1000000 1) 0 0),(4,.lst (A0 r) n)],[(.s 1000000 0,⟨0,true,true,true,A0 (List.replicate 32 0)⟩),(.s 1000000 1,⟨0,true,true,true,F6 h⟩)]⟩ =
    X E [.cell 2 (some 32)] k ⟨[(0,.lst (A0 p) p.length),(2,.ref (.s 1000000 0) 0 0),(3,.ref (.s 1000000 1) 0 0),(4,.lst (A0 (r.drop (64*m))) (n-64*m)),(13,.bool false)],[(.s 1000000 0,⟨0,true,true,true,A0 (List.replicate 32 0)⟩),(.s 1000000 1,⟨0,true,true,true,F6 (Y9 m h r)⟩)]⟩:=by
  intro m
  induction m with
  | zero =>
    intro r n h h1 h2 h3 h4
    rw [G8 L.G3.x0.eq_1]
    simp -dsimp (disch:=first|omega|(simp only [A3]<;>omega)|fail) only [go_sem,reduceIte,reduceCtorEq,A9,B0,B1,B2,B3,B4,B5,B6,B7,B8,B9,C0,C1,C2,C3,C4,C5,C6,C7,A2,E3,E2,D5,BYs,WDs,Y9,Ytn,Ys5,Nat.mul_zero]
  | succ m ih =>
    intro r n h h1 h2 h3 h4
    have hb:(r.take 64).length=64:=by rw [Ysb];omega
    have hbl:=Zcs h (r.take 64)
    rw [G8 L.G3.x0.eq_1]
    simp -dsimp (disch:=first|omega|(simp only [A3]<;>omega)|fail) only [go_sem,reduceIte,reduceCtorEq,A9,B0,B1,B2,B3,B4,B5,B6,B7,B8,B9,C0,C1,C2,C3,C4,C5,C6,C7,A2,E3,E2,D5,BYs,WDs,Y9,Z0u h4 hb]
    have:=ih (r.drop 64) (n-64) (Zmh h (r.take 64)) (by simp [h1]) (by omega) (by omega) (Zcs _ _)
    rw [Ys2,show 64+64*m=64*(m+1) by omega,show n-64-64*m=n-64*(m+1) by omega] at this
    exact this
theorem sum_l1 {full:List UInt8} (hf:full.length≤1000000000100) (k:List It):∀ (m off n:Nat) (h:List (BitVec 32)),off+n=full.length→n/64=m→h.length=8 →
    X E [.cell 2 (some 32)] (.c L.G3.x1::.lp [2,3,4] L.G3.x1::.blk 2::k) ⟨[(2,.ref (.s 1000000 0) 0 0),(3,.ref (.s 1000000 1) 0 0),(4,.buf (.s 1000000 2) 0 off n 1)],[(.s 1000000 0,⟨0,true,true,true,A0 (List.replicate 32 0)⟩),(.s 1000000 1,⟨0,true,true,true,F6 h⟩),(.s 1000000 2,⟨0,true,true,false,A0 full⟩)]⟩ =
    X E [.cell 2 (some 32)] k ⟨[(2,.ref (.s 1000000 0) 0 0),(3,.ref (.s 1000000 1) 0 0),(4,.buf (.s 1000000 2) 0 (off+64*m) (n-64*m) 1),(29,.bool false)],[(.s 1000000 0,⟨0,true,true,true,A0 (List.replicate 32 0)⟩),(.s 1000000 1,⟨0,true,true,true,F6 (Y9 m h (full.drop off))⟩),(.s 1000000 2,⟨0,true,true,false,A0 full⟩)]⟩:=by
  intro m
  induction m with
  | zero =>
    intro off n h h1 h2 h4
    rw [G8 L.G3.x1.eq_1]
    simp -dsimp (disch:=first|omega|(simp only [A3]<;>omega)|fail) only [go_sem,reduceIte,reduceCtorEq,A9,B0,B1,B2,B3,B4,B5,B6,B7,B8,B9,C0,C1,C2,C3,C4,C5,C6,C7,A2,E3,E2,D5,BYs,WDs,Y9,Ytn,Ys5,Nat.mul_zero]
  | succ m ih =>
    intro off n h h1 h2 h4
    have hb:((full.drop off).take 64).length=64:=by rw [Ysb,Ysc];omega
    have hbl:=Zcs h ((full.drop off).take 64)
    have hs:sub full off 64=(full.drop off).take 64:=rfl
    rw [G8 L.G3.x1.eq_1]
    simp -dsimp (disch:=first|omega|(simp only [A3]<;>omega)|fail) only [go_sem,reduceIte,reduceCtorEq,A9,B0,B1,B2,B3,B4,B5,B6,B7,B8,B9,C0,C1,C2,C3,C4,C5,C6,C7,A2,E3,E2,D5,BYs,WDs,Y9,hs,Z0u h4 hb]
    have:=ih (off+64) (n-64) (Zmh h ((full.drop off).take 64)) (by omega) (by omega) (Zcs _ _)
    rw [show off+64+64*m=off+64*(m+1) by omega,show n-64-64*m=n-64*(m+1) by omega,←Ys2] at this
    exact this
def Zhx (x:BitVec 32) (i:Nat):Nat→Nat→List UInt8→List UInt8
  | 0,_,l=>l
  | m+1,j,l=>Zhx x i m (j+1) (l.set (4*i+j) (wb (x >>> (24-8*j))))
def Zrl (h:List (BitVec 32)):Nat→Nat→List UInt8→List UInt8
  | 0,_,l=>l
  | m+1,i,l=>Zrl h m (i+1) (Zhx (h.getD i 0) i 4 0 l)
theorem Zv7 (x:BitVec 32) (i:Nat):∀ m j l,(Zhx x i m j l).length=l.length:=by
  intro m
  induction m with
  | zero=>intro j l;rfl
  | succ m ih=>intro j l;simp [Zhx,ih]
theorem sum_l3 {h:List (BitVec 32)} {x:BitVec 32} {i:Nat} (hi:i<8) (k:List It):∀ (m j:Nat) (l:List UInt8),j+m=4→l.length=32 →
    X E [.cell 2 (some 32)] (.c L.G3.x3::.lp [2,5,6,7,37,38,42] L.G3.x3::.blk 6::k) ⟨[(2,.ref (.s 1000000 0) 0 0),(5,.ref (.s 1000000 1) 0 0),(6,.int .i64 i),(7,W x),(37,.agg (F6 h)),(38,.int .i64 i),(42,.int .i64 j)],[(.s 1000000 0,⟨0,true,true,true,A0 (List.replicate 32 0)⟩),(.s 1000000 1,⟨0,true,true,true,A0 l⟩)]⟩ =
    X E [.cell 2 (some 32)] k ⟨[(2,.ref (.s 1000000 0) 0 0),(5,.ref (.s 1000000 1) 0 0),(6,.int .i64 i),(7,W x),(37,.agg (F6 h)),(38,.int .i64 i),(42,.int .i64 4),(43,.bool false)],[(.s 1000000 0,⟨0,true,true,true,A0 (List.replicate 32 0)⟩),(.s 1000000 1,⟨0,true,true,true,A0 (Zhx x i m j l)⟩)]⟩:=by
  intro m
  induction m with
  | zero =>
    intro j l h1 h2
    obtain rfl:j=4:=by omega
    rw [G8 L.G3.x3.eq_1]
    simp -dsimp (disch:=first|omega|(simp only [A3]<;>omega)|fail) only [go_sem,reduceIte,reduceCtorEq,A9,B0,B1,B2,B3,B4,B5,B6,B7,B8,B9,C0,C1,C2,C3,C4,C5,C6,C7,A2,E3,E2,D5,BYs,WDs,Zhx,Yuk]
  | succ m ih =>
    intro j l h1 h2
    have e0:(4*(i:Int)+j).toNat=4*i+j:=by omega
    have e1:(24-8*(j:Int)).toNat=24-8*j:=by omega
    have hw:=(wb (x >>> (24-8*j))).toNat_lt
    have e2:UInt8.ofNat (wb (x >>> (24-8*j))).toNat=wb (x >>> (24-8*j)):=UInt8.ofNat_toNat
    rw [G8 L.G3.x3.eq_1]
    simp -dsimp (disch:=first|omega|(simp only [A3]<;>omega)|fail) only [go_sem,reduceIte,reduceCtorEq,A9,B0,B1,B2,B3,B4,B5,B6,B7,B8,B9,C0,C1,C2,C3,C4,C5,C6,C7,A2,E3,E2,D5,BYs,WDs,Zhx,e0,e1,e2]
    have:=ih (j+1) (l.set (4*i+j) (wb (x >>> (24-8*j)))) (by omega) (by simpa using h2)
    simp only [Yuj,Yuk] at this
    exact this
theorem sum_l2 {h:List (BitVec 32)} (hh:h.length=8) (k:List It):∀ (m i:Nat) (l:List UInt8),i+m=8→l.length=32 →
    X E [.cell 2 (some 32)] (.c L.G3.x2::.lp [2,5,37,38] L.G3.x2::.blk 4::k) ⟨[(2,.ref (.s 1000000 0) 0 0),(5,.ref (.s 1000000 1) 0 0),(37,.agg (F6 h)),(38,.int .i64 i)],[(.s 1000000 0,⟨0,true,true,true,A0 (List.replicate 32 0)⟩),(.s 1000000 1,⟨0,true,true,true,A0 l⟩)]⟩ =
    X E [.cell 2 (some 32)] k ⟨[(2,.ref (.s 1000000 0) 0 0),(5,.ref (.s 1000000 1) 0 0),(37,.agg (F6 h)),(38,.int .i64 8),(39,.bool false)],[(.s 1000000 0,⟨0,true,true,true,A0 (List.replicate 32 0)⟩),(.s 1000000 1,⟨0,true,true,true,A0 (Zrl h m i l)⟩)]⟩:=by
  intro m
  induction m with
  | zero =>
    intro i l h1 h2
    obtain rfl:i=8:=by omega
    rw [G8 L.G3.x2.eq_1]
    simp -dsimp (disch:=first|omega|(simp only [A3]<;>omega)|fail) only [go_sem,reduceIte,reduceCtorEq,A9,B0,B1,B2,B3,B4,B5,B6,B7,B8,B9,C0,C1,C2,C3,C4,C5,C6,C7,A2,E3,E2,D5,BYs,WDs,Zrl,Yuk]
  | succ m ih =>
    intro i l h1 h2
    rw [G8 L.G3.x2.eq_1]
    simp -dsimp (disch:=first|omega|(simp only [A3]<;>omega)|fail) only [go_sem,reduceIte,reduceCtorEq,A9,B0,B1,B2,B3,B4,B5,B6,B7,B8,B9,C0,C1,C2,C3,C4,C5,C6,C7,A2,E3,E2,D5,BYs,WDs,Zrl]
    have h3:=sum_l3 (h:=h) (x:=h.getD i 0) (i:=i) (by omega) (.blk 5::.c L.G3.r2::.lp [2,5,37,38] L.G3.x2::.blk 4::k) 4 0 l (by omega) h2
    simp only [Yuk] at h3
    rw [h3]
    simp -dsimp (disch:=first|omega|(simp only [A3]<;>omega)|fail) only [L.G3.r2,go_sem,reduceIte,reduceCtorEq,A9,B0,B1,B2,B3,B4,B5,B6,B7,B8,B9,C0,C1,C2,C3,C4,C5,C6,C7,A2,E3,E2,D5,BYs,WDs]
    have:=ih (i+1) (Zhx (h.getD i 0) i 4 0 l) (by omega) (by rw [Zv7];exact h2)
    simp only [Yuj,Yuk] at this
    exact this
theorem Ykg {h:List (BitVec 32)} (hh:h.length=8):Zrl h 8 0 (List.replicate 32 0)=Z0v h:=by
  match h,hh with
  | [a,b,c,d,e,f,g,i],_ =>
    show Zrl [a,b,c,d,e,f,g,i] 8 0 (List.replicate 32 0)=Z0v [a,b,c,d,e,f,g,i]
    kernel_rfl
theorem Yqe {sl loc:List (Nat × AV)}:Zce (evR E sl loc) [(0,1,.k (.int .u32 1779033703)),(1,1,.k (.int .u32 3144134277)),(2,1,.k (.int .u32 1013904242)),(3,1,.k (.int .u32 2773480762)),(4,1,.k (.int .u32 1359893119)),(5,1,.k (.int .u32 2600822924)),(6,1,.k (.int .u32 528734635)),(7,1,.k (.int .u32 1541459225))] (some (F6 (List.replicate 8 0)))=some (F6 h0w):=by kernel_rfl
theorem Ykh {p:List UInt8} (hp:p.length≤1000000000000):S E F.G3 [.lst (A0 p) p.length] []=some (.agg (A0 (Znm p)),[]):=by
  have hh0:h0w.length=8:=rfl
  have hbl:=Zlf (p.length/64) h0w p hh0
  have hpl:(Znl p.length).length≤100:=by rw [Znl];simp [be8];omega
  rw [S_of Z4u rfl rfl]
  simp -dsimp (disch:=first|omega|(simp only [A3]<;>omega)|fail) only [↓Yqe,L.G3,go_sem,reduceIte,reduceCtorEq,A9,B0,B1,B2,B3,B4,B5,B6,B7,B8,B9,C0,C1,C2,C3,C4,C5,C6,C7,A2,E3,E2,D5,WDs,BYs]
  rw [sum_l0 (p:=p) [.c L.G3.r0] (p.length/64) p p.length h0w rfl rfl hp hh0]
  simp -dsimp (disch:=first|omega|(simp only [A3]<;>omega)|fail) only [L.G3.r0,go_sem,reduceIte,reduceCtorEq,A9,B0,B1,B2,B3,B4,B5,B6,B7,B8,B9,C0,C1,C2,C3,C4,C5,C6,C7,A2,E3,E2,D5,WDs,BYs,Ypi,go_pad hp]
  generalize hfull:p.drop (64*(p.length/64))++Znl p.length=full
  have hfl:full.length=p.length-64*(p.length/64)+(Znl p.length).length:=by rw [←hfull];simp
  have:=sum_l1 (full:=full) (by omega) [.c L.G3.r1] (full.length/64) 0 full.length (Y9 (p.length/64) h0w p) (by omega) rfl hbl
  simp only [Nat.zero_add,Ytn] at this
  rw [←hfl,this]
  clear this
  have hbl2:=Zlf (full.length/64) (Y9 (p.length/64) h0w p) full hbl
  simp -dsimp (disch:=first|omega|(simp only [A3]<;>omega)|fail) only [L.G3.r1,go_sem,reduceIte,reduceCtorEq,A9,B0,B1,B2,B3,B4,B5,B6,B7,B8,B9,C0,C1,C2,C3,C4,C5,C6,C7,A2,E3,E2,D5,WDs,BYs]
  have:=sum_l2 hbl2 [.c L.G3.r3] 8 0 (List.replicate 32 0) (by omega) (by simp)
  simp only [Yuk] at this
  rw [this,Ykg hbl2]
  clear this
  have hid:(Z0v (Y9 (full.length/64) (Y9 (p.length/64) h0w p) full)).length=32:=by simp [Z0v]
  have hsha:Znm p=Z0v (Y9 (full.length/64) (Y9 (p.length/64) h0w p) full):=by
    rw [Znm,show p.length/64*64=64*(p.length/64) by omega,hfull]
  rw [hsha]
  simp -dsimp (disch:=first|omega|(simp only [A3]<;>omega)|fail) only [L.G3.r3,go_sem,reduceIte,reduceCtorEq,A9,B0,B1,B2,B3,B4,B5,B6,B7,B8,B9,C0,C1,C2,C3,C4,C5,C6,C7,A2,E3,E2,D5,WDs,BYs]
end Cod
namespace Cod
open Go
def M1 (k:Int):List UInt8:=if k=1 then [99,111,109,109,105,116] else if k=2 then [116,114,101,101] else if k=3 then [98,108,111,98] else if k=4 then [116,97,103] else []
theorem Zf0 (k:Int):(M1 k).length≤6:=by unfold M1;split<;>(try split)<;>(try split)<;>(try split)<;>simp
theorem Zfg {k:Int}:S E F.K0 [.int .i64 k] []=some (.str (M1 k),[]):=by
  rw [S_of Zty rfl rfl]
  unfold M1
  by_cases a:k=1
  · simp -dsimp (disch:=first|omega|(simp only [A3,A1]<;>omega)|fail) only [L.K0,go_sem,reduceIte,reduceCtorEq,A9,B0,B1,B2,B3,B4,B5,B6,B7,B8,B9,C0,C1,C2,C3,C4,C5,C6,C7,A2,a]
  · by_cases b:k=2
    · simp -dsimp (disch:=first|omega|(simp only [A3,A1]<;>omega)|fail) only [L.K0,go_sem,reduceIte,reduceCtorEq,A9,B0,B1,B2,B3,B4,B5,B6,B7,B8,B9,C0,C1,C2,C3,C4,C5,C6,C7,A2,a,b]
    · by_cases c:k=3
      · simp -dsimp (disch:=first|omega|(simp only [A3,A1]<;>omega)|fail) only [L.K0,go_sem,reduceIte,reduceCtorEq,A9,B0,B1,B2,B3,B4,B5,B6,B7,B8,B9,C0,C1,C2,C3,C4,C5,C6,C7,A2,a,b,c]
      · by_cases d:k=4
        · simp -dsimp (disch:=first|omega|(simp only [A3,A1]<;>omega)|fail) only [L.K0,go_sem,reduceIte,reduceCtorEq,A9,B0,B1,B2,B3,B4,B5,B6,B7,B8,B9,C0,C1,C2,C3,C4,C5,C6,C7,A2,a,b,c,d]
        · simp -dsimp (disch:=first|omega|(simp only [A3,A1]<;>omega)|fail) only [L.K0,go_sem,reduceIte,reduceCtorEq,A9,B0,B1,B2,B3,B4,B5,B6,B7,B8,B9,C0,C1,C2,C3,C4,C5,C6,C7,A2,a,b,c,d]
theorem Zhy {k:Int}:S E F.O1 [.int .i64 k] []=some (.str (M1 k),[]):=by
  rw [S_of Zuo rfl rfl]
  unfold M1
  by_cases a:k=1
  · simp -dsimp (disch:=first|omega|(simp only [A3,A1]<;>omega)|fail) only [L.O1,go_sem,reduceIte,reduceCtorEq,A9,B0,B1,B2,B3,B4,B5,B6,B7,B8,B9,C0,C1,C2,C3,C4,C5,C6,C7,A2,a]
  · by_cases b:k=2
    · simp -dsimp (disch:=first|omega|(simp only [A3,A1]<;>omega)|fail) only [L.O1,go_sem,reduceIte,reduceCtorEq,A9,B0,B1,B2,B3,B4,B5,B6,B7,B8,B9,C0,C1,C2,C3,C4,C5,C6,C7,A2,a,b]
    · by_cases c:k=3
      · simp -dsimp (disch:=first|omega|(simp only [A3,A1]<;>omega)|fail) only [L.O1,go_sem,reduceIte,reduceCtorEq,A9,B0,B1,B2,B3,B4,B5,B6,B7,B8,B9,C0,C1,C2,C3,C4,C5,C6,C7,A2,a,b,c]
      · by_cases d:k=4
        · simp -dsimp (disch:=first|omega|(simp only [A3,A1]<;>omega)|fail) only [L.O1,go_sem,reduceIte,reduceCtorEq,A9,B0,B1,B2,B3,B4,B5,B6,B7,B8,B9,C0,C1,C2,C3,C4,C5,C6,C7,A2,a,b,c,d]
        · simp -dsimp (disch:=first|omega|(simp only [A3,A1]<;>omega)|fail) only [L.O1,go_sem,reduceIte,reduceCtorEq,A9,B0,B1,B2,B3,B4,B5,B6,B7,B8,B9,C0,C1,C2,C3,C4,C5,C6,C7,A2,a,b,c,d]
theorem Zhz {b:Bool} {e:Int}:S E F.I8 [.bool b,.int .i64 e] []=some (.int .i64 (if b then e else 0),[]):=by
  rw [S_of Zzf rfl rfl]
  cases b<;>simp -dsimp (disch:=first|omega|(simp only [A3,A1]<;>omega)|fail) only [L.I8,go_sem,reduceIte,reduceCtorEq,A9,B0,B1,B2,B3,B4,B5,B6,B7,B8,B9,C0,C1,C2,C3,C4,C5,C6,C7,A2]
theorem Ycu {l:List Int} (hl:l.length≤1000000):∀ (m i:Nat) (w:Int),i+m=l.length →
    X E [.tmp 2] (.c L.G4.x0::.lp [3,6,7,8] L.G4.x0::.blk 0::[.c L.G4.r0]) ⟨[(3,.int .i64 w),(6,.lst (O8 l) l.length),(7,.int .i64 l.length),(8,.int .i64 i)],[]⟩=some (.int .i64 ((l.drop i).foldl Ze4 w),[]):=by
  intro m
  induction m with
  | zero =>
    intro i w h
    obtain rfl:i=l.length:=by omega
    rw [G8 L.G4.x0.eq_1,Yui]
    simp -dsimp (disch:=first|omega|(simp only [A3,A1]<;>omega)|fail) only [go_sem,reduceIte,reduceCtorEq,A9,B0,B1,B2,B3,B4,B5,B6,B7,B8,B9,C0,C1,C2,C3,C4,C5,C6,C7,A2,L.G4.r0,Q6,N8,V7]
    rfl
  | succ m ih =>
    intro i w h
    have hlt:i<l.length:=by omega
    have h1:=ih (i+1) (Ze4 w (l.getD i 0)) (by omega)
    simp only [Yuj,Yuk] at h1
    have hg:=Z0r hlt
    rw [G8 L.G4.x0.eq_1,Yt7 hlt,Ysi,show l[i]=l.getD i 0 by simp [List.getD,hlt]]
    generalize l.getD i 0=e at *
    unfold Ze4 at h1 ⊢
    by_cases e0:e=0
    · subst e0
      rw [if_neg (by simp)] at h1 ⊢
      simp -dsimp (disch:=first|omega|(simp only [A3,A1]<;>omega)|fail) only [go_sem,reduceIte,reduceCtorEq,A9,B0,B1,B2,B3,B4,B5,B6,B7,B8,B9,C0,C1,C2,C3,C4,C5,C6,C7,A2,Q6,N8,V7,hg,h1]
    · by_cases w0:w=0
      · subst w0
        rw [if_pos (by simp [e0])] at h1 ⊢
        simp -dsimp (disch:=first|omega|(simp only [A3,A1]<;>omega)|fail) only [go_sem,reduceIte,reduceCtorEq,A9,B0,B1,B2,B3,B4,B5,B6,B7,B8,B9,C0,C1,C2,C3,C4,C5,C6,C7,A2,Q6,N8,V7,hg,h1,e0]
      · by_cases lt:e<w
        · rw [if_pos (by simp [e0,lt])] at h1 ⊢
          simp -dsimp (disch:=first|omega|(simp only [A3,A1]<;>omega)|fail) only [go_sem,reduceIte,reduceCtorEq,A9,B0,B1,B2,B3,B4,B5,B6,B7,B8,B9,C0,C1,C2,C3,C4,C5,C6,C7,A2,Q6,N8,V7,hg,h1,e0,w0,lt]
        · rw [if_neg (by simp [e0,lt,w0])] at h1 ⊢
          simp -dsimp (disch:=first|omega|(simp only [A3,A1]<;>omega)|fail) only [go_sem,reduceIte,reduceCtorEq,A9,B0,B1,B2,B3,B4,B5,B6,B7,B8,B9,C0,C1,C2,C3,C4,C5,C6,C7,A2,Q6,N8,V7,hg,h1,e0,w0,lt]
theorem Zmi {l:List Int} (hl:l.length≤1000000):S E F.G4 [.lst (O8 l) l.length] []=some (.int .i64 (Y7 l),[]):=by
  have h:=Ycu hl l.length 0 0 (by omega)
  simp only [Yuk,Ytn] at h
  rw [S_of Zuh rfl rfl]
  simp -dsimp (disch:=first|omega|(simp only [A3,A1]<;>omega)|fail) only [L.G4,go_sem,reduceIte,reduceCtorEq,A9,B0,B1,B2,B3,B4,B5,B6,B7,B8,B9,C0,C1,C2,C3,C4,C5,C6,C7,A2,Q6,N8,V7,h]
  rfl
theorem Zir {a b:Int}:S E F.F2 [.lst [.int .i64 a,.int .i64 b] 2] []=some (.int .i64 (Y7 [a,b]),[]):=Zld (l:=[a,b]) (by simp)
theorem Zjm {a b:Int}:S E F.G4 [.lst [.int .i64 a,.int .i64 b] 2] []=some (.int .i64 (Y7 [a,b]),[]):=Zmi (l:=[a,b]) (by simp)
theorem Z71 (a b:Int):Y7 [a,b]=Y7 [b,a]:=by
  simp only [Y7,Ysi,Yuu,Ze4]
  by_cases h1:a=0<;>by_cases h2:b=0<;>by_cases h3:a<b<;>by_cases h4:b<a<;>simp [h1,h2,h3,h4]<;>omega
def Zv8 (k n:Int):List UInt8:=M1 k++[32]++Lib.itoa n++[0]
def Zpf (n:Int):Int:=if (decide (n<0)||decide (1048576<n))=true then 1 else 0
def Y3 (k:Int):Int:=if (M1 k == [])=true then 9 else 0
def Z5r (k n:Int):Int:=Y7 [Zpf n,Y3 k]
def hdrV (k n:Int):AV:=if Z5r k n=0 then .tup [.str (Zv8 k n),.int .i64 0] else .tup [.str [],.int .i64 (Z5r k n)]
theorem Yki {k n:Int} (h1 : -9223372036854775808≤n) (h2:n≤9223372036854775807):(Zv8 k n).length≤40:=by
  have:=Lib.itoa_length_le n h1 h2
  have:=Zf0 k
  unfold Zv8
  simp only [Ysv,Ysk,Yth]
  omega
theorem Ycv {k n:Int} (h1 : -9223372036854775808≤n) (h2:n≤9223372036854775807):S E F.P3 [.int .i64 k,.int .i64 n] []=some (hdrV k n,[]):=by
  have hi:=Zo8 (n:=n) ⟨h1,h2⟩
  have hl:=Lib.itoa_length_le n h1 h2
  have hw:=Zf0 k
  rw [S_of Ztm rfl rfl]
  unfold hdrV
  have w2:S E F.E4 [.bool (M1 k == []),.int .i64 9] []=some (.int .i64 (Y3 k),[]):=R4
  have hd:S E F.F2 [.lst [.int .i64 (Zpf n),.int .i64 (Y3 k)] 2] []=some (.int .i64 (Z5r k n),[]):=Zir
  by_cases a:n<0
  · have w1:S E F.E4 [.bool true,.int .i64 1] []=some (.int .i64 (Zpf n),[]):=by
      rw [R4,Zpf,decide_eq_true a,Bool.true_or]
    by_cases e:Z5r k n=0
    · simp -dsimp (disch:=first|omega|(simp only [A3,A1]<;>omega)|fail) only [L.P3,go_sem,reduceIte,reduceCtorEq,A9,B0,B1,B2,B3,B4,B5,B6,B7,B8,B9,C0,C1,C2,C3,C4,C5,C6,C7,A2,Zfg,a,w1,w2,hd,e,hi]
      rfl
    · simp -dsimp (disch:=first|omega|(simp only [A3,A1]<;>omega)|fail) only [L.P3,go_sem,reduceIte,reduceCtorEq,A9,B0,B1,B2,B3,B4,B5,B6,B7,B8,B9,C0,C1,C2,C3,C4,C5,C6,C7,A2,Zfg,a,w1,w2,hd,e,hi]
  · have w1:S E F.E4 [.bool (decide (1048576<n)),.int .i64 1] []=some (.int .i64 (Zpf n),[]):=by
      rw [R4,Zpf,decide_eq_false a,Bool.false_or]
    by_cases e:Z5r k n=0
    · simp -dsimp (disch:=first|omega|(simp only [A3,A1]<;>omega)|fail) only [L.P3,go_sem,reduceIte,reduceCtorEq,A9,B0,B1,B2,B3,B4,B5,B6,B7,B8,B9,C0,C1,C2,C3,C4,C5,C6,C7,A2,Zfg,a,w1,w2,hd,e,hi]
      rfl
    · simp -dsimp (disch:=first|omega|(simp only [A3,A1]<;>omega)|fail) only [L.P3,go_sem,reduceIte,reduceCtorEq,A9,B0,B1,B2,B3,B4,B5,B6,B7,B8,B9,C0,C1,C2,C3,C4,C5,C6,C7,A2,Zfg,a,w1,w2,hd,e,hi]
def Zds (k:Int) (n:Nat):Int:=Y7 [if (decide (1048576<n))=true then 2 else 0,Y3 k]
def Zi3 (n:Nat):Int:=if (decide (1048576<(n:Int)))=true then 2 else 0
theorem Zn0 (k:Int) (n:Nat):Zds k n=Y7 [Zi3 n,Y3 k]:=by
  unfold Zds Zi3
  rw [show decide (1048576<(n:Int))=decide (1048576<n) from decide_eq_decide.2 (by omega)]
theorem Zh0 {k:Int} {p:List UInt8} {n:Nat} (hn:n=p.length) (hp:p.length≤1000000000000):S E F.P6 [.agg [.int .i64 k,.lst (A0 p) n]] []=some (.int .i64 (Zds k p.length),[]):=by
  subst hn
  have w1:S E F.E4 [.bool (decide (1048576<(p.length:Int))),.int .i64 2] []=some (.int .i64 (Zi3 p.length),[]):=R4
  have w2:S E F.E4 [.bool (M1 k == []),.int .i64 9] []=some (.int .i64 (Y3 k),[]):=R4
  have hd:S E F.F2 [.lst [.int .i64 (Zi3 p.length),.int .i64 (Y3 k)] 2] []=some (.int .i64 (Zds k p.length),[]):=by rw [Zn0];exact Zir
  rw [S_of Zkr rfl rfl]
  simp -dsimp (disch:=first|omega|(simp only [A3,A1]<;>omega)|fail) only [L.P6,go_sem,reduceIte,reduceCtorEq,A9,B0,B1,B2,B3,B4,B5,B6,B7,B8,B9,C0,C1,C2,C3,C4,C5,C6,C7,A2,BYs,Zfg,w1,w2,hd]
theorem Zlg {k:Int} {p:List UInt8} {n:Nat} (hn:n=p.length) (hp:p.length≤1000000000000):S E F.U5 [.agg [.int .i64 k,.lst (A0 p) n]] []=some (.int .i64 (Zds k p.length),[]):=by
  subst hn
  have w1:S E F.I8 [.bool (decide (1048576<(p.length:Int))),.int .i64 2] []=some (.int .i64 (Zi3 p.length),[]):=Zhz
  have w2:S E F.I8 [.bool (M1 k == []),.int .i64 9] []=some (.int .i64 (Y3 k),[]):=Zhz
  have hd:S E F.G4 [.lst [.int .i64 (Y3 k),.int .i64 (Zi3 p.length)] 2] []=some (.int .i64 (Zds k p.length),[]):=by rw [Zn0,Z71];exact Zjm
  rw [S_of Zks rfl rfl]
  simp -dsimp (disch:=first|omega|(simp only [A3,A1]<;>omega)|fail) only [L.U5,go_sem,reduceIte,reduceCtorEq,A9,B0,B1,B2,B3,B4,B5,B6,B7,B8,B9,C0,C1,C2,C3,C4,C5,C6,C7,A2,BYs,Zhy,w1,w2,hd]
end Cod
namespace Cod
open Go
theorem Ycw (n:Nat):rep [.int .u8 0] n=A0 (List.replicate n 0):=by
  induction n with
  | zero=>rfl
  | succ n ih=>rw [rep,ih,List.replicate_succ];rfl
theorem Zpg {t:Site} {sz bytes m:Nat} {vs:List AV} {u:Ups} {ss:List Site}:Zjw t sz bytes m vs u ss .nils=if m*bytes≤140737488355328 then Zdu t vs m sz u else .fail:=rfl
theorem Zph {t:Site} {sz bytes:Nat} {zero:List AV} {s:AV} {m:Int}:Zp9 t sz bytes zero s (.int .i64 m)=if 0≤m∧m≤140737488355328 then Zjw t sz bytes m.toNat (rep zero m.toNat) [] [] s else .fail:=rfl
theorem Ykj {n:Nat} (h0:0<n) (hn:n≤4000000):S E F.X7 [.nils,.int .i64 n] [] =
    some (.buf (.r 0) 0 0 0 1,[(.r 0,⟨0,true,true,false,A0 (List.replicate n 0)⟩)]):=by
  rw [S_of Zuw rfl rfl]
  simp -dsimp (disch:=first|omega|(simp only [A3,A1]<;>omega)|fail) only [L.X7,go_sem,reduceIte,reduceCtorEq,A9,B0,B1,B2,B3,B4,B5,B6,B7,B8,B9,C0,C1,C2,C3,C4,C5,C6,C7,A2,BYs,Int.sub_zero,Ycw,Zpg,Zph]
theorem Yqf (l:List UInt8):sub l 0 0=[]:=by simp [sub]
theorem Ycx {l:List UInt8} {n:Nat} (h:n=l.length):sub l 0 n=l:=by simp [sub,h]
theorem Z5s {a b:List UInt8} (h0:0<a.length) (ha:a.length≤1000000) (hb:b.length≤2000000) :
    S E F.H9 [.lst [.lst (A0 a) a.length,.lst (A0 b) b.length] 2] [] =
    some (.buf (.r 0) 0 0 (a++b).length 1,[(.r 0,⟨0,true,true,false,A0 (a++b)⟩)]):=by
  have hg:=Ykj (n:=a.length+b.length) (by omega) (by omega)
  have e1:(0+(a.length:Int)+b.length)=((a.length+b.length:Nat):Int):=by omega
  rw [S_of Zt8 rfl rfl]
  simp -dsimp (disch:=first|omega|(simp only [A3,A1]<;>omega)|fail) only [L.H9,L.H9.x0,go_sem,reduceIte,reduceCtorEq,A9,B0,B1,B2,B3,B4,B5,B6,B7,B8,B9,C0,C1,C2,C3,C4,C5,C6,C7,A2,BYs]
  rw [e1]
  simp -dsimp (disch:=first|omega|(simp only [A3,A1]<;>omega)|fail) only [L.H9.r0,L.H9.x1,L.H9.r1,go_sem,reduceIte,reduceCtorEq,A9,B0,B1,B2,B3,B4,B5,B6,B7,B8,B9,C0,C1,C2,C3,C4,C5,C6,C7,A2,BYs,hg,Zpg,Zph,Yqf,Nat.zero_mul,Nat.zero_add,Ycx,Ytw]
  rw [Ysv]
def idF (k:Int) (p:List UInt8):List UInt8:=if Zds k p.length=0 then Znm (Zv8 k p.length++p) else List.replicate 32 0
def idV (k:Int) (p:List UInt8):AV:=.tup [.agg (A0 (idF k p)),.int .i64 (Zds k p.length)]
theorem Z5t {k:Int} {n:Nat} (h:Zds k n=0):Z5r k n=0∧n≤1048576:=by
  unfold Zds Z5r Zpf at *
  unfold Y7 at *
  simp only [Ysi,Yuu,Ze4] at *
  have:n≤1048576:=by
    by_cases h1:1048576<n
    · exfalso
      rw [decide_eq_true h1] at h
      generalize Y3 k=w at h
      simp only [if_true] at h
      by_cases a:w=0<;>by_cases b:w<2<;>simp [a,b] at h
    · omega
  refine ⟨?_,this⟩
  rw [decide_eq_false (by omega:¬ 1048576<n)] at h
  rw [decide_eq_false (by omega:¬ (n:Int)<0),decide_eq_false (by omega:¬ 1048576<(n:Int))]
  generalize Y3 k=w at h
  simpa using h
theorem Ykk (k n:Int):0<(Zv8 k n).length:=by unfold Zv8;simp only [Ysv,Ysk,Yth];omega
theorem go_oid {k:Int} {p:List UInt8} {n:Nat} (hn:n=p.length) (hp:p.length≤1000000000000):S E F.Z2 [.agg [.int .i64 k,.lst (A0 p) n]] []=some (idV k p,[]):=by
  subst hn
  have h1:=Zh0 (k:=k) (p:=p) rfl hp
  have h2:=Ycv (k:=k) (n:=p.length) (by omega) (by omega)
  rw [S_of Ztn rfl rfl]
  unfold idV idF
  by_cases e:Zds k p.length=0
  · obtain ⟨e1,e2⟩:=Z5t e
    unfold hdrV at h2
    rw [if_pos e1] at h2
    have hl:=Yki (k:=k) (n:=p.length) (by omega) (by omega)
    have h0:=Ykk k p.length
    generalize Zv8 k p.length=t at *
    have h3:=Z5s (a:=t) (b:=p) h0 (by omega) (by omega)
    have h4:=Ykh (p:=t++p) (by rw [Ysv];omega)
    have hs:(Znm (t++p)).length=32:=by unfold Znm;simp [Z0v]
    simp -dsimp (disch:=first|omega|(simp only [A3,A1]<;>omega)|fail) only [L.Z2,go_sem,reduceIte,reduceCtorEq,A9,B0,B1,B2,B3,B4,B5,B6,B7,B8,B9,C0,C1,C2,C3,C4,C5,C6,C7,A2,BYs,h1,e,h2,h3,h4]
  · simp -dsimp (disch:=first|omega|(simp only [A3,A1]<;>omega)|fail) only [L.Z2,go_sem,reduceIte,reduceCtorEq,A9,B0,B1,B2,B3,B4,B5,B6,B7,B8,B9,C0,C1,C2,C3,C4,C5,C6,C7,A2,BYs,h1,e,Yul]
end Cod
namespace Cod
open Go
theorem Zrm (s:List UInt8) (i:Nat):S E F.Q0 [.int .u8 (bat s i)] []=some (.int .u8 ((Zgz (s.getD i 0)).toNat:Int),[]):=by
  have h:=O4 s i
  have hb:bat s i=((s.getD i 0).toNat:Int):=rfl
  rw [S_of Zvd rfl rfl]
  unfold Zgz
  by_cases h1:65≤bat s i
  · by_cases h2:bat s i≤90
    · have h3:65≤s.getD i 0∧s.getD i 0≤90:=by
        rw [UInt8.le_iff_toNat_le,UInt8.le_iff_toNat_le]
        simp only [UInt8.reduceToNat]
        omega
      rw [if_pos h3]
      have h4:(bat s i+32)%256=((s.getD i 0+32).toNat:Int):=by
        rw [UInt8.toNat_add]
        simp only [UInt8.reduceToNat]
        omega
      simp -dsimp (disch:=first|omega|(simp only [A3]<;>omega)|fail) only [L.Q0,go_sem,reduceIte,reduceCtorEq,A9,B0,B1,B2,B3,B4,B5,B6,B7,B8,B9,C0,C1,C2,C3,C4,C5,C6,C7,A2,h4]
    · have h3:¬ (65≤s.getD i 0∧s.getD i 0≤90):=by
        rw [UInt8.le_iff_toNat_le,UInt8.le_iff_toNat_le]
        simp only [UInt8.reduceToNat]
        omega
      rw [if_neg h3,←hb]
      simp -dsimp (disch:=first|omega|(simp only [A3]<;>omega)|fail) only [L.Q0,go_sem,reduceIte,reduceCtorEq,A9,B0,B1,B2,B3,B4,B5,B6,B7,B8,B9,C0,C1,C2,C3,C4,C5,C6,C7,A2]
  · have h3:¬ (65≤s.getD i 0∧s.getD i 0≤90):=by
      rw [UInt8.le_iff_toNat_le,UInt8.le_iff_toNat_le]
      simp only [UInt8.reduceToNat]
      omega
    rw [if_neg h3,←hb]
    simp -dsimp (disch:=first|omega|(simp only [A3]<;>omega)|fail) only [L.Q0,go_sem,reduceIte,reduceCtorEq,A9,B0,B1,B2,B3,B4,B5,B6,B7,B8,B9,C0,C1,C2,C3,C4,C5,C6,C7,A2]
theorem Z72 {s:List UInt8}:S E F.Zbf [.str s] []=some (.bool (Zg0 s),[]):=by
  rw [S_of Zu1 rfl rfl]
  by_cases hl:s.length=4
  · have hg:Zg0 s=(s.getD 0 0==46&&Zgz (s.getD 1 0)==103&&Zgz (s.getD 2 0)==105&&Zgz (s.getD 3 0)==116):=by
      match s,hl with
      | [a,b,c,d],_=>rfl
    rw [hg]
    have b1:byt 46=46:=rfl
    have b2:byt 103=103:=rfl
    have b3:byt 105=105:=rfl
    have b4:byt 116=116:=rfl
    simp -dsimp (disch:=first|omega|(simp only [A3]<;>omega)|fail) only [L.Zbf,go_sem,reduceIte,reduceCtorEq,A9,B0,B1,B2,B3,B4,B5,B6,B7,B8,B9,C0,C1,C2,C3,C4,C5,C6,C7,A2,Zrm,Znu,Z44,b1,b2,b3,b4]
    repeat' (refine Zyj (fun h=>?_) (fun h=>?_)<;>(try simp -dsimp (disch:=first|omega|(simp only [A3]<;>omega)|fail) only [go_sem,reduceIte,reduceCtorEq,A9,B0,B1,B2,B3,B4,B5,B6,B7,B8,B9,C0,C1,C2,C3,C4,C5,C6,C7,A2,Zrm,Znu,Z44,b1,b2,b3,b4,h]))
  · have hg:Zg0 s=false:=by
      match s,hl with
      | [],_=>rfl
      | [_],_=>rfl
      | [_,_],_=>rfl
      | [_,_,_],_=>rfl
      | [_,_,_,_],h=>exact absurd rfl h
      | _::_::_::_::_::_,_=>rfl
    rw [hg]
    simp -dsimp (disch:=first|omega|(simp only [A3]<;>omega)|fail) only [L.Zbf,go_sem,reduceIte,reduceCtorEq,A9,B0,B1,B2,B3,B4,B5,B6,B7,B8,B9,C0,C1,C2,C3,C4,C5,C6,C7,A2]
theorem has_l0 {s:List UInt8} (hs:s.length≤1000000000000) {c:Int} (h0:0≤c) (h1:c<256) (k:List It):∀ (m i:Nat),i+m=s.length →
    X E [.tmp 4] (.c L.J2.x0::.lp [0,1,5] L.J2.x0::.blk 0::k) ⟨[(0,.str s),(1,.int .u8 c),(5,.int .i64 i)],[]⟩ =
    if (s.drop i).contains (byt c) then some (.bool true,[]) else X E [.tmp 4] k ⟨[(0,.str s),(1,.int .u8 c),(5,.int .i64 s.length),(9,.bool false)],[]⟩:=by
  intro m
  induction m with
  | zero =>
    intro i h
    obtain rfl:i=s.length:=by omega
    rw [G8 L.J2.x0.eq_1]
    simp -dsimp (disch:=first|omega|(simp only [A3]<;>omega)|fail) only [go_sem,reduceIte,reduceCtorEq,A9,B0,B1,B2,B3,B4,B5,B6,B7,B8,B9,C0,C1,C2,C3,C4,C5,C6,C7,A2,Yui,List.contains_nil,Ysl]
  | succ m ih =>
    intro i h
    have:=ih (i+1) (by omega)
    simp only [Yuj,Yuk] at this
    have hd:s.drop i=s.getD i 0::s.drop (i+1):=by
      rw [List.getD_eq_getElem?_getD,List.getElem?_eq_getElem (by omega),Option.getD_some]
      exact Yt7 (by omega)
    rw [G8 L.J2.x0.eq_1]
    rw [hd,List.contains_cons]
    cases hb:(s.getD i 0==byt c) with
    | true =>
      have hb':(byt c==s.getD i 0)=true:=by rw [BEq.comm];exact hb
      simp -dsimp (disch:=first|omega|(simp only [A3]<;>omega)|fail) only [go_sem,reduceIte,reduceCtorEq,A9,B0,B1,B2,B3,B4,B5,B6,B7,B8,B9,C0,C1,C2,C3,C4,C5,C6,C7,A2,Znu,hb,hb',Bool.true_or]
    | false =>
      have hb':(byt c==s.getD i 0)=false:=by rw [BEq.comm];exact hb
      simp -dsimp (disch:=first|omega|(simp only [A3]<;>omega)|fail) only [go_sem,reduceIte,reduceCtorEq,A9,B0,B1,B2,B3,B4,B5,B6,B7,B8,B9,C0,C1,C2,C3,C4,C5,C6,C7,A2,Znu,hb,hb',Bool.false_or,this]
theorem Zek {s:List UInt8} (hs:s.length≤1000000000000) {c:Int} (h0:0≤c) (h1:c<256):S E F.J2 [.str s,.int .u8 c] []=some (.bool (s.contains (byt c)),[]):=by
  have h:=fun k=>has_l0 hs h0 h1 k s.length 0 (by omega)
  simp only [Yuk,Ytn] at h
  rw [S_of Zun rfl rfl]
  simp -dsimp (disch:=first|omega|(simp only [A3]<;>omega)|fail) only [L.J2,go_sem,reduceIte,reduceCtorEq,A9,B0,B1,B2,B3,B4,B5,B6,B7,B8,B9,C0,C1,C2,C3,C4,C5,C6,C7,A2]
  rw [h]
  cases hc:s.contains (byt c) with
  | true=>simp
  | false =>
    simp -dsimp (disch:=first|omega|(simp only [A3]<;>omega)|fail) only [L.J2.r0,go_sem,reduceIte,reduceCtorEq,A9,B0,B1,B2,B3,B4,B5,B6,B7,B8,B9,C0,C1,C2,C3,C4,C5,C6,C7,A2,Ysl]
theorem Ykl {s:List UInt8} (hs:s.length≤1000000000000):S E F.Y5 [.str s] []=some (.bool (Q1 s),[]):=by
  have c1:=Zek hs (c:=47) (by omega) (by omega)
  have c2:=Zek hs (c:=0) (by omega) (by omega)
  rw [show byt 47=47 from rfl] at c1
  rw [show byt 0=0 from rfl] at c2
  rw [S_of Zue rfl rfl]
  by_cases h1:1≤s.length
  · by_cases h2:s.length≤100
    · simp -dsimp (disch:=first|omega|(simp only [A3]<;>omega)|fail) only [L.Y5,go_sem,reduceIte,reduceCtorEq,A9,B0,B1,B2,B3,B4,B5,B6,B7,B8,B9,C0,C1,C2,C3,C4,C5,C6,C7,A2,c1,c2,Z72]
      repeat' (refine Zyj (fun h=>?_) (fun h=>?_)<;>(try simp -dsimp (disch:=first|omega|(simp only [A3]<;>omega)|fail) only [go_sem,reduceIte,reduceCtorEq,A9,B0,B1,B2,B3,B4,B5,B6,B7,B8,B9,C0,C1,C2,C3,C4,C5,C6,C7,A2,c1,c2,Z72,h]))
      all_goals simp_all [Q1]
    · have:Q1 s=false:=by simp [Q1,h2]
      rw [this]
      simp -dsimp (disch:=first|omega|(simp only [A3]<;>omega)|fail) only [L.Y5,go_sem,reduceIte,reduceCtorEq,A9,B0,B1,B2,B3,B4,B5,B6,B7,B8,B9,C0,C1,C2,C3,C4,C5,C6,C7,A2]
  · have:Q1 s=false:=by simp [Q1,h1]
    rw [this]
    simp -dsimp (disch:=first|omega|(simp only [A3]<;>omega)|fail) only [L.Y5,go_sem,reduceIte,reduceCtorEq,A9,B0,B1,B2,B3,B4,B5,B6,B7,B8,B9,C0,C1,C2,C3,C4,C5,C6,C7,A2]
end Cod
namespace Cod
open Go
def two (n:Int):List UInt8:=[byt (48+n/10),byt (48+n%10)]
theorem E6 (n:Int):(two n).length=2:=rfl
structure Idt where
  name:List UInt8
  email:List UInt8
  time:Int
  zone:Int
def Idt.cells (i:Idt):List AV:=[.str i.name,.str i.email,.int .i64 i.time,.int .i64 i.zone]
theorem Yqg (i:Idt):sub i.cells 0 4=i.cells:=rfl
theorem Ycy (i:Idt):flats i.cells=true:=rfl
theorem Yqh (i:Idt):i.cells.length=4:=rfl
theorem Ykm (f:Site→Nat→Option (Site × Nat)) (i:Idt):rens f i.cells=i.cells:=rens_flats _ rfl
theorem Ykn (i:Idt):refsOfs i.cells=[]:=rfl
theorem Ycz (i:Idt):K4 i.cells=true:=rfl
theorem Yc0 (i:Idt):leadss i.cells=false:=rfl
attribute [go_sem] Yqg Ycy Yqh Ykm Ykn Ycz Yc0
def Z0 (s:List UInt8):Bool:=decide (s.length≤100)&&(!s.contains 0&&(!s.contains 10&&(!s.contains 60 && !s.contains 62)))
def D7 (i:Idt):Bool:=Z0 i.name&&(Z0 i.email&&(decide (0≤i.time)&&(decide (i.time≤1099511627776)&&(decide (-1439≤i.zone)&&decide (i.zone≤1439)))))
theorem Zrn {s:List UInt8} (hs:s.length≤1000000000000):S E F.U6 [.str s] []=some (.bool (Z0 s),[]):=by
  have h0:=Zek hs (c:=0) (by omega) (by omega)
  have h1:=Zek hs (c:=10) (by omega) (by omega)
  have h2:=Zek hs (c:=60) (by omega) (by omega)
  have h3:=Zek hs (c:=62) (by omega) (by omega)
  rw [show byt 0=0 from rfl] at h0
  rw [show byt 10=10 from rfl] at h1
  rw [show byt 60=60 from rfl] at h2
  rw [show byt 62=62 from rfl] at h3
  rw [S_of Zu7 rfl rfl]
  unfold Z0
  by_cases hl:s.length≤100
  · cases c0:s.contains 0<;>cases c1:s.contains 10<;>cases c2:s.contains 60<;>cases c3:s.contains 62<;>simp -dsimp (disch:=first|omega|(simp only [A3,E6]<;>omega)|fail) only [L.U6,go_sem,reduceIte,reduceCtorEq,A9,B0,B1,B2,B3,B4,B5,B6,B7,B8,B9,C0,C1,C2,C3,C4,C5,C6,C7,A2,h0,h1,h2,h3,hl,c0,c1,c2,c3,Bool.not_true,Bool.not_false,decide_true,Bool.and_true,Yuv,Yuo]
  · simp -dsimp (disch:=first|omega|(simp only [A3,E6]<;>omega)|fail) only [L.U6,go_sem,reduceIte,reduceCtorEq,A9,B0,B1,B2,B3,B4,B5,B6,B7,B8,B9,C0,C1,C2,C3,C4,C5,C6,C7,A2,hl,decide_false,Yuq]
theorem Zis {i:Idt} (hn:i.name.length≤1000000000000) (he:i.email.length≤1000000000000):S E F.K5 [.agg i.cells] []=some (.bool (D7 i),[]):=by
  have h0:=Zrn hn
  have h1:=Zrn he
  rw [S_of Zuq rfl rfl]
  unfold D7
  cases c0:Z0 i.name
  · simp -dsimp (disch:=first|omega|(simp only [A3,E6]<;>omega)|fail) only [L.K5,go_sem,reduceIte,reduceCtorEq,A9,B0,B1,B2,B3,B4,B5,B6,B7,B8,B9,C0,C1,C2,C3,C4,C5,C6,C7,A2,Idt.cells,h0,c0,Yuq]
  · cases c1:Z0 i.email
    · simp -dsimp (disch:=first|omega|(simp only [A3,E6]<;>omega)|fail) only [L.K5,go_sem,reduceIte,reduceCtorEq,A9,B0,B1,B2,B3,B4,B5,B6,B7,B8,B9,C0,C1,C2,C3,C4,C5,C6,C7,A2,Idt.cells,h0,c0,h1,c1,Yuq,Yuv]
    · by_cases t0:0≤i.time
      · by_cases t1:i.time≤1099511627776
        · by_cases z0 : -1439≤i.zone
          · by_cases z1:i.zone≤1439<;>simp -dsimp (disch:=first|omega|(simp only [A3,E6]<;>omega)|fail) only [L.K5,go_sem,reduceIte,reduceCtorEq,A9,B0,B1,B2,B3,B4,B5,B6,B7,B8,B9,C0,C1,C2,C3,C4,C5,C6,C7,A2,Idt.cells,h0,c0,h1,c1,t0,t1,z0,z1,decide_true,decide_false,Yuo,Bool.and_true]
          · simp -dsimp (disch:=first|omega|(simp only [A3,E6]<;>omega)|fail) only [L.K5,go_sem,reduceIte,reduceCtorEq,A9,B0,B1,B2,B3,B4,B5,B6,B7,B8,B9,C0,C1,C2,C3,C4,C5,C6,C7,A2,Idt.cells,h0,c0,h1,c1,t0,t1,z0,decide_true,decide_false,Yuo,Yuq]
        · simp -dsimp (disch:=first|omega|(simp only [A3,E6]<;>omega)|fail) only [L.K5,go_sem,reduceIte,reduceCtorEq,A9,B0,B1,B2,B3,B4,B5,B6,B7,B8,B9,C0,C1,C2,C3,C4,C5,C6,C7,A2,Idt.cells,h0,c0,h1,c1,t0,t1,decide_true,decide_false,Yuo,Yuq]
      · simp -dsimp (disch:=first|omega|(simp only [A3,E6]<;>omega)|fail) only [L.K5,go_sem,reduceIte,reduceCtorEq,A9,B0,B1,B2,B3,B4,B5,B6,B7,B8,B9,C0,C1,C2,C3,C4,C5,C6,C7,A2,Idt.cells,h0,c0,h1,c1,t0,decide_true,decide_false,Yuo,Yuq]
theorem Zmj {n:Int} (h0:0≤n) (h1:n<256):((byt n).toNat:Int)=n:=by
  have:=Znv h0 h1
  simp only [AV.int.injEq,true_and] at this
  exact this.symm
theorem Zv9 {n:Int} (h0:0≤n) (h1:n<100):S E F.Zbh [.int .i64 n] []=some (.str (two n),[]):=by
  rw [S_of Zu8 rfl rfl]
  have e1:IntKind.u8.wrap (48+n/10)=((byt (48+n/10)).toNat:Int):=by rw [Zcp,Zmj (by omega) (by omega)];omega
  have e2:IntKind.u8.wrap (48+n%10)=((byt (48+n%10)).toNat:Int):=by rw [Zcp,Zmj (by omega) (by omega)];omega
  simp -dsimp (disch:=first|omega|(simp only [A3,E6]<;>omega)|fail) only [L.Zbh,go_sem,reduceIte,reduceCtorEq,A9,B0,B1,B2,B3,B4,B5,B6,B7,B8,B9,C0,C1,C2,C3,C4,C5,C6,C7,A2,S6,U9,e1,e2,UInt8.ofNat_toNat,two]
def Zbr (z:Int):List UInt8:=(if z<0 then 45 else 43)::(two ((if z<0 then -z else z)/60)++two ((if z<0 then -z else z)%60))
def H1 (i:Idt):List UInt8:=i.name++[32,60]++i.email++[62,32]++Lib.itoa i.time++[32]++Zbr i.zone
theorem R7 (i:Idt):D7 i=true↔Z0 i.name=true∧Z0 i.email=true∧0≤i.time∧i.time≤1099511627776 ∧ -1439≤i.zone∧i.zone≤1439:=by
  unfold D7;simp only [Ysj,decide_eq_true_eq]
theorem Zaq {s:List UInt8} (h:Z0 s=true):s.length≤100:=by
  unfold Z0 at h;simp only [Ysj,decide_eq_true_eq] at h;exact h.1
theorem Zlh {i:Idt} (h:D7 i=true):S E F.V6 [.agg i.cells] []=some (.str (H1 i),[]):=by
  obtain ⟨_,_,t0,t1,z0,z1⟩:=(R7 i).1 h
  have hi:=Zo8 (n:=i.time) (by omega)
  have hl:=Lib.itoa_length_le i.time (by omega) (by omega)
  have hn:=Zaq (by assumption:Z0 i.name=true)
  have he:=Zaq (by assumption:Z0 i.email=true)
  rw [S_of Zus rfl rfl]
  by_cases hz:i.zone<0
  · have h1:=Zv9 (n := -i.zone/60) (by omega) (by omega)
    have h2:=Zv9 (n := -i.zone%60) (by omega) (by omega)
    simp -dsimp (disch:=first|omega|(simp only [A3,E6]<;>omega)|fail) only [L.V6,go_sem,reduceIte,reduceCtorEq,A9,B0,B1,B2,B3,B4,B5,B6,B7,B8,B9,C0,C1,C2,C3,C4,C5,C6,C7,A2,Idt.cells,hi,hz,Int.zero_sub,S6,U9,h1,h2]
    simp only [H1,Zbr,hz,if_true,Ysw,Yr7,Ytw]
  · have h1:=Zv9 (n:=i.zone/60) (by omega) (by omega)
    have h2:=Zv9 (n:=i.zone%60) (by omega) (by omega)
    simp -dsimp (disch:=first|omega|(simp only [A3,E6]<;>omega)|fail) only [L.V6,go_sem,reduceIte,reduceCtorEq,A9,B0,B1,B2,B3,B4,B5,B6,B7,B8,B9,C0,C1,C2,C3,C4,C5,C6,C7,A2,Idt.cells,hi,hz,Int.zero_sub,S6,U9,h1,h2]
    simp only [H1,Zbr,hz,if_false,Ysw,Yr7,Ytw]
def Z0w (i:Idt):AV:=if D7 i=true then .tup [.str (H1 i),.int .i64 0] else .tup [.str [],.int .i64 3]
end Cod
namespace Cod
open Go
def Zpi:List UInt8→Int→Int
  | [],v=>v
  | c::r,v=>if c.toNat<48∨57<c.toNat then -1 else Zpi r (10*v+(c.toNat-48))
def Zpj (s:List UInt8):Int:=if s=[]∨13<s.length then -1 else Zpi s 0
theorem num_l0 {s:List UInt8} (hs:s.length≤13):∀ (m i:Nat) (v:Int),i+m=s.length→0≤v→v<10^i →
    X E [.tmp 2] (.c L.G7.x0::.lp [0,3,4] L.G7.x0::.blk 0::[.c L.G7.r0]) ⟨[(0,.str s),(3,.int .i64 v),(4,.int .i64 i)],[]⟩=some (.int .i64 (Zpi (s.drop i) v),[]):=by
  intro m
  induction m with
  | zero =>
    intro i v hi h0 h1
    obtain rfl:i=s.length:=by omega
    rw [G8 L.G7.x0.eq_1,Yui,Zpi]
    simp -dsimp (disch:=first|omega|(simp only [A3]<;>omega)|fail) only [go_sem,reduceIte,reduceCtorEq,A9,B0,B1,B2,B3,B4,B5,B6,B7,B8,B9,C0,C1,C2,C3,C4,C5,C6,C7,A2,L.G7.r0]
  | succ m ih =>
    intro i v hi h0 h1
    have hp:i<s.length:=by omega
    have hd:s.drop i=s.getD i 0::s.drop (i+1):=by
      rw [Yt7 hp];simp [hp]
    rw [G8 L.G7.x0.eq_1,hd,Zpi]
    have hb:=O4 s i
    have he:bat s i=((s.getD i 0).toNat:Int):=rfl
    have hpow:(10:Int)^i≤10^12:=by
      have:i≤12:=by omega
      exact_mod_cast Nat.pow_le_pow_right (by omega) this
    by_cases hc:(s.getD i 0).toNat<48∨57<(s.getD i 0).toNat
    · rw [if_pos hc]
      by_cases hc1:bat s i<48
      · simp -dsimp (disch:=first|omega|(simp only [A3]<;>omega)|fail) only [go_sem,reduceIte,reduceCtorEq,A9,B0,B1,B2,B3,B4,B5,B6,B7,B8,B9,C0,C1,C2,C3,C4,C5,C6,C7,A2,hp,hc1]
      · have hc2:57<bat s i:=by rw [he] at hc1 ⊢;omega
        simp -dsimp (disch:=first|omega|(simp only [A3]<;>omega)|fail) only [go_sem,reduceIte,reduceCtorEq,A9,B0,B1,B2,B3,B4,B5,B6,B7,B8,B9,C0,C1,C2,C3,C4,C5,C6,C7,A2,hp,hc1,hc2]
    · rw [if_neg hc]
      have hc1:¬ bat s i<48:=by rw [he];omega
      have hc2:¬ 57<bat s i:=by rw [he];omega
      rw [←ih (i+1) (10*v+((s.getD i 0).toNat-48)) (by omega) (by omega) (by rw [Int.pow_succ];omega)]
      have hw:IntKind.u8.wrap (bat s i-48)=bat s i-48:=by rw [Zcp];omega
      simp -dsimp (disch:=first|omega|(simp only [A3]<;>omega)|fail) only [go_sem,reduceIte,reduceCtorEq,A9,B0,B1,B2,B3,B4,B5,B6,B7,B8,B9,C0,C1,C2,C3,C4,C5,C6,C7,A2,hp,hc1,hc2,hw]
      rw [he,Yuj];rfl
theorem Zro {s:List UInt8}:S E F.G7 [.str s] []=some (.int .i64 (Zpj s),[]):=by
  rw [S_of Zuv rfl rfl]
  unfold Zpj
  by_cases h0:s=[]
  · subst h0
    simp -dsimp (disch:=first|omega|(simp only [A3]<;>omega)|fail) only [L.G7,go_sem,reduceIte,reduceCtorEq,A9,B0,B1,B2,B3,B4,B5,B6,B7,B8,B9,C0,C1,C2,C3,C4,C5,C6,C7,A2,true_or,if_true]
  · have he:(s == [])=false:=by simp [h0]
    by_cases h1:13<s.length
    · rw [if_pos (.inr h1)]
      simp -dsimp (disch:=first|omega|(simp only [A3]<;>omega)|fail) only [L.G7,go_sem,reduceIte,reduceCtorEq,A9,B0,B1,B2,B3,B4,B5,B6,B7,B8,B9,C0,C1,C2,C3,C4,C5,C6,C7,A2,he,h1]
    · rw [if_neg (by simp [h0,h1])]
      have h2:=num_l0 (s:=s) (by omega) s.length 0 0 (by omega) (by omega) (by simp)
      simp only [Yuk,Ytn] at h2
      simp -dsimp (disch:=first|omega|(simp only [A3]<;>omega)|fail) only [L.G7,go_sem,reduceIte,reduceCtorEq,A9,B0,B1,B2,B3,B4,B5,B6,B7,B8,B9,C0,C1,C2,C3,C4,C5,C6,C7,A2,he,h1,h2]
end Cod
namespace Cod
open Go
def Zf1 (s t:List UInt8):Bool:=decide (t.length≤s.length)&&(s.drop (s.length-t.length)==t)
theorem Zrp {s t:List UInt8} (hs:s.length≤1000000000000) (ht:t.length≤1000000000000):S E F.Y1 [.str s,.str t] []=some (.bool (Zf1 s t),[]):=by
  have h0:S E F.T9 [.str s,.str t] []=some (.bool (Zf1 s t),[]):=by
    rw [S_of Zvi rfl rfl]
    unfold Zf1
    by_cases h:t.length≤s.length
    · have e1:sub s (((s.length:Int)-t.length).toNat) (s.length-((s.length:Int)-t.length).toNat)=s.drop (s.length-t.length):=by
        rw [show ((s.length:Int)-t.length).toNat=s.length-t.length by omega]
        unfold sub;exact List.take_of_length_le (by rw [Ysc];exact Yr4 _)
      simp -dsimp (disch:=first|omega|(simp only [A3]<;>omega)|fail) only [L.T9,go_sem,reduceIte,reduceCtorEq,A9,B0,B1,B2,B3,B4,B5,B6,B7,B8,B9,C0,C1,C2,C3,C4,C5,C6,C7,A2,h,decide_true,Yuo]
      rw [e1]
    · simp -dsimp (disch:=first|omega|(simp only [A3]<;>omega)|fail) only [L.T9,go_sem,reduceIte,reduceCtorEq,A9,B0,B1,B2,B3,B4,B5,B6,B7,B8,B9,C0,C1,C2,C3,C4,C5,C6,C7,A2,h,decide_false,Yuq]
  rw [S_of Zvg rfl rfl]
  simp -dsimp (disch:=first|omega|(simp only [A3]<;>omega)|fail) only [L.Y1,go_sem,reduceIte,reduceCtorEq,A9,B0,B1,B2,B3,B4,B5,B6,B7,B8,B9,C0,C1,C2,C3,C4,C5,C6,C7,A2,h0]
def Zb7 (s:List UInt8) (c:UInt8):Nat→Int
  | 0 => -1
  | n+1=>if s.getD n 0=c then (n:Int) else Zb7 s c n
theorem Yqi {s:List UInt8} {c:UInt8} (hs:s.length≤1000000000000):∀ n:Nat,n≤s.length →
    X E [.tmp 4] (.c L.I7.x0::.lp [0,1,5] L.I7.x0::.blk 0::[.c L.I7.r0]) ⟨[(0,.str s),(1,.int .u8 c.toNat),(5,.int .i64 ((n:Int)-1))],[]⟩=some (.int .i64 (Zb7 s c n),[]):=by
  intro n
  induction n with
  | zero =>
    intro h
    rw [G8 L.I7.x0.eq_1,Zb7]
    simp -dsimp (disch:=first|omega|(simp only [A3]<;>omega)|fail) only [go_sem,reduceIte,reduceCtorEq,A9,B0,B1,B2,B3,B4,B5,B6,B7,B8,B9,C0,C1,C2,C3,C4,C5,C6,C7,A2,L.I7.r0]
  | succ n ih =>
    intro h
    have h1:=ih (by omega)
    rw [G8 L.I7.x0.eq_1,Zb7]
    have e:((n+1:Nat):Int)-1=n:=by omega
    rw [e]
    by_cases hc:s.getD n 0=c
    · have hb:(bat s n==(c.toNat:Int))=true:=by rw [←hc];exact Zo4 rfl
      rw [if_pos hc]
      simp -dsimp (disch:=first|omega|(simp only [A3]<;>omega)|fail) only [go_sem,reduceIte,reduceCtorEq,A9,B0,B1,B2,B3,B4,B5,B6,B7,B8,B9,C0,C1,C2,C3,C4,C5,C6,C7,A2,hb]
    · have hb:(bat s n==(c.toNat:Int))=false:=Zdx (fun h=>hc (UInt8.toNat_inj.1 (by unfold bat at h;omega)))
      rw [if_neg hc,←h1]
      simp -dsimp (disch:=first|omega|(simp only [A3]<;>omega)|fail) only [go_sem,reduceIte,reduceCtorEq,A9,B0,B1,B2,B3,B4,B5,B6,B7,B8,B9,C0,C1,C2,C3,C4,C5,C6,C7,A2,hb]
theorem Yko {s:List UInt8} {c:UInt8} (hs:s.length≤1000000000000):S E F.T8 [.str s,.int .u8 c.toNat] []=some (.int .i64 (Zb7 s c s.length),[]):=by
  have h0:S E F.I7 [.str s,.int .u8 c.toNat] []=some (.int .i64 (Zb7 s c s.length),[]):=by
    rw [S_of Zvh rfl rfl]
    simp -dsimp (disch:=first|omega|(simp only [A3]<;>omega)|fail) only [L.I7,go_sem,reduceIte,reduceCtorEq,A9,B0,B1,B2,B3,B4,B5,B6,B7,B8,B9,C0,C1,C2,C3,C4,C5,C6,C7,A2,Yqi hs s.length (Yr4 _)]
  rw [S_of Zvf rfl rfl]
  simp -dsimp (disch:=first|omega|(simp only [A3]<;>omega)|fail) only [L.T8,go_sem,reduceIte,reduceCtorEq,A9,B0,B1,B2,B3,B4,B5,B6,B7,B8,B9,C0,C1,C2,C3,C4,C5,C6,C7,A2,h0]
end Cod
namespace Cod
open Go
theorem Znb (s:List UInt8) (c:UInt8):∀ n,Zb7 s c n = -1∨∃ i:Nat,Zb7 s c n=i∧i<n∧s.getD i 0=c:=by
  intro n
  induction n with
  | zero=>left;rfl
  | succ n ih =>
    unfold Zb7
    split
    · rename_i h
      right;exact ⟨n,rfl,by omega,h⟩
    · rcases ih with ih|⟨i,h1,h2,h3⟩
      · left;exact ih
      · right;exact ⟨i,h1,by omega,h3⟩
theorem tn1 (i:Nat):((i:Int)+1).toNat=i+1:=by omega
theorem tn2 (i:Nat):((i:Int)+2).toNat=i+2:=by omega
theorem Zc6 {s:List UInt8} (hs:s.length≤1000000000000):S E F.T8 [.str s,.int .u8 32] []=some (.int .i64 (Zb7 s 32 s.length),[]):=Yko (c:=32) hs
theorem cut_a {s:List UInt8} (hs:s.length≤1000000000000) (h:Zb7 s 32 s.length = -1):S E F.H6 [.str s] []=some (.tup [.agg [.str [],.str [],.str [],.str []],.bool false],[]):=by
  have hl:=Zc6 hs
  have hk:=Zvv (s:=s) (t:=[32,60]) (by omega)
  rw [h] at hl
  rw [S_of Zeg rfl rfl]
  simp -dsimp (disch:=first|omega|(simp only [A3]<;>omega)|fail) only [L.H6,L.H6.x0,go_sem,reduceIte,reduceCtorEq,A9,B0,B1,B2,B3,B4,B5,B6,B7,B8,B9,C0,C1,C2,C3,C4,C5,C6,C7,A2,tn1,tn2,Ys5,hl,hk]
  simp -dsimp (disch:=first|omega|(simp only [A3]<;>omega)|fail) only [L.H6.r0,go_sem,reduceIte,reduceCtorEq,A9,B0,B1,B2,B3,B4,B5,B6,B7,B8,B9,C0,C1,C2,C3,C4,C5,C6,C7,A2]
theorem cut_b {s z r:List UInt8} {i:Nat} (hs:s.length≤1000000000000) (h:Zb7 s 32 s.length=i) (hi:i<s.length) (hr:sub s 0 i=r) (hz:sub s (i+1) (s.length-(i+1))=z) (h1:Zb7 r 32 r.length = -1):S E F.H6 [.str s] []=some (.tup [.agg [.str [],.str [],.str [],.str z],.bool false],[]):=by
  have hl:=Zc6 hs
  have hrl:r.length≤1000000000000:=by rw [←hr];unfold sub;rw [Ysb,Ysc];omega
  have hl1:=Zc6 hrl
  have hk:=Zvv (s:=r) (t:=[32,60]) (by omega)
  rw [h] at hl
  rw [h1] at hl1
  rw [S_of Zeg rfl rfl]
  simp -dsimp (disch:=first|omega|(simp only [A3]<;>omega)|fail) only [L.H6,L.H6.x0,go_sem,reduceIte,reduceCtorEq,A9,B0,B1,B2,B3,B4,B5,B6,B7,B8,B9,C0,C1,C2,C3,C4,C5,C6,C7,A2,tn1,tn2,Ys5,hl,hl1,hk,hr,hz]
  simp -dsimp (disch:=first|omega|(simp only [A3]<;>omega)|fail) only [L.H6.r0,go_sem,reduceIte,reduceCtorEq,A9,B0,B1,B2,B3,B4,B5,B6,B7,B8,B9,C0,C1,C2,C3,C4,C5,C6,C7,A2]
set_option maxRecDepth 4000 in
theorem cut_c {s z r t q:List UInt8} {i j:Nat} (hs:s.length≤1000000000000) (h:Zb7 s 32 s.length=i) (hi:i<s.length) (hr:sub s 0 i=r) (hz:sub s (i+1) (s.length-(i+1))=z) (h1:Zb7 r 32 r.length=j) (hj:j<r.length) (hq:sub r 0 j=q) (ht:sub r (j+1) (r.length-(j+1))=t)
    (h2:Lib.lastIndex q [32,60]<0∨Zf1 q [62]=false):S E F.H6 [.str s] []=some (.tup [.agg [.str [],.str [],.str t,.str z],.bool false],[]):=by
  have hl:=Zc6 hs
  have hrl:r.length≤1000000000000:=by rw [←hr];unfold sub;rw [Ysb,Ysc];omega
  have hql:q.length≤1000000000000:=by rw [←hq];unfold sub;rw [Ysb,Ysc];omega
  have hl1:=Zc6 hrl
  have hk:=Zvv (s:=q) (t:=[32,60]) (by omega)
  have hf:=Zrp (s:=q) (t:=[62]) hql (by decide)
  rw [h] at hl
  rw [h1] at hl1
  rw [S_of Zeg rfl rfl]
  by_cases h3:Lib.lastIndex q [32,60]<0
  · simp -dsimp (disch:=first|omega|(simp only [A3]<;>omega)|fail) only [L.H6,L.H6.x0,go_sem,reduceIte,reduceCtorEq,A9,B0,B1,B2,B3,B4,B5,B6,B7,B8,B9,C0,C1,C2,C3,C4,C5,C6,C7,A2,tn1,tn2,Ys5,hl,hl1,hk,hr,hz,hq,ht,h3]
    simp -dsimp (disch:=first|omega|(simp only [A3]<;>omega)|fail) only [L.H6.r0,go_sem,reduceIte,reduceCtorEq,A9,B0,B1,B2,B3,B4,B5,B6,B7,B8,B9,C0,C1,C2,C3,C4,C5,C6,C7,A2]
  · have h4:Zf1 q [62]=false:=by rcases h2 with h2|h2;exact absurd h2 h3;exact h2
    rw [h4] at hf
    simp -dsimp (disch:=first|omega|(simp only [A3]<;>omega)|fail) only [L.H6,L.H6.x0,go_sem,reduceIte,reduceCtorEq,A9,B0,B1,B2,B3,B4,B5,B6,B7,B8,B9,C0,C1,C2,C3,C4,C5,C6,C7,A2,tn1,tn2,Ys5,hl,hl1,hk,hf,hr,hz,hq,ht,h3]
    simp -dsimp (disch:=first|omega|(simp only [A3]<;>omega)|fail) only [L.H6.r0,go_sem,reduceIte,reduceCtorEq,A9,B0,B1,B2,B3,B4,B5,B6,B7,B8,B9,C0,C1,C2,C3,C4,C5,C6,C7,A2]
set_option maxRecDepth 4000 in
theorem cut_d {s z r t q:List UInt8} {i j k:Nat} (hs:s.length≤1000000000000) (h:Zb7 s 32 s.length=i) (hi:i<s.length) (hr:sub s 0 i=r) (hz:sub s (i+1) (s.length-(i+1))=z) (h1:Zb7 r 32 r.length=j) (hj:j<r.length) (hq:sub r 0 j=q) (ht:sub r (j+1) (r.length-(j+1))=t)
    (h2:Lib.lastIndex q [32,60]=k) (hk2:k+2<q.length) (h4:Zf1 q [62]=true):S E F.H6 [.str s] []=some (.tup [.agg [.str (sub q 0 k),.str (sub q (k+2) (q.length-1-(k+2))),.str t,.str z],.bool true],[]):=by
  have hl:=Zc6 hs
  have hrl:r.length≤1000000000000:=by rw [←hr];unfold sub;rw [Ysb,Ysc];omega
  have hql:q.length≤1000000000000:=by rw [←hq];unfold sub;rw [Ysb,Ysc];omega
  have hl1:=Zc6 hrl
  have hk:=Zvv (s:=q) (t:=[32,60]) (by omega)
  have hf:=Zrp (s:=q) (t:=[62]) hql (by decide)
  rw [h] at hl
  rw [h1] at hl1
  rw [h4] at hf
  rw [h2] at hk
  rw [S_of Zeg rfl rfl]
  have e:((q.length:Int)-1).toNat=q.length-1:=by omega
  simp -dsimp (disch:=first|omega|(simp only [A3]<;>omega)|fail) only [L.H6,L.H6.x0,go_sem,reduceIte,reduceCtorEq,A9,B0,B1,B2,B3,B4,B5,B6,B7,B8,B9,C0,C1,C2,C3,C4,C5,C6,C7,A2,tn1,tn2,Ys5,hl,hl1,hk,hf,hr,hz,hq,ht,e]
  simp -dsimp (disch:=first|omega|(simp only [A3]<;>omega)|fail) only [L.H6.r0,go_sem,reduceIte,reduceCtorEq,A9,B0,B1,B2,B3,B4,B5,B6,B7,B8,B9,C0,C1,C2,C3,C4,C5,C6,C7,A2]
end Cod
namespace Cod
open Go
def Zct (c:UInt8):Prop:=48≤c.toNat∧c.toNat≤57
def dstep (acc:Nat) (c:UInt8):Nat:=acc*10+(c.toNat-48)
def dv (acc:Nat) (l:List UInt8):Nat:=l.foldl dstep acc
theorem Zpk (acc:Nat):dv acc []=acc:=by unfold dv;rw [Yuu]
theorem Zfh (acc:Nat) (c:UInt8) (r:List UInt8):dv acc (c::r)=dv (acc*10+(c.toNat-48)) r:=by unfold dv;rw [Ysi,dstep]
theorem Yqj (c:UInt8):∀ (l:List UInt8) (acc:Nat),dv acc (l++[c])=dv acc l*10+(c.toNat-48):=by
  intro l
  induction l with
  | nil=>intro acc;rw [Ytw,Zfh,Zpk,Zpk]
  | cons a l ih=>intro acc;rw [Yr7,Zfh,Zfh,ih]
theorem dv_ge (l:List UInt8):∀ acc,acc≤dv acc l:=by
  induction l with
  | nil=>intro acc;exact Yr4 _
  | cons a l ih=>intro acc;have:=ih (acc*10+(a.toNat-48));rw [Zfh];omega
theorem Zrq (n:Nat) (h:n<10):Zct (UInt8.ofNat (48+n))∧(UInt8.ofNat (48+n)).toNat-48=n:=by
  have:(UInt8.ofNat (48+n)).toNat=48+n:=by simp;omega
  unfold Zct
  omega
theorem Zwa:∀ (k u:Nat),u<k→(∀ c∈Lib.decDigits u,Zct c)∧dv 0 (Lib.decDigits u)=u∧Lib.decDigits u≠[]:=by
  intro k
  induction k with
  | zero=>intro u h;omega
  | succ k ih =>
    intro u h
    rw [Lib.decDigits]
    split
    · rename_i h0
      obtain ⟨h1,h2⟩:=Zrq u h0
      refine ⟨?_,?_,by simp⟩
      · intro c hc;rw [List.mem_singleton.1 hc];exact h1
      · simp only [Zpk,Zfh,h2];omega
    · rename_i h0
      obtain ⟨h1,h2⟩:=Zrq (u%10) (by omega)
      obtain ⟨i1,i2,i3⟩:=ih (u/10) (by omega)
      refine ⟨?_,?_,by simp⟩
      · intro c hc
        rcases List.mem_append.1 hc with hc|hc
        · exact i1 c hc
        · rw [List.mem_singleton.1 hc];exact h1
      · rw [Yqj,i2,h2];omega
theorem Yc1:∀ (l:List UInt8) (acc:Nat),(∀ c∈l,Zct c)→dv acc l<1000000000000000000→Lib.parseUint10 acc l=.ok (dv acc l):=by
  intro l
  induction l with
  | nil=>intro acc _ _;rfl
  | cons c r ih =>
    intro acc hd hl
    have hc:=hd c Yuw
    simp only [Zpk,Zfh] at hl ⊢
    have hg:=dv_ge r (acc*10+(c.toNat-48))
    unfold Lib.parseUint10
    rw [if_pos (show 48≤c.toNat∧c.toNat≤57 from hc),if_neg (by omega),if_neg (by omega)]
    exact ih _ (fun c hc=>hd c (Ys8 _ hc)) hl
theorem Z0x {l:List UInt8} (h0:l≠[]) (hd:∀ c∈l,Zct c) (hl:dv 0 l<1000000000000000000):Lib.atoiAll l=.ok (dv 0 l):=by
  cases l with
  | nil=>exact absurd rfl h0
  | cons c r =>
    have hc:=hd c Yuw
    unfold Zct at hc
    unfold Lib.atoiAll
    have e:¬ (c.toNat=43∨c.toNat=45):=by omega
    have e2:¬ c.toNat=45:=by omega
    have hp:Lib.parseMag (c::r)=.ok (dv 0 (c::r)):=by unfold Lib.parseMag;rw [if_neg h0,Yc1 (c::r) 0 hd hl]
    generalize dv 0 (c::r)=d at *
    simp only [if_neg e,hp,if_neg e2]
    rw [if_neg (fun h=>by omega),if_neg (fun h=>e2 h.1)]
theorem Yqk:∀ (l:List UInt8) (acc:Nat),(∀ c∈l,Zct c)→Zpi l acc=dv acc l:=by
  intro l
  induction l with
  | nil=>intro acc _;rfl
  | cons c r ih =>
    intro acc hd
    have hc:=hd c Yuw
    unfold Zct at hc
    have e:((acc*10+(c.toNat-48):Nat):Int)=10*(acc:Int)+((c.toNat:Int)-48):=by omega
    simp only [Zpi,Zfh]
    rw [if_neg (by omega),←ih _ (fun c hc=>hd c (Ys8 _ hc)),e]
theorem Z0y {l:List UInt8} (h0:l≠[]) (h1:l.length≤13) (hd:∀ c∈l,Zct c):Zpj l=dv 0 l:=by
  unfold Zpj
  rw [if_neg (by simp [h0];omega)]
  exact Yqk l 0 hd
theorem Zn1 (n:Int) (h0:0≤n) (h1:n<10):Zct (byt (48+n))∧(((byt (48+n)).toNat-48:Nat):Int)=n:=by
  have:=Zmj (n:=48+n) (by omega) (by omega)
  unfold Zct
  omega
theorem Z73 {a b:Int} (ha0:0≤a) (ha1:a<100) (hb0:0≤b) (hb1:b<100):(∀ c∈two a++two b,Zct c)∧(dv 0 (two a++two b):Int)=a*100+b:=by
  obtain ⟨p1,p2⟩:=Zn1 (a/10) (by omega) (by omega)
  obtain ⟨q1,q2⟩:=Zn1 (a%10) (by omega) (by omega)
  obtain ⟨r1,r2⟩:=Zn1 (b/10) (by omega) (by omega)
  obtain ⟨s1,s2⟩:=Zn1 (b%10) (by omega) (by omega)
  constructor
  · intro c hc
    simp only [two,Yr7,Ytw,List.mem_cons,List.not_mem_nil,or_false] at hc
    rcases hc with hc|hc|hc|hc<;>rw [hc]<;>assumption
  · simp only [two,Yr7,Ytw,Zpk,Zfh]
    omega
theorem Zwb {l:List UInt8} (hd:∀ c∈l,Zct c) {x:UInt8} (hx:¬ Zct x):x∉l:=fun h=>hx (hd x h)
theorem Zli {t:Int} (h0:0≤t):(∀ c∈Lib.itoa t,Zct c)∧(dv 0 (Lib.itoa t):Int)=t∧Lib.itoa t≠[]:=by
  obtain ⟨u,rfl⟩:∃ u:Nat,t=u:=⟨t.toNat,by omega⟩
  rw [Lib.itoa_nonneg]
  obtain ⟨h1,h2,h3⟩:=Zwa (u+1) u (by omega)
  exact ⟨h1,by rw [h2],h3⟩
theorem Ykp (s:List UInt8) (c:UInt8) (k:Nat) (hk:s.getD k 0=c):∀ n,k<n→(∀ j,k<j→j<n→s.getD j 0≠c)→Zb7 s c n=k:=by
  intro n
  induction n with
  | zero=>intro h;omega
  | succ n ih =>
    intro h hj
    unfold Zb7
    by_cases hn:n=k
    · rw [hn,if_pos hk]
    · rw [if_neg (hj n (by omega) (by omega))]
      exact ih (by omega) (fun j h1 h2=>hj j h1 (by omega))
theorem Zrr {a v:List UInt8} {c:UInt8} (h:c∉v):Zb7 (a++c::v) c (a++c::v).length=a.length:=by
  apply Ykp
  · simp [List.getD]
  · simp
  · intro j h1 h2 h3
    apply h
    rw [Ysv,Ysk] at h2
    rw [List.getD_eq_getElem?_getD,List.getElem?_append_right (by omega),show j-a.length=(j-a.length-1)+1 by omega,List.getElem?_cons_succ,List.getElem?_eq_getElem (by omega)] at h3
    rw [←h3]
    exact List.getElem_mem _
theorem occ2 (q:List UInt8) (i:Nat):Lib.occAt q [32,60] i=true↔q[i]? = some 32∧q[i+1]? = some 60:=by
  unfold Lib.occAt
  have e0:q[i]? = (q.drop i)[0]? := by rw [List.getElem?_drop];rfl
  have e1:q[i+1]? = (q.drop i)[1]? := by rw [List.getElem?_drop]
  rw [e0,e1]
  generalize q.drop i=l
  cases l with
  | nil=>simp [List.isPrefixOf]
  | cons a l=>cases l with
    | nil=>simp [List.isPrefixOf]
    | cons b l=>simp [List.isPrefixOf];constructor<;>rintro ⟨rfl,rfl⟩<;>exact ⟨rfl,rfl⟩
theorem Ykq {a b:List UInt8} (h:60∉b):Lib.lastIndex (a++[32,60]++b) [32,60]=a.length:=by
  unfold Lib.lastIndex
  rw [if_pos (by simp only [Ysv,Ysk,Yth];omega)]
  have hocc:Lib.occAt (a++[32,60]++b) [32,60] a.length=true:=by
    rw [occ2]
    constructor<;>simp
  rcases Lib.lastOcc_spec (a++[32,60]++b) [32,60] ((a++[32,60]++b).length - [(32:UInt8),60].length+1) with ⟨_,hn⟩|⟨i,h1,h2,h3,h4⟩
  · have:=hn a.length (by simp only [Ysv,Ysk,Yth];omega)
    rw [hocc] at this;cases this
  · rw [h2]
    by_cases hlt:i<a.length
    · have:=h4 a.length hlt (by simp only [Ysv,Ysk,Yth];omega)
      rw [hocc] at this;cases this
    · by_cases he:i=a.length
      · rw [he]
      · exfalso
        rw [occ2] at h3
        apply h
        have h5:=h3.2
        rw [Ysw,List.getElem?_append_right (by omega),List.getElem?_append_right (by simp;omega)] at h5
        exact List.mem_of_getElem? h5
theorem ends1 (q:List UInt8) (c:UInt8):Zf1 q [c]=true↔q≠[]∧q[q.length-1]? = some c:=by
  unfold Zf1
  simp only [Ysk,Yth,Ysj,decide_eq_true_eq,beq_iff_eq]
  cases q with
  | nil=>simp
  | cons a q =>
    simp only [Ysk,ne_eq,reduceCtorEq,not_false_eq_true,true_and]
    have e:(a::q)[q.length+1-1]? = ((a::q).drop (q.length+1-(0+1)))[0]? := by rw [List.getElem?_drop];rfl
    rw [e]
    have hl:((a::q).drop (q.length+1-(0+1))).length=1:=by rw [Ysc,Ysk];omega
    generalize (a::q).drop (q.length+1-(0+1))=l at *
    cases l with
    | nil=>simp at hl
    | cons x l=>cases l with
      | nil=>simp
      | cons y l=>simp at hl
theorem Yc2 {q:List UInt8} {k:Nat} (h:Lib.lastIndex q [32,60]=k) (he:Zf1 q [62]=true):k+2<q.length:=by
  unfold Lib.lastIndex at h
  split at h
  · rcases Lib.lastOcc_spec q [32,60] (q.length - [(32:UInt8),60].length+1) with ⟨h1,_⟩|⟨i,h1,h2,h3,_⟩
    · rw [h1] at h;omega
    · rw [h2] at h
      obtain rfl:i=k:=by omega
      obtain ⟨_,e2⟩:=(ends1 q 62).1 he
      obtain ⟨_,e1⟩:=(occ2 q i).1 h3
      have hlt:i+1<q.length:=(List.getElem?_eq_some_iff.1 e1).1
      by_cases hx:i+1=q.length-1
      · rw [hx,e2] at e1;cases e1
      · omega
  · omega
theorem Z5u (q:List UInt8):Lib.lastIndex q [32,60]<0∨∃ k:Nat,Lib.lastIndex q [32,60]=k:=by
  by_cases h:Lib.lastIndex q [32,60]<0
  · left;exact h
  · right;exact ⟨(Lib.lastIndex q [32,60]).toNat,by omega⟩
end Cod

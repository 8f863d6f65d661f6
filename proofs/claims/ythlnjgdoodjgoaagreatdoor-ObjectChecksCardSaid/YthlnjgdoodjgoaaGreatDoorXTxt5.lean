/- Digits read by the reference. -/
import Derived.Test.YthlnjgdoodjgoaaGreatDoorXTxt4
import Derived.Test.YthlnjgdoodjgoaaGreatDoorXTxt1
import Derived.Test.YthlnjgdoodjgoaaGreatDoorXTxt3
import Derived.Test.YthlnjgdoodjgoaaGreatDoorXTxt2
set_option linter.unusedSimpArgs false
set_option linter.unusedVariables false
open List renaming append_assoc → Ysw, append_nil → Yuh, cons_append → Yr7, drop_drop → Ys2, drop_eq_getElem_cons → Yt7, drop_left → Yu7, drop_left' → Yu0, drop_zero → Ytn, foldl_cons → Ysi, foldl_nil → Yuu, idxOf_lt_length_of_mem → Yu6, length_append → Ysv, length_cons → Ysk, length_drop → Ysc, length_nil → Yth, length_replicate → Yul, length_singleton → Yue, length_take → Ysb, nil_append → Ytw, take_left → Yu8, take_zero → Yu5
open Nat renaming le_refl → Yr4, sub_zero → Ys5
open Int renaming cast_ofNat_Int → Yuk, natCast_add → Yuj
open Bool renaming and_eq_true → Ysj, and_false → Yuv, false_and → Yuq, false_or → Yup, not_false → Yug, not_true → Yuf, or_true → Yu9, true_and → Yuo, true_or → Yva
open Nat renaming reduceEqDiff → A9, reduceAdd → B0, reduceSub → B1, reduceMul → B2, reduceDiv → B3, reduceMod → B4, reduceBEq → B5, reduceLeDiff → B6, reduceLT → B7
open Int renaming reduceEq → B8, reduceNe → B9, reduceLT → C0, reduceLE → C1, reduceBEq → C2, reduceBNe → C3, reduceToNat → C4, reduceAdd → C5, reduceSub → C6, reduceMul → C7, reduceNeg → A2
namespace Cod
open Go
def dgF (c:Int):Int:=if 48≤c∧c≤57 then c-48 else if 97≤c∧c≤102 then c-97+10 else 16
theorem Ydh {c:Int}:0≤dgF c∧dgF c≤16:=by
  unfold dgF;split
  · omega
  · split<;>omega
theorem Yld {c:Int} (h0:0≤c) (h1:c<256):S E F.P9 [.int .u8 c] []=some (.int .i64 (dgF c),[]):=by
  rw [S_of Zuu rfl rfl]
  unfold dgF
  by_cases a:48≤c
  · by_cases b:c≤57
    · have w:(c-48)%256=c-48:=by omega
      simp -dsimp (disch:=first|omega|(simp only [A3]<;>omega)|fail) only [L.P9,go_sem,reduceIte,reduceCtorEq,A9,B0,B1,B2,B3,B4,B5,B6,B7,B8,B9,C0,C1,C2,C3,C4,C5,C6,C7,A2,a,b,w]
    · by_cases a':97≤c
      · by_cases b':c≤102
        · have w:(c-97)%256=c-97:=by omega
          simp -dsimp (disch:=first|omega|(simp only [A3]<;>omega)|fail) only [L.P9,go_sem,reduceIte,reduceCtorEq,A9,B0,B1,B2,B3,B4,B5,B6,B7,B8,B9,C0,C1,C2,C3,C4,C5,C6,C7,A2,a,b,a',b',w]
        · simp -dsimp (disch:=first|omega|(simp only [A3]<;>omega)|fail) only [L.P9,go_sem,reduceIte,reduceCtorEq,A9,B0,B1,B2,B3,B4,B5,B6,B7,B8,B9,C0,C1,C2,C3,C4,C5,C6,C7,A2,a,b,a',b',and_false,false_and]
      · simp -dsimp (disch:=first|omega|(simp only [A3]<;>omega)|fail) only [L.P9,go_sem,reduceIte,reduceCtorEq,A9,B0,B1,B2,B3,B4,B5,B6,B7,B8,B9,C0,C1,C2,C3,C4,C5,C6,C7,A2,a,b,a',and_false,false_and]
  · have a':¬ 97≤c:=by omega
    simp -dsimp (disch:=first|omega|(simp only [A3]<;>omega)|fail) only [L.P9,go_sem,reduceIte,reduceCtorEq,A9,B0,B1,B2,B3,B4,B5,B6,B7,B8,B9,C0,C1,C2,C3,C4,C5,C6,C7,A2,a,a',false_and]
theorem Z79:∀ n:Nat,n<16→dgF ((Zgv n).toNat:Int)=(n:Int):=by decide
def half (id:List UInt8) (i:Nat):List UInt8:=if i%2=0 then fil id (i/2) else (fil id (i/2)).set (i/2) (UInt8.ofNat ((id.getD (i/2) 0).toNat/16))
theorem rp_l0 {s:List UInt8} (hs:s.length=64):∀ (m i:Nat) (d:List UInt8),i+m=64→d.length=32→∃ d' e,d'.length=32∧(e=0∨e=4) ∧
    X E [.cell 2 (some 32),.tmp 3] (.c L.H3.x0::.lp [0,2,4,5] L.H3.x0::.blk 0::[.c L.H3.r0]) ⟨[(0,.str s),(2,.ref (.s 1000000 0) 0 0),(4,.ref (.s 1000000 1) 0 0),(5,.int .i64 i)],[(.s 1000000 0,⟨0,true,true,true,A0 (List.replicate 32 0)⟩),(.s 1000000 1,⟨0,true,true,true,A0 d⟩)]⟩=some (.tup [.agg (A0 d'),.int .i64 e],[]) ∧
    ∀ id,id.length=32→s=M0 id→d=half id i→d'=id∧e=0:=by
  intro m
  induction m with
  | zero =>
    intro i d hi hd
    obtain rfl:i=64:=by omega
    refine ⟨d,0,hd,.inl rfl,?_,fun id h1 h2 h3=>⟨by rw [h3];exact Z78 h1,rfl⟩⟩
    rw [G8 L.H3.x0.eq_1]
    simp -dsimp (disch:=first|omega|(simp only [A3]<;>omega)|fail) only [go_sem,reduceIte,reduceCtorEq,A9,B0,B1,B2,B3,B4,B5,B6,B7,B8,B9,C0,C1,C2,C3,C4,C5,C6,C7,A2,BYs,L.H3.r0,Yul,hd]
  | succ m ih =>
    intro i d hi hd
    have hlt:i<64:=by omega
    obtain ⟨b0,b1⟩:=O4 s i
    have c1:=Yld b0 b1
    obtain ⟨g0,g1⟩:=Ydh (c:=bat s i)
    have yes:∀ id,id.length=32→s=M0 id→dgF (bat s i)=((if i%2=0 then (id.getD (i/2) 0).toNat/16 else (id.getD (i/2) 0).toNat%16:Nat):Int):=by
      intro id h1 h2
      have:=(id.getD (i/2) 0).toNat_lt
      obtain ⟨k1,k2⟩:=Zz7 (id:=id) (i:=i/2) (by omega)
      have e:bat s i=(((M0 id).getD i 0).toNat:Int):=by rw [←h2];rfl
      rw [e]
      by_cases he:i%2=0
      · rw [if_pos he,show i=2*(i/2) by omega,k1,show 2*(i/2)/2=i/2 by omega]
        exact Z79 _ (by omega)
      · rw [if_neg he,show i=2*(i/2)+1 by omega,k2,show (2*(i/2)+1)/2=i/2 by omega]
        exact Z79 _ (by omega)
    generalize dgF (bat s i)=A at *
    have e1:(i:Int).tdiv 2=((i/2:Nat):Int):=by rw [S6 (by omega)];omega
    rw [G8 L.H3.x0.eq_1]
    by_cases hA:15<A
    · refine ⟨List.replicate 32 0,4,by simp,.inr rfl,?_,fun id h1 h2 _=>?_⟩
      · simp -dsimp (disch:=first|omega|(simp only [A3]<;>omega)|fail) only [go_sem,reduceIte,reduceCtorEq,A9,B0,B1,B2,B3,B4,B5,B6,B7,B8,B9,C0,C1,C2,C3,C4,C5,C6,C7,A2,BYs,c1,hA,Yul,hd]
      · have y:=yes id h1 h2
        have:=(id.getD (i/2) 0).toNat_lt
        by_cases he:i%2=0
        · rw [if_pos he] at y;omega
        · rw [if_neg he] at y;omega
    · obtain ⟨d',e,h1,h2,h3,h4⟩:=ih (i+1) (d.set (i/2) (UInt8.ofNat ((16*bat d (i/2)%256+A%256)%256).toNat)) (by omega) (by rw [List.length_set];exact hd)
      simp only [Yuj,Yuk] at h3
      have hx0:=O4 d (i/2)
      refine ⟨d',e,h1,h2,?_,fun id g1 g2 g3=>h4 id g1 g2 ?_⟩
      · rw [←h3]
        simp -dsimp (disch:=first|omega|(simp only [A3]<;>omega)|fail) only [go_sem,reduceIte,reduceCtorEq,A9,B0,B1,B2,B3,B4,B5,B6,B7,B8,B9,C0,C1,C2,C3,C4,C5,C6,C7,A2,BYs,e1,c1,hA,Yul,hd]
      · have y:=yes id g1 g2
        have hx:=(id.getD (i/2) 0).toNat_lt
        have hfl:=Yq4 (k:=i/2) g1 (by omega)
        by_cases he:i%2=0
        · rw [if_pos he] at y
          have hd0:bat d (i/2)=0:=by
            rw [g3]
            unfold half bat
            rw [if_pos he]
            unfold fil
            have hl:(id.take (i/2)).length=i/2:=by rw [Ysb];omega
            simp only [List.getD]
            rw [List.getElem?_append_right (by omega),hl,Nat.sub_self,List.getElem?_replicate]
            split<;>rfl
          rw [hd0,y,show ((16*0%256+(((id.getD (i/2) 0).toNat/16:Nat):Int)%256)%256).toNat=(id.getD (i/2) 0).toNat/16 by omega,g3]
          unfold half
          rw [if_pos he,if_neg (by omega),show (i+1)/2=i/2 by omega]
        · rw [if_neg he] at y
          have hd0:bat d (i/2)=(((id.getD (i/2) 0).toNat/16:Nat):Int):=by
            rw [g3]
            unfold half bat
            rw [if_neg he]
            have key:∀ (l:List UInt8) (k:Nat) (x:UInt8),k<l.length→(l.set k x).getD k 0=x:=by intro l k x h;simp [List.getD,h]
            rw [key _ _ _ (by omega),UInt8.toNat_ofNat']
            omega
          rw [hd0,y,show ((16*(((id.getD (i/2) 0).toNat/16:Nat):Int)%256+(((id.getD (i/2) 0).toNat%16:Nat):Int)%256)%256).toNat=(id.getD (i/2) 0).toNat by omega,g3,UInt8.ofNat_toNat]
          unfold half
          rw [if_neg he,if_pos (by omega),List.set_set,Z77 g1 (by omega),show (i+1)/2=i/2+1 by omega]
theorem Zjq {s:List UInt8} (hs:s.length≤1000000000):∃ d e,d.length=32∧(e=0∨e=4)∧S E F.H3 [.str s] []=some (.tup [.agg (A0 d),.int .i64 e],[])∧∀ id,id.length=32→s=M0 id→d=id∧e=0:=by
  by_cases hl:s.length=64
  · obtain ⟨d,e,h1,h2,h3,h4⟩:=rp_l0 hl 64 0 (List.replicate 32 0) (by omega) (by simp)
    simp only [Yuk] at h3
    refine ⟨d,e,h1,h2,?_,fun id g1 g2=>h4 id g1 g2 (by unfold half fil;simp)⟩
    rw [S_of Zkq rfl rfl]
    simp -dsimp (disch:=first|omega|(simp only [A3]<;>omega)|fail) only [L.H3,go_sem,reduceIte,reduceCtorEq,A9,B0,B1,B2,B3,B4,B5,B6,B7,B8,B9,C0,C1,C2,C3,C4,C5,C6,C7,A2,BYs,hl,h3]
  · refine ⟨List.replicate 32 0,4,by simp,.inr rfl,?_,fun id g1 g2=>?_⟩
    · rw [S_of Zkq rfl rfl]
      simp -dsimp (disch:=first|omega|(simp only [A3]<;>omega)|fail) only [L.H3,go_sem,reduceIte,reduceCtorEq,A9,B0,B1,B2,B3,B4,B5,B6,B7,B8,B9,C0,C1,C2,C3,C4,C5,C6,C7,A2,BYs,hl,Yul]
    · exact absurd (by rw [g2,V1];omega) hl
end Cod
namespace Cod
open Go
theorem Z8a {l:List UInt8} {c:UInt8} (h:c∈l):I0 l c=(l.idxOf c:Nat):=by simp [I0,h]
theorem Z8b {l:List UInt8} {c:UInt8} (h:c∉l):I0 l c = -1:=by simp [I0,h]
theorem byt_u8 (c:UInt8):byt (c.toNat:Int)=c:=by simp [byt]
theorem Yle {s:List UInt8} {c:UInt8}:S E F.K7 [.str s,.str [c]] []=some (.int .i64 (I0 s c),[]):=by
  have hx:S E F.Zab [.str s,.int .u8 c.toNat] []=some (.int .i64 (I0 s c),[]):=by
    have h:=M5 ext0 (Zzx (l:=s) (c:=c.toNat))
    rw [byt_u8] at h
    exact h
  have h1:S E F.N3 [.str s,.int .u8 c.toNat] []=some (.int .i64 (I0 s c),[]):=by
    rw [S_of Zkx rfl rfl]
    simp -dsimp (disch:=first|omega|(simp only [A3]<;>omega)|fail) only [L.N3,go_sem,reduceIte,reduceCtorEq,A9,B0,B1,B2,B3,B4,B5,B6,B7,B8,B9,C0,C1,C2,C3,C4,C5,C6,C7,A2,hx]
  have b0:bat [c] 0=c.toNat:=rfl
  rw [S_of Zu4 rfl rfl]
  cases hs:(([c]:List UInt8)==s) with
  | true =>
    have:=eq_of_beq hs
    subst this
    have hi:I0 [c] c=0:=by simp [I0]
    rw [hi]
    simp -dsimp (disch:=first|omega|(simp only [A3]<;>omega)|fail) only [L.K7,go_sem,reduceIte,reduceCtorEq,A9,B0,B1,B2,B3,B4,B5,B6,B7,B8,B9,C0,C1,C2,C3,C4,C5,C6,C7,A2,hs,h1,b0]
  | false =>
    simp -dsimp (disch:=first|omega|(simp only [A3]<;>omega)|fail) only [L.K7,go_sem,reduceIte,reduceCtorEq,A9,B0,B1,B2,B3,B4,B5,B6,B7,B8,B9,C0,C1,C2,C3,C4,C5,C6,C7,A2,hs,h1,b0]
theorem sl_cut {s:List UInt8} {c:UInt8} (hs:s.length≤1000000000000):S E F.T3 [.str s,.str [c]] []=some (if c∈s then .tup [.str (s.take (s.idxOf c)),.str (s.drop (s.idxOf c+1)),.bool true] else .tup [.str s,.str [],.bool false],[]):=by
  have h:=Yle (s:=s) (c:=c)
  rw [S_of Zuk rfl rfl]
  by_cases hc:c∈s
  · rw [Z8a hc] at h
    have hi:=Yu6 hc
    rw [if_pos hc]
    have e1:((s.idxOf c:Int)+((1:Nat):Int)).toNat=s.idxOf c+1:=by omega
    have e2:sub s 0 (s.idxOf c)=s.take (s.idxOf c):=by simp [sub]
    have e3:sub s (s.idxOf c+1) (s.length-(s.idxOf c+1))=s.drop (s.idxOf c+1):=D5 (by omega)
    simp -dsimp (disch:=first|omega|(simp only [A3]<;>omega)|fail) only [L.T3,go_sem,reduceIte,reduceCtorEq,A9,B0,B1,B2,B3,B4,B5,B6,B7,B8,B9,C0,C1,C2,C3,C4,C5,C6,C7,A2,h,e1,e2,e3,Ys5]
  · rw [Z8b hc] at h
    rw [if_neg hc]
    simp -dsimp (disch:=first|omega|(simp only [A3]<;>omega)|fail) only [L.T3,go_sem,reduceIte,reduceCtorEq,A9,B0,B1,B2,B3,B4,B5,B6,B7,B8,B9,C0,C1,C2,C3,C4,C5,C6,C7,A2,h]
theorem Z8c {s:List UInt8} {c:UInt8} (hs:s.length≤1000000000000):S E F.R6 [.str s,.str [c]] []=some (if c∈s then .tup [.str (s.take (s.idxOf c)),.str (s.drop (s.idxOf c+1)),.bool true] else .tup [.str s,.str [],.bool false],[]):=by
  have h:=sl_cut (c:=c) hs
  rw [S_of Ztt rfl rfl]
  by_cases hc:c∈s
  · rw [if_pos hc] at h ⊢
    simp -dsimp (disch:=first|omega|(simp only [A3]<;>omega)|fail) only [L.R6,go_sem,reduceIte,reduceCtorEq,A9,B0,B1,B2,B3,B4,B5,B6,B7,B8,B9,C0,C1,C2,C3,C4,C5,C6,C7,A2,h]
  · rw [if_neg hc] at h ⊢
    simp -dsimp (disch:=first|omega|(simp only [A3]<;>omega)|fail) only [L.R6,go_sem,reduceIte,reduceCtorEq,A9,B0,B1,B2,B3,B4,B5,B6,B7,B8,B9,C0,C1,C2,C3,C4,C5,C6,C7,A2,h]
theorem Ydi {l:List UInt8} {n:Nat} {c:Int} (h:n=l.length):S E F.R0 [.lst (A0 l) n,.int .u8 c] []=some (.int .i64 (I0 l (byt c)),[]):=by
  rw [S_of Zu3 rfl rfl]
  simp -dsimp (disch:=first|omega|(simp only [A3]<;>omega)|fail) only [L.R0,go_sem,reduceIte,reduceCtorEq,A9,B0,B1,B2,B3,B4,B5,B6,B7,B8,B9,C0,C1,C2,C3,C4,C5,C6,C7,A2,Zzw h]
theorem Z55 {l:List UInt8} {n:Nat} (hn:n=l.length) (hl:l.length≤1000000000000):S E F.J8 [.lst (A0 l) n,.lst [.int .u8 0] 1] []=some (.int .i64 (I0 l 0),[]):=by
  have h:=Ydi (l:=l) (n:=n) (c:=0) hn
  rw [show byt 0=0 from rfl] at h
  rw [S_of Zuj rfl rfl]
  simp -dsimp (disch:=first|omega|(simp only [A3]<;>omega)|fail) only [L.J8,go_sem,reduceIte,reduceCtorEq,A9,B0,B1,B2,B3,B4,B5,B6,B7,B8,B9,C0,C1,C2,C3,C4,C5,C6,C7,A2,BYs,h]
theorem Yq5 {l:List UInt8} {n:Nat} (hn:n=l.length) (hl:l.length≤1000000000000):S E F.Zbd [.lst (A0 l) n,.lst [.int .u8 0] 1] [] =
    some (if (0:UInt8)∈l then (.tup [.lst (A0 (l.take (l.idxOf 0))) (l.idxOf 0),.lst (A0 (l.drop (l.idxOf 0+1))) (n-(l.idxOf 0+1)),.bool true],[]) else (.tup [.lst (A0 l) n,.buf (.r 0) 0 0 0 1,.bool false],[(.r 0,⟨0,true,true,false,[]⟩)])):=by
  have h:=Z55 hn hl
  subst hn
  rw [S_of Zts rfl rfl]
  by_cases hc:(0:UInt8)∈l
  · rw [Z8a hc] at h
    have hi:=Yu6 hc
    rw [if_pos hc]
    have e1:((l.idxOf (0:UInt8):Int)+((1:Nat):Int)).toNat=l.idxOf (0:UInt8)+1:=by omega
    have e2:sub l 0 (l.idxOf (0:UInt8))=l.take (l.idxOf (0:UInt8)):=by simp [sub]
    have e3:sub l (l.idxOf (0:UInt8)+1) (l.length-(l.idxOf (0:UInt8)+1))=l.drop (l.idxOf (0:UInt8)+1):=D5 (by omega)
    simp -dsimp (disch:=first|omega|(simp only [A3]<;>omega)|fail) only [L.Zbd,go_sem,reduceIte,reduceCtorEq,A9,B0,B1,B2,B3,B4,B5,B6,B7,B8,B9,C0,C1,C2,C3,C4,C5,C6,C7,A2,BYs,h,e1,e2,e3,Ys5]
  · rw [Z8b hc] at h
    rw [if_neg hc]
    simp -dsimp (disch:=first|omega|(simp only [A3]<;>omega)|fail) only [L.Zbd,go_sem,reduceIte,reduceCtorEq,A9,B0,B1,B2,B3,B4,B5,B6,B7,B8,B9,C0,C1,C2,C3,C4,C5,C6,C7,A2,BYs,h]
end Cod
namespace Cod
open Go
theorem Ylf {w v:List UInt8}:(w++v).drop w.length=v:=Yu7
theorem Zr5 {s t:List UInt8} (hs:s.length≤1000000000000) (ht:t.length≤1000000000000):S E F.Q8 [.str s,.str t] []=some (.bool (decide (t.length≤s.length)&&(s.take t.length==t)),[]):=by
  have h0:S E F.L8 [.str s,.str t] []=some (.bool (decide (t.length≤s.length)&&(s.take t.length==t)),[]):=by
    rw [S_of Zkw rfl rfl]
    by_cases h:t.length≤s.length
    · simp -dsimp (disch:=first|omega|(simp only [A3]<;>omega)|fail) only [L.L8,go_sem,reduceIte,reduceCtorEq,A9,B0,B1,B2,B3,B4,B5,B6,B7,B8,B9,C0,C1,C2,C3,C4,C5,C6,C7,A2,h,E3,E2,D5,decide_true,Yuo,Ys5]
    · simp -dsimp (disch:=first|omega|(simp only [A3]<;>omega)|fail) only [L.L8,go_sem,reduceIte,reduceCtorEq,A9,B0,B1,B2,B3,B4,B5,B6,B7,B8,B9,C0,C1,C2,C3,C4,C5,C6,C7,A2,h,E3,E2,D5,decide_false,Yuq]
  rw [S_of Zt7 rfl rfl]
  simp -dsimp (disch:=first|omega|(simp only [A3]<;>omega)|fail) only [L.Q8,go_sem,reduceIte,reduceCtorEq,A9,B0,B1,B2,B3,B4,B5,B6,B7,B8,B9,C0,C1,C2,C3,C4,C5,C6,C7,A2,h0]
def Zdp (s t:List UInt8):Bool:=decide (t.length≤s.length)&&(s.take t.length==t)
theorem Zpq (w v:List UInt8):Zdp (w++v) w=true:=by
  unfold Zdp
  simp
theorem Zmm {s t:List UInt8} (hs:s.length≤1000000000000) (ht:t.length≤1000000000000):S E F.Q9 [.str s,.str t] []=some (if Zdp s t=true then .tup [.str (s.drop t.length),.bool true] else .tup [.str s,.bool false],[]):=by
  have h0:S E F.T6 [.str s,.str t] []=some (if Zdp s t=true then .tup [.str (s.drop t.length),.bool true] else .tup [.str s,.bool false],[]):=by
    have hp:S E F.L8 [.str s,.str t] []=some (.bool (Zdp s t),[]):=by
      rw [S_of Zkw rfl rfl]
      unfold Zdp
      by_cases h:t.length≤s.length
      · simp -dsimp (disch:=first|omega|(simp only [A3]<;>omega)|fail) only [L.L8,go_sem,reduceIte,reduceCtorEq,A9,B0,B1,B2,B3,B4,B5,B6,B7,B8,B9,C0,C1,C2,C3,C4,C5,C6,C7,A2,h,E3,E2,D5,decide_true,Yuo,Ys5]
      · simp -dsimp (disch:=first|omega|(simp only [A3]<;>omega)|fail) only [L.L8,go_sem,reduceIte,reduceCtorEq,A9,B0,B1,B2,B3,B4,B5,B6,B7,B8,B9,C0,C1,C2,C3,C4,C5,C6,C7,A2,h,E3,E2,D5,decide_false,Yuq]
    rw [S_of Zva rfl rfl]
    cases hb:Zdp s t with
    | true =>
      have hl:t.length≤s.length:=by unfold Zdp at hb;simp only [Ysj,decide_eq_true_eq] at hb;exact hb.1
      simp -dsimp (disch:=first|omega|(simp only [A3]<;>omega)|fail) only [L.T6,go_sem,reduceIte,reduceCtorEq,A9,B0,B1,B2,B3,B4,B5,B6,B7,B8,B9,C0,C1,C2,C3,C4,C5,C6,C7,A2,hp,hb,E3,E2,D5]
    | false=>simp -dsimp (disch:=first|omega|(simp only [A3]<;>omega)|fail) only [L.T6,go_sem,reduceIte,reduceCtorEq,A9,B0,B1,B2,B3,B4,B5,B6,B7,B8,B9,C0,C1,C2,C3,C4,C5,C6,C7,A2,hp,hb,E3,E2,D5]
  rw [S_of Zut rfl rfl]
  cases hb:Zdp s t with
  | true=>rw [hb] at h0;simp -dsimp (disch:=first|omega|(simp only [A3]<;>omega)|fail) only [L.Q9,go_sem,reduceIte,reduceCtorEq,A9,B0,B1,B2,B3,B4,B5,B6,B7,B8,B9,C0,C1,C2,C3,C4,C5,C6,C7,A2] at h0 ⊢;simp -dsimp (disch:=first|omega|(simp only [A3]<;>omega)|fail) only [go_sem,reduceIte,reduceCtorEq,A9,B0,B1,B2,B3,B4,B5,B6,B7,B8,B9,C0,C1,C2,C3,C4,C5,C6,C7,A2,h0]
  | false=>rw [hb] at h0;simp -dsimp (disch:=first|omega|(simp only [A3]<;>omega)|fail) only [L.Q9,go_sem,reduceIte,reduceCtorEq,A9,B0,B1,B2,B3,B4,B5,B6,B7,B8,B9,C0,C1,C2,C3,C4,C5,C6,C7,A2] at h0 ⊢;simp -dsimp (disch:=first|omega|(simp only [A3]<;>omega)|fail) only [go_sem,reduceIte,reduceCtorEq,A9,B0,B1,B2,B3,B4,B5,B6,B7,B8,B9,C0,C1,C2,C3,C4,C5,C6,C7,A2,h0]
/- Steps of a reader of lines. -/
theorem Zn4 {rest w:List UInt8} {bad:Nat} (hr:rest.length≤1000000000) (hw:w.length≤100) (hw10:(10:UInt8)∉w) (hb:bad≤100000):∃ v r b,v.length≤rest.length∧r.length≤rest.length∧bad≤b∧b≤bad+1 ∧
    (∀ x:Site,S E F.K6 [.ref (.up x) 0 0,.str w] [(.up x,⟨0,true,true,true,[.str rest,.int .i64 bad]⟩)]=some (.str v,[(.up x,⟨0,true,true,true,[.str r,.int .i64 (b:Int)]⟩)])) ∧
    (b=bad→r.length<rest.length) ∧
    ∀ v0 r0,(10:UInt8)∉v0→rest=w++32::(v0++10::r0)→v=v0∧r=r0∧b=bad:=by
  have h1:=Z8c (s:=rest) (c:=10) (by omega)
  by_cases hc:(10:UInt8)∈rest
  · rw [if_pos hc] at h1
    have hlt:(rest.take (rest.idxOf 10)).length≤rest.length:=by rw [Ysb];omega
    have h2:=Zmm (s:=rest.take (rest.idxOf 10)) (t:=w++[32]) (by omega) (by rw [Ysv,Yue];omega)
    have hi:=Yu6 hc
    have hsplit:rest=rest.take (rest.idxOf 10)++10::rest.drop (rest.idxOf 10+1):=by
      conv=>lhs;rw [←List.take_append_drop (rest.idxOf 10) rest,Yt7 hi]
      rw [List.getElem_idxOf hi]
    have hno:=Yu6 hc
    have yes:∀ v0 r0,(10:UInt8)∉v0→rest=w++32::(v0++10::r0)→rest.take (rest.idxOf 10)=w++[32]++v0∧rest.drop (rest.idxOf 10+1)=r0:=by
      intro v0 r0 g1 g2
      have gi:=Yp4 (r:=r0) hw10 g1
      rw [←g2] at gi
      rw [gi]
      have e:rest=(w++[32]++v0)++10::r0:=by rw [g2];simp
      have el:(w++[32]++v0).length=w.length+1+v0.length:=by simp;omega
      rw [e,←el]
      refine ⟨Yu8,?_⟩
      rw [←Ys2,Yu7]
      rfl
    generalize rest.take (rest.idxOf 10)=line at *
    generalize rest.drop (rest.idxOf 10+1)=tail at *
    have htl':tail.length<rest.length:=by rw [hsplit,Ysv,Ysk];omega
    have htl:tail.length≤rest.length:=by omega
    cases hp:Zdp line (w++[32]) with
    | true =>
      rw [hp,if_pos rfl] at h2
      have hd:(line.drop (w++[32]).length).length≤rest.length:=by rw [Ysc];omega
      refine ⟨line.drop (w++[32]).length,tail,bad,hd,htl,Yr4 _,by omega,?_,fun _=>htl',fun v0 r0 g1 g2=>?_⟩
      · intro x;rw [S_of Zgj rfl rfl]
        simp -dsimp (disch:=first|omega|(simp only [A3]<;>omega)|fail) only [L.K6,go_sem,reduceIte,reduceCtorEq,A9,B0,B1,B2,B3,B4,B5,B6,B7,B8,B9,C0,C1,C2,C3,C4,C5,C6,C7,A2,h1,h2,Yuj,Yuk]
      · obtain ⟨e1,e2⟩:=yes v0 r0 g1 g2
        refine ⟨?_,e2,rfl⟩
        rw [e1];exact Ylf
    | false =>
      rw [hp,if_neg (by simp)] at h2
      refine ⟨[],rest,bad+1,by simp,Yr4 _,by omega,Yr4 _,?_,fun h=>by omega,fun v0 r0 g1 g2=>?_⟩
      · intro x;rw [S_of Zgj rfl rfl]
        simp -dsimp (disch:=first|omega|(simp only [A3]<;>omega)|fail) only [L.K6,go_sem,reduceIte,reduceCtorEq,A9,B0,B1,B2,B3,B4,B5,B6,B7,B8,B9,C0,C1,C2,C3,C4,C5,C6,C7,A2,h1,h2,Yuj,Yuk]
      · obtain ⟨e1,e2⟩:=yes v0 r0 g1 g2
        rw [e1,Zpq] at hp
        cases hp
  · rw [if_neg hc] at h1
    have h2:=Zmm (s:=rest) (t:=w++[32]) (by omega) (by rw [Ysv,Yue];omega)
    refine ⟨[],rest,bad+1,by simp,Yr4 _,by omega,Yr4 _,?_,fun h=>by omega,fun v0 r0 g1 g2=>?_⟩
    · intro x;rw [S_of Zgj rfl rfl]
      cases hp:Zdp rest (w++[32]) with
      | true=>rw [hp,if_pos rfl] at h2;simp -dsimp (disch:=first|omega|(simp only [A3]<;>omega)|fail) only [L.K6,go_sem,reduceIte,reduceCtorEq,A9,B0,B1,B2,B3,B4,B5,B6,B7,B8,B9,C0,C1,C2,C3,C4,C5,C6,C7,A2,h1,h2,Yuj,Yuk]
      | false=>rw [hp,if_neg (by simp)] at h2;simp -dsimp (disch:=first|omega|(simp only [A3]<;>omega)|fail) only [L.K6,go_sem,reduceIte,reduceCtorEq,A9,B0,B1,B2,B3,B4,B5,B6,B7,B8,B9,C0,C1,C2,C3,C4,C5,C6,C7,A2,h1,h2,Yuj,Yuk]
    · exact absurd (by rw [g2];simp) hc
end Cod
namespace Cod
open Go
theorem Z56 {rest w:List UInt8} {bad:Nat} (hr:rest.length≤1000000000) (hw:w.length≤100) (hw10:(10:UInt8)∉w) (hb:bad≤100000):∃ d r b,d.length=32∧r.length≤rest.length∧bad≤b∧b≤bad+2 ∧
    (∀ x:Site,S E F.M7 [.ref (.up x) 0 0,.str w] [(.up x,⟨0,true,true,true,[.str rest,.int .i64 bad]⟩)]=some (.agg (A0 d),[(.up x,⟨0,true,true,true,[.str r,.int .i64 (b:Int)]⟩)])) ∧
    (b=bad→r.length<rest.length) ∧
    ∀ id r0,id.length=32→rest=w++32::(M0 id++10::r0)→d=id∧r=r0∧b=bad:=by
  obtain ⟨v,r,b,h1,h2,h3,h4,h5,hpr,h6⟩:=Zn4 hr hw hw10 hb
  obtain ⟨d,e,k1,k2,k3,k4⟩:=Ydg (s:=v) (by omega)
  have ho:over (A0 (List.replicate 32 0)) 0 (A0 d)=A0 d:=R3 (by rw [k1];simp)
  rcases k2 with rfl|rfl
  · refine ⟨d,r,b,k1,h2,h3,by omega,?_,hpr,fun id r0 g1 g2=>?_⟩
    · intro x;rw [S_of Zkn rfl rfl]
      simp -dsimp (disch:=first|omega|(simp only [A3]<;>omega)|fail) only [L.M7,go_sem,reduceIte,reduceCtorEq,A9,B0,B1,B2,B3,B4,B5,B6,B7,B8,B9,C0,C1,C2,C3,C4,C5,C6,C7,A2,BYs,h5,k3,ho,Yul]
    · obtain ⟨e1,e2,e3⟩:=h6 _ _ (Zeo id) g2
      exact ⟨(k4 id g1 e1).1,e2,e3⟩
  · refine ⟨d,r,b+1,k1,h2,by omega,by omega,?_,fun h=>by omega,fun id r0 g1 g2=>?_⟩
    · intro x;rw [S_of Zkn rfl rfl]
      simp -dsimp (disch:=first|omega|(simp only [A3]<;>omega)|fail) only [L.M7,go_sem,reduceIte,reduceCtorEq,A9,B0,B1,B2,B3,B4,B5,B6,B7,B8,B9,C0,C1,C2,C3,C4,C5,C6,C7,A2,BYs,h5,k3,ho,Yul,Yuj,Yuk]
    · obtain ⟨e1,e2,e3⟩:=h6 _ _ (Zeo id) g2
      have:=(k4 id g1 e1).2
      omega
theorem Z57 {rest w:List UInt8} {bad:Nat} (hr:rest.length≤1000000000) (hw:w.length≤100) (hw10:(10:UInt8)∉w) (hb:bad≤100000):∃ (i:Idt) (r:List UInt8) (b:Nat),i.name.length≤100∧i.email.length≤100∧r.length≤rest.length∧bad≤b∧b≤bad+2 ∧
    (∀ x:Site,S E F.P4 [.ref (.up x) 0 0,.str w] [(.up x,⟨0,true,true,true,[.str rest,.int .i64 bad]⟩)]=some (.agg i.cells,[(.up x,⟨0,true,true,true,[.str r,.int .i64 (b:Int)]⟩)])) ∧
    ∀ j r0,D7 j=true→rest=w++32::(H1 j++10::r0)→i=j∧r=r0∧b=bad:=by
  obtain ⟨v,r,b,h1,h2,h3,h4,h5,hpr,h6⟩:=Zn4 hr hw hw10 hb
  rcases Zne v with ⟨i,i1,i2⟩|hno
  · have k3:=Zwg i1
    rw [i2] at k3
    refine ⟨i,r,b,?_,?_,h2,h3,by omega,?_,fun j r0 g1 g2=>?_⟩
    · exact Zaq ((R7 i).1 i1).1
    · exact Zaq ((R7 i).1 i1).2.1
    · intro x;rw [S_of Zko rfl rfl]
      simp -dsimp (disch:=first|omega|(simp only [A3]<;>omega)|fail) only [L.P4,go_sem,reduceIte,reduceCtorEq,A9,B0,B1,B2,B3,B4,B5,B6,B7,B8,B9,C0,C1,C2,C3,C4,C5,C6,C7,A2,BYs,h5,k3,Idt.cells]
    · obtain ⟨e1,e2,e3⟩:=h6 _ _ (Zh3 g1) g2
      refine ⟨?_,e2,e3⟩
      rw [e1] at i2
      have a1:=(Zlm i1).1
      have a2:=(Zlm g1).1
      rw [i2] at a1
      exact a1.symm.trans a2
  · have k3:=Z00 (s:=v) (by omega) hno
    unfold Ze1 Zbs at k3
    refine ⟨⟨[],[],0,0⟩,r,b+1,by simp,by simp,h2,by omega,by omega,?_,fun j r0 g1 g2=>?_⟩
    · intro x;rw [S_of Zko rfl rfl]
      simp -dsimp (disch:=first|omega|(simp only [A3]<;>omega)|fail) only [L.P4,go_sem,reduceIte,reduceCtorEq,A9,B0,B1,B2,B3,B4,B5,B6,B7,B8,B9,C0,C1,C2,C3,C4,C5,C6,C7,A2,BYs,h5,k3,Idt.cells,Yuj,Yuk]
    · obtain ⟨e1,e2,e3⟩:=h6 _ _ (Zh3 g1) g2
      exact absurd e1.symm (hno j g1)
theorem Ylg {rest:List UInt8} {bad:Nat} (hr:rest.length≤1000000000) (hb:bad≤100000):∃ m b,m.length≤rest.length∧bad≤b∧b≤bad+1 ∧
    (∀ x:Site,S E F.Q7 [.ref (.up x) 0 0] [(.up x,⟨0,true,true,true,[.str rest,.int .i64 bad]⟩)]=some (.str m,[(.up x,⟨0,true,true,true,[.str rest,.int .i64 (b:Int)]⟩)])) ∧
    ∀ m0,rest=10::m0→m=m0∧b=bad:=by
  have h2:=Zmm (s:=rest) (t:=[10]) (by omega) (by simp)
  cases hp:Zdp rest [10] with
  | true =>
    rw [hp,if_pos rfl] at h2
    refine ⟨rest.drop 1,bad,by rw [Ysc];omega,Yr4 _,by omega,?_,fun m0 g=>⟨by rw [g];rfl,rfl⟩⟩
    intro x;rw [S_of Zkp rfl rfl]
    simp -dsimp (disch:=first|omega|(simp only [A3]<;>omega)|fail) only [L.Q7,go_sem,reduceIte,reduceCtorEq,A9,B0,B1,B2,B3,B4,B5,B6,B7,B8,B9,C0,C1,C2,C3,C4,C5,C6,C7,A2,h2,Ysk,Yth]
  | false =>
    rw [hp,if_neg (by simp)] at h2
    refine ⟨rest,bad+1,Yr4 _,by omega,Yr4 _,?_,fun m0 g=>?_⟩
    · intro x;rw [S_of Zkp rfl rfl]
      simp -dsimp (disch:=first|omega|(simp only [A3]<;>omega)|fail) only [L.Q7,go_sem,reduceIte,reduceCtorEq,A9,B0,B1,B2,B3,B4,B5,B6,B7,B8,B9,C0,C1,C2,C3,C4,C5,C6,C7,A2,h2,Yuj,Yuk]
    · rw [g] at hp
      have:=Zpq [10] m0
      rw [List.singleton_append] at this
      rw [this] at hp
      cases hp
theorem Ylh {t w:List UInt8} (ht:t.length≤1000000000) (hw:w.length≤100):∀ (m i:Nat),i+m=t.length→w.length+1≤i→∃ v r ok,v.length≤t.length∧r.length≤t.length ∧
    X E [.tmp 4,.tmp 5,.tmp 6] (.c L.G6.x0::.lp [0,7,8] L.G6.x0::.blk 0::[.c L.G6.r0]) ⟨[(0,.str t),(7,.int .i64 ((w.length:Int)+1)),(8,.int .i64 i)],[]⟩=some (.tup [.str v,.str r,.bool ok],[])∧(ok=true→r.length<t.length) ∧
    ∀ v0 r0,t=w++32::(v0++10::r0)→(10:UInt8)∉v0→i≤w.length+1+v0.length→v=v0∧r=r0∧ok=true:=by
  intro m
  induction m with
  | zero =>
    intro i hi h0
    refine ⟨[],[],false,by simp,by simp,?_,fun h=>(by cases h),fun v0 r0 g1 g2 g3=>?_⟩
    · rw [G8 L.G6.x0.eq_1]
      obtain rfl:i=t.length:=by omega
      simp -dsimp (disch:=first|omega|(simp only [A3]<;>omega)|fail) only [go_sem,reduceIte,reduceCtorEq,A9,B0,B1,B2,B3,B4,B5,B6,B7,B8,B9,C0,C1,C2,C3,C4,C5,C6,C7,A2,L.G6.r0]
    · have:=congrArg List.length g1
      simp only [Ysv,Ysk] at this
      omega
  | succ m ih =>
    intro i hi h0
    have hlt:i<t.length:=by omega
    have e1:((w.length:Int)+1).toNat=w.length+1:=by omega
    have e2:((i:Int)+1).toNat=i+1:=by omega
    by_cases hc:t.getD i 0=10
    · refine ⟨sub t (w.length+1) (i-(w.length+1)),t.drop (i+1),true,by unfold sub;rw [Ysb,Ysc];omega,by rw [Ysc];omega,?_,fun _=>by rw [Ysc];omega,fun v0 r0 g1 g2 g3=>?_⟩
      · rw [G8 L.G6.x0.eq_1]
        have hb:(bat t i==(10:Int))=true:=by rw [Z76,hc];rfl
        simp -dsimp (disch:=first|omega|(simp only [A3]<;>omega)|fail) only [go_sem,reduceIte,reduceCtorEq,A9,B0,B1,B2,B3,B4,B5,B6,B7,B8,B9,C0,C1,C2,C3,C4,C5,C6,C7,A2,E3,E2,D5,hb,e1,e2]
      · have hi2:i=w.length+1+v0.length:=by
          apply Classical.byContradiction
          intro hn
          apply g2
          have hlt2:i-(w.length+1)<v0.length:=by omega
          have:t.getD i 0=v0.getD (i-(w.length+1)) 0:=by
            rw [g1]
            simp only [List.getD]
            rw [List.getElem?_append_right (by omega),show i-w.length=(i-(w.length+1))+1 by omega,List.getElem?_cons_succ,List.getElem?_append_left (by omega)]
          rw [hc] at this
          rw [this,List.getD,List.getElem?_eq_getElem hlt2]
          exact List.getElem_mem hlt2
        have el:(w++[32]++v0).length=w.length+1+v0.length:=by simp;omega
        have et:t=(w++[32]++v0)++10::r0:=by rw [g1];simp
        refine ⟨?_,?_,rfl⟩
        · rw [hi2]
          unfold sub
          have el1:(w++[32]).length=w.length+1:=by simp
          rw [show w.length+1+v0.length-(w.length+1)=v0.length by omega,←el1,et,Ysw (w++[32]),Yu7,Yu8]
        · rw [hi2,←el,et,←Ys2,Yu7]
          rfl
    · obtain ⟨v,r,ok,h1,h2,h3,hrl,h4⟩:=ih (i+1) (by omega) (by omega)
      simp only [Yuj,Yuk] at h3
      refine ⟨v,r,ok,h1,h2,?_,hrl,fun v0 r0 g1 g2 g3=>h4 v0 r0 g1 g2 ?_⟩
      · rw [G8 L.G6.x0.eq_1,←h3]
        have hb:(bat t i==(10:Int))=false:=Zdx (fun h=>hc (UInt8.toNat_inj.1 (by rw [Z76] at h;have t10:(10:UInt8).toNat=10:=rfl;omega)))
        simp -dsimp (disch:=first|omega|(simp only [A3]<;>omega)|fail) only [go_sem,reduceIte,reduceCtorEq,A9,B0,B1,B2,B3,B4,B5,B6,B7,B8,B9,C0,C1,C2,C3,C4,C5,C6,C7,A2,hb]
      · apply Classical.byContradiction
        intro hn
        apply hc
        have hi2:i=w.length+1+v0.length:=by omega
        have el:(w++[32]++v0).length=w.length+1+v0.length:=by simp;omega
        rw [hi2,←el,show t=(w++[32]++v0)++10::r0 by rw [g1];simp]
        simp [List.getD]
theorem Zdq {t w:List UInt8} (ht:t.length≤1000000000) (hw:w.length≤100):∃ v r ok,v.length≤t.length∧r.length≤t.length ∧
    S E F.G6 [.str t,.str w] []=some (.tup [.str v,.str r,.bool ok],[])∧(ok=true→Zdp t (w++[32])=true∧r.length<t.length) ∧
    ∀ v0 r0,t=w++32::(v0++10::r0)→(10:UInt8)∉v0→v=v0∧r=r0∧ok=true:=by
  have e1:((w.length:Int)+1).toNat=w.length+1:=by omega
  rw [S_of Zt2 rfl rfl]
  by_cases hl:t.length<w.length+1
  · refine ⟨[],[],false,by simp,by simp,?_,fun h=>(by cases h),fun v0 r0 g1 g2=>?_⟩
    · simp -dsimp (disch:=first|omega|(simp only [A3]<;>omega)|fail) only [L.G6,go_sem,reduceIte,reduceCtorEq,A9,B0,B1,B2,B3,B4,B5,B6,B7,B8,B9,C0,C1,C2,C3,C4,C5,C6,C7,A2,hl]
    · have:=congrArg List.length g1
      simp only [Ysv,Ysk] at this
      omega
  · cases hp:(sub t 0 (w.length+1)==w++[32]) with
    | false =>
      refine ⟨[],[],false,by simp,by simp,?_,fun h=>(by cases h),fun v0 r0 g1 g2=>?_⟩
      · simp -dsimp (disch:=first|omega|(simp only [A3]<;>omega)|fail) only [L.G6,go_sem,reduceIte,reduceCtorEq,A9,B0,B1,B2,B3,B4,B5,B6,B7,B8,B9,C0,C1,C2,C3,C4,C5,C6,C7,A2,hl,e1,Ys5,hp,Yug]
      · have el1:(w++[32]).length=w.length+1:=by simp
        unfold sub at hp
        rw [Ytn,←el1,show t=(w++[32])++(v0++10::r0) by rw [g1];simp,Yu8] at hp
        simp at hp
    | true =>
      obtain ⟨v,r,ok,h1,h2,h3,hrl,h4⟩:=Ylh ht hw (t.length-(w.length+1)) (w.length+1) (by omega) (Yr4 _)
      simp only [Yuj,Yuk] at h3
      refine ⟨v,r,ok,h1,h2,?_,fun h=>⟨?_,hrl h⟩,fun v0 r0 g1 g2=>h4 v0 r0 g1 g2 (by omega)⟩
      rotate_left
      · unfold Zdp
        unfold sub at hp
        rw [Ytn] at hp
        rw [Ysv,Yue,hp,decide_eq_true (by omega)]
        rfl
      simp -dsimp (disch:=first|omega|(simp only [A3]<;>omega)|fail) only [L.G6,go_sem,reduceIte,reduceCtorEq,A9,B0,B1,B2,B3,B4,B5,B6,B7,B8,B9,C0,C1,C2,C3,C4,C5,C6,C7,A2,hl,e1,Ys5,hp,Yuf,h3]
end Cod
namespace Cod
open Go
theorem Yq6 {l:Lbl} (hn:l.name.length≤1000000000) (hm:l.msg.length≤1000000000) (hi:D7 l.who=true):S E F.Zbe [.agg l.cells] []=some (.buf (.r 0) 0 0 (Zf3 l).length 1,[(.r 0,⟨0,true,true,false,A0 (Zf3 l)⟩)]):=by
  have h1:=Zwu l.htgt
  have h2:=Zhy (k:=l.kind)
  have h3:=Zlh hi
  have hl:=Zan hi
  have hw:=Zf0 l.kind
  have hx:(M0 l.tgt).length=64:=by rw [V1,l.htgt]
  have e:Zf3 l=[111,98,106,101,99,116,32]++M0 l.tgt++[10,116,121,112,101,32]++M1 l.kind++[10,116,97,103,32]++l.name++[10,116,97,103,103,101,114,32]++H1 l.who++[10,10]++l.msg:=by
    unfold Zf3 Zwn Zwo Zwp Zwq
    simp only [Ysw,Yr7,Ytw]
  rw [S_of Zt1 rfl rfl,e]
  generalize M0 l.tgt=a at *
  generalize M1 l.kind=b at *
  generalize H1 l.who=c at *
  simp -dsimp (disch:=first|omega|(simp only [A3]<;>omega)|fail) only [L.Zbe,go_sem,reduceIte,reduceCtorEq,A9,B0,B1,B2,B3,B4,B5,B6,B7,B8,B9,C0,C1,C2,C3,C4,C5,C6,C7,A2,BYs,h1,h2,h3]
def Z8d (s:List UInt8):Int:=if Zdo s=true then 3 else 0
def idE (i:Idt):Int:=if D7 i=true then 0 else 3
theorem Yq7 (l:Lbl):Ze2 l=Y7 [Y3 l.kind,Ze6 l.msg,Z8d l.name,idE l.who]:=rfl
theorem Ydj (a b:Int) (n i:Bool):Y7 [a,b,if n=true then 3 else 0,if i=true then 0 else 3]=Y7 [a,b,if (n || !i)=true then 3 else 0]:=by
  cases n<;>cases i<;>simp only [Y7,Ysi,Yuu,Yu9,Bool.or_false,Yuf,Yug,Yva,Yup]<;>generalize Ze4 (Ze4 0 a) b=w<;>unfold Ze4<;>simp<;>split<;>simp_all<;>omega
theorem Zpr {a b c:Int}:S E F.G4 [.lst [.int .i64 a,.int .i64 b,.int .i64 c] 3] []=some (.int .i64 (Y7 [a,b,c]),[]):=Zmi (l:=[a,b,c]) (by simp)
theorem Yq8 {l:Lbl} (hn:l.name.length≤1000000000) (hm:l.msg.length≤1000000000) (ha:l.who.name.length≤1000000000) (hb:l.who.email.length≤1000000000):S E F.V5 [.agg l.cells] []=some (.int .i64 (Ze2 l),[]):=by
  have h2:=Zhy (k:=l.kind)
  have h3:=Zis (i:=l.who) (by omega) (by omega)
  have h4:=Znf hm
  have w1:S E F.I8 [.bool (M1 l.kind == []),.int .i64 9] []=some (.int .i64 (Y3 l.kind),[]):=Zhz
  have z0:=Zek (s:=l.name) (by omega) (c:=0) (by omega) (by omega)
  have z1:=Zek (s:=l.name) (by omega) (c:=10) (by omega) (by omega)
  rw [show byt 0=0 from rfl] at z0
  rw [show byt 10=10 from rfl] at z1
  have w3:S E F.I8 [.bool (Zdo l.name || !D7 l.who),.int .i64 3] []=some (.int .i64 (if (Zdo l.name || !D7 l.who)=true then 3 else 0),[]):=Zhz
  have hT:Ze2 l=Y7 [Y3 l.kind,Ze6 l.msg,if (Zdo l.name || !D7 l.who)=true then 3 else 0]:=Ydj _ _ _ _
  rw [hT]
  generalize hE:(if (Zdo l.name || !D7 l.who)=true then (3:Int) else 0)=ee at *
  have hd:=Zpr (a:=Y3 l.kind) (b:=Ze6 l.msg) (c:=ee)
  generalize Y7 [Y3 l.kind,Ze6 l.msg,ee]=res at *
  generalize Y3 l.kind=ew at *
  generalize Ze6 l.msg=em at *
  have hNB:Zdo l.name=(l.name == []||(decide (100<(l.name.length:Int))||(l.name.contains 0||l.name.contains 10))):=by unfold Zdo;rw [Z02]
  rw [S_of Zt0 rfl rfl]
  rw [hNB] at w3
  clear hE hT hNB
  cases c0:(l.name == []) with
  | true =>
    rw [c0] at w3
    simp only [Yva] at w3
    simp -dsimp (disch:=first|omega|(simp only [A3]<;>omega)|fail) only [L.V5,go_sem,reduceIte,reduceCtorEq,A9,B0,B1,B2,B3,B4,B5,B6,B7,B8,B9,C0,C1,C2,C3,C4,C5,C6,C7,A2,h2,h4,w1,w3,hd,c0]
  | false =>
    by_cases c1:100<(l.name.length:Int)
    · rw [c0,decide_eq_true c1] at w3
      simp only [Yva,Yu9] at w3
      simp -dsimp (disch:=first|omega|(simp only [A3]<;>omega)|fail) only [L.V5,go_sem,reduceIte,reduceCtorEq,A9,B0,B1,B2,B3,B4,B5,B6,B7,B8,B9,C0,C1,C2,C3,C4,C5,C6,C7,A2,h2,h4,w1,w3,hd,c0,c1]
    · rw [c0,decide_eq_false c1] at w3
      simp only [Yup] at w3
      cases c2:l.name.contains 0 with
      | true =>
        rw [c2] at w3 z0
        simp only [Yva] at w3
        simp -dsimp (disch:=first|omega|(simp only [A3]<;>omega)|fail) only [L.V5,go_sem,reduceIte,reduceCtorEq,A9,B0,B1,B2,B3,B4,B5,B6,B7,B8,B9,C0,C1,C2,C3,C4,C5,C6,C7,A2,h2,h4,w1,w3,hd,c0,c1,z0]
      | false =>
        rw [c2] at w3 z0
        simp only [Yup] at w3
        cases c3:l.name.contains 10 with
        | true =>
          rw [c3] at w3 z1
          simp only [Yva] at w3
          simp -dsimp (disch:=first|omega|(simp only [A3]<;>omega)|fail) only [L.V5,go_sem,reduceIte,reduceCtorEq,A9,B0,B1,B2,B3,B4,B5,B6,B7,B8,B9,C0,C1,C2,C3,C4,C5,C6,C7,A2,h2,h4,w1,w3,hd,c0,c1,z0,z1]
        | false =>
          rw [c3] at w3 z1
          simp only [Yup] at w3
          simp -dsimp (disch:=first|omega|(simp only [A3]<;>omega)|fail) only [L.V5,go_sem,reduceIte,reduceCtorEq,A9,B0,B1,B2,B3,B4,B5,B6,B7,B8,B9,C0,C1,C2,C3,C4,C5,C6,C7,A2,h2,h3,h4,w1,w3,hd,c0,c1,z0,z1]
def tagO (l:Lbl):List UInt8:=if Ze2 l=0 then Zf3 l else []
def Zmn (b:List UInt8) (e:Int):AV × A5:=(.tup [.buf (.r 0) 0 0 b.length 1,.int .i64 e],[(.r 0,⟨0,true,true,false,A0 b⟩)])
def Zps (l:Lbl):AV × A5:=Zmn (tagO l) (Ze2 l)
theorem Z8e {l:Lbl} (h:Ze2 l=0):Zps l=Zmn (Zf3 l) 0:=by unfold Zps tagO;rw [if_pos h,h]
theorem Z8f {l:Lbl} (h:Ze2 l≠0):Zps l=Zmn [] (Ze2 l):=by unfold Zps tagO;rw [if_neg h]
theorem Z1a (e:Int):Zmn [] e=(.tup [.buf (.r 0) 0 0 0 1,.int .i64 e],[(.r 0,⟨0,true,true,false,[]⟩)]):=rfl
end Cod
namespace Cod
open Go
structure EnvP (EE:Env):Prop where
  ext:Ext E EE
  hex:∀ {id:List UInt8},id.length=32→S EE F.Zkf [.agg (A0 id)] []=some (.str (M0 id),[])
theorem EnvP.S_of {EE:Env} (h:EnvP EE) {f:Nat} {l:LFn} (hf:H0 f=some l) (hk:Znx f=none) {args:List AV} {σ:A5} (hn:args.length=l.np):S EE f args σ=X EE l.results [.c l.code] ⟨params 0 args,σ⟩:=by
  have hfn:EE.fn f=some l:=by rw [h.ext.fn];exact hf
  have hkn:EE.known f=none:=(h.ext.none f hk).resolve_right (by rw [show E.fn f=some l from hf];simp)
  exact S_fn hkn hfn hn
end Cod
namespace Cod
open Go
theorem Yli {i:Idt}:S E F.Zaa [.agg i.cells] []=some (Z0w i,[]):=by
  have h1:=Zh1 (i:=i)
  rw [S_of Ztv rfl rfl]
  unfold Z0w at h1 ⊢
  cases h:D7 i<;>rw [h] at h1<;>simp -dsimp (disch:=first|omega|(simp only [A3]<;>omega)|fail) only [L.Zaa,go_sem,reduceIte,reduceCtorEq,A9,B0,B1,B2,B3,B4,B5,B6,B7,B8,B9,C0,C1,C2,C3,C4,C5,C6,C7,A2,h1]
theorem Zr6 {a b c d:Int}:S E F.F2 [.lst [.int .i64 a,.int .i64 b,.int .i64 c,.int .i64 d] 4] []=some (.int .i64 (Y7 [a,b,c,d]),[]):=Zld (l:=[a,b,c,d]) (by simp)
section
variable {EE:Env} (hE:EnvP EE)
include hE
theorem Ydk {l:Lbl} (hn:l.name.length≤1000000000) (hm:l.msg.length≤1000000000):S EE F.J9 [.agg l.cells] []=some (Zps l):=by
  have a1:=M5 hE.ext (Yli (i:=l.who))
  have h2:=M5 hE.ext (Zfg (k:=l.kind))
  have h4:=M5 hE.ext (Zpp hm)
  have h5:=hE.hex l.htgt
  have w1:S EE F.E4 [.bool (M1 l.kind == []),.int .i64 9] []=some (.int .i64 (Y3 l.kind),[]):=M5 hE.ext R4
  have w3:S EE F.E4 [.bool (Zdo l.name),.int .i64 3] []=some (.int .i64 (Z8d l.name),[]):=M5 hE.ext R4
  have hw:=Zf0 l.kind
  have hx:(M0 l.tgt).length=64:=by rw [V1,l.htgt]
  have hd:=M5 hE.ext (Zr6 (a:=Y3 l.kind) (b:=Ze6 l.msg) (c:=Z8d l.name) (d:=idE l.who))
  rw [←Yq7] at hd
  have e:Zf3 l=[111,98,106,101,99,116,32]++M0 l.tgt++[10,116,121,112,101,32]++M1 l.kind++[10,116,97,103,32]++l.name++[10,116,97,103,103,101,114,32]++H1 l.who++[10,10]++l.msg:=by
    unfold Zf3 Zwn Zwo Zwp Zwq
    simp only [Ysw,Yr7,Ytw]
  have hz:l.name.length≤100→S EE F.J5 [.str l.name,.str [0,10]] []=some (.bool (l.name.any Zdt),[]):=fun h=>M5 hE.ext (M5 ext0 (Zwl (by omega)))
  have hNB:Zdo l.name=(l.name == []||(decide (100<(l.name.length:Int))||l.name.any Zdt)):=rfl
  have hnz:D7 l.who=false→Ze2 l≠0:=fun h h0=>by rw [(Ziv h0).2.2.2.2.2] at h;cases h
  have hlen:D7 l.who=true→(H1 l.who).length≤1000:=fun h=>Zan h
  unfold Z0w at a1
  unfold idE at hd
  have t1:Ze2 l=0→Zps l=Zmn (Zf3 l) 0:=Z8e
  have t2:Ze2 l≠0→Zps l=Zmn [] (Ze2 l):=Z8f
  simp only [Z1a] at t2
  unfold Zmn at t1
  rw [e] at t1
  rw [hE.S_of Zti rfl rfl]
  generalize Zps l=tv at *
  generalize Ze2 l=te at *
  generalize Z8d l.name=ne at *
  generalize Y3 l.kind=ew at *
  generalize Ze6 l.msg=em at *
  generalize M0 l.tgt=a at *
  generalize M1 l.kind=b at *
  clear e
  have hnm:(∃ g:Bool,(l.name == [])=true∧Zdo l.name=true∧g=true)∨((l.name == [])=false∧100<(l.name.length:Int)∧Zdo l.name=true)∨∃ z,(l.name == [])=false∧¬ 100<(l.name.length:Int)∧S EE F.J5 [.str l.name,.str [0,10]] []=some (.bool z,[])∧Zdo l.name=z:=by
    rw [hNB]
    cases c0:(l.name == []) with
    | true=>exact .inl ⟨true,rfl,rfl,rfl⟩
    | false =>
      by_cases c1:100<(l.name.length:Int)
      · exact .inr (.inl ⟨rfl,c1,by rw [decide_eq_true c1];rfl⟩)
      · exact .inr (.inr ⟨_,rfl,c1,hz (by omega),by rw [decide_eq_false c1];rfl⟩)
  clear hNB hz
  cases hi:D7 l.who with
  | false =>
    have hte:=hnz hi
    rw [hi,if_neg (by simp)] at a1 hd
    rw [t2 hte]
    rcases hnm with ⟨_,c0,c3,_⟩|⟨c0,c1,c3⟩|⟨z,c0,c1,c2,c3⟩<;>rw [c3] at w3
    · simp -dsimp (disch:=first|omega|(simp only [A3]<;>omega)|fail) only [L.J9,go_sem,reduceIte,reduceCtorEq,A9,B0,B1,B2,B3,B4,B5,B6,B7,B8,B9,C0,C1,C2,C3,C4,C5,C6,C7,A2,BYs,a1,h2,h4,w1,w3,hd,c0,hte]
    · simp -dsimp (disch:=first|omega|(simp only [A3]<;>omega)|fail) only [L.J9,go_sem,reduceIte,reduceCtorEq,A9,B0,B1,B2,B3,B4,B5,B6,B7,B8,B9,C0,C1,C2,C3,C4,C5,C6,C7,A2,BYs,a1,h2,h4,w1,w3,hd,c0,c1,hte]
    · simp -dsimp (disch:=first|omega|(simp only [A3]<;>omega)|fail) only [L.J9,go_sem,reduceIte,reduceCtorEq,A9,B0,B1,B2,B3,B4,B5,B6,B7,B8,B9,C0,C1,C2,C3,C4,C5,C6,C7,A2,BYs,a1,h2,h4,w1,w3,hd,c0,c1,c2,hte]
  | true =>
    have hl:=hlen hi
    rw [hi,if_pos rfl] at a1 hd
    generalize H1 l.who=c at *
    by_cases hte:te=0
    · subst hte
      rw [t1 rfl]
      rcases hnm with ⟨_,c0,c3,_⟩|⟨c0,c1,c3⟩|⟨z,c0,c1,c2,c3⟩<;>rw [c3] at w3
      · simp -dsimp (disch:=first|omega|(simp only [A3]<;>omega)|fail) only [L.J9,go_sem,reduceIte,reduceCtorEq,A9,B0,B1,B2,B3,B4,B5,B6,B7,B8,B9,C0,C1,C2,C3,C4,C5,C6,C7,A2,BYs,a1,h2,h4,h5,w1,w3,hd,c0]
      · simp -dsimp (disch:=first|omega|(simp only [A3]<;>omega)|fail) only [L.J9,go_sem,reduceIte,reduceCtorEq,A9,B0,B1,B2,B3,B4,B5,B6,B7,B8,B9,C0,C1,C2,C3,C4,C5,C6,C7,A2,BYs,a1,h2,h4,h5,w1,w3,hd,c0,c1]
      · simp -dsimp (disch:=first|omega|(simp only [A3]<;>omega)|fail) only [L.J9,go_sem,reduceIte,reduceCtorEq,A9,B0,B1,B2,B3,B4,B5,B6,B7,B8,B9,C0,C1,C2,C3,C4,C5,C6,C7,A2,BYs,a1,h2,h4,h5,w1,w3,hd,c0,c1,c2]
    · rw [t2 hte]
      rcases hnm with ⟨_,c0,c3,_⟩|⟨c0,c1,c3⟩|⟨z,c0,c1,c2,c3⟩<;>rw [c3] at w3
      · simp -dsimp (disch:=first|omega|(simp only [A3]<;>omega)|fail) only [L.J9,go_sem,reduceIte,reduceCtorEq,A9,B0,B1,B2,B3,B4,B5,B6,B7,B8,B9,C0,C1,C2,C3,C4,C5,C6,C7,A2,BYs,a1,h2,h4,w1,w3,hd,c0,hte]
      · simp -dsimp (disch:=first|omega|(simp only [A3]<;>omega)|fail) only [L.J9,go_sem,reduceIte,reduceCtorEq,A9,B0,B1,B2,B3,B4,B5,B6,B7,B8,B9,C0,C1,C2,C3,C4,C5,C6,C7,A2,BYs,a1,h2,h4,w1,w3,hd,c0,c1,hte]
      · simp -dsimp (disch:=first|omega|(simp only [A3]<;>omega)|fail) only [L.J9,go_sem,reduceIte,reduceCtorEq,A9,B0,B1,B2,B3,B4,B5,B6,B7,B8,B9,C0,C1,C2,C3,C4,C5,C6,C7,A2,BYs,a1,h2,h4,w1,w3,hd,c0,c1,c2,hte]
end
end Cod
namespace Cod
open Go
def Zdz:Lbl:=⟨List.replicate 32 0,0,[],⟨[],[],0,0⟩,[],by simp⟩
theorem lbl0z:M6 (zer (.int .u8 0) 32) [.int .i64 0,.str [],.str [],.str [],.int .i64 0,.int .i64 0,.str []]=Zdz.cells:=rfl
theorem lbl0b:M6 (A0 (List.replicate 32 0)) [.int .i64 0,.str [],.str [],.str [],.int .i64 0,.int .i64 0,.str []]=Zdz.cells:=rfl
theorem lbl0c:A0 (List.replicate 32 0)++[.int .i64 0,.str [],.str [],.str [],.int .i64 0,.int .i64 0,.str []]=Zdz.cells:=rfl
theorem Z1b (a b:Lbl):over a.cells 0 b.cells=b.cells:=by
  unfold over;exact Zij (by rw [Zn3,Zn3])
theorem Z1c (t:List UInt8) (k:Int) (n:List UInt8) (w:Idt) (m:List UInt8) (h:t.length=32) (x:Int):over (Lbl.mk t k n w m h).cells 32 [.int .i64 x]=(Lbl.mk t x n w m h).cells:=by
  unfold Lbl.cells;rw [Za6 (j:=0) (by rw [D9,h])];rfl
theorem Ylj (t:List UInt8) (k:Int) (n:List UInt8) (w:Idt) (m:List UInt8) (h:t.length=32) (x:List UInt8):over (Lbl.mk t k n w m h).cells 33 [.str x]=(Lbl.mk t k x w m h).cells:=by
  unfold Lbl.cells;rw [Za6 (j:=1) (by rw [D9,h])];rfl
theorem Ylk (t:List UInt8) (k:Int) (n:List UInt8) (w:Idt) (m:List UInt8) (h:t.length=32) (x:Idt):over (Lbl.mk t k n w m h).cells 34 x.cells=(Lbl.mk t k n x m h).cells:=by
  unfold Lbl.cells;rw [Za6 (j:=2) (by rw [D9,h])];rfl
theorem Yll (t:List UInt8) (k:Int) (n:List UInt8) (w:Idt) (m:List UInt8) (h:t.length=32) (x:List UInt8):over (Lbl.mk t k n w m h).cells 38 [.str x]=(Lbl.mk t k n w x h).cells:=by
  unfold Lbl.cells;rw [Za6 (j:=6) (by rw [D9,h])];rfl
attribute [go_sem] lbl0z lbl0b lbl0c Z1b Z1c Ylj Ylk Yll
def kset (s:List UInt8) (k:Int) (i:Int):Int:=if (M1 i==s)=true then i else k
def Zfi (s:List UInt8):Int:=kset s (kset s (kset s (kset s 0 1) 2) 3) 4
theorem Z58 {k:Int} (h:M1 k≠[]):Zfi (M1 k)=k:=by
  rcases Zwr h with rfl|rfl|rfl|rfl<;>decide
section
variable {EE:Env} (hE:EnvP EE)
include hE
theorem Zn5 {p s r t n m:List UInt8} {b:Int} {h:t.length=32} {w:Idt} (k:List It) {c:Int} (i:Int) (hi:i=0∨i=1∨i=2∨i=3):X EE [.cell 2 (some 39),.tmp 3] (.c L.E9.x0::.lp [0,2,4,5,6,24,25,26] L.E9.x0::.blk 0::k) ⟨[(0,.lst (A0 p) p.length),(2,.ref (.s 1000000 0) 0 0),(4,.ref (.s 1000000 1) 0 0),(5,.ref (.s 1000000 2) 0 0),(6,.str s),(24,.buf (.s 1000000 3) 0 0 4 1),(25,.int .i64 4),(26,.int .i64 i)],[(.s 1000000 0,⟨0,true,true,true,Zdz.cells⟩),(.s 1000000 1,⟨0,true,true,true,[.str r,.int .i64 b]⟩),(.s 1000000 2,⟨0,true,true,true,(Lbl.mk t c n w m h).cells⟩),(.s 1000000 3,⟨0,true,true,false,[.int .i64 1,.int .i64 2,.int .i64 3,.int .i64 4]⟩)]⟩=X EE [.cell 2 (some 39),.tmp 3] (.c L.E9.x0::.lp [0,2,4,5,6,24,25,26] L.E9.x0::.blk 0::k) ⟨[(0,.lst (A0 p) p.length),(2,.ref (.s 1000000 0) 0 0),(4,.ref (.s 1000000 1) 0 0),(5,.ref (.s 1000000 2) 0 0),(6,.str s),(24,.buf (.s 1000000 3) 0 0 4 1),(25,.int .i64 4),(26,.int .i64 (i+1))],[(.s 1000000 0,⟨0,true,true,true,Zdz.cells⟩),(.s 1000000 1,⟨0,true,true,true,[.str r,.int .i64 b]⟩),(.s 1000000 2,⟨0,true,true,true,(Lbl.mk t (kset s c (i+1)) n w m h).cells⟩),(.s 1000000 3,⟨0,true,true,false,[.int .i64 1,.int .i64 2,.int .i64 3,.int .i64 4]⟩)]⟩:=by
  have h2:=M5 hE.ext (Zfg (k:=i+1))
  rw [G8 L.E9.x0.eq_1]
  unfold kset
  rcases hi with rfl|rfl|rfl|rfl<;>simp only [Int.reduceAdd] at h2 ⊢
  · generalize M1 1=z at *
    cases hz:(z==s)<;>simp -dsimp (disch:=first|omega|(simp only [A3]<;>omega)|fail) only [go_sem,reduceIte,reduceCtorEq,A9,B0,B1,B2,B3,B4,B5,B6,B7,B8,B9,C0,C1,C2,C3,C4,C5,C6,C7,A2,BYs,h2,hz]
  · generalize M1 2=z at *
    cases hz:(z==s)<;>simp -dsimp (disch:=first|omega|(simp only [A3]<;>omega)|fail) only [go_sem,reduceIte,reduceCtorEq,A9,B0,B1,B2,B3,B4,B5,B6,B7,B8,B9,C0,C1,C2,C3,C4,C5,C6,C7,A2,BYs,h2,hz]
  · generalize M1 3=z at *
    cases hz:(z==s)<;>simp -dsimp (disch:=first|omega|(simp only [A3]<;>omega)|fail) only [go_sem,reduceIte,reduceCtorEq,A9,B0,B1,B2,B3,B4,B5,B6,B7,B8,B9,C0,C1,C2,C3,C4,C5,C6,C7,A2,BYs,h2,hz]
  · generalize M1 4=z at *
    cases hz:(z==s)<;>simp -dsimp (disch:=first|omega|(simp only [A3]<;>omega)|fail) only [go_sem,reduceIte,reduceCtorEq,A9,B0,B1,B2,B3,B4,B5,B6,B7,B8,B9,C0,C1,C2,C3,C4,C5,C6,C7,A2,BYs,h2,hz]
theorem pk_all {p s r t n m:List UInt8} {b:Int} {h:t.length=32} {w:Idt} (k:List It):X EE [.cell 2 (some 39),.tmp 3] (.c L.E9.x0::.lp [0,2,4,5,6,24,25,26] L.E9.x0::.blk 0::k) ⟨[(0,.lst (A0 p) p.length),(2,.ref (.s 1000000 0) 0 0),(4,.ref (.s 1000000 1) 0 0),(5,.ref (.s 1000000 2) 0 0),(6,.str s),(24,.buf (.s 1000000 3) 0 0 4 1),(25,.int .i64 4),(26,.int .i64 0)],[(.s 1000000 0,⟨0,true,true,true,Zdz.cells⟩),(.s 1000000 1,⟨0,true,true,true,[.str r,.int .i64 b]⟩),(.s 1000000 2,⟨0,true,true,true,(Lbl.mk t 0 n w m h).cells⟩),(.s 1000000 3,⟨0,true,true,false,[.int .i64 1,.int .i64 2,.int .i64 3,.int .i64 4]⟩)]⟩=X EE [.cell 2 (some 39),.tmp 3] k ⟨[(0,.lst (A0 p) p.length),(2,.ref (.s 1000000 0) 0 0),(4,.ref (.s 1000000 1) 0 0),(5,.ref (.s 1000000 2) 0 0),(6,.str s),(24,.buf (.s 1000000 3) 0 0 4 1),(25,.int .i64 4),(26,.int .i64 4),(27,.bool false)],[(.s 1000000 0,⟨0,true,true,true,Zdz.cells⟩),(.s 1000000 1,⟨0,true,true,true,[.str r,.int .i64 b]⟩),(.s 1000000 2,⟨0,true,true,true,(Lbl.mk t (Zfi s) n w m h).cells⟩),(.s 1000000 3,⟨0,true,true,false,[.int .i64 1,.int .i64 2,.int .i64 3,.int .i64 4]⟩)]⟩:=by
  rw [Zn5 hE k 0 (by omega),Zn5 hE k _ (by omega),Zn5 hE k _ (by omega),Zn5 hE k _ (by omega)]
  rw [G8 L.E9.x0.eq_1]
  simp -dsimp (disch:=first|omega|(simp only [A3]<;>omega)|fail) only [go_sem,reduceIte,reduceCtorEq,A9,B0,B1,B2,B3,B4,B5,B6,B7,B8,B9,C0,C1,C2,C3,C4,C5,C6,C7,A2,BYs]
  rfl
end
end Cod
namespace Cod
open Go
theorem Z1d {a b:List UInt8} {n m:Nat} (hn:n=a.length) (hm:m=b.length):S E F.L4 [.lst (A0 a) n,.lst (A0 b) m] []=some (.bool (a==b),[]):=by
  rw [S_of Zkm rfl rfl]
  simp -dsimp (disch:=first|omega|(simp only [A3]<;>omega)|fail) only [L.L4,go_sem,reduceIte,reduceCtorEq,A9,B0,B1,B2,B3,B4,B5,B6,B7,B8,B9,C0,C1,C2,C3,C4,C5,C6,C7,A2,BYs]
def Z59 (g:Lbl) (ok:Bool):AV × A5:=if ok=true then (.tup [.agg g.cells,.int .i64 0],[]) else (.tup [.agg Zdz.cells,.int .i64 4],[])
def Z8g:AV × A5:=(.tup [.agg Zdz.cells,.int .i64 2],[])
def isL (g:Lbl) (p:List UInt8):Bool:=decide (Ze2 g=0)&&(Zf3 g==p)
section
variable {EE:Env} (hE:EnvP EE)
include hE
theorem Z1e {p:List UInt8} {n:Nat} (hn:n=p.length) (hp:p.length≤1048576):∃ (g:Lbl) (bad:Nat),g.name.length≤1048576∧g.msg.length≤1048576∧S EE F.E9 [.lst (A0 p) n] []=some (Z59 g (decide (bad=0)&&isL g p))∧∀ l,Zr0 p l→g=l∧bad=0:=by
  subst hn
  obtain ⟨d,r1,b1,hd,q1,u1,v1,s1,_,y1⟩:=Z56 (rest:=p) (w:=Zwn) (bad:=0) (by omega) (by decide) (by decide) (by omega)
  obtain ⟨t2,r2,b2,p2,q2,u2,v2,s2,_,y2⟩:=Zn4 (rest:=r1) (w:=Zwo) (bad:=b1) (by omega) (by decide) (by decide) (by omega)
  obtain ⟨t3,r3,b3,p3,q3,u3,v3,s3,_,y3⟩:=Zn4 (rest:=r2) (w:=Zwp) (bad:=b2) (by omega) (by decide) (by decide) (by omega)
  obtain ⟨i4,r4,b4,p4,p4',q4,u4,v4,s4,y4⟩:=Z57 (rest:=r3) (w:=Zwq) (bad:=b3) (by omega) (by decide) (by decide) (by omega)
  obtain ⟨m5,b5,q5,u5,v5,s5,y5⟩:=Ylg (rest:=r4) (bad:=b4) (by omega) (by omega)
  have s1:=fun x=>M5 hE.ext (s1 x)
  have s2:=fun x=>M5 hE.ext (s2 x)
  have s3:=fun x=>M5 hE.ext (s3 x)
  have s4:=fun x=>M5 hE.ext (s4 x)
  have s5:=fun x=>M5 hE.ext (s5 x)
  refine ⟨⟨d,Zfi t2,t3,i4,m5,hd⟩,b5,by show t3.length≤_;omega,by show m5.length≤_;omega,?_,fun l hl=>?_⟩
  · have hput:=Ydk hE (l:=⟨d,Zfi t2,t3,i4,m5,hd⟩) (by show t3.length≤_;omega) (by show m5.length≤_;omega)
    have t1:Ze2 ⟨d,Zfi t2,t3,i4,m5,hd⟩=0→Zps ⟨d,Zfi t2,t3,i4,m5,hd⟩=Zmn (Zf3 ⟨d,Zfi t2,t3,i4,m5,hd⟩) 0∧(Zf3 ⟨d,Zfi t2,t3,i4,m5,hd⟩).length≤70000:=fun h=>⟨Z8e h,Z03 h⟩
    have t2':Ze2 ⟨d,Zfi t2,t3,i4,m5,hd⟩≠0→Zps ⟨d,Zfi t2,t3,i4,m5,hd⟩=Zmn [] (Ze2 ⟨d,Zfi t2,t3,i4,m5,hd⟩):=Z8f
    simp only [Z1a] at t2'
    unfold Zmn at t1
    unfold isL Z59
    have o1:over Zdz.cells 0 (A0 d)=(Lbl.mk d 0 [] ⟨[],[],0,0⟩ [] hd).cells:=by
      unfold Lbl.cells Zdz
      unfold over
      rw [Yu5,Ytw,Nat.zero_add,D9,hd,Yu0 (by rw [D9];simp)]
    have hk:=fun k=>pk_all hE (p:=p) (s:=t2) (r:=r2) (b:=(b2:Int)) (n:=[]) (m:=[]) (w:=⟨[],[],0,0⟩) (h:=hd) k
    generalize Zf3 ⟨d,Zfi t2,t3,i4,m5,hd⟩=tb at *
    generalize Ze2 ⟨d,Zfi t2,t3,i4,m5,hd⟩=te at *
    generalize Zps ⟨d,Zfi t2,t3,i4,m5,hd⟩=tv at *
    have c1:(0:Int)<(b5:Int)∨b5=0:=by omega
    unfold Zwn at s1
    unfold Zwo at s2
    unfold Zwp at s3
    unfold Zwq at s4
    simp only [Yuk] at s1
    have hbe:=fun q:List UInt8=>M5 hE.ext (Z1d (a:=q) (b:=p) (n:=q.length) (m:=p.length) rfl rfl)
    have hbn:=hbe []
    simp only [show A0 []=[] from rfl,Yth] at hbn
    rw [hE.S_of Zkk rfl rfl]
    by_cases hte:te=0
    · obtain ⟨tg1,t1l⟩:=t1 hte
      subst hte
      rw [tg1] at hput
      have hbt:=hbe tb
      rcases c1 with c1|rfl
      · have hd5:decide (b5=0)=false:=by simp;omega
        rw [hd5,Yuq,if_neg (by simp)]
        simp -dsimp (disch:=first|omega|(simp only [A3]<;>omega)|fail) only [L.E9,L.E9.r0,go_sem,reduceIte,reduceCtorEq,A9,B0,B1,B2,B3,B4,B5,B6,B7,B8,B9,C0,C1,C2,C3,C4,C5,C6,C7,A2,BYs,s1,s2,s3,s4,s5,o1,hk,hput,c1,Yuk]
      · simp only [decide_true,Yuo]
        cases hq:(tb==p) with
        | false =>
          rw [hq] at hbt
          rw [if_neg (by simp)]
          simp -dsimp (disch:=first|omega|(simp only [A3]<;>omega)|fail) only [L.E9,L.E9.r0,go_sem,reduceIte,reduceCtorEq,A9,B0,B1,B2,B3,B4,B5,B6,B7,B8,B9,C0,C1,C2,C3,C4,C5,C6,C7,A2,BYs,s1,s2,s3,s4,s5,o1,hk,hput,hbt,Yuk]
        | true =>
          rw [hq] at hbt
          rw [if_pos rfl]
          simp -dsimp (disch:=first|omega|(simp only [A3]<;>omega)|fail) only [L.E9,L.E9.r0,go_sem,reduceIte,reduceCtorEq,A9,B0,B1,B2,B3,B4,B5,B6,B7,B8,B9,C0,C1,C2,C3,C4,C5,C6,C7,A2,BYs,s1,s2,s3,s4,s5,o1,hk,hput,hbt,Yuk]
    · rw [t2' hte] at hput
      have hd5:decide (te=0)=false:=decide_eq_false hte
      rw [hd5,Yuq,Yuv,if_neg (by simp)]
      rcases c1 with c1|rfl
      · simp -dsimp (disch:=first|omega|(simp only [A3]<;>omega)|fail) only [L.E9,L.E9.r0,go_sem,reduceIte,reduceCtorEq,A9,B0,B1,B2,B3,B4,B5,B6,B7,B8,B9,C0,C1,C2,C3,C4,C5,C6,C7,A2,BYs,s1,s2,s3,s4,s5,o1,hk,hput,c1,Yuk]
      · simp -dsimp (disch:=first|omega|(simp only [A3]<;>omega)|fail) only [L.E9,L.E9.r0,go_sem,reduceIte,reduceCtorEq,A9,B0,B1,B2,B3,B4,B5,B6,B7,B8,B9,C0,C1,C2,C3,C4,C5,C6,C7,A2,BYs,s1,s2,s3,s4,s5,o1,hk,hput,hte,Yuk]
  · obtain ⟨e1,e2⟩:=hl
    obtain ⟨w1,w2,w3,w4,w5,w6⟩:=Ziv e1
    rw [Z01] at e2
    obtain ⟨a1,a2,a3⟩:=y1 _ _ l.htgt e2.symm
    subst a2
    obtain ⟨c1,c2,c3⟩:=y2 _ _ (Zr1 _) rfl
    subst c2
    obtain ⟨f1,f2,f3⟩:=y3 _ _ w3 rfl
    subst f2
    obtain ⟨g1,g2,g3⟩:=y4 _ _ w6 rfl
    subst g2
    obtain ⟨k1,k2⟩:=y5 _ rfl
    refine ⟨?_,by omega⟩
    cases l
    simp only at *
    subst a1 f1 g1 k1
    rw [c1,Z58 w1]
theorem Zwv {p:List UInt8} {n:Nat} (hn:n=p.length) (hp:1048576<p.length) (hb:p.length≤1000000000000):S EE F.E9 [.lst (A0 p) n] []=some Z8g:=by
  subst hn
  rw [hE.S_of Zkk rfl rfl]
  unfold Z8g
  simp -dsimp (disch:=first|omega|(simp only [A3]<;>omega)|fail) only [L.E9,go_sem,reduceIte,reduceCtorEq,A9,B0,B1,B2,B3,B4,B5,B6,B7,B8,B9,C0,C1,C2,C3,C4,C5,C6,C7,A2,BYs]
end
end Cod
namespace Cod
open Go
theorem Zn6 {s:List UInt8} (i:Int) (hi:i=1∨i=2∨i=3∨i=4):X E [.tmp 2] (.c L.I5.x0::.lp [0,3] L.I5.x0::.blk 0::[.c L.I5.r0]) ⟨[(0,.str s),(3,.int .i64 i)],[]⟩=if (M1 i==s)=true then some (.int .i64 i,[]) else X E [.tmp 2] (.c L.I5.x0::.lp [0,3] L.I5.x0::.blk 0::[.c L.I5.r0]) ⟨[(0,.str s),(3,.int .i64 (i+1))],[]⟩:=by
  have h2:=Zhy (k:=i)
  rw [G8 L.I5.x0.eq_1]
  rcases hi with rfl|rfl|rfl|rfl<;>simp only [Int.reduceAdd] at h2 ⊢
  · generalize M1 1=z at *
    cases hz:(z==s)<;>simp -dsimp (disch:=first|omega|(simp only [A3]<;>omega)|fail) only [go_sem,reduceIte,reduceCtorEq,A9,B0,B1,B2,B3,B4,B5,B6,B7,B8,B9,C0,C1,C2,C3,C4,C5,C6,C7,A2,BYs,h2,hz]
  · generalize M1 2=z at *
    cases hz:(z==s)<;>simp -dsimp (disch:=first|omega|(simp only [A3]<;>omega)|fail) only [go_sem,reduceIte,reduceCtorEq,A9,B0,B1,B2,B3,B4,B5,B6,B7,B8,B9,C0,C1,C2,C3,C4,C5,C6,C7,A2,BYs,h2,hz]
  · generalize M1 3=z at *
    cases hz:(z==s)<;>simp -dsimp (disch:=first|omega|(simp only [A3]<;>omega)|fail) only [go_sem,reduceIte,reduceCtorEq,A9,B0,B1,B2,B3,B4,B5,B6,B7,B8,B9,C0,C1,C2,C3,C4,C5,C6,C7,A2,BYs,h2,hz]
  · generalize M1 4=z at *
    cases hz:(z==s)<;>simp -dsimp (disch:=first|omega|(simp only [A3]<;>omega)|fail) only [go_sem,reduceIte,reduceCtorEq,A9,B0,B1,B2,B3,B4,B5,B6,B7,B8,B9,C0,C1,C2,C3,C4,C5,C6,C7,A2,BYs,h2,hz]
theorem Ylm {s:List UInt8}:S E F.I5 [.str s] []=some (.int .i64 (Zh4 s),[]):=by
  have key:X E [.tmp 2] (.c L.I5.x0::.lp [0,3] L.I5.x0::.blk 0::[.c L.I5.r0]) ⟨[(0,.str s),(3,.int .i64 1)],[]⟩=some (.int .i64 (Zh4 s),[]):=by
    unfold Zh4
    rw [Zn6 1 (by omega)]
    split
    · rfl
    · rw [Zn6 _ (by omega)]
      simp only [Int.reduceAdd]
      split
      · rfl
      · rw [Zn6 _ (by omega)]
        simp only [Int.reduceAdd]
        split
        · rfl
        · rw [Zn6 _ (by omega)]
          simp only [Int.reduceAdd]
          split
          · rfl
          · rw [G8 L.I5.x0.eq_1]
            simp -dsimp (disch:=first|omega|(simp only [A3]<;>omega)|fail) only [go_sem,reduceIte,reduceCtorEq,A9,B0,B1,B2,B3,B4,B5,B6,B7,B8,B9,C0,C1,C2,C3,C4,C5,C6,C7,A2,L.I5.r0]
  rw [S_of Zt3 rfl rfl]
  simp -dsimp (disch:=first|omega|(simp only [A3]<;>omega)|fail) only [L.I5,go_sem,reduceIte,reduceCtorEq,A9,B0,B1,B2,B3,B4,B5,B6,B7,B8,B9,C0,C1,C2,C3,C4,C5,C6,C7,A2,key]
theorem Zww {v:List UInt8} (hv:v.length≤1000000000):∃ (i:Idt) (e:Int),i.name.length≤100∧i.email.length≤100∧S E F.D2 [.str v] []=some (.tup [.agg i.cells,.int .i64 e],[])∧∀ j,D7 j=true→v=H1 j→i=j:=by
  rcases Zne v with ⟨i,i1,i2⟩|hno
  · have k3:=Zwh i1
    rw [i2] at k3
    refine ⟨i,0,Zaq ((R7 i).1 i1).1,Zaq ((R7 i).1 i1).2.1,k3,fun j g1 g2=>?_⟩
    have a1:=(Zlm i1).1
    have a2:=(Zlm g1).1
    rw [i2,g2] at a1
    exact a1.symm.trans a2
  · have k3:=Zwi (s:=v) (by omega) hno
    exact ⟨⟨[],[],0,0⟩,4,by simp,by simp,k3,fun j g1 g2=>absurd g2.symm (hno j g1)⟩
theorem Z8h {a b:List UInt8} {n m:Nat} (hn:n=a.length) (hm:m=b.length):S E F.S3 [.lst (A0 a) n,.lst (A0 b) m] []=some (.bool (a==b),[]):=by
  rw [S_of Zkj rfl rfl]
  simp -dsimp (disch:=first|omega|(simp only [A3]<;>omega)|fail) only [L.S3,go_sem,reduceIte,reduceCtorEq,A9,B0,B1,B2,B3,B4,B5,B6,B7,B8,B9,C0,C1,C2,C3,C4,C5,C6,C7,A2,BYs]
theorem Zpt (x:Int):over Zdz.cells 32 [.int .i64 x]=(Lbl.mk (List.replicate 32 0) x [] ⟨[],[],0,0⟩ [] (by simp)).cells:=Z1c _ _ _ _ _ _ _
theorem Ydl (t:List UInt8) (k:Int) (n:List UInt8) (w:Idt) (m:List UInt8) (h:t.length=32) (d:List UInt8) (hd:d.length=32):over (Lbl.mk t k n w m h).cells 0 (A0 d)=(Lbl.mk d k n w m hd).cells:=by
  unfold Lbl.cells over
  rw [Yu5,Ytw,Nat.zero_add,D9,hd,Yu0 (by rw [D9,h])]
theorem Zwx {p:List UInt8} {n:Nat} (hn:n=p.length) (hp:p.length≤1048576):∃ (g:Lbl) (ok:Bool),S E F.I3 [.lst (A0 p) n] []=some (Z59 g (ok&&isL g p))∧∀ l,Zr0 p l→g=l∧ok=true:=by
  subst hn
  obtain ⟨v1,r1,o1,a1,c1,s1,_,y1⟩:=Zdq (t:=p) (w:=Zwn) (by omega) (by decide)
  obtain ⟨v2,r2,o2,a2,c2,s2,_,y2⟩:=Zdq (t:=r1) (w:=Zwo) (by omega) (by decide)
  obtain ⟨v3,r3,o3,a3,c3,s3,_,y3⟩:=Zdq (t:=r2) (w:=Zwp) (by omega) (by decide)
  obtain ⟨v4,r4,o4,a4,c4,s4,_,y4⟩:=Zdq (t:=r3) (w:=Zwq) (by omega) (by decide)
  have yes:∀ l,Zr0 p l→v1=M0 l.tgt∧v2=M1 l.kind∧v3=l.name∧v4=H1 l.who∧r4=10::l.msg∧o1=true∧o2=true∧o3=true∧o4=true:=by
    rintro l ⟨e1,e2⟩
    obtain ⟨w1,w2,w3,w4,w5,w6⟩:=Ziv e1
    rw [Z01] at e2
    obtain ⟨b1,b2,b3⟩:=y1 _ _ e2.symm (Zeo _)
    subst b2
    obtain ⟨d1,d2,d3⟩:=y2 _ _ rfl (Zr1 _)
    subst d2
    obtain ⟨f1,f2,f3⟩:=y3 _ _ rfl w3
    subst f2
    obtain ⟨g1,g2,g3⟩:=y4 _ _ rfl (Zh3 w6)
    exact ⟨b1,d1,f1,g1,g2,b3,d3,f3,g3⟩
  unfold Zwn at s1
  unfold Zwo at s2
  unfold Zwp at s3
  unfold Zwq at s4
  by_cases hbad:o1=true∧o2=true∧o3=true∧o4=true∧r4≠[]
  · obtain ⟨rfl,rfl,rfl,rfl,hne⟩:=hbad
    obtain ⟨d,e1,hd,he1,s5,y5⟩:=Zjq (s:=v1) (by omega)
    obtain ⟨i,e2,hi1,hi2,s6,y6⟩:=Zww (v:=v4) (by omega)
    have s7:=Ylm (s:=v2)
    have hpos:1≤r4.length:=by cases r4 with|nil=>exact absurd rfl hne|cons=>simp
    have hm:(r4.drop 1).length≤p.length:=by rw [Ysc];omega
    refine ⟨⟨d,Zh4 v2,v3,i,r4.drop 1,hd⟩,true,?_,fun l hl=>?_⟩
    · have b1:=Yq8 (l:=⟨d,Zh4 v2,v3,i,r4.drop 1,hd⟩) (by show v3.length≤_;omega) (by show (r4.drop 1).length≤_;omega) (by show i.name.length≤_;omega) (by show i.email.length≤_;omega)
      have b2:Ze2 ⟨d,Zh4 v2,v3,i,r4.drop 1,hd⟩=0→S E F.Zbe [.agg (Lbl.mk d (Zh4 v2) v3 i (r4.drop 1) hd).cells] []=_∧(Zf3 ⟨d,Zh4 v2,v3,i,r4.drop 1,hd⟩).length≤70000:=fun h=>⟨Yq6 (by show v3.length≤_;omega) (by show (r4.drop 1).length≤_;omega) (Ziv h).2.2.2.2.2,Z03 h⟩
      have hne':(r4 == [])=false:=by cases r4 with|nil=>exact absurd rfl hne|cons=>rfl
      have hsb:sub r4 1 (r4.length-1)=r4.drop 1:=D5 (by omega)
      unfold isL Z59
      simp only [Yuo]
      have ov:=fun (t:List UInt8) k n w m h=>Ydl t k n w m h d hd
      generalize Zf3 ⟨d,Zh4 v2,v3,i,r4.drop 1,hd⟩=tb at *
      generalize Ze2 ⟨d,Zh4 v2,v3,i,r4.drop 1,hd⟩=te at *
      have hbe:=Z8h (a:=tb) (b:=p) (n:=tb.length) (m:=p.length) rfl rfl
      rw [S_of Zgg rfl rfl]
      by_cases hte:te=0
      · obtain ⟨b3,b4⟩:=b2 hte
        subst hte
        simp only [decide_true,Yuo]
        cases hq:(tb==p) with
        | false =>
          rw [hq] at hbe
          rw [if_neg (by simp)]
          simp -dsimp (disch:=first|omega|(simp only [A3]<;>omega)|fail) only [L.I3,go_sem,reduceIte,reduceCtorEq,A9,B0,B1,B2,B3,B4,B5,B6,B7,B8,B9,C0,C1,C2,C3,C4,C5,C6,C7,A2,BYs,s1,s2,s3,s4,s5,s6,s7,hne',hsb,Zpt,ov,b1,b3,hbe]
        | true =>
          rw [hq] at hbe
          rw [if_pos rfl]
          simp -dsimp (disch:=first|omega|(simp only [A3]<;>omega)|fail) only [L.I3,go_sem,reduceIte,reduceCtorEq,A9,B0,B1,B2,B3,B4,B5,B6,B7,B8,B9,C0,C1,C2,C3,C4,C5,C6,C7,A2,BYs,s1,s2,s3,s4,s5,s6,s7,hne',hsb,Zpt,ov,b1,b3,hbe]
      · have hd5:decide (te=0)=false:=decide_eq_false hte
        rw [hd5,Yuq,if_neg (by simp)]
        simp -dsimp (disch:=first|omega|(simp only [A3]<;>omega)|fail) only [L.I3,go_sem,reduceIte,reduceCtorEq,A9,B0,B1,B2,B3,B4,B5,B6,B7,B8,B9,C0,C1,C2,C3,C4,C5,C6,C7,A2,BYs,s1,s2,s3,s4,s5,s6,s7,hne',hsb,Zpt,ov,b1,hte]
    · obtain ⟨g1,g2,g3,g4,g5,_⟩:=yes l hl
      obtain ⟨w1,w2,w3,w4,w5,w6⟩:=Ziv hl.1
      refine ⟨?_,rfl⟩
      have z1:=(y5 _ l.htgt g1).1
      have z2:=y6 _ w6 g4
      cases l
      simp only at *
      subst z1 z2 g3
      rw [g2,Z53 w1,g5]
      rfl
  · refine ⟨Zdz,false,?_,fun l hl=>?_⟩
    · unfold Z59
      rw [Yuq,if_neg (by simp)]
      rw [S_of Zgg rfl rfl]
      cases o1 with
      | false=>simp -dsimp (disch:=first|omega|(simp only [A3]<;>omega)|fail) only [L.I3,go_sem,reduceIte,reduceCtorEq,A9,B0,B1,B2,B3,B4,B5,B6,B7,B8,B9,C0,C1,C2,C3,C4,C5,C6,C7,A2,BYs,s1,s2,s3,s4,Yug]
      | true =>
        cases o2 with
        | false=>simp -dsimp (disch:=first|omega|(simp only [A3]<;>omega)|fail) only [L.I3,go_sem,reduceIte,reduceCtorEq,A9,B0,B1,B2,B3,B4,B5,B6,B7,B8,B9,C0,C1,C2,C3,C4,C5,C6,C7,A2,BYs,s1,s2,s3,s4,Yug,Yuf]
        | true =>
          cases o3 with
          | false=>simp -dsimp (disch:=first|omega|(simp only [A3]<;>omega)|fail) only [L.I3,go_sem,reduceIte,reduceCtorEq,A9,B0,B1,B2,B3,B4,B5,B6,B7,B8,B9,C0,C1,C2,C3,C4,C5,C6,C7,A2,BYs,s1,s2,s3,s4,Yug,Yuf]
          | true =>
            cases o4 with
            | false=>simp -dsimp (disch:=first|omega|(simp only [A3]<;>omega)|fail) only [L.I3,go_sem,reduceIte,reduceCtorEq,A9,B0,B1,B2,B3,B4,B5,B6,B7,B8,B9,C0,C1,C2,C3,C4,C5,C6,C7,A2,BYs,s1,s2,s3,s4,Yug,Yuf]
            | true =>
              have hr:(r4 == [])=true:=by
                cases r4 with
                | nil=>rfl
                | cons a t=>exact absurd ⟨rfl,rfl,rfl,rfl,by simp⟩ hbad
              simp -dsimp (disch:=first|omega|(simp only [A3]<;>omega)|fail) only [L.I3,go_sem,reduceIte,reduceCtorEq,A9,B0,B1,B2,B3,B4,B5,B6,B7,B8,B9,C0,C1,C2,C3,C4,C5,C6,C7,A2,BYs,s1,s2,s3,s4,Yug,Yuf,hr]
    · obtain ⟨g1,g2,g3,g4,g5,g6,g7,g8,g9⟩:=yes l hl
      exact absurd ⟨g6,g7,g8,g9,by rw [g5];simp⟩ hbad
theorem Zwy {p:List UInt8} {n:Nat} (hn:n=p.length) (hp:1048576<p.length) (hb:p.length≤1000000000000):S E F.I3 [.lst (A0 p) n] []=some Z8g:=by
  subst hn
  rw [S_of Zgg rfl rfl]
  unfold Z8g
  simp -dsimp (disch:=first|omega|(simp only [A3]<;>omega)|fail) only [L.I3,go_sem,reduceIte,reduceCtorEq,A9,B0,B1,B2,B3,B4,B5,B6,B7,B8,B9,C0,C1,C2,C3,C4,C5,C6,C7,A2,BYs]
end Cod
namespace Cod
open Go
def Z1f (s:Snap):List UInt8:=Zgx++[32]++H1 s.aut++[10]++Zg5++[32]++H1 s.com++[10,10]++s.msg
theorem Yq9 (s:Snap):Zbt s=(Znn++[32]++M0 s.tree++[10])++Zc7 s.par++Z1f s:=rfl
theorem Yln {ps:List Id32} {i:Nat} (h:i<ps.length):ps.drop i=iat ps i::ps.drop (i+1):=by
  rw [Yt7 h];simp [iat,List.getD,h]
def PV (v:AV) (ps:List Id32):Prop:=v=.lst (ids ps) ps.length∨(ps=[]∧v=.nils)
theorem rc_l0 {s:Snap} {v:AV} (hv:PV v s.par) (hp:s.par.length≤100000) (hm:s.msg.length≤1000000000) (ha:D7 s.aut=true) (hc:D7 s.com=true):∀ (m i:Nat) (t:List UInt8),i+m=s.par.length→t.length≤200+i*72 →
    X E [.tmp 2] (.c L.H7.x0::.lp [1,3,12,13,14] L.H7.x0::.blk 0::[.c L.H7.r0]) ⟨[(1,.ref (.s 1000000 0) 0 0),(3,.str t),(12,v),(13,.int .i64 s.par.length),(14,.int .i64 i)],[(.s 1000000 0,⟨0,true,true,true,snR s.tree v s.aut s.com s.msg⟩)]⟩ =
    some (.buf (.r 0) 0 0 (t++Zc7 (s.par.drop i)++Z1f s).length 1,[(.r 0,⟨0,true,true,false,A0 (t++Zc7 (s.par.drop i)++Z1f s)⟩)]):=by
  have ht:=s.ht
  have q1:=Zlh ha
  have q2:=Zlh hc
  have l1:=Zan ha
  have l2:=Zan hc
  intro m
  induction m with
  | zero =>
    intro i t hi hl
    obtain rfl:i=s.par.length:=by omega
    have e:t++Zc7 (s.par.drop s.par.length)++Z1f s=t++([97,117,116,104,111,114,32]++H1 s.aut++[10,99,111,109,109,105,116,116,101,114,32]++H1 s.com++[10,10]++s.msg):=by
      rw [List.drop_length,Ze3,Yuh]
      unfold Z1f Zgx Zg5
      simp only [Ysw,Yr7,Ytw]
    rw [G8 L.H7.x0.eq_1,e]
    generalize H1 s.aut=A at *
    generalize H1 s.com=C at *
    rcases hv with rfl|⟨h0,rfl⟩
    · simp -dsimp (disch:=first|omega|(simp only [A3]<;>omega)|fail) only [go_sem,reduceIte,reduceCtorEq,A9,B0,B1,B2,B3,B4,B5,B6,B7,B8,B9,C0,C1,C2,C3,C4,C5,C6,C7,A2,BYs,L.H7.r0,q1,q2]
    · simp -dsimp (disch:=first|omega|(simp only [A3]<;>omega)|fail) only [go_sem,reduceIte,reduceCtorEq,A9,B0,B1,B2,B3,B4,B5,B6,B7,B8,B9,C0,C1,C2,C3,C4,C5,C6,C7,A2,BYs,L.H7.r0,q1,q2]
  | succ m ih =>
    intro i t hi hl
    have hlt:i<s.par.length:=by omega
    obtain rfl:v=.lst (ids s.par) s.par.length:=by
      rcases hv with h|⟨h0,_⟩
      · exact h
      · rw [h0] at hlt;simp at hlt
    have hx:=(iat s.par i).h
    have h1:=Zwu hx
    have hl1:(M0 (iat s.par i).b).length=64:=by rw [V1,hx]
    have e:t++Zc7 (s.par.drop i)++Z1f s=(t++([112,97,114,101,110,116,32]++M0 (iat s.par i).b++[10]))++Zc7 (s.par.drop (i+1))++Z1f s:=by
      rw [Yln hlt,Zc8]
      unfold Z04
      simp only [Ysw,Yr7,Ytw]
    have h2:=ih (i+1) (t++([112,97,114,101,110,116,32]++M0 (iat s.par i).b++[10])) (by omega) (by simp only [Ysv,Ysk,Yth];omega)
    simp only [Yuj,Yuk] at h2
    rw [G8 L.H7.x0.eq_1,e,←h2]
    have ho:over (A0 (List.replicate 32 0)) 0 (A0 (iat s.par i).b)=A0 (iat s.par i).b:=R3 (by rw [hx];simp)
    generalize M0 (iat s.par i).b=H at *
    simp -dsimp (disch:=first|omega|(simp only [A3]<;>omega)|fail) only [go_sem,reduceIte,reduceCtorEq,A9,B0,B1,B2,B3,B4,B5,B6,B7,B8,B9,C0,C1,C2,C3,C4,C5,C6,C7,A2,BYs,h1,ho,Yul]
theorem Z6a {s:Snap} {v:AV} (hv:PV v s.par) (hp:s.par.length≤100000) (hm:s.msg.length≤1000000000) (ha:D7 s.aut=true) (hc:D7 s.com=true):S E F.H7 [.agg (snR s.tree v s.aut s.com s.msg)] []=some (.buf (.r 0) 0 0 (Zbt s).length 1,[(.r 0,⟨0,true,true,false,A0 (Zbt s)⟩)]):=by
  have ht:=s.ht
  have h1:=Zwu s.ht
  have hl1:(M0 s.tree).length=64:=by rw [V1,s.ht]
  have h2:=rc_l0 hv hp hm ha hc s.par.length 0 ([116,114,101,101,32]++M0 s.tree++[10]) (by omega) (by simp only [Ysv,Ysk,Yth];omega)
  simp only [Yuk,Ytn] at h2
  have e:Zbt s=[116,114,101,101,32]++M0 s.tree++[10]++Zc7 s.par++Z1f s:=by
    rw [Yq9]
    unfold Znn
    simp only [Ysw,Yr7,Ytw]
  rw [S_of Zt6 rfl rfl,e]
  generalize M0 s.tree=H at *
  simp only [Yr7,Ytw,Ysk] at h2
  rcases hv with rfl|⟨h0,rfl⟩
  · simp -dsimp (disch:=first|omega|(simp only [A3]<;>omega)|fail) only [L.H7,go_sem,reduceIte,reduceCtorEq,A9,B0,B1,B2,B3,B4,B5,B6,B7,B8,B9,C0,C1,C2,C3,C4,C5,C6,C7,A2,BYs,h1,h2]
  · rw [h0] at h2 ⊢
    simp only [Yth,Yuk] at h2
    simp -dsimp (disch:=first|omega|(simp only [A3]<;>omega)|fail) only [L.H7,go_sem,reduceIte,reduceCtorEq,A9,B0,B1,B2,B3,B4,B5,B6,B7,B8,B9,C0,C1,C2,C3,C4,C5,C6,C7,A2,BYs,h1,h2]
theorem Ydm (a b:Int) (n i:Bool):Y7 [a,b,if n=true then 0 else 3,if i=true then 0 else 3]=Y7 [a,b,if (!n || !i)=true then 3 else 0]:=by
  cases n<;>cases i<;>simp only [Y7,Ysi,Yuu,Yu9,Bool.or_false,Yuf,Yug,Yva,Yup]<;>generalize Ze4 (Ze4 0 a) b=w<;>unfold Ze4<;>simp<;>split<;>simp_all<;>omega
theorem Z6b {s:Snap} {v:AV} (hv:PV v s.par) (hp:s.par.length≤1000000000) (hm:s.msg.length≤1000000000) (ha:s.aut.name.length≤1000000000) (hb:s.aut.email.length≤1000000000) (hc:s.com.name.length≤1000000000) (hd:s.com.email.length≤1000000000):S E F.P5 [.agg (snR s.tree v s.aut s.com s.msg)] []=some (.int .i64 (Zfn s),[]):=by
  have ht:=s.ht
  have h3:=Zis (i:=s.aut) (by omega) (by omega)
  have h3':=Zis (i:=s.com) (by omega) (by omega)
  have h4:=Znf hm
  have w1:S E F.I8 [.bool (decide (16<(s.par.length:Int))),.int .i64 2] []=some (.int .i64 (if decide (16<(s.par.length:Int))=true then 2 else 0),[]):=Zhz
  have w3:S E F.I8 [.bool (!D7 s.aut || !D7 s.com),.int .i64 3] []=some (.int .i64 (if (!D7 s.aut || !D7 s.com)=true then 3 else 0),[]):=Zhz
  have hT:Zfn s=Y7 [if decide (16<(s.par.length:Int))=true then 2 else 0,Ze6 s.msg,if (!D7 s.aut || !D7 s.com)=true then 3 else 0]:=Ydm _ _ _ _
  rw [hT]
  generalize hE:(if (!D7 s.aut || !D7 s.com)=true then (3:Int) else 0)=ee at *
  generalize hL:(if decide (16<(s.par.length:Int))=true then (2:Int) else 0)=el at *
  have hd:=Zpr (a:=el) (b:=Ze6 s.msg) (c:=ee)
  generalize Y7 [el,Ze6 s.msg,ee]=res at *
  generalize Ze6 s.msg=em at *
  clear hE hT hL
  rw [S_of Zt5 rfl rfl]
  have hlen:(s.par=[]→w1=w1):=fun _=>rfl
  have hv':v=.lst (ids s.par) s.par.length∨(s.par.length=0∧v=.nils):=by
    rcases hv with h|⟨h,h'⟩
    · exact .inl h
    · exact .inr ⟨by rw [h];rfl,h'⟩
  clear hlen hv
  rcases hv' with rfl|⟨h0,rfl⟩<;>(try (rw [h0] at w1;simp only [Yuk,Int.reduceLT,decide_false] at w1))
  all_goals
    cases c0:D7 s.aut
    · rw [c0] at w3 h3
      simp only [Yug,Yva] at w3
      simp -dsimp (disch:=first|omega|(simp only [A3]<;>omega)|fail) only [L.P5,go_sem,reduceIte,reduceCtorEq,A9,B0,B1,B2,B3,B4,B5,B6,B7,B8,B9,C0,C1,C2,C3,C4,C5,C6,C7,A2,h3,h4,w1,w3,hd,Yug]
    · rw [c0] at w3 h3
      simp only [Yuf,Yup] at w3
      cases c1:D7 s.com
      · rw [c1] at w3 h3'
        simp only [Yug] at w3
        simp -dsimp (disch:=first|omega|(simp only [A3]<;>omega)|fail) only [L.P5,go_sem,reduceIte,reduceCtorEq,A9,B0,B1,B2,B3,B4,B5,B6,B7,B8,B9,C0,C1,C2,C3,C4,C5,C6,C7,A2,h3,h3',h4,w1,w3,hd,Yug,Yuf]
      · rw [c1] at w3 h3'
        simp only [Yuf] at w3
        simp -dsimp (disch:=first|omega|(simp only [A3]<;>omega)|fail) only [L.P5,go_sem,reduceIte,reduceCtorEq,A9,B0,B1,B2,B3,B4,B5,B6,B7,B8,B9,C0,C1,C2,C3,C4,C5,C6,C7,A2,h3,h3',h4,w1,w3,hd,Yug,Yuf]
end Cod
namespace Cod
open Go
def Z1g (s:Snap):AV × A5:=if Zfn s=0 then Zmn (Zbt s) 0 else (.tup [.nils,.int .i64 (Zfn s)],[])
def Zpu (s:Snap):Prop:=s.par.length≤1048576∧s.msg.length≤1000000000
structure EnvC (EE:Env):Prop extends EnvP EE where
  put:∀ {s:Snap} {v:AV},PV v s.par→Zpu s→S EE F.Zbc [.agg (snR s.tree v s.aut s.com s.msg)] []=some (Z1g s)
def isC (g:Snap) (p:List UInt8):Bool:=decide (Zfn g=0)&&(Zbt g==p)
theorem Z8i {g:Snap} {p:List UInt8}:isC g p=true↔Zr2 p g:=by
  unfold isC Zr2
  rw [Ysj,decide_eq_true_eq,beq_iff_eq]
def noC (e:Int):AV × A5:=(.tup [.agg (snR Zca .nils G2 G2 []),.int .i64 e],[])
def yesC (g:Snap):AV × A5:=if g.par=[] then (.tup [.agg (snR g.tree .nils g.aut g.com g.msg),.int .i64 0],[]) else (.tup [.agg (snR g.tree (.buf (.r 0) 0 0 g.par.length 32) g.aut g.com g.msg),.int .i64 0],[(.r 0,⟨0,true,true,false,ids g.par⟩)])
def cmV (g:Snap) (ok:Bool):AV × A5:=if ok=true then yesC g else noC 4
def mkS (d:List UInt8) (ps:List Id32) (a c:Idt) (m:List UInt8) (hd:d.length=32):Snap:=⟨d,ps,a,c,m,hd⟩
section
variable {EE:Env} (hE:EnvC EE)
include hE
theorem Ylo {p d r:List UInt8} {ps:List Id32} {b:Nat} {v:AV} {σ:A5} (hd:d.length=32) (hp:p.length≤1048576) (hr:r.length≤1048576) (hb:b≤3) (hps:ps.length≤1048576) (hv:(ps=[]∧v=.nils ∧ σ=[])∨(ps≠[]∧v=.buf (.s 1000000 3) 0 0 ps.length 32 ∧ σ=[(.s 1000000 3,⟨0,true,true,false,ids ps⟩)])) :
    ∃ (g:Snap) (bad:Nat),X EE [.cell 2 (some 42),.tmp 3] [.c L.D3.r0] ⟨[(0,.lst (A0 p) p.length),(2,.ref (.s 1000000 0) 0 0),(4,.ref (.s 1000000 1) 0 0),(5,.ref (.s 1000000 2) 0 0),(30,.bool false)],[(.s 1000000 0,⟨0,true,true,true,snR Zca .nils G2 G2 []⟩),(.s 1000000 1,⟨0,true,true,true,[.str r,.int .i64 (b:Int)]⟩),(.s 1000000 2,⟨0,true,true,true,snR d v G2 G2 []⟩)] ++ σ⟩=some (cmV g (decide (bad=0)&&isC g p))∧b≤bad ∧
    ∀ a c m,D7 a=true→D7 c=true→r=Zgx++32::(H1 a++10::(Zg5++32::(H1 c++10::(10::m))))→g=mkS d ps a c m hd∧bad=b:=by
  obtain ⟨i1,r1,b1,n1,e1,q1,u1,v1,s1,y1⟩:=Z57 (rest:=r) (w:=Zgx) (bad:=b) (by omega) (by decide) (by decide) (by omega)
  obtain ⟨i2,r2,b2,n2,e2,q2,u2,v2,s2,y2⟩:=Z57 (rest:=r1) (w:=Zg5) (bad:=b1) (by omega) (by decide) (by decide) (by omega)
  obtain ⟨m3,b3,q3,u3,v3,s3,y3⟩:=Ylg (rest:=r2) (bad:=b2) (by omega) (by omega)
  have hz0:=S1
  have s1:=fun x=>M5 hE.ext (s1 x)
  have s2:=fun x=>M5 hE.ext (s2 x)
  have s3:=fun x=>M5 hE.ext (s3 x)
  have yes:∀ a c m,D7 a=true→D7 c=true→r=Zgx++32::(H1 a++10::(Zg5++32::(H1 c++10::(10::m))))→i1=a∧i2=c∧m3=m∧b3=b:=by
    intro a c m ha hc e
    obtain ⟨g1,g2,g3⟩:=y1 _ _ ha e
    subst g2
    obtain ⟨f1,f2,f3⟩:=y2 _ _ hc rfl
    subst f2
    obtain ⟨k1,k2⟩:=y3 _ rfl
    exact ⟨g1,f1,k1,by omega⟩
  have hput:∀ v,PV v ps→S EE F.Zbc [.agg (snR d v i1 i2 m3)] []=some (Z1g (mkS d ps i1 i2 m3 hd)):=fun v h=>hE.put (s:=mkS d ps i1 i2 m3 hd) h ⟨hps,by show m3.length≤_;omega⟩
  have t1:Zfn (mkS d ps i1 i2 m3 hd)=0→Z1g (mkS d ps i1 i2 m3 hd)=Zmn (Zbt (mkS d ps i1 i2 m3 hd)) 0∧(Zbt (mkS d ps i1 i2 m3 hd)).length≤80000:=fun h=>⟨if_pos h,Z08 h⟩
  have t2:Zfn (mkS d ps i1 i2 m3 hd)≠0→Z1g (mkS d ps i1 i2 m3 hd)=(.tup [.nils,.int .i64 (Zfn (mkS d ps i1 i2 m3 hd))],[]):=fun h=>if_neg h
  refine ⟨mkS d ps i1 i2 m3 hd,b3,?_,by omega,fun a c m ha hc e=>?_⟩
  · have hy:yesC (mkS d ps i1 i2 m3 hd)=if ps=[] then (.tup [.agg (snR d .nils i1 i2 m3),.int .i64 0],[]) else (.tup [.agg (snR d (.buf (.r 0) 0 0 ps.length 32) i1 i2 m3),.int .i64 0],[(.r 0,⟨0,true,true,false,ids ps⟩)]):=rfl
    unfold Zmn at t1
    unfold isC cmV noC
    rw [hy]
    clear hy
    generalize Zbt (mkS d ps i1 i2 m3 hd)=tb at *
    generalize Zfn (mkS d ps i1 i2 m3 hd)=te at *
    generalize Z1g (mkS d ps i1 i2 m3 hd)=tv at *
    have c1:(0:Int)<(b3:Int)∨b3=0:=by omega
    unfold Zgx at s1
    unfold Zg5 at s2
    have hbt:=M5 hE.ext (Z1d (a:=tb) (b:=p) (n:=tb.length) (m:=p.length) rfl rfl)
    clear yes y1 y2 y3
    rcases hv with ⟨rfl,rfl,rfl⟩|⟨hne,rfl,rfl⟩
    · rw [if_pos rfl]
      have hput:=hput _ (.inr ⟨rfl,rfl⟩)
      simp only [Yuh]
      by_cases hte:te=0
      · obtain ⟨tg1,t1l⟩:=t1 hte
        subst hte
        rw [tg1] at hput
        rcases c1 with c1|rfl
        · have hd5:decide (b3=0)=false:=by simp;omega
          rw [hd5,Yuq,if_neg (by simp)]
          simp -dsimp (disch:=first|omega|(simp only [A3]<;>omega)|fail) only [L.D3.r0,go_sem,reduceIte,reduceCtorEq,A9,B0,B1,B2,B3,B4,B5,B6,B7,B8,B9,C0,C1,C2,C3,C4,C5,C6,C7,A2,BYs,s1,s2,s3,hput,c1,Yuk]
        · simp only [decide_true,Yuo]
          cases hq:(tb==p) with
          | false =>
            rw [hq] at hbt
            rw [if_neg (by simp)]
            simp -dsimp (disch:=first|omega|(simp only [A3]<;>omega)|fail) only [L.D3.r0,go_sem,reduceIte,reduceCtorEq,A9,B0,B1,B2,B3,B4,B5,B6,B7,B8,B9,C0,C1,C2,C3,C4,C5,C6,C7,A2,BYs,s1,s2,s3,hput,hbt,Yuk]
          | true =>
            rw [hq] at hbt
            rw [if_pos rfl]
            simp -dsimp (disch:=first|omega|(simp only [A3]<;>omega)|fail) only [L.D3.r0,go_sem,reduceIte,reduceCtorEq,A9,B0,B1,B2,B3,B4,B5,B6,B7,B8,B9,C0,C1,C2,C3,C4,C5,C6,C7,A2,BYs,s1,s2,s3,hput,hbt,Yuk]
      · rw [t2 hte] at hput
        have hd5:decide (te=0)=false:=decide_eq_false hte
        rw [hd5,Yuq,Yuv,if_neg (by simp)]
        rcases c1 with c1|rfl
        · simp -dsimp (disch:=first|omega|(simp only [A3]<;>omega)|fail) only [L.D3.r0,go_sem,reduceIte,reduceCtorEq,A9,B0,B1,B2,B3,B4,B5,B6,B7,B8,B9,C0,C1,C2,C3,C4,C5,C6,C7,A2,BYs,s1,s2,s3,hput,c1,Yuk]
        · simp -dsimp (disch:=first|omega|(simp only [A3]<;>omega)|fail) only [L.D3.r0,go_sem,reduceIte,reduceCtorEq,A9,B0,B1,B2,B3,B4,B5,B6,B7,B8,B9,C0,C1,C2,C3,C4,C5,C6,C7,A2,BYs,s1,s2,s3,hput,hte,Yuk]
    · rw [if_neg hne]
      have hput:=hput _ (.inl rfl)
      simp only [Yr7,Ytw]
      by_cases hte:te=0
      · obtain ⟨tg1,t1l⟩:=t1 hte
        subst hte
        rw [tg1] at hput
        rcases c1 with c1|rfl
        · have hd5:decide (b3=0)=false:=by simp;omega
          rw [hd5,Yuq,if_neg (by simp)]
          simp -dsimp (disch:=first|omega|(simp only [A3]<;>omega)|fail) only [L.D3.r0,go_sem,reduceIte,reduceCtorEq,A9,B0,B1,B2,B3,B4,B5,B6,B7,B8,B9,C0,C1,C2,C3,C4,C5,C6,C7,A2,BYs,s1,s2,s3,hput,c1,Yuk]
        · simp only [decide_true,Yuo]
          cases hq:(tb==p) with
          | false =>
            rw [hq] at hbt
            rw [if_neg (by simp)]
            simp -dsimp (disch:=first|omega|(simp only [A3]<;>omega)|fail) only [L.D3.r0,go_sem,reduceIte,reduceCtorEq,A9,B0,B1,B2,B3,B4,B5,B6,B7,B8,B9,C0,C1,C2,C3,C4,C5,C6,C7,A2,BYs,s1,s2,s3,hput,hbt,Yuk]
          | true =>
            rw [hq] at hbt
            rw [if_pos rfl]
            simp -dsimp (disch:=first|omega|(simp only [A3]<;>omega)|fail) only [L.D3.r0,go_sem,reduceIte,reduceCtorEq,A9,B0,B1,B2,B3,B4,B5,B6,B7,B8,B9,C0,C1,C2,C3,C4,C5,C6,C7,A2,BYs,s1,s2,s3,hput,hbt,Yuk]
      · rw [t2 hte] at hput
        have hd5:decide (te=0)=false:=decide_eq_false hte
        rw [hd5,Yuq,Yuv,if_neg (by simp)]
        rcases c1 with c1|rfl
        · simp -dsimp (disch:=first|omega|(simp only [A3]<;>omega)|fail) only [L.D3.r0,go_sem,reduceIte,reduceCtorEq,A9,B0,B1,B2,B3,B4,B5,B6,B7,B8,B9,C0,C1,C2,C3,C4,C5,C6,C7,A2,BYs,s1,s2,s3,hput,c1,Yuk]
        · simp -dsimp (disch:=first|omega|(simp only [A3]<;>omega)|fail) only [L.D3.r0,go_sem,reduceIte,reduceCtorEq,A9,B0,B1,B2,B3,B4,B5,B6,B7,B8,B9,C0,C1,C2,C3,C4,C5,C6,C7,A2,BYs,s1,s2,s3,hput,hte,Yuk]
  · obtain ⟨rfl,rfl,rfl,e4⟩:=yes a c m ha hc e
    exact ⟨rfl,e4⟩
end
end Cod
namespace Cod
open Go
theorem Zmo {r:List UInt8}:Zdp (Zgx++32::r) [112,97,114,101,110,116,32]=false:=by
  unfold Zdp Zgx
  simp
theorem Ydn {r:List UInt8} {d:Id32} {l:List Id32}:Zdp (Zc7 (d::l)++r) [112,97,114,101,110,116,32]=true:=by
  rw [Zc8,Ysw,Yr7]
  have:=Zpq [112,97,114,101,110,116,32] ((M0 d.b++10::Zc7 l)++r)
  exact this
section
variable {EE:Env} (hE:EnvC EE)
include hE
theorem Z6c {p d r:List UInt8} {ps:List Id32} {b:Nat} {v:AV} {σ:A5} (hr:r.length≤1048576) (hv:(ps=[]∧v=.nils ∧ σ=[])∨(ps≠[]∧v=.buf (.s 1000000 3) 0 0 (ps).length 32 ∧ σ=[(.s 1000000 3,⟨0,true,true,false,ids (ps)⟩)])) (h:Zdp r [112,97,114,101,110,116,32]=false∨b≠0) (hd:d.length=32) :
    X EE [.cell 2 (some 42),.tmp 3] (.c L.D3.x0::.lp [0,2,4,5] L.D3.x0::.blk 0::[.c L.D3.r0]) ⟨[(0,.lst (A0 p) p.length),(2,.ref (.s 1000000 0) 0 0),(4,.ref (.s 1000000 1) 0 0),(5,.ref (.s 1000000 2) 0 0)],[(.s 1000000 0,⟨0,true,true,true,snR Zca .nils G2 G2 []⟩),(.s 1000000 1,⟨0,true,true,true,[.str r,.int .i64 (b:Int)]⟩),(.s 1000000 2,⟨0,true,true,true,snR d (v) G2 G2 []⟩)] ++ σ⟩=X EE [.cell 2 (some 42),.tmp 3] [.c L.D3.r0] ⟨[(0,.lst (A0 p) p.length),(2,.ref (.s 1000000 0) 0 0),(4,.ref (.s 1000000 1) 0 0),(5,.ref (.s 1000000 2) 0 0),(30,.bool false)],[(.s 1000000 0,⟨0,true,true,true,snR Zca .nils G2 G2 []⟩),(.s 1000000 1,⟨0,true,true,true,[.str r,.int .i64 (b:Int)]⟩),(.s 1000000 2,⟨0,true,true,true,snR d (v) G2 G2 []⟩)] ++ σ⟩:=by
  have h1:=M5 hE.ext (Zr5 (s:=r) (t:=[112,97,114,101,110,116,32]) (by omega) (by decide))
  have h1:S EE F.Q8 [.str r,.str [112,97,114,101,110,116,32]] []=some (.bool (Zdp r [112,97,114,101,110,116,32]),[]):=h1
  have hz0:=S1
  rw [G8 L.D3.x0.eq_1]
  cases hp:Zdp r [112,97,114,101,110,116,32] with
  | false =>
    rw [hp] at h1
    rcases hv with ⟨rfl,rfl,rfl⟩|⟨hne,rfl,rfl⟩
    · simp only [Yuh]
      simp -dsimp (disch:=first|omega|(simp only [A3]<;>omega)|fail) only [go_sem,reduceIte,reduceCtorEq,A9,B0,B1,B2,B3,B4,B5,B6,B7,B8,B9,C0,C1,C2,C3,C4,C5,C6,C7,A2,BYs,h1]
    · simp only [Yr7,Ytw]
      simp -dsimp (disch:=first|omega|(simp only [A3]<;>omega)|fail) only [go_sem,reduceIte,reduceCtorEq,A9,B0,B1,B2,B3,B4,B5,B6,B7,B8,B9,C0,C1,C2,C3,C4,C5,C6,C7,A2,BYs,h1]
  | true =>
    rw [hp] at h1 h
    have hb:b≠0:=h.resolve_left (by simp)
    have hb':((b:Int)==0)=false:=by rw [beq_eq_false_iff_ne];omega
    rcases hv with ⟨rfl,rfl,rfl⟩|⟨hne,rfl,rfl⟩
    · simp only [Yuh]
      simp -dsimp (disch:=first|omega|(simp only [A3]<;>omega)|fail) only [go_sem,reduceIte,reduceCtorEq,A9,B0,B1,B2,B3,B4,B5,B6,B7,B8,B9,C0,C1,C2,C3,C4,C5,C6,C7,A2,BYs,h1,hb']
    · simp only [Yr7,Ytw]
      simp -dsimp (disch:=first|omega|(simp only [A3]<;>omega)|fail) only [go_sem,reduceIte,reduceCtorEq,A9,B0,B1,B2,B3,B4,B5,B6,B7,B8,B9,C0,C1,C2,C3,C4,C5,C6,C7,A2,BYs,h1,hb']
theorem pc_in {p d r r' e:List UInt8} {ps:List Id32} {b':Nat} {v:AV} {σ:A5} (hr:r.length≤1048576) (hps:ps.length≤1048576) (hv:(ps=[]∧v=.nils ∧ σ=[])∨(ps≠[]∧v=.buf (.s 1000000 3) 0 0 (ps).length 32 ∧ σ=[(.s 1000000 3,⟨0,true,true,false,ids (ps)⟩)])) (h:Zdp r [112,97,114,101,110,116,32]=true) (hd:d.length=32) (he:e.length=32)
    (hid:∀ x:Site,S E F.M7 [.ref (.up x) 0 0,.str [112,97,114,101,110,116]] [(.up x,⟨0,true,true,true,[.str r,.int .i64 0]⟩)]=some (.agg (A0 e),[(.up x,⟨0,true,true,true,[.str r',.int .i64 (b':Int)]⟩)])) :
    X EE [.cell 2 (some 42),.tmp 3] (.c L.D3.x0::.lp [0,2,4,5] L.D3.x0::.blk 0::[.c L.D3.r0]) ⟨[(0,.lst (A0 p) p.length),(2,.ref (.s 1000000 0) 0 0),(4,.ref (.s 1000000 1) 0 0),(5,.ref (.s 1000000 2) 0 0)],[(.s 1000000 0,⟨0,true,true,true,snR Zca .nils G2 G2 []⟩),(.s 1000000 1,⟨0,true,true,true,[.str r,.int .i64 0]⟩),(.s 1000000 2,⟨0,true,true,true,snR d (v) G2 G2 []⟩)] ++ σ⟩=X EE [.cell 2 (some 42),.tmp 3] (.c L.D3.x0::.lp [0,2,4,5] L.D3.x0::.blk 0::[.c L.D3.r0]) ⟨[(0,.lst (A0 p) p.length),(2,.ref (.s 1000000 0) 0 0),(4,.ref (.s 1000000 1) 0 0),(5,.ref (.s 1000000 2) 0 0)],[(.s 1000000 0,⟨0,true,true,true,snR Zca .nils G2 G2 []⟩),(.s 1000000 1,⟨0,true,true,true,[.str r',.int .i64 (b':Int)]⟩),(.s 1000000 2,⟨0,true,true,true,snR d (.buf (.s 1000000 3) 0 0 (ps++[mkI e]).length 32) G2 G2 []⟩)]++[(.s 1000000 3,⟨0,true,true,false,ids (ps++[mkI e])⟩)]⟩:=by
  have h1:=M5 hE.ext (Zr5 (s:=r) (t:=[112,97,114,101,110,116,32]) (by omega) (by decide))
  have h1:S EE F.Q8 [.str r,.str [112,97,114,101,110,116,32]] []=some (.bool (Zdp r [112,97,114,101,110,116,32]),[]):=h1
  have hz0:=S1
  rw [h] at h1
  have h2:=fun x=>M5 hE.ext (hid x)
  have ho:over (A0 (List.replicate 32 0)) 0 (A0 e)=A0 e:=R3 (by rw [he];simp)
  have hsn:ids ps++A0 e=ids (ps++[mkI e]):=by
    have:=Zz8 ps (mkI e)
    rw [mkI_b he] at this
    exact this
  have hln:(ps++[mkI e]).length=ps.length+1:=by simp
  conv=>lhs;rw [G8 L.D3.x0.eq_1]
  rcases hv with ⟨rfl,rfl,rfl⟩|⟨hne,rfl,rfl⟩
  · rw [Z7t,Ytw,Ytw] at hsn
    simp only [Yuh,Yr7,Ytw,←hsn]
    simp -dsimp (disch:=first|omega|(simp only [A3]<;>omega)|fail) only [go_sem,reduceIte,reduceCtorEq,A9,B0,B1,B2,B3,B4,B5,B6,B7,B8,B9,C0,C1,C2,C3,C4,C5,C6,C7,A2,BYs,h1,h2,ho,he,Yul]
  · simp only [Yr7,Ytw,hln]
    simp -dsimp (disch:=first|omega|(simp only [A3]<;>omega)|fail) only [go_sem,reduceIte,reduceCtorEq,A9,B0,B1,B2,B3,B4,B5,B6,B7,B8,B9,C0,C1,C2,C3,C4,C5,C6,C7,A2,BYs,h1,h2,ho,he,hsn,Yul]
end
end Cod

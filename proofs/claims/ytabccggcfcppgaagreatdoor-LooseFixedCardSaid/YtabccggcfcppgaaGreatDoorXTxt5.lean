/- The program's deflate: matches. -/
import Derived.KernelRfl
import Derived.Test.YtabccggcfcppgaaGreatDoorXTxt4
import Derived.Test.YtabccggcfcppgaaGreatDoorXTxt3
import Derived.Test.YtabccggcfcppgaaGreatDoorXTxt2
set_option linter.unusedSimpArgs false
set_option linter.unusedVariables false
open List renaming append_assoc → Yga, length_append → Yf9, length_cons → Yf0, length_drop → Yfr, length_nil → Ygy, length_set → Yhv, length_take → Yfq
open Nat renaming add_zero → Yin, le_refl → Yfj, mod_eq_of_lt → Yie, zero_add → Ygc
open Int renaming cast_ofNat_Int → Yhz, natCast_add → Yhy, natCast_emod → Yio
open BitVec renaming ofInt_natCast → Yic, toNat_ofNat → Yid
open Nat renaming reduceEqDiff → E2, reduceAdd → E3, reduceSub → E4, reduceMul → E5, reduceDiv → E6, reduceMod → E7, reduceBEq → E8, reduceLeDiff → E9, reduceLT → F0
open Int renaming reduceEq → F1, reduceNe → F2, reduceLT → F3, reduceLE → F4, reduceBEq → F5, reduceBNe → F6, reduceToNat → F7, reduceAdd → F8, reduceSub → F9, reduceMul → G0, reduceNeg → B2
namespace Cod
open Go
theorem fm_l1 {s1 s2 s3:Site} {g1 g2 g3:Nat} (h12:s1≠s2) (h13:s1≠s3) (h23:s2≠s3) {p:List UInt8} (hp:p.length≤1048576) {i j:Nat} (hj:j<i) (hi:i≤p.length) (b f:Nat) (k:List It) {ks:List Nat} {vs:List Int} {pr:List Int} (hpl:pr.length=p.length):∀ (m n:Nat),n+m=258 →
    X E [.tmp 4,.tmp 5] (.c L.A9.x1::.lp [0,1,8,9,10,11] L.A9.x1::.blk 2::k) ⟨[(0,.ref (.up s1) g1 0),(1,.int .i64 i),(8,.int .i64 j),(9,.int .i64 b),(10,.int .i64 f),(11,.int .i64 n)],[(.up s1,⟨g1,true,true,true,[.lst (A0 p) p.length,.mpr (.up s2) g2,.buf (.up s3) g3 0 p.length 1]⟩),(.up s2,⟨g2,true,true,true,[.mp (H0 .u32 ks) (B7 vs)]⟩),(.up s3,⟨g3,true,true,false,B7 (pr)⟩)]⟩=X E [.tmp 4,.tmp 5] k ⟨[(0,.ref (.up s1) g1 0),(1,.int .i64 i),(8,.int .i64 j),(9,.int .i64 b),(10,.int .i64 f),(11,.int .i64 ((n+cpl m (p.drop (i+n)) (p.drop (j+n)):Nat):Int)),(76,.bool false)],[(.up s1,⟨g1,true,true,true,[.lst (A0 p) p.length,.mpr (.up s2) g2,.buf (.up s3) g3 0 p.length 1]⟩),(.up s2,⟨g2,true,true,true,[.mp (H0 .u32 ks) (B7 vs)]⟩),(.up s3,⟨g3,true,true,false,B7 (pr)⟩)]⟩:=by
  have h21:¬ s2=s1:=fun e=>h12 e.symm;have h31:¬ s3=s1:=fun e=>h13 e.symm;have h32:¬ s3=s2:=fun e=>h23 e.symm
  intro m
  induction m with
  | zero =>
    intro n hn
    rw [Z97,Yin]
    rw [K1 L.A9.x1.eq_1]
    simp -dsimp (disch:=first|omega|(simp only [B0,A1,Yhv]<;>omega)|fail) only [go_sem,reduceIte,reduceCtorEq,E2,E3,E4,E5,E6,E7,E8,E9,F0,F1,F2,F3,F4,F5,F6,F7,F8,F9,G0,B2,BYs,h12,h13,h23,h21,h31,h32,G5,I0,I1,G6,A1,K2,I2]
  | succ m ih =>
    intro n hn
    by_cases hl:i+n<p.length
    · rw [Za6 hl (by omega)]
      have q1:(i:Int)+n=((i+n:Nat):Int):=by omega
      have q2:(j:Int)+n=((j+n:Nat):Int):=by omega
      by_cases e:p.getD (i+n) 0=p.getD (j+n) 0
      · have hb:bat p (i+n)=bat p (j+n):=by unfold bat;rw [e]
        rw [if_pos e]
        have g:=ih (n+1) (by omega)
        rw [show n+1+cpl m (p.drop (i+(n+1))) (p.drop (j+(n+1)))=n+(cpl m (p.drop (i+n+1)) (p.drop (j+n+1))+1) by rw [Nat.add_assoc i,Nat.add_assoc j];omega] at g
        simp only [Yhy,Yhz] at g ⊢
        rw [K1 L.A9.x1.eq_1]
        simp -dsimp (disch:=first|omega|(simp only [B0,A1,Yhv]<;>omega)|fail) only [go_sem,reduceIte,reduceCtorEq,E2,E3,E4,E5,E6,E7,E8,E9,F0,F1,F2,F3,F4,F5,F6,F7,F8,F9,G0,B2,BYs,h12,h13,h23,h21,h31,h32,G5,I0,I1,G6,A1,K2,I2,q1,q2,hb,g]
      · have hb:¬ bat p (i+n)=bat p (j+n):=by
          unfold bat
          intro h
          exact e (UInt8.toNat_inj.1 (by omega))
        rw [if_neg e,Yin]
        rw [K1 L.A9.x1.eq_1]
        simp -dsimp (disch:=first|omega|(simp only [B0,A1,Yhv]<;>omega)|fail) only [go_sem,reduceIte,reduceCtorEq,E2,E3,E4,E5,E6,E7,E8,E9,F0,F1,F2,F3,F4,F5,F6,F7,F8,F9,G0,B2,BYs,h12,h13,h23,h21,h31,h32,G5,I0,I1,G6,A1,K2,I2,q1,q2,hb]
    · rw [Yeu (by omega),Yin]
      rw [K1 L.A9.x1.eq_1]
      simp -dsimp (disch:=first|omega|(simp only [B0,A1,Yhv]<;>omega)|fail) only [go_sem,reduceIte,reduceCtorEq,E2,E3,E4,E5,E6,E7,E8,E9,F0,F1,F2,F3,F4,F5,F6,F7,F8,F9,G0,B2,BYs,h12,h13,h23,h21,h31,h32,G5,I0,I1,G6,A1,K2,I2]
theorem fm_l0 {s1 s2 s3:Site} {g1 g2 g3:Nat} (h12:s1≠s2) (h13:s1≠s3) (h23:s2≠s3) {p:List UInt8} (hp:p.length≤1048576) {i:Nat} (hi:i+3≤p.length) {ks:List Nat} {vs:List Int} {pr:List Int} (hr:PrevF p i pr):∀ (m:Nat) (q:Int) (b f:Nat),q=(m:Int)-1→m≤i→(∀ j,m=j+1→V5 p j=V5 p i)→b≤258→f≤i →
    X E [.tmp 4,.tmp 5] (.c L.A9.x0::.lp [0,1,8,9,10] L.A9.x0::.blk 0::[.c L.A9.r1]) ⟨[(0,.ref (.up s1) g1 0),(1,.int .i64 i),(8,.int .i64 q),(9,.int .i64 b),(10,.int .i64 f)],[(.up s1,⟨g1,true,true,true,[.lst (A0 p) p.length,.mpr (.up s2) g2,.buf (.up s3) g3 0 p.length 1]⟩),(.up s2,⟨g2,true,true,true,[.mp (H0 .u32 ks) (B7 vs)]⟩),(.up s3,⟨g3,true,true,false,B7 (pr)⟩)]⟩=some (.tup [.int .i64 (Zbr p i m (b,f)).1,.int .i64 (Zbr p i m (b,f)).2],[(.up s1,⟨g1,true,true,true,[.lst (A0 p) p.length,.mpr (.up s2) g2,.buf (.up s3) g3 0 p.length 1]⟩),(.up s2,⟨g2,true,true,true,[.mp (H0 .u32 ks) (B7 vs)]⟩),(.up s3,⟨g3,true,true,false,B7 (pr)⟩)]):=by
  have h21:¬ s2=s1:=fun e=>h12 e.symm;have h31:¬ s3=s1:=fun e=>h13 e.symm;have h32:¬ s3=s2:=fun e=>h23 e.symm
  have hpl:=hr.len
  intro m
  induction m using Nat.strongRecOn with
  | _ m ih =>
  intro q b f hq hm hk hb hf
  have stop:Zbr p i m (b,f)=(b,f)→(∀ j,m=j+1→¬ i-j≤32768∨258≤b)→X E [.tmp 4,.tmp 5] (.c L.A9.x0::.lp [0,1,8,9,10] L.A9.x0::.blk 0::[.c L.A9.r1]) ⟨[(0,.ref (.up s1) g1 0),(1,.int .i64 i),(8,.int .i64 q),(9,.int .i64 b),(10,.int .i64 f)],[(.up s1,⟨g1,true,true,true,[.lst (A0 p) p.length,.mpr (.up s2) g2,.buf (.up s3) g3 0 p.length 1]⟩),(.up s2,⟨g2,true,true,true,[.mp (H0 .u32 ks) (B7 vs)]⟩),(.up s3,⟨g3,true,true,false,B7 (pr)⟩)]⟩=some (.tup [.int .i64 (Zbr p i m (b,f)).1,.int .i64 (Zbr p i m (b,f)).2],[(.up s1,⟨g1,true,true,true,[.lst (A0 p) p.length,.mpr (.up s2) g2,.buf (.up s3) g3 0 p.length 1]⟩),(.up s2,⟨g2,true,true,true,[.mp (H0 .u32 ks) (B7 vs)]⟩),(.up s3,⟨g3,true,true,false,B7 (pr)⟩)]):=by
    intro e hs
    rw [e]
    simp only
    rw [K1 L.A9.x0.eq_1]
    by_cases h0:q<0
    · simp -dsimp (disch:=first|omega|(simp only [B0,A1,Yhv]<;>omega)|fail) only [go_sem,reduceIte,reduceCtorEq,E2,E3,E4,E5,E6,E7,E8,E9,F0,F1,F2,F3,F4,F5,F6,F7,F8,F9,G0,B2,BYs,h12,h13,h23,h21,h31,h32,G5,I0,I1,G6,A1,K2,I2,L.A9.r1]
    · obtain ⟨j,rfl⟩:∃ j,m=j+1:=⟨m-1,by omega⟩
      obtain rfl:q=(j:Int):=by omega
      by_cases hw:i-j≤32768
      · have h8:=(hs j rfl).resolve_left (fun h=>h hw)
        simp -dsimp (disch:=first|omega|(simp only [B0,A1,Yhv]<;>omega)|fail) only [go_sem,reduceIte,reduceCtorEq,E2,E3,E4,E5,E6,E7,E8,E9,F0,F1,F2,F3,F4,F5,F6,F7,F8,F9,G0,B2,BYs,h12,h13,h23,h21,h31,h32,G5,I0,I1,G6,A1,K2,I2,L.A9.r1]
      · simp -dsimp (disch:=first|omega|(simp only [B0,A1,Yhv]<;>omega)|fail) only [go_sem,reduceIte,reduceCtorEq,E2,E3,E4,E5,E6,E7,E8,E9,F0,F1,F2,F3,F4,F5,F6,F7,F8,F9,G0,B2,BYs,h12,h13,h23,h21,h31,h32,G5,I0,I1,G6,A1,K2,I2,L.A9.r1]
  cases m with
  | zero=>exact stop rfl (fun j h=>by omega)
  | succ j =>
    obtain rfl:q=(j:Int):=by omega
    have hkj:=hk j rfl
    by_cases hw:i-j≤32768
    · by_cases h8:258≤b
      · refine stop ?_ (fun j' h=>.inr h8)
        exact Zmo (by omega) fun j' _=>by have:=Zsw (p:=p) (i:=i) (j:=j');simp only;omega
      · have hs:=Zw2 (p:=p) (i:=i) (j:=j) (by omega) hi hkj
        have l1:=fm_l1 (g1:=g1) (g2:=g2) (g3:=g3) h12 h13 h23 hp (i:=i) (j:=j) (by omega) (by omega) b f (.c L.A9.r0::.blk 1::(.c L.A9.x0::.lp [0,1,8,9,10] L.A9.x0::.blk 0::[.c L.A9.r1]).tail) (ks:=ks) (vs:=vs) hpl 255 3 (by omega)
        rw [←hs] at l1
        simp only [List.tail_cons,Yhz] at l1
        have hs8:=Zsw (p:=p) (i:=i) (j:=j)
        have hse:=Zk3 (p:=p) (i:=i) (j:=j)
        generalize hS:Zbm p i j=n at *
        have hst:X E [.tmp 4,.tmp 5] (.c L.A9.x0::.lp [0,1,8,9,10] L.A9.x0::.blk 0::[.c L.A9.r1]) ⟨[(0,.ref (.up s1) g1 0),(1,.int .i64 i),(8,.int .i64 j),(9,.int .i64 b),(10,.int .i64 f)],[(.up s1,⟨g1,true,true,true,[.lst (A0 p) p.length,.mpr (.up s2) g2,.buf (.up s3) g3 0 p.length 1]⟩),(.up s2,⟨g2,true,true,true,[.mp (H0 .u32 ks) (B7 vs)]⟩),(.up s3,⟨g3,true,true,false,B7 (pr)⟩)]⟩=X E [.tmp 4,.tmp 5] (.c L.A9.r0::.blk 1::.lp [0,1,8,9,10] L.A9.x0::.blk 0::[.c L.A9.r1]) ⟨[(0,.ref (.up s1) g1 0),(1,.int .i64 i),(8,.int .i64 j),(9,.int .i64 b),(10,.int .i64 f),(11,.int .i64 n),(76,.bool false)],[(.up s1,⟨g1,true,true,true,[.lst (A0 p) p.length,.mpr (.up s2) g2,.buf (.up s3) g3 0 p.length 1]⟩),(.up s2,⟨g2,true,true,true,[.mp (H0 .u32 ks) (B7 vs)]⟩),(.up s3,⟨g3,true,true,false,B7 (pr)⟩)]⟩:=by
          rw [←l1]
          conv=>lhs;rw [K1 L.A9.x0.eq_1]
          simp -dsimp (disch:=first|omega|(simp only [B0,A1,Yhv]<;>omega)|fail) only [go_sem,reduceIte,reduceCtorEq,E2,E3,E4,E5,E6,E7,E8,E9,F0,F1,F2,F3,F4,F5,F6,F7,F8,F9,G0,B2,BYs,h12,h13,h23,h21,h31,h32,G5,I0,I1,G6,A1,K2,I2]
        rw [hst]
        have hb2:∃ b2 f2,(if 3≤n∧b<n then (n,i-j) else (b,f))=(b2,f2)∧b2≤258∧f2≤i∧n≤b2∧((b<n∧b2=n∧f2=i-j)∨(¬ b<n∧b2=b∧f2=f)):=by
          by_cases hc:b<n
          · exact ⟨n,i-j,if_pos ⟨by omega,hc⟩,by omega,by omega,by omega,.inl ⟨hc,rfl,rfl⟩⟩
          · exact ⟨b,f,if_neg (fun h=>hc h.2),by omega,by omega,by omega,.inr ⟨hc,rfl,rfl⟩⟩
        obtain ⟨b2,f2,e2,h28,h2f,h2n,hcs⟩:=hb2
        have hsp:Zbr p i (j+1) (b,f)=Zbr p i j (b2,f2):=by
          rw [Zbr,if_pos hw,hS]
          simp only
          rw [e2]
        rw [hsp]
        by_cases hend:i+n=p.length
        · have hd:Zbr p i j (b2,f2)=(b2,f2):=Zmo (by omega) fun j' _=>by
            have:=Zk3 (p:=p) (i:=i) (j:=j')
            simp only;omega
          rw [hd]
          simp only
          rcases hcs with ⟨hc,rfl,rfl⟩|⟨hc,rfl,rfl⟩
          · have q1:(i:Int)-j=((i-j:Nat):Int):=by omega
            simp -dsimp (disch:=first|omega|(simp only [B0,A1,Yhv]<;>omega)|fail) only [L.A9.r0,L.A9.r1,go_sem,reduceIte,reduceCtorEq,E2,E3,E4,E5,E6,E7,E8,E9,F0,F1,F2,F3,F4,F5,F6,F7,F8,F9,G0,B2,BYs,h12,h13,h23,h21,h31,h32,G5,I0,I1,G6,A1,K2,I2,q1]
          · simp -dsimp (disch:=first|omega|(simp only [B0,A1,Yhv]<;>omega)|fail) only [L.A9.r0,L.A9.r1,go_sem,reduceIte,reduceCtorEq,E2,E3,E4,E5,E6,E7,E8,E9,F0,F1,F2,F3,F4,F5,F6,F7,F8,F9,G0,B2,BYs,h12,h13,h23,h21,h31,h32,G5,I0,I1,G6,A1,K2,I2]
        · have hat:=hr.at_ j (by omega) (by omega)
          have hnx:∃ m2:Nat,ahead p j=(m2:Int)-1∧m2≤j∧(∀ j2,m2=j2+1→V5 p j2=V5 p i)∧Zbr p i j (b2,f2)=Zbr p i m2 (b2,f2):=by
            unfold ahead
            cases hl:Zay p j (V5 p j) with
            | none =>
              refine ⟨0,rfl,by omega,fun j2 h=>by omega,Zck j 0 _ (by omega) (by omega) fun j' _ h2=>?_⟩
              have:=Zho (p:=p) (i:=i) (j:=j') (by omega) hi (by rw [←hkj];exact Zk2 hl j' h2 (by omega))
              omega
            | some j2 =>
              obtain ⟨a1,a2,a3,a4⟩:=Zk1 hl
              refine ⟨j2+1,by simp only;omega,by omega,fun j3 h=>?_,Zck j (j2+1) _ (by omega) (by omega) fun j' h1 h2=>?_⟩
              · obtain rfl:j2=j3:=by omega
                rw [a3,hkj]
              · have:=Zho (p:=p) (i:=i) (j:=j') (by omega) hi (by rw [←hkj];exact a4 j' (by omega) h2 (by omega))
                omega
          obtain ⟨m2,hm2,hm2j,hk2,he⟩:=hnx
          rw [he]
          have g:=ih m2 (by omega) (ahead p j) b2 f2 hm2 (by omega) hk2 h28 h2f
          rw [hm2] at hat
          rw [hm2] at g
          rw [←g]
          rcases hcs with ⟨hc,rfl,rfl⟩|⟨hc,rfl,rfl⟩
          · have q1:(i:Int)-j=((i-j:Nat):Int):=by omega
            simp -dsimp (disch:=first|omega|(simp only [B0,A1,Yhv]<;>omega)|fail) only [L.A9.r0,go_sem,reduceIte,reduceCtorEq,E2,E3,E4,E5,E6,E7,E8,E9,F0,F1,F2,F3,F4,F5,F6,F7,F8,F9,G0,B2,BYs,h12,h13,h23,h21,h31,h32,G5,I0,I1,G6,A1,K2,I2,q1,hat]
          · simp -dsimp (disch:=first|omega|(simp only [B0,A1,Yhv]<;>omega)|fail) only [L.A9.r0,go_sem,reduceIte,reduceCtorEq,E2,E3,E4,E5,E6,E7,E8,E9,F0,F1,F2,F3,F4,F5,F6,F7,F8,F9,G0,B2,BYs,h12,h13,h23,h21,h31,h32,G5,I0,I1,G6,A1,K2,I2,hat]
    · exact stop (by rw [Zbr,if_neg hw]) (fun j' h=>.inl (by rw [show j'=j by omega];exact hw))
theorem Yai {p:List UInt8} {i:Nat} (h:p.length<i+3):Zax p i=(0,0):=by
  unfold Zax
  rw [Zck i 0 (0,0) (by omega) (Yfj _) fun j _ _=>by have:=Zk3 (p:=p) (i:=i) (j:=j);omega]
  rfl
theorem Zif {s1 s2 s3:Site} {g1 g2 g3:Nat} (h12:s1≠s2) (h13:s1≠s3) (h23:s2≠s3) {p:List UInt8} (hp:p.length≤1048576) {i:Nat} (hi:i≤p.length) {ks:List Nat} {vs:List Int} {pr:List Int} (hm:MapF p i ks vs) (hr:PrevF p i pr):S E F.A9 [.ref (.up s1) g1 0,.int .i64 i] ([(.up s1,⟨g1,true,true,true,[.lst (A0 p) p.length,.mpr (.up s2) g2,.buf (.up s3) g3 0 p.length 1]⟩),(.up s2,⟨g2,true,true,true,[.mp (H0 .u32 ks) (B7 vs)]⟩),(.up s3,⟨g3,true,true,false,B7 (pr)⟩)])=some (.tup [.int .i64 (Zax p i).1,.int .i64 (Zax p i).2],[(.up s1,⟨g1,true,true,true,[.lst (A0 p) p.length,.mpr (.up s2) g2,.buf (.up s3) g3 0 p.length 1]⟩),(.up s2,⟨g2,true,true,true,[.mp (H0 .u32 ks) (B7 vs)]⟩),(.up s3,⟨g3,true,true,false,B7 (pr)⟩)]):=by
  have h21:¬ s2=s1:=fun e=>h12 e.symm;have h31:¬ s3=s1:=fun e=>h13 e.symm;have h32:¬ s3=s2:=fun e=>h23 e.symm
  have hpl:=hr.len
  have c:=Zy4 (s1:=.up s1) (s2:=.up s2) (s3:=.up s3) (g1:=g1) (g2:=g2) (g3:=g3) (by simpa using h12) (by simpa using h13) (by simpa using h23) hp hi ks vs pr hpl
  unfold keyV at c
  by_cases h:i+3≤p.length
  · rw [if_pos h] at c
    have hk:=Zk4 .u32 (V5 p i) ks 0
    cases hl:Zay p i (V5 p i) with
    | none =>
      have hin:=hm.no _ hl
      rw [if_neg hin] at hk
      have e:Zax p i=(0,0):=by
        unfold Zax
        rw [Zck i 0 (0,0) (by omega) (Yfj _) fun j _ h2=>by
          have:=Zho (p:=p) (i:=i) (j:=j) h2 h (Zk2 hl j h2 (by omega));omega]
        rfl
      rw [e,L4 Zd9 rfl rfl]
      simp -dsimp (disch:=first|omega|(simp only [B0,A1,Yhv]<;>omega)|fail) only [L.A9,go_sem,reduceIte,reduceCtorEq,E2,E3,E4,E5,E6,E7,E8,E9,F0,F1,F2,F3,F4,F5,F6,F7,F8,F9,G0,B2,BYs,h12,h13,h23,h21,h31,h32,G5,I0,I1,G6,A1,K2,I2,refsOfs,c,hk,Zpq,Zim,Yhz]
    | some j =>
      obtain ⟨hin,hj⟩:=hm.yes _ _ hl
      rw [if_pos hin] at hk
      obtain ⟨a1,a2,a3,a4⟩:=Zk1 hl
      have e:Zax p i=Zbr p i (j+1) (0,0):=by
        unfold Zax
        exact Zck i (j+1) (0,0) (by omega) (Yfj _) fun j' h1 h2=>by
          have:=Zho (p:=p) (i:=i) (j:=j') h2 h (a4 j' (by omega) h2 (by omega));omega
      have e1:=i6_at hj
      have g:=fm_l0 (g1:=g1) (g2:=g2) (g3:=g3) h12 h13 h23 hp h (ks:=ks) (vs:=vs) hr (j+1) (j:Int) 0 0 (by omega) (by omega) (fun j' hj'=>by rw [show j'=j by omega];exact a3) (by omega) (by omega)
      simp only [Yhz] at g
      rw [e,L4 Zd9 rfl rfl]
      simp -dsimp (disch:=first|omega|(simp only [B0,A1,Yhv]<;>omega)|fail) only [L.A9,go_sem,reduceIte,reduceCtorEq,E2,E3,E4,E5,E6,E7,E8,E9,F0,F1,F2,F3,F4,F5,F6,F7,F8,F9,G0,B2,BYs,h12,h13,h23,h21,h31,h32,G5,I0,I1,G6,A1,K2,I2,refsOfs,c,hk,Zpq,e1,Option.map_some,Ygc,g]
  · rw [if_neg h] at c
    rw [Yai (by omega),L4 Zd9 rfl rfl]
    simp -dsimp (disch:=first|omega|(simp only [B0,A1,Yhv]<;>omega)|fail) only [L.A9,go_sem,reduceIte,reduceCtorEq,E2,E3,E4,E5,E6,E7,E8,E9,F0,F1,F2,F3,F4,F5,F6,F7,F8,F9,G0,B2,BYs,h12,h13,h23,h21,h31,h32,G5,I0,I1,G6,A1,K2,I2,refsOfs,c,Yhz]
end Cod
namespace Cod
open Go
theorem Yaj {p q:List UInt8} (hp:p.length≤1048576) (h c:Nat) (k:List It) (n:Nat) (hn:n≤258):∀ (m i t:Nat) (ks:List Nat) (vs pr:List Int),t+m=n→i+m≤p.length→MapF p i ks vs→PrevF p i pr →
    ∃ ks' vs' pr',MapF p (i+m) ks' vs'∧PrevF p (i+m) pr'∧X E [.tmp 2] (.c L.A3.x1::.lp [0,3,4,5,47,48] L.A3.x1::.blk 2::k) ⟨[(0,.lst (A0 p) p.length),(3,.ref (.s 1000000 0) 0 0),(4,.ref (.s 1000000 1) 0 0),(5,.int .i64 i),(47,.int .i64 n),(48,.int .i64 t)],[(.s 1000000 0,⟨0,true,true,true,[.buf (.s 1000000 2) 0 0 (q).length 1,.int .u32 h,.int .i64 c]⟩),(.s 1000000 1,⟨0,true,true,true,[.lst (A0 p) p.length,.mpr (.s 1000000 3) 0,.buf (.s 1000000 4) 0 0 p.length 1]⟩),(.s 1000000 2,⟨0,true,true,false,A0 (q)⟩),(.s 1000000 3,⟨0,true,true,true,[.mp (H0 .u32 ks) (B7 vs)]⟩),(.s 1000000 4,⟨0,true,true,false,B7 (pr)⟩)]⟩=X E [.tmp 2] k ⟨[(0,.lst (A0 p) p.length),(3,.ref (.s 1000000 0) 0 0),(4,.ref (.s 1000000 1) 0 0),(5,.int .i64 ((i+m:Nat):Int)),(47,.int .i64 n),(48,.int .i64 n),(49,.bool false)],[(.s 1000000 0,⟨0,true,true,true,[.buf (.s 1000000 2) 0 0 (q).length 1,.int .u32 h,.int .i64 c]⟩),(.s 1000000 1,⟨0,true,true,true,[.lst (A0 p) p.length,.mpr (.s 1000000 3) 0,.buf (.s 1000000 4) 0 0 p.length 1]⟩),(.s 1000000 2,⟨0,true,true,false,A0 (q)⟩),(.s 1000000 3,⟨0,true,true,true,[.mp (H0 .u32 ks') (B7 vs')]⟩),(.s 1000000 4,⟨0,true,true,false,B7 (pr')⟩)]⟩:=by
  intro m
  induction m with
  | zero =>
    intro i t ks vs pr ht hi hm hr
    obtain rfl:t=n:=by omega
    have hpl:=hr.len
    refine ⟨ks,vs,pr,hm,hr,?_⟩
    rw [K1 L.A3.x1.eq_1]
    simp -dsimp (disch:=first|omega|(simp only [B0,A1,Yhv]<;>omega)|fail) only [go_sem,reduceIte,reduceCtorEq,E2,E3,E4,E5,E6,E7,E8,E9,F0,F1,F2,F3,F4,F5,F6,F7,F8,F9,G0,B2,BYs,G5,I0,I1,G6,A1,K2,I2,Yin]
  | succ m ih =>
    intro i t ks vs pr ht hi hm hr
    have hpl:=hr.len
    obtain ⟨ks1,vs1,pr1,b1,b2,c1⟩:=Yah (s1:=.s 1000000 1) (s2:=.s 1000000 3) (s3:=.s 1000000 4) (g1:=0) (g2:=0) (g3:=0) (by simp) (by simp) (by simp) hp (by omega:i<p.length) hm hr
    have hpl1:=b2.len
    obtain ⟨ks2,vs2,pr2,d1,d2,d3⟩:=ih (i+1) (t+1) ks1 vs1 pr1 (by omega) (by omega) b1 b2
    rw [show i+1+m=i+(m+1) by omega] at d1 d2 d3
    refine ⟨ks2,vs2,pr2,d1,d2,?_⟩
    rw [←d3]
    simp only [Yhy,Yhz]
    conv=>lhs;rw [K1 L.A3.x1.eq_1]
    simp -dsimp (disch:=first|omega|(simp only [B0,A1,Yhv]<;>omega)|fail) only [go_sem,reduceIte,reduceCtorEq,E2,E3,E4,E5,E6,E7,E8,E9,F0,F1,F2,F3,F4,F5,F6,F7,F8,F9,G0,B2,BYs,G5,I0,I1,G6,A1,K2,I2,refsOfs,c1]
theorem Yak {q:List UInt8} {h c V N:Nat} (hw:WrI q h c (V,N)) (hc:c<8) (h8:N%8=0):q=Zic (V,N):=by
  obtain ⟨h1,h2,h3⟩:=hw
  simp only at h1 h2
  obtain rfl:c=0:=by omega
  obtain rfl:h=0:=by simpa using h3
  refine Yeq ?_ ?_
  · unfold Zic;rw [Zk0];simp only;omega
  · unfold Zic
    rw [Yer,Yie]
    · simpa using h2
    · have:=leN_lt q
      rw [show (N+7)/8=q.length by omega]
      simp only
      omega
theorem Zs6 {V N:Nat} (k:Nat) (hk:N+k=8*((N+7)/8)):Zic (Zc0 (V,N) 0 k)=Zic (V,N):=by
  unfold Zic Zc0
  simp only [Nat.zero_mul,Yin]
  congr 1
  omega
theorem Yal {p q:List UInt8} {h c i:Nat} {st:Bst} {ks:List Nat} {vs pr:List Int} (hp:p.length≤1048576) (hw:WrI q h c st) (hc:c<8) (hN:st.2+30≤1000000000) (hi:p.length≤i) (hi2:i≤2000000) (hpl:pr.length=p.length):X E [.tmp 2] (.c L.A3.x0::.lp [0,3,4,5] L.A3.x0::.blk 0::[.c L.A3.r0]) ⟨[(0,.lst (A0 p) p.length),(3,.ref (.s 1000000 0) 0 0),(4,.ref (.s 1000000 1) 0 0),(5,.int .i64 i)],[(.s 1000000 0,⟨0,true,true,true,[.buf (.s 1000000 2) 0 0 (q).length 1,.int .u32 h,.int .i64 c]⟩),(.s 1000000 1,⟨0,true,true,true,[.lst (A0 p) p.length,.mpr (.s 1000000 3) 0,.buf (.s 1000000 4) 0 0 p.length 1]⟩),(.s 1000000 2,⟨0,true,true,false,A0 (q)⟩),(.s 1000000 3,⟨0,true,true,true,[.mp (H0 .u32 ks) (B7 vs)]⟩),(.s 1000000 4,⟨0,true,true,false,B7 (pr)⟩)]⟩=some (Zk6 (Zic (O7 st [P4 256]))):=by
  have hs:=Zde 256
  obtain ⟨p1,h1,k1,z1,u1,b1,b2,m1,c1⟩:=Zej (s:=256) (by omega) (s1:=.s 1000000 0) (y:=.s 1000000 2) (g1:=0) (g2:=0) (by simp) hw hc (by simp only [T4];omega)
  have hN2:(O7 st [P4 256]).2=st.2+(P4 256).2:=by rw [Zfd];simp [T4]
  have hl1:=b1.len
  have hq:(8:Int)-(k1:Nat)=((8-k1:Nat):Int):=by omega
  have hq2:((8-k1:Nat):Int)%8=(((8-k1)%8:Nat):Int):=by omega
  have fin:∀ (y2:Site),Site.s 1000000 0≠y2→∃ p' h' c' z g',p'=Zic (O7 st [P4 256])∧Zk5 y2 z 0 g'∧S E F.B4 (.ref (.up (.s 1000000 0)) 0 0::[.int .i64 0,.int .i64 ((8-k1)%8:Nat)]) [(.up (.s 1000000 0),⟨0,true,true,true,[.buf (.up y2) 0 0 p1.length 1,.int .u32 (h1:Nat),.int .i64 (k1:Nat)]⟩),(.up y2,⟨0,true,true,false,A0 p1⟩)]=some (.tup [],[(.up (.s 1000000 0),⟨0,true,true,true,[.buf z g' 0 p'.length 1,.int .u32 (h':Nat),.int .i64 (c':Nat)]⟩),(z,⟨g',true,true,false,A0 p'⟩)]):=by
    intro y2 hy
    obtain ⟨p',h',c',z,g',a1,a2,a3,a4⟩:=Zaz (v:=0) (n:=(8-k1)%8) (Nat.pow_pos (by omega)) (by omega) (s1:=.s 1000000 0) (y:=y2) (g1:=0) (g2:=0) hy b1 b2 (by rw [hN2];simp only [T4];omega)
    refine ⟨p',h',c',z,g',?_,a3,a4⟩
    have hpad:=Zs6 (V:=(O7 st [P4 256]).1) (N:=(O7 st [P4 256]).2) ((8-k1)%8) (by omega)
    rw [←hpad]
    exact Yak (V:=(Zc0 (O7 st [P4 256]) 0 ((8-k1)%8)).1) (N:=(Zc0 (O7 st [P4 256]) 0 ((8-k1)%8)).2) a1 a2 (by simp only [Zc0];omega)
  simp only [Yhz] at c1
  unfold Zk6
  rcases m1 with ⟨rfl,rfl⟩|⟨rfl,rfl⟩
  · obtain ⟨p2,h2,k2,z2,u2,e2,m2,c2⟩:=fin (.s 1000000 2) (by simp)
    rw [←e2,K1 L.A3.x0.eq_1]
    rcases m2 with ⟨rfl,rfl⟩|⟨rfl,rfl⟩
    · simp -dsimp (disch:=first|omega|(simp only [B0,A1,Yhv]<;>omega)|fail) only [go_sem,reduceIte,reduceCtorEq,E2,E3,E4,E5,E6,E7,E8,E9,F0,F1,F2,F3,F4,F5,F6,F7,F8,F9,G0,B2,BYs,G5,I0,I1,G6,A1,K2,I2,L.A3.r0,refsOfs,hq,hq2,c1,c2]
    · simp -dsimp (disch:=first|omega|(simp only [B0,A1,Yhv]<;>omega)|fail) only [go_sem,reduceIte,reduceCtorEq,E2,E3,E4,E5,E6,E7,E8,E9,F0,F1,F2,F3,F4,F5,F6,F7,F8,F9,G0,B2,BYs,G5,I0,I1,G6,A1,K2,I2,L.A3.r0,refsOfs,hq,hq2,c1,c2]
  · obtain ⟨p2,h2,k2,z2,u2,e2,m2,c2⟩:=fin (.s 57 1) (by simp)
    rw [←e2,K1 L.A3.x0.eq_1]
    rcases m2 with ⟨rfl,rfl⟩|⟨rfl,rfl⟩
    · simp -dsimp (disch:=first|omega|(simp only [B0,A1,Yhv]<;>omega)|fail) only [go_sem,reduceIte,reduceCtorEq,E2,E3,E4,E5,E6,E7,E8,E9,F0,F1,F2,F3,F4,F5,F6,F7,F8,F9,G0,B2,BYs,G5,I0,I1,G6,A1,K2,I2,L.A3.r0,refsOfs,hq,hq2,c1,c2]
    · simp -dsimp (disch:=first|omega|(simp only [B0,A1,Yhv]<;>omega)|fail) only [go_sem,reduceIte,reduceCtorEq,E2,E3,E4,E5,E6,E7,E8,E9,F0,F1,F2,F3,F4,F5,F6,F7,F8,F9,G0,B2,BYs,G5,I0,I1,G6,A1,K2,I2,L.A3.r0,refsOfs,hq,hq2,c1,c2]
end Cod
namespace Cod
open Go
theorem fx_lit {p q:List UInt8} {h c i:Nat} {st:Bst} {ks:List Nat} {vs pr:List Int} (hp:p.length≤1048576) (hw:WrI q h c st) (hc:c<8) (hN:st.2+30≤1000000000) (hi:i<p.length) (hm:MapF p i ks vs) (hr:PrevF p i pr) (hz:(Zax p i).1=0) :
    ∃ q' h' c' ks' vs' pr',WrI q' h' c' (O7 st [P4 p[i].toNat])∧c' < 8∧MapF p (i+1) ks' vs'∧PrevF p (i+1) pr'∧X E [.tmp 2] (.c L.A3.x0::.lp [0,3,4,5] L.A3.x0::.blk 0::[.c L.A3.r0]) ⟨[(0,.lst (A0 p) p.length),(3,.ref (.s 1000000 0) 0 0),(4,.ref (.s 1000000 1) 0 0),(5,.int .i64 i)],[(.s 1000000 0,⟨0,true,true,true,[.buf (.s 1000000 2) 0 0 (q).length 1,.int .u32 h,.int .i64 c]⟩),(.s 1000000 1,⟨0,true,true,true,[.lst (A0 p) p.length,.mpr (.s 1000000 3) 0,.buf (.s 1000000 4) 0 0 p.length 1]⟩),(.s 1000000 2,⟨0,true,true,false,A0 (q)⟩),(.s 1000000 3,⟨0,true,true,true,[.mp (H0 .u32 ks) (B7 vs)]⟩),(.s 1000000 4,⟨0,true,true,false,B7 (pr)⟩)]⟩=X E [.tmp 2] (.c L.A3.x0::.lp [0,3,4,5] L.A3.x0::.blk 0::[.c L.A3.r0]) ⟨[(0,.lst (A0 p) p.length),(3,.ref (.s 1000000 0) 0 0),(4,.ref (.s 1000000 1) 0 0),(5,.int .i64 ((i:Int)+1))],[(.s 1000000 0,⟨0,true,true,true,[.buf (.s 1000000 2) 0 0 (q').length 1,.int .u32 (h':Nat),.int .i64 (c':Nat)]⟩),(.s 1000000 1,⟨0,true,true,true,[.lst (A0 p) p.length,.mpr (.s 1000000 3) 0,.buf (.s 1000000 4) 0 0 p.length 1]⟩),(.s 1000000 2,⟨0,true,true,false,A0 (q')⟩),(.s 1000000 3,⟨0,true,true,true,[.mp (H0 .u32 ks') (B7 vs')]⟩),(.s 1000000 4,⟨0,true,true,false,B7 (pr')⟩)]⟩:=by
  have hs:=Zde p[i].toNat
  have hb:=p[i].toNat_lt
  have hpl:=hr.len
  have e:bat p i=p[i].toNat:=by simp [bat,hi]
  have cm:=Zif (s1:=.s 1000000 1) (s2:=.s 1000000 3) (s3:=.s 1000000 4) (g1:=0) (g2:=0) (g3:=0) (by simp) (by simp) (by simp) hp (by omega:i≤p.length) hm hr
  rw [hz] at cm
  simp only [Yhz] at cm
  obtain ⟨p1,h1,k1,z1,u1,b1,b2,m1,c1⟩:=Zej (s:=p[i].toNat) (by omega) (s1:=.s 1000000 0) (y:=.s 1000000 2) (g1:=0) (g2:=0) (by simp) hw hc (by simp only [T4];omega)
  obtain ⟨ks',vs',pr',d1,d2,d3⟩:=Yaj (q:=p1) hp h1 k1 (.blk 1::.lp [0,3,4,5] L.A3.x0::.blk 0::[.c L.A3.r0]) 1 (by omega) 1 i 0 ks vs pr (by omega) (by omega) hm hr
  have hpl2:=d2.len
  refine ⟨p1,h1,k1,ks',vs',pr',b1,b2,d1,d2,?_⟩
  simp only [Yhy,Yhz] at d3
  conv=>lhs;rw [K1 L.A3.x0.eq_1]
  rcases m1 with ⟨rfl,rfl⟩|⟨rfl,rfl⟩
  · simp -dsimp (disch:=first|omega|(simp only [B0,A1,Yhv]<;>omega)|fail) only [go_sem,reduceIte,reduceCtorEq,E2,E3,E4,E5,E6,E7,E8,E9,F0,F1,F2,F3,F4,F5,F6,F7,F8,F9,G0,B2,BYs,G5,I0,I1,G6,A1,K2,I2,refsOfs,cm,e,c1,d3]
  · simp -dsimp (disch:=first|omega|(simp only [B0,A1,Yhv]<;>omega)|fail) only [go_sem,reduceIte,reduceCtorEq,E2,E3,E4,E5,E6,E7,E8,E9,F0,F1,F2,F3,F4,F5,F6,F7,F8,F9,G0,B2,BYs,G5,I0,I1,G6,A1,K2,I2,refsOfs,cm,e,c1,d3]
theorem Yam {p:List UInt8} {h:Nat} {st:Bst} {ks:List Nat} {vs pr:List Int} (hp:p.length≤1048576) (hw:WrI [] h 3 st) (hi:0<p.length) (hm:MapF p 0 ks vs) (hr:PrevF p 0 pr) :
    ∃ q' h' c' ks' vs' pr',WrI q' h' c' (O7 st [P4 p[0].toNat])∧c' < 8∧MapF p 1 ks' vs'∧PrevF p 1 pr'∧X E [.tmp 2] (.c L.A3.x0::.lp [0,3,4,5] L.A3.x0::.blk 0::[.c L.A3.r0]) ⟨[(0,.lst (A0 p) p.length),(3,.ref (.s 1000000 0) 0 0),(4,.ref (.s 1000000 1) 0 0),(5,.int .i64 0)],[(.s 1000000 0,⟨0,true,true,true,[.nils,.int .u32 h,.int .i64 3]⟩),(.s 1000000 1,⟨0,true,true,true,[.lst (A0 p) p.length,.mpr (.s 1000000 2) 0,.buf (.s 1000000 3) 0 0 p.length 1]⟩),(.s 1000000 2,⟨0,true,true,true,[.mp (H0 .u32 ks) (B7 vs)]⟩),(.s 1000000 3,⟨0,true,true,false,B7 (pr)⟩)]⟩=X E [.tmp 2] (.c L.A3.x0::.lp [0,3,4,5] L.A3.x0::.blk 0::[.c L.A3.r0]) ⟨[(0,.lst (A0 p) p.length),(3,.ref (.s 1000000 0) 0 0),(4,.ref (.s 1000000 1) 0 0),(5,.int .i64 1)],[(.s 1000000 0,⟨0,true,true,true,[.buf (.s 1000000 2) 0 0 (q').length 1,.int .u32 (h':Nat),.int .i64 (c':Nat)]⟩),(.s 1000000 1,⟨0,true,true,true,[.lst (A0 p) p.length,.mpr (.s 1000000 3) 0,.buf (.s 1000000 4) 0 0 p.length 1]⟩),(.s 1000000 2,⟨0,true,true,false,A0 (q')⟩),(.s 1000000 3,⟨0,true,true,true,[.mp (H0 .u32 ks') (B7 vs')]⟩),(.s 1000000 4,⟨0,true,true,false,B7 (pr')⟩)]⟩:=by
  have hb:=p[0].toNat_lt
  have hpl:=hr.len
  have e:bat p 0=p[0].toNat:=by simp [bat,hi]
  have cm:=Zif (s1:=.s 1000000 1) (s2:=.s 1000000 2) (s3:=.s 1000000 3) (g1:=0) (g2:=0) (g3:=0) (by simp) (by simp) (by simp) hp (by omega:0≤p.length) hm hr
  rw [show Zax p 0=(0,0) from rfl] at cm
  simp only [Yhz] at cm
  obtain ⟨p1,h1,k1,b1,b2,c1⟩:=Zhq (s:=p[0].toNat) (by omega) (s1:=.s 1000000 0) (g1:=0) hw
  obtain ⟨ks',vs',pr',d1,d2,d3⟩:=Yaj (q:=p1) hp h1 k1 (.blk 1::.lp [0,3,4,5] L.A3.x0::.blk 0::[.c L.A3.r0]) 1 (by omega) 1 0 0 ks vs pr (by omega) (by omega) hm hr
  have hpl2:=d2.len
  refine ⟨p1,h1,k1,ks',vs',pr',b1,b2,d1,d2,?_⟩
  simp only [Yhy,Yhz,Ygc,Int.zero_add] at d3
  conv=>lhs;rw [K1 L.A3.x0.eq_1]
  simp -dsimp (disch:=first|omega|(simp only [B0,A1,Yhv]<;>omega)|fail) only [go_sem,reduceIte,reduceCtorEq,E2,E3,E4,E5,E6,E7,E8,E9,F0,F1,F2,F3,F4,F5,F6,F7,F8,F9,G0,B2,BYs,G5,I0,I1,G6,A1,K2,I2,refsOfs,cm,e,c1,d3]
theorem fx_mat {p q:List UInt8} {h c i n far:Nat} {st:Bst} {ks:List Nat} {vs pr:List Int} (hp:p.length≤1048576) (hw:WrI q h c st) (hc:c<8) (hN:st.2+60≤1000000000) (hi:i<p.length) (hm:MapF p i ks vs) (hr:PrevF p i pr) (hmt:Zax p i=(n,far)) (ho:Zsu p i n far) :
    ∃ q' h' c' ks' vs' pr',WrI q' h' c' (O7 st (Zlk n far))∧c' < 8∧MapF p (i+n) ks' vs'∧PrevF p (i+n) pr'∧X E [.tmp 2] (.c L.A3.x0::.lp [0,3,4,5] L.A3.x0::.blk 0::[.c L.A3.r0]) ⟨[(0,.lst (A0 p) p.length),(3,.ref (.s 1000000 0) 0 0),(4,.ref (.s 1000000 1) 0 0),(5,.int .i64 i)],[(.s 1000000 0,⟨0,true,true,true,[.buf (.s 1000000 2) 0 0 (q).length 1,.int .u32 h,.int .i64 c]⟩),(.s 1000000 1,⟨0,true,true,true,[.lst (A0 p) p.length,.mpr (.s 1000000 3) 0,.buf (.s 1000000 4) 0 0 p.length 1]⟩),(.s 1000000 2,⟨0,true,true,false,A0 (q)⟩),(.s 1000000 3,⟨0,true,true,true,[.mp (H0 .u32 ks) (B7 vs)]⟩),(.s 1000000 4,⟨0,true,true,false,B7 (pr)⟩)]⟩=X E [.tmp 2] (.c L.A3.x0::.lp [0,3,4,5] L.A3.x0::.blk 0::[.c L.A3.r0]) ⟨[(0,.lst (A0 p) p.length),(3,.ref (.s 1000000 0) 0 0),(4,.ref (.s 1000000 1) 0 0),(5,.int .i64 ((i:Int)+n))],[(.s 1000000 0,⟨0,true,true,true,[.buf (.s 1000000 2) 0 0 (q').length 1,.int .u32 (h':Nat),.int .i64 (c':Nat)]⟩),(.s 1000000 1,⟨0,true,true,true,[.lst (A0 p) p.length,.mpr (.s 1000000 3) 0,.buf (.s 1000000 4) 0 0 p.length 1]⟩),(.s 1000000 2,⟨0,true,true,false,A0 (q')⟩),(.s 1000000 3,⟨0,true,true,true,[.mp (H0 .u32 ks') (B7 vs')]⟩),(.s 1000000 4,⟨0,true,true,false,B7 (pr')⟩)]⟩:=by
  have hlm:=Zk7 ho
  obtain ⟨o1,o2,o3,o4,o5,o6,_⟩:=id ho
  have hpl:=hr.len
  have cm:=Zif (s1:=.s 1000000 1) (s2:=.s 1000000 3) (s3:=.s 1000000 4) (g1:=0) (g2:=0) (g3:=0) (by simp) (by simp) (by simp) hp (by omega:i≤p.length) hm hr
  rw [hmt] at cm
  simp only at cm
  have hsp:Zlk n far=[P4 (Zag n),(lmV n,Y3 n)]++[(Zdq 5 (Zct far),5),(Zfa far,U8 far)]:=rfl
  have hle:T4 (Zlk n far)=T4 [P4 (Zag n),(lmV n,Y3 n)]+T4 [(Zdq 5 (Zct far),5),(Zfa far,U8 far)]:=by rw [hsp,Zfe]
  obtain ⟨p1,h1,k1,z1,u1,b1,b2,m1,c1⟩:=Zpo o1 o2 (s1:=.s 1000000 0) (y:=.s 1000000 2) (g1:=0) (g2:=0) (by simp) hw hc (by omega)
  have hN2:(O7 st [P4 (Zag n),(lmV n,Y3 n)]).2=st.2+T4 [P4 (Zag n),(lmV n,Y3 n)]:=by rw [Zfd]
  have two:∀ y2,Site.s 1000000 0≠y2→∃ p' h' c' z g',WrI p' h' c' (O7 st (Zlk n far))∧c' < 8∧Zk5 y2 z 0 g'∧S E F.J9 (.ref (.up (.s 1000000 0)) 0 0::[.int .i64 far]) [(.up (.s 1000000 0),⟨0,true,true,true,[.buf (.up y2) 0 0 p1.length 1,.int .u32 (h1:Nat),.int .i64 (k1:Nat)]⟩),(.up y2,⟨0,true,true,false,A0 p1⟩)]=some (.tup [],[(.up (.s 1000000 0),⟨0,true,true,true,[.buf z g' 0 p'.length 1,.int .u32 (h':Nat),.int .i64 (c':Nat)]⟩),(z,⟨g',true,true,false,A0 p'⟩)]):=by
    intro y2 hy
    rw [hsp,Zdd]
    exact Zpp o4 o6 (s1:=.s 1000000 0) (y:=y2) (g1:=0) (g2:=0) hy b1 b2 (by rw [hN2];omega)
  have nt:∀ (q2:List UInt8) (h2 k2:Nat),∃ ks' vs' pr',MapF p (i+n) ks' vs'∧PrevF p (i+n) pr'∧X E [.tmp 2] (.c L.A3.x1::.lp [0,3,4,5,47,48] L.A3.x1::.blk 2::.blk 1::.lp [0,3,4,5] L.A3.x0::.blk 0::[.c L.A3.r0]) ⟨[(0,.lst (A0 p) p.length),(3,.ref (.s 1000000 0) 0 0),(4,.ref (.s 1000000 1) 0 0),(5,.int .i64 i),(47,.int .i64 n),(48,.int .i64 0)],[(.s 1000000 0,⟨0,true,true,true,[.buf (.s 1000000 2) 0 0 (q2).length 1,.int .u32 h2,.int .i64 k2]⟩),(.s 1000000 1,⟨0,true,true,true,[.lst (A0 p) p.length,.mpr (.s 1000000 3) 0,.buf (.s 1000000 4) 0 0 p.length 1]⟩),(.s 1000000 2,⟨0,true,true,false,A0 (q2)⟩),(.s 1000000 3,⟨0,true,true,true,[.mp (H0 .u32 ks) (B7 vs)]⟩),(.s 1000000 4,⟨0,true,true,false,B7 (pr)⟩)]⟩=X E [.tmp 2] (.blk 1::.lp [0,3,4,5] L.A3.x0::.blk 0::[.c L.A3.r0]) ⟨[(0,.lst (A0 p) p.length),(3,.ref (.s 1000000 0) 0 0),(4,.ref (.s 1000000 1) 0 0),(5,.int .i64 ((i:Int)+n)),(47,.int .i64 n),(48,.int .i64 n),(49,.bool false)],[(.s 1000000 0,⟨0,true,true,true,[.buf (.s 1000000 2) 0 0 (q2).length 1,.int .u32 h2,.int .i64 k2]⟩),(.s 1000000 1,⟨0,true,true,true,[.lst (A0 p) p.length,.mpr (.s 1000000 3) 0,.buf (.s 1000000 4) 0 0 p.length 1]⟩),(.s 1000000 2,⟨0,true,true,false,A0 (q2)⟩),(.s 1000000 3,⟨0,true,true,true,[.mp (H0 .u32 ks') (B7 vs')]⟩),(.s 1000000 4,⟨0,true,true,false,B7 (pr')⟩)]⟩:=by
    intro q2 h2 k2
    obtain ⟨ks',vs',pr',d1,d2,d3⟩:=Yaj (q:=q2) hp h2 k2 (.blk 1::.lp [0,3,4,5] L.A3.x0::.blk 0::[.c L.A3.r0]) n o2 n i 0 ks vs pr (by omega) o3 hm hr
    simp only [Yhy,Yhz] at d3
    exact ⟨ks',vs',pr',d1,d2,d3⟩
  have hn0:¬ (n:Int)=0:=by omega
  rcases m1 with ⟨rfl,rfl⟩|⟨rfl,rfl⟩
  · obtain ⟨p2,h2,k2,z2,u2,b3,b4,m2,c2⟩:=two (.s 1000000 2) (by simp)
    obtain ⟨ks',vs',pr',d1,d2,d3⟩:=nt p2 h2 k2
    have hpl2:=d2.len
    refine ⟨p2,h2,k2,ks',vs',pr',b3,b4,d1,d2,?_⟩
    conv=>lhs;rw [K1 L.A3.x0.eq_1]
    rcases m2 with ⟨rfl,rfl⟩|⟨rfl,rfl⟩
    · simp -dsimp (disch:=first|omega|(simp only [B0,A1,Yhv]<;>omega)|fail) only [go_sem,reduceIte,reduceCtorEq,E2,E3,E4,E5,E6,E7,E8,E9,F0,F1,F2,F3,F4,F5,F6,F7,F8,F9,G0,B2,BYs,G5,I0,I1,G6,A1,K2,I2,refsOfs,cm,c1,c2,d3]
    · simp -dsimp (disch:=first|omega|(simp only [B0,A1,Yhv]<;>omega)|fail) only [go_sem,reduceIte,reduceCtorEq,E2,E3,E4,E5,E6,E7,E8,E9,F0,F1,F2,F3,F4,F5,F6,F7,F8,F9,G0,B2,BYs,G5,I0,I1,G6,A1,K2,I2,refsOfs,cm,c1,c2,d3]
  · obtain ⟨p2,h2,k2,z2,u2,b3,b4,m2,c2⟩:=two (.s 43 1) (by simp)
    obtain ⟨ks',vs',pr',d1,d2,d3⟩:=nt p2 h2 k2
    have hpl2:=d2.len
    refine ⟨p2,h2,k2,ks',vs',pr',b3,b4,d1,d2,?_⟩
    conv=>lhs;rw [K1 L.A3.x0.eq_1]
    rcases m2 with ⟨rfl,rfl⟩|⟨rfl,rfl⟩
    · simp -dsimp (disch:=first|omega|(simp only [B0,A1,Yhv]<;>omega)|fail) only [go_sem,reduceIte,reduceCtorEq,E2,E3,E4,E5,E6,E7,E8,E9,F0,F1,F2,F3,F4,F5,F6,F7,F8,F9,G0,B2,BYs,G5,I0,I1,G6,A1,K2,I2,refsOfs,cm,c1,c2,d3]
    · simp -dsimp (disch:=first|omega|(simp only [B0,A1,Yhv]<;>omega)|fail) only [go_sem,reduceIte,reduceCtorEq,E2,E3,E4,E5,E6,E7,E8,E9,F0,F1,F2,F3,F4,F5,F6,F7,F8,F9,G0,B2,BYs,G5,I0,I1,G6,A1,K2,I2,refsOfs,cm,c1,c2,d3]
end Cod
namespace Cod
open Go
theorem Yez {p:List UInt8} (hp:p.length≤1048576):∀ (m i:Nat) (q:List UInt8) (h c:Nat) (st:Bst) (ks:List Nat) (vs pr:List Int),p.length≤i+m→i≤p.length→WrI q h c st→c<8→st.2≤10+40*i→MapF p i ks vs→PrevF p i pr →
    X E [.tmp 2] (.c L.A3.x0::.lp [0,3,4,5] L.A3.x0::.blk 0::[.c L.A3.r0]) ⟨[(0,.lst (A0 p) p.length),(3,.ref (.s 1000000 0) 0 0),(4,.ref (.s 1000000 1) 0 0),(5,.int .i64 i)],[(.s 1000000 0,⟨0,true,true,true,[.buf (.s 1000000 2) 0 0 (q).length 1,.int .u32 h,.int .i64 c]⟩),(.s 1000000 1,⟨0,true,true,true,[.lst (A0 p) p.length,.mpr (.s 1000000 3) 0,.buf (.s 1000000 4) 0 0 p.length 1]⟩),(.s 1000000 2,⟨0,true,true,false,A0 (q)⟩),(.s 1000000 3,⟨0,true,true,true,[.mp (H0 .u32 ks) (B7 vs)]⟩),(.s 1000000 4,⟨0,true,true,false,B7 (pr)⟩)]⟩=some (Zk6 (Zic (O7 st (Zdr p m i++[P4 256])))):=by
  intro m
  induction m with
  | zero =>
    intro i q h c st ks vs pr h1 h2 hw hc hN hm hr
    exact Yal hp hw hc (by omega) (by omega) (by omega) hr.len
  | succ m ih =>
    intro i q h c st ks vs pr h1 h2 hw hc hN hm hr
    by_cases hi:i<p.length
    · have hfx:Zdr p (m+1) i=if (Zax p i).1=0 then P4 p[i].toNat::Zdr p m (i+1) else Zlk (Zax p i).1 (Zax p i).2++Zdr p m (i+(Zax p i).1):=by rw [Zdr,dif_pos hi]
      by_cases hz:(Zax p i).1=0
      · rw [if_pos hz] at hfx
        obtain ⟨q',h',c',ks',vs',pr',b1,b2,b3,b4,e1⟩:=fx_lit hp hw hc (by omega) hi hm hr hz
        have hN2:(O7 st [P4 p[i].toNat]).2=st.2+T4 [P4 p[i].toNat]:=by rw [Zfd]
        have hs:=Zde p[i].toNat
        have hl:T4 [P4 p[i].toNat]≤9:=by simp only [T4];exact hs
        have g:=ih (i+1) q' h' c' _ ks' vs' pr' (by omega) (by omega) b1 b2 (by omega) b3 b4
        rw [←Zdd] at g
        simp only [Yhy,Yhz] at g e1
        rw [e1,g,hfx]
        rfl
      · rw [if_neg hz] at hfx
        have hmat:=(Zyo p i hi).resolve_left hz
        obtain ⟨q',h',c',ks',vs',pr',b1,b2,b3,b4,e1⟩:=fx_mat hp hw hc (by omega) hi hm hr (n:=(Zax p i).1) (far:=(Zax p i).2) rfl hmat
        generalize (Zax p i).1=n at *
        generalize (Zax p i).2=far at *
        have hN2:(O7 st (Zlk n far)).2=st.2+T4 (Zlk n far):=by rw [Zfd]
        have hl:=Zk7 hmat
        obtain ⟨o1,o2,o3,_⟩:=hmat
        have g:=ih (i+n) q' h' c' _ ks' vs' pr' (by omega) (by omega) b1 b2 (by omega) b3 b4
        rw [←Zdd] at g
        simp only [Yhy,Yhz] at g e1
        rw [e1,g,hfx,Yga]
    · have hfx:Zdr p (m+1) i=[]:=by rw [Zdr,dif_neg hi]
      rw [hfx]
      exact Yal hp hw hc (by omega) (by omega) (by omega) hr.len
theorem rep_i6 (n:Nat):rep [.int .i64 0] n=B7 (List.replicate n 0):=by
  induction n with
  | zero=>rfl
  | succ n ih=>rw [rep,ih,List.replicate_succ];rfl
theorem Zs7:WrI [] 3 3 (O7 (0,0) [(1,1),(1,2)]):=⟨rfl,rfl,by decide⟩
theorem Z3a (p:List UInt8):PrevF p 0 (List.replicate p.length 0):=⟨List.length_replicate,fun j h=>by omega⟩
theorem Yan {p:List UInt8} (hp:p.length≤1048576):S E F.A3 [.lst (A0 p) p.length] []=some (Zk6 (Zid p)):=by
  have w0:WrI [] 0 0 (0,0):=⟨rfl,rfl,by decide⟩
  have c0:=(Zi6 (s1:=.s 9 0) (g1:=0) w0 (by omega) (v:=3) (n:=3) (by omega) (by omega) (by simp)).1 (by omega)
  simp only [Ygc,Nat.pow_zero,Nat.mul_one,Yhz] at c0
  have hpr:=Z3a p
  have hpl:=hpr.len
  have hfix:Zid p=Zic (O7 (O7 (0,0) [(1,1),(1,2)]) (Zdr p p.length 0++[P4 256])):=rfl
  have hm:∀ x:Int,(if x<65535 then x else x)=x:=fun x=>by split<;>rfl
  have t1:((p.length:Int)).toNat=p.length:=rfl
  have key:X E [.tmp 2] (.c L.A3.x0::.lp [0,3,4,5] L.A3.x0::.blk 0::[.c L.A3.r0]) ⟨[(0,.lst (A0 p) p.length),(3,.ref (.s 1000000 0) 0 0),(4,.ref (.s 1000000 1) 0 0),(5,.int .i64 0)],[(.s 1000000 0,⟨0,true,true,true,[.nils,.int .u32 3,.int .i64 3]⟩),(.s 1000000 1,⟨0,true,true,true,[.lst (A0 p) p.length,.mpr (.s 1000000 2) 0,.buf (.s 1000000 3) 0 0 p.length 1]⟩),(.s 1000000 2,⟨0,true,true,true,[.mp (H0 .u32 []) (B7 [])]⟩),(.s 1000000 3,⟨0,true,true,false,B7 ((List.replicate p.length 0))⟩)]⟩=some (Zk6 (Zid p)):=by
    rw [hfix]
    by_cases h0:0<p.length
    · obtain ⟨q',h',c',ks',vs',pr',b1,b2,b3,b4,e1⟩:=Yam hp Zs7 h0 (MapF.zero p) hpr
      simp only [Yhz] at e1
      have hs:=Zde p[0].toNat
      have hN2:(O7 (O7 (0,0) [(1,1),(1,2)]) [P4 p[0].toNat]).2≤12:=by
        rw [Z93];simp only [List.map_cons,List.map_nil,List.sum_cons,List.sum_nil]
        show 3+_≤_;omega
      have hfx:Zdr p p.length 0=P4 p[0].toNat::Zdr p (p.length-1) 1:=by
        obtain ⟨n,hn⟩:∃ n,p.length=n+1:=⟨p.length-1,by omega⟩
        rw [hn,Zdr,dif_pos h0,if_pos (show (Zax p 0).1=0 from rfl)]
        rfl
      have g:=Yez hp (p.length-1) 1 q' h' c' _ ks' vs' pr' (by omega) (by omega) b1 b2 (by omega) b3 b4
      rw [←Zdd] at g
      simp only [Yhz] at g
      rw [e1,g,hfx]
      rfl
    · obtain rfl:p=[]:=List.length_eq_zero_iff.1 (by omega)
      obtain ⟨p1,h1,k1,b1,b2,c1⟩:=Zhq (s:=256) (by omega) (s1:=.s 1000000 0) (g1:=0) Zs7
      have hN2:(O7 (O7 (0,0) [(1,1),(1,2)]) [P4 256]).2=10:=rfl
      have hl1:=b1.len
      have hq:(8:Int)-(k1:Nat)=((8-k1:Nat):Int):=by omega
      have hq2:((8-k1:Nat):Int)%8=(((8-k1)%8:Nat):Int):=by omega
      obtain ⟨p',h',c',z,g',a1,a2,a3,a4⟩:=Zaz (v:=0) (n:=(8-k1)%8) (Nat.pow_pos (by omega)) (by omega) (s1:=.s 1000000 0) (y:=.s 57 1) (g1:=0) (g2:=0) (by simp) b1 b2 (by rw [hN2];simp only [T4];omega)
      have hpad:=Zs6 (V:=(O7 (O7 (0,0) [(1,1),(1,2)]) [P4 256]).1) (N:=(O7 (O7 (0,0) [(1,1),(1,2)]) [P4 256]).2) ((8-k1)%8) (by omega)
      have e2:p'=Zic (O7 (O7 (0,0) [(1,1),(1,2)]) [P4 256]):=by
        rw [←hpad]
        exact Yak (V:=(Zc0 (O7 (O7 (0,0) [(1,1),(1,2)]) [P4 256]) 0 ((8-k1)%8)).1) (N:=(Zc0 (O7 (O7 (0,0) [(1,1),(1,2)]) [P4 256]) 0 ((8-k1)%8)).2) a1 a2 (by simp only [Zc0];omega)
      have hfx:Zdr [] ([]:List UInt8).length 0++[P4 256]=[P4 256]:=rfl
      rw [hfx,←e2]
      simp only [Yhz] at c1 a4
      unfold Zk6
      rw [K1 L.A3.x0.eq_1]
      rcases a3 with ⟨rfl,rfl⟩|⟨rfl,rfl⟩
      · simp -dsimp (disch:=first|omega|(simp only [B0,A1,Yhv]<;>omega)|fail) only [go_sem,reduceIte,reduceCtorEq,E2,E3,E4,E5,E6,E7,E8,E9,F0,F1,F2,F3,F4,F5,F6,F7,F8,F9,G0,B2,BYs,G5,I0,I1,G6,A1,K2,I2,L.A3.r0,refsOfs,hq,hq2,c1,a4,Ygy]
      · simp -dsimp (disch:=first|omega|(simp only [B0,A1,Yhv]<;>omega)|fail) only [go_sem,reduceIte,reduceCtorEq,E2,E3,E4,E5,E6,E7,E8,E9,F0,F1,F2,F3,F4,F5,F6,F7,F8,F9,G0,B2,BYs,G5,I0,I1,G6,A1,K2,I2,L.A3.r0,refsOfs,hq,hq2,c1,a4,Ygy]
  rw [←key,L4 Zob rfl rfl]
  have i0:B7 []=[]:=rfl
  have n0:H0 .u32 []=[]:=rfl
  simp -dsimp (disch:=first|omega|(simp only [B0,A1,Yhv]<;>omega)|fail) only [L.A3,go_sem,reduceIte,reduceCtorEq,E2,E3,E4,E5,E6,E7,E8,E9,F0,F1,F2,F3,F4,F5,F6,F7,F8,F9,G0,B2,BYs,G5,I0,I1,G6,A1,K2,I2,refsOfs,c0,rep_i6,t1,i0,n0]
end Cod
namespace Cod
open Go
theorem Yao:∀ (k:Nat) (p q:List UInt8),p.length≤65535*(k+1)→p.length≤1048576→q.length+2*p.length+5*k≤10000000→X E [.tmp 2] (.c L.I5.x0::.lp [0,3] L.I5.x0::.blk 0::[]) ⟨[(0,.lst (A0 p) p.length),(3,.buf (.s 1000000 0) 0 0 q.length 1)],[(.s 1000000 0,⟨0,true,true,false,A0 q⟩)]⟩=some (Zk6 (q++Zcu k p)):=by
  have hend:∀ (p q:List UInt8),p.length≤65535→q.length≤10000000→X E [.tmp 2] (.c L.I5.x0::.lp [0,3] L.I5.x0::.blk 0::[]) ⟨[(0,.lst (A0 p) p.length),(3,.buf (.s 1000000 0) 0 0 q.length 1)],[(.s 1000000 0,⟨0,true,true,false,A0 q⟩)]⟩=some (Zk6 (q++(Zc1 1 p.length++p))):=by
    intro p q h1 h2
    have e:=Z98 h1
    have e2:(Zc1 1 p.length).length=5:=rfl
    have e3:(q++(Zc1 1 p.length++p)).length=q.length+5+p.length:=by simp only [Yf9,e2];omega
    have hm:(if (65535:Int)<(p.length:Int) then (65535:Int) else p.length)=p.length:=if_neg (by omega)
    unfold Zk6
    rw [K1 L.I5.x0.eq_1,e3]
    simp -dsimp (disch:=first|omega|(simp only [B0]<;>omega)|fail) only [go_sem,reduceIte,reduceCtorEq,E2,E3,E4,E5,E6,E7,E8,E9,F0,F1,F2,F3,F4,F5,F6,F7,F8,F9,G0,B2,BYs,hm,shr8,e,e2,Nat.sub_zero,Ydy,Yga]
  intro k
  induction k with
  | zero=>intro p q h1 h2 h3;exact hend p q (by omega) (by omega)
  | succ k ih =>
    intro p q h1 h2 h3
    by_cases hs:p.length≤65535
    · have e:Zcu (k+1) p=Zc1 1 p.length++p:=if_pos hs
      rw [e]
      exact hend p q hs (by omega)
    · have e:Zcu (k+1) p=Zc1 0 65535++(p.take 65535++Zcu k (p.drop 65535)):=if_neg hs
      obtain ⟨B,hB⟩:∃ B:Nat,B=65535:=⟨_,rfl⟩
      have hm:(if (65535:Int)<(p.length:Int) then (65535:Int) else p.length)=(B:Int):=by rw [if_pos (by omega)];omega
      have h1':(p.drop B).length≤B*(k+1):=by rw [Yfr,hB];omega
      rw [←hB] at e h1 hs ih
      have e2:(Zc1 0 B).length=5:=rfl
      have hd:=Zyu (last:=0) (n:=B) (by omega) (by omega)
      simp only [Yhz] at hd
      have g:=ih (p.drop B) (q++(Zc1 0 B++p.take B)) h1' (by rw [Yfr];omega) (by rw [Yfr,Yf9,Yf9,e2,Yfq];omega)
      have e4:(q++(Zc1 0 B++p.take B)).length=q.length+5+B:=by simp only [Yf9,e2,Yfq];omega
      rw [e4,Yfr] at g
      have e5:sub p B (p.length-B)=p.drop B:=C2 (by omega)
      have e6:sub p 0 B=p.take B:=rfl
      have e7:(p.take B).length=B:=by rw [Yfq];omega
      rw [e]
      rw [show q++(Zc1 0 B++(p.take B++Zcu k (p.drop B)))=q++(Zc1 0 B++p.take B)++Zcu k (p.drop B) by simp only [Yga],←g]
      conv=>lhs;rw [K1 L.I5.x0.eq_1]
      simp -dsimp (disch:=first|omega|(simp only [B0]<;>omega)|fail) only [go_sem,reduceIte,reduceCtorEq,E2,E3,E4,E5,E6,E7,E8,E9,F0,F1,F2,F3,F4,F5,F6,F7,F8,F9,G0,B2,BYs,hm,shr8,hd,e2,e5,e6,e7,Nat.sub_zero,Yga]
theorem Z3b {p:List UInt8} (hp:p.length≤1048576):S E F.I5 [.lst (A0 p) p.length] []=some (Zk6 (Zll p)):=by
  have g:=Yao 20 p [] (by omega) hp (by simp only [Ygy];omega)
  rw [Z27 20 (by omega),List.nil_append,show A0 []=[] from rfl,Ygy] at g
  rw [L4 Zoa rfl rfl]
  simp -dsimp (disch:=first|omega|(simp only [B0]<;>omega)|fail) only [L.I5,go_sem,reduceIte,reduceCtorEq,E2,E3,E4,E5,E6,E7,E8,E9,F0,F1,F2,F3,F4,F5,F6,F7,F8,F9,G0,B2,BYs,g]
end Cod
namespace Cod
open Go
def Zw5 (p:List UInt8):AV × A2:=(.tup [.buf (.r 0) 0 0 p.length 1,.int .i64 0],[(.r 0,⟨0,true,true,false,A0 p⟩)])
def Zw6 (e:Int):AV × A2:=(.tup [.buf (.r 0) 0 0 0 1,.int .i64 e],[(.r 0,⟨0,true,true,false,[]⟩)])
theorem max0 {n:Nat}:(if (0:Int)<(n:Int)-1 then (n:Int)-1 else 0)=((n-1:Nat):Int):=by split<;>omega
theorem Zpr {p:List UInt8} {w:Int} (hw:0≤w∧w≤2) (hp:1048576<p.length):S E F.K5 [.lst (A0 p) p.length,.int .i64 w] []=some (Zw6 2):=by
  unfold Zw6
  have h:¬ w<0:=by omega
  have h2:¬ 2<w:=by omega
  rw [L4 Zg0 rfl rfl]
  simp -dsimp (disch:=first|omega|(simp only [B0]<;>omega)|fail) only [L.K5,go_sem,reduceIte,reduceCtorEq,E2,E3,E4,E5,E6,E7,E8,E9,F0,F1,F2,F3,F4,F5,F6,F7,F8,F9,G0,B2,h,h2]
theorem Zw7 {p:List UInt8} (hp:p.length≤1048576) {w:Nat} (hw:w≤2):S E F.K5 [.lst (A0 p) p.length,.int .i64 w] []=some (Zw5 (Zhn p w)):=by
  have c1:=Z3b hp
  have c2:=Yan hp
  have hl:=Zi5 p
  have hf:=Zyv (p:=p)
  have m0:=max0 (n:=p.length)
  have q1:(((p.length-1:Nat):Int)).tdiv 65535=(((p.length-1)/65535:Nat):Int):=by rw [Int.tdiv_eq_ediv_of_nonneg (by omega)];rfl
  have h0:¬ (w:Int)<0:=by omega
  have h2:¬ 2<(w:Int):=by omega
  unfold Zk6 at c1 c2
  unfold Zw5
  rw [L4 Zg0 rfl rfl]
  by_cases hz:w=0
  · subst hz
    have e:Zhn p 0=Zll p:=if_pos rfl
    rw [e]
    simp only [Yhz]
    simp -dsimp (disch:=first|omega|(simp only [B0]<;>omega)|fail) only [L.K5,go_sem,reduceIte,reduceCtorEq,E2,E3,E4,E5,E6,E7,E8,E9,F0,F1,F2,F3,F4,F5,F6,F7,F8,F9,G0,B2,BYs,c1]
  · have hz':¬ (w:Int)=0:=by omega
    by_cases h3:w=2
    · subst h3
      by_cases hs:(Zll p).length≤(Zid p).length
      · have e:Zhn p 2=Zll p:=by unfold Zhn;rw [if_neg (by omega),if_pos ⟨rfl,hs⟩]
        have hs2:(p.length:Int)+5+5*(((p.length-1)/65535:Nat):Int)≤((Zid p).length:Nat):=by omega
        rw [e]
        simp only [Yhz]
        simp -dsimp (disch:=first|omega|(simp only [B0]<;>omega)|fail) only [L.K5,go_sem,reduceIte,reduceCtorEq,E2,E3,E4,E5,E6,E7,E8,E9,F0,F1,F2,F3,F4,F5,F6,F7,F8,F9,G0,B2,BYs,c1,c2,m0,q1,hs2]
      · have e:Zhn p 2=Zid p:=by unfold Zhn;rw [if_neg (by omega),if_neg (by omega)]
        have hs2:¬ (p.length:Int)+5+5*(((p.length-1)/65535:Nat):Int)≤((Zid p).length:Nat):=by omega
        rw [e]
        simp only [Yhz]
        simp -dsimp (disch:=first|omega|(simp only [B0]<;>omega)|fail) only [L.K5,go_sem,reduceIte,reduceCtorEq,E2,E3,E4,E5,E6,E7,E8,E9,F0,F1,F2,F3,F4,F5,F6,F7,F8,F9,G0,B2,BYs,c1,c2,m0,q1,hs2]
    · obtain rfl:w=1:=by omega
      have e:Zhn p 1=Zid p:=by unfold Zhn;rw [if_neg (by omega),if_neg (by omega)]
      rw [e]
      simp only [Yhz]
      simp -dsimp (disch:=first|omega|(simp only [B0]<;>omega)|fail) only [L.K5,go_sem,reduceIte,reduceCtorEq,E2,E3,E4,E5,E6,E7,E8,E9,F0,F1,F2,F3,F4,F5,F6,F7,F8,F9,G0,B2,BYs,c1,c2]
end Cod
namespace Cod
open Go
theorem Zps {p:List UInt8} {w:Int} (hw:0≤w∧w≤2) (hp:1048576<p.length):S E F.P0 [.lst (A0 p) p.length,.int .i64 w] []=some (Zw6 2):=by
  have c:=Zpr hw hp
  unfold Zw6 at c ⊢
  rw [L4 Zgz rfl rfl]
  simp -dsimp (disch:=first|omega|(simp only [B0]<;>omega)|fail) only [L.P0,go_sem,reduceIte,reduceCtorEq,E2,E3,E4,E5,E6,E7,E8,E9,F0,F1,F2,F3,F4,F5,F6,F7,F8,F9,G0,B2,BYs,c]
theorem Yap {k:Int} {p:List UInt8} (h:Zjc k p.length=0):S E F.U0 [.agg [.int .i64 k,.lst (A0 p) p.length]] []=some (Zw5 (Zib k p.length++p)):=by
  obtain ⟨e1,e2⟩:=Zgc h
  have h2:=Zmm (k:=k) (n:=p.length) (by omega) (by omega)
  unfold hdrV at h2
  rw [if_pos e1] at h2
  have hl:=Zst (k:=k) (n:=p.length) (by omega) (by omega)
  have h0:=Zkz k p.length
  unfold Zw5
  generalize Zib k p.length=t at *
  have h3:=Zky (a:=t) (b:=p) h0 (by omega) (by omega)
  rw [L4 Zn1 rfl rfl]
  simp -dsimp (disch:=first|omega|(simp only [B0]<;>omega)|fail) only [L.U0,go_sem,reduceIte,reduceCtorEq,E2,E3,E4,E5,E6,E7,E8,E9,F0,F1,F2,F3,F4,F5,F6,F7,F8,F9,G0,B2,BYs,h2,h3]
theorem Zpt {k:Int} {p:List UInt8} (h:Zjc k p.length=0) (hp:1048576<(Zib k p.length++p).length):S E F.T3 [.agg [.int .i64 k,.lst (A0 p) p.length]] []=some (Zw6 2):=by
  obtain ⟨e1,e2⟩:=Zgc h
  have h1:=go_oid (k:=k) (p:=p) rfl (by omega)
  have h2:=Yap h
  have h3:=Zps (p:=Zib k p.length++p) (w:=2) (by omega) hp
  have hid:(idF k p).length=32:=by
    unfold idF
    split
    · exact Zss _
    · rfl
  unfold idV at h1
  rw [h] at h1
  unfold Zw5 at h2
  unfold Zw6 at h3 ⊢
  generalize Zib k p.length++p=q at *
  rw [L4 Znw rfl rfl]
  simp -dsimp (disch:=first|omega|(simp only [B0]<;>omega)|fail) only [L.T3,go_sem,reduceIte,reduceCtorEq,E2,E3,E4,E5,E6,E7,E8,E9,F0,F1,F2,F3,F4,F5,F6,F7,F8,F9,G0,B2,BYs,h1,h2,h3]
end Cod
namespace Cod
open Go
structure More (E E':Env):Prop where
  glob:E'.glob=E.glob
  fn:E'.fn=E.fn
  known:∀ f,E'.known f=E.known f∨∃ h,E'.known f=some h∧∀ a σ r,h a σ=some r→S E f a σ=some r
theorem Z3c {E E':Env} (h:More E E'):∀ n,(∀ fn k st r,Y8 E' n fn k st=some r→X E fn k st=some r)∧LeC (acall E' n) (S E):=by
  intro n
  induction n with
  | zero=>exact ⟨fun fn k st r h=>by simp [Y8] at h,fun f a σ r h=>by simp [acall] at h⟩
  | succ n ih =>
    obtain ⟨ih1,ih2⟩:=ih
    constructor
    · intro fn k st r hx
      rw [Y8,Zkt h.glob] at hx
      rw [Zen]
      cases hm:move E (acall E' n) st k with
      | go k' st'=>rw [hm] at hx;rw [V3 ih2 (by simp) hm];exact ih1 _ _ _ _ hx
      | done=>rw [hm] at hx;rw [V3 ih2 (by simp) hm];exact hx
      | stuck=>rw [hm] at hx;cases hx
    · intro f a σ r hx
      rw [acall] at hx
      rcases h.known f with hk|⟨g,hk,hg⟩
      · rw [S_eq]
        cases hk':E.known f with
        | some g=>rw [hk,hk'] at hx;exact hx
        | none =>
          rw [hk,hk',h.fn] at hx
          cases hf:E.fn f with
          | none=>rw [hf] at hx;cases hx
          | some fn =>
            rw [hf] at hx;simp only [] at hx ⊢
            cases hb:(a.length==fn.np)<;>rw [hb] at hx<;>simp only [cond_true,cond_false] at hx ⊢
            · cases hx
            · exact ih1 _ _ _ _ hx
      · rw [hk] at hx;exact hg _ _ _ hx
def runM (E':Env) (fuel:Nat):Nat→List It→St→Option (List It × St)
  | 0,k,st=>some (k,st)
  | m+1,k,st=>match move E' (acall E' fuel) st k with|.go k' st'=>runM E' fuel m k' st'|_=>none
theorem Zw8 {E E':Env} (h:More E E') {fuel:Nat}:∀ {m:Nat} {k k':List It} {st st':St},runM E' fuel m k st=some (k',st')→∀ fn,X E fn k st=X E fn k' st':=by
  intro m
  induction m with
  | zero=>intro k k' st st' hx fn;cases hx;rfl
  | succ m ih =>
    intro k k' st st' hx fn
    rw [runM,Zkt h.glob] at hx
    cases hm:move E (acall E' fuel) st k with
    | go k1 st1 =>
      rw [hm] at hx
      rw [Zen,V3 (Z3c h fuel).2 (by simp) hm]
      exact ih hx fn
    | done=>rw [hm] at hx;cases hx
    | stuck=>rw [hm] at hx;cases hx
end Cod
namespace Cod
open Go
def adS (p:List UInt8):Nat→Nat × Nat
  | 0=>(1,0)
  | i+1=>(((adS p i).1+(p.getD i 0).toNat)%65521,((adS p i).2+((adS p i).1+(p.getD i 0).toNat)%65521)%65521)
def Zjd (p:List UInt8):Nat:=(adS p p.length).2*65536+(adS p p.length).1
theorem adS_lt (p:List UInt8) (i:Nat):(adS p i).1<65521∧(adS p i).2<65521:=by
  cases i with
  | zero=>exact ⟨(by decide:1<65521),(by decide:0<65521)⟩
  | succ i=>exact ⟨Nat.mod_lt _ (by omega),Nat.mod_lt _ (by omega)⟩
theorem Ye0 (p:List UInt8):Zjd p<4294967296:=by have:=adS_lt p p.length;unfold Zjd;omega
theorem ishl32 {a:Nat} (h:a<65536):Zcy .u32 (a:Int) 16=((a*65536:Nat):Int):=by
  unfold Zcy
  show IntKind.u32.wrap ((a:Int)*2^16)=_
  rw [Zeg];omega
theorem ior32 {a b:Nat} (ha:a<65536) (hb:b<65536):ior .u32 ((b*65536:Nat):Int) (a:Int)=((b*65536+a:Nat):Int):=by
  unfold ior
  rw [Yic,Yic,BitVec.toNat_or,Yid,Yid]
  simp only [IntKind.bits]
  rw [Yie (by omega),Yie (by omega),Zeg,show b*65536=2^16*b by omega,←Nat.two_pow_add_eq_or_of_lt (by omega)]
  omega
theorem Yaq {p:List UInt8} (hp:p.length≤4000000000000000000):∀ (m i a b:Nat),i+m=p.length→adS p i=(a%65521,b%65521)→a≤65521+255*(i%2000)→b≤65521+600000*(i%2000) →
    X E [.tmp 2] (.c L.I3.x0::.lp [3,4,7,8,9] L.I3.x0::.blk 0::[.c L.I3.r0]) ⟨[(3,.int .i64 a),(4,.int .i64 b),(7,.lst (A0 p) p.length),(8,.int .i64 p.length),(9,.int .i64 i)],[]⟩=some (.int .u32 (Zjd p:Nat),[]):=by
  intro m
  induction m with
  | zero =>
    intro i a b h e h1 h2
    have hf:Zjd p=(b%65521)*65536+a%65521:=by unfold Zjd;rw [show p.length=i by omega,e]
    have m1:(a:Int)%65521=((a%65521:Nat):Int):=by omega
    have m2:(b:Int)%65521=((b%65521:Nat):Int):=by omega
    have s1:=ishl32 (a:=b%65521) (by omega)
    have s2:=ior32 (a:=a%65521) (b:=b%65521) (by omega) (by omega)
    rw [←hf] at s2
    have h3:a%65521<65521:=by omega
    have h4:b%65521<65521:=by omega
    generalize hx:a%65521=x at *
    generalize hy:b%65521=y at *
    rw [K1 L.I3.x0.eq_1]
    simp -dsimp (disch:=first|omega|(simp only [B0]<;>omega)|fail) only [go_sem,reduceIte,reduceCtorEq,E2,E3,E4,E5,E6,E7,E8,E9,F0,F1,F2,F3,F4,F5,F6,F7,F8,F9,G0,B2,BYs,L.I3.r0,m1,m2,s1,s2]
  | succ m ih =>
    intro i a b h e h1 h2
    have hi:i<p.length:=by omega
    have hb:=(p.getD i 0).toNat_lt
    have e2:bat p i=(p.getD i 0).toNat:=rfl
    have e3:adS p (i+1)=((a+(p.getD i 0).toNat)%65521,(b+(a+(p.getD i 0).toNat))%65521):=by
      rw [adS,e]
      simp only [Prod.mk.injEq]
      constructor<;>omega
    have e4:(i:Int)%2000=((i%2000:Nat):Int):=by omega
    by_cases ht:i%2000=1999
    · have g:=ih (i+1) ((a+(p.getD i 0).toNat)%65521) ((b+(a+(p.getD i 0).toNat))%65521) (by omega) (by rw [e3,Nat.mod_mod,Nat.mod_mod]) (by omega) (by omega)
      generalize (p.getD i 0).toNat=v at *
      simp only [Yhy,Yio,Yhz] at g
      have e5:(i:Int)%2000=1999:=by omega
      rw [K1 L.I3.x0.eq_1]
      simp -dsimp (disch:=first|omega|(simp only [B0]<;>omega)|fail) only [go_sem,reduceIte,reduceCtorEq,E2,E3,E4,E5,E6,E7,E8,E9,F0,F1,F2,F3,F4,F5,F6,F7,F8,F9,G0,B2,BYs,e2,e5,g]
    · have g:=ih (i+1) (a+(p.getD i 0).toNat) (b+(a+(p.getD i 0).toNat)) (by omega) e3 (by omega) (by omega)
      generalize (p.getD i 0).toNat=v at *
      simp only [Yhy,Yhz] at g
      have e5:¬ (i:Int)%2000=1999:=by omega
      rw [K1 L.I3.x0.eq_1]
      simp -dsimp (disch:=first|omega|(simp only [B0]<;>omega)|fail) only [go_sem,reduceIte,reduceCtorEq,E2,E3,E4,E5,E6,E7,E8,E9,F0,F1,F2,F3,F4,F5,F6,F7,F8,F9,G0,B2,BYs,e2,e5,g]
theorem Zs8 (p:List UInt8) (hp:p.length≤4000000000000000000):S E F.I3 [.lst (A0 p) p.length] []=some (.int .u32 (Zjd p:Nat),[]):=by
  have g:=Yaq hp p.length 0 1 0 (by omega) rfl (by omega) (by omega)
  simp only [Yhz] at g
  rw [L4 Zn2 rfl rfl]
  simp -dsimp (disch:=first|omega|(simp only [B0]<;>omega)|fail) only [L.I3,go_sem,reduceIte,reduceCtorEq,E2,E3,E4,E5,E6,E7,E8,E9,F0,F1,F2,F3,F4,F5,F6,F7,F8,F9,G0,B2,BYs,g]
end Cod
namespace Cod
open Go
end Cod
namespace Cod
open Go
def Zw9 {α:Type} (n:Nat) (k:Nat → α) : α:=match n with|0=>k 0|m+1=>k (m+1)
theorem Zms {α:Type} (n:Nat) (k:Nat → α):Zw9 n k=k n:=by cases n<;>rfl
def Zlb {α:Type}:List UInt8→(List AV→Nat → α) → α
  | [],k=>k [] 0
  | b::r,k=>Zw9 b.toNat fun n=>Zlb r fun cs m=>k (.int .u8 n::cs) (m+1)
theorem Zmt {α:Type}:∀ (l:List UInt8) (k:List AV→Nat → α),Zlb l k=k (A0 l) l.length:=by
  intro l
  induction l with
  | nil=>intro k;rfl
  | cons b r ih=>intro k;rw [Zlb,Zms,ih];rfl
def Zy5:List AV→Option (List UInt8)
  | []=>some []
  | .int .u8 n::cs=>if 0≤n∧n<256 then (Zy5 cs).map fun l=>byt n::l else none
  | _::_=>none
theorem Zxa:∀ {cs:List AV} {l:List UInt8},Zy5 cs=some l→cs=A0 l:=by
  intro cs
  induction cs with
  | nil=>intro l h;cases h;rfl
  | cons c cs ih =>
    intro l h
    unfold Zy5 at h
    split at h
    · rename_i he;cases he
    · rename_i n cs' he
      cases he
      split at h
      · rename_i hn
        simp only [Option.map_eq_some_iff] at h
        obtain ⟨l',h1,rfl⟩:=h
        rw [ih h1,Zye hn.1 hn.2];rfl
      · cases h
    · cases h
def onB (most:Nat) (g:List UInt8→AV × A2):List AV→A2→Option (AV × A2)
  | [.lst cs n],[]=>match Zy5 cs with
    | some l=>if l.length=n∧n≤most then some (g l) else none
    | none=>none
  | _,_=>none
theorem Zlc {most:Nat} {g:List UInt8→AV × A2} {a:List AV} {σ:A2} {r:AV × A2} (h:onB most g a σ=some r):∃ l:List UInt8,a=[.lst (A0 l) l.length] ∧ σ=[]∧l.length≤most∧r=g l:=by
  unfold onB at h
  split at h
  · split at h
    · rename_i hl
      split at h
      · rename_i hc
        cases h
        rw [Zxa hl,←hc.1]
        exact ⟨_,rfl,rfl,by omega,rfl⟩
      · cases h
    · cases h
  · cases h
def kSha:List AV→A2→Option (AV × A2):=onB 1000000000000 fun l=>Zlb (Zpj l) fun cs _=>(.agg cs,[])
theorem Ye1 {a:List AV} {σ:A2} {r:AV × A2} (h:kSha a σ=some r):S E F.D1 a σ=some r:=by
  obtain ⟨l,rfl,rfl,h1,rfl⟩:=Zlc h
  rw [Zmt];exact Z90 h1
def kAdl:List AV→A2→Option (AV × A2):=onB 4000000000000000000 fun l=>Zw9 (Zjd l) fun n=>(.int .u32 n,[])
theorem Ye2 {a:List AV} {σ:A2} {r:AV × A2} (h:kAdl a σ=some r):S E F.I3 a σ=some r:=by
  obtain ⟨l,rfl,rfl,h1,rfl⟩:=Zlc h
  rw [Zms];exact Zs8 l h1
end Cod
namespace Cod
open Go
end Cod
namespace Cod
open Go
def be4 (n:Nat):List UInt8:=[UInt8.ofNat (n/16777216),UInt8.ofNat (n/65536),UInt8.ofNat (n/256),UInt8.ofNat n]
def Zmu (p:List UInt8) (w:Nat):List UInt8:=120::1::(Zhn p w++be4 (Zjd p))
theorem Ye3 (p:List UInt8) (w:Nat):(Zhn p w).length≤10+9*p.length:=by
  have h1:=Zyv (p:=p)
  have h2:=Zi5 p
  unfold Zhn
  split
  · omega
  · split<;>omega
theorem be4_av {n:Nat} (h:n<4294967296):[AV.int .u8 (Zcq .u32 (n:Int) 24%256),.int .u8 (Zcq .u32 (n:Int) 16%256),.int .u8 (Zcq .u32 (n:Int) 8%256),.int .u8 ((n:Int)%256)]=A0 (be4 n):=by
  have e1:Zcq .u32 (n:Int) 24=_:=Z1 (k:=.u32) (a:=n) (b:=24) (by decide)
  have e2:Zcq .u32 (n:Int) 16=_:=Z1 (k:=.u32) (a:=n) (b:=16) (by decide)
  have e3:Zcq .u32 (n:Int) 8=_:=Z1 (k:=.u32) (a:=n) (b:=8) (by decide)
  rw [e1,e2,e3]
  simp only [be4,A0,List.map_cons,List.map_nil,UInt8.toNat_ofNat',Yio]
  rfl
theorem Zpu (p:List UInt8) (w:Nat):(Zmu p w).length=(Zhn p w).length+6:=by
  unfold Zmu;rw [Yf0,Yf0,Yf9];rfl
theorem Ye4 {p:List UInt8} (hp:p.length≤1048576) {w:Nat} (hw:w≤2):S E F.P0 [.lst (A0 p) p.length,.int .i64 w] []=some (Zw5 (Zmu p w)):=by
  have c1:=Zw7 hp hw
  have c2:=Zs8 p (by omega)
  have hd:=Ye3 p w
  have hl:=Zpu p w
  have hb:=be4_av (Ye0 p)
  have h4:(be4 (Zjd p)).length=4:=rfl
  have hs:sub (be4 (Zjd p)) 0 4=be4 (Zjd p):=rfl
  have h6:2+(Zhn p w).length+4=(Zmu p w).length:=by omega
  have hc:AV.int .u8 120::.int .u8 1::A0 (Zhn p w++be4 (Zjd p))=A0 (Zmu p w):=rfl
  unfold Zw5 at c1 ⊢
  rw [L4 Zgz rfl rfl]
  simp -dsimp (disch:=first|omega|(simp only [B0]<;>omega)|fail) only [L.P0,go_sem,reduceIte,reduceCtorEq,E2,E3,E4,E5,E6,E7,E8,E9,F0,F1,F2,F3,F4,F5,F6,F7,F8,F9,G0,B2,BYs,c1,c2,hb,h4,hs,h6,hc]
end Cod
namespace Cod
open Go
end Cod
namespace Cod
open Go
structure RdI (p:List UInt8) (a h c pos:Nat):Prop where
  at_:8*a=pos+c
  le:a≤p.length
  held:h=bitsN p pos c
  lt:c<24
end Cod
namespace Cod
open Go
end Cod
